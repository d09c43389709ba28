/-
  DERIVED. GIVEN WITH THE SEED: THE CARDS: each row of YtfkfleojdheffaaDoorRows.lean that lists a variable, with what it lists TIED to the program's text (the seventh form; the later family's looks); each row that meets fmt, with fmt's text TOLD by the authors' own Lean function (tested against real Go, not proved from fmt's source: count such statements apart). THE CARD IS WHAT COUNTS. Prove the row's statement (the work); the ties are given (YtfkfleojdheffaaDoorTie.lean); close each card by the builder's one call (the guide's Derived/Test/ToyasCard.lean, 'card_holds'). Laid BY PROGRAM, IN A SANDBOX (cutbox-door.mjs). By AI agents, Wed Nov 11 2026. No macro, syntax, notation, axiom, sorry.
-/
import Derived.Test.YtfkfleojdheffaaDoorRows
import GoSem.ClaimSeven
namespace Go.Proofs.YtfkfleojdheffaaDoor
namespace Rows

/-- THE TIED CARD OF 'sextonlaw02.GlyphWrites'. -/
def glyphWritesCard : Claim7 := { stood := { row := glyphWritesRow, standIns := [], harness := (true, "c6bbb7cabf96a907cf56f129a81474aa9bd59c428ff99793fa67ae3e746c6df3"), looks := true }, kinds := [], alts := [], laidByText := true, laidKinds := [.data, .data, .data, .data, .sentinel, .sentinel, .sentinel, .sentinel, .pinned], laidTests := true, laidLooks := .later }
def GlyphWritesCardSaid : Prop := Claim7.holds Tryd.pinned (.plain (OpenSpec.ofChange glyphWritesSpec)) glyphWritesCard

/-- THE TIED CARD OF 'sextonlaw02.GlyphBack'. -/
def glyphBackCard : Claim7 := { stood := { row := glyphBackRow, standIns := [], harness := (true, "c6bbb7cabf96a907cf56f129a81474aa9bd59c428ff99793fa67ae3e746c6df3"), looks := true }, kinds := [], alts := [], laidByText := true, laidKinds := [.data, .data, .data, .data, .sentinel, .sentinel, .sentinel, .sentinel, .pinned], laidTests := true, laidLooks := .later }
def GlyphBackCardSaid : Prop := Claim7.holds Tryd.pinned (.plain (OpenSpec.ofChange glyphBackSpec)) glyphBackCard

/-- THE TIED CARD OF 'sextonlaw02.GlyphSame'. -/
def glyphSameCard : Claim7 := { stood := { row := glyphSameRow, standIns := [], harness := (true, "c6bbb7cabf96a907cf56f129a81474aa9bd59c428ff99793fa67ae3e746c6df3"), looks := true }, kinds := [], alts := [], laidByText := true, laidKinds := [.data, .data, .data, .data, .sentinel, .sentinel, .sentinel, .sentinel, .pinned], laidTests := true, laidLooks := .later }
def GlyphSameCardSaid : Prop := Claim7.holds Tryd.pinned (.plain (OpenSpec.ofChange glyphSameSpec)) glyphSameCard

/-- THE TIED CARD OF 'sextonlaw02.GlyphRises'. -/
def glyphRisesCard : Claim7 := { stood := { row := glyphRisesRow, standIns := [], harness := (true, "c6bbb7cabf96a907cf56f129a81474aa9bd59c428ff99793fa67ae3e746c6df3"), looks := true }, kinds := [], alts := [], laidByText := true, laidKinds := [.data, .data, .data, .data, .sentinel, .sentinel, .sentinel, .sentinel, .pinned], laidTests := true, laidLooks := .later }
def GlyphRisesCardSaid : Prop := Claim7.holds Tryd.pinned (.plain (OpenSpec.ofChange glyphRisesSpec)) glyphRisesCard

/-- THE TIED CARD OF 'sextonlaw02.GlyphMoves'. -/
def glyphMovesCard : Claim7 := { stood := { row := glyphMovesRow, standIns := [], harness := (true, "c6bbb7cabf96a907cf56f129a81474aa9bd59c428ff99793fa67ae3e746c6df3"), looks := true }, kinds := [], alts := [], laidByText := true, laidKinds := [.data, .data, .data, .data, .sentinel, .sentinel, .sentinel, .sentinel, .pinned], laidTests := true, laidLooks := .later }
def GlyphMovesCardSaid : Prop := Claim7.holds Tryd.pinned (.plain (OpenSpec.ofChange glyphMovesSpec)) glyphMovesCard

/-- THE SECOND FORM's CARD OF 'sextonlaw02.GlyphWrites'. -/
def glyphWritesUptoCard : Claim7 := { stood := { row := glyphWritesUptoRow, standIns := [], harness := (true, "c6bbb7cabf96a907cf56f129a81474aa9bd59c428ff99793fa67ae3e746c6df3"), looks := true }, kinds := [], alts := [], laidByText := true, laidKinds := [.data, .data, .data, .data, .sentinel, .sentinel, .sentinel, .sentinel, .pinned], laidTests := true, laidLooks := .later }
def GlyphWritesUptoCardSaid : Prop := Claim7.holds Tryd.pinned (.plain (OpenSpec.upto glyphWritesSpec)) glyphWritesUptoCard

/-- THE SECOND FORM's CARD OF 'sextonlaw02.GlyphBack'. -/
def glyphBackUptoCard : Claim7 := { stood := { row := glyphBackUptoRow, standIns := [], harness := (true, "c6bbb7cabf96a907cf56f129a81474aa9bd59c428ff99793fa67ae3e746c6df3"), looks := true }, kinds := [], alts := [], laidByText := true, laidKinds := [.data, .data, .data, .data, .sentinel, .sentinel, .sentinel, .sentinel, .pinned], laidTests := true, laidLooks := .later }
def GlyphBackUptoCardSaid : Prop := Claim7.holds Tryd.pinned (.plain (OpenSpec.upto glyphBackSpec)) glyphBackUptoCard

/-- THE SECOND FORM's CARD OF 'sextonlaw02.GlyphSame'. -/
def glyphSameUptoCard : Claim7 := { stood := { row := glyphSameUptoRow, standIns := [], harness := (true, "c6bbb7cabf96a907cf56f129a81474aa9bd59c428ff99793fa67ae3e746c6df3"), looks := true }, kinds := [], alts := [], laidByText := true, laidKinds := [.data, .data, .data, .data, .sentinel, .sentinel, .sentinel, .sentinel, .pinned], laidTests := true, laidLooks := .later }
def GlyphSameUptoCardSaid : Prop := Claim7.holds Tryd.pinned (.plain (OpenSpec.upto glyphSameSpec)) glyphSameUptoCard

/-- THE SECOND FORM's CARD OF 'sextonlaw02.GlyphRises'. -/
def glyphRisesUptoCard : Claim7 := { stood := { row := glyphRisesUptoRow, standIns := [], harness := (true, "c6bbb7cabf96a907cf56f129a81474aa9bd59c428ff99793fa67ae3e746c6df3"), looks := true }, kinds := [], alts := [], laidByText := true, laidKinds := [.data, .data, .data, .data, .sentinel, .sentinel, .sentinel, .sentinel, .pinned], laidTests := true, laidLooks := .later }
def GlyphRisesUptoCardSaid : Prop := Claim7.holds Tryd.pinned (.plain (OpenSpec.upto glyphRisesSpec)) glyphRisesUptoCard

/-- THE SECOND FORM's CARD OF 'sextonlaw02.GlyphMoves'. -/
def glyphMovesUptoCard : Claim7 := { stood := { row := glyphMovesUptoRow, standIns := [], harness := (true, "c6bbb7cabf96a907cf56f129a81474aa9bd59c428ff99793fa67ae3e746c6df3"), looks := true }, kinds := [], alts := [], laidByText := true, laidKinds := [.data, .data, .data, .data, .sentinel, .sentinel, .sentinel, .sentinel, .pinned], laidTests := true, laidLooks := .later }
def GlyphMovesUptoCardSaid : Prop := Claim7.holds Tryd.pinned (.plain (OpenSpec.upto glyphMovesSpec)) glyphMovesUptoCard
end Rows
end Go.Proofs.YtfkfleojdheffaaDoor
