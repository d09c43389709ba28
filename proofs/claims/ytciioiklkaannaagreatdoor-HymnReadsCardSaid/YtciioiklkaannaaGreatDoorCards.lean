/-
  DERIVED. GIVEN WITH THE SEED: THE CARDS: each row of YtciioiklkaannaaGreatDoorRows.lean that lists a variable, with what it lists TIED to the program's text (the seventh form; the later family's looks); each row that meets fmt, with fmt's text TOLD by the authors' own Lean function (tested against real Go, not proved from fmt's source: count such statements apart). THE CARD IS WHAT COUNTS. Prove the row's statement (the work); the ties are given (YtciioiklkaannaaGreatDoorTie.lean); close each card by the builder's one call (the guide's Derived/Test/ToyasCard.lean, 'card_holds'). Laid BY PROGRAM, IN A SANDBOX (cutbox-door.mjs). By AI agents, Wed Nov 11 2026. No macro, syntax, notation, axiom, sorry.
-/
import Derived.Test.YtciioiklkaannaaGreatDoorRows
import GoSem.ClaimSeven
namespace Go.Proofs.YtciioiklkaannaaGreatDoor
namespace Rows

/-- THE TIED CARD OF 'sextonlaw21.HymnWrites'. -/
def hymnWritesCard : Claim7 := { stood := { row := hymnWritesRow, standIns := [], harness := (true, "ac55d06b3d00fcd30513760650c12644eb78beaf9ba8cc8d1f75ec350658a812"), looks := true }, kinds := [], alts := [], laidByText := true, laidKinds := [.data, .data, .data, .data, .sentinel, .sentinel, .sentinel, .data, .data, .data, .pinned], laidTests := true, laidLooks := .later }
def HymnWritesCardSaid : Prop := Claim7.holds Tryz.pinned (.plain (OpenSpec.ofChange hymnWritesSpec)) hymnWritesCard

/-- THE TIED CARD OF 'sextonlaw21.HymnReads'. -/
def hymnReadsCard : Claim7 := { stood := { row := hymnReadsRow, standIns := [], harness := (true, "ac55d06b3d00fcd30513760650c12644eb78beaf9ba8cc8d1f75ec350658a812"), looks := true }, kinds := [], alts := [], laidByText := true, laidKinds := [.data, .data, .data, .data, .sentinel, .sentinel, .sentinel, .data, .data, .data, .pinned], laidTests := true, laidLooks := .later }
def HymnReadsCardSaid : Prop := Claim7.holds Tryz.pinned (.plain (OpenSpec.ofChange hymnReadsSpec)) hymnReadsCard

/-- THE SECOND FORM's CARD OF 'sextonlaw21.HymnWrites'. -/
def hymnWritesUptoCard : Claim7 := { stood := { row := hymnWritesUptoRow, standIns := [], harness := (true, "ac55d06b3d00fcd30513760650c12644eb78beaf9ba8cc8d1f75ec350658a812"), looks := true }, kinds := [], alts := [], laidByText := true, laidKinds := [.data, .data, .data, .data, .sentinel, .sentinel, .sentinel, .data, .data, .data, .pinned], laidTests := true, laidLooks := .later }
def HymnWritesUptoCardSaid : Prop := Claim7.holds Tryz.pinned (.plain (OpenSpec.upto hymnWritesSpec)) hymnWritesUptoCard

/-- THE SECOND FORM's CARD OF 'sextonlaw21.HymnReads'. -/
def hymnReadsUptoCard : Claim7 := { stood := { row := hymnReadsUptoRow, standIns := [], harness := (true, "ac55d06b3d00fcd30513760650c12644eb78beaf9ba8cc8d1f75ec350658a812"), looks := true }, kinds := [], alts := [], laidByText := true, laidKinds := [.data, .data, .data, .data, .sentinel, .sentinel, .sentinel, .data, .data, .data, .pinned], laidTests := true, laidLooks := .later }
def HymnReadsUptoCardSaid : Prop := Claim7.holds Tryz.pinned (.plain (OpenSpec.upto hymnReadsSpec)) hymnReadsUptoCard
end Rows
end Go.Proofs.YtciioiklkaannaaGreatDoor
