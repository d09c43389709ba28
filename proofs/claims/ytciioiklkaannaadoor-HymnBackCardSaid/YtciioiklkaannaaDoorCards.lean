/-
  DERIVED. GIVEN WITH THE SEED: THE CARDS: each row of YtciioiklkaannaaDoorRows.lean that lists a variable, with what it lists TIED to the program's text (the seventh form; the later family's looks); each row that meets fmt, with fmt's text TOLD by the authors' own Lean function (tested against real Go, not proved from fmt's source: count such statements apart). THE CARD IS WHAT COUNTS. Prove the row's statement (the work); the ties are given (YtciioiklkaannaaDoorTie.lean); close each card by the builder's one call (the guide's Derived/Test/ToyasCard.lean, 'card_holds'). Laid BY PROGRAM, IN A SANDBOX (cutbox-door.mjs). By AI agents, Wed Nov 11 2026. No macro, syntax, notation, axiom, sorry.
-/
import Derived.Test.YtciioiklkaannaaDoorRows
import GoSem.ClaimSeven
namespace Go.Proofs.YtciioiklkaannaaDoor
namespace Rows

/-- THE TIED CARD OF 'sextonlaw21.HymnLines'. -/
def hymnLinesCard : Claim7 := { stood := { row := hymnLinesRow, standIns := [], harness := (true, "98cf731c182b2425e007948261e26f5654ee4baba4bc110d79a29102bb323da6"), looks := true }, kinds := [], alts := [], laidByText := true, laidKinds := [.data, .data, .data, .data, .sentinel, .sentinel, .sentinel, .data, .data, .data, .pinned], laidTests := true, laidLooks := .later }
def HymnLinesCardSaid : Prop := Claim7.holds Tryd.pinned (.plain (OpenSpec.ofChange hymnLinesSpec)) hymnLinesCard

/-- THE TIED CARD OF 'sextonlaw21.HymnSpoilt'. -/
def hymnSpoiltCard : Claim7 := { stood := { row := hymnSpoiltRow, standIns := [], harness := (true, "98cf731c182b2425e007948261e26f5654ee4baba4bc110d79a29102bb323da6"), looks := true }, kinds := [], alts := [], laidByText := true, laidKinds := [.data, .data, .data, .data, .sentinel, .sentinel, .sentinel, .data, .data, .data, .pinned], laidTests := true, laidLooks := .later }
def HymnSpoiltCardSaid : Prop := Claim7.holds Tryd.pinned (.plain (OpenSpec.ofChange hymnSpoiltSpec)) hymnSpoiltCard

/-- THE TIED CARD OF 'sextonlaw21.HymnCounts'. -/
def hymnCountsCard : Claim7 := { stood := { row := hymnCountsRow, standIns := [], harness := (true, "98cf731c182b2425e007948261e26f5654ee4baba4bc110d79a29102bb323da6"), looks := true }, kinds := [], alts := [], laidByText := true, laidKinds := [.data, .data, .data, .data, .sentinel, .sentinel, .sentinel, .data, .data, .data, .pinned], laidTests := true, laidLooks := .later }
def HymnCountsCardSaid : Prop := Claim7.holds Tryd.pinned (.plain (OpenSpec.ofChange hymnCountsSpec)) hymnCountsCard

/-- THE TIED CARD OF 'sextonlaw21.HymnBack'. -/
def hymnBackCard : Claim7 := { stood := { row := hymnBackRow, standIns := [], harness := (true, "98cf731c182b2425e007948261e26f5654ee4baba4bc110d79a29102bb323da6"), looks := true }, kinds := [], alts := [], laidByText := true, laidKinds := [.data, .data, .data, .data, .sentinel, .sentinel, .sentinel, .data, .data, .data, .pinned], laidTests := true, laidLooks := .later }
def HymnBackCardSaid : Prop := Claim7.holds Tryd.pinned (.plain (OpenSpec.ofChange hymnBackSpec)) hymnBackCard

/-- THE SECOND FORM's CARD OF 'sextonlaw21.HymnLines'. -/
def hymnLinesUptoCard : Claim7 := { stood := { row := hymnLinesUptoRow, standIns := [], harness := (true, "98cf731c182b2425e007948261e26f5654ee4baba4bc110d79a29102bb323da6"), looks := true }, kinds := [], alts := [], laidByText := true, laidKinds := [.data, .data, .data, .data, .sentinel, .sentinel, .sentinel, .data, .data, .data, .pinned], laidTests := true, laidLooks := .later }
def HymnLinesUptoCardSaid : Prop := Claim7.holds Tryd.pinned (.plain (OpenSpec.upto hymnLinesSpec)) hymnLinesUptoCard

/-- THE SECOND FORM's CARD OF 'sextonlaw21.HymnSpoilt'. -/
def hymnSpoiltUptoCard : Claim7 := { stood := { row := hymnSpoiltUptoRow, standIns := [], harness := (true, "98cf731c182b2425e007948261e26f5654ee4baba4bc110d79a29102bb323da6"), looks := true }, kinds := [], alts := [], laidByText := true, laidKinds := [.data, .data, .data, .data, .sentinel, .sentinel, .sentinel, .data, .data, .data, .pinned], laidTests := true, laidLooks := .later }
def HymnSpoiltUptoCardSaid : Prop := Claim7.holds Tryd.pinned (.plain (OpenSpec.upto hymnSpoiltSpec)) hymnSpoiltUptoCard

/-- THE SECOND FORM's CARD OF 'sextonlaw21.HymnCounts'. -/
def hymnCountsUptoCard : Claim7 := { stood := { row := hymnCountsUptoRow, standIns := [], harness := (true, "98cf731c182b2425e007948261e26f5654ee4baba4bc110d79a29102bb323da6"), looks := true }, kinds := [], alts := [], laidByText := true, laidKinds := [.data, .data, .data, .data, .sentinel, .sentinel, .sentinel, .data, .data, .data, .pinned], laidTests := true, laidLooks := .later }
def HymnCountsUptoCardSaid : Prop := Claim7.holds Tryd.pinned (.plain (OpenSpec.upto hymnCountsSpec)) hymnCountsUptoCard

/-- THE SECOND FORM's CARD OF 'sextonlaw21.HymnBack'. -/
def hymnBackUptoCard : Claim7 := { stood := { row := hymnBackUptoRow, standIns := [], harness := (true, "98cf731c182b2425e007948261e26f5654ee4baba4bc110d79a29102bb323da6"), looks := true }, kinds := [], alts := [], laidByText := true, laidKinds := [.data, .data, .data, .data, .sentinel, .sentinel, .sentinel, .data, .data, .data, .pinned], laidTests := true, laidLooks := .later }
def HymnBackUptoCardSaid : Prop := Claim7.holds Tryd.pinned (.plain (OpenSpec.upto hymnBackSpec)) hymnBackUptoCard
end Rows
end Go.Proofs.YtciioiklkaannaaDoor
