/-
  DERIVED. GIVEN WITH THE SEED: THE CARDS: each row of YtaipogljokblkaaGreatDoorRows.lean that lists a variable, with what it lists TIED to the program's text (the seventh form; the later family's looks); each row that meets fmt, with fmt's text TOLD by the authors' own Lean function (tested against real Go, not proved from fmt's source: count such statements apart). THE CARD IS WHAT COUNTS. Prove the row's statement (the work); the ties are given (YtaipogljokblkaaGreatDoorTie.lean); close each card by the builder's one call (the guide's Derived/Test/ToyasCard.lean, 'card_holds'). Laid BY PROGRAM, IN A SANDBOX (cutbox-door.mjs). By AI agents, Wed Nov 11 2026. No macro, syntax, notation, axiom, sorry.
-/
import Derived.Test.YtaipogljokblkaaGreatDoorRows
import GoSem.ClaimSeven
namespace Go.Proofs.YtaipogljokblkaaGreatDoor
namespace Rows

/-- THE TIED CARD OF 'sextontop.CoreEngines'. -/
def coreEnginesCard : Claim7 := { stood := { row := coreEnginesRow, standIns := [], harness := (true, "e39a88e635de21b78aadd3343e063714dbd22eb0b854665a7d0abce394fb4c83"), looks := false }, kinds := [], alts := [], laidByText := true, laidKinds := [.sentinel, .sentinel, .sentinel, .sentinel, .sentinel, .sentinel, .sentinel], laidTests := true, laidLooks := .later }
def CoreEnginesCardSaid : Prop := Claim7.holds Tryz.pinned (.plain (OpenSpec.ofChange coreEnginesSpec)) coreEnginesCard

/-- THE TIED CARD OF 'sextontop.CoreTags'. -/
def coreTagsCard : Claim7 := { stood := { row := coreTagsRow, standIns := [], harness := (true, "e39a88e635de21b78aadd3343e063714dbd22eb0b854665a7d0abce394fb4c83"), looks := false }, kinds := [], alts := [], laidByText := true, laidKinds := [.sentinel, .sentinel, .sentinel, .sentinel, .sentinel, .sentinel, .sentinel], laidTests := true, laidLooks := .later }
def CoreTagsCardSaid : Prop := Claim7.holds Tryz.pinned (.plain (OpenSpec.ofChange coreTagsSpec)) coreTagsCard

/-- THE TIED CARD OF 'sextontop.CoreBound'. -/
def coreBoundCard : Claim7 := { stood := { row := coreBoundRow, standIns := [], harness := (true, "e39a88e635de21b78aadd3343e063714dbd22eb0b854665a7d0abce394fb4c83"), looks := false }, kinds := [], alts := [], laidByText := true, laidKinds := [.sentinel, .sentinel, .sentinel, .sentinel, .sentinel, .sentinel, .sentinel], laidTests := true, laidLooks := .later }
def CoreBoundCardSaid : Prop := Claim7.holds Tryz.pinned (.plain (OpenSpec.ofChange coreBoundSpec)) coreBoundCard

/-- THE TIED CARD OF 'sextontop.CoreEpochs'. -/
def coreEpochsCard : Claim7 := { stood := { row := coreEpochsRow, standIns := [], harness := (true, "e39a88e635de21b78aadd3343e063714dbd22eb0b854665a7d0abce394fb4c83"), looks := false }, kinds := [], alts := [], laidByText := true, laidKinds := [.sentinel, .sentinel, .sentinel, .sentinel, .sentinel, .sentinel, .sentinel], laidTests := true, laidLooks := .later }
def CoreEpochsCardSaid : Prop := Claim7.holds Tryz.pinned (.plain (OpenSpec.ofChange coreEpochsSpec)) coreEpochsCard

/-- THE SECOND FORM's CARD OF 'sextontop.CoreEngines'. -/
def coreEnginesUptoCard : Claim7 := { stood := { row := coreEnginesUptoRow, standIns := [], harness := (true, "e39a88e635de21b78aadd3343e063714dbd22eb0b854665a7d0abce394fb4c83"), looks := false }, kinds := [], alts := [], laidByText := true, laidKinds := [.sentinel, .sentinel, .sentinel, .sentinel, .sentinel, .sentinel, .sentinel], laidTests := true, laidLooks := .later }
def CoreEnginesUptoCardSaid : Prop := Claim7.holds Tryz.pinned (.plain (OpenSpec.upto coreEnginesSpec)) coreEnginesUptoCard

/-- THE SECOND FORM's CARD OF 'sextontop.CoreTags'. -/
def coreTagsUptoCard : Claim7 := { stood := { row := coreTagsUptoRow, standIns := [], harness := (true, "e39a88e635de21b78aadd3343e063714dbd22eb0b854665a7d0abce394fb4c83"), looks := false }, kinds := [], alts := [], laidByText := true, laidKinds := [.sentinel, .sentinel, .sentinel, .sentinel, .sentinel, .sentinel, .sentinel], laidTests := true, laidLooks := .later }
def CoreTagsUptoCardSaid : Prop := Claim7.holds Tryz.pinned (.plain (OpenSpec.upto coreTagsSpec)) coreTagsUptoCard

/-- THE SECOND FORM's CARD OF 'sextontop.CoreBound'. -/
def coreBoundUptoCard : Claim7 := { stood := { row := coreBoundUptoRow, standIns := [], harness := (true, "e39a88e635de21b78aadd3343e063714dbd22eb0b854665a7d0abce394fb4c83"), looks := false }, kinds := [], alts := [], laidByText := true, laidKinds := [.sentinel, .sentinel, .sentinel, .sentinel, .sentinel, .sentinel, .sentinel], laidTests := true, laidLooks := .later }
def CoreBoundUptoCardSaid : Prop := Claim7.holds Tryz.pinned (.plain (OpenSpec.upto coreBoundSpec)) coreBoundUptoCard

/-- THE SECOND FORM's CARD OF 'sextontop.CoreEpochs'. -/
def coreEpochsUptoCard : Claim7 := { stood := { row := coreEpochsUptoRow, standIns := [], harness := (true, "e39a88e635de21b78aadd3343e063714dbd22eb0b854665a7d0abce394fb4c83"), looks := false }, kinds := [], alts := [], laidByText := true, laidKinds := [.sentinel, .sentinel, .sentinel, .sentinel, .sentinel, .sentinel, .sentinel], laidTests := true, laidLooks := .later }
def CoreEpochsUptoCardSaid : Prop := Claim7.holds Tryz.pinned (.plain (OpenSpec.upto coreEpochsSpec)) coreEpochsUptoCard
end Rows
end Go.Proofs.YtaipogljokblkaaGreatDoor
