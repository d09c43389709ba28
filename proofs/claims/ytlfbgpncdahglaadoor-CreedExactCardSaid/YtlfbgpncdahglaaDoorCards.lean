/-
  DERIVED. GIVEN WITH THE SEED: THE CARDS: each row of YtlfbgpncdahglaaDoorRows.lean that lists a variable, with what it lists TIED to the program's text (the seventh form; the later family's looks); each row that meets fmt, with fmt's text TOLD by the authors' own Lean function (tested against real Go, not proved from fmt's source: count such statements apart). THE CARD IS WHAT COUNTS. Prove the row's statement (the work); the ties are given (YtlfbgpncdahglaaDoorTie.lean); close each card by the builder's one call (the guide's Derived/Test/ToyasCard.lean, 'card_holds'). Laid BY PROGRAM, IN A SANDBOX (cutbox-door.mjs). By AI agents, Wed Nov 11 2026. No macro, syntax, notation, axiom, sorry.
-/
import Derived.Test.YtlfbgpncdahglaaDoorRows
import GoSem.ClaimSeven
namespace Go.Proofs.YtlfbgpncdahglaaDoor
namespace Rows

/-- THE TIED CARD OF 'sextonlaw12.CreedExact'. -/
def creedExactCard : Claim7 := { stood := { row := creedExactRow, standIns := [], harness := (true, "69daf379c5d943c88ca2ae1b2b6a0be6d7bf2569598e33f3db3c241957250b3f"), looks := true }, kinds := [], alts := [], laidByText := true, laidKinds := [.sentinel, .sentinel], laidTests := true, laidLooks := .later }
def CreedExactCardSaid : Prop := Claim7.holds Tryd.pinned (.plain (OpenSpec.ofChange creedExactSpec)) creedExactCard

/-- THE TIED CARD OF 'sextonlaw12.CreedOrders'. -/
def creedOrdersCard : Claim7 := { stood := { row := creedOrdersRow, standIns := [], harness := (true, "69daf379c5d943c88ca2ae1b2b6a0be6d7bf2569598e33f3db3c241957250b3f"), looks := true }, kinds := [], alts := [], laidByText := true, laidKinds := [.sentinel, .sentinel], laidTests := true, laidLooks := .later }
def CreedOrdersCardSaid : Prop := Claim7.holds Tryd.pinned (.plain (OpenSpec.ofChange creedOrdersSpec)) creedOrdersCard

/-- THE TIED CARD OF 'sextonlaw12.CreedMay'. -/
def creedMayCard : Claim7 := { stood := { row := creedMayRow, standIns := [], harness := (true, "69daf379c5d943c88ca2ae1b2b6a0be6d7bf2569598e33f3db3c241957250b3f"), looks := true }, kinds := [], alts := [], laidByText := true, laidKinds := [.sentinel, .sentinel], laidTests := true, laidLooks := .later }
def CreedMayCardSaid : Prop := Claim7.holds Tryd.pinned (.plain (OpenSpec.ofChange creedMaySpec)) creedMayCard

/-- THE TIED CARD OF 'sextonlaw12.CreedKeys'. -/
def creedKeysCard : Claim7 := { stood := { row := creedKeysRow, standIns := [], harness := (true, "69daf379c5d943c88ca2ae1b2b6a0be6d7bf2569598e33f3db3c241957250b3f"), looks := true }, kinds := [], alts := [], laidByText := true, laidKinds := [.sentinel, .sentinel], laidTests := true, laidLooks := .later }
def CreedKeysCardSaid : Prop := Claim7.holds Tryd.pinned (.plain (OpenSpec.ofChange creedKeysSpec)) creedKeysCard

/-- THE TIED CARD OF 'sextonlaw12.CreedClones'. -/
def creedClonesCard : Claim7 := { stood := { row := creedClonesRow, standIns := [], harness := (true, "69daf379c5d943c88ca2ae1b2b6a0be6d7bf2569598e33f3db3c241957250b3f"), looks := true }, kinds := [], alts := [], laidByText := true, laidKinds := [.sentinel, .sentinel], laidTests := true, laidLooks := .later }
def CreedClonesCardSaid : Prop := Claim7.holds Tryd.pinned (.plain (OpenSpec.ofChange creedClonesSpec)) creedClonesCard

/-- THE SECOND FORM's CARD OF 'sextonlaw12.CreedExact'. -/
def creedExactUptoCard : Claim7 := { stood := { row := creedExactUptoRow, standIns := [], harness := (true, "69daf379c5d943c88ca2ae1b2b6a0be6d7bf2569598e33f3db3c241957250b3f"), looks := true }, kinds := [], alts := [], laidByText := true, laidKinds := [.sentinel, .sentinel], laidTests := true, laidLooks := .later }
def CreedExactUptoCardSaid : Prop := Claim7.holds Tryd.pinned (.plain (OpenSpec.upto creedExactSpec)) creedExactUptoCard

/-- THE SECOND FORM's CARD OF 'sextonlaw12.CreedOrders'. -/
def creedOrdersUptoCard : Claim7 := { stood := { row := creedOrdersUptoRow, standIns := [], harness := (true, "69daf379c5d943c88ca2ae1b2b6a0be6d7bf2569598e33f3db3c241957250b3f"), looks := true }, kinds := [], alts := [], laidByText := true, laidKinds := [.sentinel, .sentinel], laidTests := true, laidLooks := .later }
def CreedOrdersUptoCardSaid : Prop := Claim7.holds Tryd.pinned (.plain (OpenSpec.upto creedOrdersSpec)) creedOrdersUptoCard

/-- THE SECOND FORM's CARD OF 'sextonlaw12.CreedMay'. -/
def creedMayUptoCard : Claim7 := { stood := { row := creedMayUptoRow, standIns := [], harness := (true, "69daf379c5d943c88ca2ae1b2b6a0be6d7bf2569598e33f3db3c241957250b3f"), looks := true }, kinds := [], alts := [], laidByText := true, laidKinds := [.sentinel, .sentinel], laidTests := true, laidLooks := .later }
def CreedMayUptoCardSaid : Prop := Claim7.holds Tryd.pinned (.plain (OpenSpec.upto creedMaySpec)) creedMayUptoCard

/-- THE SECOND FORM's CARD OF 'sextonlaw12.CreedKeys'. -/
def creedKeysUptoCard : Claim7 := { stood := { row := creedKeysUptoRow, standIns := [], harness := (true, "69daf379c5d943c88ca2ae1b2b6a0be6d7bf2569598e33f3db3c241957250b3f"), looks := true }, kinds := [], alts := [], laidByText := true, laidKinds := [.sentinel, .sentinel], laidTests := true, laidLooks := .later }
def CreedKeysUptoCardSaid : Prop := Claim7.holds Tryd.pinned (.plain (OpenSpec.upto creedKeysSpec)) creedKeysUptoCard

/-- THE SECOND FORM's CARD OF 'sextonlaw12.CreedClones'. -/
def creedClonesUptoCard : Claim7 := { stood := { row := creedClonesUptoRow, standIns := [], harness := (true, "69daf379c5d943c88ca2ae1b2b6a0be6d7bf2569598e33f3db3c241957250b3f"), looks := true }, kinds := [], alts := [], laidByText := true, laidKinds := [.sentinel, .sentinel], laidTests := true, laidLooks := .later }
def CreedClonesUptoCardSaid : Prop := Claim7.holds Tryd.pinned (.plain (OpenSpec.upto creedClonesSpec)) creedClonesUptoCard
end Rows
end Go.Proofs.YtlfbgpncdahglaaDoor
