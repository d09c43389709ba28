/-
  NARROWER THAN 'FOR EVERY INPUT', by the rows' own cells (each row's printed sentence says how): CreedExact: laid · CreedOrders: laid · CreedMay: laid · CreedKeys: laid · CreedClones: laid.
  DERIVED. THE GIVEN ROWS OF THIS SEAT. 5 by the template 'for every input the law returns true; each argument reads behind the call as it read before'; 0 by the template 'total and deterministic' (their statements: YtlfbgpncdahglaaDoorTotals.lean).
  GIVEN WITH THE SEED: the statements are not yours to turn. If you find one false, say at which input.
  Laid BY PROGRAM, IN A SANDBOX (cutbox-rows.mjs): the forced cells as the released guide's own fill.sh prints them over the translation f7af813357169330… (all of the seat's roots in one cut). By AI agents, Wed Nov 11 2026. No macro, syntax, notation, axiom, sorry.
-/
import Derived.Test.YtlfbgpncdahglaaDoorChecked
import GoSem.Claim
import GoSem.ClaimJoined
import GoSem.ClaimMapViews
import Derived.JoinedTies
import Derived.KernelRfl
namespace Go.Proofs.YtlfbgpncdahglaaDoor
/- THE CELL 'sum', in the pinned program and in every row, IS THE sha256 OF THE DUMP (.gsa) THAT YtlfbgpncdahglaaDoorProg.lean LOADS. Nothing in Lean hashes anything: it is a label: what it is worth is what the hold of that sum in a sandbox is worth. -/
noncomputable def Tryd.pinned : Pinned := { name := "ytlfbgpncdahglaadoor", sum := "f7af813357169330853b9b890451efc32f3531b27e07e8dd9e189283559773d7", checked := Tryd.checked }
namespace Rows
def none {H : Type} : Left H := { results := [], args := [] }

/- WHAT THE LISTED PACKAGE-LEVEL VARIABLES READ AS WHEN THE CALL BEGINS. Each datum BY PROGRAM (the guide's laid-datum.mjs) off the statement by which the dump's own 'gosem.cut.vars' lays the variable. In a bare row this is a premise. The card (YtlfbgpncdahglaaDoorCards.lean) ties it to the program's text. -/
def laid_sexton_api_ErrArg {H : Type} : DataW H := .iface "*errors.errorString" (.ptr (.agg [.lit (.string [97, 110, 32, 97, 114, 103, 117, 109, 101, 110, 116, 32, 116, 104, 97, 116, 32, 99, 97, 110, 39, 116, 32, 98, 101])]))
def laid_sexton_api_ErrNil {H : Type} : DataW H := .iface "*errors.errorString" (.ptr (.agg [.lit (.string [97, 32, 110, 105, 108, 32, 116, 104, 105, 110, 103])]))

/-- 'sextonlaw12.CreedExact': WHATEVER THE INPUT: true; the input reads as it did. -/
def creedExactSpec : ChangeSpec := { name := "creedExact", fn := fun _ => fun
  | [d1, d2] => { results := [.lit (.bool true)], args := [d1, d2] }
  | _ => none }
def creedExactRow : OpenClaim := { program := "ytlfbgpncdahglaadoor", sum := "f7af813357169330853b9b890451efc32f3531b27e07e8dd9e189283559773d7", func := "sexton/sextonlaw12.CreedExact", spec := "creedExact", inPlace := ["slices.overlaps[sexton/api.Pair]", "internal/reflectlite.TypeOf"], unfollowed := true, recurses := true, named := ["sexton/api.ErrArg", "sexton/api.ErrNil"], apart := false, laid := [("sexton/api.ErrArg", laid_sexton_api_ErrArg), ("sexton/api.ErrNil", laid_sexton_api_ErrNil)] }
def CreedExactSaid : Prop := creedExactRow.holds Tryd.pinned (OpenSpec.ofChange creedExactSpec)

/-- ITS FALSE NEIGHBOUR: 'it returns false'. Refute it at one input. -/
def creedExactWrong : ChangeSpec := { name := "creedExact", fn := fun _ => fun
  | [d1, d2] => { results := [.lit (.bool false)], args := [d1, d2] }
  | _ => none }
def CreedExactWrongFalsely : Prop := creedExactRow.holds Tryd.pinned (OpenSpec.ofChange creedExactWrong)

/-- 'sextonlaw12.CreedOrders': WHATEVER THE INPUT: true; the input reads as it did. -/
def creedOrdersSpec : ChangeSpec := { name := "creedOrders", fn := fun _ => fun
  | [d] => { results := [.lit (.bool true)], args := [d] }
  | _ => none }
def creedOrdersRow : OpenClaim := { program := "ytlfbgpncdahglaadoor", sum := "f7af813357169330853b9b890451efc32f3531b27e07e8dd9e189283559773d7", func := "sexton/sextonlaw12.CreedOrders", spec := "creedOrders", inPlace := ["slices.overlaps[sexton/api.Pair]", "internal/reflectlite.TypeOf"], unfollowed := true, recurses := true, named := ["sexton/api.ErrArg", "sexton/api.ErrNil"], apart := false, laid := [("sexton/api.ErrArg", laid_sexton_api_ErrArg), ("sexton/api.ErrNil", laid_sexton_api_ErrNil)] }
def CreedOrdersSaid : Prop := creedOrdersRow.holds Tryd.pinned (OpenSpec.ofChange creedOrdersSpec)

/-- ITS FALSE NEIGHBOUR: 'it returns false'. Refute it at one input. -/
def creedOrdersWrong : ChangeSpec := { name := "creedOrders", fn := fun _ => fun
  | [d] => { results := [.lit (.bool false)], args := [d] }
  | _ => none }
def CreedOrdersWrongFalsely : Prop := creedOrdersRow.holds Tryd.pinned (OpenSpec.ofChange creedOrdersWrong)

/-- 'sextonlaw12.CreedMay': WHATEVER THE INPUT: true; the input reads as it did. -/
def creedMaySpec : ChangeSpec := { name := "creedMay", fn := fun _ => fun
  | [d1, d2, d3] => { results := [.lit (.bool true)], args := [d1, d2, d3] }
  | _ => none }
def creedMayRow : OpenClaim := { program := "ytlfbgpncdahglaadoor", sum := "f7af813357169330853b9b890451efc32f3531b27e07e8dd9e189283559773d7", func := "sexton/sextonlaw12.CreedMay", spec := "creedMay", inPlace := ["slices.overlaps[sexton/api.Pair]", "internal/reflectlite.TypeOf"], unfollowed := true, recurses := true, named := ["sexton/api.ErrArg", "sexton/api.ErrNil"], apart := false, laid := [("sexton/api.ErrArg", laid_sexton_api_ErrArg), ("sexton/api.ErrNil", laid_sexton_api_ErrNil)] }
def CreedMaySaid : Prop := creedMayRow.holds Tryd.pinned (OpenSpec.ofChange creedMaySpec)

/-- ITS FALSE NEIGHBOUR: 'it returns false'. Refute it at one input. -/
def creedMayWrong : ChangeSpec := { name := "creedMay", fn := fun _ => fun
  | [d1, d2, d3] => { results := [.lit (.bool false)], args := [d1, d2, d3] }
  | _ => none }
def CreedMayWrongFalsely : Prop := creedMayRow.holds Tryd.pinned (OpenSpec.ofChange creedMayWrong)

/-- 'sextonlaw12.CreedKeys': WHATEVER THE INPUT: true; the input reads as it did. -/
def creedKeysSpec : ChangeSpec := { name := "creedKeys", fn := fun _ => fun
  | [d1, d2, d3] => { results := [.lit (.bool true)], args := [d1, d2, d3] }
  | _ => none }
def creedKeysRow : OpenClaim := { program := "ytlfbgpncdahglaadoor", sum := "f7af813357169330853b9b890451efc32f3531b27e07e8dd9e189283559773d7", func := "sexton/sextonlaw12.CreedKeys", spec := "creedKeys", inPlace := ["slices.overlaps[sexton/api.Pair]", "internal/reflectlite.TypeOf"], unfollowed := true, recurses := true, named := ["sexton/api.ErrArg", "sexton/api.ErrNil"], apart := false, laid := [("sexton/api.ErrArg", laid_sexton_api_ErrArg), ("sexton/api.ErrNil", laid_sexton_api_ErrNil)] }
def CreedKeysSaid : Prop := creedKeysRow.holds Tryd.pinned (OpenSpec.ofChange creedKeysSpec)

/-- ITS FALSE NEIGHBOUR: 'it returns false'. Refute it at one input. -/
def creedKeysWrong : ChangeSpec := { name := "creedKeys", fn := fun _ => fun
  | [d1, d2, d3] => { results := [.lit (.bool false)], args := [d1, d2, d3] }
  | _ => none }
def CreedKeysWrongFalsely : Prop := creedKeysRow.holds Tryd.pinned (OpenSpec.ofChange creedKeysWrong)

/-- 'sextonlaw12.CreedClones': WHATEVER THE INPUT: true; the input reads as it did. -/
def creedClonesSpec : ChangeSpec := { name := "creedClones", fn := fun _ => fun
  | [d1, d2, d3] => { results := [.lit (.bool true)], args := [d1, d2, d3] }
  | _ => none }
def creedClonesRow : OpenClaim := { program := "ytlfbgpncdahglaadoor", sum := "f7af813357169330853b9b890451efc32f3531b27e07e8dd9e189283559773d7", func := "sexton/sextonlaw12.CreedClones", spec := "creedClones", inPlace := ["slices.overlaps[sexton/api.Pair]", "internal/reflectlite.TypeOf"], unfollowed := true, recurses := true, named := ["sexton/api.ErrNil", "sexton/api.ErrArg"], apart := false, laid := [("sexton/api.ErrArg", laid_sexton_api_ErrArg), ("sexton/api.ErrNil", laid_sexton_api_ErrNil)] }
def CreedClonesSaid : Prop := creedClonesRow.holds Tryd.pinned (OpenSpec.ofChange creedClonesSpec)

/-- ITS FALSE NEIGHBOUR: 'it returns false'. Refute it at one input. -/
def creedClonesWrong : ChangeSpec := { name := "creedClones", fn := fun _ => fun
  | [d1, d2, d3] => { results := [.lit (.bool false)], args := [d1, d2, d3] }
  | _ => none }
def CreedClonesWrongFalsely : Prop := creedClonesRow.holds Tryd.pinned (OpenSpec.ofChange creedClonesWrong)

/- THE SECOND FORM. 'bulk': how many values and letters a reading holds, each counted each time it is reached (what is shared counts as often as it is met; a slice's spare places count too). A statement '..UptoSaid' is the law's where the arguments, and the package variables that the reading takes, are together of bulk at most 1048576: NARROWER than '..Said'. Prove '..Said' where nothing that the law and all that it calls make is longer than what came in: it says more and counts as full. Else prove '..UptoSaid'. A law counts once. -/
mutual
def uptoBulk {H : Type} : DataW H → Nat
  | .lit (.string bytes) => bytes.length + 1
  | .lit _ => 1
  | .nil => 1
  | .ptr d => uptoBulk d + 1
  | .slice elems spare => uptoBulkAll elems + uptoBulkAll spare + 1
  | .agg parts => uptoBulkAll parts + 1
  | .iface _ d => uptoBulk d + 1
  | .map entries => uptoBulkEntries entries + 1
  | .held _ => 1
def uptoBulkAll {H : Type} : List (DataW H) → Nat
  | [] => 0
  | d :: r => uptoBulk d + uptoBulkAll r
def uptoBulkEntries {H : Type} : List (Lit × DataW H) → Nat
  | [] => 0
  | x :: r => uptoBulkEntry x + uptoBulkEntries r
def uptoBulkEntry {H : Type} : Lit × DataW H → Nat
  | (.string bytes, d) => bytes.length + uptoBulk d + 1
  | (_, d) => uptoBulk d + 1
 end
def uptoSmall : (H : Type) → List (DataW H) → Bool := fun _ ds => decide (uptoBulkAll ds ≤ 1048576)
def OpenSpec.upto (s : _root_.Go.ChangeSpec) : _root_.Go.OpenSpec := { _root_.Go.OpenSpec.ofChange s with cond := some uptoSmall }

/-- 'sextonlaw12.CreedExact', WHERE WHAT IT READS IS OF BULK AT MOST 1048576: true; the input reads as it did. -/
def creedExactUptoRow : OpenClaim := { program := "ytlfbgpncdahglaadoor", sum := "f7af813357169330853b9b890451efc32f3531b27e07e8dd9e189283559773d7", func := "sexton/sextonlaw12.CreedExact", spec := "creedExact", inPlace := ["slices.overlaps[sexton/api.Pair]", "internal/reflectlite.TypeOf"], unfollowed := true, recurses := true, named := ["sexton/api.ErrArg", "sexton/api.ErrNil"], apart := false, laid := [("sexton/api.ErrArg", laid_sexton_api_ErrArg), ("sexton/api.ErrNil", laid_sexton_api_ErrNil)], narrowed := true }
def CreedExactUptoSaid : Prop := creedExactUptoRow.holds Tryd.pinned (OpenSpec.upto creedExactSpec)

/-- 'sextonlaw12.CreedOrders', WHERE WHAT IT READS IS OF BULK AT MOST 1048576: true; the input reads as it did. -/
def creedOrdersUptoRow : OpenClaim := { program := "ytlfbgpncdahglaadoor", sum := "f7af813357169330853b9b890451efc32f3531b27e07e8dd9e189283559773d7", func := "sexton/sextonlaw12.CreedOrders", spec := "creedOrders", inPlace := ["slices.overlaps[sexton/api.Pair]", "internal/reflectlite.TypeOf"], unfollowed := true, recurses := true, named := ["sexton/api.ErrArg", "sexton/api.ErrNil"], apart := false, laid := [("sexton/api.ErrArg", laid_sexton_api_ErrArg), ("sexton/api.ErrNil", laid_sexton_api_ErrNil)], narrowed := true }
def CreedOrdersUptoSaid : Prop := creedOrdersUptoRow.holds Tryd.pinned (OpenSpec.upto creedOrdersSpec)

/-- 'sextonlaw12.CreedMay', WHERE WHAT IT READS IS OF BULK AT MOST 1048576: true; the input reads as it did. -/
def creedMayUptoRow : OpenClaim := { program := "ytlfbgpncdahglaadoor", sum := "f7af813357169330853b9b890451efc32f3531b27e07e8dd9e189283559773d7", func := "sexton/sextonlaw12.CreedMay", spec := "creedMay", inPlace := ["slices.overlaps[sexton/api.Pair]", "internal/reflectlite.TypeOf"], unfollowed := true, recurses := true, named := ["sexton/api.ErrArg", "sexton/api.ErrNil"], apart := false, laid := [("sexton/api.ErrArg", laid_sexton_api_ErrArg), ("sexton/api.ErrNil", laid_sexton_api_ErrNil)], narrowed := true }
def CreedMayUptoSaid : Prop := creedMayUptoRow.holds Tryd.pinned (OpenSpec.upto creedMaySpec)

/-- 'sextonlaw12.CreedKeys', WHERE WHAT IT READS IS OF BULK AT MOST 1048576: true; the input reads as it did. -/
def creedKeysUptoRow : OpenClaim := { program := "ytlfbgpncdahglaadoor", sum := "f7af813357169330853b9b890451efc32f3531b27e07e8dd9e189283559773d7", func := "sexton/sextonlaw12.CreedKeys", spec := "creedKeys", inPlace := ["slices.overlaps[sexton/api.Pair]", "internal/reflectlite.TypeOf"], unfollowed := true, recurses := true, named := ["sexton/api.ErrArg", "sexton/api.ErrNil"], apart := false, laid := [("sexton/api.ErrArg", laid_sexton_api_ErrArg), ("sexton/api.ErrNil", laid_sexton_api_ErrNil)], narrowed := true }
def CreedKeysUptoSaid : Prop := creedKeysUptoRow.holds Tryd.pinned (OpenSpec.upto creedKeysSpec)

/-- 'sextonlaw12.CreedClones', WHERE WHAT IT READS IS OF BULK AT MOST 1048576: true; the input reads as it did. -/
def creedClonesUptoRow : OpenClaim := { program := "ytlfbgpncdahglaadoor", sum := "f7af813357169330853b9b890451efc32f3531b27e07e8dd9e189283559773d7", func := "sexton/sextonlaw12.CreedClones", spec := "creedClones", inPlace := ["slices.overlaps[sexton/api.Pair]", "internal/reflectlite.TypeOf"], unfollowed := true, recurses := true, named := ["sexton/api.ErrNil", "sexton/api.ErrArg"], apart := false, laid := [("sexton/api.ErrArg", laid_sexton_api_ErrArg), ("sexton/api.ErrNil", laid_sexton_api_ErrNil)], narrowed := true }
def CreedClonesUptoSaid : Prop := creedClonesUptoRow.holds Tryd.pinned (OpenSpec.upto creedClonesSpec)

end Rows
end Go.Proofs.YtlfbgpncdahglaaDoor
