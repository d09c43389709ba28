/- errors.Is of a sentinel and itself. -/
import Derived.Test.YtciioiklkaannaaGreatDoorRows
import Derived.WalkKit
import Derived.LaidEql
import Derived.Stop.Asserts
import Derived.RowKitTokens
namespace Go.Proofs.YtciioiklkaannaaGreatDoor
open Go.RowKit Go.Extern.Stop Go.Stop Go.Extern
set_option linter.unusedSimpArgs false
set_option linter.unusedVariables false
set_option linter.unusedSectionVars false

/-- What 'reflectlite.TypeOf(target).Comparable()' comes to at a sentinel. -/
theorem isType : ∃ b : Nat, (∀ (v : Value) (w : World), (callFunc 30 #[.iface 203 v]).run Tryz.prog w = .ok (.value (.iface 107 (.agg #[.pointer (some ⟨b, 203, none⟩)]))) w) ∧
    (∀ w : World, (callFunc 120 #[.agg #[.pointer (some ⟨b, 203, none⟩)]]).run Tryz.prog w = .ok (.value (.bool true)) w) ∧
    (∀ (n : Nat) (v : Value) (w : World), (Go.method (n + 1) 107 v "Comparable").run Tryz.prog w = .ok (120, v) w) :=
  ⟨Tryz.prog.globals.size, fun _ _ => by kernel_rfl, fun _ => by kernel_rfl, fun _ _ _ => by kernel_rfl⟩
theorem isComp : (Tryz.prog.info? 203).map (·.comparable) = some true := by kernel_rfl
theorem isSize : (Tryz.prog.info? 238).map (·.size) = some 1 := by kernel_rfl

set_option maxRecDepth 100000 in
set_option maxHeartbeats 400000 in
theorem is_same (a : Addr) (w : World) :
    Calls Tryz.prog 10 #[.iface 203 (.pointer (some a)), .iface 203 (.pointer (some a))] w fun e w' => e = .returned (.bool true) ∧ w = w' := by
  obtain ⟨i, hi, hcmp⟩ := Option.map_eq_some_iff.1 isComp
  obtain ⟨j, hj, hjs⟩ := Option.map_eq_some_iff.1 isSize
  obtain ⟨b, tT, cT, mR⟩ := isType
  have heq := run_eql_iface_ptr_same (P := Tryz.prog) w a Tryz.underlying32 Tryz.underlying203 hi hcmp hj
  go_enter Tryz.func10, Tryz.ntmps10
  go_wp2
  refine wp_loop_rounds 1 ?_
  rw [rounds_succ]
  go_wp2
  go_ret
  exact ⟨rfl, rfl⟩

end Go.Proofs.YtciioiklkaannaaGreatDoor
