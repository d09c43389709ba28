/- errors.Is of a sentinel and itself. -/
import Derived.Test.YtciioiklkaannaaDoorRows
import Derived.WalkKit
import Derived.LaidEql
import Derived.Stop.Asserts
import Derived.RowKitTokens
namespace Go.Proofs.YtciioiklkaannaaDoor
open Go.RowKit Go.Extern.Stop Go.Stop Go.Extern
set_option linter.unusedSimpArgs false
set_option linter.unusedVariables false
set_option linter.unusedSectionVars false

/-- What 'reflectlite.TypeOf(target).Comparable()' comes to at a sentinel. -/
theorem isType : ∃ b : Nat, (∀ (v : Value) (w : World), (callFunc 29 #[.iface 193 v]).run Tryd.prog w = .ok (.value (.iface 112 (.agg #[.pointer (some ⟨b, 193, none⟩)]))) w) ∧
    (∀ w : World, (callFunc 104 #[.agg #[.pointer (some ⟨b, 193, none⟩)]]).run Tryd.prog w = .ok (.value (.bool true)) w) ∧
    (∀ (n : Nat) (v : Value) (w : World), (Go.method (n + 1) 112 v "Comparable").run Tryd.prog w = .ok (104, v) w) :=
  ⟨Tryd.prog.globals.size, fun _ _ => by kernel_rfl, fun _ => by kernel_rfl, fun _ _ _ => by kernel_rfl⟩
theorem isComp : (Tryd.prog.info? 193).map (·.comparable) = some true := by kernel_rfl
theorem isSize : (Tryd.prog.info? 228).map (·.size) = some 1 := by kernel_rfl

set_option maxRecDepth 100000 in
set_option maxHeartbeats 400000 in
theorem is_same (a : Addr) (w : World) :
    Calls Tryd.prog 14 #[.iface 193 (.pointer (some a)), .iface 193 (.pointer (some a))] w fun e w' => e = .returned (.bool true) ∧ w = w' := by
  obtain ⟨i, hi, hcmp⟩ := Option.map_eq_some_iff.1 isComp
  obtain ⟨j, hj, hjs⟩ := Option.map_eq_some_iff.1 isSize
  obtain ⟨b, tT, cT, mR⟩ := isType
  have heq := run_eql_iface_ptr_same (P := Tryd.prog) w a Tryd.underlying27 Tryd.underlying193 hi hcmp hj
  go_enter Tryd.func14, Tryd.ntmps14
  go_wp2
  refine wp_loop_rounds 1 ?_
  rw [rounds_succ]
  go_wp2
  go_ret
  exact ⟨rfl, rfl⟩

end Go.Proofs.YtciioiklkaannaaDoor
