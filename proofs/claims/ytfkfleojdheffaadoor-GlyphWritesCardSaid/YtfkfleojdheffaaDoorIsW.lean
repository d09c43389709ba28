/- errors.Is of an error at a place. -/
import Derived.Test.YtfkfleojdheffaaDoorIs
import Derived.Test.YtfkfleojdheffaaDoorPlainW
namespace Go.Proofs.YtfkfleojdheffaaDoor
open Go.RowKit Go.Extern.Stop Go.Stop Go.Extern
set_option linter.unusedSimpArgs false
set_option linter.unusedVariables false
set_option linter.unusedSectionVars false

theorem woeEq : ∀ (p q : Option Addr) (w : World), (binOp .eql 26 (.iface 60 (.pointer p)) (.iface 107 (.pointer q))).run Tryd.prog w = .ok (.bool false) w := fun _ _ _ => by kernel_rfl

theorem woeNoIs (v : Value) (xT : TypeId) (w : World) : (Instr.typeAssert (.iface 60 v) xT 69 true).run Tryd.prog w = .ok (.tuple #[.nilIface, .bool false]) w := run_typeAssert_lacksB Tryd.underlying69 (by kernel_rfl) (by kernel_rfl) v xT w
theorem woeUnwraps (v : Value) (xT : TypeId) (w : World) : (Instr.typeAssert (.iface 60 v) xT 72 true).run Tryd.prog w = .ok (.tuple #[.iface 60 v, .bool true]) w := run_typeAssert_hasB Tryd.underlying72 (by kernel_rfl) v xT w
theorem woeMethod : ∀ (n : Nat) (v : Value) (w : World), (Go.method (n + 1) 60 v "Unwrap").run Tryd.prog w = .ok (87, v) w := fun _ _ _ => by kernel_rfl
set_option maxRecDepth 100000 in
set_option maxHeartbeats 400000 in
theorem unwrap_any (N : Nat) (n : Int) (T : TypeId) (u : Value) (w : World) (hN : Bk w N 62 #[.int .i64 n, .iface T u]) :
    Calls Tryd.prog 87 #[.pointer (some ⟨N, 0, none⟩)] w fun e w' => e = .returned (.iface T u) ∧ w = w' := by
  have c1 := hN.cell 1
  simp at c1
  go_enter Tryd.func87, Tryd.ntmps87
  go_wp2_with fail
  go_ret
  exact ⟨rfl, rfl⟩

set_option maxRecDepth 100000 in
set_option maxHeartbeats 400000 in
theorem is_woe (a : Addr) (N : Nat) (n : Int) (w : World) (hN : Bk w N 62 #[.int .i64 n, .iface 107 (.pointer (some a))]) :
    Calls Tryd.prog 13 #[.iface 60 (.pointer (some ⟨N, 0, none⟩)), .iface 107 (.pointer (some a))] w fun e w' => e = .returned (.bool true) ∧ w = w' := by
  obtain ⟨i, hi, hcmp⟩ := Option.map_eq_some_iff.1 isComp
  obtain ⟨j, hj, hjs⟩ := Option.map_eq_some_iff.1 isSize
  obtain ⟨b, tT, cT, mR⟩ := isType
  have heq := run_eql_iface_ptr_same (P := Tryd.prog) w a Tryd.underlying26 Tryd.underlying107 hi hcmp hj
  have hne := woeEq (some ⟨N, 0, none⟩) (some a) w
  have c1 := hN.cell 1
  simp at c1
  have hno := fun v xT => woeNoIs v xT w
  have hun := fun v xT => woeUnwraps v xT w
  have hme := fun n v => woeMethod n v w
  go_enter Tryd.func13, Tryd.ntmps13
  go_wp2
  refine wp_loop_rounds 2 ?_
  rw [rounds_succ]
  go_wp2
  rw [rounds_succ]
  go_wp2
  go_ret
  exact ⟨rfl, rfl⟩
end Go.Proofs.YtfkfleojdheffaaDoor
