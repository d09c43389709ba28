/- The small functions of the reference. -/
import Derived.Test.YthecbeejlpgdaaaDoorFnDecode
import Derived.Test.YthecbeejlpgdaaaDoorFnB
import Derived.Deep.DeepMust
namespace Go.Proofs.YthecbeejlpgdaaaDoor
open Go Go.RowKit
set_option linter.unusedSimpArgs false
set_option linter.unusedVariables false
set_option linter.unusedSectionVars false

theorem at_at (s : ByteArray) (m : Nat) (n : Int) (w : World) (hs : s.size ≤ 140737488351232) (hn : n = m) (hm : m ≤ 140737488351232) :
    Calls Tryd.prog 26 #[.string s, .int .i64 n] w fun e w' => e = .returned (.int .i64 (bat s m)) ∧ w = w' := by
  subst hn
  exact at_any s m w (by omega) (by omega)

theorem refKinds_any (st : Int) (w : World) (h1 : 1 ≤ st) (h5 : st ≤ 5) :
    Calls Tryd.prog 15 #[.int .i64 st] w fun e w' => e = .returned (.slice (some ⟨w.heap.size, 0, none⟩) (kindsOf st).length (kindsOf st).length) ∧
      w.alloc (.cells ((kindsOf st).map (Value.int .i64)).toArray 3) = w' := by
  go_enter Tryd.func15, Tryd.ntmps15
  go_wp2
  all_goals
    go_returns
    simp_all [kindsOf]

theorem kk_kind {w : World} {g : Nat} {st : Int} (h : Bk w g 3 ((kindsOf st).map (Value.int .i64)).toArray) (h1 : 1 ≤ st) (h5 : st ≤ 5) (b : Nat) : w.cell? ⟨g, b % (kindsOf st).length, none⟩ = some (.int .i64 (kindAt st b)) := by
  rw [h.cell]
  unfold kindAt
  have hst : st = 1 ∨ st = 2 ∨ st = 3 ∨ st = 4 ∨ st = 5 := by omega
  have hlt : b % (kindsOf st).length < (kindsOf st).length := Nat.mod_lt _ (by rcases hst with e | e | e | e | e <;> rw [e] <;> decide)
  simp [hlt]

set_option maxHeartbeats 800000 in
theorem refOp_any (st x y : Int) (k : Nat) (w : World) (h1 : 1 ≤ st) (h5 : st ≤ 5) (hk : k ≤ 255) (hx0 : 0 ≤ x) (hx1 : x ≤ 255) (hy0 : 0 ≤ y) (hy1 : y ≤ 255) :
    Calls Tryd.prog 27 #[.int .i64 st, .int .i64 k, .int .i64 x, .int .i64 y] w (RetV (formOp st (kindAt st k) x y).v w) := by
  have hst : st = 1 ∨ st = 2 ∨ st = 3 ∨ st = 4 ∨ st = 5 := by omega
  have hl1 : 1 ≤ (kindsOf st).length := by rcases hst with e | e | e | e | e <;> rw [e] <;> decide
  have hl3 : (kindsOf st).length ≤ 3 := by rcases hst with e | e | e | e | e <;> rw [e] <;> decide
  clear hst
  have m7 : k % (kindsOf st).length < (kindsOf st).length := Nat.mod_lt _ (by omega)
  go_enter Tryd.func27, Tryd.ntmps27
  go_wp2_with fail
  refine (refKinds_any st _ h1 h5).mono ?_
  rintro e w6 ⟨rfl, rfl⟩
  have c3 := fun (W : World) (h : Bk W (w.heap.size + 1) 3 ((kindsOf st).map (Value.int .i64)).toArray) => kk_kind h h1 h5 k
  have c4 := c3 _ (Bk.at_ (w := (w.alloc (.cells #[.int .i64 0, .int .i64 0, .int .i64 0, .int .i64 0] 39))) (by simp))
  clear c3
  go_wp2_with fail
  all_goals
    clear c4
    go_returns
    refine ⟨?_, by go_grown⟩
    simp_all [formOp, POp.v]

theorem refOp_agg (st x y : Int) (k : Nat) (w : World) (h1 : 1 ≤ st) (h5 : st ≤ 5) (hk : k ≤ 255) (hx0 : 0 ≤ x) (hx1 : x ≤ 255) (hy0 : 0 ≤ y) (hy1 : y ≤ 255) :
    Calls Tryd.prog 27 #[.int .i64 st, .int .i64 k, .int .i64 x, .int .i64 y] w
      (RetV (.agg #[.int .i64 (formOp st (kindAt st k) x y).kind, .int .i64 (formOp st (kindAt st k) x y).key, .int .i64 (formOp st (kindAt st k) x y).val, .int .i64 (formOp st (kindAt st k) x y).tall]) w) :=
  refOp_any st x y k w h1 h5 hk hx0 hx1 hy0 hy1

end Go.Proofs.YthecbeejlpgdaaaDoor
