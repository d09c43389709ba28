/- The reference's Unpack of any text. -/
import Derived.Test.YtfkfleojdheffaaDoorRefU
namespace Go.Proofs.YtfkfleojdheffaaDoor
open Go Go.RowKit
set_option linter.unusedSimpArgs false
set_option linter.unusedVariables false
set_option linter.unusedSectionVars false

set_option maxRecDepth 100000 in
set_option maxHeartbeats 1600000 in
theorem refUnpack_any (s : ByteArray) (w : World) (hs : s.size ≤ 1024) : Calls Tryd.prog 12 #[.string s] w (RetRef s w) := by
  by_cases h : 1 ≤ s.size ∧ s.size ≤ 80
  · exact refUnpack_mid s w h.1 h.2
  · have HN : Hid (NoWord s) := fun x hx e => by
      have h1 := txt_len x
      have h2 := txt_80 x hx
      have : s.size = (txt x).length := by rw [← e, bs_size]
      omega
    have hd : decide ((s.size : Int) < 1) = true ∨ (decide ((s.size : Int) < 1) = false ∧ decide ((80 : Int) < (s.size : Int)) = true) := by
      simp only [decide_eq_true_eq, decide_eq_false_iff_not]; omega
    clear h
    have A0 : Bk ((w.alloc (.cells #[.int .i64 0, .int .i64 0, .int .i64 0, .int .i64 0, .bool false] 23)).alloc (.cells #[.int .i64 0, .int .i64 0, .int .i64 0, .int .i64 0, .bool false] 23)) w.heap.size 23 #[.int .i64 0, .int .i64 0, .int .i64 0, .int .i64 0, .bool false] := (Bk.at_ rfl).alloc _
    have hb0 : Below w.heap.size w ((w.alloc (.cells #[.int .i64 0, .int .i64 0, .int .i64 0, .int .i64 0, .bool false] 23)).alloc (.cells #[.int .i64 0, .int .i64 0, .int .i64 0, .int .i64 0, .bool false] 23)) := by (repeat' (first | (with_reducible exact Below.refl _ _) | (with_reducible assumption) | (with_reducible refine Below.alloc ?_ ?_ _) | (with_reducible refine Below.drew ?_) | (with_reducible refine below_drewN ?_ _) | (with_reducible refine Below.setCell ?_ ?_ _) | go_size))
    rcases hd with d0 | ⟨d0, d1⟩
    all_goals
      go_enter Tryd.func12, Tryd.ntmps12
      go_wp2_with (refine wpList_store_bk (by rfl) _ _ _ (by rfl) w.heap.size _ (by rfl) (by rfl) _ _ A0 (by rfl) infoWord (by rfl) ?_; intro w5 hst)
      obtain ⟨r0, r1, r2, r3, r4⟩ := bk5 hst.bk
      refine bodyPost_ret (v := .tuple #[.agg #[.int .i64 0, .int .i64 0, .int .i64 0, .int .i64 0, .bool false], .bool false]) (by simp [results, Tryd.results12, go_sem, r0, r1, r2, r3, r4]) rfl ?_
      exact Or.inr ⟨HN.out, rfl, hst.below hb0 (Nat.le_refl _)⟩
end Go.Proofs.YtfkfleojdheffaaDoor
