/- Whether two slices of tasks read as the same list: slices.Equal. -/
import Derived.Test.YtciioiklkaannaaDoorFnEq
import Derived.Test.YtciioiklkaannaaDoorStEq
namespace Go.Proofs.YtciioiklkaannaaDoor
open Go Go.RowKit
set_option linter.unusedSimpArgs false
set_option linter.unusedVariables false
set_option linter.unusedSectionVars false

set_option maxHeartbeats 800000 in
theorem equalTasks_any (xs ys : List PTask) (A A' : Option Addr) (c c' B B' : Nat) (w : World) (hx : Sl w B 5 A xs.length (tcells xs)) (hy : Sl w B' 5 A' ys.length (tcells ys))
    (lx : xs.length ≤ 9223372036854775807) (ly : ys.length ≤ 9223372036854775807) :
    Calls Tryd.prog 27 #[.slice A xs.length c, .slice A' ys.length c'] w (RetQ (decide (xs = ys)) w) := by
  by_cases hl : ys.length = xs.length
  · rw [hl] at ly hy ⊢
    go_enter Tryd.func27, Tryd.ntmps27
    go_wp2_with fail
    go_loopw [13] (fun i wr => ∃ k m : Nat, k ≤ xs.length ∧ i = .int .i64 k ∧ w.drewN m = wr ∧ Hid (xs.take k = ys.take k)) (fun i _ => xs.length - (intOf i).toNat)
    case atStart => exact ⟨0, 0, Nat.zero_le _, rfl, rfl, rfl⟩
    case round =>
      obtain ⟨k, m, hk, rfl, rfl, hall⟩ := hrel
      by_cases hlt : k < xs.length
      · have hlt2 : k < ys.length := by omega
        rw [← hl] at hy
        obtain ⟨b1, o1, rfl, _, q10, q11, q12, q13, q14⟩ := hx.task hlt
        obtain ⟨b2, o2, rfl, _, q20, q21, q22, q23, q24⟩ := hy.task hlt2
        clear hx hy
        have H := Lib.hid hl; clear hl
        by_cases he : xs[k] = ys[k]
        · have hn := take_step hlt hlt2 hall.out he
          obtain ⟨d1, d2, d3, d4, d5⟩ := task_eq he
          clear he
          go_wp2_with fail
          go_quiet (fail)
          go_wp2_with fail
          go_roundw
          case rel => exact ⟨k + 1, _, by omega, by go_num, rfl, hn⟩
          case measure => simp [intOf]; omega
        · have hd : decide (xs = ys) = false := by simpa using ne_of_get hlt hlt2 he
          have HD := Lib.hid hd; clear hd
          have hn := task_ne he
          clear he
          rcases hn with d1 | ⟨d1, d2⟩ | ⟨d1, d2, d3⟩ | ⟨d1, d2, d3, d4⟩ | ⟨d1, d2, d3, d4, d5⟩
          all_goals
            go_wp2_with fail
            go_quiet (fail)
            go_wp2_with fail
            go_ret
            exact ⟨ret_bool HD.out.symm, _, World.drewN_drewN _ _ _⟩
      · have hke : k = xs.length := by omega
        subst hke
        have hd : decide (xs = ys) = true := by
          have := hall.out
          rw [List.take_length, List.take_of_length_le (by omega)] at this
          simpa using this
        have HD := Lib.hid hd; clear hd hall
        go_wp2_with fail
        go_ret
        exact ⟨ret_bool HD.out.symm, _, rfl⟩
  · have hd : decide (xs = ys) = false := by simp; intro h; exact hl (by rw [h])
    have hb : ((xs.length : Int) != (ys.length : Int)) = true := by simp; omega
    have HD := Lib.hid hd; clear hd hl
    go_enter Tryd.func27, Tryd.ntmps27
    go_wp2_with fail
    go_ret
    exact ⟨ret_bool HD.out.symm, 0, rfl⟩


end Go.Proofs.YtciioiklkaannaaDoor
