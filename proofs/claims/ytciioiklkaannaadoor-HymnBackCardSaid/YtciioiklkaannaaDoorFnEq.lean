/- Whether two slices read as the same list: sextonref01.Ints, slices.Equal at ints and at tasks. -/
import Derived.Test.YtciioiklkaannaaDoorData
import Derived.Deep.DeepMust
namespace Go.Proofs.YtciioiklkaannaaDoor
open Go Go.RowKit
set_option linter.unusedSimpArgs false
set_option linter.unusedVariables false
set_option linter.unusedSectionVars false

theorem take_step {α : Type} {l m : List α} {k : Nat} (h1 : k < l.length) (h2 : k < m.length) (h : l.take k = m.take k) (e : l[k] = m[k]) : Hid (l.take (k + 1) = m.take (k + 1)) := by
  show l.take (k + 1) = m.take (k + 1)
  rw [List.take_succ_eq_append_getElem h1, List.take_succ_eq_append_getElem h2, h, e]
theorem ne_of_get {α : Type} {l m : List α} {k : Nat} (h1 : k < l.length) (h2 : k < m.length) (e : l[k] ≠ m[k]) : l ≠ m := by
  rintro rfl; exact e rfl

/-- A bool comes back, and nothing but draws has happened. -/
def RetQ (b : Bool) (w : World) (e : Ending) (w' : World) : Prop := e = .returned (.bool b) ∧ ∃ k, w' = w.drewN k
theorem retQ_B {b : Bool} {w w' : World} {e : Ending} (h : RetQ b w e w') : RetB b w e w' := by
  obtain ⟨h, k, rfl⟩ := h
  exact ⟨h, below_drewN (Below.refl _ _) k⟩
theorem Sl.drewN {w : World} {B sz n : Nat} {A : Option Addr} {xs : List Value} (h : Sl w B sz A n xs) (k : Nat) : Sl (w.drewN k) B sz A n xs := h
theorem drewN_zero (w : World) : w.drewN 0 = w := rfl

set_option maxHeartbeats 800000 in
theorem equalInts_any (xs ys : List Int) (A A' : Option Addr) (c c' B B' : Nat) (w : World) (hx : Sl w B 1 A xs.length (icells xs)) (hy : Sl w B' 1 A' ys.length (icells ys))
    (lx : xs.length ≤ 9223372036854775807) (ly : ys.length ≤ 9223372036854775807) :
    Calls Tryd.prog 28 #[.slice A xs.length c, .slice A' ys.length c'] w (RetQ (decide (xs = ys)) w) := by
  by_cases hl : ys.length = xs.length
  · rw [hl] at ly hy ⊢
    go_enter Tryd.func28, Tryd.ntmps28
    go_wp2_with fail
    go_loopw [13] (fun i wr => ∃ k m : Nat, k ≤ xs.length ∧ i = .int .i64 k ∧ w.drewN m = wr ∧ Hid (xs.take k = ys.take k)) (fun i _ => xs.length - (intOf i).toNat)
    case atStart => exact ⟨0, 0, Nat.zero_le _, rfl, rfl, rfl⟩
    case round =>
      obtain ⟨k, m, hk, rfl, rfl, hall⟩ := hrel
      by_cases hlt : k < xs.length
      · have hlt2 : k < ys.length := by omega
        rw [← hl] at hy
        obtain ⟨b1, o1, rfl, _, q1⟩ := hx.pick hlt
        obtain ⟨b2, o2, rfl, _, q2⟩ := hy.pick hlt2
        clear hx hy
        have H := Lib.hid hl; clear hl
        by_cases he : xs[k] = ys[k]
        · have hn := take_step hlt hlt2 hall.out he
          have hb : (xs[k] != ys[k]) = false := by simp [he]
          clear he
          go_wp2_with fail
          go_quiet (fail)
          go_wp2_with fail
          go_roundw
          case rel => exact ⟨k + 1, _, by omega, by go_num, rfl, hn⟩
          case measure => simp [intOf]; omega
        · have hd : decide (xs = ys) = false := by simpa using ne_of_get hlt hlt2 he
          have HD := Lib.hid hd; clear hd
          have hb : (xs[k] != ys[k]) = true := by simp [he]
          clear he
          go_wp2_with fail
          go_quiet (fail)
          go_wp2_with fail
          go_ret
          exact ⟨ret_bool HD.out.symm, _, World.drewN_drewN _ _ _⟩
      · have hke : k = xs.length := by omega
        subst hke
        have hd : decide (xs = ys) = true := by
          have := hall.out
          rw [List.take_length, List.take_of_length_le (by omega)] at this
          simpa using this
        have HD := Lib.hid hd; clear hd hall
        go_wp2_with fail
        go_ret
        exact ⟨ret_bool HD.out.symm, _, rfl⟩
  · have hd : decide (xs = ys) = false := by simp; intro h; exact hl (by rw [h])
    have hb : ((xs.length : Int) != (ys.length : Int)) = true := by simp; omega
    have HD := Lib.hid hd; clear hd hl
    go_enter Tryd.func28, Tryd.ntmps28
    go_wp2_with fail
    go_ret
    exact ⟨ret_bool HD.out.symm, 0, rfl⟩


end Go.Proofs.YtciioiklkaannaaDoor
