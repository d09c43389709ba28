/- Whether two slices of pairs read as the same list: slices.Equal, the reference's Same. -/
import Derived.Test.YtlfbgpncdahglaaDoorFnEq
import Derived.Laws.StructEq
namespace Go.Proofs.YtlfbgpncdahglaaDoor
open Go Go.RowKit
set_option linter.unusedSimpArgs false
set_option linter.unusedVariables false
set_option linter.unusedSectionVars false

theorem pair_eq {t u : Int × Int} (h : t = u) : t.1 = u.1 ∧ t.2 = u.2 := by subst h; exact ⟨rfl, rfl⟩
theorem pair_ne {t u : Int × Int} (h : t ≠ u) : ¬ t.1 = u.1 ∨ (t.1 = u.1 ∧ ¬ t.2 = u.2) := by
  by_cases h1 : t.1 = u.1
  · exact Or.inr ⟨h1, fun h2 => h (Prod.ext h1 h2)⟩
  · exact Or.inl h1

set_option maxHeartbeats 800000 in
theorem equalPairs_any (xs ys : List (Int × Int)) (A A' : Option Addr) (c c' B B' : Nat) (w : World) (hx : Sl w B 2 A xs.length (pcells xs)) (hy : Sl w B' 2 A' ys.length (pcells ys))
    (lx : xs.length ≤ 9223372036854775807) (ly : ys.length ≤ 9223372036854775807) :
    Calls Tryd.prog 44 #[.slice A xs.length c, .slice A' ys.length c'] w (RetQ (decide (xs = ys)) w) := by
  by_cases hl : ys.length = xs.length
  · rw [hl] at ly hy ⊢
    go_enter Tryd.func44, Tryd.ntmps44
    go_wp2_with fail
    go_loopw [13] (fun i wr => ∃ k m : Nat, k ≤ xs.length ∧ i = .int .i64 k ∧ w.drewN m = wr ∧ Hid (xs.take k = ys.take k)) (fun i _ => xs.length - (intOf i).toNat)
    case atStart => exact ⟨0, 0, Nat.zero_le _, rfl, rfl, rfl⟩
    case round =>
      obtain ⟨k, m, hk, rfl, rfl, hall⟩ := hrel
      by_cases hlt : k < xs.length
      · have hlt2 : k < ys.length := by omega
        rw [← hl] at hy
        obtain ⟨b1, o1, rfl, _, q10, q11⟩ := hx.pair hlt
        obtain ⟨b2, o2, rfl, _, q20, q21⟩ := hy.pair hlt2
        clear hx hy
        have H := Lib.hid hl; clear hl
        by_cases he : xs[k] = ys[k]
        · have hn := take_step hlt hlt2 hall.out he
          obtain ⟨d1, d2⟩ := pair_eq he
          clear he
          go_wp2_with fail
          go_quiet (fail)
          go_wp2_with fail
          go_roundw
          case rel => exact ⟨k + 1, _, by omega, by go_num, rfl, hn⟩
          case measure => simp [intOf]; omega
        · have hd : decide (xs = ys) = false := by simpa using ne_of_get hlt hlt2 he
          have HD := Lib.hid hd; clear hd
          have hn := pair_ne he
          clear he
          rcases hn with d1 | ⟨d1, d2⟩
          all_goals
            go_wp2_with fail
            go_quiet (fail)
            go_wp2_with fail
            go_ret
            exact ⟨ret_bool HD.out.symm, _, World.drewN_drewN _ _ _⟩
      · have hke : k = xs.length := by omega
        subst hke
        have hd : decide (xs = ys) = true := by
          have := hall.out
          rw [List.take_length, List.take_of_length_le (by omega)] at this
          simpa using this
        have HD := Lib.hid hd; clear hd hall
        go_wp2_with fail
        go_ret
        exact ⟨ret_bool HD.out.symm, _, rfl⟩
  · have hd : decide (xs = ys) = false := by simp; intro h; exact hl (by rw [h])
    have hb : ((xs.length : Int) != (ys.length : Int)) = true := by simp; omega
    have HD := Lib.hid hd; clear hd hl
    go_enter Tryd.func44, Tryd.ntmps44
    go_wp2_with fail
    go_ret
    exact ⟨ret_bool HD.out.symm, 0, rfl⟩


set_option maxHeartbeats 800000 in
theorem samePairs_any (xs ys : List (Int × Int)) (A A' : Option Addr) (c c' B B' : Nat) (w : World) (hx : Sl w B 2 A xs.length (pcells xs)) (hy : Sl w B' 2 A' ys.length (pcells ys))
    (lx : xs.length ≤ 9223372036854775807) (ly : ys.length ≤ 9223372036854775807) :
    Calls Tryd.prog 20 #[.slice A xs.length c, .slice A' ys.length c'] w (RetQ (decide (xs = ys)) w) := by
  by_cases hl : ys.length = xs.length
  · rw [hl] at ly hy ⊢
    go_enter Tryd.func20, Tryd.ntmps20
    go_wp2_with fail
    go_loopw [5] (fun i wr => ∃ k m : Nat, k ≤ xs.length ∧ i = .int .i64 k ∧ w.drewN m = wr ∧ Hid (xs.take k = ys.take k)) (fun i _ => xs.length - (intOf i).toNat)
    case atStart => exact ⟨0, 0, Nat.zero_le _, rfl, rfl, rfl⟩
    case round =>
      obtain ⟨k, m, hk, rfl, rfl, hall⟩ := hrel
      by_cases hlt : k < xs.length
      · have hlt2 : k < ys.length := by omega
        rw [← hl] at hy
        obtain ⟨b1, o1, rfl, _, q10, q11⟩ := hx.pair hlt
        obtain ⟨b2, o2, rfl, _, q20, q21⟩ := hy.pair hlt2
        clear hx hy
        have H := Lib.hid hl; clear hl
        by_cases he : xs[k] = ys[k]
        · have hn := take_step hlt hlt2 hall.out he
          obtain ⟨d1, d2⟩ := pair_eq he
          clear he
          go_wp2_with fail
          go_quiet (fail)
          go_wp2_with fail
          go_roundw
          case rel => exact ⟨k + 1, _, by omega, by go_num, rfl, hn⟩
          case measure => simp [intOf]; omega
        · have hd : decide (xs = ys) = false := by simpa using ne_of_get hlt hlt2 he
          have HD := Lib.hid hd; clear hd
          have hn := pair_ne he
          clear he
          rcases hn with d1 | ⟨d1, d2⟩
          all_goals
            go_wp2_with fail
            go_quiet (fail)
            go_wp2_with fail
            go_ret
            exact ⟨ret_bool HD.out.symm, _, World.drewN_drewN _ _ _⟩
      · have hke : k = xs.length := by omega
        subst hke
        have hd : decide (xs = ys) = true := by
          have := hall.out
          rw [List.take_length, List.take_of_length_le (by omega)] at this
          simpa using this
        have HD := Lib.hid hd; clear hd hall
        go_wp2_with fail
        go_ret
        exact ⟨ret_bool HD.out.symm, _, rfl⟩
  · have hd : decide (xs = ys) = false := by simp; intro h; exact hl (by rw [h])
    have hb : ((xs.length : Int) != (ys.length : Int)) = true := by simp; omega
    have HD := Lib.hid hd; clear hd hl
    go_enter Tryd.func20, Tryd.ntmps20
    go_wp2_with fail
    go_ret
    exact ⟨ret_bool HD.out.symm, 0, rfl⟩


end Go.Proofs.YtlfbgpncdahglaaDoor
