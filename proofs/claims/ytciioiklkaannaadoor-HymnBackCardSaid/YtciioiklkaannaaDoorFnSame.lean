/- Whether two scripts are the same: lots.Same and the reference's. -/
import Derived.Test.YtciioiklkaannaaDoorFnEqT
namespace Go.Proofs.YtciioiklkaannaaDoor
open Go Go.RowKit
set_option linter.unusedSimpArgs false
set_option linter.unusedVariables false
set_option linter.unusedSectionVars false

theorem cfg_ne {a b c d e a' b' c' d' e' : Int} (h : ¬ (a = a' ∧ b = b' ∧ c = c' ∧ d = d' ∧ e = e')) : ¬ a = a' ∨ (a = a' ∧ ¬ b = b') ∨ (a = a' ∧ b = b' ∧ ¬ c = c') ∨ (a = a' ∧ b = b' ∧ c = c' ∧ ¬ d = d') ∨ (a = a' ∧ b = b' ∧ c = c' ∧ d = d' ∧ ¬ e = e') := by
  by_cases h1 : a = a' <;> by_cases h2 : b = b' <;> by_cases h3 : c = c' <;> by_cases h4 : d = d' <;> simp_all
theorem equalTasks_is {b : Bool} (xs ys : List PTask) (A A' : Option Addr) (c c' B B' : Nat) (w : World) (hx : Sl w B 5 A xs.length (tcells xs)) (hy : Sl w B' 5 A' ys.length (tcells ys))
    (lx : xs.length ≤ 9223372036854775807) (ly : ys.length ≤ 9223372036854775807) (h : decide (xs = ys) = b) :
    Calls Tryd.prog 27 #[.slice A xs.length c, .slice A' ys.length c'] w (RetQ b w) := h ▸ equalTasks_any xs ys A A' c c' B B' w hx hy lx ly
theorem equalInts_is {b : Bool} (xs ys : List Int) (A A' : Option Addr) (c c' B B' : Nat) (w : World) (hx : Sl w B 1 A xs.length (icells xs)) (hy : Sl w B' 1 A' ys.length (icells ys))
    (lx : xs.length ≤ 9223372036854775807) (ly : ys.length ≤ 9223372036854775807) (h : decide (xs = ys) = b) :
    Calls Tryd.prog 28 #[.slice A xs.length c, .slice A' ys.length c'] w (RetQ b w) := h ▸ equalInts_any xs ys A A' c c' B B' w hx hy lx ly

set_option maxHeartbeats 800000 in
theorem same_any (x y : PScr) (A1 A2 B1 B2 : Option Addr) (c1 c2 d1 d2 : Nat) (w : World)
    (ho : Sl w w.heap.size 5 A1 x.ops.length (tcells x.ops)) (hp : Sl w w.heap.size 1 A2 x.picks.length (icells x.picks))
    (ho' : Sl w w.heap.size 5 B1 y.ops.length (tcells y.ops)) (hp' : Sl w w.heap.size 1 B2 y.picks.length (icells y.picks))
    (lo : x.ops.length ≤ 9223372036854775807) (lp : x.picks.length ≤ 9223372036854775807) (lo' : y.ops.length ≤ 9223372036854775807) (lp' : y.picks.length ≤ 9223372036854775807) :
    Calls Tryd.prog 13 #[x.v A1 c1 A2 c2, y.v B1 d1 B2 d2] w (RetB (decide (x = y)) w) := by
  obtain ⟨st, en, th, sl, no, ops, picks⟩ := x
  obtain ⟨st', en', th', sl', no', ops', picks'⟩ := y
  simp only [PScr.v] at *
  have hB : Below w.heap.size w ((w.alloc (.cells #[.int .i64 st, .int .i64 en, .int .i64 th, .int .i64 sl, .int .i64 no, .slice A1 ops.length c1, .slice A2 picks.length c2] 38)).alloc (.cells #[.int .i64 st', .int .i64 en', .int .i64 th', .int .i64 sl', .int .i64 no', .slice B1 ops'.length d1, .slice B2 picks'.length d2] 38)) := ((Below.refl _ _).alloc (Nat.le_refl _) _).alloc (by simp) _
  by_cases hc : st = st' ∧ en = en' ∧ th = th' ∧ sl = sl' ∧ no = no'
  · obtain ⟨rfl, rfl, rfl, rfl, rfl⟩ := hc
    by_cases h1 : ops = ops'
    · have e1 : decide (ops = ops') = true := by simpa using h1
      have E1 := Lib.hid e1; clear e1
      by_cases h2 : picks = picks'
      · have e2 : decide (picks = picks') = true := by simpa using h2
        have E2 := Lib.hid e2; clear e2
        have H := Lib.hid (And.intro h1 h2); clear h1 h2
        go_enter Tryd.func13, Tryd.ntmps13
        go_wp2_with (first
          | (go_at_call 27; refine (equalTasks_is ops ops' _ _ _ _ _ _ _ (ho.below hB) (ho'.below hB) lo lo' E1.out).mono ?_; rintro e w1 ⟨rfl, k1, rfl⟩)
          | (go_at_call 28; refine (equalInts_is picks picks' _ _ _ _ _ _ _ ((hp.below hB).drewN _) ((hp'.below hB).drewN _) lp lp' E2.out).mono ?_; rintro e w1 ⟨rfl, k2, rfl⟩))
        go_ret
        exact ⟨ret_bool (by have := H.out; simp [this.1, this.2]), below_drewN hB _⟩
      · have e2 : decide (picks = picks') = false := by simpa using h2
        have E2 := Lib.hid e2; clear e2
        have H := Lib.hid (And.intro h1 h2); clear h1 h2
        go_enter Tryd.func13, Tryd.ntmps13
        go_wp2_with (first
          | (go_at_call 27; refine (equalTasks_is ops ops' _ _ _ _ _ _ _ (ho.below hB) (ho'.below hB) lo lo' E1.out).mono ?_; rintro e w1 ⟨rfl, k1, rfl⟩)
          | (go_at_call 28; refine (equalInts_is picks picks' _ _ _ _ _ _ _ ((hp.below hB).drewN _) ((hp'.below hB).drewN _) lp lp' E2.out).mono ?_; rintro e w1 ⟨rfl, k2, rfl⟩))
        go_ret
        exact ⟨ret_bool (by have := H.out; simp [this.2]), below_drewN hB _⟩
    · have e1 : decide (ops = ops') = false := by simpa using h1
      have E1 := Lib.hid e1; clear e1
      have H := Lib.hid h1; clear h1
      go_enter Tryd.func13, Tryd.ntmps13
      go_wp2_with (first
        | (go_at_call 27; refine (equalTasks_is ops ops' _ _ _ _ _ _ _ (ho.below hB) (ho'.below hB) lo lo' E1.out).mono ?_; rintro e w1 ⟨rfl, k1, rfl⟩))
      go_ret
      exact ⟨ret_bool (by have := H.out; simp [this]), below_drewN hB _⟩
  · have hd : decide ((⟨st, en, th, sl, no, ops, picks⟩ : PScr) = ⟨st', en', th', sl', no', ops', picks'⟩) = false := by
      simp only [decide_eq_false_iff_not, PScr.mk.injEq]
      rintro ⟨h1, h2, h3, h4, h5, _⟩
      exact hc ⟨h1, h2, h3, h4, h5⟩
    have H := Lib.hid hd; clear hd
    have hn := cfg_ne hc
    clear hc ho hp ho' hp' lo lp lo' lp'
    rcases hn with h1 | ⟨h1, h2⟩ | ⟨h1, h2, h3⟩ | ⟨h1, h2, h3, h4⟩ | ⟨h1, h2, h3, h4, h5⟩
    all_goals
      have H1 := h1
      go_enter Tryd.func13, Tryd.ntmps13
      go_wp2_with fail
      go_ret
      exact ⟨ret_bool H.out.symm, ((Below.refl _ _).alloc (Nat.le_refl _) _).alloc (by simp) _⟩

end Go.Proofs.YtciioiklkaannaaDoor
