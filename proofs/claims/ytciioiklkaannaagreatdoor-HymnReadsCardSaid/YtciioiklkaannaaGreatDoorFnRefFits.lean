/- Whether an operation fits a structure, by the reference. -/
import Derived.Test.YtciioiklkaannaaGreatDoorFnRefGood
import Derived.Test.YtciioiklkaannaaGreatDoorFnA
import Derived.Deep.DeepMust
namespace Go.Proofs.YtciioiklkaannaaGreatDoor
open Go Go.RowKit
set_option linter.unusedSimpArgs false
set_option linter.unusedVariables false
set_option linter.unusedSectionVars false

theorem RetPt.yes {w w' : World} {e : Ending} (h : RetPt true w e w') : ∃ p, e = .returned (.pointer (some p)) ∧ Below w.heap.size w w' := by
  obtain ⟨⟨v, rfl, hv⟩, hb⟩ := h
  obtain ⟨p, rfl⟩ := (by simpa using hv : ∃ p, v = .pointer (some p))
  exact ⟨p, rfl, hb⟩
theorem RetPt.no {w w' : World} {e : Ending} (h : RetPt false w e w') : e = .returned (.pointer none) ∧ Below w.heap.size w w' := by
  obtain ⟨⟨v, rfl, hv⟩, hb⟩ := h
  obtain rfl : v = .pointer none := by simpa using hv
  exact ⟨rfl, hb⟩
theorem ref07Start_is {b : Bool} (o : POp) (w : World) (h : fitsB 1 o = b) : Calls Tryz.prog 32 #[o.v] w (RetPt b w) := h ▸ ref07Start_any o w
theorem ref08Start_is {b : Bool} (o : POp) (w : World) (h : fitsB 2 o = b) : Calls Tryz.prog 33 #[o.v] w (RetPt b w) := h ▸ ref08Start_any o w
theorem ref09Good_is {b : Bool} (o : POp) (w : World) (h : goodLB o = b) : Calls Tryz.prog 34 #[o.v] w (RetB b w) := h ▸ ref09Good_any o w
theorem ref11Good_is {b : Bool} (o : POp) (w : World) (h : goodSB o = b) : Calls Tryz.prog 35 #[o.v] w (RetB b w) := h ▸ ref11Good_any o w

theorem fits5 (o : POp) : fitsB 5 o = goodSB o := by
  rw [Bool.eq_iff_iff, fitsB_true, goodSB_true, FitsP, goodS]
  omega
theorem fits34 (st : Int) (o : POp) (h : st = 3 ∨ st = 4) : fitsB st o = (goodLB o && decide (o.tall = 0)) := by
  rw [Bool.eq_iff_iff, Bool.and_eq_true, fitsB_true, goodLB_true, FitsP, goodL, decide_eq_true_iff]
  omega
theorem fits_out (st : Int) (o : POp) (h : ¬ (1 ≤ st ∧ st ≤ 5)) : fitsB st o = false := by
  rw [Bool.eq_false_iff, Ne, fitsB_true, FitsP]
  omega

set_option maxHeartbeats 800000 in
theorem refFits_any (st : Int) (o : POp) (w : World) :
    Calls Tryz.prog 11 #[.int .i64 st, o.v] w (RetB (fitsB st o) w) := by
  by_cases hst : 1 ≤ st ∧ st ≤ 5
  · have h5 : st = 1 ∨ st = 2 ∨ (st = 3 ∨ st = 4) ∨ st = 5 := by omega
    clear hst
    rcases h5 with rfl | rfl | h34 | rfl
    · cases hf : fitsB 1 o
      · have H := Lib.hid hf; clear hf
        obtain ⟨kind, key, val, tall⟩ := o
        simp only [POp.v] at *
        go_enter Tryz.func11, Tryz.ntmps11
        go_wp2_with (go_at_call 32; refine (ref07Start_is ⟨kind, key, val, tall⟩ _ H.out).mono ?_; rintro e w1 hp; obtain ⟨rfl, hb1⟩ := hp.no)
        go_ret
        exact ⟨rfl, ((Below.refl _ _).alloc (Nat.le_refl _) _).trans (hb1.mono (by simp))⟩
      · have H := Lib.hid hf; clear hf
        obtain ⟨kind, key, val, tall⟩ := o
        simp only [POp.v] at *
        go_enter Tryz.func11, Tryz.ntmps11
        go_wp2_with (go_at_call 32; refine (ref07Start_is ⟨kind, key, val, tall⟩ _ H.out).mono ?_; rintro e w1 hp; obtain ⟨p, rfl, hb1⟩ := hp.yes)
        go_ret
        exact ⟨rfl, ((Below.refl _ _).alloc (Nat.le_refl _) _).trans (hb1.mono (by simp))⟩
    · cases hf : fitsB 2 o
      · have H := Lib.hid hf; clear hf
        obtain ⟨kind, key, val, tall⟩ := o
        simp only [POp.v] at *
        go_enter Tryz.func11, Tryz.ntmps11
        go_wp2_with (go_at_call 33; refine (ref08Start_is ⟨kind, key, val, tall⟩ _ H.out).mono ?_; rintro e w1 hp; obtain ⟨rfl, hb1⟩ := hp.no)
        go_ret
        exact ⟨rfl, ((Below.refl _ _).alloc (Nat.le_refl _) _).trans (hb1.mono (by simp))⟩
      · have H := Lib.hid hf; clear hf
        obtain ⟨kind, key, val, tall⟩ := o
        simp only [POp.v] at *
        go_enter Tryz.func11, Tryz.ntmps11
        go_wp2_with (go_at_call 33; refine (ref08Start_is ⟨kind, key, val, tall⟩ _ H.out).mono ?_; rintro e w1 hp; obtain ⟨p, rfl, hb1⟩ := hp.yes)
        go_ret
        exact ⟨rfl, ((Below.refl _ _).alloc (Nat.le_refl _) _).trans (hb1.mono (by simp))⟩
    · have hf := fits34 st o h34
      cases hg : goodLB o
      · rw [hg, Bool.false_and] at hf
        rw [hf]
        have H := Lib.hid hg; clear hg hf
        obtain ⟨kind, key, val, tall⟩ := o
        simp only [POp.v] at *
        rcases h34 with rfl | rfl
        all_goals
          go_enter Tryz.func11, Tryz.ntmps11
          go_wp2_with (go_at_call 34; refine (ref09Good_is ⟨kind, key, val, tall⟩ _ H.out).mono ?_; rintro e w1 ⟨rfl, hb1⟩; obtain ⟨hc1, hf1⟩ := bcell hb1)
          go_ret
          exact ⟨rfl, ((Below.refl _ _).alloc (Nat.le_refl _) _).trans (hb1.mono (by simp))⟩
      · rw [hg, Bool.true_and] at hf
        rw [hf]
        have H := Lib.hid hg; clear hg hf
        obtain ⟨kind, key, val, tall⟩ := o
        simp only [POp.v] at *
        rcases h34 with rfl | rfl
        all_goals
          go_enter Tryz.func11, Tryz.ntmps11
          go_wp2_with (go_at_call 34; refine (ref09Good_is ⟨kind, key, val, tall⟩ _ H.out).mono ?_; rintro e w1 ⟨rfl, hb1⟩; obtain ⟨hc1, hf1⟩ := bcell hb1)
          go_ret
          refine ⟨ret_bool ?_, ((Below.refl _ _).alloc (Nat.le_refl _) _).trans (hb1.mono (by simp))⟩; first | rfl | (rw [beq_eq_decide])
    · rw [fits5]
      obtain ⟨kind, key, val, tall⟩ := o
      simp only [POp.v] at *
      go_enter Tryz.func11, Tryz.ntmps11
      go_wp2_with (go_at_call 35; refine (ref11Good_any ⟨kind, key, val, tall⟩ _).mono ?_; rintro e w1 ⟨rfl, hb1⟩)
      go_ret
      exact ⟨rfl, ((Below.refl _ _).alloc (Nat.le_refl _) _).trans (hb1.mono (by simp))⟩
  · rw [fits_out st o hst]
    obtain ⟨kind, key, val, tall⟩ := o
    simp only [POp.v] at *
    have e1 : (st == 1) = false := by simp; omega
    have e2 : (st == 2) = false := by simp; omega
    have e3 : (st == 3) = false := by simp; omega
    have e4 : (st == 4) = false := by simp; omega
    have e5 : (st == 5) = false := by simp; omega
    clear hst
    go_enter Tryz.func11, Tryz.ntmps11
    go_wp2_with fail
    go_ret
    exact ⟨rfl, (Below.refl _ _).alloc (Nat.le_refl _) _⟩

end Go.Proofs.YtciioiklkaannaaGreatDoor
