/- Whether a script can be run, by the reference. -/
import Derived.Test.YtciioiklkaannaaGreatDoorFnGood
import Derived.Test.YtciioiklkaannaaGreatDoorFnRefFits
namespace Go.Proofs.YtciioiklkaannaaGreatDoor
open Go Go.RowKit
set_option linter.unusedSimpArgs false
set_option linter.unusedVariables false
set_option linter.unusedSectionVars false

set_option maxHeartbeats 1000000 in
theorem refGood_any (x : PScr) (A A' : Option Addr) (c c' : Nat) (w : World)
    (ho : Sl w w.heap.size 5 A x.ops.length (tcells x.ops)) (hp : Sl w w.heap.size 1 A' x.picks.length (icells x.picks))
    (lo : x.ops.length ≤ 9223372036854775807) (lp : x.picks.length ≤ 9223372036854775807) :
    Calls Tryz.prog 8 #[x.v A c A' c'] w (RetB (goodB x) w) := by
  obtain ⟨st, en, th, sl, no, ops, picks⟩ := x
  simp only [PScr.v] at *
  cases hg : goodCfg st en th sl no
  · go_enter Tryz.func8, Tryz.ntmps8
    go_wp2_with (go_at_call 26; refine (ref14Good_any st en th sl no _).mono ?_; rintro e w1 ⟨rfl, hb1⟩; obtain ⟨hc1, hf1⟩ := bcell hb1)
    go_ret
    have hB : Below w.heap.size w w1 := ((Below.refl _ _).alloc (Nat.le_refl _) _).trans (hb1.mono (by simp))
    exact ⟨ret_bool (by simp [goodB, hg]), hB⟩
  · by_cases hl1 : ops.length ≤ 64
    · by_cases hl2 : picks.length ≤ 4096
      · have d1 : decide ((64 : Int) < (ops.length : Int)) = false := by simp; omega
        have d2 : decide ((4096 : Int) < (picks.length : Int)) = false := by simp; omega
        go_enter Tryz.func8, Tryz.ntmps8
        go_wp2_with (go_at_call 26; refine (ref14Good_any st en th sl no _).mono ?_; rintro e w1 ⟨rfl, hb1⟩; obtain ⟨hc1, hf1⟩ := bcell hb1)
        have hB : Below w.heap.size w w1 := ((Below.refl _ _).alloc (Nat.le_refl _) _).trans (hb1.mono (by simp))
        have hsz : w.heap.size + 1 ≤ w1.heap.size := by have := hb1.size; simp at this; omega
        have x1 : w1.cell? ⟨w.heap.size, 5, none⟩ = some (.slice A ops.length c) := by rw [hc1 _ _ (by simp)]; simp
        have x2 : w1.cell? ⟨w.heap.size, 6, none⟩ = some (.slice A' picks.length c') := by rw [hc1 _ _ (by simp)]; simp
        have y0 : w1.cell? ⟨w.heap.size, 0, none⟩ = some (.int .i64 st) := by rw [hc1 _ _ (by simp)]; simp
        have y2 : w1.cell? ⟨w.heap.size, 2, none⟩ = some (.int .i64 th) := by rw [hc1 _ _ (by simp)]; simp
        clear hc1 hf1 hb1 d1 d2
        go_loopw [3] (fun i wr => ∃ k : Nat, k ≤ ops.length ∧ i = .int .i64 k ∧ Below w1.heap.size w1 wr ∧ Hid ((ops.take k).all (taskOk st th) = true)) (fun i _ => ops.length - (intOf i).toNat)
        case atStart => exact ⟨0, Nat.zero_le _, rfl, Below.refl _ _, rfl⟩
        case round =>
          obtain ⟨k, hk, rfl, hbr, hall⟩ := hrel
          have hsr := hbr.size
          have hBr : Below w.heap.size w wr := hB.trans (hbr.mono (by omega))
          have x1r : wr.cell? ⟨w.heap.size, 5, none⟩ = some (.slice A ops.length c) := (hbr.cell (p := ⟨w.heap.size, 5, none⟩) (by simp; omega)).trans x1
          have y2r : wr.cell? ⟨w.heap.size, 2, none⟩ = some (.int .i64 th) := (hbr.cell (p := ⟨w.heap.size, 2, none⟩) (by simp; omega)).trans y2
          by_cases hlt : k < ops.length
          · obtain ⟨ob, off, rfl, hob, c0, c1, c2, c3, c4⟩ := (ho.below hBr).task hlt
            have y0r : wr.cell? ⟨w.heap.size, 0, none⟩ = some (.int .i64 st) := (hbr.cell (p := ⟨w.heap.size, 0, none⟩) (by simp; omega)).trans y0
            have s1 : ob < wr.heap.size := by omega
            have s2 : w.heap.size < wr.heap.size := by omega
            clear y0 y2 x1 x2 ho hp
            cases hf : fitsB st (ops[k]).op
            · have hbad : goodB ⟨st, en, th, sl, no, ops, picks⟩ = false := goodB_bad hlt (by simp [taskOk, hf])
              have HB := Lib.hid hbad; clear hbad
              go_wp2_with (go_at_call 11; refine (refFits_any st (ops[k]).op _).mono ?_; rintro e w3 ⟨rfl, hb3⟩)
              all_goals
                go_ret
                first
                  | exact ⟨ret_bool HB.out.symm, (hBr.alloc (by omega) _).trans (hb3.mono (by simp; omega))⟩
                  | exact ⟨ret_bool HB.out.symm, hBr.alloc (by omega) _⟩
            · by_cases ht : 0 ≤ (ops[k]).thread ∧ (ops[k]).thread < th
              · obtain ⟨ht1, ht2⟩ := ht
                have hok := all_step hlt hall.out (taskOk_mk ht1 ht2 hf)
                go_wp2_with (go_at_call 11; refine (refFits_any st (ops[k]).op _).mono ?_; rintro e w3 ⟨rfl, hb3⟩)
                go_roundw
                case rel => exact ⟨k + 1, by omega, by go_num, hbr.trans (((Below.refl _ _).alloc (by omega) _).trans (hb3.mono (by simp; omega))), hok⟩
                case measure => simp [intOf]; omega
              · have hbad : goodB ⟨st, en, th, sl, no, ops, picks⟩ = false := goodB_bad hlt (taskOk_no ht)
                have HB := Lib.hid hbad; clear hbad
                go_wp2_with (go_at_call 11; refine (refFits_any st (ops[k]).op _).mono ?_; rintro e w3 ⟨rfl, hb3⟩)
                all_goals first
                  | (exfalso; omega)
                  | (go_ret; exact ⟨ret_bool HB.out.symm, hBr.alloc (by omega) _⟩)
          · have hke : k = ops.length := by omega
            subst hke
            have hallT : ops.all (taskOk st th) = true := by have := hall.out; rwa [List.take_length] at this
            have HT := Lib.hid hallT; clear hallT hall
            have x2r : wr.cell? ⟨w.heap.size, 6, none⟩ = some (.slice A' picks.length c') := (hbr.cell (p := ⟨w.heap.size, 6, none⟩) (by simp; omega)).trans x2
            clear x1 x2 y0 y2 hbr hB
            go_wp2_with fail
            go_loopw [5] (fun i wq => ∃ k m : Nat, k ≤ picks.length ∧ i = .int .i64 k ∧ wr.drewN m = wq ∧ Hid ((picks.take k).all (pickOk th) = true)) (fun i _ => picks.length - (intOf i).toNat)
            case atStart => exact ⟨0, 0, Nat.zero_le _, rfl, rfl, rfl⟩
            case round =>
              obtain ⟨k, m, hk, rfl, rfl, hall⟩ := hrel
              by_cases hlt : k < picks.length
              · obtain ⟨pb, off, rfl, hob, c0⟩ := (hp.below hBr).pick hlt
                by_cases ht0 : 0 ≤ picks[k]
                · have g0 : decide (picks[k] < 0) = false := by simp; omega
                  by_cases ht : picks[k] < th
                  · have hok := all_step hlt hall.out (by simp [pickOk, ht0, ht] : pickOk th picks[k] = true)
                    have g1 : decide (th ≤ picks[k]) = false := by simp; omega
                    go_wp2_with fail
                    go_quiet (fail)
                    go_wp2_with fail
                    go_roundw
                    case rel => exact ⟨k + 1, _, by omega, by go_num, rfl, hok⟩
                    case measure => simp [intOf]; omega
                  · have hbad : goodB ⟨st, en, th, sl, no, ops, picks⟩ = false := goodB_badp hlt (pickOk_no (by omega))
                    have HB := Lib.hid hbad; clear hbad
                    have g1 : decide (th ≤ picks[k]) = true := by simp; omega
                    go_wp2_with fail
                    go_quiet (fail)
                    go_wp2_with fail
                    go_ret
                    exact ⟨ret_bool HB.out.symm, below_drewN (below_drewN hBr _) _⟩
                · have hbad : goodB ⟨st, en, th, sl, no, ops, picks⟩ = false := goodB_badp hlt (pickOk_no (by omega))
                  have HB := Lib.hid hbad; clear hbad
                  have g0 : decide (picks[k] < 0) = true := by simp; omega
                  go_wp2_with fail
                  go_quiet (fail)
                  go_wp2_with fail
                  go_ret
                  exact ⟨ret_bool HB.out.symm, below_drewN (below_drewN hBr _) _⟩
              · have hke : k = picks.length := by omega
                subst hke
                have hallP : picks.all (pickOk th) = true := by have := hall.out; rwa [List.take_length] at this
                have hyes := goodB_yes hg hl1 hl2 HT.out hallP
                have HY := Lib.hid hyes; clear hyes hallP hall
                go_wp2_with fail
                go_ret
                exact ⟨ret_bool HY.out.symm, below_drewN hBr _⟩
      · have hbad : goodB ⟨st, en, th, sl, no, ops, picks⟩ = false := goodB_len (by omega)
        have HB := Lib.hid hbad; clear hbad
        have d1 : decide ((64 : Int) < (ops.length : Int)) = false := by simp; omega
        have d2 : decide ((4096 : Int) < (picks.length : Int)) = true := by simp; omega
        go_enter Tryz.func8, Tryz.ntmps8
        go_wp2_with (go_at_call 26; refine (ref14Good_any st en th sl no _).mono ?_; rintro e w1 ⟨rfl, hb1⟩; obtain ⟨hc1, hf1⟩ := bcell hb1)
        go_ret
        have hB : Below w.heap.size w w1 := ((Below.refl _ _).alloc (Nat.le_refl _) _).trans (hb1.mono (by simp))
        exact ⟨ret_bool HB.out.symm, hB⟩
    · have hbad : goodB ⟨st, en, th, sl, no, ops, picks⟩ = false := goodB_len (by omega)
      have HB := Lib.hid hbad; clear hbad
      have d1 : decide ((64 : Int) < (ops.length : Int)) = true := by simp; omega
      go_enter Tryz.func8, Tryz.ntmps8
      go_wp2_with (go_at_call 26; refine (ref14Good_any st en th sl no _).mono ?_; rintro e w1 ⟨rfl, hb1⟩; obtain ⟨hc1, hf1⟩ := bcell hb1)
      go_ret
      have hB : Below w.heap.size w w1 := ((Below.refl _ _).alloc (Nat.le_refl _) _).trans (hb1.mono (by simp))
      exact ⟨ret_bool HB.out.symm, hB⟩

end Go.Proofs.YtciioiklkaannaaGreatDoor
