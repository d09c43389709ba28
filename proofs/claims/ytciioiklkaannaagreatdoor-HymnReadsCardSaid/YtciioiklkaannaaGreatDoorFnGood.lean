/- Whether a script can be run: lots.Good. -/
import Derived.Test.YtciioiklkaannaaGreatDoorFnEqZ
import Derived.Test.YtciioiklkaannaaGreatDoorFnFits
namespace Go.Proofs.YtciioiklkaannaaGreatDoor
open Go Go.RowKit
set_option linter.unusedSimpArgs false
set_option linter.unusedVariables false
set_option linter.unusedSectionVars false

theorem all_step {α : Type} {l : List α} {f : α → Bool} {k : Nat} (hk : k < l.length) (h : (l.take k).all f = true) (h1 : f l[k] = true) : Hid ((l.take (k + 1)).all f = true) := by
  show (l.take (k + 1)).all f = true
  rw [List.take_succ_eq_append_getElem hk, List.all_append, h]
  simpa using h1
theorem all_bad {α : Type} {l : List α} {f : α → Bool} {k : Nat} (hk : k < l.length) (h1 : f l[k] = false) : l.all f = false := by
  rw [List.all_eq_false]
  exact ⟨l[k], List.getElem_mem hk, by simp [h1]⟩
theorem taskOk_no {st th : Int} {t : PTask} (h : ¬ (0 ≤ t.thread ∧ t.thread < th)) : taskOk st th t = false := by
  rw [Bool.eq_false_iff]
  intro hh
  simp [taskOk] at hh
  exact h hh.1
theorem pickOk_no {th p : Int} (h : ¬ (0 ≤ p ∧ p < th)) : pickOk th p = false := by
  rw [Bool.eq_false_iff]
  intro hh
  simp [pickOk] at hh
  exact h hh
theorem goodB_bad {st en th sl no : Int} {ops : List PTask} {picks : List Int} {k : Nat} (hk : k < ops.length) (h : taskOk st th ops[k] = false) : goodB ⟨st, en, th, sl, no, ops, picks⟩ = false := by
  simp only [goodB, all_bad hk h, Bool.and_false, Bool.false_and]
theorem goodB_badp {st en th sl no : Int} {ops : List PTask} {picks : List Int} {k : Nat} (hk : k < picks.length) (h : pickOk th picks[k] = false) : goodB ⟨st, en, th, sl, no, ops, picks⟩ = false := by
  simp only [goodB, all_bad hk h, Bool.and_false]
theorem goodB_len {st en th sl no : Int} {ops : List PTask} {picks : List Int} (h : 64 < ops.length ∨ 4096 < picks.length) : goodB ⟨st, en, th, sl, no, ops, picks⟩ = false := by
  rcases h with h | h
  · simp [goodB, show ¬ ops.length ≤ 64 by omega]
  · simp [goodB, show ¬ picks.length ≤ 4096 by omega]
theorem goodB_yes {st en th sl no : Int} {ops : List PTask} {picks : List Int} (h : goodCfg st en th sl no = true) (h1 : ops.length ≤ 64) (h2 : picks.length ≤ 4096)
    (h3 : ops.all (taskOk st th) = true) (h4 : picks.all (pickOk th) = true) : goodB ⟨st, en, th, sl, no, ops, picks⟩ = true := by
  simp only [goodB, h, h1, h2, h3, h4, decide_true, Bool.and_self]
theorem taskOk_mk {st th : Int} {t : PTask} (h1 : 0 ≤ t.thread) (h2 : t.thread < th) (h3 : fitsB st t.op = true) : taskOk st th t = true := by
  simp [taskOk, h1, h2, h3]

set_option maxHeartbeats 800000 in
theorem good_any (x : PScr) (A A' : Option Addr) (c c' : Nat) (w : World) (T : TypeId) (u : Value) (hE : w.cell? ⟨0, 0, none⟩ = some (.iface T u))
    (ho : Sl w w.heap.size 5 A x.ops.length (tcells x.ops)) (hp : Sl w w.heap.size 1 A' x.picks.length (icells x.picks))
    (lo : x.ops.length ≤ 9223372036854775807) (lp : x.picks.length ≤ 9223372036854775807) :
    Calls Tryz.prog 18 #[x.v A c A' c'] w (RetB (goodB x) w) := by
  obtain ⟨st, en, th, sl, no, ops, picks⟩ := x
  simp only [PScr.v] at *
  have hlt0 := World.block_lt_of_cell? w _ hE
  simp at hlt0
  cases hg : goodCfg st en th sl no
  · go_enter Tryz.func18, Tryz.ntmps18
    go_wp2_with (go_at_call 43; refine (parishGood_any st en th sl no _).mono ?_; rintro e w1 ⟨rfl, hb1⟩; obtain ⟨hc1, hf1⟩ := bcell hb1)
    go_ret
    have hB : Below w.heap.size w w1 := (((Below.refl _ _).alloc (Nat.le_refl _) _).alloc (by simp) _).trans (hb1.mono (by simp; omega))
    exact ⟨ret_bool (by simp [goodB, hg]), hB⟩
  · by_cases hl1 : ops.length ≤ 64
    · by_cases hl2 : picks.length ≤ 4096
      · have d1 : decide ((64 : Int) < (ops.length : Int)) = false := by simp; omega
        have d2 : decide ((4096 : Int) < (picks.length : Int)) = false := by simp; omega
        go_enter Tryz.func18, Tryz.ntmps18
        go_wp2_with (go_at_call 43; refine (parishGood_any st en th sl no _).mono ?_; rintro e w1 ⟨rfl, hb1⟩; obtain ⟨hc1, hf1⟩ := bcell hb1)
        have hB : Below w.heap.size w w1 := (((Below.refl _ _).alloc (Nat.le_refl _) _).alloc (by simp) _).trans (hb1.mono (by simp; omega))
        have hsz : w.heap.size + 2 ≤ w1.heap.size := by have := hb1.size; simp at this; omega
        have x1 : w1.cell? ⟨w.heap.size, 5, none⟩ = some (.slice A ops.length c) := by rw [hc1 _ _ (by simp; omega)]; simp
        have x2 : w1.cell? ⟨w.heap.size, 6, none⟩ = some (.slice A' picks.length c') := by rw [hc1 _ _ (by simp; omega)]; simp
        have y0 : w1.cell? ⟨w.heap.size + 1, 0, none⟩ = some (.int .i64 st) := by rw [hc1 _ _ (by simp)]; simp
        have y2 : w1.cell? ⟨w.heap.size + 1, 2, none⟩ = some (.int .i64 th) := by rw [hc1 _ _ (by simp)]; simp
        clear hc1 hf1 hb1 d1 d2
        go_loopw [28] (fun i wr => ∃ k : Nat, k ≤ ops.length ∧ i = .int .i64 k ∧ Below w1.heap.size w1 wr ∧ Hid ((ops.take k).all (taskOk st th) = true)) (fun i _ => ops.length - (intOf i).toNat)
        case atStart => exact ⟨0, Nat.zero_le _, rfl, Below.refl _ _, rfl⟩
        case round =>
          obtain ⟨k, hk, rfl, hbr, hall⟩ := hrel
          by_cases hlt : k < ops.length
          · obtain ⟨ob, off, rfl, hob, c0, c1, c2, c3, c4⟩ := (ho.below (hB.trans (hbr.mono (by omega)))).task hlt
            have hE' : ∀ o : Obj, (wr.alloc o).cell? ⟨0, 0, none⟩ = some (.iface T u) := fun o => (World.cell?_alloc_lt wr o _ (by have := hbr.size; simp; omega)).trans (((hB.trans (hbr.mono (by omega))).cell (p := ⟨0, 0, none⟩) hlt0).trans hE)
            have y0r : wr.cell? ⟨w.heap.size + 1, 0, none⟩ = some (.int .i64 st) := (hbr.cell (p := ⟨w.heap.size + 1, 0, none⟩) (by simp; omega)).trans y0
            have y2r : wr.cell? ⟨w.heap.size + 1, 2, none⟩ = some (.int .i64 th) := (hbr.cell (p := ⟨w.heap.size + 1, 2, none⟩) (by simp; omega)).trans y2
            have hsr := hbr.size
            have s1 : ob < wr.heap.size := by omega
            have s2 : w.heap.size + 1 < wr.heap.size := by omega
            clear y0 y2 x1 ho
            have hBr : Below w.heap.size w wr := hB.trans (hbr.mono (by omega))
            cases hf : fitsB st (ops[k]).op
            · have hbad : goodB ⟨st, en, th, sl, no, ops, picks⟩ = false := goodB_bad hlt (by simp [taskOk, hf])
              have HB := Lib.hid hbad; clear hbad
              go_wp2_with (go_at_call 24; refine (fits_any st (ops[k]).op _ T u (hE' _)).mono ?_; rintro e w3 ⟨rfl, hb3⟩)
              all_goals
                go_ret
                first
                  | exact ⟨ret_bool HB.out.symm, (hBr.alloc (by omega) _).trans (hb3.mono (by simp; omega))⟩
                  | exact ⟨ret_bool HB.out.symm, hBr.alloc (by omega) _⟩
            · by_cases ht : 0 ≤ (ops[k]).thread ∧ (ops[k]).thread < th
              · obtain ⟨ht1, ht2⟩ := ht
                have hok := all_step hlt hall.out (taskOk_mk ht1 ht2 hf)
                go_wp2_with (go_at_call 24; refine (fits_any st (ops[k]).op _ T u (hE' _)).mono ?_; rintro e w3 ⟨rfl, hb3⟩)
                go_roundw
                case rel => exact ⟨k + 1, by omega, by go_num, hbr.trans (((Below.refl _ _).alloc (by omega) _).trans (hb3.mono (by simp; omega))), hok⟩
                case measure => simp [intOf]; omega
              · have hbad : goodB ⟨st, en, th, sl, no, ops, picks⟩ = false := goodB_bad hlt (taskOk_no ht)
                have HB := Lib.hid hbad; clear hbad
                go_wp2_with (go_at_call 24; refine (fits_any st (ops[k]).op _ T u (hE' _)).mono ?_; rintro e w3 ⟨rfl, hb3⟩)
                all_goals first
                  | (exfalso; omega)
                  | (go_ret; exact ⟨ret_bool HB.out.symm, hBr.alloc (by omega) _⟩)
                  | skip
          · have hke : k = ops.length := by omega
            subst hke
            have hallT : ops.all (taskOk st th) = true := by have := hall.out; rwa [List.take_length] at this
            have HT := Lib.hid hallT; clear hallT hall
            have x2r : wr.cell? ⟨w.heap.size, 6, none⟩ = some (.slice A' picks.length c') := (hbr.cell (p := ⟨w.heap.size, 6, none⟩) (by simp; omega)).trans x2
            have y2r : wr.cell? ⟨w.heap.size + 1, 2, none⟩ = some (.int .i64 th) := (hbr.cell (p := ⟨w.heap.size + 1, 2, none⟩) (by simp; omega)).trans y2
            have hsr := hbr.size
            have hBr : Below w.heap.size w wr := hB.trans (hbr.mono (by omega))
            clear x1 x2 y0 y2 hbr hB
            go_wp2
            go_loopw [54] (fun i wq => ∃ k : Nat, k ≤ picks.length ∧ i = .int .i64 k ∧ wr = wq ∧ Hid ((picks.take k).all (pickOk th) = true)) (fun i _ => picks.length - (intOf i).toNat)
            case atStart => exact ⟨0, Nat.zero_le _, rfl, rfl, rfl⟩
            case round =>
              obtain ⟨k, hk, rfl, rfl, hall⟩ := hrel
              by_cases hlt : k < picks.length
              · obtain ⟨pb, off, rfl, hob, c0⟩ := (hp.below hBr).pick hlt
                by_cases ht : 0 ≤ picks[k] ∧ picks[k] < th
                · obtain ⟨ht1, ht2⟩ := ht
                  have hok := all_step hlt hall.out (by simp [pickOk, ht1, ht2] : pickOk th picks[k] = true)
                  go_wp2
                  go_roundw
                  case rel => exact ⟨k + 1, by omega, by go_num, (by trivial), hok⟩
                  case measure => simp [intOf]; omega
                · have hbad : goodB ⟨st, en, th, sl, no, ops, picks⟩ = false := goodB_badp hlt (pickOk_no ht)
                  have HB := Lib.hid hbad; clear hbad
                  go_wp2
                  all_goals first
                    | (exfalso; omega)
                    | (go_ret; exact ⟨ret_bool HB.out.symm, hBr⟩)
              · have hke : k = picks.length := by omega
                subst hke
                have hallP : picks.all (pickOk th) = true := by have := hall.out; rwa [List.take_length] at this
                have HG := Lib.hid (goodB_yes hg hl1 hl2 HT.out hallP)
                go_wp2
                go_ret
                exact ⟨ret_bool HG.out.symm, hBr⟩
      · have HB := Lib.hid (goodB_len (st := st) (en := en) (th := th) (sl := sl) (no := no) (ops := ops) (picks := picks) (by omega))
        have d1 : decide ((64 : Int) < (ops.length : Int)) = false := by simp; omega
        have d2 : decide ((4096 : Int) < (picks.length : Int)) = true := by simp; omega
        go_enter Tryz.func18, Tryz.ntmps18
        go_wp2_with (go_at_call 43; refine (parishGood_any st en th sl no _).mono ?_; rintro e w1 ⟨rfl, hb1⟩; obtain ⟨hc1, hf1⟩ := bcell hb1)
        go_ret
        exact ⟨ret_bool HB.out.symm, (((Below.refl _ _).alloc (Nat.le_refl _) _).alloc (by simp) _).trans (hb1.mono (by simp; omega))⟩
    · have HB := Lib.hid (goodB_len (st := st) (en := en) (th := th) (sl := sl) (no := no) (ops := ops) (picks := picks) (by omega))
      have d1 : decide ((64 : Int) < (ops.length : Int)) = true := by simp; omega
      go_enter Tryz.func18, Tryz.ntmps18
      go_wp2_with (go_at_call 43; refine (parishGood_any st en th sl no _).mono ?_; rintro e w1 ⟨rfl, hb1⟩; obtain ⟨hc1, hf1⟩ := bcell hb1)
      go_ret
      exact ⟨ret_bool HB.out.symm, (((Below.refl _ _).alloc (Nat.le_refl _) _).alloc (by simp) _).trans (hb1.mono (by simp; omega))⟩

end Go.Proofs.YtciioiklkaannaaGreatDoor
