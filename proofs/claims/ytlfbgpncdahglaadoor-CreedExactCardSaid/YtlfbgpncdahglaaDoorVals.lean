/- Creed.Vals, Creed.Pairs, New, Clone. -/
import Derived.Test.YtlfbgpncdahglaaDoorReverse
namespace Go.Proofs.YtlfbgpncdahglaaDoor
open Go Go.RowKit
set_option linter.unusedSimpArgs false
set_option linter.unusedVariables false
set_option linter.unusedSectionVars false

def outVals (s : PC) : List Int := if s.st = 1 then s.vals.reverse else s.vals

set_option maxRecDepth 100000 in
theorem reverse_nil (w : World) : Calls Tryd.prog 41 #[.slice none 0 0] w fun e w' => e = .returned (.tuple #[]) ∧ w = w' := by
  go_enter Tryd.func41, Tryd.ntmps41
  go_wp2_with fail
  refine wp_loop_rounds 1 ?_
  rw [rounds_succ]
  go_wp2_with fail
  go_end0
  exact ⟨rfl, rfl⟩

section
variable (w : World) (g : Nat) (s : PC) (A : Option Addr) (c : Nat) (A' : Option Addr) (c' : Nat) (h : CR w g s A c A' c') (hok : POk s)
include h hok
set_option maxRecDepth 100000 in
set_option maxHeartbeats 400000 in
theorem pairs_any : Calls Tryd.prog 21 #[.pointer (some ⟨g, 0, none⟩)] w (NewOwn w 94 2 s.pairs.length (pcells s.pairs)) := by
  obtain ⟨c0, c1, c2⟩ := h.cells
  have hl := hok.lp
  go_enter Tryd.func21, Tryd.ntmps21
  go_wp2_with fail
  refine (clonePairs_any _ A' c' s.pairs h.p (by omega)).mono ?_
  rintro e w1 ⟨v, rfl, ho, hb, hf⟩
  go_wp2_with fail
  go_ret
  exact ⟨_, rfl, ho, hb, hf⟩

set_option maxRecDepth 100000 in
set_option maxHeartbeats 400000 in
theorem vals_any : Calls Tryd.prog 18 #[.pointer (some ⟨g, 0, none⟩)] w (NewOwn w 3 1 (outVals s).length (icells (outVals s))) := by
  obtain ⟨c0, c1, c2⟩ := h.cells
  have hl := hok.lv
  by_cases hst : s.st = 1
  · have hov : outVals s = s.vals.reverse := if_pos hst
    rw [hov, List.length_reverse]
    rw [hst] at c0
    clear hov hst
    go_enter Tryd.func18, Tryd.ntmps18
    go_wp2_with fail
    refine (cloneInts_any _ A c s.vals h.v (by omega)).mono ?_
    rintro e w1 ⟨v, rfl, ho, hb, hf⟩
    have d0 := cell_below c0 hb
    rcases ho.2 with ⟨rfl, h0⟩ | ⟨g', off, cap, A3, R, rfl, hk, _⟩
    · have hnil : s.vals = [] := List.eq_nil_of_length_eq_zero h0
      have HN := Lib.hid hnil; clear hnil h0 ho
      go_wp2_with fail
      refine (reverse_nil _).mono ?_
      rintro e w2 ⟨rfl, rfl⟩
      go_wp2_with fail
      go_ret
      refine ⟨_, rfl, ?_, hb, hf⟩
      rw [HN.out]
      exact Own.nil
    · go_wp2_with fail
      refine (reverse_any _ g' off cap s.vals ho (by omega)).mono ?_
      rintro e w2 ⟨rfl, ho2, hg2⟩
      have hgs : w.heap.size ≤ g' := hf g' rfl
      go_wp2_with fail
      go_ret
      exact ⟨_, rfl, ho2, hb.grown hg2 hb.size (fun b e => by cases e; exact hgs), hf⟩
  · have hov : outVals s = s.vals := if_neg hst
    have d : (s.st == 1) = false := by simpa using hst
    rw [hov]
    clear hov hst
    go_enter Tryd.func18, Tryd.ntmps18
    go_wp2_with fail
    refine (cloneInts_any _ A c s.vals h.v (by omega)).mono ?_
    rintro e w1 ⟨v, rfl, ho, hb, hf⟩
    have d0 := cell_below c0 hb
    go_wp2_with fail
    go_ret
    exact ⟨_, rfl, ho, hb, hf⟩
end

/-- A structure of its own, all in new memory. -/
def NewC (w : World) (s : PC) (g : Nat) (A : Option Addr) (c : Nat) (A' : Option Addr) (c' : Nat) (w' : World) : Prop :=
  CR w' g s A c A' c' ∧ Below w.heap.size w w' ∧ w.heap.size ≤ g ∧ (∀ b, (Value.slice A s.vals.length c).ownBlock = some b → w.heap.size ≤ b) ∧ (∀ b, (Value.slice A' s.pairs.length c').ownBlock = some b → w.heap.size ≤ b)
def RetN (w : World) (s : PC) (e : Ending) (w' : World) : Prop := ∃ g A c A' c', e = .returned (.pointer (some ⟨g, 0, none⟩)) ∧ NewC w s g A c A' c' w'
def RetNE (w : World) (s : PC) (e : Ending) (w' : World) : Prop := ∃ g A c A' c', e = .returned (.tuple #[.pointer (some ⟨g, 0, none⟩), .nilIface]) ∧ NewC w s g A c A' c' w'

set_option maxHeartbeats 400000 in
theorem new_any (st : Int) (w : World) (h1 : 1 ≤ st) (h5 : st ≤ 5) : Calls Tryd.prog 9 #[.int .i64 st] w (RetNE w ⟨st, [], []⟩) := by
  have d1 : decide (st < 1) = false := by simp; omega
  have d2 : decide (5 < st) = false := by simp; omega
  go_enter Tryd.func9, Tryd.ntmps9
  go_wp2_with fail
  go_ret2
  exact ⟨_, none, 0, none, 0, rfl, ⟨Bk.at_ rfl, Own.nil, Own.nil, by simp [Value.ownBlock], by simp [Value.ownBlock], by simp [Value.ownBlock]⟩, (Below.refl _ _).alloc (Nat.le_refl _) _, Nat.le_refl _, by simp [Value.ownBlock], by simp [Value.ownBlock]⟩

set_option maxHeartbeats 400000 in
theorem new_no (st : Int) (w : World) (hst : ¬ (1 ≤ st ∧ st ≤ 5)) (T : TypeId) (u : Value) (hE : w.cell? ⟨0, 0, none⟩ = some (.iface T u)) :
    Calls Tryd.prog 9 #[.int .i64 st] w fun e w' => e = .returned (.tuple #[.pointer none, .iface T u]) ∧ Below w.heap.size w w' := by
  have hc : st < 1 ∨ 1 ≤ st ∧ 5 < st := by omega
  rcases hc with hc | ⟨hc1, hc2⟩
  · have d1 : decide (st < 1) = true := by simp; omega
    go_enter Tryd.func9, Tryd.ntmps9
    go_wp2_with fail
    go_quiet (fail)
    go_wp2_with fail
    go_ret2
    exact ⟨rfl, below_drewN (Below.refl _ _) _⟩
  · have d1 : decide (st < 1) = false := by simp; omega
    have d2 : decide (5 < st) = true := by simp; omega
    go_enter Tryd.func9, Tryd.ntmps9
    go_wp2_with fail
    go_quiet (fail)
    go_wp2_with fail
    go_ret2
    exact ⟨rfl, below_drewN (Below.refl _ _) _⟩

set_option maxRecDepth 100000 in
set_option maxHeartbeats 800000 in
theorem clone_any (w : World) (g : Nat) (s : PC) (A : Option Addr) (c : Nat) (A' : Option Addr) (c' : Nat) (h : CR w g s A c A' c') (hok : POk s) :
    Calls Tryd.prog 24 #[.pointer (some ⟨g, 0, none⟩)] w (RetN w s) := by
  have hlv := hok.lv
  have hlp := hok.lp
  go_enter Tryd.func24, Tryd.ntmps24
  go_wp2_with fail
  refine wp_region_T (fun w' => w'.cell? ⟨g, 0, none⟩ = some (.int .i64 s.st) ∧ w'.cell? ⟨g, 1, none⟩ = some (.slice A s.vals.length c) ∧ w'.cell? ⟨g, 2, none⟩ = some (.slice A' s.pairs.length c')) 20 (by kernel_rfl) h.drew.cells (fun hS => ?_)
  have h0 := h.drew
  ((try simp only [Act.put, List.setIfInBounds_toArray, List.set_cons_succ, List.set_cons_zero]); refine wpT_batch (fuel := 6) (by kernel_rfl) (by kernel_rfl) (fun d => by cases d <;> exact fun _ _ _ _ h => h) hS [0, 1, 2, 3, 4, 5, 6, 7, 8, 10, 11, 12, 13, 14] _ _ (by kernel_rfl) ?_; simp only [pickOps, nthOp, List.toList_toArray]; (repeat (first | go_big_quiet_skip | (go_big_quiet_want; first | (go_big_quiet_op; go_big_quiet_on) | (apply Exists.intro; refine ⟨fun w' hS' => ?_, ?_⟩; (· (obtain ⟨f1, f2, f3⟩ := hS'; go_simp; first | done | rfl | exact ⟨rfl, rfl⟩)); go_big_quiet_on; simp only [Act.put, List.setIfInBounds_toArray, List.set_cons_succ, List.set_cons_zero])))); refine wpQuiet_nil ?_; (try dsimp only))
  (refine wpT_loudN 9 (by kernel_rfl) (fun K hK => ?_); simp only [nthOp, List.toList_toArray])
  go_wp2_with fail
  refine (cloneInts_any _ A c s.vals h0.v (by omega)).mono ?_
  rintro e w1 ⟨v1, rfl, ho1, hb1, hf1⟩
  have h1 := h0.below hb1
  go_wp2_with fail
  refine hK.out _ _ (fun _ => h1.cells) ?_
  clear hK hS
  (refine wpT_loudN 15 (by kernel_rfl) (fun K hK => ?_); simp only [nthOp, List.toList_toArray])
  go_wp2_with fail
  refine (clonePairs_any _ A' c' s.pairs h1.p (by omega)).mono ?_
  rintro e w2 ⟨v2, rfl, ho2, hb2, hf2⟩
  have h2 := h1.below hb2
  have ho1' := ho1.below hb2
  have hlt1 : ∀ b, v1.ownBlock = some b → b < w1.heap.size := fun b e => ho1.lt e
  obtain ⟨A1, c1, rfl, _, _⟩ := ho1.form
  obtain ⟨A2, c2, rfl, _, _⟩ := ho2.form
  go_wp2_with fail
  refine hK.out _ _ (fun _ => h2.cells) ?_
  clear hK
  have hS := h2.cells
  ((try simp only [Act.put, List.setIfInBounds_toArray, List.set_cons_succ, List.set_cons_zero]); refine wpT_batch (fuel := 2) (by kernel_rfl) (by kernel_rfl) (fun d => by cases d <;> exact fun _ _ _ _ h => h) hS [16, 17] _ _ (by kernel_rfl) ?_; simp only [pickOps, nthOp, List.toList_toArray]; (repeat (first | go_big_quiet_skip | (go_big_quiet_want; first | (go_big_quiet_op; go_big_quiet_on) | (apply Exists.intro; refine ⟨fun w' hS' => ?_, ?_⟩; (· (obtain ⟨f1, f2, f3⟩ := hS'; go_simp; first | done | rfl | exact ⟨rfl, rfl⟩)); go_big_quiet_on; simp only [Act.put, List.setIfInBounds_toArray, List.set_cons_succ, List.set_cons_zero])))); refine wpQuiet_nil ?_; (try dsimp only))
  (refine wpT_loudN 18 (by kernel_rfl) (fun K hK => ?_); simp only [nthOp, List.toList_toArray])
  go_wp2_with fail
  have h3 := h2.alloc (.cells #[.int .i64 s.st, .slice A1 s.vals.length c1, .slice A2 s.pairs.length c2] 66)
  refine hK.out _ _ (fun _ => h3.cells) ?_
  clear hK hS
  have hS := h3.cells
  ((try simp only [Act.put, List.setIfInBounds_toArray, List.set_cons_succ, List.set_cons_zero]); refine wpT_batch (fuel := 0) (by kernel_rfl) (by kernel_rfl) (fun d => by cases d <;> exact fun _ _ _ _ h => h) hS [19] _ _ (by kernel_rfl) ?_; simp only [pickOps, nthOp, List.toList_toArray]; (repeat (first | go_big_quiet_skip | (go_big_quiet_want; first | (go_big_quiet_op; go_big_quiet_on) | (apply Exists.intro; refine ⟨fun w' hS' => ?_, ?_⟩; (· (obtain ⟨f1, f2, f3⟩ := hS'; go_simp; first | done | rfl | exact ⟨rfl, rfl⟩)); go_big_quiet_on; simp only [Act.put, List.setIfInBounds_toArray, List.set_cons_succ, List.set_cons_zero])))); refine wpQuiet_nil ?_; (try dsimp only))
  clear hS
  refine wpT_done (by kernel_rfl) ?_ _
  have hz1 := hb1.size
  have hz2 := hb2.size
  have hz : w.drew.heap.size = w.heap.size := rfl
  go_wp2_with fail
  go_ret
  refine ⟨_, A1, c1, A2, c2, rfl, ⟨Bk.at_ rfl, ho1'.alloc _, ho2.alloc _, fun e => ?_, fun e => ?_, fun b e e' => ?_⟩, ?_, by omega, hf1, fun b e => ?_⟩
  · have := hlt1 _ e; omega
  · have := ho2.lt e; omega
  · have := hlt1 b e; have := hf2 b e'; omega
  · exact ((Below.refl w.heap.size w).drew.trans (hb1.trans (hb2.mono hz1))).alloc (by omega) _
  · have := hf2 b e; omega
end Go.Proofs.YtlfbgpncdahglaaDoor
