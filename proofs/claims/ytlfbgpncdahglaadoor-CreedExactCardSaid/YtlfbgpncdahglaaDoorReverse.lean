/- slices.Reverse at ints. -/
import Derived.Test.YtlfbgpncdahglaaDoorClone
namespace Go.Proofs.YtlfbgpncdahglaaDoor
open Go Go.RowKit
set_option linter.unusedSimpArgs false
set_option linter.unusedVariables false
set_option linter.unusedSectionVars false

/-- The first k and the last k have changed places. -/
def sw (l : List Int) (k : Nat) : List Int := (List.range l.length).map fun m => if m < k ∨ l.length ≤ m + k then l.getD (l.length - 1 - m) 0 else l.getD m 0
theorem sw_length (l : List Int) (k : Nat) : (sw l k).length = l.length := by simp [sw]
theorem sw_get (l : List Int) (k m : Nat) (h : m < l.length) : (sw l k)[m]? = some (if m < k ∨ l.length ≤ m + k then l.getD (l.length - 1 - m) 0 else l.getD m 0) := by
  simp [sw, h]
theorem sw_zero (l : List Int) : sw l 0 = l := by
  apply List.ext_getElem?
  intro m
  rcases Nat.lt_or_ge m l.length with h | h
  · rw [sw_get l 0 m h, if_neg (by omega), List.getElem?_eq_getElem h, List.getD_eq_getElem?_getD, List.getElem?_eq_getElem h]; rfl
  · rw [List.getElem?_eq_none (by rw [sw_length]; exact h), List.getElem?_eq_none h]
theorem sw_end (l : List Int) (k : Nat) (hk : l.length ≤ 2 * k + 1) : sw l k = l.reverse := by
  apply List.ext_getElem?
  intro m
  rcases Nat.lt_or_ge m l.length with h | h
  · rw [sw_get l k m h, List.getElem?_reverse h, List.getElem?_eq_getElem (by omega)]
    congr 1
    split
    · rw [List.getD_eq_getElem?_getD, List.getElem?_eq_getElem (by omega)]; rfl
    · have : m = l.length - 1 - m := by omega
      rw [List.getD_eq_getElem?_getD, List.getElem?_eq_getElem (by omega)]
      simp only [Option.getD_some]
      congr 1
  · rw [List.getElem?_eq_none (by rw [sw_length]; exact h), List.getElem?_eq_none (by simpa using h)]
theorem sw_step (l : List Int) (k : Nat) (hk : 2 * k + 1 < l.length) : ((sw l k).set k (l.getD (l.length - 1 - k) 0)).set (l.length - 1 - k) (l.getD k 0) = sw l (k + 1) := by
  apply List.ext_getElem?
  intro m
  rcases Nat.lt_or_ge m l.length with h | h
  · rw [sw_get l (k + 1) m h, List.getElem?_set, List.getElem?_set, List.length_set, sw_length]
    by_cases h1 : l.length - 1 - k = m
    · rw [if_pos h1, if_pos (by omega), if_pos (by omega), show l.length - 1 - m = k from by omega]
    · rw [if_neg h1]
      by_cases h2 : k = m
      · rw [if_pos h2, if_pos (by omega), if_pos (by omega), h2]
      · rw [if_neg h2, sw_get l k m h]
        congr 1
        by_cases h3 : m < k ∨ l.length ≤ m + k
        · rw [if_pos h3, if_pos (by omega)]
        · rw [if_neg h3, if_neg (by omega)]
  · rw [List.getElem?_eq_none (by rw [List.length_set, List.length_set, sw_length]; exact h), List.getElem?_eq_none (by rw [sw_length]; exact h)]

def RevTo (w : World) (v : Value) (l : List Int) (e : Ending) (w' : World) : Prop :=
  e = .returned (.tuple #[]) ∧ Own w' 3 1 v l.length (icells l.reverse) ∧ w.grownBy w' v.ownBlock

theorem icells_set (l : List Int) (k : Nat) (x : Int) : icells (l.set k x) = (icells l).set k (.int .i64 x) := by simp [icells, List.map_set]

theorem bk_two {w : World} {g : Nat} {t : TypeId} {A R xs : List Value} (h : Bk w g t (A ++ (xs ++ R)).toArray) {i j : Nat} (hi : i < xs.length) (hj : j < xs.length) (x y : Value) :
    Bk ((w.setCell ⟨g, A.length + i, none⟩ x).setCell ⟨g, A.length + j, none⟩ y) g t (A ++ ((xs.set i x).set j y ++ R)).toArray := by
  have h1 := (h.set_ (A.length + i) x).set_ (A.length + j) y
  have e : (((A ++ (xs ++ R)).toArray.setIfInBounds (A.length + i) x).setIfInBounds (A.length + j) y) = (A ++ ((xs.set i x).set j y ++ R)).toArray := by
    apply Array.ext'
    simp only [Array.toList_setIfInBounds]
    show ((A ++ (xs ++ R)).set (A.length + i) x).set (A.length + j) y = A ++ ((xs.set i x).set j y ++ R)
    rw [List.set_append_right _ _ (by omega), Nat.add_sub_cancel_left, List.set_append_left _ _ hi, List.set_append_right _ _ (by omega), Nat.add_sub_cancel_left, List.set_append_left _ _ (by simpa using hj)]
  rw [e] at h1
  exact h1

theorem cell_sw {w : World} {g : Nat} {t : TypeId} {A R : List Value} {l : List Int} {k : Nat} (h : Bk w g t (A ++ (icells (sw l k) ++ R)).toArray) {i : Nat} (hi : k ≤ i) (hik : i + k < l.length) : w.cell? ⟨g, A.length + i, none⟩ = some (.int .i64 (l.getD i 0)) := by
  rw [h.cell]
  rw [List.getElem?_toArray]
  rw [List.getElem?_append_right (by omega), Nat.add_sub_cancel_left, List.getElem?_append_left (by rw [icells_length, sw_length]; omega)]
  unfold icells
  rw [List.getElem?_map, sw_get l k i (by omega), if_neg (by omega)]
  rfl

set_option maxRecDepth 100000 in
set_option maxHeartbeats 800000 in
theorem reverse_any (w : World) (g off c : Nat) (l : List Int) (h : Own w 3 1 (.slice (some ⟨g, off, none⟩) l.length c) l.length (icells l)) (hl : l.length ≤ 100000) :
    Calls Tryd.prog 41 #[.slice (some ⟨g, off, none⟩) l.length c] w (RevTo w (.slice (some ⟨g, off, none⟩) l.length c) l) := by
  rcases h.2 with ⟨h', _⟩ | ⟨g', off', cap', A, R, hv, hk, hA, hn, hmax, hs⟩
  · cases h'
  cases hv
  rw [icells_length] at hs
  simp only [maxLen] at hmax
  have hgl := hk.lt
  clear h
  subst hA
  go_enter Tryd.func41, Tryd.ntmps41
  go_wp2_with fail
  go_loopw [2, 3] (fun i j wr => ∃ k : Nat, k ≤ l.length ∧ i = .int .i64 k ∧ j = .int .i64 ((l.length : Int) - 1 - k) ∧ Bk wr g 3 (A ++ (icells (sw l k) ++ R)).toArray ∧ w.grownBy wr (some g)) (fun i _ _ => l.length - (intOf i).toNat)
  case atStart => exact ⟨0, Nat.zero_le _, rfl, by simp, by rw [sw_zero]; exact hk, grownBy_refl _ _⟩
  case round =>
    obtain ⟨k, hkl, rfl, rfl, hb, hgr⟩ := hrel
    by_cases hlt : 2 * k + 1 < l.length
    · have d : decide ((k : Int) < (l.length : Int) - 1 - (k : Int)) = true := by simp; omega
      obtain ⟨m, hm⟩ : ∃ m, m = l.length - 1 - k := ⟨_, rfl⟩
      have hmi : (l.length : Int) - 1 - (k : Int) = (m : Int) := by omega
      rw [hmi] at d ⊢
      have hsw := sw_step l k hlt
      rw [← hm] at hsw
      have HS := Lib.hid hsw; clear hsw
      have HM := Lib.hid hm; clear hm
      have hkm : k < m := by have := HM.out; omega
      have hml : m < l.length := by have := HM.out; omega
      have hmk : m + k < l.length := by have := HM.out; omega
      clear hmi
      go_wp2_with fail
      refine wp_region_T (fun _ => True) 14 (by kernel_rfl) trivial (fun hS => ?_)
      have hbd := hb.drew
      have hgd : w.grownBy wr.drew (some g) := ⟨hgr.os, hgr.tape, hgr.output, hgr.size, hgr.block⟩
      generalize wr.drew = w1 at hbd hgd ⊢
      have q0 := cell_sw hbd (Nat.le_refl k) (by omega)
      have q1 := cell_sw hbd (Nat.le_of_lt hkm) hmk
      have f0 := hbd.free (A.length + k)
      have f1 := hbd.free (A.length + m)
      have hbn := bk_two hbd (i := k) (j := m) (by rw [icells_length, sw_length]; omega) (by rw [icells_length, sw_length]; omega) (.int .i64 (l.getD m 0)) (.int .i64 (l.getD k 0))
      rw [← icells_set, ← icells_set, HS.out] at hbn
      have hgn : w.grownBy ((w1.setCell ⟨g, A.length + k, none⟩ (.int .i64 (l.getD m 0))).setCell ⟨g, A.length + m, none⟩ (.int .i64 (l.getD k 0))) (some g) := grownBy_trans (grownBy_trans hgd (grown_setCell _ _ _ _)) (grown_setCell _ _ _ _)
      have HN := Lib.hid (And.intro hbn hgn)
      have z0 := (hbd.set_ (A.length + k) (.int .i64 (l.getD m 0))).free (A.length + m)
      clear hbn hgn hbd hgd hb hgr
      generalize l.getD m 0 = xm at *
      generalize l.getD k 0 = xk at *
      ((try simp only [Act.put, List.setIfInBounds_toArray, List.set_cons_succ, List.set_cons_zero]); refine wpT_batch (fuel := 6) (by kernel_rfl) (by kernel_rfl) (fun d => by cases d <;> exact fun _ _ _ _ h => h) hS [0, 1, 2, 3, 4, 5, 6, 8, 9, 10] _ _ (by kernel_rfl) ?_; simp only [pickOps, nthOp, List.toList_toArray]; (repeat (first | go_big_quiet_skip | (go_big_quiet_want; first | (go_big_quiet_op; go_big_quiet_on) | (apply Exists.intro; refine ⟨fun w' hS' => ?_, ?_⟩; (· (skip; go_simp; first | done | rfl | exact ⟨rfl, rfl⟩)); go_big_quiet_on; simp only [Act.put, List.setIfInBounds_toArray, List.set_cons_succ, List.set_cons_zero])))); refine wpQuiet_nil ?_; (try dsimp only))
      refine wpT_two (i := 7) (j := 11) rfl rfl (by kernel_rfl) (fun K hK => ?_) (fun K hK => ?_)
      · go_wp2_with fail
        refine hK.out _ _ ⟨fun _ => trivial, ?_⟩
        clear hK
        (refine wpT_loudN 11 (by kernel_rfl) (fun K hK => ?_); simp only [nthOp, List.toList_toArray])
        go_wp2_with fail
        refine hK.out _ _ (fun _ => trivial) ?_
        clear hK
        (((try simp only [Act.put, List.setIfInBounds_toArray, List.set_cons_succ, List.set_cons_zero]); refine wpT_batch (fuel := 3) (by kernel_rfl) (by kernel_rfl) (fun d => by cases d <;> exact fun _ _ _ _ h => h) hS [12] _ _ (by kernel_rfl) ?_; simp only [pickOps, nthOp, List.toList_toArray]; (repeat (first | go_big_quiet_skip | (go_big_quiet_want; first | (go_big_quiet_op; go_big_quiet_on) | (apply Exists.intro; refine ⟨fun w' hS' => ?_, ?_⟩; (· (skip; go_simp; first | done | rfl | exact ⟨rfl, rfl⟩)); go_big_quiet_on; simp only [Act.put, List.setIfInBounds_toArray, List.set_cons_succ, List.set_cons_zero])))); refine wpQuiet_nil ?_; (try dsimp only)); (refine wpT_loudN 13 (by kernel_rfl) (fun K hK => ?_); simp only [nthOp, List.toList_toArray]); go_wp2_with fail; refine hK.out _ _ (fun _ => trivial) ?_; clear hK; ((refine wpT_loudN 14 (by kernel_rfl) (fun K hK => ?_); simp only [nthOp, List.toList_toArray]); go_wp2_with fail; refine hK.out _ _ (fun h => absurd h (by omega)) ?_; clear hK); ((refine wpT_loudN 15 (by kernel_rfl) (fun K hK => ?_); simp only [nthOp, List.toList_toArray]); go_wp2_with fail; refine hK.out _ _ (fun h => absurd h (by omega)) ?_; clear hK); refine wpT_done (by kernel_rfl) ?_ _; go_wp2_with fail; go_roundw; (case rel => exact ⟨k + 1, by omega, by go_num, congrArg (Value.int IntKind.i64) (by have := HM.out; omega), HN.out.1, HN.out.2⟩); (case measure => simp [intOf]; omega))
      · go_wp2_with fail
        refine hK.out _ _ ⟨fun _ => trivial, ?_⟩
        clear hK
        (refine wpT_loudN 7 (by kernel_rfl) (fun K hK => ?_); simp only [nthOp, List.toList_toArray])
        go_wp2_with fail
        refine hK.out _ _ (fun _ => trivial) ?_
        clear hK
        (((try simp only [Act.put, List.setIfInBounds_toArray, List.set_cons_succ, List.set_cons_zero]); refine wpT_batch (fuel := 3) (by kernel_rfl) (by kernel_rfl) (fun d => by cases d <;> exact fun _ _ _ _ h => h) hS [12] _ _ (by kernel_rfl) ?_; simp only [pickOps, nthOp, List.toList_toArray]; (repeat (first | go_big_quiet_skip | (go_big_quiet_want; first | (go_big_quiet_op; go_big_quiet_on) | (apply Exists.intro; refine ⟨fun w' hS' => ?_, ?_⟩; (· (skip; go_simp; first | done | rfl | exact ⟨rfl, rfl⟩)); go_big_quiet_on; simp only [Act.put, List.setIfInBounds_toArray, List.set_cons_succ, List.set_cons_zero])))); refine wpQuiet_nil ?_; (try dsimp only)); (refine wpT_loudN 13 (by kernel_rfl) (fun K hK => ?_); simp only [nthOp, List.toList_toArray]); go_wp2_with fail; refine hK.out _ _ (fun _ => trivial) ?_; clear hK; ((refine wpT_loudN 14 (by kernel_rfl) (fun K hK => ?_); simp only [nthOp, List.toList_toArray]); go_wp2_with fail; refine hK.out _ _ (fun h => absurd h (by omega)) ?_; clear hK); ((refine wpT_loudN 15 (by kernel_rfl) (fun K hK => ?_); simp only [nthOp, List.toList_toArray]); go_wp2_with fail; refine hK.out _ _ (fun h => absurd h (by omega)) ?_; clear hK); refine wpT_done (by kernel_rfl) ?_ _; go_wp2_with fail; go_roundw; (case rel => exact ⟨k + 1, by omega, by go_num, congrArg (Value.int IntKind.i64) (by have := HM.out; omega), HN.out.1, HN.out.2⟩); (case measure => simp [intOf]; omega))
    · have d : decide ((k : Int) < (l.length : Int) - 1 - (k : Int)) = false := by simp; omega
      go_wp2_with fail
      go_end0
      refine ⟨rfl, ⟨by rw [icells_length, List.length_reverse, Nat.mul_one], .inr ⟨g, A.length, c, A, R, rfl, ?_, rfl, hn, by simp only [maxLen]; omega, by rw [icells_length, List.length_reverse]; omega⟩⟩, hgr⟩
      rw [← sw_end l k (by omega)]
      exact hb
end Go.Proofs.YtlfbgpncdahglaaDoor
