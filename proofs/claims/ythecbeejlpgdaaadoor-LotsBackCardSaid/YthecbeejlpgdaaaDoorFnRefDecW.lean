/- Reading a script, by the reference: the walk. -/
import Derived.Test.YthecbeejlpgdaaaDoorFnRefDec
import Derived.Test.YthecbeejlpgdaaaDoorReg
namespace Go.Proofs.YthecbeejlpgdaaaDoor
open Go Go.RowKit
set_option linter.unusedSimpArgs false
set_option linter.unusedVariables false
set_option linter.unusedSectionVars false

set_option maxRecDepth 100000 in
set_option maxHeartbeats 1000000 in
theorem refDecode_any (s : ByteArray) (w : World) (hs : s.size ≤ 140737488351232) :
    Calls Tryd.prog 12 #[.string s] w (DecPost s w) := by
  have hq : ∀ k, bat s k < 256 := bat_lt s
  have q0 := hq 0
  have q1 := hq 1
  have q2 := hq 2
  have q3 := hq 3
  have q4 := hq 4
  have q5 := hq 5
  clear hq
  go_enter Tryd.func12, Tryd.ntmps12
  go_wp2_with fail; refine (at_at s 0 _ _ hs (by omega) (by omega)).mono ?_; rintro e w' ⟨rfl, rfl⟩
  go_wp2_with fail; refine (at_at s 1 _ _ hs (by omega) (by omega)).mono ?_; rintro e w' ⟨rfl, rfl⟩
  go_wp2_with fail; refine (at_at s 2 _ _ hs (by omega) (by omega)).mono ?_; rintro e w' ⟨rfl, rfl⟩
  go_wp2_with fail; refine (at_at s 3 _ _ hs (by omega) (by omega)).mono ?_; rintro e w' ⟨rfl, rfl⟩
  go_wp2_with fail; refine (at_at s 4 _ _ hs (by omega) (by omega)).mono ?_; rintro e w' ⟨rfl, rfl⟩
  go_wp2_with fail; refine (at_at s 5 _ _ hs (by omega) (by omega)).mono ?_; rintro e w' ⟨rfl, rfl⟩
  go_wp2_with fail
  have R0 : R1 w _ s 0 0 (.slice none 0 0) (.slice none 0 0) := ⟨(Bk.at_ rfl).alloc _, Bk.at_ (by simp), ⟨rfl, .inl ⟨rfl, rfl⟩⟩, ⟨rfl, .inl ⟨rfl, rfl⟩⟩, ((Below.refl _ _).alloc (Nat.le_refl _) _).alloc (by simp) _⟩
  go_loopw [5] (fun i wr => ∃ (k : Nat) (v : Value), k ≤ dN s ∧ i = .int .i64 k ∧ R1 w wr s k 0 v (.slice none 0 0)) (fun i _ => dN s - (intOf i).toNat)
  case atStart => exact ⟨0, _, Nat.zero_le _, rfl, R0⟩
  case round =>
    obtain ⟨k, v, hk, rfl, R⟩ := hrel
    by_cases hlt : k < dN s
    · have hlt' : (k : Int) < (bat s 5 : Int) % 65 := by unfold dN at hlt; omega
      have hkN : k < 65 := by unfold dN at hlt; omega
      have th1 : 1 ≤ dTh s := by unfold dTh; omega
      have th2 : dTh s ≤ 6 := by unfold dTh; omega
      have st1 : 1 ≤ dSt s := by unfold dSt; omega
      have st2 : dSt s ≤ 5 := by unfold dSt; omega
      have th0 : ¬ dTh s = 0 := by omega
      have b6 := bat_lt s (6 + 4 * k)
      have b7 := bat_lt s (6 + 4 * k + 1)
      have b8 := bat_lt s (6 + 4 * k + 1 + 1)
      have b9 := bat_lt s (6 + 4 * k + 1 + 1 + 1)
      have hSS : ∀ wx, R1 w wx s k 0 v (.slice none 0 0) → wx.cell? ⟨w.heap.size + 1, 5, none⟩ = some v ∧ wx.cell? ⟨w.heap.size + 1, 2, none⟩ = some (.int .i64 (dTh s)) ∧ wx.cell? ⟨w.heap.size + 1, 0, none⟩ = some (.int .i64 (dSt s)) := fun wx h => ⟨h.ops, h.th, h.st⟩
      obtain ⟨i0, hi0, hz0, hz1, hz2⟩ := info_parts infoTask
      go_wp2_with fail
      refine wp_region_T (fun w' => w'.cell? ⟨w.heap.size + 1, 5, none⟩ = some v ∧ w'.cell? ⟨w.heap.size + 1, 2, none⟩ = some (.int .i64 (dTh s)) ∧ w'.cell? ⟨w.heap.size + 1, 0, none⟩ = some (.int .i64 (dSt s))) 29 (by kernel_rfl) (hSS _ R.drew) (fun hS => ?_)
      (refine wpT_more (i := 0) (by kernel_rfl) (by omega) rfl (by kernel_rfl) (by kernel_rfl) (by kernel_rfl) (fun _ _ _ _ h => h) hS ?_; apply Exists.intro; apply And.intro; (refine Or.inl ⟨by rfl, ?_⟩; intro w' hS'; obtain ⟨h1, h2, h3⟩ := hS'; go_simp; rfl); simp only [Act.put, List.setIfInBounds_toArray, List.set_cons_succ, List.set_cons_zero])
      (refine wpT_more (i := 1) (by kernel_rfl) (by omega) rfl (by kernel_rfl) (by kernel_rfl) (by kernel_rfl) (fun _ _ _ _ h => h) hS ?_; apply Exists.intro; apply And.intro; (refine Or.inl ⟨by rfl, ?_⟩; intro w' hS'; obtain ⟨h1, h2, h3⟩ := hS'; go_simp; rfl); simp only [Act.put, List.setIfInBounds_toArray, List.set_cons_succ, List.set_cons_zero])
      (refine wpT_more (i := 2) (by kernel_rfl) (by omega) rfl (by kernel_rfl) (by kernel_rfl) (by kernel_rfl) (fun _ _ _ _ h => h) hS ?_; apply Exists.intro; apply And.intro; (refine Or.inl ⟨by rfl, ?_⟩; intro w' hS'; obtain ⟨h1, h2, h3⟩ := hS'; go_simp; rfl); simp only [Act.put, List.setIfInBounds_toArray, List.set_cons_succ, List.set_cons_zero])
      (refine wpT_more (i := 3) (by kernel_rfl) (by omega) rfl (by kernel_rfl) (by kernel_rfl) (by kernel_rfl) (fun _ _ _ _ h => h) hS ?_; apply Exists.intro; apply And.intro; (refine Or.inl ⟨by rfl, ?_⟩; intro w' hS'; obtain ⟨h1, h2, h3⟩ := hS'; go_simp; rfl); simp only [Act.put, List.setIfInBounds_toArray, List.set_cons_succ, List.set_cons_zero])
      (refine wpT_more (i := 5) (by kernel_rfl) (by omega) rfl (by kernel_rfl) (by kernel_rfl) (by kernel_rfl) (fun _ _ _ _ h => h) hS ?_; apply Exists.intro; apply And.intro; (refine Or.inl ⟨by rfl, ?_⟩; intro w' hS'; obtain ⟨h1, h2, h3⟩ := hS'; go_simp; rfl); simp only [Act.put, List.setIfInBounds_toArray, List.set_cons_succ, List.set_cons_zero])
      (refine wpT_more (i := 6) (by kernel_rfl) (by omega) rfl (by kernel_rfl) (by kernel_rfl) (by kernel_rfl) (fun _ _ _ _ h => h) hS ?_; apply Exists.intro; apply And.intro; (refine Or.inl ⟨by rfl, ?_⟩; intro w' hS'; obtain ⟨h1, h2, h3⟩ := hS'; go_simp; rfl); simp only [Act.put, List.setIfInBounds_toArray, List.set_cons_succ, List.set_cons_zero])
      (refine wpT_more (i := 7) (by kernel_rfl) (by omega) rfl (by kernel_rfl) (by kernel_rfl) (by kernel_rfl) (fun _ _ _ _ h => h) hS ?_; apply Exists.intro; apply And.intro; (refine Or.inl ⟨by rfl, ?_⟩; intro w' hS'; obtain ⟨h1, h2, h3⟩ := hS'; go_simp; rfl); simp only [Act.put, List.setIfInBounds_toArray, List.set_cons_succ, List.set_cons_zero])
      (refine wpT_more (i := 9) (by kernel_rfl) (by omega) rfl (by kernel_rfl) (by kernel_rfl) (by kernel_rfl) (fun _ _ _ _ h => h) hS ?_; apply Exists.intro; apply And.intro; (refine Or.inl ⟨by rfl, ?_⟩; intro w' hS'; obtain ⟨h1, h2, h3⟩ := hS'; go_simp; rfl); simp only [Act.put, List.setIfInBounds_toArray, List.set_cons_succ, List.set_cons_zero])
      (refine wpT_more (i := 10) (by kernel_rfl) (by omega) rfl (by kernel_rfl) (by kernel_rfl) (by kernel_rfl) (fun _ _ _ _ h => h) hS ?_; apply Exists.intro; apply And.intro; (refine Or.inl ⟨by rfl, ?_⟩; intro w' hS'; obtain ⟨h1, h2, h3⟩ := hS'; go_simp; rfl); simp only [Act.put, List.setIfInBounds_toArray, List.set_cons_succ, List.set_cons_zero])
      (refine wpT_more (i := 11) (by kernel_rfl) (by omega) rfl (by kernel_rfl) (by kernel_rfl) (by kernel_rfl) (fun _ _ _ _ h => h) hS ?_; apply Exists.intro; apply And.intro; (refine Or.inl ⟨by rfl, ?_⟩; intro w' hS'; obtain ⟨h1, h2, h3⟩ := hS'; go_simp; rfl); simp only [Act.put, List.setIfInBounds_toArray, List.set_cons_succ, List.set_cons_zero])
      (refine wpT_more (i := 12) (by kernel_rfl) (by omega) rfl (by kernel_rfl) (by kernel_rfl) (by kernel_rfl) (fun _ _ _ _ h => h) hS ?_; apply Exists.intro; apply And.intro; (refine Or.inl ⟨by rfl, ?_⟩; intro w' hS'; obtain ⟨h1, h2, h3⟩ := hS'; go_simp; rfl); simp only [Act.put, List.setIfInBounds_toArray, List.set_cons_succ, List.set_cons_zero])
      (refine wpT_more (i := 13) (by kernel_rfl) (by omega) rfl (by kernel_rfl) (by kernel_rfl) (by kernel_rfl) (fun _ _ _ _ h => h) hS ?_; apply Exists.intro; apply And.intro; (refine Or.inl ⟨by rfl, ?_⟩; intro w' hS'; obtain ⟨h1, h2, h3⟩ := hS'; go_simp; rfl); simp only [Act.put, List.setIfInBounds_toArray, List.set_cons_succ, List.set_cons_zero])
      (refine wpT_more (i := 14) (by kernel_rfl) (by omega) rfl (by kernel_rfl) (by kernel_rfl) (by kernel_rfl) (fun _ _ _ _ h => h) hS ?_; apply Exists.intro; apply And.intro; (refine Or.inl ⟨by rfl, ?_⟩; intro w' hS'; obtain ⟨h1, h2, h3⟩ := hS'; go_simp; rfl); simp only [Act.put, List.setIfInBounds_toArray, List.set_cons_succ, List.set_cons_zero])
      (refine wpT_more (i := 16) (by kernel_rfl) (by omega) rfl (by kernel_rfl) (by kernel_rfl) (by kernel_rfl) (fun _ _ _ _ h => h) hS ?_; apply Exists.intro; apply And.intro; (refine Or.inl ⟨by rfl, ?_⟩; intro w' hS'; obtain ⟨h1, h2, h3⟩ := hS'; go_simp; rfl); simp only [Act.put, List.setIfInBounds_toArray, List.set_cons_succ, List.set_cons_zero])
      (refine wpT_more (i := 17) (by kernel_rfl) (by omega) rfl (by kernel_rfl) (by kernel_rfl) (by kernel_rfl) (fun _ _ _ _ h => h) hS ?_; apply Exists.intro; apply And.intro; (refine Or.inl ⟨by rfl, ?_⟩; intro w' hS'; obtain ⟨h1, h2, h3⟩ := hS'; go_simp; rfl); simp only [Act.put, List.setIfInBounds_toArray, List.set_cons_succ, List.set_cons_zero])
      (refine wpT_more (i := 18) (by kernel_rfl) (by omega) rfl (by kernel_rfl) (by kernel_rfl) (by kernel_rfl) (fun _ _ _ _ h => h) hS ?_; apply Exists.intro; apply And.intro; (refine Or.inl ⟨by rfl, ?_⟩; intro w' hS'; obtain ⟨h1, h2, h3⟩ := hS'; go_simp; rfl); simp only [Act.put, List.setIfInBounds_toArray, List.set_cons_succ, List.set_cons_zero])
      (refine wpT_more (i := 20) (by kernel_rfl) (by omega) rfl (by kernel_rfl) (by kernel_rfl) (by kernel_rfl) (fun _ _ _ _ h => h) hS ?_; apply Exists.intro; apply And.intro; (refine Or.inl ⟨by rfl, ?_⟩; intro w' hS'; obtain ⟨h1, h2, h3⟩ := hS'; go_simp; rfl); simp only [Act.put, List.setIfInBounds_toArray, List.set_cons_succ, List.set_cons_zero])
      (refine wpT_more (i := 21) (by kernel_rfl) (by omega) rfl (by kernel_rfl) (by kernel_rfl) (by kernel_rfl) (fun _ _ _ _ h => h) hS ?_; apply Exists.intro; apply And.intro; (refine Or.inl ⟨by rfl, ?_⟩; intro w' hS'; obtain ⟨h1, h2, h3⟩ := hS'; go_simp; rfl); simp only [Act.put, List.setIfInBounds_toArray, List.set_cons_succ, List.set_cons_zero])
      (refine wpT_more (i := 22) (by kernel_rfl) (by omega) rfl (by kernel_rfl) (by kernel_rfl) (by kernel_rfl) (fun _ _ _ _ h => h) hS ?_; apply Exists.intro; apply And.intro; (refine Or.inl ⟨by rfl, ?_⟩; intro w' hS'; obtain ⟨h1, h2, h3⟩ := hS'; go_simp; rfl); simp only [Act.put, List.setIfInBounds_toArray, List.set_cons_succ, List.set_cons_zero])
      (refine wpT_loud (i := 4) rfl (by kernel_rfl) (fun K hK => ?_))
      go_wp2_with (go_at_call 26; refine (at_at s (6 + 4 * k) _ _ hs (by omega) (by omega)).mono ?_; rintro e w' ⟨rfl, rfl⟩); refine hK.out _ _ (fun _ => hS) ?_; clear hK
      (refine wpT_more (i := 8) (by kernel_rfl) (by omega) rfl (by kernel_rfl) (by kernel_rfl) (by kernel_rfl) (fun _ _ _ _ h => h) hS ?_; apply Exists.intro; apply And.intro; (refine Or.inl ⟨by rfl, ?_⟩; intro w' hS'; obtain ⟨h1, h2, h3⟩ := hS'; go_simp; rfl); simp only [Act.put, List.setIfInBounds_toArray, List.set_cons_succ, List.set_cons_zero])
      (refine wpT_loud (i := 15) rfl (by kernel_rfl) (fun K hK => ?_))
      go_wp2_with (go_at_call 26; refine (at_at s (6 + 4 * k + 1) _ _ hs (by omega) (by omega)).mono ?_; rintro e w' ⟨rfl, rfl⟩); refine hK.out _ _ (fun _ => hS) ?_; clear hK
      (refine wpT_loud (i := 19) rfl (by kernel_rfl) (fun K hK => ?_))
      go_wp2_with (go_at_call 26; refine (at_at s (6 + 4 * k + 1 + 1) _ _ hs (by omega) (by omega)).mono ?_; rintro e w' ⟨rfl, rfl⟩); refine hK.out _ _ (fun _ => hS) ?_; clear hK
      (refine wpT_loud (i := 23) rfl (by kernel_rfl) (fun K hK => ?_))
      go_wp2_with (go_at_call 26; refine (at_at s (6 + 4 * k + 1 + 1 + 1) _ _ hs (by omega) (by omega)).mono ?_; rintro e w' ⟨rfl, rfl⟩); refine hK.out _ _ (fun _ => hS) ?_; clear hK
      (refine wpT_loud (i := 24) rfl (by kernel_rfl) (fun K hK => ?_))
      go_wp2_with (go_at_call 27; refine (refOp_agg (dSt s) (bat s (6 + 4 * k + 1 + 1)) (bat s (6 + 4 * k + 1 + 1 + 1)) (bat s (6 + 4 * k + 1)) _ st1 st2 (by omega) (by omega) (by omega) (by omega) (by omega)).mono ?_; rintro e w2 ⟨rfl, hb2⟩; have R2 := R.drew.more hb2; have hS2 := hSS _ R2)
      refine hK.out _ _ (fun _ => hS2) ?_
      clear hK hS hb2
      have hS := hS2
      (refine wpT_more (i := 25) (by kernel_rfl) (by omega) rfl (by kernel_rfl) (by kernel_rfl) (by kernel_rfl) (fun _ _ _ _ h => h) hS ?_; apply Exists.intro; apply And.intro; (refine Or.inl ⟨by rfl, ?_⟩; intro w' hS'; obtain ⟨h1, h2, h3⟩ := hS'; go_simp; rfl); simp only [Act.put, List.setIfInBounds_toArray, List.set_cons_succ, List.set_cons_zero])
      (refine wpT_loud (i := 26) rfl (by kernel_rfl) (fun K hK => ?_))
      go_wp2
      have R3 := R2.alloc (.cells (taskOf s (6 + 4 * k)).cells.toArray 41)
      refine hK.out _ _ (fun _ => hSS _ R3) ?_
      clear hK hS hS2
      (refine wpT_loud (i := 27) rfl (by kernel_rfl) (fun K hK => ?_))
      have hlt2 := R2.lt
      refine wpList_append_lies _ (by rfl) _ _ _ (by rfl) (w.heap.size + 2) 41 i0 _ 5 40 Tryd.underlying26 hi0 hz0 hz1 hz2 rfl (by omega) v k (tcells (decOps s k)) (by rfl) R3.own ⟨w2.heap.size, 0, none⟩ 1 1 (taskOf s (6 + 4 * k)).cells (by rfl) (by rfl) (World.news_of_block (cs := (taskOf s (6 + 4 * k)).cells.toArray) (t := 41) (fr := (0, 0)) (heap_alloc_new w2 _)) (by simp [PTask.cells, Value.oneCell']) (by omega) (by simp only [maxLen]; omega) (by omega) (by simp; omega) (w2.heap.size + 1) (by simp) ?_
      intro gg cap w4 hown4 hg4 hat4 hlt4
      obtain ⟨e5, e6, e0, e2, f5, f6⟩ := R3.afterCells (own_ge R3.own) hg4
      go_wp2
      refine hK.out _ _ (fun _ => ⟨e5, e2, e0⟩) ?_
      clear hK
      have hS := (⟨e5, e2, e0⟩ : w4.cell? ⟨w.heap.size + 1, 5, none⟩ = some v ∧ w4.cell? ⟨w.heap.size + 1, 2, none⟩ = some (.int .i64 (dTh s)) ∧ w4.cell? ⟨w.heap.size + 1, 0, none⟩ = some (.int .i64 (dSt s)))
      (refine wpT_more (i := 28) (by kernel_rfl) (by omega) rfl (by kernel_rfl) (by kernel_rfl) (by kernel_rfl) (fun _ _ _ _ h => h) hS ?_; apply Exists.intro; apply And.intro; (refine Or.inl ⟨by rfl, ?_⟩; intro w' hS'; obtain ⟨h1, h2, h3⟩ := hS'; go_simp; rfl); simp only [Act.put, List.setIfInBounds_toArray, List.set_cons_succ, List.set_cons_zero])
      (refine wpT_loud (i := 29) rfl (by kernel_rfl) (fun K hK => ?_))
      go_wp2
      refine hK.out _ _ (fun h => absurd h (by omega)) ?_
      clear hK hS
      refine wpT_done (by kernel_rfl) ?_ _
      have Rn := R3.pushOp hown4 hg4
      clear R3 R2 R
      go_wp2
      go_roundw
      case rel => exact ⟨k + 1, _, by omega, by go_num, Rn⟩
      case measure => simp [intOf]; omega
    · have hke : k = dN s := by omega
      subst hke
      have hge : ¬ ((dN s : Nat) : Int) < (bat s 5 : Int) % 65 := by unfold dN; omega
      have hn5 : (bat s 5 : Int) % 65 = (dN s : Int) := by unfold dN; omega
      have HN := Lib.hid hn5; clear hn5
      have n1 : (bat s 5 : Int) % 65 ≤ 64 := by omega
      go_wp2_with fail
      clear hge
      go_loopw [7] (fun i wr => ∃ (j : Nat) (A' : Option Addr) (c' : Nat), j ≤ dP s ∧ i = .int .i64 ((6 + 4 * dN s + j : Nat) : Int) ∧ R1 w wr s (dN s) j v (.slice A' j c')) (fun i _ => s.size - (intOf i).toNat)
      case atStart => exact ⟨0, none, 0, Nat.zero_le _, by rw [HN.out]; go_num, R⟩
      case round =>
        obtain ⟨j, A', c', hj, rfl, M⟩ := hrel
        have m5 := M.picks
        have m6 := M.th
        have th1 : 1 ≤ dTh s := by unfold dTh; omega
        have th2 : dTh s ≤ 6 := by unfold dTh; omega
        have th0 : ¬ dTh s = 0 := by omega
        by_cases hlt : 6 + 4 * dN s + j < s.size
        · have hlt' : (6 : Int) + 4 * (dN s : Int) + (j : Int) < (s.size : Int) := by omega
          by_cases h4 : j < 4096
          · have h4' : (j : Int) < 4096 := by omega
            have hbl : s[6 + 4 * dN s + j].toNat < 256 := UInt8.toNat_lt _
            have hbt : pickAt s (dTh s) (dN s) j = (s[6 + 4 * dN s + j].toNat : Int) % dTh s := by unfold pickAt bat; rw [dif_pos hlt]
            have HT := Lib.hid hbt; clear hbt
            have hSS : ∀ wx, R1 w wx s (dN s) j v (.slice A' j c') → wx.cell? ⟨w.heap.size + 1, 6, none⟩ = some (.slice A' j c') ∧ wx.cell? ⟨w.heap.size + 1, 2, none⟩ = some (.int .i64 (dTh s)) := fun wx h => ⟨h.picks, h.th⟩
            obtain ⟨i0, hi0, hz0, hz1, hz2⟩ := info_parts infoInt
            go_wp2_with fail
            refine wp_region_T (fun w' => w'.cell? ⟨w.heap.size + 1, 6, none⟩ = some (.slice A' j c') ∧ w'.cell? ⟨w.heap.size + 1, 2, none⟩ = some (.int .i64 (dTh s))) 13 (by kernel_rfl) (hSS _ M.drew) (fun hS => ?_)
            (refine wpT_more (i := 0) (by kernel_rfl) (by omega) rfl (by kernel_rfl) (by kernel_rfl) (by kernel_rfl) (fun _ _ _ _ h => h) hS ?_; apply Exists.intro; apply And.intro; (refine Or.inl ⟨by rfl, ?_⟩; intro w' hS'; obtain ⟨h1, h2⟩ := hS'; go_simp; rfl); simp only [Act.put, List.setIfInBounds_toArray, List.set_cons_succ, List.set_cons_zero])
            (refine wpT_more (i := 1) (by kernel_rfl) (by omega) rfl (by kernel_rfl) (by kernel_rfl) (by kernel_rfl) (fun _ _ _ _ h => h) hS ?_; apply Exists.intro; apply And.intro; (refine Or.inl ⟨by rfl, ?_⟩; intro w' hS'; obtain ⟨h1, h2⟩ := hS'; go_simp; rfl); simp only [Act.put, List.setIfInBounds_toArray, List.set_cons_succ, List.set_cons_zero])
            (refine wpT_more (i := 2) (by kernel_rfl) (by omega) rfl (by kernel_rfl) (by kernel_rfl) (by kernel_rfl) (fun _ _ _ _ h => h) hS ?_; apply Exists.intro; apply And.intro; (refine Or.inl ⟨by rfl, ?_⟩; intro w' hS'; obtain ⟨h1, h2⟩ := hS'; go_simp; rfl); simp only [Act.put, List.setIfInBounds_toArray, List.set_cons_succ, List.set_cons_zero])
            (refine wpT_more (i := 3) (by kernel_rfl) (by omega) rfl (by kernel_rfl) (by kernel_rfl) (by kernel_rfl) (fun _ _ _ _ h => h) hS ?_; apply Exists.intro; apply And.intro; (refine Or.inl ⟨by rfl, ?_⟩; intro w' hS'; obtain ⟨h1, h2⟩ := hS'; go_simp; rfl); simp only [Act.put, List.setIfInBounds_toArray, List.set_cons_succ, List.set_cons_zero])
            (refine wpT_more (i := 4) (by kernel_rfl) (by omega) rfl (by kernel_rfl) (by kernel_rfl) (by kernel_rfl) (fun _ _ _ _ h => h) hS ?_; apply Exists.intro; apply And.intro; (refine Or.inl ⟨by rfl, ?_⟩; intro w' hS'; obtain ⟨h1, h2⟩ := hS'; go_simp; rfl); simp only [Act.put, List.setIfInBounds_toArray, List.set_cons_succ, List.set_cons_zero])
            (refine wpT_more (i := 5) (by kernel_rfl) (by omega) rfl (by kernel_rfl) (by kernel_rfl) (by kernel_rfl) (fun _ _ _ _ h => h) hS ?_; apply Exists.intro; apply And.intro; (refine Or.inl ⟨by rfl, ?_⟩; intro w' hS'; obtain ⟨h1, h2⟩ := hS'; go_simp; rfl); simp only [Act.put, List.setIfInBounds_toArray, List.set_cons_succ, List.set_cons_zero])
            (refine wpT_more (i := 6) (by kernel_rfl) (by omega) rfl (by kernel_rfl) (by kernel_rfl) (by kernel_rfl) (fun _ _ _ _ h => h) hS ?_; apply Exists.intro; apply And.intro; (refine Or.inl ⟨by rfl, ?_⟩; intro w' hS'; obtain ⟨h1, h2⟩ := hS'; go_simp; rfl); simp only [Act.put, List.setIfInBounds_toArray, List.set_cons_succ, List.set_cons_zero])
            (refine wpT_more (i := 7) (by kernel_rfl) (by omega) rfl (by kernel_rfl) (by kernel_rfl) (by kernel_rfl) (fun _ _ _ _ h => h) hS ?_; apply Exists.intro; apply And.intro; (refine Or.inl ⟨by rfl, ?_⟩; intro w' hS'; obtain ⟨h1, h2⟩ := hS'; go_simp; rfl); simp only [Act.put, List.setIfInBounds_toArray, List.set_cons_succ, List.set_cons_zero])
            (refine wpT_more (i := 8) (by kernel_rfl) (by omega) rfl (by kernel_rfl) (by kernel_rfl) (by kernel_rfl) (fun _ _ _ _ h => h) hS ?_; apply Exists.intro; apply And.intro; (refine Or.inl ⟨by rfl, ?_⟩; intro w' hS'; obtain ⟨h1, h2⟩ := hS'; go_simp; rfl); simp only [Act.put, List.setIfInBounds_toArray, List.set_cons_succ, List.set_cons_zero])
            (refine wpT_more (i := 9) (by kernel_rfl) (by omega) rfl (by kernel_rfl) (by kernel_rfl) (by kernel_rfl) (fun _ _ _ _ h => h) hS ?_; apply Exists.intro; apply And.intro; (refine Or.inl ⟨by rfl, ?_⟩; intro w' hS'; obtain ⟨h1, h2⟩ := hS'; go_simp; rfl); simp only [Act.put, List.setIfInBounds_toArray, List.set_cons_succ, List.set_cons_zero])
            (refine wpT_loud (i := 10) rfl (by kernel_rfl) (fun K hK => ?_))
            go_wp2
            rw [← HT.out]
            have M3 := M.drew.alloc (.cells #[.int .i64 (pickAt s (dTh s) (dN s) j)] 3)
            refine hK.out _ _ (fun _ => hSS _ M3) ?_
            clear hK hS
            (refine wpT_loud (i := 11) rfl (by kernel_rfl) (fun K hK => ?_))
            have hlt2 := M.lt
            refine wpList_append_lies _ (by rfl) _ _ _ (by rfl) (w.heap.size + 2) 3 i0 _ 1 8 Tryd.underlying27 hi0 hz0 hz1 hz2 rfl (by omega) (.slice A' j c') j (icells (decPicks s j)) (by rfl) M3.own' ⟨wr.heap.size, 0, none⟩ 1 1 [.int .i64 (pickAt s (dTh s) (dN s) j)] (by rfl) (by rfl) (World.news_of_block (cs := #[.int .i64 (pickAt s (dTh s) (dN s) j)]) (t := 3) (fr := (0, 0)) (heap_alloc_new wr.drew _)) (by simp [Value.oneCell']) (by omega) (by simp only [maxLen]; omega) (by omega) (by simp; omega) (wr.heap.size + 1) (by simp) ?_
            intro gg cap w4 hown4 hg4 hat4 hlt4
            obtain ⟨e5, e6, e0, e2, f5, f6⟩ := M3.afterCells (own_ge M3.own') hg4
            go_wp2
            refine hK.out _ _ (fun _ => ⟨e6, e2⟩) ?_
            clear hK
            have hS := (⟨e6, e2⟩ : w4.cell? ⟨w.heap.size + 1, 6, none⟩ = some (.slice A' j c') ∧ w4.cell? ⟨w.heap.size + 1, 2, none⟩ = some (.int .i64 (dTh s)))
            (refine wpT_more (i := 12) (by kernel_rfl) (by omega) rfl (by kernel_rfl) (by kernel_rfl) (by kernel_rfl) (fun _ _ _ _ h => h) hS ?_; apply Exists.intro; apply And.intro; (refine Or.inl ⟨by rfl, ?_⟩; intro w' hS'; obtain ⟨h1, h2⟩ := hS'; go_simp; rfl); simp only [Act.put, List.setIfInBounds_toArray, List.set_cons_succ, List.set_cons_zero])
            (refine wpT_loud (i := 13) rfl (by kernel_rfl) (fun K hK => ?_))
            go_wp2
            refine hK.out _ _ (fun h => absurd h (by omega)) ?_
            clear hK hS
            refine wpT_done (by kernel_rfl) ?_ _
            have Mn := M3.pushPick hown4 hg4
            clear M3 M hSS
            go_wp2
            go_roundw
            case rel => exact ⟨j + 1, _, _, by unfold dP; omega, by go_num, Mn⟩
            case measure => simp [intOf]; omega
          · obtain rfl : j = dP s := by unfold dP at hj ⊢; omega
            have h4' : ¬ ((dP s : Nat) : Int) < 4096 := by omega
            ((obtain ⟨A0, c0, rfl⟩ := own_slice M.own); have O := M.o; have X := M.x; have o0 := O.cell 0; have o1 := O.cell 1; have o2 := O.cell 2; have o3 := O.cell 3; have o4 := O.cell 4; have o5 := O.cell 5; have o6 := O.cell 6; have x0 := X.cell 0; have x1 := X.cell 1; have x3 := X.cell 3; have x4 := X.cell 4; have x5 := X.cell 5; simp [xcell] at o0 o1 o2 o3 o4 o5 o6 x0 x1 x3 x4 x5; have fo := O.free; go_wp2_with fail; refine bodyPost_ret (v := .agg #[.int .i64 (dSt s), .int .i64 (dEn s), .int .i64 (dTh s), .int .i64 (dSl s), .int .i64 (dNo s), .slice A0 (dN s) c0, .slice A' (dP s) c']) (by simp [results, Tryd.results12, go_sem, o0, o1, o2, o3, o4, o5, o6]) rfl (M.out _ _ _ _ _ _ _))
        · obtain rfl : j = dP s := by unfold dP at hj ⊢; omega
          have hlt' : ¬ (6 : Int) + 4 * (dN s : Int) + ((dP s : Nat) : Int) < (s.size : Int) := by omega
          ((obtain ⟨A0, c0, rfl⟩ := own_slice M.own); have O := M.o; have X := M.x; have o0 := O.cell 0; have o1 := O.cell 1; have o2 := O.cell 2; have o3 := O.cell 3; have o4 := O.cell 4; have o5 := O.cell 5; have o6 := O.cell 6; have x0 := X.cell 0; have x1 := X.cell 1; have x3 := X.cell 3; have x4 := X.cell 4; have x5 := X.cell 5; simp [xcell] at o0 o1 o2 o3 o4 o5 o6 x0 x1 x3 x4 x5; have fo := O.free; go_wp2_with fail; refine bodyPost_ret (v := .agg #[.int .i64 (dSt s), .int .i64 (dEn s), .int .i64 (dTh s), .int .i64 (dSl s), .int .i64 (dNo s), .slice A0 (dN s) c0, .slice A' (dP s) c']) (by simp [results, Tryd.results12, go_sem, o0, o1, o2, o3, o4, o5, o6]) rfl (M.out _ _ _ _ _ _ _))

end Go.Proofs.YthecbeejlpgdaaaDoor
