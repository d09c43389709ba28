/- The reference's Parse, walked. -/
import Derived.Test.YtciioiklkaannaaGreatDoorRfM
namespace Go.Proofs.YtciioiklkaannaaGreatDoor
open Go Go.RowKit
set_option linter.unusedSimpArgs false
set_option linter.unusedVariables false
set_option linter.unusedSectionVars false

set_option maxRecDepth 100000 in
set_option maxHeartbeats 25600000 in
theorem refParse_any (s : ByteArray) (hs : s.size ≤ 40000) (w : World) : Calls Tryz.prog 17 #[.string s] w (RetRP s w) := by
  have A1 : Bk ((w.alloc (.cells #[.int .i64 0, .int .i64 0, .int .i64 0, .int .i64 0, .int .i64 0, .slice none 0 0, .slice none 0 0] 27)).alloc (.cells #[.int .i64 0, .int .i64 0, .int .i64 0, .int .i64 0, .int .i64 0, .slice none 0 0, .slice none 0 0] 27)) w.heap.size 27 #[.int .i64 0, .int .i64 0, .int .i64 0, .int .i64 0, .int .i64 0, .slice none 0 0, .slice none 0 0] := (Bk.at_ rfl).alloc _
  have N1 : Bk ((w.alloc (.cells #[.int .i64 0, .int .i64 0, .int .i64 0, .int .i64 0, .int .i64 0, .slice none 0 0, .slice none 0 0] 27)).alloc (.cells #[.int .i64 0, .int .i64 0, .int .i64 0, .int .i64 0, .int .i64 0, .slice none 0 0, .slice none 0 0] 27)) (w.heap.size + 1) 27 #[.int .i64 0, .int .i64 0, .int .i64 0, .int .i64 0, .int .i64 0, .slice none 0 0, .slice none 0 0] := Bk.at_ (by simp)
  have hb0 : Below w.heap.size w ((w.alloc (.cells #[.int .i64 0, .int .i64 0, .int .i64 0, .int .i64 0, .int .i64 0, .slice none 0 0, .slice none 0 0] 27)).alloc (.cells #[.int .i64 0, .int .i64 0, .int .i64 0, .int .i64 0, .int .i64 0, .slice none 0 0, .slice none 0 0] 27)) := by (repeat' (first | (with_reducible exact Below.refl _ _) | (with_reducible assumption) | (with_reducible refine Below.alloc ?_ ?_ _) | (with_reducible refine Below.drew ?_) | (with_reducible refine below_drewN ?_ _) | (with_reducible refine Below.setCell ?_ ?_ _) | go_size))
  have hz0 : ((w.alloc (.cells #[.int .i64 0, .int .i64 0, .int .i64 0, .int .i64 0, .int .i64 0, .slice none 0 0, .slice none 0 0] 27)).alloc (.cells #[.int .i64 0, .int .i64 0, .int .i64 0, .int .i64 0, .int .i64 0, .slice none 0 0, .slice none 0 0] 27)).heap.size = w.heap.size + 2 := by simp
  go_enter Tryz.func17, Tryz.ntmps17
  go_wp2_with (refine wpList_store_bk (by rfl) _ _ _ (by rfl) (w.heap.size + 1) _ (by rfl) (by rfl) _ _ N1 (by rfl) (by kernel_rfl) (by rfl) ?_; intro w1 hst)
  have hz1 : w1.heap.size = w.heap.size + 2 := hst.size.trans hz0
  have A2 : Bk (w1.alloc (.cells #[.int .i64 0, .int .i64 0, .int .i64 0, .int .i64 0, .int .i64 0, .slice none 0 0, .slice none 0 0] 27)) w.heap.size 27 #[.int .i64 0, .int .i64 0, .int .i64 0, .int .i64 0, .int .i64 0, .slice none 0 0, .slice none 0 0] := (hst.far A1 (by omega)).alloc _
  have N2 : Bk (w1.alloc (.cells #[.int .i64 0, .int .i64 0, .int .i64 0, .int .i64 0, .int .i64 0, .slice none 0 0, .slice none 0 0] 27)) (w.heap.size + 1) 27 #[.int .i64 0, .int .i64 0, .int .i64 0, .int .i64 0, .int .i64 0, .slice none 0 0, .slice none 0 0] := hst.bk.alloc _
  have X2 : Bk (w1.alloc (.cells #[.int .i64 0, .int .i64 0, .int .i64 0, .int .i64 0, .int .i64 0, .slice none 0 0, .slice none 0 0] 27)) w1.heap.size 27 #[.int .i64 0, .int .i64 0, .int .i64 0, .int .i64 0, .int .i64 0, .slice none 0 0, .slice none 0 0] := Bk.at_ rfl
  have hb2 : Below w.heap.size w (w1.alloc (.cells #[.int .i64 0, .int .i64 0, .int .i64 0, .int .i64 0, .int .i64 0, .slice none 0 0, .slice none 0 0] 27)) := (hst.below hb0 (by omega)).alloc (by omega) _
  clear A1 N1 hb0 hz0 hst
  have M0 : PR w w1.heap.size zScr (.slice none 0 0) (.slice none 0 0) (w1.alloc (.cells #[.int .i64 0, .int .i64 0, .int .i64 0, .int .i64 0, .int .i64 0, .slice none 0 0, .slice none 0 0] 27)) := ⟨by omega, A2, N2, X2, Own.nil, Own.nil, fun b e => (by cases e), fun b e => (by cases e), fun b e => (by cases e), hb2⟩
  clear A2 N2 X2 hb2
  generalize (w1.alloc (.cells #[.int .i64 0, .int .i64 0, .int .i64 0, .int .i64 0, .int .i64 0, .slice none 0 0, .slice none 0 0] 27)) = w3 at *
  generalize w1.heap.size = B at *
  clear hz1
  have MH := Lib.hid M0
  clear M0
  go_loopw [6, 7] (fun t6 t7 wr => ∃ (f i : Nat) (x : PScr) (vo vp : Value), t6 = .int .i64 f ∧ t7 = .int .i64 i ∧ f ≤ i ∧ i ≤ s.size ∧ x.ops.length ≤ f ∧ x.picks.length ≤ f ∧ Hid (Tx s.data.toList f x) ∧ Hid (NoNl s.data.toList f i) ∧ PR w B x vo vp wr) (fun _ t7 _ => s.size - (intOf t7).toNat)
  case atStart => exact ⟨0, 0, zScr, _, _, rfl, rfl, Nat.le_refl _, Nat.zero_le _, Nat.le_refl _, Nat.le_refl _, Lib.hid (tx_start _), Lib.hid (fun p h1 h2 => absurd h2 (by omega)), MH.out⟩
  case round =>
    obtain ⟨f, i, x, vo, vp, rfl, rfl, hfi, his, lo, lp, T, NN, M'⟩ := hrel
    have M := Lib.hid M'
    clear M' MH
    by_cases hlt : i < s.size
    · by_cases h10 : s[i] = 10
      · have LN := Lib.hid (ln_of NN.out hfi hlt h10)
        have q1 : ((s[i]).toNat : Int) = 10 := by rw [h10]; rfl
        have i1 : (0 : Int) ≤ (f : Int) := by omega
        have i2 : (f : Int) ≤ (i : Int) := by omega
        have i3 : (i : Int) ≤ (s.size : Int) := by omega
        have hS := ln_str s f i
        have hz : (s.extract f i).size = i - f := by rw [← s_len, hS]; exact ln_len LN.out
        clear h10 NN
        go_upto_region 11 with (fail)
        generalize (s.extract f i) = S at *
        by_cases hlong : 200 < i - f
        · have i4 : (200 : Int) < (S.size : Int) := by omega
          have HN := Lib.hid (ln_long T.out LN.out hlong)
          clear hlong hS
          (have BR := M.out.br; have BN := M.out.bn; (have y0 := BN.cell 0; have y1 := BN.cell 1; have y2 := BN.cell 2; have y3 := BN.cell 3; have y4 := BN.cell 4; have y5 := BN.cell 5; have y6 := BN.cell 6; simp only [List.getElem?_toArray, List.getElem?_cons_zero, List.getElem?_cons_succ] at y0 y1 y2 y3 y4 y5 y6); go_wp2_with (refine wpList_store_bk (by rfl) _ _ _ (by rfl) w.heap.size _ (by rfl) (by rfl) _ _ BR (by rfl) (by kernel_rfl) (by rfl) ?_; intro wy hst); have r0 := hst.bk.cell 0; have r1 := hst.bk.cell 1; have r2 := hst.bk.cell 2; have r3 := hst.bk.cell 3; have r4 := hst.bk.cell 4; have r5 := hst.bk.cell 5; have r6 := hst.bk.cell 6; simp at r0 r1 r2 r3 r4 r5 r6; refine bodyPost_ret (v := .tuple #[.agg #[.int .i64 0, .int .i64 0, .int .i64 0, .int .i64 0, .int .i64 0, .slice none 0 0, .slice none 0 0], .bool false]) (by simp [results, Tryz.results17, go_sem, r0, r1, r2, r3, r4, r5, r6]) rfl ?_; exact ⟨hst.below M.out.below (Nat.le_refl _), Or.inr ⟨HN.out, rfl⟩⟩)
        · have i4 : (S.size : Int) ≤ 200 := by omega
          have hS200 : S.size ≤ 200 := by omega
          have HZS := Lib.hid hz
          clear hz
          go_wp2_with fail
          refine (words_any S (by omega) wr).mono ?_
          rintro e w5 ⟨A, c, rfl, hW, hb, hA⟩
          obtain ⟨W, hWe⟩ : ∃ W, W = sp 32 S.data.toList := ⟨_, rfl⟩
          rw [← hWe] at hW ⊢
          have hlen : (∀ x ∈ W, x.length ≤ 1000000) ∧ W.length ≤ i - f + 1 := by
            have h1 := sp_len 32 S.data.toList
            have h2 := sp_elt 32 S.data.toList
            rw [← hWe, s_len] at h1
            rw [← hWe] at h2
            exact ⟨fun x hx => by have := h2 x hx; rw [s_len] at this; omega, by have h9 := HZS.out; omega⟩
          obtain ⟨hlx, lW⟩ := hlen
          have lW1 : 1 ≤ W.length := List.length_pos_iff.2 (by rw [hWe]; exact sp_ne _ _)
          have HAB : Hid (∀ b o, A = some ⟨b, o, none⟩ → b ≠ B ∧ ∀ g, vp.ownBlock = some g → b ≠ g) := fun b o e => ⟨by have h1 := hA b o e; have h2 := M.out.bx.lt; omega, fun g hg => by have h1 := hA b o e; have h2 := M.out.op.lt hg; omega⟩
          have M1 := Lib.hid (M.out.more hb)
          have HWe : Hid (W = sp 32 ((s.data.toList.drop f).take (i - f))) := by show _ = _; rw [hWe, hS]
          have HA : Hid (∀ (n : Nat) (j : Int), j = (n : Int) → n ≤ 1000000 → ∀ w0, WL w0 A W → Calls Tryz.prog 42 #[.slice A W.length c, .int .i64 j] w0 fun e w' => e = .returned (.int .i64 (atV W n)) ∧ w0 = w') := fun n j hj hi w0 hw => by
            rw [hj]; exact at_any A c W w0 hw hlx (by omega) n (by omega) _ rfl
          have HWL := Lib.hid hW
          have HS := Lib.hid hS
          clear hW hb hA hWe hlx M hlong hS
          by_cases hf : f = 0
          · have f0 : ((f : Int) == 0) = true := by rw [hf]; rfl
            obtain ⟨Wb, Wo, rfl, hWb, hWc⟩ := HWL.out.2 (by omega)
            have HTH : Hid (TxH s.data.toList i W x.ops x.picks 1 x.st x.en) := by
              have h1 := T.out; have h2 := LN.out; have h3 := HWe.out
              rw [hf] at h1 h2 h3
              exact txh_start h1 h2 h3
            have hlo : x.ops.length ≤ 0 ∧ x.picks.length ≤ 0 := ⟨by omega, by omega⟩
            have HLO := Lib.hid hlo
            have hWB : Wb ≠ B := (HAB.out _ _ rfl).1
            clear hf hWb hWc hlo lo lp HAB T
            go_wp2_with fail
            go_loopw [11] (fun t11 wx => ∃ (k : Nat) (st en : Int), t11 = .int .i64 k ∧ 1 ≤ k ∧ k ≤ 6 ∧ TxH s.data.toList i W x.ops x.picks k st en ∧ PR w B { x with st := st, en := en } vo vp wx ∧ WL wx (some ⟨Wb, Wo, none⟩) W) (fun t11 _ => 6 - (intOf t11).toNat)
            case atStart => exact ⟨1, x.st, x.en, rfl, Nat.le_refl _, by omega, HTH.out, M1.out, HWL.out⟩
            case round =>
              obtain ⟨k, st, en, rfl, hk1, hk6, TH, MP, WP⟩ := hrel
              have TH9 := Lib.hid TH
              have MH := Lib.hid MP
              have WH := Lib.hid WP
              clear TH MP WP HTH M1 HWL
              by_cases hk5 : k ≤ 5
              · have k5 : (k : Int) ≤ 5 := by omega
                by_cases h6 : W.length = 6
                · have l6 : ((W.length : Int) == 6) = true := by rw [h6]; rfl
                  have l1 : (1 : Int) < (W.length : Int) := by omega
                  have l2 : (2 : Int) < (W.length : Int) := by omega
                  have hp1 : 1 < W.length := by omega
                  have hp2 : 2 < W.length := by omega
                  have H6 := Lib.hid h6
                  clear h6
                  obtain ⟨Z1, hZ1⟩ : ∃ Z1, bs W[1] = Z1 := ⟨_, rfl⟩
                  obtain ⟨Z2, hZ2⟩ : ∃ Z2, bs W[2] = Z2 := ⟨_, rfl⟩
                  have HZ1 := Lib.hid hZ1
                  have HZ2 := Lib.hid hZ2
                  have HC1 : Hid (∀ w0, WL w0 (some ⟨Wb, Wo, none⟩) W → w0.cell? ⟨Wb, Wo + 1, none⟩ = some (.string Z1) ∧ w0.cell? ⟨Wb, Wo + 2, none⟩ = some (.string Z2)) := fun w0 h0 => by
                    obtain ⟨b, o, e, _, hc⟩ := h0.2 (by omega)
                    cases e
                    exact ⟨by rw [← hZ1]; exact hc 1 _ (by simp [strs, hp1]), by rw [← hZ2]; exact hc 2 _ (by simp [strs, hp2])⟩
                  clear hZ1 hZ2
                  have q11 := (HC1.out wr WH.out).1
                  obtain ⟨Y1, hY1⟩ : ∃ Y, bs (stWord k) = Y := ⟨_, rfl⟩
                  have HY1 := Lib.hid hY1
                  have HST := Lib.hid (fun w0 => structure_any k (by omega) (by omega) w0)
                  rw [hY1] at HST
                  clear hY1
                  go_upto_region 22 with (fail)
                  refine wp_region_T (fun w' => w'.cell? ⟨Wb, Wo + 1, none⟩ = some (.string Z1)) 6 (by kernel_rfl) q11 (fun hS => ?_)
                  have M6 := Lib.hid (MH.out.more ((Below.refl _ wr).drew))
                  have W6 := Lib.hid (WH.out.more ((Below.refl _ wr).drew))
                  clear MH WH q11
                  generalize wr.drew = w6 at *
                  ((try simp only [Act.put, List.setIfInBounds_toArray, List.set_cons_succ, List.set_cons_zero]); refine wpT_batch (fuel := 2) (by kernel_rfl) (by kernel_rfl) (fun d => by cases d <;> exact fun _ _ _ _ h => h) hS [0, 1, 2, 3] _ _ (by kernel_rfl) ?_; simp only [pickOps, nthOp, List.toList_toArray]; (repeat (first | go_big_quiet_skip | (go_big_quiet_want; first | (go_big_quiet_op; go_big_quiet_on) | (apply Exists.intro; refine ⟨fun w' hS' => ?_, ?_⟩; (· (skip; go_simp; first | done | rfl | exact ⟨rfl, rfl⟩)); go_big_quiet_on; simp only [Act.put, List.setIfInBounds_toArray, List.set_cons_succ, List.set_cons_zero])))); refine wpQuiet_nil ?_; (try dsimp only))
                  (refine wpT_loudN 4 (by kernel_rfl) (fun K hK => ?_); simp only [nthOp, List.toList_toArray])
                  go_wp2_with fail
                  refine (HST.out w6).mono ?_
                  rintro e w9 ⟨rfl, rfl⟩
                  go_wp2_with fail
                  refine hK.out _ _ (fun _ => hS) ?_
                  clear hK
                  ((try simp only [Act.put, List.setIfInBounds_toArray, List.set_cons_succ, List.set_cons_zero]); refine wpT_batch (fuel := 0) (by kernel_rfl) (by kernel_rfl) (fun d => by cases d <;> exact fun _ _ _ _ h => h) hS [5] _ _ (by kernel_rfl) ?_; simp only [pickOps, nthOp, List.toList_toArray]; (repeat (first | go_big_quiet_skip | (go_big_quiet_want; first | (go_big_quiet_op; go_big_quiet_on) | (apply Exists.intro; refine ⟨fun w' hS' => ?_, ?_⟩; (· (skip; go_simp; first | done | rfl | exact ⟨rfl, rfl⟩)); go_big_quiet_on; simp only [Act.put, List.setIfInBounds_toArray, List.set_cons_succ, List.set_cons_zero])))); refine wpQuiet_nil ?_; (try dsimp only))
                  refine wpT_done (by kernel_rfl) ?_ _
                  clear hS HST
                  by_cases hz1 : Z1 = Y1
                  · have t1 : (Z1.toList == Y1.toList) = true := ba_eq hz1
                    rw [t1]
                    have HS1 : Hid ((k : Int) = if W[1] = stWord k then (k : Int) else st) := (if_pos (bs_inj (HZ1.out.trans (hz1.trans HY1.out.symm)))).symm
                    clear hz1
                    have c0 := M6.out.bx.cell 0
                    have g0 := M6.out.bx.free 0
                    simp only [List.getElem?_toArray, List.getElem?_cons_zero, List.getElem?_cons_succ] at c0
                    have M7 := Lib.hid (M6.out.fld 0 (.int .i64 k) { x with st := k, en := en } rfl rfl rfl)
                    have W7 := Lib.hid (W6.out.set (B := B) (j := 0) hWB (.int .i64 k))
                    go_upto_region 24 with (fail)
                    clear c0 g0 M6 W6
                    generalize (w6.setCell ⟨B, 0, none⟩ (.int .i64 k)) = w7 at *
                    (have q12 := (HC1.out w7 W7.out).2; obtain ⟨Y2, hY2⟩ : ∃ Y, bs (enWord k) = Y := ⟨_, rfl⟩; have HY2 := Lib.hid hY2; have HEN := Lib.hid (fun w0 => engine_any k (by omega) (by omega) w0); rw [hY2] at HEN; clear hY2; refine wp_region_T (fun w' => w'.cell? ⟨Wb, Wo + 2, none⟩ = some (.string Z2)) 6 (by kernel_rfl) q12 (fun hS => ?_); have M8 := Lib.hid (M7.out.more ((Below.refl _ w7).drew)); have W8 := Lib.hid (W7.out.more ((Below.refl _ w7).drew)); clear M7 W7 q12; generalize (w7).drew = w8 at *; ((try simp only [Act.put, List.setIfInBounds_toArray, List.set_cons_succ, List.set_cons_zero]); refine wpT_batch (fuel := 2) (by kernel_rfl) (by kernel_rfl) (fun d => by cases d <;> exact fun _ _ _ _ h => h) hS [0, 1, 2, 3] _ _ (by kernel_rfl) ?_; simp only [pickOps, nthOp, List.toList_toArray]; (repeat (first | go_big_quiet_skip | (go_big_quiet_want; first | (go_big_quiet_op; go_big_quiet_on) | (apply Exists.intro; refine ⟨fun w' hS' => ?_, ?_⟩; (· (skip; go_simp; first | done | rfl | exact ⟨rfl, rfl⟩)); go_big_quiet_on; simp only [Act.put, List.setIfInBounds_toArray, List.set_cons_succ, List.set_cons_zero])))); refine wpQuiet_nil ?_; (try dsimp only)); (refine wpT_loudN 4 (by kernel_rfl) (fun K hK => ?_); simp only [nthOp, List.toList_toArray]); go_wp2_with fail; refine (HEN.out w8).mono ?_; rintro e wz ⟨rfl, rfl⟩; go_wp2_with fail; refine hK.out _ _ (fun _ => hS) ?_; clear hK; ((try simp only [Act.put, List.setIfInBounds_toArray, List.set_cons_succ, List.set_cons_zero]); refine wpT_batch (fuel := 0) (by kernel_rfl) (by kernel_rfl) (fun d => by cases d <;> exact fun _ _ _ _ h => h) hS [5] _ _ (by kernel_rfl) ?_; simp only [pickOps, nthOp, List.toList_toArray]; (repeat (first | go_big_quiet_skip | (go_big_quiet_want; first | (go_big_quiet_op; go_big_quiet_on) | (apply Exists.intro; refine ⟨fun w' hS' => ?_, ?_⟩; (· (skip; go_simp; first | done | rfl | exact ⟨rfl, rfl⟩)); go_big_quiet_on; simp only [Act.put, List.setIfInBounds_toArray, List.set_cons_succ, List.set_cons_zero])))); refine wpQuiet_nil ?_; (try dsimp only)); refine wpT_done (by kernel_rfl) ?_ _; clear hS HEN; by_cases hz2 : Z2 = Y2; (· have t2 : (Z2.toList == Y2.toList) = true := ba_eq hz2; rw [t2]; have TH2 := Lib.hid (txh_step TH9.out hk1 hk5 H6.out HS1.out (if_pos (bs_inj (HZ2.out.trans (hz2.trans HY2.out.symm)))).symm); clear hz2; have c1 := M8.out.bx.cell 1; have g1 := M8.out.bx.free 1; simp only [List.getElem?_toArray, List.getElem?_cons_zero, List.getElem?_cons_succ] at c1; have M9 := Lib.hid (M8.out.fld 1 (.int .i64 k) { x with st := (k : Int), en := k } rfl rfl rfl); have W9 := Lib.hid (W8.out.set (B := B) (j := 1) hWB (.int .i64 k)); go_wp2_with fail; go_roundw; (case rel => exact ⟨k + 1, (k : Int), k, (by go_num), (by omega), (by omega), TH2.out, M9.out, W9.out⟩); (case measure => simp [intOf]; omega)); (· have t2 : (Z2.toList == Y2.toList) = false := ba_ne hz2; rw [t2]; have TH2 := Lib.hid (txh_step TH9.out hk1 hk5 H6.out HS1.out (if_neg (fun e => hz2 (HZ2.out.symm.trans ((congrArg bs e).trans HY2.out)))).symm); clear hz2; go_wp2_with fail; go_roundw; (case rel => exact ⟨k + 1, (k : Int), en, (by go_num), (by omega), (by omega), TH2.out, M8.out, W8.out⟩); (case measure => simp [intOf]; omega)))
                  · have t1 : (Z1.toList == Y1.toList) = false := ba_ne hz1
                    rw [t1]
                    have HS1 : Hid (st = if W[1] = stWord k then (k : Int) else st) := (if_neg (fun e => hz1 (HZ1.out.symm.trans ((congrArg bs e).trans HY1.out)))).symm
                    clear hz1
                    go_upto_region 24 with (fail)
                    (have q12 := (HC1.out w6 W6.out).2; obtain ⟨Y2, hY2⟩ : ∃ Y, bs (enWord k) = Y := ⟨_, rfl⟩; have HY2 := Lib.hid hY2; have HEN := Lib.hid (fun w0 => engine_any k (by omega) (by omega) w0); rw [hY2] at HEN; clear hY2; refine wp_region_T (fun w' => w'.cell? ⟨Wb, Wo + 2, none⟩ = some (.string Z2)) 6 (by kernel_rfl) q12 (fun hS => ?_); have M8 := Lib.hid (M6.out.more ((Below.refl _ w6).drew)); have W8 := Lib.hid (W6.out.more ((Below.refl _ w6).drew)); clear M6 W6 q12; generalize (w6).drew = w8 at *; ((try simp only [Act.put, List.setIfInBounds_toArray, List.set_cons_succ, List.set_cons_zero]); refine wpT_batch (fuel := 2) (by kernel_rfl) (by kernel_rfl) (fun d => by cases d <;> exact fun _ _ _ _ h => h) hS [0, 1, 2, 3] _ _ (by kernel_rfl) ?_; simp only [pickOps, nthOp, List.toList_toArray]; (repeat (first | go_big_quiet_skip | (go_big_quiet_want; first | (go_big_quiet_op; go_big_quiet_on) | (apply Exists.intro; refine ⟨fun w' hS' => ?_, ?_⟩; (· (skip; go_simp; first | done | rfl | exact ⟨rfl, rfl⟩)); go_big_quiet_on; simp only [Act.put, List.setIfInBounds_toArray, List.set_cons_succ, List.set_cons_zero])))); refine wpQuiet_nil ?_; (try dsimp only)); (refine wpT_loudN 4 (by kernel_rfl) (fun K hK => ?_); simp only [nthOp, List.toList_toArray]); go_wp2_with fail; refine (HEN.out w8).mono ?_; rintro e wz ⟨rfl, rfl⟩; go_wp2_with fail; refine hK.out _ _ (fun _ => hS) ?_; clear hK; ((try simp only [Act.put, List.setIfInBounds_toArray, List.set_cons_succ, List.set_cons_zero]); refine wpT_batch (fuel := 0) (by kernel_rfl) (by kernel_rfl) (fun d => by cases d <;> exact fun _ _ _ _ h => h) hS [5] _ _ (by kernel_rfl) ?_; simp only [pickOps, nthOp, List.toList_toArray]; (repeat (first | go_big_quiet_skip | (go_big_quiet_want; first | (go_big_quiet_op; go_big_quiet_on) | (apply Exists.intro; refine ⟨fun w' hS' => ?_, ?_⟩; (· (skip; go_simp; first | done | rfl | exact ⟨rfl, rfl⟩)); go_big_quiet_on; simp only [Act.put, List.setIfInBounds_toArray, List.set_cons_succ, List.set_cons_zero])))); refine wpQuiet_nil ?_; (try dsimp only)); refine wpT_done (by kernel_rfl) ?_ _; clear hS HEN; by_cases hz2 : Z2 = Y2; (· have t2 : (Z2.toList == Y2.toList) = true := ba_eq hz2; rw [t2]; have TH2 := Lib.hid (txh_step TH9.out hk1 hk5 H6.out HS1.out (if_pos (bs_inj (HZ2.out.trans (hz2.trans HY2.out.symm)))).symm); clear hz2; have c1 := M8.out.bx.cell 1; have g1 := M8.out.bx.free 1; simp only [List.getElem?_toArray, List.getElem?_cons_zero, List.getElem?_cons_succ] at c1; have M9 := Lib.hid (M8.out.fld 1 (.int .i64 k) { x with st := st, en := k } rfl rfl rfl); have W9 := Lib.hid (W8.out.set (B := B) (j := 1) hWB (.int .i64 k)); go_wp2_with fail; go_roundw; (case rel => exact ⟨k + 1, st, k, (by go_num), (by omega), (by omega), TH2.out, M9.out, W9.out⟩); (case measure => simp [intOf]; omega)); (· have t2 : (Z2.toList == Y2.toList) = false := ba_ne hz2; rw [t2]; have TH2 := Lib.hid (txh_step TH9.out hk1 hk5 H6.out HS1.out (if_neg (fun e => hz2 (HZ2.out.symm.trans ((congrArg bs e).trans HY2.out)))).symm); clear hz2; go_wp2_with fail; go_roundw; (case rel => exact ⟨k + 1, st, en, (by go_num), (by omega), (by omega), TH2.out, M8.out, W8.out⟩); (case measure => simp [intOf]; omega)))
                · have l6 : ((W.length : Int) == 6) = false := beq_false_of_ne (by omega)
                  have TX := Lib.hid (txh_end TH9.out (Or.inr h6))
                  clear h6 TH9
                  (go_wp2_with fail; (refine (HA.out 3 3 rfl (by omega) wr WH.out).mono ?_; rintro e wz ⟨rfl, rfl⟩; obtain ⟨v3, hv3⟩ : ∃ v, atV W 3 = v := ⟨_, rfl⟩; rw [hv3]; have c3 := MH.out.bx.cell 2; have g3 := MH.out.bx.free 2; simp only [List.getElem?_toArray, List.getElem?_cons_zero, List.getElem?_cons_succ] at c3; have MF3 := Lib.hid (MH.out.fld 2 (.int .i64 v3) { x with st := st, en := en, th := v3 } rfl rfl rfl); have WF3 := Lib.hid (WH.out.set (B := B) (j := 2) hWB (.int .i64 v3)); have HV3 := Lib.hid hv3; clear hv3; go_wp2_with fail; clear c3 g3 MH WH; generalize (wr.setCell ⟨B, 2, none⟩ (.int .i64 v3)) = wf3 at *); (refine (HA.out 4 4 rfl (by omega) wf3 WF3.out).mono ?_; rintro e wz ⟨rfl, rfl⟩; obtain ⟨v4, hv4⟩ : ∃ v, atV W 4 = v := ⟨_, rfl⟩; rw [hv4]; have c4 := MF3.out.bx.cell 3; have g4 := MF3.out.bx.free 3; simp only [List.getElem?_toArray, List.getElem?_cons_zero, List.getElem?_cons_succ] at c4; have MF4 := Lib.hid (MF3.out.fld 3 (.int .i64 v4) { x with st := st, en := en, th := v3, sl := v4 } rfl rfl rfl); have WF4 := Lib.hid (WF3.out.set (B := B) (j := 3) hWB (.int .i64 v4)); have HV4 := Lib.hid hv4; clear hv4; go_wp2_with fail; clear c4 g4 MF3 WF3; generalize (wf3.setCell ⟨B, 3, none⟩ (.int .i64 v4)) = wf4 at *); refine (HA.out 5 5 rfl (by omega) wf4 WF4.out).mono ?_; rintro e wz ⟨rfl, rfl⟩; obtain ⟨v5, hv5⟩ : ∃ v, atV W 5 = v := ⟨_, rfl⟩; rw [hv5]; have c5 := MF4.out.bx.cell 4; have g5 := MF4.out.bx.free 4; simp only [List.getElem?_toArray, List.getElem?_cons_zero, List.getElem?_cons_succ] at c5; have MF5 := Lib.hid (MF4.out.fld 4 (.int .i64 v5) { x with st := st, en := en, th := v3, sl := v4, no := v5 } rfl rfl rfl); have TX2 : Hid (Tx s.data.toList (i + 1) ⟨st, en, v3, v4, v5, x.ops, x.picks⟩) := (by show Tx _ _ _; rw [← HV3.out, ← HV4.out, ← hv5]; exact TX.out); clear hv5; go_wp2_with fail; go_roundw; (case rel => exact ⟨i + 1, i + 1, ⟨st, en, v3, v4, v5, x.ops, x.picks⟩, _, _, (by go_num), (by go_num), Nat.le_refl _, (by omega), Nat.le_trans HLO.out.1 (Nat.zero_le _), Nat.le_trans HLO.out.2 (Nat.zero_le _), TX2, Lib.hid (fun p h1 h2 => absurd h2 (by omega)), MF5.out⟩); (case measure => simp [intOf]; omega))
              · have k5 : ¬ ((k : Int) ≤ 5) := by omega
                have TX := Lib.hid (txh_end TH9.out (Or.inl (by omega)))
                clear TH9
                (go_wp2_with fail; (refine (HA.out 3 3 rfl (by omega) wr WH.out).mono ?_; rintro e wz ⟨rfl, rfl⟩; obtain ⟨v3, hv3⟩ : ∃ v, atV W 3 = v := ⟨_, rfl⟩; rw [hv3]; have c3 := MH.out.bx.cell 2; have g3 := MH.out.bx.free 2; simp only [List.getElem?_toArray, List.getElem?_cons_zero, List.getElem?_cons_succ] at c3; have MF3 := Lib.hid (MH.out.fld 2 (.int .i64 v3) { x with st := st, en := en, th := v3 } rfl rfl rfl); have WF3 := Lib.hid (WH.out.set (B := B) (j := 2) hWB (.int .i64 v3)); have HV3 := Lib.hid hv3; clear hv3; go_wp2_with fail; clear c3 g3 MH WH; generalize (wr.setCell ⟨B, 2, none⟩ (.int .i64 v3)) = wf3 at *); (refine (HA.out 4 4 rfl (by omega) wf3 WF3.out).mono ?_; rintro e wz ⟨rfl, rfl⟩; obtain ⟨v4, hv4⟩ : ∃ v, atV W 4 = v := ⟨_, rfl⟩; rw [hv4]; have c4 := MF3.out.bx.cell 3; have g4 := MF3.out.bx.free 3; simp only [List.getElem?_toArray, List.getElem?_cons_zero, List.getElem?_cons_succ] at c4; have MF4 := Lib.hid (MF3.out.fld 3 (.int .i64 v4) { x with st := st, en := en, th := v3, sl := v4 } rfl rfl rfl); have WF4 := Lib.hid (WF3.out.set (B := B) (j := 3) hWB (.int .i64 v4)); have HV4 := Lib.hid hv4; clear hv4; go_wp2_with fail; clear c4 g4 MF3 WF3; generalize (wf3.setCell ⟨B, 3, none⟩ (.int .i64 v4)) = wf4 at *); refine (HA.out 5 5 rfl (by omega) wf4 WF4.out).mono ?_; rintro e wz ⟨rfl, rfl⟩; obtain ⟨v5, hv5⟩ : ∃ v, atV W 5 = v := ⟨_, rfl⟩; rw [hv5]; have c5 := MF4.out.bx.cell 4; have g5 := MF4.out.bx.free 4; simp only [List.getElem?_toArray, List.getElem?_cons_zero, List.getElem?_cons_succ] at c5; have MF5 := Lib.hid (MF4.out.fld 4 (.int .i64 v5) { x with st := st, en := en, th := v3, sl := v4, no := v5 } rfl rfl rfl); have TX2 : Hid (Tx s.data.toList (i + 1) ⟨st, en, v3, v4, v5, x.ops, x.picks⟩) := (by show Tx _ _ _; rw [← HV3.out, ← HV4.out, ← hv5]; exact TX.out); clear hv5; go_wp2_with fail; go_roundw; (case rel => exact ⟨i + 1, i + 1, ⟨st, en, v3, v4, v5, x.ops, x.picks⟩, _, _, (by go_num), (by go_num), Nat.le_refl _, (by omega), Nat.le_trans HLO.out.1 (Nat.zero_le _), Nat.le_trans HLO.out.2 (Nat.zero_le _), TX2, Lib.hid (fun p h1 h2 => absurd h2 (by omega)), MF5.out⟩); (case measure => simp [intOf]; omega))
          · have f0 : ((f : Int) == 0) = false := beq_false_of_ne (by omega)
            obtain ⟨Wb, Wo, rfl, hWb, hWc⟩ := HWL.out.2 (by omega)
            obtain ⟨Z0, hZ0⟩ : ∃ Z0, bs W[0] = Z0 := ⟨_, rfl⟩
            have hcell : ∀ j (h : j < W.length), w5.cell? ⟨Wb, Wo + j, none⟩ = some (.string (bs W[j])) := fun j h => hWc j _ (by simp [strs, h])
            have q0 : w5.cell? ⟨Wb, Wo, none⟩ = some (.string Z0) := by rw [← hZ0]; exact hcell 0 (by omega)
            have hh0 : W[0]? = some W[0] := List.getElem?_eq_getElem (by omega)
            by_cases hd : W[0] = wDo
            · have t1 : (Z0.toList == [100, 111]) = true := by rw [← hZ0, hd]; rw [Go.ByteArray.toList_eq]; rfl
              have h0 : W[0]? = some wDo := by rw [hh0, hd]
              by_cases h2 : 2 < W.length
              · have l2 : (2 : Int) < (W.length : Int) := by omega
                have l1 : (1 : Int) < (W.length : Int) := by omega
                have hlen := ln_do_len HWe.out h0 h2
                obtain ⟨Z1, hZ1⟩ : ∃ Z1, bs W[1] = Z1 := ⟨_, rfl⟩
                have q1' : w5.cell? ⟨Wb, Wo + 1, none⟩ = some (.string Z1) := by rw [← hZ1]; exact hcell 1 (by omega)
                have H0 := Lib.hid h0
                have H1 := Lib.hid hZ1
                clear hZ0 hh0 hd h0 hZ1 hWc hcell
                go_wp2_with fail
                refine (HA.out 1 1 rfl (by omega) w5 HWL.out).mono ?_
                rintro e w6 ⟨rfl, rfl⟩
                obtain ⟨v1, ha1⟩ : ∃ v, atV W 1 = v := ⟨_, rfl⟩
                rw [ha1]
                by_cases hn : v1 < 0
                · have HN := Lib.hid (ln_do_no T.out LN.out hf HWe.out H0.out h2 (by rw [ha1]; exact hn))
                  (have BR := M1.out.br; have BN := M1.out.bn; (have y0 := BN.cell 0; have y1 := BN.cell 1; have y2 := BN.cell 2; have y3 := BN.cell 3; have y4 := BN.cell 4; have y5 := BN.cell 5; have y6 := BN.cell 6; simp only [List.getElem?_toArray, List.getElem?_cons_zero, List.getElem?_cons_succ] at y0 y1 y2 y3 y4 y5 y6); go_wp2_with (refine wpList_store_bk (by rfl) _ _ _ (by rfl) w.heap.size _ (by rfl) (by rfl) _ _ BR (by rfl) (by kernel_rfl) (by rfl) ?_; intro wy hst); have r0 := hst.bk.cell 0; have r1 := hst.bk.cell 1; have r2 := hst.bk.cell 2; have r3 := hst.bk.cell 3; have r4 := hst.bk.cell 4; have r5 := hst.bk.cell 5; have r6 := hst.bk.cell 6; simp at r0 r1 r2 r3 r4 r5 r6; refine bodyPost_ret (v := .tuple #[.agg #[.int .i64 0, .int .i64 0, .int .i64 0, .int .i64 0, .int .i64 0, .slice none 0 0, .slice none 0 0], .bool false]) (by simp [results, Tryz.results17, go_sem, r0, r1, r2, r3, r4, r5, r6]) rfl ?_; exact ⟨hst.below M1.out.below (Nat.le_refl _), Or.inr ⟨HN.out, rfl⟩⟩)
                · have n1 : (0 : Int) ≤ v1 := by omega
                  clear hn
                  obtain ⟨oA, oc, rfl, _⟩ := own_sl M1.out.oo
                  obtain ⟨pA, pc, rfl, _⟩ := own_sl M1.out.op
                  obtain ⟨p, hp⟩ : ∃ p, p = 4 + Z1.size := ⟨_, rfl⟩
                  have hZs : Z1.size = W[1].length := by rw [← H1.out, bs_size]
                  have hpS : p ≤ S.size := by rw [hp, hZs, HZS.out]; have h9 := hlen; rw [ln_len LN.out] at h9; exact h9
                  have wp1 : IntKind.i64.wrap (4 + (Z1.size : Int)) = (p : Int) := by rw [hp]; rw [show (4 + (Z1.size : Int)) = ((4 + Z1.size : Nat) : Int) from by omega]; exact IntWalk.i64_in _ (by omega)
                  have p1 : (0 : Int) ≤ (p : Int) := by omega
                  have p2 : (p : Int) ≤ (S.size : Int) := by omega
                  obtain ⟨Z, hZ⟩ : ∃ Z, S.extract p S.size = Z := ⟨_, rfl⟩
                  have HZ : Hid (Z = bs (((s.data.toList.drop f).take (i - f)).drop (4 + W[1].length))) := by
                    show _ = _
                    rw [← hZ, cut_end, HS.out, hp, hZs]
                  have hZz : Z.size ≤ 40000 := by
                    have := congrArg ByteArray.size hZ
                    rw [ByteArray.size_extract] at this
                    omega
                  clear hp hZs hlen
                  go_upto_region 33 with (fail)
                  go_cut [13, 14] (fun t13 t14 wx => ∃ (OB : Nat) (tk te tv tt : Int) (bb : Bool), t13 = .pointer (some ⟨OB, 0, none⟩) ∧ t14 = .bool bb ∧ RdC w B x (.slice oA x.ops.length oc) (.slice pA x.picks.length pc) Z OB tk te tv tt bb wx)
                  case first =>
                    refine wp_region_T (fun w' => w'.cell? ⟨B, 0, none⟩ = some (.int .i64 x.st) ∧ w'.cell? ⟨Wb, Wo + 1, none⟩ = some (.string Z1)) 17 (by kernel_rfl) ⟨M1.out.bx.cell 0, q1'⟩ (fun hS => ?_)
                    have M2 := Lib.hid (M1.out.more ((Below.refl _ w5).drew))
                    have hWb2 : Wb < w5.drew.heap.size := hWb
                    clear M1 HA HWL
                    generalize w5.drew = w6 at *
                    ((try simp only [Act.put, List.setIfInBounds_toArray, List.set_cons_succ, List.set_cons_zero]); refine wpT_batch (fuel := 7) (by kernel_rfl) (by kernel_rfl) (fun d => by cases d <;> exact fun _ _ _ _ h => h) hS [0, 1, 2, 3, 4, 5, 6, 7, 8, 9] _ _ (by kernel_rfl) ?_; simp only [pickOps, nthOp, List.toList_toArray]; (repeat (first | go_big_quiet_skip | (go_big_quiet_want; first | (go_big_quiet_op; go_big_quiet_on) | (apply Exists.intro; refine ⟨fun w' hS' => ?_, ?_⟩; (· (skip; go_simp; first | done | rfl | exact ⟨rfl, rfl⟩)); go_big_quiet_on; simp only [Act.put, List.setIfInBounds_toArray, List.set_cons_succ, List.set_cons_zero])))); refine wpQuiet_nil ?_; (try dsimp only))
                    have HRD := Lib.hid (fun w0 => refRead_any x.st Z (by omega) w0)
                    have hSS : ∀ w9, Below w6.heap.size w6 w9 → w9.cell? ⟨B, 0, none⟩ = some (.int .i64 x.st) ∧ w9.cell? ⟨Wb, Wo + 1, none⟩ = some (.string Z1) := fun w9 h9 => ⟨(M2.out.more h9).bx.cell 0, by
                      have h8 := hS.2
                      rw [← h8]
                      exact h9.cell hWb2⟩
                    refine wpT_two (i := 10) (j := 14) rfl rfl (by kernel_rfl) (fun kk hK => ?_) (fun kk hK => ?_)
                    · go_wp2_with fail
                      refine (HRD.out w6).mono ?_
                      rintro e w8 hrd
                      obtain ⟨hb8, tk, te, tv, tt, bb, rfl, his8⟩ := rd_uni hrd
                      have HI8 := Lib.hid his8
                      have hS8 := hSS w8 hb8
                      have M8 := Lib.hid (M2.out.more hb8)
                      clear M2 hSS hrd his8
                      go_wp2_with fail
                      refine hK.out _ _ ⟨fun _ => hS8, ?_⟩
                      clear hK hS
                      have hS := hS8
                      have hWb8 : Wb < w8.heap.size := Nat.lt_of_lt_of_le hWb2 hb8.size
                      clear hS8
                      ((try simp only [Act.put, List.setIfInBounds_toArray, List.set_cons_succ, List.set_cons_zero]); refine wpT_batch (fuel := 3) (by kernel_rfl) (by kernel_rfl) (fun d => by cases d <;> exact fun _ _ _ _ h => h) hS [11, 12, 13] _ _ (by kernel_rfl) ?_; simp only [pickOps, nthOp, List.toList_toArray]; (repeat (first | go_big_quiet_skip | (go_big_quiet_want; first | (go_big_quiet_op; go_big_quiet_on) | (apply Exists.intro; refine ⟨fun w' hS' => ?_, ?_⟩; (· (skip; go_simp; first | done | rfl | exact ⟨rfl, rfl⟩)); go_big_quiet_on; simp only [Act.put, List.setIfInBounds_toArray, List.set_cons_succ, List.set_cons_zero])))); refine wpQuiet_nil ?_; (try dsimp only))
                      (refine wpT_loudN 14 (by kernel_rfl) (fun K hK => ?_); simp only [nthOp, List.toList_toArray])
                      have hbb : Below w8.heap.size w8 (w8.alloc (.cells #[.int .i64 0, .int .i64 0, .int .i64 0, .int .i64 0] 29)) := (Below.refl _ w8).alloc (Nat.le_refl _) _
                      have hS9 := And.intro ((M8.out.alloc (.cells #[.int .i64 0, .int .i64 0, .int .i64 0, .int .i64 0] 29)).bx.cell 0) (show (w8.alloc (.cells #[.int .i64 0, .int .i64 0, .int .i64 0, .int .i64 0] 29)).cell? ⟨Wb, Wo + 1, none⟩ = some (.string Z1) from by rw [← hS.2]; exact hbb.cell hWb8)
                      go_wp2_with fail
                      refine hK.out _ _ (fun _ => hS9) ?_
                      clear hK
                      have OB8 : Bk (w8.alloc (.cells #[.int .i64 0, .int .i64 0, .int .i64 0, .int .i64 0] 29)) w8.heap.size 29 #[.int .i64 0, .int .i64 0, .int .i64 0, .int .i64 0] := Bk.at_ rfl
                      clear hS9
                      generalize (w8.alloc (.cells #[.int .i64 0, .int .i64 0, .int .i64 0, .int .i64 0] 29)) = w9 at *
                      ((refine wpT_loudN 15 (by kernel_rfl) (fun K hK => ?_); simp only [nthOp, List.toList_toArray]); go_wp2_with (refine wpList_store_bk (by rfl) _ _ _ (by rfl) (w8.heap.size) _ (by rfl) (by rfl) _ _ OB8 (by rfl) (by kernel_rfl) (by rfl) ?_; intro wy hst); have hby := hst.below hbb (Nat.le_refl _); have Mx := Lib.hid (M8.out.more hby); have hSy := And.intro (Mx.out.bx.cell 0) (show wy.cell? ⟨Wb, Wo + 1, none⟩ = some (.string Z1) from (by rw [← hS.2]; exact hby.cell hWb8)); refine hK.out _ _ (fun _ => hSy) ?_; clear hK hS; have hS := hSy; clear hSy; ((try simp only [Act.put, List.setIfInBounds_toArray, List.set_cons_succ, List.set_cons_zero]); refine wpT_batch (fuel := 0) (by kernel_rfl) (by kernel_rfl) (fun d => by cases d <;> exact fun _ _ _ _ h => h) hS [16] _ _ (by kernel_rfl) ?_; simp only [pickOps, nthOp, List.toList_toArray]; (repeat (first | go_big_quiet_skip | (go_big_quiet_want; first | (go_big_quiet_op; go_big_quiet_on) | (apply Exists.intro; refine ⟨fun w' hS' => ?_, ?_⟩; (· (skip; go_simp; first | done | rfl | exact ⟨rfl, rfl⟩)); go_big_quiet_on; simp only [Act.put, List.setIfInBounds_toArray, List.set_cons_succ, List.set_cons_zero])))); refine wpQuiet_nil ?_; (try dsimp only)); refine wpT_done (by kernel_rfl) ?_ _; go_wp2_with fail; go_meet; exact ⟨_, tk, te, tv, tt, bb, rfl, rfl, Mx.out, hst.bk, HI8.out⟩)
                    · have hbb0 : Below w6.heap.size w6 (w6.alloc (.cells #[.int .i64 0, .int .i64 0, .int .i64 0, .int .i64 0] 29)) := (Below.refl _ w6).alloc (Nat.le_refl _) _
                      have OB7 : Bk (w6.alloc (.cells #[.int .i64 0, .int .i64 0, .int .i64 0, .int .i64 0] 29)) w6.heap.size 29 #[.int .i64 0, .int .i64 0, .int .i64 0, .int .i64 0] := Bk.at_ rfl
                      have hS7 := hSS _ hbb0
                      go_wp2_with fail
                      refine hK.out _ _ ⟨fun _ => hS7, ?_⟩
                      clear hK
                      generalize (w6.alloc (.cells #[.int .i64 0, .int .i64 0, .int .i64 0, .int .i64 0] 29)) = w7 at *
                      (refine wpT_loudN 10 (by kernel_rfl) (fun K hK => ?_); simp only [nthOp, List.toList_toArray])
                      go_wp2_with fail
                      refine (HRD.out w7).mono ?_
                      rintro e w9 hrd
                      obtain ⟨hb8, tk, te, tv, tt, bb, rfl, his8⟩ := rd_uni hrd
                      have HI8 := Lib.hid his8
                      have hbb := hbb0.trans (hb8.mono hbb0.size)
                      have hS9 := hSS w9 hbb
                      have OB8 := OB7.belowAll hb8
                      clear hrd his8 hSS OB7 hS7
                      go_wp2_with fail
                      refine hK.out _ _ (fun _ => hS9) ?_
                      clear hK
                      have hS6 := hS
                      clear hS
                      have hS := hS9
                      clear hS9
                      ((try simp only [Act.put, List.setIfInBounds_toArray, List.set_cons_succ, List.set_cons_zero]); refine wpT_batch (fuel := 2) (by kernel_rfl) (by kernel_rfl) (fun d => by cases d <;> exact fun _ _ _ _ h => h) hS [11, 12, 13] _ _ (by kernel_rfl) ?_; simp only [pickOps, nthOp, List.toList_toArray]; (repeat (first | go_big_quiet_skip | (go_big_quiet_want; first | (go_big_quiet_op; go_big_quiet_on) | (apply Exists.intro; refine ⟨fun w' hS' => ?_, ?_⟩; (· (skip; go_simp; first | done | rfl | exact ⟨rfl, rfl⟩)); go_big_quiet_on; simp only [Act.put, List.setIfInBounds_toArray, List.set_cons_succ, List.set_cons_zero])))); refine wpQuiet_nil ?_; (try dsimp only))
                      ((refine wpT_loudN 15 (by kernel_rfl) (fun K hK => ?_); simp only [nthOp, List.toList_toArray]); go_wp2_with (refine wpList_store_bk (by rfl) _ _ _ (by rfl) (w6.heap.size) _ (by rfl) (by rfl) _ _ OB8 (by rfl) (by kernel_rfl) (by rfl) ?_; intro wy hst); have hby := hst.below hbb (Nat.le_refl _); have Mx := Lib.hid (M2.out.more hby); have hSy := And.intro (Mx.out.bx.cell 0) (show wy.cell? ⟨Wb, Wo + 1, none⟩ = some (.string Z1) from (by rw [← hS6.2]; exact hby.cell hWb2)); refine hK.out _ _ (fun _ => hSy) ?_; clear hK hS6; have hS := hSy; clear hSy; ((try simp only [Act.put, List.setIfInBounds_toArray, List.set_cons_succ, List.set_cons_zero]); refine wpT_batch (fuel := 0) (by kernel_rfl) (by kernel_rfl) (fun d => by cases d <;> exact fun _ _ _ _ h => h) hS [16] _ _ (by kernel_rfl) ?_; simp only [pickOps, nthOp, List.toList_toArray]; (repeat (first | go_big_quiet_skip | (go_big_quiet_want; first | (go_big_quiet_op; go_big_quiet_on) | (apply Exists.intro; refine ⟨fun w' hS' => ?_, ?_⟩; (· (skip; go_simp; first | done | rfl | exact ⟨rfl, rfl⟩)); go_big_quiet_on; simp only [Act.put, List.setIfInBounds_toArray, List.set_cons_succ, List.set_cons_zero])))); refine wpQuiet_nil ?_; (try dsimp only)); refine wpT_done (by kernel_rfl) ?_ _; go_wp2_with fail; go_meet; exact ⟨_, tk, te, tv, tt, bb, rfl, rfl, Mx.out, hst.bk, HI8.out⟩)
                  case rest =>
                    obtain ⟨OB, tk, te, tv, tt, bb, rfl, rfl, hc⟩ := hcut
                    obtain ⟨Mc, Bc, hi9⟩ := hc
                    clear M1 HA HWL
                    rcases hi9 with ⟨rfl, hf9, ht9⟩ | ⟨rfl, hn9⟩
                    · have HTI := Lib.hid (ln_do T.out LN.out hf HWe.out H0.out h2 HZ.out hf9 ht9 ha1.symm)
                      clear hf9 ht9 hZ
                      have M4 := Mc.alloc (.cells #[.int .i64 v1, .int .i64 tk, .int .i64 te, .int .i64 tv, .int .i64 tt] 53)
                      obtain ⟨v', w7, hrun, O7, hg7, hf7⟩ := own_task_append _ _ x.ops M4.oo (by omega) ⟨v1, ⟨tk, te, tv, tt⟩⟩ _ (Bk.at_ rfl) 24
                      have O7' : Own w7 53 5 v' (x.ops.length + 1) (tcells (x.ops ++ [⟨v1, ⟨tk, te, tv, tt⟩⟩])) := by have h1 := O7; rw [List.length_append] at h1; exact h1
                      obtain ⟨nA, nc, rfl, _⟩ := own_sl O7'
                      clear O7'
                      have HR := Lib.hid hrun
                      have M7 := Lib.hid (M4.pushO O7 hg7 hf7)
                      have X7 := M4.bx.grown hg7 (fun e => by have h1 := M4.fo _ e.symm; omega)
                      have c5 := X7.cell 5
                      have f5 := X7.free 5
                      have t0 := Bc.cell 0; have t1 := Bc.cell 1; have t2 := Bc.cell 2; have t3 := Bc.cell 3
                      have y5 := Mc.bx.cell 5
                      simp only [List.getElem?_toArray, List.getElem?_cons_zero, List.getElem?_cons_succ] at c5 t0 t1 t2 t3 y5
                      clear hrun O7 hg7 hf7 M4 X7 Mc Bc q0 q1'
                      go_wp2_with (at_builtin; refine wpList_append_run (by rfl) _ _ _ _ _ _ _ (by rfl) (by rfl) (by rfl) HR.out ?_)
                      go_roundw
                      case rel => exact ⟨i + 1, i + 1, _, _, _, by go_num, by go_num, Nat.le_refl _, by omega, by simp; omega, by simp; omega, HTI, Lib.hid (fun p h1 h2 => absurd h2 (by omega)), M7.out⟩
                      case measure => simp [intOf]; omega
                    · have HN := Lib.hid (ln_do_bad T.out LN.out hf HWe.out H0.out h2 HZ.out hn9)
                      have MX := Lib.hid Mc
                      clear hn9 Mc hZ
                      (have BR := MX.out.br; have BN := MX.out.bn; (have y0 := BN.cell 0; have y1 := BN.cell 1; have y2 := BN.cell 2; have y3 := BN.cell 3; have y4 := BN.cell 4; have y5 := BN.cell 5; have y6 := BN.cell 6; simp only [List.getElem?_toArray, List.getElem?_cons_zero, List.getElem?_cons_succ] at y0 y1 y2 y3 y4 y5 y6); go_wp2_with (refine wpList_store_bk (by rfl) _ _ _ (by rfl) w.heap.size _ (by rfl) (by rfl) _ _ BR (by rfl) (by kernel_rfl) (by rfl) ?_; intro wy hst); have r0 := hst.bk.cell 0; have r1 := hst.bk.cell 1; have r2 := hst.bk.cell 2; have r3 := hst.bk.cell 3; have r4 := hst.bk.cell 4; have r5 := hst.bk.cell 5; have r6 := hst.bk.cell 6; simp at r0 r1 r2 r3 r4 r5 r6; refine bodyPost_ret (v := .tuple #[.agg #[.int .i64 0, .int .i64 0, .int .i64 0, .int .i64 0, .int .i64 0, .slice none 0 0, .slice none 0 0], .bool false]) (by simp [results, Tryz.results17, go_sem, r0, r1, r2, r3, r4, r5, r6]) rfl ?_; exact ⟨hst.below MX.out.below (Nat.le_refl _), Or.inr ⟨HN.out, rfl⟩⟩)
              · have l2 : (W.length : Int) ≤ 2 := by omega
                have HNP : Hid (¬ (W[0]? = some wDo ∧ 2 < W.length)) := fun h => h2 h.2
                go_wp2_with fail
                have HPX : Hid (PR w B (pkX x W 0) vo vp w5) := by show PR _ _ _ _ _ _; rw [pkX_0]; exact M1.out
                clear q0
                have hWB : Wb ≠ B := (HAB.out _ _ rfl).1
                have hWP := (HAB.out _ _ rfl).2
                clear HAB
                go_loopw [15] (fun t15 wx => ∃ (k n : Nat) (vq : Value), t15 = .int .i64 k ∧ k = n + 1 ∧ k ≤ W.length ∧ PR w B (pkX x W n) vo vq wx ∧ WL wx (some ⟨Wb, Wo, none⟩) W ∧ (∀ g, vq.ownBlock = some g → Wb ≠ g)) (fun t15 _ => W.length - (intOf t15).toNat)
                case atStart => exact ⟨1, 0, vp, rfl, rfl, lW1, HPX.out, HWL.out, hWP⟩
                case round =>
                  obtain ⟨k, n, vq, rfl, hk, hkW, MP, WP, hwv⟩ := hrel
                  have HK := Lib.hid hk
                  clear HPX M1 HWL
                  have hpl := (pkX_len x W n).1
                  have hol := (pkX_len x W n).2
                  obtain ⟨pA, pc, rfl, _⟩ := own_sl MP.op
                  by_cases hkl : k < W.length
                  · have hn9 : (pkX x W n).picks.length ≤ 100000 := by omega
                    have HPL := Lib.hid hpl
                    have MH9 := Lib.hid MP
                    have WH9 := Lib.hid WP
                    clear hk hpl hol MP WP
                    generalize hplen : (pkX x W n).picks.length = pl at *
                    have HPN := Lib.hid hplen
                    clear hplen
                    go_wp2_with fail
                    refine wp_region_T (fun w' => w'.cell? ⟨B, 6, none⟩ = some (.slice pA pl pc)) 7 (by kernel_rfl) (MH9.out.bx.cell 6) (fun hS => ?_)
                    have M6 := Lib.hid (MH9.out.more ((Below.refl _ wr).drew))
                    have W6 := Lib.hid (WH9.out.more ((Below.refl _ wr).drew))
                    clear MH9 WH9
                    generalize wr.drew = w6 at *
                    ((try simp only [Act.put, List.setIfInBounds_toArray, List.set_cons_succ, List.set_cons_zero]); refine wpT_batch (fuel := 5) (by kernel_rfl) (by kernel_rfl) (fun d => by cases d <;> exact fun _ _ _ _ h => h) hS [0, 1, 2, 3] _ _ (by kernel_rfl) ?_; simp only [pickOps, nthOp, List.toList_toArray]; (repeat (first | go_big_quiet_skip | (go_big_quiet_want; first | (go_big_quiet_op; go_big_quiet_on) | (apply Exists.intro; refine ⟨fun w' hS' => ?_, ?_⟩; (· (skip; go_simp; first | done | rfl | exact ⟨rfl, rfl⟩)); go_big_quiet_on; simp only [Act.put, List.setIfInBounds_toArray, List.set_cons_succ, List.set_cons_zero])))); refine wpQuiet_nil ?_; (try dsimp only))
                    (refine wpT_loudN 4 (by kernel_rfl) (fun K hK => ?_); simp only [nthOp, List.toList_toArray])
                    go_wp2_with fail
                    refine (HA.out k k rfl (by omega) w6 W6.out).mono ?_
                    rintro e w9 ⟨rfl, rfl⟩
                    obtain ⟨v, hv⟩ : ∃ v, atV W k = v := ⟨_, rfl⟩
                    rw [hv]
                    have HV := Lib.hid hv
                    clear hv
                    go_wp2_with fail
                    refine hK.out _ _ (fun _ => hS) ?_
                    clear hK
                    (refine wpT_loudN 5 (by kernel_rfl) (fun K hK => ?_); simp only [nthOp, List.toList_toArray])
                    have M8 := Lib.hid (M6.out.alloc (.cells #[.int .i64 v] 3))
                    have W8 := Lib.hid (W6.out.more ((Below.refl _ w6).alloc (Nat.le_refl _) (.cells #[.int .i64 v] 3)))
                    have N8 : Own (w6.alloc (.cells #[.int .i64 v] 3)) 3 1 (.slice (some ⟨w6.heap.size, 0, none⟩) 1 1) 1 (icells [v]) := own_one rfl
                    have hS8 : (w6.alloc (.cells #[.int .i64 v] 3)).cell? ⟨B, 6, none⟩ = some (.slice pA pl pc) := M8.out.bx.cell 6
                    go_wp2_with fail
                    refine hK.out _ _ (fun _ => hS8) ?_
                    clear hK hS
                    obtain ⟨v', w7, hrun, O7, hg7, hf7⟩ := own_ints_append _ _ (pkX x W n).picks M8.out.op (by rw [HPN.out]; omega) [v] 1 rfl (Nat.le_refl _) (by omega) _ 1 N8 25
                    have O7' : Own w7 3 1 v' (pl + 1) (icells ((pkX x W n).picks ++ [v])) := by have h1 := O7; rw [List.length_append, HPN.out] at h1; exact h1
                    obtain ⟨nA, nc, rfl, _⟩ := own_sl O7'
                    clear O7'
                    have HR := Lib.hid hrun
                    have M7 := Lib.hid (M8.out.pushP O7 hg7 hf7)
                    have X7 := M8.out.bx.grown hg7 (fun e => by have h1 := M8.out.fp _ e.symm; omega)
                    have W7 := Lib.hid ((W8.out.grown hg7 (fun e => hwv _ e.symm rfl)).set (B := B) (j := 6) hWB (.slice nA (pl + 1) nc))
                    have hw7 : ∀ g, (Value.slice nA (pl + 1) nc).ownBlock = some g → Wb ≠ g := fun g e => by
                      rcases hf7 g e with h | h
                      · exact hwv g h
                      · have h9 := W8.out.2 (by omega)
                        obtain ⟨b9, o9, e9, l9, _⟩ := h9
                        cases e9
                        omega
                    have HW7 := Lib.hid hw7
                    have c6 := X7.cell 6
                    have f6 := X7.free 6
                    simp only [List.getElem?_toArray, List.getElem?_cons_zero, List.getElem?_cons_succ] at c6
                    clear hrun O7 hg7 hf7 M8 W8 M6 W6 X7 N8 hw7 hwv hS8
                    (refine wpT_loudN 6 (by kernel_rfl) (fun K hK => ?_); simp only [nthOp, List.toList_toArray])
                    go_wp2_with (at_builtin; refine wpList_append_run (by rfl) _ _ _ _ _ _ _ (by rfl) (by rfl) (by rfl) HR.out ?_)
                    refine hK.out _ _ (fun _ => c6) ?_
                    clear hK HR
                    ((refine wpT_loudN 7 (by kernel_rfl) (fun K hK => ?_); simp only [nthOp, List.toList_toArray]); go_wp2_with fail; refine hK.out _ _ (fun h => absurd h (by omega)) ?_; clear hK)
                    (refine wpT_loudN 8 (by kernel_rfl) (fun K hK => ?_); simp only [nthOp, List.toList_toArray])
                    go_wp2_with fail
                    refine hK.out _ _ (fun h => absurd h (by omega)) ?_
                    clear hK
                    refine wpT_done (by kernel_rfl) ?_ _
                    go_wp2_with fail
                    go_roundw
                    case rel =>
                      refine ⟨k + 1, n + 1, _, by go_num, by have := HK.out; omega, by omega, ?_, W7.out, HW7.out⟩
                      have h1 := M7.out
                      rw [← HV.out, show k = n + 1 from HK.out, pkX_succ] at h1
                      exact h1
                    case measure => simp [intOf]; omega
                  · obtain rfl : k = W.length := by omega
                    have HT9 := Lib.hid (ln_pick T.out LN.out hf HWe.out HNP.out)
                    have en : n = W.length - 1 := by omega
                    have hl9 : (pkX x W n).ops.length ≤ i + 1 ∧ (pkX x W n).picks.length ≤ i + 1 := ⟨by rw [hol]; omega, by rw [hpl]; omega⟩
                    have HL9 := Lib.hid hl9
                    have MH9 := Lib.hid MP
                    clear hk MP WP hpl hol hl9
                    subst en
                    go_wp2_with fail
                    go_roundw
                    case rel => exact ⟨i + 1, i + 1, pkX x W (W.length - 1), _, _, by go_num, by go_num, Nat.le_refl _, by omega, HL9.out.1, HL9.out.2, HT9, Lib.hid (fun p h1 h2 => absurd h2 (by omega)), MH9.out⟩
                    case measure => simp [intOf]; omega
            · have t1 : (Z0.toList == [100, 111]) = false := by
                have := ba_ne (a := Z0) (b := bs wDo) (fun e => hd (bs_inj (hZ0.trans e)))
                rwa [show (bs wDo).toList = [100, 111] from by rw [Go.ByteArray.toList_eq]; rfl] at this
              have HNP : Hid (¬ (W[0]? = some wDo ∧ 2 < W.length)) := fun h => by rw [hh0] at h; exact hd (Option.some.inj h.1)
              go_wp2_with fail
              have HPX : Hid (PR w B (pkX x W 0) vo vp w5) := by show PR _ _ _ _ _ _; rw [pkX_0]; exact M1.out
              clear q0
              have hWB : Wb ≠ B := (HAB.out _ _ rfl).1
              have hWP := (HAB.out _ _ rfl).2
              clear HAB
              go_loopw [15] (fun t15 wx => ∃ (k n : Nat) (vq : Value), t15 = .int .i64 k ∧ k = n + 1 ∧ k ≤ W.length ∧ PR w B (pkX x W n) vo vq wx ∧ WL wx (some ⟨Wb, Wo, none⟩) W ∧ (∀ g, vq.ownBlock = some g → Wb ≠ g)) (fun t15 _ => W.length - (intOf t15).toNat)
              case atStart => exact ⟨1, 0, vp, rfl, rfl, lW1, HPX.out, HWL.out, hWP⟩
              case round =>
                obtain ⟨k, n, vq, rfl, hk, hkW, MP, WP, hwv⟩ := hrel
                have HK := Lib.hid hk
                clear HPX M1 HWL
                have hpl := (pkX_len x W n).1
                have hol := (pkX_len x W n).2
                obtain ⟨pA, pc, rfl, _⟩ := own_sl MP.op
                by_cases hkl : k < W.length
                · have hn9 : (pkX x W n).picks.length ≤ 100000 := by omega
                  have HPL := Lib.hid hpl
                  have MH9 := Lib.hid MP
                  have WH9 := Lib.hid WP
                  clear hk hpl hol MP WP
                  generalize hplen : (pkX x W n).picks.length = pl at *
                  have HPN := Lib.hid hplen
                  clear hplen
                  go_wp2_with fail
                  refine wp_region_T (fun w' => w'.cell? ⟨B, 6, none⟩ = some (.slice pA pl pc)) 7 (by kernel_rfl) (MH9.out.bx.cell 6) (fun hS => ?_)
                  have M6 := Lib.hid (MH9.out.more ((Below.refl _ wr).drew))
                  have W6 := Lib.hid (WH9.out.more ((Below.refl _ wr).drew))
                  clear MH9 WH9
                  generalize wr.drew = w6 at *
                  ((try simp only [Act.put, List.setIfInBounds_toArray, List.set_cons_succ, List.set_cons_zero]); refine wpT_batch (fuel := 5) (by kernel_rfl) (by kernel_rfl) (fun d => by cases d <;> exact fun _ _ _ _ h => h) hS [0, 1, 2, 3] _ _ (by kernel_rfl) ?_; simp only [pickOps, nthOp, List.toList_toArray]; (repeat (first | go_big_quiet_skip | (go_big_quiet_want; first | (go_big_quiet_op; go_big_quiet_on) | (apply Exists.intro; refine ⟨fun w' hS' => ?_, ?_⟩; (· (skip; go_simp; first | done | rfl | exact ⟨rfl, rfl⟩)); go_big_quiet_on; simp only [Act.put, List.setIfInBounds_toArray, List.set_cons_succ, List.set_cons_zero])))); refine wpQuiet_nil ?_; (try dsimp only))
                  (refine wpT_loudN 4 (by kernel_rfl) (fun K hK => ?_); simp only [nthOp, List.toList_toArray])
                  go_wp2_with fail
                  refine (HA.out k k rfl (by omega) w6 W6.out).mono ?_
                  rintro e w9 ⟨rfl, rfl⟩
                  obtain ⟨v, hv⟩ : ∃ v, atV W k = v := ⟨_, rfl⟩
                  rw [hv]
                  have HV := Lib.hid hv
                  clear hv
                  go_wp2_with fail
                  refine hK.out _ _ (fun _ => hS) ?_
                  clear hK
                  (refine wpT_loudN 5 (by kernel_rfl) (fun K hK => ?_); simp only [nthOp, List.toList_toArray])
                  have M8 := Lib.hid (M6.out.alloc (.cells #[.int .i64 v] 3))
                  have W8 := Lib.hid (W6.out.more ((Below.refl _ w6).alloc (Nat.le_refl _) (.cells #[.int .i64 v] 3)))
                  have N8 : Own (w6.alloc (.cells #[.int .i64 v] 3)) 3 1 (.slice (some ⟨w6.heap.size, 0, none⟩) 1 1) 1 (icells [v]) := own_one rfl
                  have hS8 : (w6.alloc (.cells #[.int .i64 v] 3)).cell? ⟨B, 6, none⟩ = some (.slice pA pl pc) := M8.out.bx.cell 6
                  go_wp2_with fail
                  refine hK.out _ _ (fun _ => hS8) ?_
                  clear hK hS
                  obtain ⟨v', w7, hrun, O7, hg7, hf7⟩ := own_ints_append _ _ (pkX x W n).picks M8.out.op (by rw [HPN.out]; omega) [v] 1 rfl (Nat.le_refl _) (by omega) _ 1 N8 25
                  have O7' : Own w7 3 1 v' (pl + 1) (icells ((pkX x W n).picks ++ [v])) := by have h1 := O7; rw [List.length_append, HPN.out] at h1; exact h1
                  obtain ⟨nA, nc, rfl, _⟩ := own_sl O7'
                  clear O7'
                  have HR := Lib.hid hrun
                  have M7 := Lib.hid (M8.out.pushP O7 hg7 hf7)
                  have X7 := M8.out.bx.grown hg7 (fun e => by have h1 := M8.out.fp _ e.symm; omega)
                  have W7 := Lib.hid ((W8.out.grown hg7 (fun e => hwv _ e.symm rfl)).set (B := B) (j := 6) hWB (.slice nA (pl + 1) nc))
                  have hw7 : ∀ g, (Value.slice nA (pl + 1) nc).ownBlock = some g → Wb ≠ g := fun g e => by
                    rcases hf7 g e with h | h
                    · exact hwv g h
                    · have h9 := W8.out.2 (by omega)
                      obtain ⟨b9, o9, e9, l9, _⟩ := h9
                      cases e9
                      omega
                  have HW7 := Lib.hid hw7
                  have c6 := X7.cell 6
                  have f6 := X7.free 6
                  simp only [List.getElem?_toArray, List.getElem?_cons_zero, List.getElem?_cons_succ] at c6
                  clear hrun O7 hg7 hf7 M8 W8 M6 W6 X7 N8 hw7 hwv hS8
                  (refine wpT_loudN 6 (by kernel_rfl) (fun K hK => ?_); simp only [nthOp, List.toList_toArray])
                  go_wp2_with (at_builtin; refine wpList_append_run (by rfl) _ _ _ _ _ _ _ (by rfl) (by rfl) (by rfl) HR.out ?_)
                  refine hK.out _ _ (fun _ => c6) ?_
                  clear hK HR
                  ((refine wpT_loudN 7 (by kernel_rfl) (fun K hK => ?_); simp only [nthOp, List.toList_toArray]); go_wp2_with fail; refine hK.out _ _ (fun h => absurd h (by omega)) ?_; clear hK)
                  (refine wpT_loudN 8 (by kernel_rfl) (fun K hK => ?_); simp only [nthOp, List.toList_toArray])
                  go_wp2_with fail
                  refine hK.out _ _ (fun h => absurd h (by omega)) ?_
                  clear hK
                  refine wpT_done (by kernel_rfl) ?_ _
                  go_wp2_with fail
                  go_roundw
                  case rel =>
                    refine ⟨k + 1, n + 1, _, by go_num, by have := HK.out; omega, by omega, ?_, W7.out, HW7.out⟩
                    have h1 := M7.out
                    rw [← HV.out, show k = n + 1 from HK.out, pkX_succ] at h1
                    exact h1
                  case measure => simp [intOf]; omega
                · obtain rfl : k = W.length := by omega
                  have HT9 := Lib.hid (ln_pick T.out LN.out hf HWe.out HNP.out)
                  have en : n = W.length - 1 := by omega
                  have hl9 : (pkX x W n).ops.length ≤ i + 1 ∧ (pkX x W n).picks.length ≤ i + 1 := ⟨by rw [hol]; omega, by rw [hpl]; omega⟩
                  have HL9 := Lib.hid hl9
                  have MH9 := Lib.hid MP
                  clear hk MP WP hpl hol hl9
                  subst en
                  go_wp2_with fail
                  go_roundw
                  case rel => exact ⟨i + 1, i + 1, pkX x W (W.length - 1), _, _, by go_num, by go_num, Nat.le_refl _, by omega, HL9.out.1, HL9.out.2, HT9, Lib.hid (fun p h1 h2 => absurd h2 (by omega)), MH9.out⟩
                  case measure => simp [intOf]; omega
      · have q1 : ¬ (((s[i]).toNat : Int) = 10) := fun e => h10 (UInt8.toNat_inj.1 (by have : (10 : UInt8).toNat = 10 := rfl; omega))
        have NN' := Lib.hid (nonl_step NN.out hlt h10)
        clear h10
        go_wp2_with fail
        go_roundw
        case rel => exact ⟨f, i + 1, x, vo, vp, rfl, by go_num, by omega, by omega, lo, lp, T, NN', M.out⟩
        case measure => simp [intOf]; omega
    · obtain rfl : i = s.size := by omega
      clear hlt
      obtain ⟨oA, oc, rfl, so⟩ := own_sl M.out.oo
      obtain ⟨pA, pc, rfl, sp⟩ := own_sl M.out.op
      obtain ⟨pc1, pc2⟩ := own_cap M.out.op
      have S : SA wr x oA oc pA pc := ⟨so, sp, by omega, pc1, pc2⟩
      have F := Lib.hid (tx_fin T.out (fun p h1 h2 => NN.out p h1 (by rw [s_len] at h2; exact h2)))
      have HS := Lib.hid S
      have HGD := Lib.hid (refGood_any x oA pA oc pc wr so sp (by omega) (by omega))
      simp only [PScr.v] at HGD
      clear S so sp pc1 pc2 T NN
      have BX := M.out.bx
      (have y0 := BX.cell 0; have y1 := BX.cell 1; have y2 := BX.cell 2; have y3 := BX.cell 3; have y4 := BX.cell 4; have y5 := BX.cell 5; have y6 := BX.cell 6; simp only [List.getElem?_toArray, List.getElem?_cons_zero, List.getElem?_cons_succ] at y0 y1 y2 y3 y4 y5 y6)
      go_wp2_with fail
      refine HGD.out.mono ?_
      rintro e w5 ⟨rfl, hb5⟩
      have M5 := Lib.hid (M.out.more hb5)
      have S5 := Lib.hid (HS.out.more hb5)
      clear M HS HGD BX y0 y1 y2 y3 y4 y5 y6 hb5
      cases hg : goodB x
      · have HN : Hid (NoG s.data.toList) := fun y hy hD => by
          rw [← F.out y hy hD, hg] at hy; cases hy
        clear hg
        (have BR := M5.out.br; have BN := M5.out.bn; (have y0 := BN.cell 0; have y1 := BN.cell 1; have y2 := BN.cell 2; have y3 := BN.cell 3; have y4 := BN.cell 4; have y5 := BN.cell 5; have y6 := BN.cell 6; simp only [List.getElem?_toArray, List.getElem?_cons_zero, List.getElem?_cons_succ] at y0 y1 y2 y3 y4 y5 y6); go_wp2_with (refine wpList_store_bk (by rfl) _ _ _ (by rfl) w.heap.size _ (by rfl) (by rfl) _ _ BR (by rfl) (by kernel_rfl) (by rfl) ?_; intro wy hst); have r0 := hst.bk.cell 0; have r1 := hst.bk.cell 1; have r2 := hst.bk.cell 2; have r3 := hst.bk.cell 3; have r4 := hst.bk.cell 4; have r5 := hst.bk.cell 5; have r6 := hst.bk.cell 6; simp at r0 r1 r2 r3 r4 r5 r6; refine bodyPost_ret (v := .tuple #[.agg #[.int .i64 0, .int .i64 0, .int .i64 0, .int .i64 0, .int .i64 0, .slice none 0 0, .slice none 0 0], .bool false]) (by simp [results, Tryz.results17, go_sem, r0, r1, r2, r3, r4, r5, r6]) rfl ?_; exact ⟨hst.below M5.out.below (Nat.le_refl _), Or.inr ⟨HN.out, rfl⟩⟩)
      · have HG := Lib.hid hg
        clear hg
        have HPR := Lib.hid (refPrint_any x oA pA oc pc w5 S5.out HG.out)
        simp only [PScr.v] at HPR
        have BX := M5.out.bx
        (have y0 := BX.cell 0; have y1 := BX.cell 1; have y2 := BX.cell 2; have y3 := BX.cell 3; have y4 := BX.cell 4; have y5 := BX.cell 5; have y6 := BX.cell 6; simp only [List.getElem?_toArray, List.getElem?_cons_zero, List.getElem?_cons_succ] at y0 y1 y2 y3 y4 y5 y6)
        obtain ⟨X, hX⟩ : ∃ X, bs (textL x) = X := ⟨_, rfl⟩
        rw [hX] at HPR
        have HX := Lib.hid hX
        clear hX
        go_wp2_with fail
        refine HPR.out.mono ?_
        rintro e w6 ⟨rfl, hb6⟩
        have M6 := Lib.hid (M5.out.more hb6)
        have S6 := Lib.hid (S5.out.more hb6)
        clear M5 S5 HPR BX y0 y1 y2 y3 y4 y5 y6 hb6
        by_cases hXs : X = s
        · have t1 : (X.toList == s.toList) = true := ba_eq hXs
          have t2 : (X.toList != s.toList) = false := ba_eq' hXs
          have HT := Lib.hid (HX.out.trans hXs)
          clear hXs
          have BX := M6.out.bx
          have BR := M6.out.br
          (have y0 := BX.cell 0; have y1 := BX.cell 1; have y2 := BX.cell 2; have y3 := BX.cell 3; have y4 := BX.cell 4; have y5 := BX.cell 5; have y6 := BX.cell 6; simp only [List.getElem?_toArray, List.getElem?_cons_zero, List.getElem?_cons_succ] at y0 y1 y2 y3 y4 y5 y6)
          go_wp2_with (refine wpList_store_bk (by rfl) _ _ _ (by rfl) w.heap.size _ (by rfl) (by rfl) _ _ BR (by rfl) (by kernel_rfl) (by rfl) ?_; intro wy hst)
          have r0 := hst.bk.cell 0; have r1 := hst.bk.cell 1; have r2 := hst.bk.cell 2; have r3 := hst.bk.cell 3; have r4 := hst.bk.cell 4; have r5 := hst.bk.cell 5; have r6 := hst.bk.cell 6
          simp at r0 r1 r2 r3 r4 r5 r6
          refine bodyPost_ret (v := .tuple #[.agg #[.int .i64 x.st, .int .i64 x.en, .int .i64 x.th, .int .i64 x.sl, .int .i64 x.no, .slice oA x.ops.length oc, .slice pA x.picks.length pc], .bool true]) (by simp [results, Tryz.results17, go_sem, r0, r1, r2, r3, r4, r5, r6]) rfl ?_
          refine ⟨hst.below M6.out.below (Nat.le_refl _), Or.inl ⟨x, oA, oc, pA, pc, HG.out, HT.out, rfl, S6.out.apart hst.grown (fun b o e => ?_) (fun b o e => ?_)⟩⟩
          · have h1 := M6.out.fo b (by rw [e]; rfl)
            have h2 := M6.out.lt
            omega
          · have h1 := M6.out.fp b (by rw [e]; rfl)
            have h2 := M6.out.lt
            omega
        · have t1 : (X.toList == s.toList) = false := ba_ne hXs
          have t2 : (X.toList != s.toList) = true := ba_ne' hXs
          have HN : Hid (NoG s.data.toList) := fun y hy hD => by
            have h1 := F.out y hy hD
            refine hXs ?_
            rw [← HX.out, h1, hD, s_bs]
          clear hXs
          (have BR := M6.out.br; have BN := M6.out.bn; (have y0 := BN.cell 0; have y1 := BN.cell 1; have y2 := BN.cell 2; have y3 := BN.cell 3; have y4 := BN.cell 4; have y5 := BN.cell 5; have y6 := BN.cell 6; simp only [List.getElem?_toArray, List.getElem?_cons_zero, List.getElem?_cons_succ] at y0 y1 y2 y3 y4 y5 y6); go_wp2_with (refine wpList_store_bk (by rfl) _ _ _ (by rfl) w.heap.size _ (by rfl) (by rfl) _ _ BR (by rfl) (by kernel_rfl) (by rfl) ?_; intro wy hst); have r0 := hst.bk.cell 0; have r1 := hst.bk.cell 1; have r2 := hst.bk.cell 2; have r3 := hst.bk.cell 3; have r4 := hst.bk.cell 4; have r5 := hst.bk.cell 5; have r6 := hst.bk.cell 6; simp at r0 r1 r2 r3 r4 r5 r6; refine bodyPost_ret (v := .tuple #[.agg #[.int .i64 0, .int .i64 0, .int .i64 0, .int .i64 0, .int .i64 0, .slice none 0 0, .slice none 0 0], .bool false]) (by simp [results, Tryz.results17, go_sem, r0, r1, r2, r3, r4, r5, r6]) rfl ?_; exact ⟨hst.below M6.out.below (Nat.le_refl _), Or.inr ⟨HN.out, rfl⟩⟩)
end Go.Proofs.YtciioiklkaannaaGreatDoor
