/- CreedExact, walked: every structure, every row of operations. -/
import Derived.Test.YtlfbgpncdahglaaDoorEx
namespace Go.Proofs.YtlfbgpncdahglaaDoor
open Go Go.RowKit
set_option linter.unusedSimpArgs false
set_option linter.unusedVariables false
set_option linter.unusedSectionVars false

set_option maxRecDepth 100000 in
set_option maxHeartbeats 6400000 in
theorem creedExact_any (st : Int) (acts : List PAct) (A : Option Addr) (c : Nat) (w : World) (a : Addr) (hE : w.cell? ⟨0, 0, none⟩ = some (.iface 156 (.pointer (some a))))
    (so : Sl w w.heap.size 7 A acts.length (acells acts)) (lo : acts.length ≤ 9223372036854775807) (h1 : 1 ≤ st) (h5 : st ≤ 5) :
    Calls Tryd.prog 3 #[.int .i64 st, .slice A acts.length c] w (RetB true w) := by
  have d1 : decide (st < 1) = false := by simp; omega
  have d2 : decide (5 < st) = false := by simp; omega
  have hlt0 := World.block_lt_of_cell? _ _ hE
  simp at hlt0
  go_enter Tryd.func3, Tryd.ntmps3
  go_wp2_with fail
  refine (awake_any _ a hE).mono ?_
  rintro e w1 ⟨rfl, hb1⟩
  go_wp2_with fail
  refine (new_any st _ h1 h5).mono ?_
  rintro e w2 ⟨g, A1, c1, A1', c1', rfl, hn⟩
  have L0 := LW.new hb1 (cell_below hE hb1) hlt0 hn (pok_vals st [] ⟨h1, h5⟩ (by decide))
  have hl0 : lst ⟨st, [], []⟩ = [] := by unfold lst; simp
  have X0 : EX w (w2.alloc (.cells #[.int .i64 st, .slice none 0 0] 32)) 156 (.pointer (some a)) g ⟨st, [], []⟩ ⟨st, [], []⟩ A1 c1 A1' c1' w2.heap.size none 0 :=
    ⟨L0.alloc _, by rw [hl0]; exact Bk.at_ rfl, by rw [hl0]; exact Rd.nil, L0.below.size, fun h => by have := L0.r.inLt h; omega, fun b e => by cases e⟩
  clear hn hb1 L0 hl0
  go_wp2_with fail
  generalize (w2.alloc (.cells #[.int .i64 st, .slice none 0 0] 32)) = w2a at *
  generalize w2.heap.size = U at *
  go_loopw [8] (fun i wr => ∃ (k : Nat) (s : PC) (A1 : Option Addr) (c1 : Nat) (A1' : Option Addr) (c1' : Nat) (UA : Option Addr) (uc : Nat), k ≤ acts.length ∧ i = .int .i64 k ∧ Hid (s.st = st) ∧ Kin s ∧ s.size ≤ k ∧ EX w wr 156 (.pointer (some a)) g s s A1 c1 A1' c1' U UA uc) (fun i _ => acts.length - (intOf i).toNat)
  case atStart => exact ⟨0, ⟨st, [], []⟩, A1, c1, A1', c1', none, 0, Nat.zero_le _, rfl, rfl, ⟨fun _ => rfl, fun _ => rfl⟩, by simp [PC.size], X0⟩
  case round =>
    clear X0
    obtain ⟨k, s, A1, c1, A1', c1', UA, uc, hk, rfl, HS, kin, hsz, X⟩ := hrel
    by_cases hlt : k < acts.length ∧ k < 100
    · obtain ⟨hlt, h100⟩ := hlt
      obtain ⟨ob, off, rfl, hob, q0, q1, q2, q3, q4, q5, q6⟩ := (so.below X.l.below).act hlt
      generalize acts[k] = x at *
      obtain ⟨kd, op, a1, a2⟩ := x
      have X1 := X.alloc (.cells #[.int .i64 kd, .int .i64 op.kind, .int .i64 op.key, .int .i64 op.val, .int .i64 op.tall, .int .i64 a1, .int .i64 a2] 38)
      have B1 : Bk (wr.alloc (.cells #[.int .i64 kd, .int .i64 op.kind, .int .i64 op.key, .int .i64 op.val, .int .i64 op.tall, .int .i64 a1, .int .i64 a2] 38)) wr.heap.size 38 #[.int .i64 kd, .int .i64 op.kind, .int .i64 op.key, .int .i64 op.val, .int .i64 op.tall, .int .i64 a1, .int .i64 a2] := Bk.at_ rfl
      have F1 := X.l.r.far (Nat.le_refl _)
      have hUX : U < wr.heap.size := X.box.lt
      clear X
      obtain ⟨ff, hff⟩ : ∃ ff, fitsB st op = ff := ⟨_, rfl⟩
      have HF := Lib.hid hff; clear hff
      go_wp2_with fail
      generalize (wr.alloc (.cells #[.int .i64 kd, .int .i64 op.kind, .int .i64 op.key, .int .i64 op.val, .int .i64 op.tall, .int .i64 a1, .int .i64 a2] 38)) = wx at *
      generalize wr.heap.size = xb at *
      refine (refFits_any st op _).mono ?_
      rintro e w3 ⟨rfl, hb3⟩
      rw [HF.out]
      have X3 := X1.more hb3
      have B3 := B1.belowAll hb3
      clear X1 B1 hb3
      (have x0 := B3.cell 0; have x1 := B3.cell 1; have x2 := B3.cell 2; have x3 := B3.cell 3; have x4 := B3.cell 4; have x5 := B3.cell 5; have x6 := B3.cell 6; simp at x0 x1 x2 x3 x4 x5 x6)
      go_wp2_with fail
      refine (fits_any st op _ _ _ X3.l.err).mono ?_
      rintro e w4 ⟨rfl, hb4⟩
      rw [HF.out]
      have X4 := X3.more hb4
      have B4 := B3.belowAll hb4
      clear X3 B3 hb4 x0 x1 x2 x3 x4 x5 x6
      (have x0 := B4.cell 0; have x1 := B4.cell 1; have x2 := B4.cell 2; have x3 := B4.cell 3; have x4 := B4.cell 4; have x5 := B4.cell 5; have x6 := B4.cell 6; simp at x0 x1 x2 x3 x4 x5 x6)
      by_cases hkd : kd = 1
      · have dk : (kd == 1) = true := by simpa using hkd
        clear hkd
        cases ff
        · go_wp2_with fail
          refine (do_no _ g s A1 c1 A1' c1' X4.l.r op _ _ X4.l.err (by rw [HS.out]; exact HF.out)).mono ?_
          rintro e w5 ⟨rfl, hb5⟩
          have X5 := (X4.more hb5).alloc (.cells #[.int .i64 0, .int .i64 0] 36)
          have z0 := X5.l.err
          clear X4 B4 hb5 x0 x1 x2 x3 x4 x5 x6
          go_wp2_with fail
          refine (is_same a _).mono ?_
          rintro e w6 ⟨rfl, rfl⟩
          go_wp2_with fail
          go_roundw
          case rel => exact ⟨k + 1, s, _, _, _, _, _, _, by omega, by go_num, HS, kin, by omega, X5⟩
          case measure => simp [intOf]; omega
        · have hf : fitsB s.st op = true := by rw [HS.out]; exact HF.out
          obtain ⟨e1, e2, he⟩ : ∃ e1 e2, ansOf s op = (e1, e2) := ⟨_, _, rfl⟩
          obtain ⟨t, ht⟩ : ∃ t, chgOf s op e1 = t := ⟨_, rfl⟩
          have tok : POk t := by rw [← ht]; have := pok_chg X4.l.ok hf (by omega); rwa [he] at this
          have sok := X4.l.ok
          have tz := chg_size s op e1
          have tkin : Kin t := by rw [← ht]; exact kin_chg hf kin _
          rw [ht] at tz
          obtain ⟨tsz, tst⟩ := tz
          have HT := Lib.hid (And.intro hf (And.intro he (And.intro ht (And.intro tst tkin)))); clear hf he ht tst tkin
          go_wp2_with fail
          refine (do_is _ g s A1 c1 A1' c1' X4.l.r op _ _ X4.l.err (s' := t) (a := (e1, e2)) X4.l.ok HT.out.1 HT.out.2.1 HT.out.2.2.1).mono ?_
          rintro e w5 ⟨rfl, A2, c2, A2', c2', h5, o5⟩
          have X5 := (X4.done h5 o5 tok).alloc (.cells #[.int .i64 e1, .int .i64 e2] 36)
          obtain ⟨F5, k5⟩ := o5.far B4.lt F1
          have B5 := (B4.same k5).alloc (.cells #[.int .i64 e1, .int .i64 e2] 36)
          have C5 : Bk (w5.alloc (.cells #[.int .i64 e1, .int .i64 e2] 36)) w5.heap.size 36 #[.int .i64 e1, .int .i64 e2] := Bk.at_ rfl
          have hU5 := (X4.done h5 o5 tok).box.lt
          clear X4 h5 o5 k5 B4 F1 F5 x0 x1 x2 x3 x4 x5 x6
          go_upto_region 18 with (fail)
          generalize (w5.alloc (.cells #[.int .i64 e1, .int .i64 e2] 36)) = w6 at *
          generalize w5.heap.size = ab at *
          (have x0 := B5.cell 0; have x1 := B5.cell 1; have x2 := B5.cell 2; have x3 := B5.cell 3; have x4 := B5.cell 4; have x5 := B5.cell 5; have x6 := B5.cell 6; simp at x0 x1 x2 x3 x4 x5 x6)
          have u0 := X5.box.cell 0; have u1 := X5.box.cell 1
          simp at u0 u1
          have hU6 : U < w6.heap.size := X5.box.lt
          go_wp2_with fail
          refine (refDo_as s sok op HT.out.1 UA uc _ X5.rd _ e1 e2 HT.out.2.1 (by rw [HT.out.2.2.1])).mono ?_
          rintro e w7 ⟨UA2, uc2, rfl, hr, hb7, haf⟩
          have tkin := HT.out.2.2.2.2
          have tst : Hid (t.st = st) := HT.out.2.2.2.1.trans HS.out
          have htS : Hid (t.st = s.st) := HT.out.2.2.2.1
          have hoff := X5.off haf (n := (lst t).length) (q := uc2)
          have X7 := X5.more hb7
          have C7 := C5.belowAll hb7
          rw [← htS.out]
          have X8 := (X7.alloc (.cells #[.int .i64 t.st, .slice UA2 (lst t).length uc2] 32)).alloc (.cells #[.int .i64 e1, .int .i64 e2] 36)
          have hr8 := (hr.up ((Below.refl _ _).alloc (Nat.le_refl _) (.cells #[.int .i64 t.st, .slice UA2 (lst t).length uc2] 32))).up ((Below.refl _ _).alloc (Nat.le_refl _) (.cells #[.int .i64 e1, .int .i64 e2] 36))
          have C8 := (C7.alloc (.cells #[.int .i64 t.st, .slice UA2 (lst t).length uc2] 32)).alloc (.cells #[.int .i64 e1, .int .i64 e2] 36)
          have D8 : Bk ((w7.alloc (.cells #[.int .i64 t.st, .slice UA2 (lst t).length uc2] 32)).alloc (.cells #[.int .i64 e1, .int .i64 e2] 36)) w7.heap.size 32 #[.int .i64 t.st, .slice UA2 (lst t).length uc2] := (Bk.at_ rfl).alloc _
          have E8 : Bk ((w7.alloc (.cells #[.int .i64 t.st, .slice UA2 (lst t).length uc2] 32)).alloc (.cells #[.int .i64 e1, .int .i64 e2] 36)) (w7.heap.size + 1) 36 #[.int .i64 e1, .int .i64 e2] := Bk.at_ (by simp)
          have hU7 : U < w7.heap.size := X7.box.lt
          have hC7 : ab < w7.heap.size := C7.lt
          go_upto_region 22 with (fail)
          generalize ((w7.alloc (.cells #[.int .i64 t.st, .slice UA2 (lst t).length uc2] 32)).alloc (.cells #[.int .i64 e1, .int .i64 e2] 36)) = w8 at *
          have X9 := X8.set (t' := t) htS.out hr8 hoff
          have C9 := (C8.far (p := ⟨U, 0, none⟩) (by simp; omega) (.int .i64 t.st)).far (p := ⟨U, 1, none⟩) (by simp; omega) (.slice UA2 (lst t).length uc2)
          have E9 := (E8.far (p := ⟨U, 0, none⟩) (by simp; omega) (.int .i64 t.st)).far (p := ⟨U, 1, none⟩) (by simp; omega) (.slice UA2 (lst t).length uc2)
          have u0 := X8.box.cell 0; have u1 := X8.box.cell 1; have u2 := X8.box.free 0; have u3 := X8.box.free 1
          have u4 := fun v => (X8.box.set_ 0 v).cell 1; have u5 := fun v => (X8.box.set_ 0 v).free 1
          have v0 := D8.cell 0; have v1 := D8.cell 1
          simp at u0 u1 u4 v0 v1
          clear x0 x1 x2 x3 x4 x5 x6 B5 C5 C7 X5 X7 hr HT
          go_upto_region 23 with (fail)
          clear u0 u1 u2 u3 u4 u5 v0 v1 D8 X8 C8 E8 hr8
          generalize ((w8.setCell ⟨U, 0, none⟩ (.int .i64 t.st)).setCell ⟨U, 1, none⟩ (.slice UA2 (lst t).length uc2)) = w9 at *
          have y0 := C9.cell 0; have y1 := C9.cell 1; have y2 := E9.cell 0; have y3 := E9.cell 1
          simp at y0 y1 y2 y3
          go_wp2_with fail
          clear y0 y1 y2 y3 C9 E9
          (have ok9 := X9.l.ok; have hl1 := outVals_le1 ok9; have hl2 := ok9.lp; have Y0 := X9.drew; refine wp_region_T (fun w' : World => w'.cell? ⟨U, 0, none⟩ = some (.int .i64 t.st) ∧ w'.cell? ⟨U, 1, none⟩ = some (.slice UA2 (lst t).length uc2)) 14 (by kernel_rfl) ⟨Y0.box.cell 0, Y0.box.cell 1⟩ (fun hS => ?_); generalize w9.drew = w10 at *; clear X9; ((try simp only [Act.put, List.setIfInBounds_toArray, List.set_cons_succ, List.set_cons_zero]); refine wpT_batch (fuel := 12) (by kernel_rfl) (by kernel_rfl) (fun d => by cases d <;> exact fun _ _ _ _ h => h) hS [0, 2] _ _ (by kernel_rfl) ?_; simp only [pickOps, nthOp, List.toList_toArray]; (repeat (first | go_big_quiet_skip | (go_big_quiet_want; first | (go_big_quiet_op; go_big_quiet_on) | (apply Exists.intro; refine ⟨fun w' hS' => ?_, ?_⟩; (· (obtain ⟨f1, f2⟩ := hS'; go_simp; first | done | rfl | exact ⟨rfl, rfl⟩)); go_big_quiet_on; simp only [Act.put, List.setIfInBounds_toArray, List.set_cons_succ, List.set_cons_zero])))); refine wpQuiet_nil ?_; (try dsimp only)); (refine wpT_loudN 1 (by kernel_rfl) (fun K hK => ?_); simp only [nthOp, List.toList_toArray]); go_wp2_with fail; refine (vals_any _ g t A2 c2 A2' c2' Y0.l.r ok9).mono ?_; rintro e w11 ⟨v1, rfl, ov, hb11, _⟩; have Y1 := Y0.more hb11; clear Y0 hb11; obtain ⟨V1, vc1, rfl, _, _⟩ := ov.form; go_wp2_with fail; refine hK.out _ _ (fun _ => ⟨Y1.box.cell 0, Y1.box.cell 1⟩) ?_; clear hK hS; (refine wpT_loudN 3 (by kernel_rfl) (fun K hK => ?_); simp only [nthOp, List.toList_toArray]); go_wp2_with fail; refine (refVals_is t ok9 tkin UA2 uc2 _ Y1.rd).mono ?_; rintro e w12 ⟨v2, rfl, ov2, hb12, _⟩; have Y2 := Y1.more hb12; have ov' := ov.below hb12; clear Y1 hb12 ov; obtain ⟨V2, vc2, rfl, _, _⟩ := ov2.form; go_wp2_with fail; refine hK.out _ _ (fun _ => ⟨Y2.box.cell 0, Y2.box.cell 1⟩) ?_; clear hK; (refine wpT_loudN 4 (by kernel_rfl) (fun K hK => ?_); simp only [nthOp, List.toList_toArray]); go_wp2_with fail; refine (ints_is (b := true) (outVals t) (outVals t) V1 V2 vc1 vc2 _ _ _ ov'.sl ov2.sl (by omega) (by omega) (by simp)).mono ?_; rintro e w13 ⟨rfl, k13, rfl⟩; have Y3 := Y2.drewN k13; clear Y2 ov' ov2; generalize w12.drewN k13 = w14 at *; go_wp2_with fail; refine hK.out _ _ (fun _ => ⟨Y3.box.cell 0, Y3.box.cell 1⟩) ?_; clear hK; have hS : (fun w' : World => w'.cell? ⟨U, 0, none⟩ = some (.int .i64 t.st) ∧ w'.cell? ⟨U, 1, none⟩ = some (.slice UA2 (lst t).length uc2)) w14 := ⟨Y3.box.cell 0, Y3.box.cell 1⟩; ((try simp only [Act.put, List.setIfInBounds_toArray, List.set_cons_succ, List.set_cons_zero]); refine wpT_batch (fuel := 5) (by kernel_rfl) (by kernel_rfl) (fun d => by cases d <;> exact fun _ _ _ _ h => h) hS [5, 6, 7, 9] _ _ (by kernel_rfl) ?_; simp only [pickOps, nthOp, List.toList_toArray]; (repeat (first | go_big_quiet_skip | (go_big_quiet_want; first | (go_big_quiet_op; go_big_quiet_on) | (apply Exists.intro; refine ⟨fun w' hS' => ?_, ?_⟩; (· (obtain ⟨f1, f2⟩ := hS'; go_simp; first | done | rfl | exact ⟨rfl, rfl⟩)); go_big_quiet_on; simp only [Act.put, List.setIfInBounds_toArray, List.set_cons_succ, List.set_cons_zero])))); refine wpQuiet_nil ?_; (try dsimp only)); (refine wpT_loudN 8 (by kernel_rfl) (fun K hK => ?_); simp only [nthOp, List.toList_toArray]); go_wp2_with fail; refine (pairs_any _ g t A2 c2 A2' c2' Y3.l.r ok9).mono ?_; rintro e w15 ⟨v1, rfl, ov, hb15, _⟩; have Y4 := Y3.more hb15; clear Y3 hb15; obtain ⟨V1, vc1, rfl, _, _⟩ := ov.form; go_wp2_with fail; refine hK.out _ _ (fun _ => ⟨Y4.box.cell 0, Y4.box.cell 1⟩) ?_; clear hK hS; (refine wpT_loudN 10 (by kernel_rfl) (fun K hK => ?_); simp only [nthOp, List.toList_toArray]); go_wp2_with fail; refine (refPairs_is t ok9 tkin UA2 uc2 _ Y4.rd).mono ?_; rintro e w16 ⟨V2, vc2, rfl, os2, hb16⟩; have Y5 := Y4.more hb16; have ov' := ov.below hb16; clear Y4 hb16 ov; go_wp2_with fail; refine hK.out _ _ (fun _ => ⟨Y5.box.cell 0, Y5.box.cell 1⟩) ?_; clear hK; (refine wpT_loudN 11 (by kernel_rfl) (fun K hK => ?_); simp only [nthOp, List.toList_toArray]); go_wp2_with fail; refine (samePairs_is1 (b := true) t.pairs t.pairs V1 V2 vc1 vc2 _ _ _ ov'.sl os2 (by omega) (by omega) (by simp)).mono ?_; rintro e w17 ⟨rfl, k17, rfl⟩; have Y6 := Y5.drewN k17; clear Y5 ov' os2; generalize w16.drewN k17 = w18 at *; go_wp2_with fail; refine hK.out _ _ (fun _ => ⟨Y6.box.cell 0, Y6.box.cell 1⟩) ?_; clear hK; have hS : (fun w' : World => w'.cell? ⟨U, 0, none⟩ = some (.int .i64 t.st) ∧ w'.cell? ⟨U, 1, none⟩ = some (.slice UA2 (lst t).length uc2)) w18 := ⟨Y6.box.cell 0, Y6.box.cell 1⟩; ((try simp only [Act.put, List.setIfInBounds_toArray, List.set_cons_succ, List.set_cons_zero]); refine wpT_batch (fuel := 0) (by kernel_rfl) (by kernel_rfl) (fun d => by cases d <;> exact fun _ _ _ _ h => h) hS [12, 13] _ _ (by kernel_rfl) ?_; simp only [pickOps, nthOp, List.toList_toArray]; (repeat (first | go_big_quiet_skip | (go_big_quiet_want; first | (go_big_quiet_op; go_big_quiet_on) | (apply Exists.intro; refine ⟨fun w' hS' => ?_, ?_⟩; (· (skip; go_simp; first | done | rfl | exact ⟨rfl, rfl⟩)); go_big_quiet_on; simp only [Act.put, List.setIfInBounds_toArray, List.set_cons_succ, List.set_cons_zero])))); refine wpQuiet_nil ?_; (try dsimp only)); clear hS; refine wpT_done (by kernel_rfl) ?_ _; go_wp2_with fail; go_roundw; (case rel => exact ⟨k + 1, t, _, _, _, _, _, _, by omega, by go_num, tst, tkin, by omega, Y6⟩); (case measure => simp [intOf]; omega))
      · have dk : (kd == 1) = false := by simpa using hkd
        clear hkd
        obtain ⟨r, t, hr⟩ : ∃ r t, mayOf s op (a1, a2) = (r, t) := ⟨_, _, rfl⟩
        have sok := X4.l.ok
        obtain ⟨tok, tsz, htS⟩ := pok_may sok (by omega) hr
        have tkin := kin_may kin hr
        have tst : Hid (t.st = st) := htS.trans HS.out
        have HR := Lib.hid (And.intro hr htS); clear hr htS
        have hU4 : U < w4.heap.size := X4.box.lt
        have u0 := X4.box.cell 0; have u1 := X4.box.cell 1
        simp at u0 u1
        go_wp2_with fail
        refine (refMay_is s sok op a1 a2 UA uc _ X4.rd trivial r t HR.out.1).mono ?_
        rintro e w5 ⟨UA2, uc2, rfl, hr, hb5, haf⟩
        have htS : Hid (t.st = s.st) := HR.out.2
        have hoff := X4.off haf (n := (lst t).length) (q := uc2)
        have X5 := X4.more hb5
        have B5 := B4.belowAll hb5
        rw [← htS.out]
        have X6 := X5.alloc (.cells #[.int .i64 t.st, .slice UA2 (lst t).length uc2] 32)
        have hr6 := hr.up ((Below.refl _ _).alloc (Nat.le_refl _) (.cells #[.int .i64 t.st, .slice UA2 (lst t).length uc2] 32))
        have B6 := B5.alloc (.cells #[.int .i64 t.st, .slice UA2 (lst t).length uc2] 32)
        have D6 : Bk (w5.alloc (.cells #[.int .i64 t.st, .slice UA2 (lst t).length uc2] 32)) w5.heap.size 32 #[.int .i64 t.st, .slice UA2 (lst t).length uc2] := Bk.at_ rfl
        have hU5 : U < w5.heap.size := X5.box.lt
        clear x0 x1 x2 x3 x4 x5 x6 u0 u1
        go_upto_region 26 with (fail)
        generalize (w5.alloc (.cells #[.int .i64 t.st, .slice UA2 (lst t).length uc2] 32)) = w6 at *
        have X7 := X6.set (t' := t) htS.out hr6 hoff
        have B7 := (B6.far (p := ⟨U, 0, none⟩) (by simp; omega) (.int .i64 t.st)).far (p := ⟨U, 1, none⟩) (by simp; omega) (.slice UA2 (lst t).length uc2)
        have u0 := X6.box.cell 0; have u1 := X6.box.cell 1; have u2 := X6.box.free 0; have u3 := X6.box.free 1
        have u4 := fun v => (X6.box.set_ 0 v).cell 1; have u5 := fun v => (X6.box.set_ 0 v).free 1
        have v0 := D6.cell 0; have v1 := D6.cell 1
        simp at u0 u1 u4 v0 v1
        clear X4 X5 B4 B5 hr B6
        go_upto_region 27 with (fail)
        clear u0 u1 u2 u3 u4 u5 v0 v1 D6 X6 hr6
        generalize ((w6.setCell ⟨U, 0, none⟩ (.int .i64 t.st)).setCell ⟨U, 1, none⟩ (.slice UA2 (lst t).length uc2)) = w7 at *
        (have x0 := B7.cell 0; have x1 := B7.cell 1; have x2 := B7.cell 2; have x3 := B7.cell 3; have x4 := B7.cell 4; have x5 := B7.cell 5; have x6 := B7.cell 6; simp at x0 x1 x2 x3 x4 x5 x6)
        go_wp2_with fail
        refine (may_is _ g s A1 c1 A1' c1' X7.l.r op _ _ X7.l.err (r := r) (s' := t) sok HR.out.1).mono ?_
        rintro e w9 ⟨rfl, A2, c2, A2', c2', h9, o9⟩
        have X9 := X7.done h9 o9 tok
        clear x0 x1 x2 x3 x4 x5 x6 B7 X7 h9 o9 HR
        cases r
        · go_wp2_with fail
          (have ok9 := X9.l.ok; have hl1 := outVals_le1 ok9; have hl2 := ok9.lp; have Y0 := X9.drew; refine wp_region_T (fun w' : World => w'.cell? ⟨U, 0, none⟩ = some (.int .i64 t.st) ∧ w'.cell? ⟨U, 1, none⟩ = some (.slice UA2 (lst t).length uc2)) 14 (by kernel_rfl) ⟨Y0.box.cell 0, Y0.box.cell 1⟩ (fun hS => ?_); generalize w9.drew = w10 at *; clear X9; ((try simp only [Act.put, List.setIfInBounds_toArray, List.set_cons_succ, List.set_cons_zero]); refine wpT_batch (fuel := 12) (by kernel_rfl) (by kernel_rfl) (fun d => by cases d <;> exact fun _ _ _ _ h => h) hS [0, 2] _ _ (by kernel_rfl) ?_; simp only [pickOps, nthOp, List.toList_toArray]; (repeat (first | go_big_quiet_skip | (go_big_quiet_want; first | (go_big_quiet_op; go_big_quiet_on) | (apply Exists.intro; refine ⟨fun w' hS' => ?_, ?_⟩; (· (obtain ⟨f1, f2⟩ := hS'; go_simp; first | done | rfl | exact ⟨rfl, rfl⟩)); go_big_quiet_on; simp only [Act.put, List.setIfInBounds_toArray, List.set_cons_succ, List.set_cons_zero])))); refine wpQuiet_nil ?_; (try dsimp only)); (refine wpT_loudN 1 (by kernel_rfl) (fun K hK => ?_); simp only [nthOp, List.toList_toArray]); go_wp2_with fail; refine (vals_any _ g t A2 c2 A2' c2' Y0.l.r ok9).mono ?_; rintro e w11 ⟨v1, rfl, ov, hb11, _⟩; have Y1 := Y0.more hb11; clear Y0 hb11; obtain ⟨V1, vc1, rfl, _, _⟩ := ov.form; go_wp2_with fail; refine hK.out _ _ (fun _ => ⟨Y1.box.cell 0, Y1.box.cell 1⟩) ?_; clear hK hS; (refine wpT_loudN 3 (by kernel_rfl) (fun K hK => ?_); simp only [nthOp, List.toList_toArray]); go_wp2_with fail; refine (refVals_is t ok9 tkin UA2 uc2 _ Y1.rd).mono ?_; rintro e w12 ⟨v2, rfl, ov2, hb12, _⟩; have Y2 := Y1.more hb12; have ov' := ov.below hb12; clear Y1 hb12 ov; obtain ⟨V2, vc2, rfl, _, _⟩ := ov2.form; go_wp2_with fail; refine hK.out _ _ (fun _ => ⟨Y2.box.cell 0, Y2.box.cell 1⟩) ?_; clear hK; (refine wpT_loudN 4 (by kernel_rfl) (fun K hK => ?_); simp only [nthOp, List.toList_toArray]); go_wp2_with fail; refine (ints_is (b := true) (outVals t) (outVals t) V1 V2 vc1 vc2 _ _ _ ov'.sl ov2.sl (by omega) (by omega) (by simp)).mono ?_; rintro e w13 ⟨rfl, k13, rfl⟩; have Y3 := Y2.drewN k13; clear Y2 ov' ov2; generalize w12.drewN k13 = w14 at *; go_wp2_with fail; refine hK.out _ _ (fun _ => ⟨Y3.box.cell 0, Y3.box.cell 1⟩) ?_; clear hK; have hS : (fun w' : World => w'.cell? ⟨U, 0, none⟩ = some (.int .i64 t.st) ∧ w'.cell? ⟨U, 1, none⟩ = some (.slice UA2 (lst t).length uc2)) w14 := ⟨Y3.box.cell 0, Y3.box.cell 1⟩; ((try simp only [Act.put, List.setIfInBounds_toArray, List.set_cons_succ, List.set_cons_zero]); refine wpT_batch (fuel := 5) (by kernel_rfl) (by kernel_rfl) (fun d => by cases d <;> exact fun _ _ _ _ h => h) hS [5, 6, 7, 9] _ _ (by kernel_rfl) ?_; simp only [pickOps, nthOp, List.toList_toArray]; (repeat (first | go_big_quiet_skip | (go_big_quiet_want; first | (go_big_quiet_op; go_big_quiet_on) | (apply Exists.intro; refine ⟨fun w' hS' => ?_, ?_⟩; (· (obtain ⟨f1, f2⟩ := hS'; go_simp; first | done | rfl | exact ⟨rfl, rfl⟩)); go_big_quiet_on; simp only [Act.put, List.setIfInBounds_toArray, List.set_cons_succ, List.set_cons_zero])))); refine wpQuiet_nil ?_; (try dsimp only)); (refine wpT_loudN 8 (by kernel_rfl) (fun K hK => ?_); simp only [nthOp, List.toList_toArray]); go_wp2_with fail; refine (pairs_any _ g t A2 c2 A2' c2' Y3.l.r ok9).mono ?_; rintro e w15 ⟨v1, rfl, ov, hb15, _⟩; have Y4 := Y3.more hb15; clear Y3 hb15; obtain ⟨V1, vc1, rfl, _, _⟩ := ov.form; go_wp2_with fail; refine hK.out _ _ (fun _ => ⟨Y4.box.cell 0, Y4.box.cell 1⟩) ?_; clear hK hS; (refine wpT_loudN 10 (by kernel_rfl) (fun K hK => ?_); simp only [nthOp, List.toList_toArray]); go_wp2_with fail; refine (refPairs_is t ok9 tkin UA2 uc2 _ Y4.rd).mono ?_; rintro e w16 ⟨V2, vc2, rfl, os2, hb16⟩; have Y5 := Y4.more hb16; have ov' := ov.below hb16; clear Y4 hb16 ov; go_wp2_with fail; refine hK.out _ _ (fun _ => ⟨Y5.box.cell 0, Y5.box.cell 1⟩) ?_; clear hK; (refine wpT_loudN 11 (by kernel_rfl) (fun K hK => ?_); simp only [nthOp, List.toList_toArray]); go_wp2_with fail; refine (samePairs_is1 (b := true) t.pairs t.pairs V1 V2 vc1 vc2 _ _ _ ov'.sl os2 (by omega) (by omega) (by simp)).mono ?_; rintro e w17 ⟨rfl, k17, rfl⟩; have Y6 := Y5.drewN k17; clear Y5 ov' os2; generalize w16.drewN k17 = w18 at *; go_wp2_with fail; refine hK.out _ _ (fun _ => ⟨Y6.box.cell 0, Y6.box.cell 1⟩) ?_; clear hK; have hS : (fun w' : World => w'.cell? ⟨U, 0, none⟩ = some (.int .i64 t.st) ∧ w'.cell? ⟨U, 1, none⟩ = some (.slice UA2 (lst t).length uc2)) w18 := ⟨Y6.box.cell 0, Y6.box.cell 1⟩; ((try simp only [Act.put, List.setIfInBounds_toArray, List.set_cons_succ, List.set_cons_zero]); refine wpT_batch (fuel := 0) (by kernel_rfl) (by kernel_rfl) (fun d => by cases d <;> exact fun _ _ _ _ h => h) hS [12, 13] _ _ (by kernel_rfl) ?_; simp only [pickOps, nthOp, List.toList_toArray]; (repeat (first | go_big_quiet_skip | (go_big_quiet_want; first | (go_big_quiet_op; go_big_quiet_on) | (apply Exists.intro; refine ⟨fun w' hS' => ?_, ?_⟩; (· (skip; go_simp; first | done | rfl | exact ⟨rfl, rfl⟩)); go_big_quiet_on; simp only [Act.put, List.setIfInBounds_toArray, List.set_cons_succ, List.set_cons_zero])))); refine wpQuiet_nil ?_; (try dsimp only)); clear hS; refine wpT_done (by kernel_rfl) ?_ _; go_wp2_with fail; go_roundw; (case rel => exact ⟨k + 1, t, _, _, _, _, _, _, by omega, by go_num, tst, tkin, by omega, Y6⟩); (case measure => simp [intOf]; omega))
        · go_wp2_with fail
          (have ok9 := X9.l.ok; have hl1 := outVals_le1 ok9; have hl2 := ok9.lp; have Y0 := X9.drew; refine wp_region_T (fun w' : World => w'.cell? ⟨U, 0, none⟩ = some (.int .i64 t.st) ∧ w'.cell? ⟨U, 1, none⟩ = some (.slice UA2 (lst t).length uc2)) 14 (by kernel_rfl) ⟨Y0.box.cell 0, Y0.box.cell 1⟩ (fun hS => ?_); generalize w9.drew = w10 at *; clear X9; ((try simp only [Act.put, List.setIfInBounds_toArray, List.set_cons_succ, List.set_cons_zero]); refine wpT_batch (fuel := 12) (by kernel_rfl) (by kernel_rfl) (fun d => by cases d <;> exact fun _ _ _ _ h => h) hS [0, 2] _ _ (by kernel_rfl) ?_; simp only [pickOps, nthOp, List.toList_toArray]; (repeat (first | go_big_quiet_skip | (go_big_quiet_want; first | (go_big_quiet_op; go_big_quiet_on) | (apply Exists.intro; refine ⟨fun w' hS' => ?_, ?_⟩; (· (obtain ⟨f1, f2⟩ := hS'; go_simp; first | done | rfl | exact ⟨rfl, rfl⟩)); go_big_quiet_on; simp only [Act.put, List.setIfInBounds_toArray, List.set_cons_succ, List.set_cons_zero])))); refine wpQuiet_nil ?_; (try dsimp only)); (refine wpT_loudN 1 (by kernel_rfl) (fun K hK => ?_); simp only [nthOp, List.toList_toArray]); go_wp2_with fail; refine (vals_any _ g t A2 c2 A2' c2' Y0.l.r ok9).mono ?_; rintro e w11 ⟨v1, rfl, ov, hb11, _⟩; have Y1 := Y0.more hb11; clear Y0 hb11; obtain ⟨V1, vc1, rfl, _, _⟩ := ov.form; go_wp2_with fail; refine hK.out _ _ (fun _ => ⟨Y1.box.cell 0, Y1.box.cell 1⟩) ?_; clear hK hS; (refine wpT_loudN 3 (by kernel_rfl) (fun K hK => ?_); simp only [nthOp, List.toList_toArray]); go_wp2_with fail; refine (refVals_is t ok9 tkin UA2 uc2 _ Y1.rd).mono ?_; rintro e w12 ⟨v2, rfl, ov2, hb12, _⟩; have Y2 := Y1.more hb12; have ov' := ov.below hb12; clear Y1 hb12 ov; obtain ⟨V2, vc2, rfl, _, _⟩ := ov2.form; go_wp2_with fail; refine hK.out _ _ (fun _ => ⟨Y2.box.cell 0, Y2.box.cell 1⟩) ?_; clear hK; (refine wpT_loudN 4 (by kernel_rfl) (fun K hK => ?_); simp only [nthOp, List.toList_toArray]); go_wp2_with fail; refine (ints_is (b := true) (outVals t) (outVals t) V1 V2 vc1 vc2 _ _ _ ov'.sl ov2.sl (by omega) (by omega) (by simp)).mono ?_; rintro e w13 ⟨rfl, k13, rfl⟩; have Y3 := Y2.drewN k13; clear Y2 ov' ov2; generalize w12.drewN k13 = w14 at *; go_wp2_with fail; refine hK.out _ _ (fun _ => ⟨Y3.box.cell 0, Y3.box.cell 1⟩) ?_; clear hK; have hS : (fun w' : World => w'.cell? ⟨U, 0, none⟩ = some (.int .i64 t.st) ∧ w'.cell? ⟨U, 1, none⟩ = some (.slice UA2 (lst t).length uc2)) w14 := ⟨Y3.box.cell 0, Y3.box.cell 1⟩; ((try simp only [Act.put, List.setIfInBounds_toArray, List.set_cons_succ, List.set_cons_zero]); refine wpT_batch (fuel := 5) (by kernel_rfl) (by kernel_rfl) (fun d => by cases d <;> exact fun _ _ _ _ h => h) hS [5, 6, 7, 9] _ _ (by kernel_rfl) ?_; simp only [pickOps, nthOp, List.toList_toArray]; (repeat (first | go_big_quiet_skip | (go_big_quiet_want; first | (go_big_quiet_op; go_big_quiet_on) | (apply Exists.intro; refine ⟨fun w' hS' => ?_, ?_⟩; (· (obtain ⟨f1, f2⟩ := hS'; go_simp; first | done | rfl | exact ⟨rfl, rfl⟩)); go_big_quiet_on; simp only [Act.put, List.setIfInBounds_toArray, List.set_cons_succ, List.set_cons_zero])))); refine wpQuiet_nil ?_; (try dsimp only)); (refine wpT_loudN 8 (by kernel_rfl) (fun K hK => ?_); simp only [nthOp, List.toList_toArray]); go_wp2_with fail; refine (pairs_any _ g t A2 c2 A2' c2' Y3.l.r ok9).mono ?_; rintro e w15 ⟨v1, rfl, ov, hb15, _⟩; have Y4 := Y3.more hb15; clear Y3 hb15; obtain ⟨V1, vc1, rfl, _, _⟩ := ov.form; go_wp2_with fail; refine hK.out _ _ (fun _ => ⟨Y4.box.cell 0, Y4.box.cell 1⟩) ?_; clear hK hS; (refine wpT_loudN 10 (by kernel_rfl) (fun K hK => ?_); simp only [nthOp, List.toList_toArray]); go_wp2_with fail; refine (refPairs_is t ok9 tkin UA2 uc2 _ Y4.rd).mono ?_; rintro e w16 ⟨V2, vc2, rfl, os2, hb16⟩; have Y5 := Y4.more hb16; have ov' := ov.below hb16; clear Y4 hb16 ov; go_wp2_with fail; refine hK.out _ _ (fun _ => ⟨Y5.box.cell 0, Y5.box.cell 1⟩) ?_; clear hK; (refine wpT_loudN 11 (by kernel_rfl) (fun K hK => ?_); simp only [nthOp, List.toList_toArray]); go_wp2_with fail; refine (samePairs_is1 (b := true) t.pairs t.pairs V1 V2 vc1 vc2 _ _ _ ov'.sl os2 (by omega) (by omega) (by simp)).mono ?_; rintro e w17 ⟨rfl, k17, rfl⟩; have Y6 := Y5.drewN k17; clear Y5 ov' os2; generalize w16.drewN k17 = w18 at *; go_wp2_with fail; refine hK.out _ _ (fun _ => ⟨Y6.box.cell 0, Y6.box.cell 1⟩) ?_; clear hK; have hS : (fun w' : World => w'.cell? ⟨U, 0, none⟩ = some (.int .i64 t.st) ∧ w'.cell? ⟨U, 1, none⟩ = some (.slice UA2 (lst t).length uc2)) w18 := ⟨Y6.box.cell 0, Y6.box.cell 1⟩; ((try simp only [Act.put, List.setIfInBounds_toArray, List.set_cons_succ, List.set_cons_zero]); refine wpT_batch (fuel := 0) (by kernel_rfl) (by kernel_rfl) (fun d => by cases d <;> exact fun _ _ _ _ h => h) hS [12, 13] _ _ (by kernel_rfl) ?_; simp only [pickOps, nthOp, List.toList_toArray]; (repeat (first | go_big_quiet_skip | (go_big_quiet_want; first | (go_big_quiet_op; go_big_quiet_on) | (apply Exists.intro; refine ⟨fun w' hS' => ?_, ?_⟩; (· (skip; go_simp; first | done | rfl | exact ⟨rfl, rfl⟩)); go_big_quiet_on; simp only [Act.put, List.setIfInBounds_toArray, List.set_cons_succ, List.set_cons_zero])))); refine wpQuiet_nil ?_; (try dsimp only)); clear hS; refine wpT_done (by kernel_rfl) ?_ _; go_wp2_with fail; go_roundw; (case rel => exact ⟨k + 1, t, _, _, _, _, _, _, by omega, by go_num, tst, tkin, by omega, Y6⟩); (case measure => simp [intOf]; omega))
    · by_cases hk2 : k < acts.length
      · have h100 : 100 ≤ k := by omega
        clear hlt
        go_wp2_with fail
        go_ret
        exact ⟨rfl, X.l.below⟩
      · clear hlt
        go_wp2_with fail
        go_ret
        exact ⟨rfl, X.l.below⟩
end Go.Proofs.YtlfbgpncdahglaaDoor
