/- CreedClones, walked: one like it goes its own way. -/
import Derived.Test.YtlfbgpncdahglaaDoorNil
import Derived.Test.YtlfbgpncdahglaaDoorStep
namespace Go.Proofs.YtlfbgpncdahglaaDoor
open Go Go.RowKit
set_option linter.unusedSimpArgs false
set_option linter.unusedVariables false
set_option linter.unusedSectionVars false

set_option maxRecDepth 100000 in
set_option maxHeartbeats 6400000 in
theorem creedClones_any (st : Int) (ops more : List POp) (A B : Option Addr) (c d : Nat) (w : World) (a a' : Addr) (hE : w.cell? ⟨0, 0, none⟩ = some (.iface 156 (.pointer (some a))))
    (hN : w.cell? ⟨1, 0, none⟩ = some (.iface 156 (.pointer (some a'))))
    (so : Sl w w.heap.size 4 A ops.length (ocells ops)) (sm : Sl w w.heap.size 4 B more.length (ocells more)) (hl : ops.length ≤ 60) (hm : more.length ≤ 60) :
    Calls Tryd.prog 7 #[.int .i64 st, .slice A ops.length c, .slice B more.length d] w (RetB true w) := by
  have g1 : decide ((60 : Int) < (ops.length : Int)) = false := by simp; omega
  have g2 : decide ((60 : Int) < (more.length : Int)) = false := by simp; omega
  obtain ⟨s0, hs0, hs1, hs5⟩ := stOf_in st
  have hlt0 := World.block_lt_of_cell? _ _ hE
  have hltN := World.block_lt_of_cell? _ _ hN
  simp at hlt0 hltN
  go_enter Tryd.func7, Tryd.ntmps7
  go_wp2_with fail
  refine (awake_any _ a hE).mono ?_
  rintro e w1 ⟨rfl, hb1⟩
  go_wp2_with fail
  rw [hs0]
  refine (new_any s0 _ hs1 hs5).mono ?_
  rintro e w2 ⟨g, A1, c1, A1', c1', rfl, hn⟩
  have L0 := LW.new hb1 (cell_below hE hb1) hlt0 hn (pok_vals s0 [] ⟨hs1, hs5⟩ (by decide))
  clear hn hs0 hb1
  go_wp2_with fail
  go_loopw [9] (fun i wr => ∃ (k : Nat) (s : PC) (A : Option Addr) (c : Nat) (A' : Option Addr) (c' : Nat), k ≤ ops.length ∧ i = .int .i64 k ∧ LW w wr 156 (.pointer (some a)) g s A c A' c' ∧ s.size ≤ k) (fun i _ => ops.length - (intOf i).toNat)
  case atStart => exact ⟨0, _, A1, c1, A1', c1', Nat.zero_le _, rfl, L0, by simp [PC.size]⟩
  case round =>
    clear L0
    obtain ⟨k, s, A1, c1, A1', c1', hk, rfl, L, hsz⟩ := hrel
    by_cases hlt : k < ops.length
    · obtain ⟨ob, off, rfl, hob, q0, q1, q2, q3⟩ := (so.below L.below).op hlt
      go_wp2_with fail
      refine (do_step _ g s A1 c1 A1' c1' L.r ops[k] _ _ L.err L.ok).mono ?_
      rintro e w3 ⟨rfl, A2, c2, A2', c2', h3, o3⟩
      have L3 := L.done h3 o3 (step_ok _ L.ok (by omega))
      have z3 := step_size s ops[k]
      go_wp2_with fail
      go_roundw
      case rel => exact ⟨k + 1, _, _, _, _, _, by omega, by go_num, L3, by omega⟩
      case measure => simp [intOf]; omega
    · have hl1 := outVals_le L.ok
      have hl2 := L.ok.lp
      have so := so.below L.below
      have hN := cell_below hN L.below
      go_wp2_with fail
      refine (vals_any _ g s A1 c1 A1' c1' L.r L.ok).mono ?_
      rintro e w3 ⟨vv, rfl, ov, hb3, hf3⟩
      have L3 := L.more hb3
      obtain ⟨V, vc, rfl, _, _⟩ := ov.form
      have hN := cell_below hN hb3
      clear L hb3 hf3
      go_wp2_with fail
      refine (pairs_any _ g s A1 c1 A1' c1' L3.r L3.ok).mono ?_
      rintro e w4 ⟨vp, rfl, op, hb4, hf4⟩
      have L4 := L3.more hb4
      obtain ⟨Q, pc, rfl, _, _⟩ := op.form
      have ov := ov.below hb4
      have sm := (sm.below L4.below).more L4.below.size
      have hN := cell_below hN hb4
      clear L3 hb4 hf4
      go_wp2_with fail
      refine (clone_any _ g s A1 c1 A1' c1' L4.r L4.ok).mono ?_
      rintro e w5 ⟨h, B1, d1, B1', d1', rfl, hn⟩
      have hlt4 := World.block_lt_of_cell? _ _ L4.err
      simp at hlt4
      have D5 := LW.new (Below.refl _ _) L4.err hlt4 hn L4.ok
      have r5 := L4.r.below hn.2.1
      clear hn
      go_wp2_with fail
      refine (sameC_is (b := true) _ g s A1 c1 A1' c1' r5 L4.ok h s B1 d1 B1' d1' D5.r D5.ok (by simp)).mono ?_
      rintro e w6 ⟨rfl, k6, rfl⟩
      have D6 := D5.drewN k6
      have r6 := r5.drewN k6
      clear D5 r5
      generalize w5.drewN k6 = w6 at *
      go_wp2_with fail
      refine (sameC_is (b := true) _ h s B1 d1 B1' d1' D6.r D6.ok g s A1 c1 A1' c1' r6 L4.ok (by simp)).mono ?_
      rintro e w7 ⟨rfl, k7, rfl⟩
      have D7 := D6.drewN k7
      clear D6 r6
      generalize w6.drewN k7 = w7 at *
      go_wp2_with fail
      refine (same_with_nil _ g).mono ?_
      rintro e w8 ⟨rfl, rfl⟩
      go_wp2_with fail
      obtain ⟨wo, hwo⟩ : ∃ wo : World, wo = w4 := ⟨_, rfl⟩
      go_loopw [13] (fun i wr => ∃ (j : Nat) (t : PC) (B : Option Addr) (d : Nat) (B' : Option Addr) (d' : Nat), j ≤ more.length ∧ i = .int .i64 j ∧ LW w4 wr 156 (.pointer (some a)) h t B d B' d' ∧ t.size ≤ s.size + j ∧ t.st = s.st) (fun i _ => more.length - (intOf i).toNat)
      case atStart => exact ⟨0, s, B1, d1, B1', d1', Nat.zero_le _, rfl, D7, by omega, rfl⟩
      case round =>
        clear D7
        obtain ⟨j, t, B1, d1, B1', d1', hj, rfl, D, htz, hts⟩ := hrel
        have HT := Lib.hid hts; clear hts
        by_cases hlj : j < more.length
        · obtain ⟨ob, off, rfl, hob, q0, q1, q2, q3⟩ := (sm.below D.below).op hlj
          go_wp2_with fail
          refine (do_step _ h t B1 d1 B1' d1' D.r more[j] _ _ D.err D.ok).mono ?_
          rintro e w9 ⟨rfl, B2, d2, B2', d2', h9, o9⟩
          have D9 := D.done h9 o9 (step_ok _ D.ok (by omega))
          have z9 := step_size t more[j]
          have t9 := (step_st t more[j]).trans HT.out
          clear HT h9 o9 D
          go_wp2_with fail
          go_roundw
          case rel => exact ⟨j + 1, _, _, _, _, _, by omega, by go_num, D9, by omega, t9⟩
          case measure => simp [intOf]; omega
        · have hT1 := outVals_le D.ok
          have hT2 := D.ok.lp
          have r9 := L4.r.below D.below
          have e1 := same_out HT.out
          obtain ⟨bv, hbv⟩ : ∃ b, decide (outVals t = outVals s) = b := ⟨_, rfl⟩
          obtain ⟨bp, hbp⟩ : ∃ b, decide (t.pairs = s.pairs) = b := ⟨_, rfl⟩
          rw [hbv, hbp] at e1
          have HV := Lib.hid (And.intro hbv (And.intro hbp e1)); clear hbv hbp e1
          have ov9 := ov.below D.below
          have op9 := op.below D.below
          have hN9 := cell_below hN D.below
          clear HT
          go_wp2_with fail
          refine (vals_any _ g s A1 c1 A1' c1' r9 L4.ok).mono ?_
          rintro e w10 ⟨x1, rfl, ox, hb10, _⟩
          obtain ⟨X, xc, rfl, _, _⟩ := ox.form
          have D10 := D.more hb10
          have r10 := r9.below hb10
          have ov10 := ov9.below hb10
          have op10 := op9.below hb10
          have hN10 := cell_below hN9 hb10
          clear D r9 ov9 op9 hN9
          go_wp2_with fail
          refine (ints_is (b := true) (outVals s) (outVals s) X V xc vc _ _ _ ox.sl ov10.sl (by omega) (by omega) (by simp)).mono ?_
          rintro e w11 ⟨rfl, k11, rfl⟩
          have D11 := D10.drewN k11
          have r11 := r10.drewN k11
          have ov11 := ov10.drewN k11
          have op11 := op10.drewN k11
          have hN11 : (w10.drewN k11).cell? ⟨1, 0, none⟩ = some (.iface 156 (.pointer (some a'))) := hN10
          clear D10 r10 ov10 op10 hN10 ox
          generalize w10.drewN k11 = w11 at *
          go_wp2_with fail
          refine (pairs_any _ g s A1 c1 A1' c1' r11 L4.ok).mono ?_
          rintro e w12 ⟨x2, rfl, ox, hb12, _⟩
          obtain ⟨X2, xc2, rfl, _, _⟩ := ox.form
          have D12 := D11.more hb12
          have r12 := r11.below hb12
          have ov12 := ov11.below hb12
          have op12 := op11.below hb12
          have hN12 := cell_below hN11 hb12
          clear D11 r11 ov11 op11 hN11
          go_wp2_with fail
          refine (samePairs_is (b := true) s.pairs s.pairs X2 Q xc2 pc _ _ _ ox.sl op12.sl (by omega) (by omega) (by simp)).mono ?_
          rintro e w13 ⟨rfl, k13, rfl⟩
          have D13 := D12.drewN k13
          have r13 := r12.drewN k13
          have ov13 := ov12.drewN k13
          have op13 := op12.drewN k13
          have hN13 : (w12.drewN k13).cell? ⟨1, 0, none⟩ = some (.iface 156 (.pointer (some a'))) := hN12
          clear D12 r12 ov12 op12 hN12 ox
          generalize w12.drewN k13 = w13 at *
          go_wp2_with fail
          refine (sameC_is _ g s A1 c1 A1' c1' r13 L4.ok h t B1 d1 B1' d1' D13.r D13.ok HV.out.2.2).mono ?_
          rintro e w14 ⟨rfl, k14, rfl⟩
          have D14 := D13.drewN k14
          have ov14 := ov13.drewN k14
          have op14 := op13.drewN k14
          have hN14 : (w13.drewN k14).cell? ⟨1, 0, none⟩ = some (.iface 156 (.pointer (some a'))) := hN13
          clear D13 r13 ov13 op13 hN13
          generalize w13.drewN k14 = w14 at *
          go_wp2_with fail
          refine (vals_any _ h t B1 d1 B1' d1' D14.r D14.ok).mono ?_
          rintro e w15 ⟨x3, rfl, ox, hb15, _⟩
          obtain ⟨X3, xc3, rfl, _, _⟩ := ox.form
          have D15 := D14.more hb15
          have ov15 := ov14.below hb15
          have op15 := op14.below hb15
          have hN15 := cell_below hN14 hb15
          clear D14 ov14 op14 hN14
          go_wp2_with fail
          refine (ints_is (outVals t) (outVals s) X3 V xc3 vc _ _ _ ox.sl ov15.sl (by omega) (by omega) HV.out.1).mono ?_
          rintro e w16 ⟨rfl, k16, rfl⟩
          have D16 := D15.drewN k16
          have op16 := op15.drewN k16
          have hN16 : (w15.drewN k16).cell? ⟨1, 0, none⟩ = some (.iface 156 (.pointer (some a'))) := hN15
          clear D15 ov15 op15 hN15 ox
          generalize w15.drewN k16 = w16 at *
          have hP := HV.out.2.1
          have HP := Lib.hid hP; clear hP HV
          have hW := L4.below
          cases bv
          · simp only [Bool.false_and]
            have D17 := D16
            have hN17 := hN16
            (go_wp2_with fail; refine (do_nil ⟨2, 0, 0, 0⟩ _ _ _ hN17).mono ?_; rintro e w20 ⟨rfl, hb20⟩; have D20 := (D17.more hb20).alloc (.cells #[.int .i64 0, .int .i64 0] 36); have hN20 := cell_alloc (cell_below hN17 hb20) (.cells #[.int .i64 0, .int .i64 0] 36); clear D17 hN17 hb20; go_wp2_with fail; generalize (w20.alloc (.cells #[.int .i64 0, .int .i64 0] 36)) = w21 at *; refine (is_same a' _).mono ?_; rintro e w22 ⟨rfl, rfl⟩; go_wp2_with fail; refine (may_nil ⟨2, 0, 0, 0⟩ 0 0 _).mono ?_; rintro e w23 ⟨rfl, hb23⟩; have D23 := D20.more hb23; go_wp2_with fail; refine (clone_nil _).mono ?_; rintro e w24 ⟨rfl, rfl⟩; go_wp2_with fail; refine (vals_nil _).mono ?_; rintro e w25 ⟨rfl, rfl⟩; go_wp2_with fail; refine (pairs_nil _).mono ?_; rintro e w26 ⟨rfl, rfl⟩; go_wp2_with fail; refine (same_nil_nil _).mono ?_; rintro e w27 ⟨rfl, rfl⟩; go_wp2_with fail; go_ret; exact ⟨rfl, hW.trans (D23.below.mono hW.size)⟩)
          · simp only [Bool.true_and]
            go_wp2_with fail
            refine (pairs_any _ h t B1 d1 B1' d1' D16.r D16.ok).mono ?_
            rintro e w17 ⟨x4, rfl, ox, hb17, _⟩
            obtain ⟨X4, xc4, rfl, _, _⟩ := ox.form
            have D17' := D16.more hb17
            have op17 := op16.below hb17
            have hN17' := cell_below hN16 hb17
            clear D16 op16 hN16
            go_wp2_with fail
            refine (samePairs_is t.pairs s.pairs X4 Q xc4 pc _ _ _ ox.sl op17.sl (by omega) (by omega) HP.out).mono ?_
            rintro e w18 ⟨rfl, k18, rfl⟩
            have D17 := D17'.drewN k18
            have hN17 : (w17.drewN k18).cell? ⟨1, 0, none⟩ = some (.iface 156 (.pointer (some a'))) := hN17'
            clear D17' op17 hN17' ox
            generalize w17.drewN k18 = w18 at *
            cases bp
            · (go_wp2_with fail; refine (do_nil ⟨2, 0, 0, 0⟩ _ _ _ hN17).mono ?_; rintro e w20 ⟨rfl, hb20⟩; have D20 := (D17.more hb20).alloc (.cells #[.int .i64 0, .int .i64 0] 36); have hN20 := cell_alloc (cell_below hN17 hb20) (.cells #[.int .i64 0, .int .i64 0] 36); clear D17 hN17 hb20; go_wp2_with fail; generalize (w20.alloc (.cells #[.int .i64 0, .int .i64 0] 36)) = w21 at *; refine (is_same a' _).mono ?_; rintro e w22 ⟨rfl, rfl⟩; go_wp2_with fail; refine (may_nil ⟨2, 0, 0, 0⟩ 0 0 _).mono ?_; rintro e w23 ⟨rfl, hb23⟩; have D23 := D20.more hb23; go_wp2_with fail; refine (clone_nil _).mono ?_; rintro e w24 ⟨rfl, rfl⟩; go_wp2_with fail; refine (vals_nil _).mono ?_; rintro e w25 ⟨rfl, rfl⟩; go_wp2_with fail; refine (pairs_nil _).mono ?_; rintro e w26 ⟨rfl, rfl⟩; go_wp2_with fail; refine (same_nil_nil _).mono ?_; rintro e w27 ⟨rfl, rfl⟩; go_wp2_with fail; go_ret; exact ⟨rfl, hW.trans (D23.below.mono hW.size)⟩)
            · (go_wp2_with fail; refine (do_nil ⟨2, 0, 0, 0⟩ _ _ _ hN17).mono ?_; rintro e w20 ⟨rfl, hb20⟩; have D20 := (D17.more hb20).alloc (.cells #[.int .i64 0, .int .i64 0] 36); have hN20 := cell_alloc (cell_below hN17 hb20) (.cells #[.int .i64 0, .int .i64 0] 36); clear D17 hN17 hb20; go_wp2_with fail; generalize (w20.alloc (.cells #[.int .i64 0, .int .i64 0] 36)) = w21 at *; refine (is_same a' _).mono ?_; rintro e w22 ⟨rfl, rfl⟩; go_wp2_with fail; refine (may_nil ⟨2, 0, 0, 0⟩ 0 0 _).mono ?_; rintro e w23 ⟨rfl, hb23⟩; have D23 := D20.more hb23; go_wp2_with fail; refine (clone_nil _).mono ?_; rintro e w24 ⟨rfl, rfl⟩; go_wp2_with fail; refine (vals_nil _).mono ?_; rintro e w25 ⟨rfl, rfl⟩; go_wp2_with fail; refine (pairs_nil _).mono ?_; rintro e w26 ⟨rfl, rfl⟩; go_wp2_with fail; refine (same_nil_nil _).mono ?_; rintro e w27 ⟨rfl, rfl⟩; go_wp2_with fail; go_ret; exact ⟨rfl, hW.trans (D23.below.mono hW.size)⟩)
end Go.Proofs.YtlfbgpncdahglaaDoor
