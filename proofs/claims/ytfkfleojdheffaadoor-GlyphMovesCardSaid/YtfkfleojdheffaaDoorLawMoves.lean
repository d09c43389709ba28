/- GlyphMoves: what comes in a word's place is another one. -/
import Derived.Test.YtfkfleojdheffaaDoorSmallW
namespace Go.Proofs.YtfkfleojdheffaaDoor
open Go Go.RowKit
set_option linter.unusedSimpArgs false
set_option linter.unusedVariables false
set_option linter.unusedSectionVars false

set_option maxRecDepth 100000 in
set_option maxHeartbeats 12800000 in
theorem glyphMoves_all {w : World} {a b : Addr} {tS : TypeId} {pS : Value} {tR : TypeId} {pR : Value} {m : Int} (G : GW w a b tS pS tR pR m) (x y : PW) (n : Int) :
    Calls Tryd.prog 7 #[x.v, y.v, .int .i64 n] w (RetB true w) := by
  have hb0 : Below w.heap.size w ((w.alloc (.cells x.cells 23)).alloc (.cells y.cells 23)) := ((Below.refl _ _).alloc (Nat.le_refl _) _).alloc (by simp) _
  have A0 : Bk ((w.alloc (.cells x.cells 23)).alloc (.cells y.cells 23)) w.heap.size 23 x.cells := (Bk.at_ rfl).alloc _
  have B0 : Bk ((w.alloc (.cells x.cells 23)).alloc (.cells y.cells 23)) (w.heap.size + 1) 23 y.cells := Bk.at_ (by simp)
  have G0 := G.more hb0
  have ht1 := wrap_ne x.tag
  have ht2 := wrap_ne (wrap64 (x.tag + 1))
  generalize e1 : wrap64 (x.tag + 1) = t1 at *
  generalize e2 : wrap64 (t1 + 1) = t2 at *
  generalize e3 : wrap64 (x.num + n) = u at *
  have Q1 := Lib.hid e1
  have Q2 := Lib.hid e2
  have Q3 := Lib.hid e3
  clear e1 e2 e3
  unfold PW.v
  go_enter Tryd.func7, Tryd.ntmps7
  go_wp2_with fail
  simp only [PW.cells] at hb0 A0 B0 G0
  generalize ((w.alloc (.cells #[.int .i64 x.slot, .int .i64 x.gen, .int .i64 x.tag, .int .i64 x.num, .bool x.mark] 23)).alloc (.cells #[.int .i64 y.slot, .int .i64 y.gen, .int .i64 y.tag, .int .i64 y.num, .bool y.mark] 23)) = w0 at *
  refine (awake_any G0).mono ?_
  rintro e w1 ⟨rfl, hb1'⟩
  have A1 := A0.belowAll hb1'
  have B1 := B0.belowAll hb1'
  have hb1 := hb0.trans (hb1'.mono hb0.size)
  clear A0 B0 G0 hb0 hb1'
  obtain ⟨a0, a1, a2, a3, a4⟩ := bk5 A1
  obtain ⟨b0, b1, b2, b3, b4⟩ := bk5 B1
  go_wp2_with fail
  refine (to_is Q1.out _).mono ?_
  rintro e w2 ⟨rfl, hbN⟩
  go_upto_region 4 with (fail)
  have hbS := hb1.trans (hbN.mono hb1.size)
  have A2 := (A1.belowAll hbN).alloc (.cells #[.int .i64 y.slot, .int .i64 y.gen, .int .i64 t1, .int .i64 0, .bool false] 23)
  have B2 := (B1.belowAll hbN).alloc (.cells #[.int .i64 y.slot, .int .i64 y.gen, .int .i64 t1, .int .i64 0, .bool false] 23)
  have hb2 := hbS.alloc hbS.size (.cells #[.int .i64 y.slot, .int .i64 y.gen, .int .i64 t1, .int .i64 0, .bool false] 23)
  have D2 : Bk (w2.alloc (.cells #[.int .i64 y.slot, .int .i64 y.gen, .int .i64 t1, .int .i64 0, .bool false] 23)) w2.heap.size 23 _ := Bk.at_ rfl
  clear hbS hbN a0 a1 a2 a3 a4 A1 B1 hb1 b0 b1 b2 b3 b4
  generalize w2.heap.size = dN at *
  generalize (w2.alloc (.cells #[.int .i64 y.slot, .int .i64 y.gen, .int .i64 t1, .int .i64 0, .bool false] 23)) = w3 at *
  obtain ⟨a0, a1, a2, a3, a4⟩ := bk5 A2
  go_wp2_with fail
  refine (marked_is Q1.out _).mono ?_
  rintro e w4 ⟨rfl, hbN⟩
  go_upto_region 5 with (fail)
  have hbS := hb2.trans (hbN.mono hb2.size)
  have A3 := (A2.belowAll hbN).alloc (.cells #[.int .i64 x.slot, .int .i64 x.gen, .int .i64 t1, .int .i64 x.num, .bool true] 23)
  have B3 := (B2.belowAll hbN).alloc (.cells #[.int .i64 x.slot, .int .i64 x.gen, .int .i64 t1, .int .i64 x.num, .bool true] 23)
  have D3 := (D2.belowAll hbN).alloc (.cells #[.int .i64 x.slot, .int .i64 x.gen, .int .i64 t1, .int .i64 x.num, .bool true] 23)
  have hb3 := hbS.alloc hbS.size (.cells #[.int .i64 x.slot, .int .i64 x.gen, .int .i64 t1, .int .i64 x.num, .bool true] 23)
  have E3 : Bk (w4.alloc (.cells #[.int .i64 x.slot, .int .i64 x.gen, .int .i64 t1, .int .i64 x.num, .bool true] 23)) w4.heap.size 23 _ := Bk.at_ rfl
  clear hbS hbN a0 a1 a2 a3 a4 A2 B2 D2 hb2
  generalize w4.heap.size = eN at *
  generalize (w4.alloc (.cells #[.int .i64 x.slot, .int .i64 x.gen, .int .i64 t1, .int .i64 x.num, .bool true] 23)) = w5 at *
  obtain ⟨a0, a1, a2, a3, a4⟩ := bk5 A3
  go_wp2_with fail
  refine (count_is Q1.out Q3.out _).mono ?_
  rintro e w6 ⟨rfl, hbN⟩
  go_upto_region 6 with (fail)
  have hbS := hb3.trans (hbN.mono hb3.size)
  have A4 := (A3.belowAll hbN).alloc (.cells #[.int .i64 0, .int .i64 0, .int .i64 t1, .int .i64 u, .bool false] 23)
  have B4 := (B3.belowAll hbN).alloc (.cells #[.int .i64 0, .int .i64 0, .int .i64 t1, .int .i64 u, .bool false] 23)
  have D4 := (D3.belowAll hbN).alloc (.cells #[.int .i64 0, .int .i64 0, .int .i64 t1, .int .i64 u, .bool false] 23)
  have E4 := (E3.belowAll hbN).alloc (.cells #[.int .i64 0, .int .i64 0, .int .i64 t1, .int .i64 u, .bool false] 23)
  have hb4 := hbS.alloc hbS.size (.cells #[.int .i64 0, .int .i64 0, .int .i64 t1, .int .i64 u, .bool false] 23)
  have F4 : Bk (w6.alloc (.cells #[.int .i64 0, .int .i64 0, .int .i64 t1, .int .i64 u, .bool false] 23)) w6.heap.size 23 _ := Bk.at_ rfl
  clear hbS hbN a0 a1 a2 a3 a4 A3 B3 D3 E3 hb3
  generalize w6.heap.size = fN at *
  generalize (w6.alloc (.cells #[.int .i64 0, .int .i64 0, .int .i64 t1, .int .i64 u, .bool false] 23)) = w7 at *
  have S1 : Hid (sameB ⟨y.slot, y.gen, t1, 0, false⟩ x = false) := same_no ht1
  have S2 : Hid (sameB ⟨x.slot, x.gen, t1, x.num, true⟩ x = false) := same_no ht1
  have S3 : Hid (sameB ⟨0, 0, t1, u, false⟩ x = false) := same_no ht1
  have S4 : Hid (sameB ⟨y.slot, y.gen, t2, 0, false⟩ ⟨y.slot, y.gen, t1, 0, false⟩ = false) := same_no ht2
  clear ht1 ht2
  (refine wp_region_class (fun w' : World => (Bk w' w.heap.size 23 #[.int .i64 x.slot, .int .i64 x.gen, .int .i64 x.tag, .int .i64 x.num, .bool x.mark] ∧ Bk w' (w.heap.size + 1) 23 #[.int .i64 y.slot, .int .i64 y.gen, .int .i64 y.tag, .int .i64 y.num, .bool y.mark] ∧ Bk w' dN 23 #[.int .i64 y.slot, .int .i64 y.gen, .int .i64 t1, .int .i64 0, .bool false] ∧ Bk w' eN 23 #[.int .i64 x.slot, .int .i64 x.gen, .int .i64 t1, .int .i64 x.num, .bool true] ∧ Bk w' fN 23 #[.int .i64 0, .int .i64 0, .int .i64 t1, .int .i64 u, .bool false]) ∧ Below w.heap.size w w') (by kernel_rfl) (by kernel_rfl) ⟨⟨A4.drew, B4.drew, D4.drew, E4.drew, F4.drew⟩, hb4.drew⟩ ?_; clear A4 B4 D4 E4 F4 hb4 G; (repeat (first | go_big_quiet_skip | (go_big_quiet_want; first | ((first | refine quiet_pick_t _ _ _ _ rfl rfl rfl ?_ | refine quiet_pick_f _ _ _ _ rfl rfl rfl ?_ | refine quiet_load_row _ _ rfl _ (by rfl) _ _ (fun w' hC => hC.1.1) Tryd.underlying23 rfl infoWord ?_ | refine quiet_load_row _ _ rfl _ (by rfl) _ _ (fun w' hC => hC.1.2.1) Tryd.underlying23 rfl infoWord ?_ | refine quiet_load_row _ _ rfl _ (by rfl) _ _ (fun w' hC => hC.1.2.2.1) Tryd.underlying23 rfl infoWord ?_ | refine quiet_load_row _ _ rfl _ (by rfl) _ _ (fun w' hC => hC.1.2.2.2.1) Tryd.underlying23 rfl infoWord ?_ | refine quiet_load_row _ _ rfl _ (by rfl) _ _ (fun w' hC => hC.1.2.2.2.2) Tryd.underlying23 rfl infoWord ?_); go_big_quiet_on; simp only [Act.put, List.setIfInBounds_toArray, List.set_cons_succ, List.set_cons_zero]) | (go_big_quiet_op; go_big_quiet_on) | (apply Exists.intro; refine ⟨fun w' hC => ?_, ?_⟩; (· (first | (obtain ⟨⟨hA, hB, hD, hE, hF⟩, hW⟩ := hC; go_simp; first | done | rfl | exact ⟨rfl, rfl⟩ | (go_at_call 15; (first | with_reducible refine (same_is S1.out _).mono ?_ | with_reducible refine (same_is S2.out _).mono ?_ | with_reducible refine (same_is S3.out _).mono ?_ | with_reducible refine (same_is S4.out _).mono ?_); rintro e w'' ⟨rfl, hb⟩; exact ⟨rfl, ⟨hA.belowAll hb, hB.belowAll hb, hD.belowAll hb, hE.belowAll hb, hF.belowAll hb⟩, hW.trans (hb.mono hW.size)⟩) | (go_at_call 16; (first | with_reducible refine (to_is (x := ⟨y.slot, y.gen, t1, 0, false⟩) (y := y) Q2.out _).mono ?_); rintro e w'' ⟨rfl, hb⟩; exact ⟨rfl, ⟨hA.belowAll hb, hB.belowAll hb, hD.belowAll hb, hE.belowAll hb, hF.belowAll hb⟩, hW.trans (hb.mono hW.size)⟩) | (go_at_call 19; (first | with_reducible refine (ref_is ⟨y.slot, y.gen, t1, 0, false⟩ _).mono ?_ | with_reducible refine (ref_is y _).mono ?_ | with_reducible refine (ref_is ⟨x.slot, x.gen, t1, x.num, true⟩ _).mono ?_ | with_reducible refine (ref_is x _).mono ?_); rintro e w'' ⟨rfl, hb⟩; exact ⟨rfl, ⟨hA.belowAll hb, hB.belowAll hb, hD.belowAll hb, hE.belowAll hb, hF.belowAll hb⟩, hW.trans (hb.mono hW.size)⟩)) | ((obtain ⟨⟨hA, hB, hD, hE, hF⟩, hW⟩ := hC; obtain ⟨a0, a1, a2, a3, a4⟩ := bk5 hA; obtain ⟨b0, b1, b2, b3, b4⟩ := bk5 hB; obtain ⟨d0, d1, d2, d3, d4⟩ := bk5 hD; obtain ⟨e0, e1, e2, e3, e4⟩ := bk5 hE; obtain ⟨f0, f1, f2, f3, f4⟩ := bk5 hF); go_simp; first | done | rfl | exact ⟨rfl, rfl⟩))); go_big_quiet_on; simp only [Act.put, List.setIfInBounds_toArray, List.set_cons_succ, List.set_cons_zero])))); refine wpQuiet_nil ?_; rintro w8 ⟨_, hb8⟩; (try dsimp only); go_wp2_with fail; go_ret; exact ⟨rfl, hb8⟩)
end Go.Proofs.YtfkfleojdheffaaDoor
