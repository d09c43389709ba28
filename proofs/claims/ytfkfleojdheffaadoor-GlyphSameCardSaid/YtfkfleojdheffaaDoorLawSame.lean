/- GlyphSame: Same is an equality that doesn't see generations. -/
import Derived.Test.YtfkfleojdheffaaDoorSmallW
namespace Go.Proofs.YtfkfleojdheffaaDoor
open Go Go.RowKit
set_option linter.unusedSimpArgs false
set_option linter.unusedVariables false
set_option linter.unusedSectionVars false

set_option maxRecDepth 100000 in
set_option maxHeartbeats 12800000 in
theorem glyphSame_all {w : World} {a b : Addr} {tS : TypeId} {pS : Value} {tR : TypeId} {pR : Value} {m : Int} (G : GW w a b tS pS tR pR m) (x y z : PW) (gen : Int) :
    Calls Tryd.prog 5 #[x.v, y.v, z.v, .int .i64 gen] w (RetB true w) := by
  have xn := xor_ne x.num
  have hb0 : Below w.heap.size w (((w.alloc (.cells x.cells 23)).alloc (.cells y.cells 23)).alloc (.cells z.cells 23)) := (((Below.refl _ _).alloc (Nat.le_refl _) _).alloc (by simp) _).alloc (by simp; omega) _
  have A0 : Bk (((w.alloc (.cells x.cells 23)).alloc (.cells y.cells 23)).alloc (.cells z.cells 23)) w.heap.size 23 x.cells := ((Bk.at_ rfl).alloc _).alloc _
  have B0 : Bk (((w.alloc (.cells x.cells 23)).alloc (.cells y.cells 23)).alloc (.cells z.cells 23)) (w.heap.size + 1) 23 y.cells := (Bk.at_ (by simp)).alloc _
  have C0 : Bk (((w.alloc (.cells x.cells 23)).alloc (.cells y.cells 23)).alloc (.cells z.cells 23)) (w.heap.size + 1 + 1) 23 z.cells := Bk.at_ (by simp)
  have G0 := G.more hb0
  unfold PW.v
  go_enter Tryd.func5, Tryd.ntmps5
  go_wp2_with fail
  simp only [PW.cells] at hb0 A0 B0 C0 G0
  generalize (((w.alloc (.cells #[.int .i64 x.slot, .int .i64 x.gen, .int .i64 x.tag, .int .i64 x.num, .bool x.mark] 23)).alloc (.cells #[.int .i64 y.slot, .int .i64 y.gen, .int .i64 y.tag, .int .i64 y.num, .bool y.mark] 23)).alloc (.cells #[.int .i64 z.slot, .int .i64 z.gen, .int .i64 z.tag, .int .i64 z.num, .bool z.mark] 23)) = w0 at *
  refine (awake_any G0).mono ?_
  rintro e w1 ⟨rfl, hb1'⟩
  have A1 := A0.belowAll hb1'
  have B1 := B0.belowAll hb1'
  have C1 := C0.belowAll hb1'
  have hb1 := hb0.trans (hb1'.mono hb0.size)
  clear A0 B0 C0 G0 hb0 hb1'
  have c0 := A1.cell 0; have c1 := A1.cell 1; have c2 := A1.cell 2; have c3 := A1.cell 3; have c4 := A1.cell 4
  simp at c0 c1 c2 c3 c4
  go_upto_region 5 with (fail)
  have A2 := A1.alloc (.cells #[.int .i64 x.slot, .int .i64 gen, .int .i64 x.tag, .int .i64 x.num, .bool x.mark] 23)
  have B2 := B1.alloc (.cells #[.int .i64 x.slot, .int .i64 gen, .int .i64 x.tag, .int .i64 x.num, .bool x.mark] 23)
  have C2 := C1.alloc (.cells #[.int .i64 x.slot, .int .i64 gen, .int .i64 x.tag, .int .i64 x.num, .bool x.mark] 23)
  have hb2 := hb1.alloc hb1.size (.cells #[.int .i64 x.slot, .int .i64 gen, .int .i64 x.tag, .int .i64 x.num, .bool x.mark] 23)
  have D2 : Bk (w1.alloc (.cells #[.int .i64 x.slot, .int .i64 gen, .int .i64 x.tag, .int .i64 x.num, .bool x.mark] 23)) w1.heap.size 23 _ := Bk.at_ rfl
  clear c0 c1 c2 c3 c4 A1 B1 C1 hb1
  generalize hD : w1.heap.size = dN at *
  generalize (w1.alloc (.cells #[.int .i64 x.slot, .int .i64 gen, .int .i64 x.tag, .int .i64 x.num, .bool x.mark] 23)) = w2 at *
  have c0 := A2.cell 0; have c1 := A2.cell 1; have c2 := A2.cell 2; have c3 := A2.cell 3; have c4 := A2.cell 4
  simp at c0 c1 c2 c3 c4
  go_wp2_with fail
  have hx0 : sameB x ⟨x.slot, gen, x.tag, x.num, x.mark⟩ = true := by simp [sameB]
  have hx1 : sameB x ⟨x.slot, x.gen, x.tag, bits .xor .i64 x.num 1, x.mark⟩ = false := by simp [sameB, xn]
  have A3 := A2.alloc (.cells #[.int .i64 x.slot, .int .i64 x.gen, .int .i64 x.tag, .int .i64 (bits .xor .i64 x.num 1), .bool x.mark] 23)
  have B3 := B2.alloc (.cells #[.int .i64 x.slot, .int .i64 x.gen, .int .i64 x.tag, .int .i64 (bits .xor .i64 x.num 1), .bool x.mark] 23)
  have C3 := C2.alloc (.cells #[.int .i64 x.slot, .int .i64 x.gen, .int .i64 x.tag, .int .i64 (bits .xor .i64 x.num 1), .bool x.mark] 23)
  have D3 := D2.alloc (.cells #[.int .i64 x.slot, .int .i64 x.gen, .int .i64 x.tag, .int .i64 (bits .xor .i64 x.num 1), .bool x.mark] 23)
  have hb3 := hb2.alloc hb2.size (.cells #[.int .i64 x.slot, .int .i64 x.gen, .int .i64 x.tag, .int .i64 (bits .xor .i64 x.num 1), .bool x.mark] 23)
  have E3 : Bk (w2.alloc (.cells #[.int .i64 x.slot, .int .i64 x.gen, .int .i64 x.tag, .int .i64 (bits .xor .i64 x.num 1), .bool x.mark] 23)) w2.heap.size 23 _ := Bk.at_ rfl
  clear c0 c1 c2 c3 c4 A2 B2 C2 D2 hb2 xn
  generalize hE : w2.heap.size = eN at *
  generalize bits BinOp.xor IntKind.i64 x.num 1 = xn at *
  generalize (w2.alloc (.cells #[.int .i64 x.slot, .int .i64 x.gen, .int .i64 x.tag, .int .i64 xn, .bool x.mark] 23)) = w3 at *
  have HX := Lib.hid (And.intro (same_self x) (And.intro hx0 hx1))
  clear hx0 hx1 hD hE
  by_cases h1 : sameB x y = true
  · have h2 := h1
    rw [← same_comm] at h2
    by_cases h3 : sameB y z = true
    · have h4 := same_trans h1 h3
      have H1 := Lib.hid (And.intro h1 (And.intro h2 (And.intro h3 h4)))
      clear h1 h2 h3 h4
      (refine wp_region_class (fun w' : World => (Bk w' w.heap.size 23 #[.int .i64 x.slot, .int .i64 x.gen, .int .i64 x.tag, .int .i64 x.num, .bool x.mark] ∧ Bk w' (w.heap.size + 1) 23 #[.int .i64 y.slot, .int .i64 y.gen, .int .i64 y.tag, .int .i64 y.num, .bool y.mark] ∧ Bk w' (w.heap.size + 1 + 1) 23 #[.int .i64 z.slot, .int .i64 z.gen, .int .i64 z.tag, .int .i64 z.num, .bool z.mark] ∧ Bk w' dN 23 #[.int .i64 x.slot, .int .i64 gen, .int .i64 x.tag, .int .i64 x.num, .bool x.mark] ∧ Bk w' eN 23 #[.int .i64 x.slot, .int .i64 x.gen, .int .i64 x.tag, .int .i64 xn, .bool x.mark]) ∧ Below w.heap.size w w') (by kernel_rfl) (by kernel_rfl) ⟨⟨A3.drew, B3.drew, C3.drew, D3.drew, E3.drew⟩, hb3.drew⟩ ?_; (repeat (first | go_big_quiet_skip | (go_big_quiet_want; first | ((first | refine quiet_pick_t _ _ _ _ rfl rfl rfl ?_ | refine quiet_pick_f _ _ _ _ rfl rfl rfl ?_ | refine quiet_load_row _ _ rfl _ (by rfl) _ _ (fun w' hC => hC.1.1) Tryd.underlying23 rfl infoWord ?_ | refine quiet_load_row _ _ rfl _ (by rfl) _ _ (fun w' hC => hC.1.2.1) Tryd.underlying23 rfl infoWord ?_ | refine quiet_load_row _ _ rfl _ (by rfl) _ _ (fun w' hC => hC.1.2.2.1) Tryd.underlying23 rfl infoWord ?_ | refine quiet_load_row _ _ rfl _ (by rfl) _ _ (fun w' hC => hC.1.2.2.2.1) Tryd.underlying23 rfl infoWord ?_ | refine quiet_load_row _ _ rfl _ (by rfl) _ _ (fun w' hC => hC.1.2.2.2.2) Tryd.underlying23 rfl infoWord ?_); go_big_quiet_on; simp only [Act.put, List.setIfInBounds_toArray, List.set_cons_succ, List.set_cons_zero]) | (go_big_quiet_op; go_big_quiet_on) | (apply Exists.intro; refine ⟨fun w' hC => ?_, ?_⟩; (· (obtain ⟨⟨hA, hB, hCC, hD, hE⟩, hW⟩ := hC; go_simp; first | done | rfl | exact ⟨rfl, rfl⟩ | (go_at_call 15; (first | with_reducible refine (same_is HX.out.1 _).mono ?_ | with_reducible refine (same_is HX.out.2.1 _).mono ?_ | with_reducible refine (same_is HX.out.2.2 _).mono ?_ | with_reducible refine (same_is H1.out.1 _).mono ?_ | with_reducible refine (same_is H1.out.2.1 _).mono ?_ | with_reducible refine (same_is H1.out.2.2.1 _).mono ?_ | with_reducible refine (same_is H1.out.2.2.2 _).mono ?_); rintro e w'' ⟨rfl, hb⟩; exact ⟨rfl, ⟨hA.belowAll hb, hB.belowAll hb, hCC.belowAll hb, hD.belowAll hb, hE.belowAll hb⟩, hW.trans (hb.mono hW.size)⟩))); go_big_quiet_on; simp only [Act.put, List.setIfInBounds_toArray, List.set_cons_succ, List.set_cons_zero])))); refine wpQuiet_nil ?_; rintro w4 ⟨_, hb4⟩; (try dsimp only); go_wp2_with fail; go_ret; exact ⟨rfl, hb4⟩)
    · have h3 : sameB y z = false := by simpa using h3
      have H1 := Lib.hid (And.intro h1 (And.intro h2 h3))
      clear h1 h2 h3
      (refine wp_region_class (fun w' : World => (Bk w' w.heap.size 23 #[.int .i64 x.slot, .int .i64 x.gen, .int .i64 x.tag, .int .i64 x.num, .bool x.mark] ∧ Bk w' (w.heap.size + 1) 23 #[.int .i64 y.slot, .int .i64 y.gen, .int .i64 y.tag, .int .i64 y.num, .bool y.mark] ∧ Bk w' (w.heap.size + 1 + 1) 23 #[.int .i64 z.slot, .int .i64 z.gen, .int .i64 z.tag, .int .i64 z.num, .bool z.mark] ∧ Bk w' dN 23 #[.int .i64 x.slot, .int .i64 gen, .int .i64 x.tag, .int .i64 x.num, .bool x.mark] ∧ Bk w' eN 23 #[.int .i64 x.slot, .int .i64 x.gen, .int .i64 x.tag, .int .i64 xn, .bool x.mark]) ∧ Below w.heap.size w w') (by kernel_rfl) (by kernel_rfl) ⟨⟨A3.drew, B3.drew, C3.drew, D3.drew, E3.drew⟩, hb3.drew⟩ ?_; (repeat (first | go_big_quiet_skip | (go_big_quiet_want; first | ((first | refine quiet_pick_t _ _ _ _ rfl rfl rfl ?_ | refine quiet_pick_f _ _ _ _ rfl rfl rfl ?_ | refine quiet_load_row _ _ rfl _ (by rfl) _ _ (fun w' hC => hC.1.1) Tryd.underlying23 rfl infoWord ?_ | refine quiet_load_row _ _ rfl _ (by rfl) _ _ (fun w' hC => hC.1.2.1) Tryd.underlying23 rfl infoWord ?_ | refine quiet_load_row _ _ rfl _ (by rfl) _ _ (fun w' hC => hC.1.2.2.1) Tryd.underlying23 rfl infoWord ?_ | refine quiet_load_row _ _ rfl _ (by rfl) _ _ (fun w' hC => hC.1.2.2.2.1) Tryd.underlying23 rfl infoWord ?_ | refine quiet_load_row _ _ rfl _ (by rfl) _ _ (fun w' hC => hC.1.2.2.2.2) Tryd.underlying23 rfl infoWord ?_); go_big_quiet_on; simp only [Act.put, List.setIfInBounds_toArray, List.set_cons_succ, List.set_cons_zero]) | (go_big_quiet_op; go_big_quiet_on) | (apply Exists.intro; refine ⟨fun w' hC => ?_, ?_⟩; (· (obtain ⟨⟨hA, hB, hCC, hD, hE⟩, hW⟩ := hC; go_simp; first | done | rfl | exact ⟨rfl, rfl⟩ | (go_at_call 15; (first | with_reducible refine (same_is HX.out.1 _).mono ?_ | with_reducible refine (same_is HX.out.2.1 _).mono ?_ | with_reducible refine (same_is HX.out.2.2 _).mono ?_ | with_reducible refine (same_is H1.out.1 _).mono ?_ | with_reducible refine (same_is H1.out.2.1 _).mono ?_ | with_reducible refine (same_is H1.out.2.2 _).mono ?_ | with_reducible refine (fail).mono ?_); rintro e w'' ⟨rfl, hb⟩; exact ⟨rfl, ⟨hA.belowAll hb, hB.belowAll hb, hCC.belowAll hb, hD.belowAll hb, hE.belowAll hb⟩, hW.trans (hb.mono hW.size)⟩))); go_big_quiet_on; simp only [Act.put, List.setIfInBounds_toArray, List.set_cons_succ, List.set_cons_zero])))); refine wpQuiet_nil ?_; rintro w4 ⟨_, hb4⟩; (try dsimp only); go_wp2_with fail; go_ret; exact ⟨rfl, hb4⟩)
  · have h1 : sameB x y = false := by simpa using h1
    have h2 := h1
    rw [← same_comm] at h2
    have H1 := Lib.hid (And.intro h1 h2)
    clear h1 h2
    (refine wp_region_class (fun w' : World => (Bk w' w.heap.size 23 #[.int .i64 x.slot, .int .i64 x.gen, .int .i64 x.tag, .int .i64 x.num, .bool x.mark] ∧ Bk w' (w.heap.size + 1) 23 #[.int .i64 y.slot, .int .i64 y.gen, .int .i64 y.tag, .int .i64 y.num, .bool y.mark] ∧ Bk w' (w.heap.size + 1 + 1) 23 #[.int .i64 z.slot, .int .i64 z.gen, .int .i64 z.tag, .int .i64 z.num, .bool z.mark] ∧ Bk w' dN 23 #[.int .i64 x.slot, .int .i64 gen, .int .i64 x.tag, .int .i64 x.num, .bool x.mark] ∧ Bk w' eN 23 #[.int .i64 x.slot, .int .i64 x.gen, .int .i64 x.tag, .int .i64 xn, .bool x.mark]) ∧ Below w.heap.size w w') (by kernel_rfl) (by kernel_rfl) ⟨⟨A3.drew, B3.drew, C3.drew, D3.drew, E3.drew⟩, hb3.drew⟩ ?_; (repeat (first | go_big_quiet_skip | (go_big_quiet_want; first | ((first | refine quiet_pick_t _ _ _ _ rfl rfl rfl ?_ | refine quiet_pick_f _ _ _ _ rfl rfl rfl ?_ | refine quiet_load_row _ _ rfl _ (by rfl) _ _ (fun w' hC => hC.1.1) Tryd.underlying23 rfl infoWord ?_ | refine quiet_load_row _ _ rfl _ (by rfl) _ _ (fun w' hC => hC.1.2.1) Tryd.underlying23 rfl infoWord ?_ | refine quiet_load_row _ _ rfl _ (by rfl) _ _ (fun w' hC => hC.1.2.2.1) Tryd.underlying23 rfl infoWord ?_ | refine quiet_load_row _ _ rfl _ (by rfl) _ _ (fun w' hC => hC.1.2.2.2.1) Tryd.underlying23 rfl infoWord ?_ | refine quiet_load_row _ _ rfl _ (by rfl) _ _ (fun w' hC => hC.1.2.2.2.2) Tryd.underlying23 rfl infoWord ?_); go_big_quiet_on; simp only [Act.put, List.setIfInBounds_toArray, List.set_cons_succ, List.set_cons_zero]) | (go_big_quiet_op; go_big_quiet_on) | (apply Exists.intro; refine ⟨fun w' hC => ?_, ?_⟩; (· (obtain ⟨⟨hA, hB, hCC, hD, hE⟩, hW⟩ := hC; go_simp; first | done | rfl | exact ⟨rfl, rfl⟩ | (go_at_call 15; (first | with_reducible refine (same_is HX.out.1 _).mono ?_ | with_reducible refine (same_is HX.out.2.1 _).mono ?_ | with_reducible refine (same_is HX.out.2.2 _).mono ?_ | with_reducible refine (same_is H1.out.1 _).mono ?_ | with_reducible refine (same_is H1.out.2 _).mono ?_ | with_reducible refine (fail).mono ?_ | with_reducible refine (fail).mono ?_); rintro e w'' ⟨rfl, hb⟩; exact ⟨rfl, ⟨hA.belowAll hb, hB.belowAll hb, hCC.belowAll hb, hD.belowAll hb, hE.belowAll hb⟩, hW.trans (hb.mono hW.size)⟩))); go_big_quiet_on; simp only [Act.put, List.setIfInBounds_toArray, List.set_cons_succ, List.set_cons_zero])))); refine wpQuiet_nil ?_; rintro w4 ⟨_, hb4⟩; (try dsimp only); go_wp2_with fail; go_ret; exact ⟨rfl, hb4⟩)
end Go.Proofs.YtfkfleojdheffaaDoor
