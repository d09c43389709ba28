/- GlyphBack, walked: a word that has a text is read from it as it was. -/
import Derived.Test.YtfkfleojdheffaaDoorAwakeW
namespace Go.Proofs.YtfkfleojdheffaaDoor
open Go Go.RowKit
set_option linter.unusedSimpArgs false
set_option linter.unusedVariables false
set_option linter.unusedSectionVars false

theorem good_is (x : PW) (b : Bool) (w : World) (h : goodB x = b) : Calls Tryd.prog 14 #[.agg #[.int .i64 x.slot, .int .i64 x.gen, .int .i64 x.tag, .int .i64 x.num, .bool x.mark]] w (RetB b w) := h ▸ good_any x w
theorem word_ne {x y : PW} (h : x ≠ y) : (x.slot == y.slot) = false ∨ ((x.slot == y.slot) = true ∧ (x.gen == y.gen) = false) ∨ ((x.slot == y.slot) = true ∧ (x.gen == y.gen) = true ∧ (x.tag == y.tag) = false) ∨
    ((x.slot == y.slot) = true ∧ (x.gen == y.gen) = true ∧ (x.tag == y.tag) = true ∧ (x.num == y.num) = false) ∨ ((x.slot == y.slot) = true ∧ (x.gen == y.gen) = true ∧ (x.tag == y.tag) = true ∧ (x.num == y.num) = true ∧ (x.mark == y.mark) = false) := by
  obtain ⟨a, b, c, d, m⟩ := x
  obtain ⟨a', b', c', d', m'⟩ := y
  simp only [ne_eq, PW.mk.injEq] at h
  simp only [beq_eq_false_iff_ne, beq_iff_eq, ne_eq]
  by_cases h1 : a = a'
  · by_cases h2 : b = b'
    · by_cases h3 : c = c'
      · by_cases h4 : d = d'
        · exact Or.inr (Or.inr (Or.inr (Or.inr ⟨h1, h2, h3, h4, fun h5 => h ⟨h1, h2, h3, h4, h5⟩⟩)))
        · exact Or.inr (Or.inr (Or.inr (Or.inl ⟨h1, h2, h3, h4⟩)))
      · exact Or.inr (Or.inr (Or.inl ⟨h1, h2, h3⟩))
    · exact Or.inr (Or.inl ⟨h1, h2⟩)
  · exact Or.inl h1

theorem txt_size (x : PW) (hx : GoodP x) : (bs (txt x)).size ≤ 1024 := by
  obtain ⟨_, s0, s1, g0, g1, t0, t1, n0, n1⟩ := hx
  have h0 := Lib.itoa_length_le x.slot (by omega) (by omega)
  have h1 := Lib.itoa_length_le x.gen (by omega) (by omega)
  have h2 := Lib.itoa_length_le x.tag (by omega) (by omega)
  have h3 := Lib.itoa_length_le x.num (by omega) (by omega)
  have : (bs (txt x)).size = (txt x).length := by simp [bs, ByteArray.size]
  rw [this, txt_eq]
  simp
  omega
theorem txt_ne {x y : PW} (hx : GoodP x) (hy : GoodP y) (h : x ≠ y) : ((bs (txt x)).toList == (bs (txt y)).toList) = false := by
  rw [beq_eq_false_iff_ne, Go.ByteArray.toList_eq, Go.ByteArray.toList_eq]
  intro he
  exact h (txt_inj hx hy (by simpa [bs] using he))

set_option maxRecDepth 100000 in
set_option maxHeartbeats 6400000 in
theorem glyphBack_any {w : World} {a b : Addr} {tS : TypeId} {pS : Value} {tR : TypeId} {pR : Value} {m : Int} (G : GW w a b tS pS tR pR m) (x y : PW) (s : ByteArray) (hs : s.size ≤ 1024) :
    Calls Tryd.prog 4 #[x.v, y.v, .string s] w (RetB true w) := by
  have hb0 : Below w.heap.size w ((w.alloc (.cells x.cells 23)).alloc (.cells y.cells 23)) := ((Below.refl _ _).alloc (Nat.le_refl _) _).alloc (by simp) _
  have A0 : Bk ((w.alloc (.cells x.cells 23)).alloc (.cells y.cells 23)) w.heap.size 23 x.cells := (Bk.at_ rfl).alloc _
  have B0 : Bk ((w.alloc (.cells x.cells 23)).alloc (.cells y.cells 23)) (w.heap.size + 1) 23 y.cells := Bk.at_ (by simp)
  have hC0 : ∀ w', Bk w' w.heap.size 23 x.cells → Bk w' (w.heap.size + 1) 23 y.cells → Below w.heap.size w w' → (fun w' : World => ((w'.cell? ⟨w.heap.size, 0, none⟩ = some (.int .i64 x.slot) ∧ w'.cell? ⟨w.heap.size, 1, none⟩ = some (.int .i64 x.gen) ∧ w'.cell? ⟨w.heap.size, 2, none⟩ = some (.int .i64 x.tag) ∧ w'.cell? ⟨w.heap.size, 3, none⟩ = some (.int .i64 x.num) ∧ w'.cell? ⟨w.heap.size, 4, none⟩ = some (.bool x.mark)) ∧ (w'.cell? ⟨w.heap.size + 1, 0, none⟩ = some (.int .i64 y.slot) ∧ w'.cell? ⟨w.heap.size + 1, 1, none⟩ = some (.int .i64 y.gen) ∧ w'.cell? ⟨w.heap.size + 1, 2, none⟩ = some (.int .i64 y.tag) ∧ w'.cell? ⟨w.heap.size + 1, 3, none⟩ = some (.int .i64 y.num) ∧ w'.cell? ⟨w.heap.size + 1, 4, none⟩ = some (.bool y.mark))) ∧ Bk w' w.heap.size 23 x.cells ∧ Below w.heap.size w w') w' := fun w' ha hb hw =>
    ⟨⟨⟨ha.cell 0, ha.cell 1, ha.cell 2, ha.cell 3, ha.cell 4⟩, hb.cell 0, hb.cell 1, hb.cell 2, hb.cell 3, hb.cell 4⟩, ha, hw⟩
  have dl : decide ((1024 : Int) < (s.size : Int)) = false := by simp; omega
  have G0 := G.more hb0
  unfold PW.v
  go_enter Tryd.func4, Tryd.ntmps4
  go_wp2_with fail
  simp only [PW.cells] at hb0 A0 B0 G0
  generalize ((w.alloc (.cells #[.int .i64 x.slot, .int .i64 x.gen, .int .i64 x.tag, .int .i64 x.num, .bool x.mark] 23)).alloc (.cells #[.int .i64 y.slot, .int .i64 y.gen, .int .i64 y.tag, .int .i64 y.num, .bool y.mark] 23)) = w0 at *
  refine (awake_any G0).mono ?_
  rintro e w1 ⟨rfl, hb1'⟩
  have A1 := A0.belowAll hb1'
  have B1 := B0.belowAll hb1'
  have hb1 := hb0.trans (hb1'.mono hb0.size)
  have G1 := G.more hb1
  clear A0 B0 G0 hb0 hb1'
  have c0 := A1.cell 0; have c1 := A1.cell 1; have c2 := A1.cell 2; have c3 := A1.cell 3; have c4 := A1.cell 4
  simp at c0 c1 c2 c3 c4
  go_wp2_with fail
  by_cases hgx : GoodP x
  · have HG := Lib.hid ((goodB_true x).2 hgx)
    refine (pack_yes G1 x hgx).mono ?_
    have gx := Lib.hid hgx; clear hgx
    rintro e w1 ⟨rfl, hbp⟩
    clear c0 c1 c2 c3 c4 G1
    (have A1 := A1.belowAll hbp; have B1 := B1.belowAll hbp; have hb1 := hb1.trans (hbp.mono hb1.size); have G1 := G.more hb1; clear hbp; have c0 := B1.cell 0; have c1 := B1.cell 1; have c2 := B1.cell 2; have c3 := B1.cell 3; have c4 := B1.cell 4; simp at c0 c1 c2 c3 c4)
    go_wp2_with fail
    by_cases hgy : GoodP y
    · refine (pack_yes G1 y hgy).mono ?_
      have gy := Lib.hid hgy; clear hgy
      rintro e w1 ⟨rfl, hbp⟩
      clear c0 c1 c2 c3 c4 G1
      (have A1 := A1.belowAll hbp; have B1 := B1.belowAll hbp; have hb1 := hb1.trans (hbp.mono hb1.size); have G1 := G.more hb1; clear hbp; have c0 := B1.cell 0; have c1 := B1.cell 1; have c2 := B1.cell 2; have c3 := B1.cell 3; have c4 := B1.cell 4; simp at c0 c1 c2 c3 c4)
      by_cases hxy : x = y
      · have hq : ((bs (txt x)).toList == (bs (txt y)).toList) = true := by rw [hxy]; simp
        have d0 : (x.slot == y.slot) = true := by rw [hxy]; simp
        have d1 : (x.gen == y.gen) = true := by rw [hxy]; simp
        have d2 : (x.tag == y.tag) = true := by rw [hxy]; simp
        have d3 : (x.num == y.num) = true := by rw [hxy]; simp
        have d4 : (x.mark == y.mark) = true := by rw [hxy]; simp
        clear hxy
        go_wp2_with fail
        (clear G1 c0 c1 c2 c3 c4; refine wp_region_class (fun w' : World => ((w'.cell? ⟨w.heap.size, 0, none⟩ = some (.int .i64 x.slot) ∧ w'.cell? ⟨w.heap.size, 1, none⟩ = some (.int .i64 x.gen) ∧ w'.cell? ⟨w.heap.size, 2, none⟩ = some (.int .i64 x.tag) ∧ w'.cell? ⟨w.heap.size, 3, none⟩ = some (.int .i64 x.num) ∧ w'.cell? ⟨w.heap.size, 4, none⟩ = some (.bool x.mark)) ∧ (w'.cell? ⟨w.heap.size + 1, 0, none⟩ = some (.int .i64 y.slot) ∧ w'.cell? ⟨w.heap.size + 1, 1, none⟩ = some (.int .i64 y.gen) ∧ w'.cell? ⟨w.heap.size + 1, 2, none⟩ = some (.int .i64 y.tag) ∧ w'.cell? ⟨w.heap.size + 1, 3, none⟩ = some (.int .i64 y.num) ∧ w'.cell? ⟨w.heap.size + 1, 4, none⟩ = some (.bool y.mark))) ∧ Bk w' w.heap.size 23 x.cells ∧ Below w.heap.size w w') (by kernel_rfl) (by kernel_rfl) (hC0 _ A1.drew B1.drew hb1.drew) ?_; (repeat (first | go_big_quiet_skip | (go_big_quiet_want; first | (go_big_quiet_op; go_big_quiet_on) | (apply Exists.intro; refine ⟨fun w' hC => ?_, ?_⟩; (· (obtain ⟨⟨⟨a0, a1, a2, a3, a4⟩, b0, b1, b2, b3, b4⟩, hA, hB⟩ := hC; go_simp; first | done | rfl | exact ⟨rfl, rfl⟩ | (go_at_call 14; refine (good_is x true _ HG.out).mono ?_; rintro e w'' ⟨rfl, hb⟩; exact ⟨rfl, ⟨⟨cell_more a0 hb, cell_more a1 hb, cell_more a2 hb, cell_more a3 hb, cell_more a4 hb⟩, cell_more b0 hb, cell_more b1 hb, cell_more b2 hb, cell_more b3 hb, cell_more b4 hb⟩, hA.belowAll hb, hB.trans (hb.mono hB.size)⟩))); go_big_quiet_on; simp only [Act.put, List.setIfInBounds_toArray, List.set_cons_succ, List.set_cons_zero])))); refine wpQuiet_nil ?_; intro w2 hC; obtain ⟨⟨⟨a0, a1, a2, a3, a4⟩, _⟩, A2, hb2⟩ := hC; (try dsimp only))
        (go_wp2_with fail; have G2 := G.more hb2; refine (unpack_is G2 x gx.out _ (txt_size x gx.out) rfl).mono ?_; rintro e w3 ⟨rfl, hb3⟩; simp only [PW.v]; have A3 := A2.belowAll hb3; have hb4 := hb2.trans (hb3.mono hb2.size); have A4 := A3.alloc (.cells #[.int .i64 x.slot, .int .i64 x.gen, .int .i64 x.tag, .int .i64 x.num, .bool x.mark] 23); have hb5' := hb4.alloc hb4.size (.cells #[.int .i64 x.slot, .int .i64 x.gen, .int .i64 x.tag, .int .i64 x.num, .bool x.mark] 23); clear a0 a1 a2 a3 a4 A2 A3 hb3 hb4 G2; have a0 := A4.cell 0; have a1 := A4.cell 1; have a2 := A4.cell 2; have a3 := A4.cell 3; have a4 := A4.cell 4; simp [PW.cells] at a0 a1 a2 a3 a4)
        (have G3 := G.more hb5'; go_wp2_with fail; clear a0 a1 a2 a3 a4; refine (unpack_any G3 s hs).mono ?_; rintro e w5 hun; rcases hun with ⟨z, hz, hzs, rfl, hb5⟩ | ⟨hno, N, rfl, hN, hb5⟩; (· (have hb6 := hb5'.trans (hb5.mono hb5'.size); have HZ := Lib.hid (And.intro hz hzs); clear hz hzs hb5 G3; obtain ⟨z0, z1, z2, z3, z4⟩ := z; simp only [PW.v] at *; have hb7 := hb6.alloc hb6.size (.cells #[.int .i64 z0, .int .i64 z1, .int .i64 z2, .int .i64 z3, .bool z4] 23); have G7 := G.more hb7; go_wp2_with fail; refine (pack_yes G7 ⟨z0, z1, z2, z3, z4⟩ HZ.out.1).mono ?_; rintro e w8 ⟨rfl, hb8⟩; rw [HZ.out.2]; go_wp2_with fail; go_ret; exact ⟨rfl, hb7.trans (hb8.mono hb7.size)⟩)); (· (have hb6 := hb5'.trans (hb5.mono hb5'.size); clear hb5 G3 hno hN; simp only [PW.v, PW.zero] at *; have hb7 := hb6.alloc hb6.size (.cells #[.int .i64 0, .int .i64 0, .int .i64 0, .int .i64 0, .bool false] 23); go_wp2_with fail; go_ret; exact ⟨rfl, hb7⟩)))
      · have hq := txt_ne gx.out gy.out hxy
        have hd := word_ne hxy
        clear hxy
        rcases hd with d0 | ⟨d0, d1⟩ | ⟨d0, d1, d2⟩ | ⟨d0, d1, d2, d3⟩ | ⟨d0, d1, d2, d3, d4⟩
        all_goals
          go_wp2_with fail
          (clear G1 c0 c1 c2 c3 c4; refine wp_region_class (fun w' : World => ((w'.cell? ⟨w.heap.size, 0, none⟩ = some (.int .i64 x.slot) ∧ w'.cell? ⟨w.heap.size, 1, none⟩ = some (.int .i64 x.gen) ∧ w'.cell? ⟨w.heap.size, 2, none⟩ = some (.int .i64 x.tag) ∧ w'.cell? ⟨w.heap.size, 3, none⟩ = some (.int .i64 x.num) ∧ w'.cell? ⟨w.heap.size, 4, none⟩ = some (.bool x.mark)) ∧ (w'.cell? ⟨w.heap.size + 1, 0, none⟩ = some (.int .i64 y.slot) ∧ w'.cell? ⟨w.heap.size + 1, 1, none⟩ = some (.int .i64 y.gen) ∧ w'.cell? ⟨w.heap.size + 1, 2, none⟩ = some (.int .i64 y.tag) ∧ w'.cell? ⟨w.heap.size + 1, 3, none⟩ = some (.int .i64 y.num) ∧ w'.cell? ⟨w.heap.size + 1, 4, none⟩ = some (.bool y.mark))) ∧ Bk w' w.heap.size 23 x.cells ∧ Below w.heap.size w w') (by kernel_rfl) (by kernel_rfl) (hC0 _ A1.drew B1.drew hb1.drew) ?_; (repeat (first | go_big_quiet_skip | (go_big_quiet_want; first | (go_big_quiet_op; go_big_quiet_on) | (apply Exists.intro; refine ⟨fun w' hC => ?_, ?_⟩; (· (obtain ⟨⟨⟨a0, a1, a2, a3, a4⟩, b0, b1, b2, b3, b4⟩, hA, hB⟩ := hC; go_simp; first | done | rfl | exact ⟨rfl, rfl⟩ | (go_at_call 14; refine (good_is x true _ HG.out).mono ?_; rintro e w'' ⟨rfl, hb⟩; exact ⟨rfl, ⟨⟨cell_more a0 hb, cell_more a1 hb, cell_more a2 hb, cell_more a3 hb, cell_more a4 hb⟩, cell_more b0 hb, cell_more b1 hb, cell_more b2 hb, cell_more b3 hb, cell_more b4 hb⟩, hA.belowAll hb, hB.trans (hb.mono hB.size)⟩))); go_big_quiet_on; simp only [Act.put, List.setIfInBounds_toArray, List.set_cons_succ, List.set_cons_zero])))); refine wpQuiet_nil ?_; intro w2 hC; obtain ⟨⟨⟨a0, a1, a2, a3, a4⟩, _⟩, A2, hb2⟩ := hC; (try dsimp only))
          (go_wp2_with fail; have G2 := G.more hb2; refine (unpack_is G2 x gx.out _ (txt_size x gx.out) rfl).mono ?_; rintro e w3 ⟨rfl, hb3⟩; simp only [PW.v]; have A3 := A2.belowAll hb3; have hb4 := hb2.trans (hb3.mono hb2.size); have A4 := A3.alloc (.cells #[.int .i64 x.slot, .int .i64 x.gen, .int .i64 x.tag, .int .i64 x.num, .bool x.mark] 23); have hb5' := hb4.alloc hb4.size (.cells #[.int .i64 x.slot, .int .i64 x.gen, .int .i64 x.tag, .int .i64 x.num, .bool x.mark] 23); clear a0 a1 a2 a3 a4 A2 A3 hb3 hb4 G2; have a0 := A4.cell 0; have a1 := A4.cell 1; have a2 := A4.cell 2; have a3 := A4.cell 3; have a4 := A4.cell 4; simp [PW.cells] at a0 a1 a2 a3 a4)
          (have G3 := G.more hb5'; go_wp2_with fail; clear a0 a1 a2 a3 a4; refine (unpack_any G3 s hs).mono ?_; rintro e w5 hun; rcases hun with ⟨z, hz, hzs, rfl, hb5⟩ | ⟨hno, N, rfl, hN, hb5⟩; (· (have hb6 := hb5'.trans (hb5.mono hb5'.size); have HZ := Lib.hid (And.intro hz hzs); clear hz hzs hb5 G3; obtain ⟨z0, z1, z2, z3, z4⟩ := z; simp only [PW.v] at *; have hb7 := hb6.alloc hb6.size (.cells #[.int .i64 z0, .int .i64 z1, .int .i64 z2, .int .i64 z3, .bool z4] 23); have G7 := G.more hb7; go_wp2_with fail; refine (pack_yes G7 ⟨z0, z1, z2, z3, z4⟩ HZ.out.1).mono ?_; rintro e w8 ⟨rfl, hb8⟩; rw [HZ.out.2]; go_wp2_with fail; go_ret; exact ⟨rfl, hb7.trans (hb8.mono hb7.size)⟩)); (· (have hb6 := hb5'.trans (hb5.mono hb5'.size); clear hb5 G3 hno hN; simp only [PW.v, PW.zero] at *; have hb7 := hb6.alloc hb6.size (.cells #[.int .i64 0, .int .i64 0, .int .i64 0, .int .i64 0, .bool false] 23); go_wp2_with fail; go_ret; exact ⟨rfl, hb7⟩)))
    · refine (pack_no G1 y hgy).mono ?_
      clear hgy
      rintro e w1 ⟨N, rfl, _, hbp⟩
      clear c0 c1 c2 c3 c4 G1
      (have A1 := A1.belowAll hbp; have B1 := B1.belowAll hbp; have hb1 := hb1.trans (hbp.mono hb1.size); have G1 := G.more hb1; clear hbp; have c0 := B1.cell 0; have c1 := B1.cell 1; have c2 := B1.cell 2; have c3 := B1.cell 3; have c4 := B1.cell 4; simp at c0 c1 c2 c3 c4)
      go_wp2_with fail
      (clear G1 c0 c1 c2 c3 c4; refine wp_region_class (fun w' : World => ((w'.cell? ⟨w.heap.size, 0, none⟩ = some (.int .i64 x.slot) ∧ w'.cell? ⟨w.heap.size, 1, none⟩ = some (.int .i64 x.gen) ∧ w'.cell? ⟨w.heap.size, 2, none⟩ = some (.int .i64 x.tag) ∧ w'.cell? ⟨w.heap.size, 3, none⟩ = some (.int .i64 x.num) ∧ w'.cell? ⟨w.heap.size, 4, none⟩ = some (.bool x.mark)) ∧ (w'.cell? ⟨w.heap.size + 1, 0, none⟩ = some (.int .i64 y.slot) ∧ w'.cell? ⟨w.heap.size + 1, 1, none⟩ = some (.int .i64 y.gen) ∧ w'.cell? ⟨w.heap.size + 1, 2, none⟩ = some (.int .i64 y.tag) ∧ w'.cell? ⟨w.heap.size + 1, 3, none⟩ = some (.int .i64 y.num) ∧ w'.cell? ⟨w.heap.size + 1, 4, none⟩ = some (.bool y.mark))) ∧ Bk w' w.heap.size 23 x.cells ∧ Below w.heap.size w w') (by kernel_rfl) (by kernel_rfl) (hC0 _ A1.drew B1.drew hb1.drew) ?_; (repeat (first | go_big_quiet_skip | (go_big_quiet_want; first | (go_big_quiet_op; go_big_quiet_on) | (apply Exists.intro; refine ⟨fun w' hC => ?_, ?_⟩; (· (obtain ⟨⟨⟨a0, a1, a2, a3, a4⟩, b0, b1, b2, b3, b4⟩, hA, hB⟩ := hC; go_simp; first | done | rfl | exact ⟨rfl, rfl⟩ | (go_at_call 14; refine (good_is x true _ HG.out).mono ?_; rintro e w'' ⟨rfl, hb⟩; exact ⟨rfl, ⟨⟨cell_more a0 hb, cell_more a1 hb, cell_more a2 hb, cell_more a3 hb, cell_more a4 hb⟩, cell_more b0 hb, cell_more b1 hb, cell_more b2 hb, cell_more b3 hb, cell_more b4 hb⟩, hA.belowAll hb, hB.trans (hb.mono hB.size)⟩))); go_big_quiet_on; simp only [Act.put, List.setIfInBounds_toArray, List.set_cons_succ, List.set_cons_zero])))); refine wpQuiet_nil ?_; intro w2 hC; obtain ⟨⟨⟨a0, a1, a2, a3, a4⟩, _⟩, A2, hb2⟩ := hC; (try dsimp only))
      (go_wp2_with fail; have G2 := G.more hb2; refine (unpack_is G2 x gx.out _ (txt_size x gx.out) rfl).mono ?_; rintro e w3 ⟨rfl, hb3⟩; simp only [PW.v]; have A3 := A2.belowAll hb3; have hb4 := hb2.trans (hb3.mono hb2.size); have A4 := A3.alloc (.cells #[.int .i64 x.slot, .int .i64 x.gen, .int .i64 x.tag, .int .i64 x.num, .bool x.mark] 23); have hb5' := hb4.alloc hb4.size (.cells #[.int .i64 x.slot, .int .i64 x.gen, .int .i64 x.tag, .int .i64 x.num, .bool x.mark] 23); clear a0 a1 a2 a3 a4 A2 A3 hb3 hb4 G2; have a0 := A4.cell 0; have a1 := A4.cell 1; have a2 := A4.cell 2; have a3 := A4.cell 3; have a4 := A4.cell 4; simp [PW.cells] at a0 a1 a2 a3 a4)
      (have G3 := G.more hb5'; go_wp2_with fail; clear a0 a1 a2 a3 a4; refine (unpack_any G3 s hs).mono ?_; rintro e w5 hun; rcases hun with ⟨z, hz, hzs, rfl, hb5⟩ | ⟨hno, N, rfl, hN, hb5⟩; (· (have hb6 := hb5'.trans (hb5.mono hb5'.size); have HZ := Lib.hid (And.intro hz hzs); clear hz hzs hb5 G3; obtain ⟨z0, z1, z2, z3, z4⟩ := z; simp only [PW.v] at *; have hb7 := hb6.alloc hb6.size (.cells #[.int .i64 z0, .int .i64 z1, .int .i64 z2, .int .i64 z3, .bool z4] 23); have G7 := G.more hb7; go_wp2_with fail; refine (pack_yes G7 ⟨z0, z1, z2, z3, z4⟩ HZ.out.1).mono ?_; rintro e w8 ⟨rfl, hb8⟩; rw [HZ.out.2]; go_wp2_with fail; go_ret; exact ⟨rfl, hb7.trans (hb8.mono hb7.size)⟩)); (· (have hb6 := hb5'.trans (hb5.mono hb5'.size); clear hb5 G3 hno hN; simp only [PW.v, PW.zero] at *; have hb7 := hb6.alloc hb6.size (.cells #[.int .i64 0, .int .i64 0, .int .i64 0, .int .i64 0, .bool false] 23); go_wp2_with fail; go_ret; exact ⟨rfl, hb7⟩)))
  · have HG := Lib.hid ((goodB_false x).2 hgx)
    refine (pack_no G1 x hgx).mono ?_
    clear hgx
    rintro e w1 ⟨N, rfl, _, hbp⟩
    clear c0 c1 c2 c3 c4 G1
    (have A1 := A1.belowAll hbp; have B1 := B1.belowAll hbp; have hb1 := hb1.trans (hbp.mono hb1.size); have G1 := G.more hb1; clear hbp; have c0 := B1.cell 0; have c1 := B1.cell 1; have c2 := B1.cell 2; have c3 := B1.cell 3; have c4 := B1.cell 4; simp at c0 c1 c2 c3 c4)
    go_wp2_with fail
    by_cases hgy : GoodP y
    · refine (pack_yes G1 y hgy).mono ?_
      have gy := Lib.hid hgy; clear hgy
      rintro e w1 ⟨rfl, hbp⟩
      clear c0 c1 c2 c3 c4 G1
      (have A1 := A1.belowAll hbp; have B1 := B1.belowAll hbp; have hb1 := hb1.trans (hbp.mono hb1.size); have G1 := G.more hb1; clear hbp; have c0 := B1.cell 0; have c1 := B1.cell 1; have c2 := B1.cell 2; have c3 := B1.cell 3; have c4 := B1.cell 4; simp at c0 c1 c2 c3 c4)
      go_wp2_with fail
      (clear G1 c0 c1 c2 c3 c4; refine wp_region_class (fun w' : World => ((w'.cell? ⟨w.heap.size, 0, none⟩ = some (.int .i64 x.slot) ∧ w'.cell? ⟨w.heap.size, 1, none⟩ = some (.int .i64 x.gen) ∧ w'.cell? ⟨w.heap.size, 2, none⟩ = some (.int .i64 x.tag) ∧ w'.cell? ⟨w.heap.size, 3, none⟩ = some (.int .i64 x.num) ∧ w'.cell? ⟨w.heap.size, 4, none⟩ = some (.bool x.mark)) ∧ (w'.cell? ⟨w.heap.size + 1, 0, none⟩ = some (.int .i64 y.slot) ∧ w'.cell? ⟨w.heap.size + 1, 1, none⟩ = some (.int .i64 y.gen) ∧ w'.cell? ⟨w.heap.size + 1, 2, none⟩ = some (.int .i64 y.tag) ∧ w'.cell? ⟨w.heap.size + 1, 3, none⟩ = some (.int .i64 y.num) ∧ w'.cell? ⟨w.heap.size + 1, 4, none⟩ = some (.bool y.mark))) ∧ Bk w' w.heap.size 23 x.cells ∧ Below w.heap.size w w') (by kernel_rfl) (by kernel_rfl) (hC0 _ A1.drew B1.drew hb1.drew) ?_; (repeat (first | go_big_quiet_skip | (go_big_quiet_want; first | (go_big_quiet_op; go_big_quiet_on) | (apply Exists.intro; refine ⟨fun w' hC => ?_, ?_⟩; (· (obtain ⟨⟨⟨a0, a1, a2, a3, a4⟩, b0, b1, b2, b3, b4⟩, hA, hB⟩ := hC; go_simp; first | done | rfl | exact ⟨rfl, rfl⟩ | (go_at_call 14; refine (good_is x false _ HG.out).mono ?_; rintro e w'' ⟨rfl, hb⟩; exact ⟨rfl, ⟨⟨cell_more a0 hb, cell_more a1 hb, cell_more a2 hb, cell_more a3 hb, cell_more a4 hb⟩, cell_more b0 hb, cell_more b1 hb, cell_more b2 hb, cell_more b3 hb, cell_more b4 hb⟩, hA.belowAll hb, hB.trans (hb.mono hB.size)⟩))); go_big_quiet_on; simp only [Act.put, List.setIfInBounds_toArray, List.set_cons_succ, List.set_cons_zero])))); refine wpQuiet_nil ?_; intro w2 hC; obtain ⟨⟨⟨a0, a1, a2, a3, a4⟩, _⟩, A2, hb2⟩ := hC; (try dsimp only))
      (have G3 := G.more hb2; go_wp2_with fail; clear a0 a1 a2 a3 a4; refine (unpack_any G3 s hs).mono ?_; rintro e w5 hun; rcases hun with ⟨z, hz, hzs, rfl, hb5⟩ | ⟨hno, N, rfl, hN, hb5⟩; (· (have hb6 := hb2.trans (hb5.mono hb2.size); have HZ := Lib.hid (And.intro hz hzs); clear hz hzs hb5 G3; obtain ⟨z0, z1, z2, z3, z4⟩ := z; simp only [PW.v] at *; have hb7 := hb6.alloc hb6.size (.cells #[.int .i64 z0, .int .i64 z1, .int .i64 z2, .int .i64 z3, .bool z4] 23); have G7 := G.more hb7; go_wp2_with fail; refine (pack_yes G7 ⟨z0, z1, z2, z3, z4⟩ HZ.out.1).mono ?_; rintro e w8 ⟨rfl, hb8⟩; rw [HZ.out.2]; go_wp2_with fail; go_ret; exact ⟨rfl, hb7.trans (hb8.mono hb7.size)⟩)); (· (have hb6 := hb2.trans (hb5.mono hb2.size); clear hb5 G3 hno hN; simp only [PW.v, PW.zero] at *; have hb7 := hb6.alloc hb6.size (.cells #[.int .i64 0, .int .i64 0, .int .i64 0, .int .i64 0, .bool false] 23); go_wp2_with fail; go_ret; exact ⟨rfl, hb7⟩)))
    · refine (pack_no G1 y hgy).mono ?_
      clear hgy
      rintro e w1 ⟨N, rfl, _, hbp⟩
      clear c0 c1 c2 c3 c4 G1
      (have A1 := A1.belowAll hbp; have B1 := B1.belowAll hbp; have hb1 := hb1.trans (hbp.mono hb1.size); have G1 := G.more hb1; clear hbp; have c0 := B1.cell 0; have c1 := B1.cell 1; have c2 := B1.cell 2; have c3 := B1.cell 3; have c4 := B1.cell 4; simp at c0 c1 c2 c3 c4)
      go_wp2_with fail
      (clear G1 c0 c1 c2 c3 c4; refine wp_region_class (fun w' : World => ((w'.cell? ⟨w.heap.size, 0, none⟩ = some (.int .i64 x.slot) ∧ w'.cell? ⟨w.heap.size, 1, none⟩ = some (.int .i64 x.gen) ∧ w'.cell? ⟨w.heap.size, 2, none⟩ = some (.int .i64 x.tag) ∧ w'.cell? ⟨w.heap.size, 3, none⟩ = some (.int .i64 x.num) ∧ w'.cell? ⟨w.heap.size, 4, none⟩ = some (.bool x.mark)) ∧ (w'.cell? ⟨w.heap.size + 1, 0, none⟩ = some (.int .i64 y.slot) ∧ w'.cell? ⟨w.heap.size + 1, 1, none⟩ = some (.int .i64 y.gen) ∧ w'.cell? ⟨w.heap.size + 1, 2, none⟩ = some (.int .i64 y.tag) ∧ w'.cell? ⟨w.heap.size + 1, 3, none⟩ = some (.int .i64 y.num) ∧ w'.cell? ⟨w.heap.size + 1, 4, none⟩ = some (.bool y.mark))) ∧ Bk w' w.heap.size 23 x.cells ∧ Below w.heap.size w w') (by kernel_rfl) (by kernel_rfl) (hC0 _ A1.drew B1.drew hb1.drew) ?_; (repeat (first | go_big_quiet_skip | (go_big_quiet_want; first | (go_big_quiet_op; go_big_quiet_on) | (apply Exists.intro; refine ⟨fun w' hC => ?_, ?_⟩; (· (obtain ⟨⟨⟨a0, a1, a2, a3, a4⟩, b0, b1, b2, b3, b4⟩, hA, hB⟩ := hC; go_simp; first | done | rfl | exact ⟨rfl, rfl⟩ | (go_at_call 14; refine (good_is x false _ HG.out).mono ?_; rintro e w'' ⟨rfl, hb⟩; exact ⟨rfl, ⟨⟨cell_more a0 hb, cell_more a1 hb, cell_more a2 hb, cell_more a3 hb, cell_more a4 hb⟩, cell_more b0 hb, cell_more b1 hb, cell_more b2 hb, cell_more b3 hb, cell_more b4 hb⟩, hA.belowAll hb, hB.trans (hb.mono hB.size)⟩))); go_big_quiet_on; simp only [Act.put, List.setIfInBounds_toArray, List.set_cons_succ, List.set_cons_zero])))); refine wpQuiet_nil ?_; intro w2 hC; obtain ⟨⟨⟨a0, a1, a2, a3, a4⟩, _⟩, A2, hb2⟩ := hC; (try dsimp only))
      (have G3 := G.more hb2; go_wp2_with fail; clear a0 a1 a2 a3 a4; refine (unpack_any G3 s hs).mono ?_; rintro e w5 hun; rcases hun with ⟨z, hz, hzs, rfl, hb5⟩ | ⟨hno, N, rfl, hN, hb5⟩; (· (have hb6 := hb2.trans (hb5.mono hb2.size); have HZ := Lib.hid (And.intro hz hzs); clear hz hzs hb5 G3; obtain ⟨z0, z1, z2, z3, z4⟩ := z; simp only [PW.v] at *; have hb7 := hb6.alloc hb6.size (.cells #[.int .i64 z0, .int .i64 z1, .int .i64 z2, .int .i64 z3, .bool z4] 23); have G7 := G.more hb7; go_wp2_with fail; refine (pack_yes G7 ⟨z0, z1, z2, z3, z4⟩ HZ.out.1).mono ?_; rintro e w8 ⟨rfl, hb8⟩; rw [HZ.out.2]; go_wp2_with fail; go_ret; exact ⟨rfl, hb7.trans (hb8.mono hb7.size)⟩)); (· (have hb6 := hb2.trans (hb5.mono hb2.size); clear hb5 G3 hno hN; simp only [PW.v, PW.zero] at *; have hb7 := hb6.alloc hb6.size (.cells #[.int .i64 0, .int .i64 0, .int .i64 0, .int .i64 0, .bool false] 23); go_wp2_with fail; go_ret; exact ⟨rfl, hb7⟩)))
end Go.Proofs.YtfkfleojdheffaaDoor
