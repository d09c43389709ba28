/- GlyphRises: each change raises the tag by one. -/
import Derived.Test.YtfkfleojdheffaaDoorWRow
import Derived.Test.YtfkfleojdheffaaDoorStore
import Derived.Deep.CutBlock
namespace Go.Proofs.YtfkfleojdheffaaDoor
open Go Go.RowKit
set_option linter.unusedSimpArgs false
set_option linter.unusedVariables false
set_option linter.unusedSectionVars false

/-- The rows of words behind n changes. -/
structure RR (w : World) (x : PW) (v : Value) (n : Nat) (L : List PW) (wr : World) : Prop where
  len : L.length = n + 1
  tags : ∀ k (h : k < L.length), (L[k]).tag = x.tag + k
  own : Own wr 23 5 v L.length (wcells L)
  box : Bk wr w.heap.size 23 #[.int .i64 x.slot, .int .i64 x.gen, .int .i64 x.tag, .int .i64 x.num, .bool x.mark]
  below : Below w.heap.size w wr
  far : ∀ b, v.ownBlock = some b → w.heap.size + 1 ≤ b

theorem Own.of_bk {w : World} {g : Nat} {e : TypeId} {sz n : Nat} {xs : List Value} (h : Bk w g e xs.toArray) (hl : xs.length = n * sz) (hn : n ≤ maxLen) : Own w e sz (.slice (some ⟨g, 0, none⟩) n n) n xs :=
  ⟨hl, .inr ⟨g, 0, n, [], [], rfl, by simpa using h, rfl, Nat.le_refl _, hn, by simp [hl]⟩⟩

theorem RR.push {w wr w6 w7 : World} {x : PW} {v v' : Value} {n : Nat} {L : List PW} {y : PW} (R : RR w x v n L wr) (hz : w.heap.size < w6.heap.size) (hb6 : Below w.heap.size w w6)
    (X6 : Bk w6 w.heap.size 23 #[.int .i64 x.slot, .int .i64 x.gen, .int .i64 x.tag, .int .i64 x.num, .bool x.mark])
    (O7 : Own w7 23 5 v' (L ++ [y]).length (wcells (L ++ [y]))) (hg : w6.grownBy w7 v.ownBlock) (hf : Fresh w6 v v') (hy : y.tag = x.tag + n + 1) : RR w x v' (n + 1) (L ++ [y]) w7 where
  len := by rw [List.length_append, R.len]; rfl
  tags := fun k h => by
    have hl := R.len
    rw [List.length_append, List.length_singleton] at h
    rcases Nat.lt_or_ge k L.length with hk | hk
    · rw [List.getElem_append_left hk]; exact R.tags k hk
    · obtain rfl : k = L.length := by omega
      rw [List.getElem_append_right (Nat.le_refl _)]
      simp only [Nat.sub_self, List.getElem_cons_zero]
      rw [hy, hl]; omega
  own := O7
  box := X6.grown hg (fun e => by have := R.far _ e.symm; omega)
  below := hb6.grown hg (by omega) (fun b e => by have := R.far b e; omega)
  far := fun b e => by
    rcases hf b e with h | h
    · exact R.far b h
    · omega

set_option maxRecDepth 100000 in
set_option maxHeartbeats 12800000 in
theorem glyphRises_mid {w : World} {a b : Addr} {tS : TypeId} {pS : Value} {tR : TypeId} {pR : Value} {m : Int} (G : GW w a b tS pS tR pR m) (x : PW) (A : Option Addr) (c : Nat) (l : List Int)
    (hs : Sl w w.heap.size 1 A l.length (icells l)) (hl : l.length ≤ 60) (t0 : 0 ≤ x.tag) (t1 : x.tag ≤ 1099511627776) :
    Calls Tryd.prog 6 #[x.v, .slice A l.length c] w (RetB true w) := by
  have hb0 : Below w.heap.size w (w.alloc (.cells x.cells 23)) := (Below.refl _ _).alloc (Nat.le_refl _) _
  have A0 : Bk (w.alloc (.cells x.cells 23)) w.heap.size 23 x.cells := Bk.at_ rfl
  have G0 := G.more hb0
  have d0 : decide ((60 : Int) < (l.length : Int)) = false := by simp; omega
  have d1 : decide (x.tag < (0 : Int)) = false := by simp; omega
  have d2 : decide ((1099511627776 : Int) < x.tag) = false := by simp; omega
  unfold PW.v
  go_enter Tryd.func6, Tryd.ntmps6
  go_wp2_with fail
  simp only [PW.cells] at hb0 A0 G0
  generalize (w.alloc (.cells #[.int .i64 x.slot, .int .i64 x.gen, .int .i64 x.tag, .int .i64 x.num, .bool x.mark] 23)) = w0 at *
  refine (awake_any G0).mono ?_
  rintro e w1 ⟨rfl, hb1'⟩
  have A1 := A0.belowAll hb1'
  have hb1 := hb0.trans (hb1'.mono hb0.size)
  clear A0 G0 hb0 hb1'
  obtain ⟨a0, a1, a2, a3, a4⟩ := bk5 A1
  go_wp2_with fail
  have hs1 := hs.below hb1
  have A2 := A1.alloc (.cells #[.int .i64 x.slot, .int .i64 x.gen, .int .i64 x.tag, .int .i64 x.num, .bool x.mark] 23)
  have hb2 := hb1.alloc hb1.size (.cells #[.int .i64 x.slot, .int .i64 x.gen, .int .i64 x.tag, .int .i64 x.num, .bool x.mark] 23)
  have O2 : Own (w1.alloc (.cells #[.int .i64 x.slot, .int .i64 x.gen, .int .i64 x.tag, .int .i64 x.num, .bool x.mark] 23)) 23 5 (.slice (some ⟨w1.heap.size, 0, none⟩) 1 1) 1 (wcells [x]) := Own.of_bk (Bk.at_ rfl) rfl (by decide)
  have R0 : RR w x (.slice (some ⟨w1.heap.size, 0, none⟩) 1 1) 0 [x] (w1.alloc (.cells #[.int .i64 x.slot, .int .i64 x.gen, .int .i64 x.tag, .int .i64 x.num, .bool x.mark] 23)) :=
    ⟨rfl, fun k h => by obtain rfl : k = 0 := by simpa using h
                        simp, O2, A2, hb2, fun b e => by cases e; exact A1.lt⟩
  have RH := Lib.hid R0
  clear a0 a1 a2 a3 a4 hs1 A1 A2 hb1 hb2 O2 R0 d0 d1 d2
  go_loopw [5, 6] (fun v i wr => ∃ (n : Nat) (L : List PW), i = .int .i64 n ∧ n ≤ l.length ∧ RR w x v n L wr) (fun _ i _ => l.length - (intOf i).toNat)
  case atStart => exact ⟨0, [x], rfl, Nat.zero_le _, RH.out⟩
  case round =>
    obtain ⟨n, L, rfl, hn, R'⟩ := hrel
    have R := Lib.hid R'; clear R' RH
    obtain ⟨wo, rfl⟩ : ∃ wo : World, wo = wr := ⟨_, rfl⟩
    by_cases hlt : n < l.length
    · obtain ⟨g, o, cap, rfl, hcap⟩ := own_form R.out.own (by have := R.out.len; omega)
      have hnL : n < L.length := by have := R.out.len; omega
      have hL61 : L.length ≤ 61 := by have := R.out.len; omega
      have hrg := own_word R.out.own n hnL
      have tg := R.out.tags n hnL
      have hgx := R.out.far g rfl
      generalize L[n] = y at hrg tg
      have c0 := hrg 0 _ rfl; have c1 := hrg 1 _ rfl; have c2 := hrg 2 _ rfl; have c3 := hrg 3 _ rfl; have c4 := hrg 4 _ rfl
      rw [Nat.add_zero] at c0
      have X1 := R.out.box
      have O1 := R.out.own
      have hb1 := R.out.below
      have HT : Hid (wrap64 (y.tag + 1) = x.tag + n + 1) := by show wrap64 (y.tag + 1) = _; rw [tg]; exact IntWalk.wrap64_in _ (by omega)
      clear tg hrg
      go_upto_region 10 with (fail)
      have N2 : Bk (wo.alloc (.cells #[.int .i64 y.slot, .int .i64 y.gen, .int .i64 y.tag, .int .i64 y.num, .bool y.mark] 23)) wo.heap.size 23 _ := Bk.at_ rfl
      have X2 := X1.alloc (.cells #[.int .i64 y.slot, .int .i64 y.gen, .int .i64 y.tag, .int .i64 y.num, .bool y.mark] 23)
      have O2 := O1.alloc (.cells #[.int .i64 y.slot, .int .i64 y.gen, .int .i64 y.tag, .int .i64 y.num, .bool y.mark] 23)
      have hb2 := hb1.alloc hb1.size (.cells #[.int .i64 y.slot, .int .i64 y.gen, .int .i64 y.tag, .int .i64 y.num, .bool y.mark] 23)
      have hxN : w.heap.size ≠ wo.heap.size := by have := X1.lt; omega
      have hgN : (Value.slice (some ⟨g, o, none⟩) L.length cap).ownBlock ≠ some wo.heap.size := by have : g < wo.heap.size := O1.lt rfl; simp [Value.ownBlock]; omega
      have hBN : w.heap.size ≤ wo.heap.size := hb1.size
      obtain ⟨sb, off, rfl, hsb, q2⟩ := (hs.below hb2).pick (i := n) hlt
      clear c0 c1 c2 c3 c4 X1 O1 hb1
      generalize wo.heap.size = NB at *
      generalize (wo.alloc (.cells #[.int .i64 y.slot, .int .i64 y.gen, .int .i64 y.tag, .int .i64 y.num, .bool y.mark] 23)) = w2 at *
      go_upto_region 12 with (fail)
      generalize (IntKind.u64.wrap l[n]).tmod 3 = r at *
      obtain ⟨a0, a1, a2, a3, a4⟩ := bk5 N2
      obtain ⟨b0, b1, b2, b3, b4⟩ := bk5 X2
      by_cases h0 : r = 0
      · subst h0
        go_wp2_with fail
        ((with_reducible refine (to_is HT.out _).mono ?_); rintro e w3 ⟨rfl, hb⟩; have N3 := N2.belowAll hb; have X3 := X2.belowAll hb; have O3 := O2.below hb; have hb3 := hb2.trans (hb.mono hb2.size); clear N2 X2 O2 hb hb2 q2 a0 a1 a2 a3 a4 b0 b1 b2 b3 b4)
        go_upto_region 16 with (refine wpList_store_bk (by rfl) _ _ _ (by rfl) NB _ (by rfl) (by rfl) _ _ N3 (by rfl) infoWord (by rfl) ?_; intro w4 hst)
        (have N4 := hst.bk; have X4 := hst.far X3 hxN; have O4 := O3.grown hst.grown (.inr hgN); have hb4 := hst.below hb3 hBN; clear N3 X3 O3 hb3 hst; obtain ⟨a0, a1, a2, a3, a4⟩ := bk5 N4; obtain ⟨b0, b1, b2, b3, b4⟩ := bk5 X4; go_wp2_with fail; clear a0 a1 a2 a3 a4 b0 b1 b2 b3 b4; go_loopw [8] (fun k wk => ∃ j : Nat, k = .int .i64 j ∧ j ≤ L.length ∧ (fun wk : World => Own wk 23 5 (.slice (some ⟨g, o, none⟩) L.length cap) L.length (wcells L) ∧ Bk wk NB 23 #[.int .i64 (x.slot), .int .i64 (x.gen), .int .i64 (x.tag + n + 1), .int .i64 (0), .bool (false)] ∧ Bk wk w.heap.size 23 #[.int .i64 x.slot, .int .i64 x.gen, .int .i64 x.tag, .int .i64 x.num, .bool x.mark] ∧ Below w.heap.size w wk) wk) (fun k _ => L.length - (intOf k).toNat); (case atStart => exact ⟨0, rfl, Nat.zero_le _, O4, N4, X4, hb4⟩); (case round => (obtain ⟨j, rfl, hj, hC⟩ := hrel; by_cases hjl : j < L.length; (· (have hjt := R.out.tags j hjl; have hjn := R.out.len; have HS := Lib.hid (show sameB ⟨x.slot, x.gen, x.tag + n + 1, 0, false⟩ L[j] = false from same_no (show x.tag + n + 1 ≠ L[j].tag by omega)); clear hjt hjn; have hi1 : (0 : Int) ≤ (j : Int) := (by omega); have hi2 : (j : Int) < (L.length : Int) := (by omega); generalize hz : L[j] = z at HS; have HZ := Lib.hid hz; clear hz; go_upto_region 21 with (fail); refine wp_region_class (fun wk : World => Own wk 23 5 (.slice (some ⟨g, o, none⟩) L.length cap) L.length (wcells L) ∧ Bk wk NB 23 #[.int .i64 (x.slot), .int .i64 (x.gen), .int .i64 (x.tag + n + 1), .int .i64 (0), .bool (false)] ∧ Bk wk w.heap.size 23 #[.int .i64 x.slot, .int .i64 x.gen, .int .i64 x.tag, .int .i64 x.num, .bool x.mark] ∧ Below w.heap.size w wk) (by kernel_rfl) (by kernel_rfl) ⟨hC.1.drew, hC.2.1.drew, hC.2.2.1.drew, hC.2.2.2.drew⟩ ?_; clear hC; (repeat (first | go_big_quiet_skip | (go_big_quiet_want; first | ((first | refine quiet_load_row _ _ rfl _ (by rfl) _ _ (fun w' hC => hC.2.1) Tryd.underlying23 rfl infoWord ?_ | refine quiet_load_mid _ _ rfl _ _ (by rfl) #[.int .i64 z.slot, .int .i64 z.gen, .int .i64 z.tag, .int .i64 z.num, .bool z.mark] _ (fun w' hC => (by have := own_word hC.1 j hjl; rw [HZ.out] at this; exact this)) Tryd.underlying23 rfl infoWord ?_); go_big_quiet_on; simp only [Act.put, List.setIfInBounds_toArray, List.set_cons_succ, List.set_cons_zero]) | (go_big_quiet_op; go_big_quiet_on) | (apply Exists.intro; refine ⟨fun w' hC => ?_, ?_⟩; (· (obtain ⟨hO, hN, hX, hW⟩ := hC; go_simp; first | done | rfl | exact ⟨rfl, rfl⟩ | (go_at_call 15; (with_reducible refine (same_is HS.out _).mono ?_); rintro e w'' ⟨rfl, hb⟩; exact ⟨rfl, hO.below hb, hN.belowAll hb, hX.belowAll hb, hW.trans (hb.mono hW.size)⟩))); go_big_quiet_on; simp only [Act.put, List.setIfInBounds_toArray, List.set_cons_succ, List.set_cons_zero])))); refine wpQuiet_nil ?_; intro w5 hC5; (try dsimp only); go_wp2_with fail; go_roundw; (case rel => exact ⟨j + 1, by go_num, by omega, hC5⟩); (case measure => simp [intOf]; omega))); (· (obtain ⟨O5, N5, X5, hb5⟩ := hC; have O6 := O5.alloc (.cells #[.int .i64 (x.slot), .int .i64 (x.gen), .int .i64 (x.tag + n + 1), .int .i64 (0), .bool (false)] 23); have X6 := X5.alloc (.cells #[.int .i64 (x.slot), .int .i64 (x.gen), .int .i64 (x.tag + n + 1), .int .i64 (0), .bool (false)] 23); have hb6 := hb5.alloc hb5.size (.cells #[.int .i64 (x.slot), .int .i64 (x.gen), .int .i64 (x.tag + n + 1), .int .i64 (0), .bool (false)] 23); obtain ⟨v', w7, hrun, O7, hg7, hf7⟩ := own_words_append _ _ _ O6 (by have := R.out.len; omega) ⟨x.slot, x.gen, x.tag + n + 1, 0, false⟩ _ (Bk.at_ rfl) 41; have HR := Lib.hid hrun; clear hrun; have R7 : RR w x v' (n + 1) (L ++ [⟨x.slot, x.gen, x.tag + n + 1, 0, false⟩]) w7 := R.out.push (by have := hb5.size; simp; omega) hb6 X6 O7 hg7 hf7 rfl; obtain ⟨a0, a1, a2, a3, a4⟩ := bk5 N5; have hjl' : decide ((j : Int) < (L.length : Int)) = false := decide_eq_false (by omega); clear O5 N5 X5 hb5 O6 X6 hb6 O7 hg7 hf7 R; go_wp2_with (at_builtin; refine wpList_append_run (by rfl) _ _ _ _ _ _ _ (by rfl) (by rfl) (by rfl) HR.out ?_); go_roundw; (case rel => exact ⟨n + 1, _, by go_num, by omega, R7⟩); (case measure => simp [intOf]; omega))))))
      · by_cases h1 : r = 1
        · subst h1
          go_wp2_with fail
          ((with_reducible refine (marked_is HT.out _).mono ?_); rintro e w3 ⟨rfl, hb⟩; have N3 := N2.belowAll hb; have X3 := X2.belowAll hb; have O3 := O2.below hb; have hb3 := hb2.trans (hb.mono hb2.size); clear N2 X2 O2 hb hb2 q2 a0 a1 a2 a3 a4 b0 b1 b2 b3 b4)
          go_upto_region 16 with (refine wpList_store_bk (by rfl) _ _ _ (by rfl) NB _ (by rfl) (by rfl) _ _ N3 (by rfl) infoWord (by rfl) ?_; intro w4 hst)
          (have N4 := hst.bk; have X4 := hst.far X3 hxN; have O4 := O3.grown hst.grown (.inr hgN); have hb4 := hst.below hb3 hBN; clear N3 X3 O3 hb3 hst; obtain ⟨a0, a1, a2, a3, a4⟩ := bk5 N4; obtain ⟨b0, b1, b2, b3, b4⟩ := bk5 X4; go_wp2_with fail; clear a0 a1 a2 a3 a4 b0 b1 b2 b3 b4; go_loopw [8] (fun k wk => ∃ j : Nat, k = .int .i64 j ∧ j ≤ L.length ∧ (fun wk : World => Own wk 23 5 (.slice (some ⟨g, o, none⟩) L.length cap) L.length (wcells L) ∧ Bk wk NB 23 #[.int .i64 (y.slot), .int .i64 (y.gen), .int .i64 (x.tag + n + 1), .int .i64 (y.num), .bool (true)] ∧ Bk wk w.heap.size 23 #[.int .i64 x.slot, .int .i64 x.gen, .int .i64 x.tag, .int .i64 x.num, .bool x.mark] ∧ Below w.heap.size w wk) wk) (fun k _ => L.length - (intOf k).toNat); (case atStart => exact ⟨0, rfl, Nat.zero_le _, O4, N4, X4, hb4⟩); (case round => (obtain ⟨j, rfl, hj, hC⟩ := hrel; by_cases hjl : j < L.length; (· (have hjt := R.out.tags j hjl; have hjn := R.out.len; have HS := Lib.hid (show sameB ⟨y.slot, y.gen, x.tag + n + 1, y.num, true⟩ L[j] = false from same_no (show x.tag + n + 1 ≠ L[j].tag by omega)); clear hjt hjn; have hi1 : (0 : Int) ≤ (j : Int) := (by omega); have hi2 : (j : Int) < (L.length : Int) := (by omega); generalize hz : L[j] = z at HS; have HZ := Lib.hid hz; clear hz; go_upto_region 21 with (fail); refine wp_region_class (fun wk : World => Own wk 23 5 (.slice (some ⟨g, o, none⟩) L.length cap) L.length (wcells L) ∧ Bk wk NB 23 #[.int .i64 (y.slot), .int .i64 (y.gen), .int .i64 (x.tag + n + 1), .int .i64 (y.num), .bool (true)] ∧ Bk wk w.heap.size 23 #[.int .i64 x.slot, .int .i64 x.gen, .int .i64 x.tag, .int .i64 x.num, .bool x.mark] ∧ Below w.heap.size w wk) (by kernel_rfl) (by kernel_rfl) ⟨hC.1.drew, hC.2.1.drew, hC.2.2.1.drew, hC.2.2.2.drew⟩ ?_; clear hC; (repeat (first | go_big_quiet_skip | (go_big_quiet_want; first | ((first | refine quiet_load_row _ _ rfl _ (by rfl) _ _ (fun w' hC => hC.2.1) Tryd.underlying23 rfl infoWord ?_ | refine quiet_load_mid _ _ rfl _ _ (by rfl) #[.int .i64 z.slot, .int .i64 z.gen, .int .i64 z.tag, .int .i64 z.num, .bool z.mark] _ (fun w' hC => (by have := own_word hC.1 j hjl; rw [HZ.out] at this; exact this)) Tryd.underlying23 rfl infoWord ?_); go_big_quiet_on; simp only [Act.put, List.setIfInBounds_toArray, List.set_cons_succ, List.set_cons_zero]) | (go_big_quiet_op; go_big_quiet_on) | (apply Exists.intro; refine ⟨fun w' hC => ?_, ?_⟩; (· (obtain ⟨hO, hN, hX, hW⟩ := hC; go_simp; first | done | rfl | exact ⟨rfl, rfl⟩ | (go_at_call 15; (with_reducible refine (same_is HS.out _).mono ?_); rintro e w'' ⟨rfl, hb⟩; exact ⟨rfl, hO.below hb, hN.belowAll hb, hX.belowAll hb, hW.trans (hb.mono hW.size)⟩))); go_big_quiet_on; simp only [Act.put, List.setIfInBounds_toArray, List.set_cons_succ, List.set_cons_zero])))); refine wpQuiet_nil ?_; intro w5 hC5; (try dsimp only); go_wp2_with fail; go_roundw; (case rel => exact ⟨j + 1, by go_num, by omega, hC5⟩); (case measure => simp [intOf]; omega))); (· (obtain ⟨O5, N5, X5, hb5⟩ := hC; have O6 := O5.alloc (.cells #[.int .i64 (y.slot), .int .i64 (y.gen), .int .i64 (x.tag + n + 1), .int .i64 (y.num), .bool (true)] 23); have X6 := X5.alloc (.cells #[.int .i64 (y.slot), .int .i64 (y.gen), .int .i64 (x.tag + n + 1), .int .i64 (y.num), .bool (true)] 23); have hb6 := hb5.alloc hb5.size (.cells #[.int .i64 (y.slot), .int .i64 (y.gen), .int .i64 (x.tag + n + 1), .int .i64 (y.num), .bool (true)] 23); obtain ⟨v', w7, hrun, O7, hg7, hf7⟩ := own_words_append _ _ _ O6 (by have := R.out.len; omega) ⟨y.slot, y.gen, x.tag + n + 1, y.num, true⟩ _ (Bk.at_ rfl) 41; have HR := Lib.hid hrun; clear hrun; have R7 : RR w x v' (n + 1) (L ++ [⟨y.slot, y.gen, x.tag + n + 1, y.num, true⟩]) w7 := R.out.push (by have := hb5.size; simp; omega) hb6 X6 O7 hg7 hf7 rfl; obtain ⟨a0, a1, a2, a3, a4⟩ := bk5 N5; have hjl' : decide ((j : Int) < (L.length : Int)) = false := decide_eq_false (by omega); clear O5 N5 X5 hb5 O6 X6 hb6 O7 hg7 hf7 R; go_wp2_with (at_builtin; refine wpList_append_run (by rfl) _ _ _ _ _ _ _ (by rfl) (by rfl) (by rfl) HR.out ?_); go_roundw; (case rel => exact ⟨n + 1, _, by go_num, by omega, R7⟩); (case measure => simp [intOf]; omega))))))
        · have k0 : (r == 0) = false := by simpa using h0
          have k1 : (r == 1) = false := by simpa using h1
          clear h0 h1
          obtain ⟨u, hu⟩ : ∃ u, wrap64 (y.num + l[n]) = u := ⟨_, rfl⟩
          have HU := Lib.hid hu; clear hu
          go_upto_region 11 with (fail)
          (clear a0 a1 a2 a3 a4 b0 b1 b2 b3 b4; have hi1 : (0 : Int) ≤ (n : Int) := (by omega); have hi2 : (n : Int) < (l.length : Int) := (by omega); have N2 := N2.drew; have X2 := X2.drew; have O2 := O2.drew; have hb2 := hb2.drew; have q2 : w2.drew.cell? ⟨sb, off + n, none⟩ = some (.int .i64 l[n]) := q2; refine wp_region_T (fun w' => Bk w' NB 23 #[.int .i64 y.slot, .int .i64 y.gen, .int .i64 y.tag, .int .i64 y.num, .bool y.mark] ∧ w'.cell? ⟨sb, off + n, none⟩ = some (.int .i64 l[n])) 6 (by kernel_rfl) ⟨N2, q2⟩ (fun hS => ?_); generalize w2.drew = w2 at *; ((try simp only [Act.put, List.setIfInBounds_toArray, List.set_cons_succ, List.set_cons_zero]); refine wpT_batch (fuel := 2) (by kernel_rfl) (by kernel_rfl) (fun d => by cases d <;> exact fun _ _ _ _ h => h) hS [0, 1, 2, 3, 4] _ _ (by kernel_rfl) ?_; simp only [pickOps, nthOp, List.toList_toArray]; (repeat (first | go_big_quiet_skip | (go_big_quiet_want; first | (go_big_quiet_op; go_big_quiet_on) | (apply Exists.intro; refine ⟨fun w' hS' => ?_, ?_⟩; (· (obtain ⟨hA, hq⟩ := hS'; obtain ⟨a0, a1, a2, a3, a4⟩ := bk5 hA; go_simp; first | done | rfl | exact ⟨rfl, rfl⟩)); go_big_quiet_on; simp only [Act.put, List.setIfInBounds_toArray, List.set_cons_succ, List.set_cons_zero])))); refine wpQuiet_nil ?_; (try dsimp only)); (refine wpT_loudN 5 (by kernel_rfl) (fun K hK => ?_); simp only [nthOp, List.toList_toArray]); go_wp2_with fail; ((with_reducible refine (count_is HT.out HU.out _).mono ?_); rintro e w3 ⟨rfl, hb⟩; have N3 := N2.belowAll hb; have X3 := X2.belowAll hb; have O3 := O2.below hb; have hb3 := hb2.trans (hb.mono hb2.size); have q3 := cell_more q2 hb; clear N2 X2 O2 hb hb2 q2 hS); go_wp2_with fail; refine hK.out _ _ (fun _ => ⟨N3, q3⟩) ?_; clear hK; (refine wpT_loudN 6 (by kernel_rfl) (fun K hK => ?_); simp only [nthOp, List.toList_toArray]); go_wp2_with (refine wpList_store_bk (by rfl) _ _ _ (by rfl) NB _ (by rfl) (by rfl) _ _ N3 (by rfl) infoWord (by rfl) ?_; intro w4 hst); refine hK.out _ _ (fun h => absurd h (by omega)) ?_; clear hK; refine wpT_done (by kernel_rfl) ?_ _)
          go_upto_region 16 with (fail)
          (have N4 := hst.bk; have X4 := hst.far X3 hxN; have O4 := O3.grown hst.grown (.inr hgN); have hb4 := hst.below hb3 hBN; clear N3 X3 O3 hb3 hst; obtain ⟨a0, a1, a2, a3, a4⟩ := bk5 N4; obtain ⟨b0, b1, b2, b3, b4⟩ := bk5 X4; go_wp2_with fail; clear a0 a1 a2 a3 a4 b0 b1 b2 b3 b4; go_loopw [8] (fun k wk => ∃ j : Nat, k = .int .i64 j ∧ j ≤ L.length ∧ (fun wk : World => Own wk 23 5 (.slice (some ⟨g, o, none⟩) L.length cap) L.length (wcells L) ∧ Bk wk NB 23 #[.int .i64 (0), .int .i64 (0), .int .i64 (x.tag + n + 1), .int .i64 (u), .bool (false)] ∧ Bk wk w.heap.size 23 #[.int .i64 x.slot, .int .i64 x.gen, .int .i64 x.tag, .int .i64 x.num, .bool x.mark] ∧ Below w.heap.size w wk) wk) (fun k _ => L.length - (intOf k).toNat); (case atStart => exact ⟨0, rfl, Nat.zero_le _, O4, N4, X4, hb4⟩); (case round => (obtain ⟨j, rfl, hj, hC⟩ := hrel; by_cases hjl : j < L.length; (· (have hjt := R.out.tags j hjl; have hjn := R.out.len; have HS := Lib.hid (show sameB ⟨0, 0, x.tag + n + 1, u, false⟩ L[j] = false from same_no (show x.tag + n + 1 ≠ L[j].tag by omega)); clear hjt hjn; have hi1 : (0 : Int) ≤ (j : Int) := (by omega); have hi2 : (j : Int) < (L.length : Int) := (by omega); generalize hz : L[j] = z at HS; have HZ := Lib.hid hz; clear hz; go_upto_region 21 with (fail); refine wp_region_class (fun wk : World => Own wk 23 5 (.slice (some ⟨g, o, none⟩) L.length cap) L.length (wcells L) ∧ Bk wk NB 23 #[.int .i64 (0), .int .i64 (0), .int .i64 (x.tag + n + 1), .int .i64 (u), .bool (false)] ∧ Bk wk w.heap.size 23 #[.int .i64 x.slot, .int .i64 x.gen, .int .i64 x.tag, .int .i64 x.num, .bool x.mark] ∧ Below w.heap.size w wk) (by kernel_rfl) (by kernel_rfl) ⟨hC.1.drew, hC.2.1.drew, hC.2.2.1.drew, hC.2.2.2.drew⟩ ?_; clear hC; (repeat (first | go_big_quiet_skip | (go_big_quiet_want; first | ((first | refine quiet_load_row _ _ rfl _ (by rfl) _ _ (fun w' hC => hC.2.1) Tryd.underlying23 rfl infoWord ?_ | refine quiet_load_mid _ _ rfl _ _ (by rfl) #[.int .i64 z.slot, .int .i64 z.gen, .int .i64 z.tag, .int .i64 z.num, .bool z.mark] _ (fun w' hC => (by have := own_word hC.1 j hjl; rw [HZ.out] at this; exact this)) Tryd.underlying23 rfl infoWord ?_); go_big_quiet_on; simp only [Act.put, List.setIfInBounds_toArray, List.set_cons_succ, List.set_cons_zero]) | (go_big_quiet_op; go_big_quiet_on) | (apply Exists.intro; refine ⟨fun w' hC => ?_, ?_⟩; (· (obtain ⟨hO, hN, hX, hW⟩ := hC; go_simp; first | done | rfl | exact ⟨rfl, rfl⟩ | (go_at_call 15; (with_reducible refine (same_is HS.out _).mono ?_); rintro e w'' ⟨rfl, hb⟩; exact ⟨rfl, hO.below hb, hN.belowAll hb, hX.belowAll hb, hW.trans (hb.mono hW.size)⟩))); go_big_quiet_on; simp only [Act.put, List.setIfInBounds_toArray, List.set_cons_succ, List.set_cons_zero])))); refine wpQuiet_nil ?_; intro w5 hC5; (try dsimp only); go_wp2_with fail; go_roundw; (case rel => exact ⟨j + 1, by go_num, by omega, hC5⟩); (case measure => simp [intOf]; omega))); (· (obtain ⟨O5, N5, X5, hb5⟩ := hC; have O6 := O5.alloc (.cells #[.int .i64 (0), .int .i64 (0), .int .i64 (x.tag + n + 1), .int .i64 (u), .bool (false)] 23); have X6 := X5.alloc (.cells #[.int .i64 (0), .int .i64 (0), .int .i64 (x.tag + n + 1), .int .i64 (u), .bool (false)] 23); have hb6 := hb5.alloc hb5.size (.cells #[.int .i64 (0), .int .i64 (0), .int .i64 (x.tag + n + 1), .int .i64 (u), .bool (false)] 23); obtain ⟨v', w7, hrun, O7, hg7, hf7⟩ := own_words_append _ _ _ O6 (by have := R.out.len; omega) ⟨0, 0, x.tag + n + 1, u, false⟩ _ (Bk.at_ rfl) 41; have HR := Lib.hid hrun; clear hrun; have R7 : RR w x v' (n + 1) (L ++ [⟨0, 0, x.tag + n + 1, u, false⟩]) w7 := R.out.push (by have := hb5.size; simp; omega) hb6 X6 O7 hg7 hf7 rfl; obtain ⟨a0, a1, a2, a3, a4⟩ := bk5 N5; have hjl' : decide ((j : Int) < (L.length : Int)) = false := decide_eq_false (by omega); clear O5 N5 X5 hb5 O6 X6 hb6 O7 hg7 hf7 R; go_wp2_with (at_builtin; refine wpList_append_run (by rfl) _ _ _ _ _ _ _ (by rfl) (by rfl) (by rfl) HR.out ?_); go_roundw; (case rel => exact ⟨n + 1, _, by go_num, by omega, R7⟩); (case measure => simp [intOf]; omega))))))
    · obtain rfl : n = l.length := by omega
      clear hlt
      go_wp2_with fail
      go_ret
      exact ⟨rfl, R.out.below⟩
set_option maxRecDepth 100000 in
set_option maxHeartbeats 1600000 in
theorem glyphRises_all {w : World} {a b : Addr} {tS : TypeId} {pS : Value} {tR : TypeId} {pR : Value} {m : Int} (G : GW w a b tS pS tR pR m) (x : PW) (A : Option Addr) (c : Nat) (l : List Int)
    (hs : Sl w w.heap.size 1 A l.length (icells l)) (hl : l.length ≤ 9223372036854775807) :
    Calls Tryd.prog 6 #[x.v, .slice A l.length c] w (RetB true w) := by
  by_cases h : l.length ≤ 60 ∧ 0 ≤ x.tag ∧ x.tag ≤ 1099511627776
  · exact glyphRises_mid G x A c l hs h.1 h.2.1 h.2.2
  · have hb0 : Below w.heap.size w (w.alloc (.cells x.cells 23)) := (Below.refl _ _).alloc (Nat.le_refl _) _
    have A0 : Bk (w.alloc (.cells x.cells 23)) w.heap.size 23 x.cells := Bk.at_ rfl
    have G0 := G.more hb0
    have hd : decide ((60 : Int) < (l.length : Int)) = true ∨ (decide ((60 : Int) < (l.length : Int)) = false ∧ decide (x.tag < (0 : Int)) = true) ∨ (decide ((60 : Int) < (l.length : Int)) = false ∧ decide (x.tag < (0 : Int)) = false ∧ decide ((1099511627776 : Int) < x.tag) = true) := by
      simp only [decide_eq_true_eq, decide_eq_false_iff_not]; omega
    clear h hs
    unfold PW.v
    go_enter Tryd.func6, Tryd.ntmps6
    go_wp2_with fail
    simp only [PW.cells] at hb0 A0 G0
    generalize (w.alloc (.cells #[.int .i64 x.slot, .int .i64 x.gen, .int .i64 x.tag, .int .i64 x.num, .bool x.mark] 23)) = w0 at *
    refine (awake_any G0).mono ?_
    rintro e w1 ⟨rfl, hb1'⟩
    have A1 := A0.belowAll hb1'
    have hb1 := hb0.trans (hb1'.mono hb0.size)
    clear A0 G0 hb0 hb1' G
    obtain ⟨a0, a1, a2, a3, a4⟩ := bk5 A1
    rcases hd with d0 | ⟨d0, d1⟩ | ⟨d0, d1, d2⟩
    all_goals
      go_wp2_with fail
      go_ret
      exact ⟨rfl, hb1⟩
end Go.Proofs.YtfkfleojdheffaaDoor
