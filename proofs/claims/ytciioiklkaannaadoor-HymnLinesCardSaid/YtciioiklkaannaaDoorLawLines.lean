/- HymnLines: an operation's words are read as it was. -/
import Derived.Test.YtciioiklkaannaaDoorAwakeH
namespace Go.Proofs.YtciioiklkaannaaDoor
open Go Go.RowKit
set_option linter.unusedSimpArgs false
set_option linter.unusedVariables false
set_option linter.unusedSectionVars false

theorem lineL_inj {st : Int} {o p : POp} (ho : FitsP st o) (hp : FitsP st p) (h : lineL st o = lineL st p) : o = p := by
  obtain ⟨y, ys, hy⟩ : ∃ y ys, sp 32 (bs (lineL st o)).data.toList = y :: ys := by
    cases h : sp 32 (bs (lineL st o)).data.toList with
    | nil => exact absurd h (sp_ne _ _)
    | cons y ys => exact ⟨y, ys, rfl⟩
  obtain ⟨_, ⟨ns, hns⟩, q1⟩ := read_back hy ho rfl
  obtain ⟨_, _, q2⟩ := read_back hy hp (by rw [h])
  rw [← q1 ns hns, q2 ns hns]
section
variable {w : World} {a b c : Addr} {m : Int} (G : GH w a b c m)
include G
theorem read_is (st : Int) (o : POp) (ho : FitsP st o) : Calls Tryd.prog 9 #[.int .i64 st, .string (bs (lineL st o))] w fun e w' => e = .returned (.tuple #[o.v, .nilIface]) ∧ Below w.heap.size w w' := by
  refine (read_any G st _ (by rw [bs_size]; have := lineL_len ho; omega)).mono ?_
  rintro e w' (⟨op, hf, ht, he, hb⟩ | ⟨hn, _, _⟩)
  · obtain rfl := lineL_inj hf ho (bs_inj ht)
    exact ⟨he, hb⟩
  · exact absurd rfl (hn o ho)
end
theorem op_ne {k e v t k' e' v' t' : Int} (h : (⟨k, e, v, t⟩ : POp) ≠ ⟨k', e', v', t'⟩) : ¬ k = k' ∨ (k = k' ∧ ¬ e = e') ∨ (k = k' ∧ e = e' ∧ ¬ v = v') ∨ (k = k' ∧ e = e' ∧ v = v' ∧ ¬ t = t') := by
  simp only [ne_eq, POp.mk.injEq] at h
  by_cases h1 : k = k' <;> by_cases h2 : e = e' <;> by_cases h3 : v = v' <;> simp_all

set_option maxRecDepth 100000 in
set_option maxHeartbeats 6400000 in
theorem hymnLines_any {w : World} {a b c : Addr} {m : Int} (G : GH w a b c m) (st : Int) (o p : POp) (s : ByteArray) (hs : s.size ≤ 9223372036854775807) :
    Calls Tryd.prog 3 #[.int .i64 st, .agg #[.int .i64 o.kind, .int .i64 o.key, .int .i64 o.val, .int .i64 o.tall, .int .i64 p.kind, .int .i64 p.key, .int .i64 p.val, .int .i64 p.tall], .string s] w (RetB true w) := by
  obtain ⟨ok, oe, ov, ot⟩ := o
  obtain ⟨pk, pe, pv, pt⟩ := p
  have B0 : Bk (w.alloc (.cells #[.int .i64 ok, .int .i64 oe, .int .i64 ov, .int .i64 ot, .int .i64 pk, .int .i64 pe, .int .i64 pv, .int .i64 pt] 24)) w.heap.size 24 #[.int .i64 ok, .int .i64 oe, .int .i64 ov, .int .i64 ot, .int .i64 pk, .int .i64 pe, .int .i64 pv, .int .i64 pt] := Bk.at_ rfl
  have hb0 : Below w.heap.size w (w.alloc (.cells #[.int .i64 ok, .int .i64 oe, .int .i64 ov, .int .i64 ot, .int .i64 pk, .int .i64 pe, .int .i64 pv, .int .i64 pt] 24)) := (Below.refl _ _).alloc (Nat.le_refl _) _
  have G0 := G.more hb0
  go_enter Tryd.func3, Tryd.ntmps3
  go_wp2_with fail
  generalize (w.alloc (.cells #[.int .i64 ok, .int .i64 oe, .int .i64 ov, .int .i64 ot, .int .i64 pk, .int .i64 pe, .int .i64 pv, .int .i64 pt] 24)) = w0 at *
  refine (awake_any G0).mono ?_
  rintro e w1 ⟨rfl, hb1⟩
  have B1 := B0.belowAll hb1
  have hB1 := hb0.trans (hb1.mono hb0.size)
  have G1 := G.more hB1
  clear B0 hb0 G0 hb1
  by_cases hsz : s.size ≤ 1000
  · have hsz1 : (s.size : Int) ≤ 1000 := by omega
    have y0 := B1.cell 0; have y1 := B1.cell 1; have y2 := B1.cell 2; have y3 := B1.cell 3; have y4 := B1.cell 4; have y5 := B1.cell 5; have y6 := B1.cell 6; have y7 := B1.cell 7; simp only [List.getElem?_toArray, List.getElem?_cons_zero, List.getElem?_cons_succ] at y0 y1 y2 y3 y4 y5 y6 y7
    by_cases ho : FitsP st ⟨ok, oe, ov, ot⟩
    · have HO := Lib.hid ho; clear ho
      go_wp2_with fail
      refine (line_yes G1 st ⟨ok, oe, ov, ot⟩ HO.out).mono ?_
      rintro e w2 ⟨rfl, hb2⟩
      have B2 := B1.belowAll hb2
      have hB2 := hB1.trans (hb2.mono hB1.size)
      have G2 := G.more hB2
      clear B1 hB1 G1 hb2 y0 y1 y2 y3 y4 y5 y6 y7
      have y0 := B2.cell 0; have y1 := B2.cell 1; have y2 := B2.cell 2; have y3 := B2.cell 3; have y4 := B2.cell 4; have y5 := B2.cell 5; have y6 := B2.cell 6; have y7 := B2.cell 7; simp only [List.getElem?_toArray, List.getElem?_cons_zero, List.getElem?_cons_succ] at y0 y1 y2 y3 y4 y5 y6 y7
      by_cases hp : FitsP st ⟨pk, pe, pv, pt⟩
      · have HP := Lib.hid hp; clear hp
        go_wp2_with fail
        refine (line_yes G2 st ⟨pk, pe, pv, pt⟩ HP.out).mono ?_
        rintro e w3 ⟨rfl, hb3⟩
        (have B3 := B2.belowAll hb3; have hB3 := hB2.trans (hb3.mono hB2.size); have G3 := G.more hB3; clear B2 hB2 G2 hb3 y0 y1 y2 y3 y4 y5 y6 y7; have y0 := B3.cell 0; have y1 := B3.cell 1; have y2 := B3.cell 2; have y3 := B3.cell 3; have y4 := B3.cell 4; have y5 := B3.cell 5; have y6 := B3.cell 6; have y7 := B3.cell 7; simp only [List.getElem?_toArray, List.getElem?_cons_zero, List.getElem?_cons_succ] at y0 y1 y2 y3 y4 y5 y6 y7)
        by_cases heq : (⟨ok, oe, ov, ot⟩ : POp) = ⟨pk, pe, pv, pt⟩
        · obtain ⟨e1, e2, e3, e4⟩ := (POp.mk.injEq ..).mp heq
          subst e1 e2 e3 e4
          clear heq
          (go_wp2_with fail; refine (read_is G3 st ⟨ok, oe, ov, ot⟩ HO.out).mono ?_; rintro e w4 ⟨rfl, hb4⟩; simp only [POp.v]; have B4 := (B3.belowAll hb4).alloc (.cells #[.int .i64 0, .int .i64 0, .int .i64 0, .int .i64 0] 23); have O4 : Bk (w4.alloc (.cells #[.int .i64 0, .int .i64 0, .int .i64 0, .int .i64 0] 23)) w4.heap.size 23 #[.int .i64 0, .int .i64 0, .int .i64 0, .int .i64 0] := Bk.at_ rfl; have hB4 := hB3.trans (hb4.mono hB3.size); have hz4 := hB4.size; have hlt4 := (B3.belowAll hb4).lt; have hA4 := hB4.alloc hz4 (.cells #[.int .i64 0, .int .i64 0, .int .i64 0, .int .i64 0] 23); clear B3 hB3 G3 hb4 y0 y1 y2 y3 y4 y5 y6 y7; go_wp2_with (refine wpList_store_bk (by rfl) _ _ _ (by rfl) w4.heap.size _ (by rfl) (by rfl) _ _ O4 (by rfl) (by kernel_rfl) (by rfl) ?_; intro w5 hst; have q0 := hst.bk.cell 0; have q1 := hst.bk.cell 1; have q2 := hst.bk.cell 2; have q3 := hst.bk.cell 3; simp only [List.getElem?_toArray, List.getElem?_cons_zero, List.getElem?_cons_succ] at q0 q1 q2 q3; have B5 := hst.far B4 (by omega); have y0 := B5.cell 0; have y1 := B5.cell 1; have y2 := B5.cell 2; have y3 := B5.cell 3; have y4 := B5.cell 4; have y5 := B5.cell 5; have y6 := B5.cell 6; have y7 := B5.cell 7; simp only [List.getElem?_toArray, List.getElem?_cons_zero, List.getElem?_cons_succ] at y0 y1 y2 y3 y4 y5 y6 y7); have hB5 := hst.below hA4 hz4; have G5 := G.more hB5; clear hst O4 hA4 hB4 B4 B5 q0 q1 q2 q3 y0 y1 y2 y3 y4 y5 y6 y7; generalize w4.heap.size = OB at *)
          (refine (read_any G5 st s (by omega)).mono ?_; rintro e w6 (⟨⟨rk, re, rv, rt⟩, hf, ht, rfl, hb6⟩ | ⟨hn, rfl, hb6⟩); (· have HF := Lib.hid hf; have HT := Lib.hid ht; clear hf ht; (simp only [POp.v]; have O6 : Bk (w6.alloc (.cells #[.int .i64 0, .int .i64 0, .int .i64 0, .int .i64 0] 23)) w6.heap.size 23 #[.int .i64 0, .int .i64 0, .int .i64 0, .int .i64 0] := Bk.at_ rfl; have hB6 := hB5.trans (hb6.mono hB5.size); have hz6 := hB6.size; have hA6 := hB6.alloc hz6 (.cells #[.int .i64 0, .int .i64 0, .int .i64 0, .int .i64 0] 23); clear hB5 G5 hb6; go_wp2_with (refine wpList_store_bk (by rfl) _ _ _ (by rfl) w6.heap.size _ (by rfl) (by rfl) _ _ O6 (by rfl) (by kernel_rfl) (by rfl) ?_; intro w7 hst; have q0 := hst.bk.cell 0; have q1 := hst.bk.cell 1; have q2 := hst.bk.cell 2; have q3 := hst.bk.cell 3; simp only [List.getElem?_toArray, List.getElem?_cons_zero, List.getElem?_cons_succ] at q0 q1 q2 q3); have hB7 := hst.below hA6 hz6; have G7 := G.more hB7; clear hst O6 hA6 hB6 q0 q1 q2 q3); refine (line_yes G7 st ⟨rk, re, rv, rt⟩ HF.out).mono ?_; rintro e w8 ⟨rfl, hb8⟩; rw [HT.out]; go_wp2_with fail; go_ret; exact ⟨rfl, hB7.trans (hb8.mono hB7.size)⟩); (· clear hn; (simp only [POp.v]; have O6 : Bk (w6.alloc (.cells #[.int .i64 0, .int .i64 0, .int .i64 0, .int .i64 0] 23)) w6.heap.size 23 #[.int .i64 0, .int .i64 0, .int .i64 0, .int .i64 0] := Bk.at_ rfl; have hB6 := hB5.trans (hb6.mono hB5.size); have hz6 := hB6.size; have hA6 := hB6.alloc hz6 (.cells #[.int .i64 0, .int .i64 0, .int .i64 0, .int .i64 0] 23); clear hB5 G5 hb6; go_wp2_with (refine wpList_store_bk (by rfl) _ _ _ (by rfl) w6.heap.size _ (by rfl) (by rfl) _ _ O6 (by rfl) (by kernel_rfl) (by rfl) ?_; intro w7 hst; have q0 := hst.bk.cell 0; have q1 := hst.bk.cell 1; have q2 := hst.bk.cell 2; have q3 := hst.bk.cell 3; simp only [List.getElem?_toArray, List.getElem?_cons_zero, List.getElem?_cons_succ] at q0 q1 q2 q3); have hB7 := hst.below hA6 hz6; have G7 := G.more hB7; clear hst O6 hA6 hB6 q0 q1 q2 q3); go_ret; exact ⟨rfl, hB7⟩))
        · have t1 : ((bs (lineL st ⟨ok, oe, ov, ot⟩)).toList == (bs (lineL st ⟨pk, pe, pv, pt⟩)).toList) = false := ba_ne fun h => heq (lineL_inj HO.out HP.out (bs_inj h))
          have hn := op_ne heq
          clear heq
          rcases hn with d1 | ⟨rfl, d2⟩ | ⟨rfl, rfl, d3⟩ | ⟨rfl, rfl, rfl, d4⟩
          all_goals
            (go_wp2_with fail; refine (read_is G3 st ⟨ok, oe, ov, ot⟩ HO.out).mono ?_; rintro e w4 ⟨rfl, hb4⟩; simp only [POp.v]; have B4 := (B3.belowAll hb4).alloc (.cells #[.int .i64 0, .int .i64 0, .int .i64 0, .int .i64 0] 23); have O4 : Bk (w4.alloc (.cells #[.int .i64 0, .int .i64 0, .int .i64 0, .int .i64 0] 23)) w4.heap.size 23 #[.int .i64 0, .int .i64 0, .int .i64 0, .int .i64 0] := Bk.at_ rfl; have hB4 := hB3.trans (hb4.mono hB3.size); have hz4 := hB4.size; have hlt4 := (B3.belowAll hb4).lt; have hA4 := hB4.alloc hz4 (.cells #[.int .i64 0, .int .i64 0, .int .i64 0, .int .i64 0] 23); clear B3 hB3 G3 hb4 y0 y1 y2 y3 y4 y5 y6 y7; go_wp2_with (refine wpList_store_bk (by rfl) _ _ _ (by rfl) w4.heap.size _ (by rfl) (by rfl) _ _ O4 (by rfl) (by kernel_rfl) (by rfl) ?_; intro w5 hst; have q0 := hst.bk.cell 0; have q1 := hst.bk.cell 1; have q2 := hst.bk.cell 2; have q3 := hst.bk.cell 3; simp only [List.getElem?_toArray, List.getElem?_cons_zero, List.getElem?_cons_succ] at q0 q1 q2 q3; have B5 := hst.far B4 (by omega); have y0 := B5.cell 0; have y1 := B5.cell 1; have y2 := B5.cell 2; have y3 := B5.cell 3; have y4 := B5.cell 4; have y5 := B5.cell 5; have y6 := B5.cell 6; have y7 := B5.cell 7; simp only [List.getElem?_toArray, List.getElem?_cons_zero, List.getElem?_cons_succ] at y0 y1 y2 y3 y4 y5 y6 y7); have hB5 := hst.below hA4 hz4; have G5 := G.more hB5; clear hst O4 hA4 hB4 B4 B5 q0 q1 q2 q3 y0 y1 y2 y3 y4 y5 y6 y7; generalize w4.heap.size = OB at *)
            (refine (read_any G5 st s (by omega)).mono ?_; rintro e w6 (⟨⟨rk, re, rv, rt⟩, hf, ht, rfl, hb6⟩ | ⟨hn, rfl, hb6⟩); (· have HF := Lib.hid hf; have HT := Lib.hid ht; clear hf ht; (simp only [POp.v]; have O6 : Bk (w6.alloc (.cells #[.int .i64 0, .int .i64 0, .int .i64 0, .int .i64 0] 23)) w6.heap.size 23 #[.int .i64 0, .int .i64 0, .int .i64 0, .int .i64 0] := Bk.at_ rfl; have hB6 := hB5.trans (hb6.mono hB5.size); have hz6 := hB6.size; have hA6 := hB6.alloc hz6 (.cells #[.int .i64 0, .int .i64 0, .int .i64 0, .int .i64 0] 23); clear hB5 G5 hb6; go_wp2_with (refine wpList_store_bk (by rfl) _ _ _ (by rfl) w6.heap.size _ (by rfl) (by rfl) _ _ O6 (by rfl) (by kernel_rfl) (by rfl) ?_; intro w7 hst; have q0 := hst.bk.cell 0; have q1 := hst.bk.cell 1; have q2 := hst.bk.cell 2; have q3 := hst.bk.cell 3; simp only [List.getElem?_toArray, List.getElem?_cons_zero, List.getElem?_cons_succ] at q0 q1 q2 q3); have hB7 := hst.below hA6 hz6; have G7 := G.more hB7; clear hst O6 hA6 hB6 q0 q1 q2 q3); refine (line_yes G7 st ⟨rk, re, rv, rt⟩ HF.out).mono ?_; rintro e w8 ⟨rfl, hb8⟩; rw [HT.out]; go_wp2_with fail; go_ret; exact ⟨rfl, hB7.trans (hb8.mono hB7.size)⟩); (· clear hn; (simp only [POp.v]; have O6 : Bk (w6.alloc (.cells #[.int .i64 0, .int .i64 0, .int .i64 0, .int .i64 0] 23)) w6.heap.size 23 #[.int .i64 0, .int .i64 0, .int .i64 0, .int .i64 0] := Bk.at_ rfl; have hB6 := hB5.trans (hb6.mono hB5.size); have hz6 := hB6.size; have hA6 := hB6.alloc hz6 (.cells #[.int .i64 0, .int .i64 0, .int .i64 0, .int .i64 0] 23); clear hB5 G5 hb6; go_wp2_with (refine wpList_store_bk (by rfl) _ _ _ (by rfl) w6.heap.size _ (by rfl) (by rfl) _ _ O6 (by rfl) (by kernel_rfl) (by rfl) ?_; intro w7 hst; have q0 := hst.bk.cell 0; have q1 := hst.bk.cell 1; have q2 := hst.bk.cell 2; have q3 := hst.bk.cell 3; simp only [List.getElem?_toArray, List.getElem?_cons_zero, List.getElem?_cons_succ] at q0 q1 q2 q3); have hB7 := hst.below hA6 hz6; have G7 := G.more hB7; clear hst O6 hA6 hB6 q0 q1 q2 q3); go_ret; exact ⟨rfl, hB7⟩))
      · go_wp2_with fail
        refine (line_no G2 st ⟨pk, pe, pv, pt⟩ hp).mono ?_
        rintro e w3 ⟨rfl, hb3⟩
        (have B3 := B2.belowAll hb3; have hB3 := hB2.trans (hb3.mono hB2.size); have G3 := G.more hB3; clear B2 hB2 G2 hb3 y0 y1 y2 y3 y4 y5 y6 y7; have y0 := B3.cell 0; have y1 := B3.cell 1; have y2 := B3.cell 2; have y3 := B3.cell 3; have y4 := B3.cell 4; have y5 := B3.cell 5; have y6 := B3.cell 6; have y7 := B3.cell 7; simp only [List.getElem?_toArray, List.getElem?_cons_zero, List.getElem?_cons_succ] at y0 y1 y2 y3 y4 y5 y6 y7)
        (go_wp2_with fail; refine (read_is G3 st ⟨ok, oe, ov, ot⟩ HO.out).mono ?_; rintro e w4 ⟨rfl, hb4⟩; simp only [POp.v]; have B4 := (B3.belowAll hb4).alloc (.cells #[.int .i64 0, .int .i64 0, .int .i64 0, .int .i64 0] 23); have O4 : Bk (w4.alloc (.cells #[.int .i64 0, .int .i64 0, .int .i64 0, .int .i64 0] 23)) w4.heap.size 23 #[.int .i64 0, .int .i64 0, .int .i64 0, .int .i64 0] := Bk.at_ rfl; have hB4 := hB3.trans (hb4.mono hB3.size); have hz4 := hB4.size; have hlt4 := (B3.belowAll hb4).lt; have hA4 := hB4.alloc hz4 (.cells #[.int .i64 0, .int .i64 0, .int .i64 0, .int .i64 0] 23); clear B3 hB3 G3 hb4 y0 y1 y2 y3 y4 y5 y6 y7; go_wp2_with (refine wpList_store_bk (by rfl) _ _ _ (by rfl) w4.heap.size _ (by rfl) (by rfl) _ _ O4 (by rfl) (by kernel_rfl) (by rfl) ?_; intro w5 hst; have q0 := hst.bk.cell 0; have q1 := hst.bk.cell 1; have q2 := hst.bk.cell 2; have q3 := hst.bk.cell 3; simp only [List.getElem?_toArray, List.getElem?_cons_zero, List.getElem?_cons_succ] at q0 q1 q2 q3; have B5 := hst.far B4 (by omega); have y0 := B5.cell 0; have y1 := B5.cell 1; have y2 := B5.cell 2; have y3 := B5.cell 3; have y4 := B5.cell 4; have y5 := B5.cell 5; have y6 := B5.cell 6; have y7 := B5.cell 7; simp only [List.getElem?_toArray, List.getElem?_cons_zero, List.getElem?_cons_succ] at y0 y1 y2 y3 y4 y5 y6 y7); have hB5 := hst.below hA4 hz4; have G5 := G.more hB5; clear hst O4 hA4 hB4 B4 B5 q0 q1 q2 q3 y0 y1 y2 y3 y4 y5 y6 y7; generalize w4.heap.size = OB at *)
        (refine (read_any G5 st s (by omega)).mono ?_; rintro e w6 (⟨⟨rk, re, rv, rt⟩, hf, ht, rfl, hb6⟩ | ⟨hn, rfl, hb6⟩); (· have HF := Lib.hid hf; have HT := Lib.hid ht; clear hf ht; (simp only [POp.v]; have O6 : Bk (w6.alloc (.cells #[.int .i64 0, .int .i64 0, .int .i64 0, .int .i64 0] 23)) w6.heap.size 23 #[.int .i64 0, .int .i64 0, .int .i64 0, .int .i64 0] := Bk.at_ rfl; have hB6 := hB5.trans (hb6.mono hB5.size); have hz6 := hB6.size; have hA6 := hB6.alloc hz6 (.cells #[.int .i64 0, .int .i64 0, .int .i64 0, .int .i64 0] 23); clear hB5 G5 hb6; go_wp2_with (refine wpList_store_bk (by rfl) _ _ _ (by rfl) w6.heap.size _ (by rfl) (by rfl) _ _ O6 (by rfl) (by kernel_rfl) (by rfl) ?_; intro w7 hst; have q0 := hst.bk.cell 0; have q1 := hst.bk.cell 1; have q2 := hst.bk.cell 2; have q3 := hst.bk.cell 3; simp only [List.getElem?_toArray, List.getElem?_cons_zero, List.getElem?_cons_succ] at q0 q1 q2 q3); have hB7 := hst.below hA6 hz6; have G7 := G.more hB7; clear hst O6 hA6 hB6 q0 q1 q2 q3); refine (line_yes G7 st ⟨rk, re, rv, rt⟩ HF.out).mono ?_; rintro e w8 ⟨rfl, hb8⟩; rw [HT.out]; go_wp2_with fail; go_ret; exact ⟨rfl, hB7.trans (hb8.mono hB7.size)⟩); (· clear hn; (simp only [POp.v]; have O6 : Bk (w6.alloc (.cells #[.int .i64 0, .int .i64 0, .int .i64 0, .int .i64 0] 23)) w6.heap.size 23 #[.int .i64 0, .int .i64 0, .int .i64 0, .int .i64 0] := Bk.at_ rfl; have hB6 := hB5.trans (hb6.mono hB5.size); have hz6 := hB6.size; have hA6 := hB6.alloc hz6 (.cells #[.int .i64 0, .int .i64 0, .int .i64 0, .int .i64 0] 23); clear hB5 G5 hb6; go_wp2_with (refine wpList_store_bk (by rfl) _ _ _ (by rfl) w6.heap.size _ (by rfl) (by rfl) _ _ O6 (by rfl) (by kernel_rfl) (by rfl) ?_; intro w7 hst; have q0 := hst.bk.cell 0; have q1 := hst.bk.cell 1; have q2 := hst.bk.cell 2; have q3 := hst.bk.cell 3; simp only [List.getElem?_toArray, List.getElem?_cons_zero, List.getElem?_cons_succ] at q0 q1 q2 q3); have hB7 := hst.below hA6 hz6; have G7 := G.more hB7; clear hst O6 hA6 hB6 q0 q1 q2 q3); go_ret; exact ⟨rfl, hB7⟩))
    · go_wp2_with fail
      refine (line_no G1 st ⟨ok, oe, ov, ot⟩ ho).mono ?_
      rintro e w2 ⟨rfl, hb2⟩
      have B2 := B1.belowAll hb2
      have hB2 := hB1.trans (hb2.mono hB1.size)
      have G2 := G.more hB2
      clear B1 hB1 G1 hb2 y0 y1 y2 y3 y4 y5 y6 y7
      have y0 := B2.cell 0; have y1 := B2.cell 1; have y2 := B2.cell 2; have y3 := B2.cell 3; have y4 := B2.cell 4; have y5 := B2.cell 5; have y6 := B2.cell 6; have y7 := B2.cell 7; simp only [List.getElem?_toArray, List.getElem?_cons_zero, List.getElem?_cons_succ] at y0 y1 y2 y3 y4 y5 y6 y7
      by_cases hp : FitsP st ⟨pk, pe, pv, pt⟩
      · have HP := Lib.hid hp; clear hp
        go_wp2_with fail
        refine (line_yes G2 st ⟨pk, pe, pv, pt⟩ HP.out).mono ?_
        rintro e w5 ⟨rfl, hb3⟩
        have hB5 := hB2.trans (hb3.mono hB2.size)
        have G5 := G.more hB5
        clear B2 hB2 G2 hb3 y0 y1 y2 y3 y4 y5 y6 y7
        go_wp2_with fail
        (refine (read_any G5 st s (by omega)).mono ?_; rintro e w6 (⟨⟨rk, re, rv, rt⟩, hf, ht, rfl, hb6⟩ | ⟨hn, rfl, hb6⟩); (· have HF := Lib.hid hf; have HT := Lib.hid ht; clear hf ht; (simp only [POp.v]; have O6 : Bk (w6.alloc (.cells #[.int .i64 0, .int .i64 0, .int .i64 0, .int .i64 0] 23)) w6.heap.size 23 #[.int .i64 0, .int .i64 0, .int .i64 0, .int .i64 0] := Bk.at_ rfl; have hB6 := hB5.trans (hb6.mono hB5.size); have hz6 := hB6.size; have hA6 := hB6.alloc hz6 (.cells #[.int .i64 0, .int .i64 0, .int .i64 0, .int .i64 0] 23); clear hB5 G5 hb6; go_wp2_with (refine wpList_store_bk (by rfl) _ _ _ (by rfl) w6.heap.size _ (by rfl) (by rfl) _ _ O6 (by rfl) (by kernel_rfl) (by rfl) ?_; intro w7 hst; have q0 := hst.bk.cell 0; have q1 := hst.bk.cell 1; have q2 := hst.bk.cell 2; have q3 := hst.bk.cell 3; simp only [List.getElem?_toArray, List.getElem?_cons_zero, List.getElem?_cons_succ] at q0 q1 q2 q3); have hB7 := hst.below hA6 hz6; have G7 := G.more hB7; clear hst O6 hA6 hB6 q0 q1 q2 q3); refine (line_yes G7 st ⟨rk, re, rv, rt⟩ HF.out).mono ?_; rintro e w8 ⟨rfl, hb8⟩; rw [HT.out]; go_wp2_with fail; go_ret; exact ⟨rfl, hB7.trans (hb8.mono hB7.size)⟩); (· clear hn; (simp only [POp.v]; have O6 : Bk (w6.alloc (.cells #[.int .i64 0, .int .i64 0, .int .i64 0, .int .i64 0] 23)) w6.heap.size 23 #[.int .i64 0, .int .i64 0, .int .i64 0, .int .i64 0] := Bk.at_ rfl; have hB6 := hB5.trans (hb6.mono hB5.size); have hz6 := hB6.size; have hA6 := hB6.alloc hz6 (.cells #[.int .i64 0, .int .i64 0, .int .i64 0, .int .i64 0] 23); clear hB5 G5 hb6; go_wp2_with (refine wpList_store_bk (by rfl) _ _ _ (by rfl) w6.heap.size _ (by rfl) (by rfl) _ _ O6 (by rfl) (by kernel_rfl) (by rfl) ?_; intro w7 hst; have q0 := hst.bk.cell 0; have q1 := hst.bk.cell 1; have q2 := hst.bk.cell 2; have q3 := hst.bk.cell 3; simp only [List.getElem?_toArray, List.getElem?_cons_zero, List.getElem?_cons_succ] at q0 q1 q2 q3); have hB7 := hst.below hA6 hz6; have G7 := G.more hB7; clear hst O6 hA6 hB6 q0 q1 q2 q3); go_ret; exact ⟨rfl, hB7⟩))
      · go_wp2_with fail
        refine (line_no G2 st ⟨pk, pe, pv, pt⟩ hp).mono ?_
        rintro e w5 ⟨rfl, hb3⟩
        have hB5 := hB2.trans (hb3.mono hB2.size)
        have G5 := G.more hB5
        clear B2 hB2 G2 hb3 y0 y1 y2 y3 y4 y5 y6 y7
        go_wp2_with fail
        (refine (read_any G5 st s (by omega)).mono ?_; rintro e w6 (⟨⟨rk, re, rv, rt⟩, hf, ht, rfl, hb6⟩ | ⟨hn, rfl, hb6⟩); (· have HF := Lib.hid hf; have HT := Lib.hid ht; clear hf ht; (simp only [POp.v]; have O6 : Bk (w6.alloc (.cells #[.int .i64 0, .int .i64 0, .int .i64 0, .int .i64 0] 23)) w6.heap.size 23 #[.int .i64 0, .int .i64 0, .int .i64 0, .int .i64 0] := Bk.at_ rfl; have hB6 := hB5.trans (hb6.mono hB5.size); have hz6 := hB6.size; have hA6 := hB6.alloc hz6 (.cells #[.int .i64 0, .int .i64 0, .int .i64 0, .int .i64 0] 23); clear hB5 G5 hb6; go_wp2_with (refine wpList_store_bk (by rfl) _ _ _ (by rfl) w6.heap.size _ (by rfl) (by rfl) _ _ O6 (by rfl) (by kernel_rfl) (by rfl) ?_; intro w7 hst; have q0 := hst.bk.cell 0; have q1 := hst.bk.cell 1; have q2 := hst.bk.cell 2; have q3 := hst.bk.cell 3; simp only [List.getElem?_toArray, List.getElem?_cons_zero, List.getElem?_cons_succ] at q0 q1 q2 q3); have hB7 := hst.below hA6 hz6; have G7 := G.more hB7; clear hst O6 hA6 hB6 q0 q1 q2 q3); refine (line_yes G7 st ⟨rk, re, rv, rt⟩ HF.out).mono ?_; rintro e w8 ⟨rfl, hb8⟩; rw [HT.out]; go_wp2_with fail; go_ret; exact ⟨rfl, hB7.trans (hb8.mono hB7.size)⟩); (· clear hn; (simp only [POp.v]; have O6 : Bk (w6.alloc (.cells #[.int .i64 0, .int .i64 0, .int .i64 0, .int .i64 0] 23)) w6.heap.size 23 #[.int .i64 0, .int .i64 0, .int .i64 0, .int .i64 0] := Bk.at_ rfl; have hB6 := hB5.trans (hb6.mono hB5.size); have hz6 := hB6.size; have hA6 := hB6.alloc hz6 (.cells #[.int .i64 0, .int .i64 0, .int .i64 0, .int .i64 0] 23); clear hB5 G5 hb6; go_wp2_with (refine wpList_store_bk (by rfl) _ _ _ (by rfl) w6.heap.size _ (by rfl) (by rfl) _ _ O6 (by rfl) (by kernel_rfl) (by rfl) ?_; intro w7 hst; have q0 := hst.bk.cell 0; have q1 := hst.bk.cell 1; have q2 := hst.bk.cell 2; have q3 := hst.bk.cell 3; simp only [List.getElem?_toArray, List.getElem?_cons_zero, List.getElem?_cons_succ] at q0 q1 q2 q3); have hB7 := hst.below hA6 hz6; have G7 := G.more hB7; clear hst O6 hA6 hB6 q0 q1 q2 q3); go_ret; exact ⟨rfl, hB7⟩))
  · go_wp2_with fail
    go_ret
    exact ⟨rfl, hB1⟩
end Go.Proofs.YtciioiklkaannaaDoor
