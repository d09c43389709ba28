/- The reference's Pack. -/
import Derived.Test.YtfkfleojdheffaaDoorRefA
import Derived.Deep.CutBlock
namespace Go.Proofs.YtfkfleojdheffaaDoor
open Go Go.RowKit
set_option linter.unusedSimpArgs false
set_option linter.unusedVariables false
set_option linter.unusedSectionVars false

theorem digits_is (k : Int) (d : ByteArray) (h : Hid (0 ≤ k ∧ k ≤ 1099511627776 ∧ bs (Lib.decDigits k.toNat) = d)) (w : World) : Calls Tryd.prog 24 #[.int .i64 k] w fun e w' => e = .returned (.string d) ∧ Below w.heap.size w w' := by
  obtain ⟨h0, h1, rfl⟩ := h.out
  obtain ⟨n, rfl⟩ : ∃ n : Nat, k = n := ⟨k.toNat, by omega⟩
  exact digits_any n w (by omega)
theorem digits_size (k : Int) (h0 : 0 ≤ k) (h1 : k ≤ 1099511627776) : ∃ d, Hid (0 ≤ k ∧ k ≤ 1099511627776 ∧ bs (Lib.decDigits k.toNat) = d) ∧ d.size ≤ 13 :=
  ⟨_, ⟨h0, h1, rfl⟩, by rw [bs_size]; exact dec_len 12 _ (by omega)⟩

theorem letter_of (slot gen tag num : Int) (mark : Bool) : letter ⟨slot, gen, tag, num, mark⟩ = if mark then 109 else 110 := rfl
theorem itoa_pos' {n : Int} (h : 0 ≤ n) : Lib.itoa n = Lib.decDigits n.toNat := by unfold Lib.itoa; rw [if_neg (by omega)]
theorem ref_txt_neg {slot gen tag num : Int} {mark : Bool} {d0 d1 d2 d3 : ByteArray} {c : UInt8} (hc : letter ⟨slot, gen, tag, num, mark⟩ = c) (h0 : bs (Lib.decDigits slot.toNat) = d0) (h1 : bs (Lib.decDigits gen.toNat) = d1) (h2 : bs (Lib.decDigits tag.toNat) = d2) (h3 : bs (Lib.decDigits (-num).toNat) = d3)
    (s0 : 0 ≤ slot) (g0 : 0 ≤ gen) (t0 : 0 ≤ tag) (hn : num < 0) :
    (⟨#[c]⟩ : ByteArray) ++ ⟨#[46]⟩ ++ d0 ++ ⟨#[46]⟩ ++ d1 ++ ⟨#[46]⟩ ++ d2 ++ ⟨#[46]⟩ ++ ⟨#[45]⟩ ++ d3 = bs (txt ⟨slot, gen, tag, num, mark⟩) := by
  subst h0 h1 h2 h3 hc
  rw [txt_eq]
  simp only []
  rw [itoa_pos' s0, itoa_pos' g0, itoa_pos' t0, itoa_negs num hn, show num.natAbs = (-num).toNat from by omega]
  apply ByteArray.ext
  simp [bs, ByteArray.data_append]
theorem ref_txt_pos {slot gen tag num : Int} {mark : Bool} {d0 d1 d2 d3 : ByteArray} {c : UInt8} (hc : letter ⟨slot, gen, tag, num, mark⟩ = c) (h0 : bs (Lib.decDigits slot.toNat) = d0) (h1 : bs (Lib.decDigits gen.toNat) = d1) (h2 : bs (Lib.decDigits tag.toNat) = d2) (h3 : bs (Lib.decDigits num.toNat) = d3)
    (s0 : 0 ≤ slot) (g0 : 0 ≤ gen) (t0 : 0 ≤ tag) (hn : ¬ num < 0) :
    (⟨#[c]⟩ : ByteArray) ++ ⟨#[46]⟩ ++ d0 ++ ⟨#[46]⟩ ++ d1 ++ ⟨#[46]⟩ ++ d2 ++ ⟨#[46]⟩ ++ ⟨#[]⟩ ++ d3 = bs (txt ⟨slot, gen, tag, num, mark⟩) := by
  subst h0 h1 h2 h3 hc
  rw [txt_eq]
  simp only []
  rw [itoa_pos' s0, itoa_pos' g0, itoa_pos' t0, itoa_pos' (n := num) (by omega)]
  apply ByteArray.ext
  simp [bs, ByteArray.data_append]

set_option maxRecDepth 100000 in
set_option maxHeartbeats 3200000 in
theorem refPack_yes (x : PW) (hx : GoodP x) (w : World) : Calls Tryd.prog 10 #[x.v] w (RetS (txt x) w) := by
  have hg : goodB x = true := (goodB_true x).2 hx
  have HG := Lib.hid hg; clear hg
  obtain ⟨slot, gen, tag, num, mark⟩ := x
  unfold GoodP at hx
  simp only at hx
  obtain ⟨_, s0, s1, g0, g1, t0, t1, n0, n1⟩ := hx
  obtain ⟨d0, D0, l0⟩ := digits_size slot (by omega) (by omega)
  obtain ⟨d1, D1, l1⟩ := digits_size gen (by omega) (by omega)
  obtain ⟨d2, D2, l2⟩ := digits_size tag (by omega) (by omega)
  have hb0 : Below w.heap.size w (w.alloc (.cells #[.int .i64 slot, .int .i64 gen, .int .i64 tag, .int .i64 num, .bool mark] 23)) := (Below.refl _ _).alloc (Nat.le_refl _) _
  have B0 : Bk (w.alloc (.cells #[.int .i64 slot, .int .i64 gen, .int .i64 tag, .int .i64 num, .bool mark] 23)) w.heap.size 23 #[.int .i64 slot, .int .i64 gen, .int .i64 tag, .int .i64 num, .bool mark] := Bk.at_ rfl
  simp only [PW.v]
  go_enter Tryd.func10, Tryd.ntmps10
  go_wp2_with fail
  refine (refGood_any ⟨slot, gen, tag, num, mark⟩ _).mono ?_
  rintro e w1 ⟨rfl, hb1'⟩
  have B1 := B0.belowAll hb1'
  have hb1 := hb0.trans (hb1'.mono hb0.size)
  rw [HG.out]
  clear hb0 B0 hb1'
  obtain ⟨a0, a1, a2, a3, a4⟩ := bk5 B1
  cases mark
  · by_cases hn : num < 0
    · have dn : decide (num < 0) = true := decide_eq_true hn
      obtain ⟨d3, D3, l3⟩ := digits_size (-num) (by omega) (by omega)
      go_upto_region 11 with (fail)
      (refine wp_region_class (fun w' : World => Bk w' w.heap.size 23 #[.int .i64 slot, .int .i64 gen, .int .i64 tag, .int .i64 num, .bool false] ∧ Below w.heap.size w w') (by kernel_rfl) (by kernel_rfl) ⟨B1.drew, hb1.drew⟩ ?_; clear a0 a1 a2 a3 a4 B1 hb1; (repeat (first | go_big_quiet_skip | (go_big_quiet_want; first | (go_big_quiet_op; go_big_quiet_on) | (apply Exists.intro; refine ⟨fun w' hC => ?_, ?_⟩; (· (obtain ⟨hA, hB⟩ := hC; obtain ⟨a0, a1, a2, a3, a4⟩ := bk5 hA; go_simp; first | done | rfl | exact ⟨rfl, rfl⟩ | (go_at_call 24; (first | (with_reducible refine (digits_is _ _ D0 _).mono ?_) | (with_reducible refine (digits_is _ _ D1 _).mono ?_) | (with_reducible refine (digits_is _ _ D2 _).mono ?_) | (with_reducible refine (digits_is _ _ D3 _).mono ?_)); rintro e w'' ⟨rfl, hb⟩; exact ⟨rfl, hA.belowAll hb, hB.trans (hb.mono hB.size)⟩) | (rw [if_neg]; exact ⟨rfl, rfl⟩; omega))); go_big_quiet_on; simp only [Act.put, List.setIfInBounds_toArray, List.set_cons_succ, List.set_cons_zero])))); refine wpQuiet_nil ?_; intro w5 hC5; (try dsimp only); go_wp2_with fail; go_ret; refine ⟨?_, hC5.2⟩; refine congrArg (fun z => Ending.returned (.string z)) ?_)
      exact ref_txt_neg (letter_of _ _ _ _ _) D0.out.2.2 D1.out.2.2 D2.out.2.2 D3.out.2.2 s0 g0 t0 hn
    · have dn : decide (num < 0) = false := decide_eq_false hn
      obtain ⟨d3, D3, l3⟩ := digits_size num (by omega) (by omega)
      go_upto_region 11 with (fail)
      (refine wp_region_class (fun w' : World => Bk w' w.heap.size 23 #[.int .i64 slot, .int .i64 gen, .int .i64 tag, .int .i64 num, .bool false] ∧ Below w.heap.size w w') (by kernel_rfl) (by kernel_rfl) ⟨B1.drew, hb1.drew⟩ ?_; clear a0 a1 a2 a3 a4 B1 hb1; (repeat (first | go_big_quiet_skip | (go_big_quiet_want; first | (go_big_quiet_op; go_big_quiet_on) | (apply Exists.intro; refine ⟨fun w' hC => ?_, ?_⟩; (· (obtain ⟨hA, hB⟩ := hC; obtain ⟨a0, a1, a2, a3, a4⟩ := bk5 hA; go_simp; first | done | rfl | exact ⟨rfl, rfl⟩ | (go_at_call 24; (first | (with_reducible refine (digits_is _ _ D0 _).mono ?_) | (with_reducible refine (digits_is _ _ D1 _).mono ?_) | (with_reducible refine (digits_is _ _ D2 _).mono ?_) | (with_reducible refine (digits_is _ _ D3 _).mono ?_)); rintro e w'' ⟨rfl, hb⟩; exact ⟨rfl, hA.belowAll hb, hB.trans (hb.mono hB.size)⟩) | (rw [if_neg]; exact ⟨rfl, rfl⟩; omega))); go_big_quiet_on; simp only [Act.put, List.setIfInBounds_toArray, List.set_cons_succ, List.set_cons_zero])))); refine wpQuiet_nil ?_; intro w5 hC5; (try dsimp only); go_wp2_with fail; go_ret; refine ⟨?_, hC5.2⟩; refine congrArg (fun z => Ending.returned (.string z)) ?_)
      exact ref_txt_pos (letter_of _ _ _ _ _) D0.out.2.2 D1.out.2.2 D2.out.2.2 D3.out.2.2 s0 g0 t0 (Int.not_lt.2 hn)
  · by_cases hn : num < 0
    · have dn : decide (num < 0) = true := decide_eq_true hn
      obtain ⟨d3, D3, l3⟩ := digits_size (-num) (by omega) (by omega)
      go_upto_region 11 with (fail)
      (refine wp_region_class (fun w' : World => Bk w' w.heap.size 23 #[.int .i64 slot, .int .i64 gen, .int .i64 tag, .int .i64 num, .bool true] ∧ Below w.heap.size w w') (by kernel_rfl) (by kernel_rfl) ⟨B1.drew, hb1.drew⟩ ?_; clear a0 a1 a2 a3 a4 B1 hb1; (repeat (first | go_big_quiet_skip | (go_big_quiet_want; first | (go_big_quiet_op; go_big_quiet_on) | (apply Exists.intro; refine ⟨fun w' hC => ?_, ?_⟩; (· (obtain ⟨hA, hB⟩ := hC; obtain ⟨a0, a1, a2, a3, a4⟩ := bk5 hA; go_simp; first | done | rfl | exact ⟨rfl, rfl⟩ | (go_at_call 24; (first | (with_reducible refine (digits_is _ _ D0 _).mono ?_) | (with_reducible refine (digits_is _ _ D1 _).mono ?_) | (with_reducible refine (digits_is _ _ D2 _).mono ?_) | (with_reducible refine (digits_is _ _ D3 _).mono ?_)); rintro e w'' ⟨rfl, hb⟩; exact ⟨rfl, hA.belowAll hb, hB.trans (hb.mono hB.size)⟩) | (rw [if_neg]; exact ⟨rfl, rfl⟩; omega))); go_big_quiet_on; simp only [Act.put, List.setIfInBounds_toArray, List.set_cons_succ, List.set_cons_zero])))); refine wpQuiet_nil ?_; intro w5 hC5; (try dsimp only); go_wp2_with fail; go_ret; refine ⟨?_, hC5.2⟩; refine congrArg (fun z => Ending.returned (.string z)) ?_)
      exact ref_txt_neg (letter_of _ _ _ _ _) D0.out.2.2 D1.out.2.2 D2.out.2.2 D3.out.2.2 s0 g0 t0 hn
    · have dn : decide (num < 0) = false := decide_eq_false hn
      obtain ⟨d3, D3, l3⟩ := digits_size num (by omega) (by omega)
      go_upto_region 11 with (fail)
      (refine wp_region_class (fun w' : World => Bk w' w.heap.size 23 #[.int .i64 slot, .int .i64 gen, .int .i64 tag, .int .i64 num, .bool true] ∧ Below w.heap.size w w') (by kernel_rfl) (by kernel_rfl) ⟨B1.drew, hb1.drew⟩ ?_; clear a0 a1 a2 a3 a4 B1 hb1; (repeat (first | go_big_quiet_skip | (go_big_quiet_want; first | (go_big_quiet_op; go_big_quiet_on) | (apply Exists.intro; refine ⟨fun w' hC => ?_, ?_⟩; (· (obtain ⟨hA, hB⟩ := hC; obtain ⟨a0, a1, a2, a3, a4⟩ := bk5 hA; go_simp; first | done | rfl | exact ⟨rfl, rfl⟩ | (go_at_call 24; (first | (with_reducible refine (digits_is _ _ D0 _).mono ?_) | (with_reducible refine (digits_is _ _ D1 _).mono ?_) | (with_reducible refine (digits_is _ _ D2 _).mono ?_) | (with_reducible refine (digits_is _ _ D3 _).mono ?_)); rintro e w'' ⟨rfl, hb⟩; exact ⟨rfl, hA.belowAll hb, hB.trans (hb.mono hB.size)⟩) | (rw [if_neg]; exact ⟨rfl, rfl⟩; omega))); go_big_quiet_on; simp only [Act.put, List.setIfInBounds_toArray, List.set_cons_succ, List.set_cons_zero])))); refine wpQuiet_nil ?_; intro w5 hC5; (try dsimp only); go_wp2_with fail; go_ret; refine ⟨?_, hC5.2⟩; refine congrArg (fun z => Ending.returned (.string z)) ?_)
      exact ref_txt_pos (letter_of _ _ _ _ _) D0.out.2.2 D1.out.2.2 D2.out.2.2 D3.out.2.2 s0 g0 t0 (Int.not_lt.2 hn)

set_option maxRecDepth 100000 in
set_option maxHeartbeats 1600000 in
theorem refPack_no (x : PW) (hx : ¬ GoodP x) (w : World) : Calls Tryd.prog 10 #[x.v] w (RetS [] w) := by
  have hg : goodB x = false := (goodB_false x).2 hx
  have HG := Lib.hid hg; clear hg hx
  obtain ⟨slot, gen, tag, num, mark⟩ := x
  have hb0 : Below w.heap.size w (w.alloc (.cells #[.int .i64 slot, .int .i64 gen, .int .i64 tag, .int .i64 num, .bool mark] 23)) := (Below.refl _ _).alloc (Nat.le_refl _) _
  simp only [PW.v]
  go_enter Tryd.func10, Tryd.ntmps10
  go_wp2_with fail
  refine (refGood_any ⟨slot, gen, tag, num, mark⟩ _).mono ?_
  rintro e w1 ⟨rfl, hb1'⟩
  have hb1 := hb0.trans (hb1'.mono hb0.size)
  rw [HG.out]
  clear hb0 hb1'
  go_wp2_with fail
  go_ret
  exact ⟨rfl, hb1⟩
end Go.Proofs.YtfkfleojdheffaaDoor
