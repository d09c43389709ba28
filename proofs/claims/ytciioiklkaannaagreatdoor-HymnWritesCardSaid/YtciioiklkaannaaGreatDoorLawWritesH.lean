/- HymnWrites: every script and operation has the text that the reference says, or none. -/
import Derived.Test.YtciioiklkaannaaGreatDoorRfC
import Derived.Test.YtciioiklkaannaaGreatDoorAwakeH
import Derived.Test.YtciioiklkaannaaGreatDoorFnRefGd
namespace Go.Proofs.YtciioiklkaannaaGreatDoor
open Go Go.RowKit
set_option linter.unusedSimpArgs false
set_option linter.unusedVariables false
set_option linter.unusedSectionVars false

/-- A script and an operation, boxed. -/
structure WK (w : World) (x : PScr) (A : Option Addr) (k : Nat) (A' : Option Addr) (k' : Nat) (o : POp) (a b c : Addr) (m : Int) (wr : World) : Prop where
  bx : Bk wr w.heap.size 27 #[.int .i64 x.st, .int .i64 x.en, .int .i64 x.th, .int .i64 x.sl, .int .i64 x.no, .slice A x.ops.length k, .slice A' x.picks.length k']
  bo : Bk wr (w.heap.size + 1) 29 #[.int .i64 o.kind, .int .i64 o.key, .int .i64 o.val, .int .i64 o.tall]
  sa : SA wr x A k A' k'
  g : GH wr a b c m
  below : Below w.heap.size w wr
theorem WK.more {w : World} {x : PScr} {A : Option Addr} {k : Nat} {A' : Option Addr} {k' : Nat} {o : POp} {a b c : Addr} {m : Int} {wr w1 : World} (h : WK w x A k A' k' o a b c m wr) (hb : Below wr.heap.size wr w1) : WK w x A k A' k' o a b c m w1 :=
  ⟨h.bx.belowAll hb, h.bo.belowAll hb, h.sa.more hb, h.g.more hb, h.below.trans (hb.mono h.below.size)⟩

set_option maxRecDepth 100000 in
set_option maxHeartbeats 6400000 in
theorem hymnWrites_any {w : World} {a b c : Addr} {m : Int} (G : GH w a b c m) (x : PScr) (A A' : Option Addr) (k k' : Nat) (S : SA w x A k A' k') (st : Int) (o : POp) :
    Calls Tryz.prog 3 #[x.v A k A' k', .int .i64 st, o.v] w (RetB true w) := by
  have hlo := S.lo
  have hlp := Nat.le_trans S.lp S.lc
  obtain ⟨ok, oe, ov, ot⟩ := o
  have K0 : WK w x A k A' k' ⟨ok, oe, ov, ot⟩ a b c m ((w.alloc (.cells #[.int .i64 x.st, .int .i64 x.en, .int .i64 x.th, .int .i64 x.sl, .int .i64 x.no, .slice A x.ops.length k, .slice A' x.picks.length k'] 27)).alloc (.cells #[.int .i64 ok, .int .i64 oe, .int .i64 ov, .int .i64 ot] 29)) :=
    ⟨(Bk.at_ rfl).alloc _, Bk.at_ (by simp), (S.more ((Below.refl _ _).alloc (Nat.le_refl _) _)).more ((Below.refl _ _).alloc (Nat.le_refl _) _), (G.alloc _).alloc _, ((Below.refl _ _).alloc (Nat.le_refl _) _).alloc (by simp) _⟩
  simp only [PScr.v, POp.v]
  go_enter Tryz.func3, Tryz.ntmps3
  go_wp2_with fail
  generalize ((w.alloc (.cells #[.int .i64 x.st, .int .i64 x.en, .int .i64 x.th, .int .i64 x.sl, .int .i64 x.no, .slice A x.ops.length k, .slice A' x.picks.length k'] 27)).alloc (.cells #[.int .i64 ok, .int .i64 oe, .int .i64 ov, .int .i64 ot] 29)) = w0 at *
  refine (awake_any K0.g).mono ?_
  rintro e w1 ⟨rfl, hb1⟩
  have K1 := K0.more hb1
  clear K0 hb1
  have x0 := K1.bx.cell 0; have x1 := K1.bx.cell 1; have x2 := K1.bx.cell 2; have x3 := K1.bx.cell 3; have x4 := K1.bx.cell 4; have x5 := K1.bx.cell 5; have x6 := K1.bx.cell 6; have o0 := K1.bo.cell 0; have o1 := K1.bo.cell 1; have o2 := K1.bo.cell 2; have o3 := K1.bo.cell 3; have ea := K1.g.ea; simp only [List.getElem?_toArray, List.getElem?_cons_zero, List.getElem?_cons_succ] at x0 x1 x2 x3 x4 x5 x6 o0 o1 o2 o3
  by_cases h1 : x.ops.length ≤ 100
  case neg =>
    have i1 : (100 : Int) < (x.ops.length : Int) := by omega
    go_wp2_with fail
    go_ret
    exact ⟨rfl, K1.below⟩
  have i1 : (x.ops.length : Int) ≤ 100 := by omega
  by_cases h2 : x.picks.length ≤ 4200
  case neg =>
    have i2 : (4200 : Int) < (x.picks.length : Int) := by omega
    go_wp2_with fail
    go_ret
    exact ⟨rfl, K1.below⟩
  have i2 : (x.picks.length : Int) ≤ 4200 := by omega
  clear h1 h2
  cases hg : goodB x
  · have HG := Lib.hid hg; clear hg
    go_wp2_with fail
    refine (print_bad K1.g x A A' k k' K1.sa HG.out).mono ?_
    rintro e w2 ⟨rfl, hb2⟩
    (have K2 := K1.more hb2; clear K1 hb2 x0 x1 x2 x3 x4 x5 x6 o0 o1 o2 o3 ea; have x0 := K2.bx.cell 0; have x1 := K2.bx.cell 1; have x2 := K2.bx.cell 2; have x3 := K2.bx.cell 3; have x4 := K2.bx.cell 4; have x5 := K2.bx.cell 5; have x6 := K2.bx.cell 6; have o0 := K2.bo.cell 0; have o1 := K2.bo.cell 1; have o2 := K2.bo.cell 2; have o3 := K2.bo.cell 3; have ea := K2.g.ea; simp only [List.getElem?_toArray, List.getElem?_cons_zero, List.getElem?_cons_succ] at x0 x1 x2 x3 x4 x5 x6 o0 o1 o2 o3)
    by_cases hf : FitsP st ⟨ok, oe, ov, ot⟩
    · have HF := Lib.hid hf; clear hf
      obtain ⟨L, hL⟩ : ∃ L, bs (lineL st ⟨ok, oe, ov, ot⟩) = L := ⟨_, rfl⟩
      have HL := Lib.hid hL; clear hL
      go_wp2_with fail
      refine (line_yes K2.g st ⟨ok, oe, ov, ot⟩ HF.out).mono ?_
      rintro e w3 ⟨rfl, hb3⟩
      rw [HL.out]
      (have K3 := K2.more hb3; clear K2 hb3 x0 x1 x2 x3 x4 x5 x6 o0 o1 o2 o3 ea; have x0 := K3.bx.cell 0; have x1 := K3.bx.cell 1; have x2 := K3.bx.cell 2; have x3 := K3.bx.cell 3; have x4 := K3.bx.cell 4; have x5 := K3.bx.cell 5; have x6 := K3.bx.cell 6; have o0 := K3.bo.cell 0; have o1 := K3.bo.cell 1; have o2 := K3.bo.cell 2; have o3 := K3.bo.cell 3; have ea := K3.g.ea; simp only [List.getElem?_toArray, List.getElem?_cons_zero, List.getElem?_cons_succ] at x0 x1 x2 x3 x4 x5 x6 o0 o1 o2 o3)
      ((go_wp2_with fail; refine (refGood_any x A A' k k' _ K3.sa.so K3.sa.sp hlo hlp).mono ?_; rintro e w4 ⟨rfl, hb4⟩; rw [HG.out]; (have K4 := K3.more hb4; clear K3 hb4 x0 x1 x2 x3 x4 x5 x6 o0 o1 o2 o3 ea; have x0 := K4.bx.cell 0; have x1 := K4.bx.cell 1; have x2 := K4.bx.cell 2; have x3 := K4.bx.cell 3; have x4 := K4.bx.cell 4; have x5 := K4.bx.cell 5; have x6 := K4.bx.cell 6; have o0 := K4.bo.cell 0; have o1 := K4.bo.cell 1; have o2 := K4.bo.cell 2; have o3 := K4.bo.cell 3; have ea := K4.g.ea; simp only [List.getElem?_toArray, List.getElem?_cons_zero, List.getElem?_cons_succ] at x0 x1 x2 x3 x4 x5 x6 o0 o1 o2 o3); go_wp2_with fail); refine (is_same a _).mono ?_; rintro e w5 ⟨rfl, rfl⟩; have K5 := K4; clear K4; go_wp2_with fail)
      ((refine (refFits_any st ⟨ok, oe, ov, ot⟩ _).mono ?_; rintro e w6 ⟨rfl, hb6⟩; (have K6 := K5.more hb6; clear K5 hb6 x0 x1 x2 x3 x4 x5 x6 o0 o1 o2 o3 ea; have x0 := K6.bx.cell 0; have x1 := K6.bx.cell 1; have x2 := K6.bx.cell 2; have x3 := K6.bx.cell 3; have x4 := K6.bx.cell 4; have x5 := K6.bx.cell 5; have x6 := K6.bx.cell 6; have o0 := K6.bo.cell 0; have o1 := K6.bo.cell 1; have o2 := K6.bo.cell 2; have o3 := K6.bo.cell 3; have ea := K6.g.ea; simp only [List.getElem?_toArray, List.getElem?_cons_zero, List.getElem?_cons_succ] at x0 x1 x2 x3 x4 x5 x6 o0 o1 o2 o3)); rw [(fitsB_true st _).2 HF.out]; go_wp2_with fail; refine (refLine_any st ⟨ok, oe, ov, ot⟩ HF.out _ L HL.out).mono ?_; rintro e w7 ⟨rfl, hb7⟩; have hB := (K6.more hb7).below; go_wp2_with fail; go_ret; exact ⟨rfl, hB⟩)
    · have HF := Lib.hid hf; clear hf
      go_wp2_with fail
      refine (line_no K2.g st ⟨ok, oe, ov, ot⟩ HF.out).mono ?_
      rintro e w3 ⟨rfl, hb3⟩
      (have K3 := K2.more hb3; clear K2 hb3 x0 x1 x2 x3 x4 x5 x6 o0 o1 o2 o3 ea; have x0 := K3.bx.cell 0; have x1 := K3.bx.cell 1; have x2 := K3.bx.cell 2; have x3 := K3.bx.cell 3; have x4 := K3.bx.cell 4; have x5 := K3.bx.cell 5; have x6 := K3.bx.cell 6; have o0 := K3.bo.cell 0; have o1 := K3.bo.cell 1; have o2 := K3.bo.cell 2; have o3 := K3.bo.cell 3; have ea := K3.g.ea; simp only [List.getElem?_toArray, List.getElem?_cons_zero, List.getElem?_cons_succ] at x0 x1 x2 x3 x4 x5 x6 o0 o1 o2 o3)
      ((go_wp2_with fail; refine (refGood_any x A A' k k' _ K3.sa.so K3.sa.sp hlo hlp).mono ?_; rintro e w4 ⟨rfl, hb4⟩; rw [HG.out]; (have K4 := K3.more hb4; clear K3 hb4 x0 x1 x2 x3 x4 x5 x6 o0 o1 o2 o3 ea; have x0 := K4.bx.cell 0; have x1 := K4.bx.cell 1; have x2 := K4.bx.cell 2; have x3 := K4.bx.cell 3; have x4 := K4.bx.cell 4; have x5 := K4.bx.cell 5; have x6 := K4.bx.cell 6; have o0 := K4.bo.cell 0; have o1 := K4.bo.cell 1; have o2 := K4.bo.cell 2; have o3 := K4.bo.cell 3; have ea := K4.g.ea; simp only [List.getElem?_toArray, List.getElem?_cons_zero, List.getElem?_cons_succ] at x0 x1 x2 x3 x4 x5 x6 o0 o1 o2 o3); go_wp2_with fail); refine (is_same a _).mono ?_; rintro e w5 ⟨rfl, rfl⟩; have K5 := K4; clear K4; go_wp2_with fail)
      ((refine (refFits_any st ⟨ok, oe, ov, ot⟩ _).mono ?_; rintro e w6 ⟨rfl, hb6⟩; (have K6 := K5.more hb6; clear K5 hb6 x0 x1 x2 x3 x4 x5 x6 o0 o1 o2 o3 ea; have x0 := K6.bx.cell 0; have x1 := K6.bx.cell 1; have x2 := K6.bx.cell 2; have x3 := K6.bx.cell 3; have x4 := K6.bx.cell 4; have x5 := K6.bx.cell 5; have x6 := K6.bx.cell 6; have o0 := K6.bo.cell 0; have o1 := K6.bo.cell 1; have o2 := K6.bo.cell 2; have o3 := K6.bo.cell 3; have ea := K6.g.ea; simp only [List.getElem?_toArray, List.getElem?_cons_zero, List.getElem?_cons_succ] at x0 x1 x2 x3 x4 x5 x6 o0 o1 o2 o3)); rw [show fitsB st ⟨ok, oe, ov, ot⟩ = false from by rw [Bool.eq_false_iff, Ne, fitsB_true]; exact HF.out]; go_wp2_with fail; refine (is_same a _).mono ?_; rintro e w7 ⟨rfl, rfl⟩; have hB := K6.below; go_wp2_with fail; go_ret; exact ⟨rfl, hB⟩)
  · have HG := Lib.hid hg; clear hg
    obtain ⟨X, hX⟩ : ∃ X, bs (textL x) = X := ⟨_, rfl⟩
    have HX := Lib.hid hX; clear hX
    go_wp2_with fail
    refine (print_good K1.g x A A' k k' K1.sa HG.out).mono ?_
    rintro e w2 ⟨rfl, hb2⟩
    rw [HX.out]
    (have K2 := K1.more hb2; clear K1 hb2 x0 x1 x2 x3 x4 x5 x6 o0 o1 o2 o3 ea; have x0 := K2.bx.cell 0; have x1 := K2.bx.cell 1; have x2 := K2.bx.cell 2; have x3 := K2.bx.cell 3; have x4 := K2.bx.cell 4; have x5 := K2.bx.cell 5; have x6 := K2.bx.cell 6; have o0 := K2.bo.cell 0; have o1 := K2.bo.cell 1; have o2 := K2.bo.cell 2; have o3 := K2.bo.cell 3; have ea := K2.g.ea; simp only [List.getElem?_toArray, List.getElem?_cons_zero, List.getElem?_cons_succ] at x0 x1 x2 x3 x4 x5 x6 o0 o1 o2 o3)
    by_cases hf : FitsP st ⟨ok, oe, ov, ot⟩
    · have HF := Lib.hid hf; clear hf
      obtain ⟨L, hL⟩ : ∃ L, bs (lineL st ⟨ok, oe, ov, ot⟩) = L := ⟨_, rfl⟩
      have HL := Lib.hid hL; clear hL
      go_wp2_with fail
      refine (line_yes K2.g st ⟨ok, oe, ov, ot⟩ HF.out).mono ?_
      rintro e w3 ⟨rfl, hb3⟩
      rw [HL.out]
      (have K3 := K2.more hb3; clear K2 hb3 x0 x1 x2 x3 x4 x5 x6 o0 o1 o2 o3 ea; have x0 := K3.bx.cell 0; have x1 := K3.bx.cell 1; have x2 := K3.bx.cell 2; have x3 := K3.bx.cell 3; have x4 := K3.bx.cell 4; have x5 := K3.bx.cell 5; have x6 := K3.bx.cell 6; have o0 := K3.bo.cell 0; have o1 := K3.bo.cell 1; have o2 := K3.bo.cell 2; have o3 := K3.bo.cell 3; have ea := K3.g.ea; simp only [List.getElem?_toArray, List.getElem?_cons_zero, List.getElem?_cons_succ] at x0 x1 x2 x3 x4 x5 x6 o0 o1 o2 o3)
      ((go_wp2_with fail; refine (refGood_any x A A' k k' _ K3.sa.so K3.sa.sp hlo hlp).mono ?_; rintro e w4 ⟨rfl, hb4⟩; rw [HG.out]; (have K4 := K3.more hb4; clear K3 hb4 x0 x1 x2 x3 x4 x5 x6 o0 o1 o2 o3 ea; have x0 := K4.bx.cell 0; have x1 := K4.bx.cell 1; have x2 := K4.bx.cell 2; have x3 := K4.bx.cell 3; have x4 := K4.bx.cell 4; have x5 := K4.bx.cell 5; have x6 := K4.bx.cell 6; have o0 := K4.bo.cell 0; have o1 := K4.bo.cell 1; have o2 := K4.bo.cell 2; have o3 := K4.bo.cell 3; have ea := K4.g.ea; simp only [List.getElem?_toArray, List.getElem?_cons_zero, List.getElem?_cons_succ] at x0 x1 x2 x3 x4 x5 x6 o0 o1 o2 o3); go_wp2_with fail); refine (refPrint_any x A A' k k' _ K4.sa HG.out).mono ?_; rintro e w5 ⟨rfl, hb5⟩; rw [HX.out]; (have K5 := K4.more hb5; clear K4 hb5 x0 x1 x2 x3 x4 x5 x6 o0 o1 o2 o3 ea; have x0 := K5.bx.cell 0; have x1 := K5.bx.cell 1; have x2 := K5.bx.cell 2; have x3 := K5.bx.cell 3; have x4 := K5.bx.cell 4; have x5 := K5.bx.cell 5; have x6 := K5.bx.cell 6; have o0 := K5.bo.cell 0; have o1 := K5.bo.cell 1; have o2 := K5.bo.cell 2; have o3 := K5.bo.cell 3; have ea := K5.g.ea; simp only [List.getElem?_toArray, List.getElem?_cons_zero, List.getElem?_cons_succ] at x0 x1 x2 x3 x4 x5 x6 o0 o1 o2 o3); go_wp2_with fail)
      ((refine (refFits_any st ⟨ok, oe, ov, ot⟩ _).mono ?_; rintro e w6 ⟨rfl, hb6⟩; (have K6 := K5.more hb6; clear K5 hb6 x0 x1 x2 x3 x4 x5 x6 o0 o1 o2 o3 ea; have x0 := K6.bx.cell 0; have x1 := K6.bx.cell 1; have x2 := K6.bx.cell 2; have x3 := K6.bx.cell 3; have x4 := K6.bx.cell 4; have x5 := K6.bx.cell 5; have x6 := K6.bx.cell 6; have o0 := K6.bo.cell 0; have o1 := K6.bo.cell 1; have o2 := K6.bo.cell 2; have o3 := K6.bo.cell 3; have ea := K6.g.ea; simp only [List.getElem?_toArray, List.getElem?_cons_zero, List.getElem?_cons_succ] at x0 x1 x2 x3 x4 x5 x6 o0 o1 o2 o3)); rw [(fitsB_true st _).2 HF.out]; go_wp2_with fail; refine (refLine_any st ⟨ok, oe, ov, ot⟩ HF.out _ L HL.out).mono ?_; rintro e w7 ⟨rfl, hb7⟩; have hB := (K6.more hb7).below; go_wp2_with fail; go_ret; exact ⟨rfl, hB⟩)
    · have HF := Lib.hid hf; clear hf
      go_wp2_with fail
      refine (line_no K2.g st ⟨ok, oe, ov, ot⟩ HF.out).mono ?_
      rintro e w3 ⟨rfl, hb3⟩
      (have K3 := K2.more hb3; clear K2 hb3 x0 x1 x2 x3 x4 x5 x6 o0 o1 o2 o3 ea; have x0 := K3.bx.cell 0; have x1 := K3.bx.cell 1; have x2 := K3.bx.cell 2; have x3 := K3.bx.cell 3; have x4 := K3.bx.cell 4; have x5 := K3.bx.cell 5; have x6 := K3.bx.cell 6; have o0 := K3.bo.cell 0; have o1 := K3.bo.cell 1; have o2 := K3.bo.cell 2; have o3 := K3.bo.cell 3; have ea := K3.g.ea; simp only [List.getElem?_toArray, List.getElem?_cons_zero, List.getElem?_cons_succ] at x0 x1 x2 x3 x4 x5 x6 o0 o1 o2 o3)
      ((go_wp2_with fail; refine (refGood_any x A A' k k' _ K3.sa.so K3.sa.sp hlo hlp).mono ?_; rintro e w4 ⟨rfl, hb4⟩; rw [HG.out]; (have K4 := K3.more hb4; clear K3 hb4 x0 x1 x2 x3 x4 x5 x6 o0 o1 o2 o3 ea; have x0 := K4.bx.cell 0; have x1 := K4.bx.cell 1; have x2 := K4.bx.cell 2; have x3 := K4.bx.cell 3; have x4 := K4.bx.cell 4; have x5 := K4.bx.cell 5; have x6 := K4.bx.cell 6; have o0 := K4.bo.cell 0; have o1 := K4.bo.cell 1; have o2 := K4.bo.cell 2; have o3 := K4.bo.cell 3; have ea := K4.g.ea; simp only [List.getElem?_toArray, List.getElem?_cons_zero, List.getElem?_cons_succ] at x0 x1 x2 x3 x4 x5 x6 o0 o1 o2 o3); go_wp2_with fail); refine (refPrint_any x A A' k k' _ K4.sa HG.out).mono ?_; rintro e w5 ⟨rfl, hb5⟩; rw [HX.out]; (have K5 := K4.more hb5; clear K4 hb5 x0 x1 x2 x3 x4 x5 x6 o0 o1 o2 o3 ea; have x0 := K5.bx.cell 0; have x1 := K5.bx.cell 1; have x2 := K5.bx.cell 2; have x3 := K5.bx.cell 3; have x4 := K5.bx.cell 4; have x5 := K5.bx.cell 5; have x6 := K5.bx.cell 6; have o0 := K5.bo.cell 0; have o1 := K5.bo.cell 1; have o2 := K5.bo.cell 2; have o3 := K5.bo.cell 3; have ea := K5.g.ea; simp only [List.getElem?_toArray, List.getElem?_cons_zero, List.getElem?_cons_succ] at x0 x1 x2 x3 x4 x5 x6 o0 o1 o2 o3); go_wp2_with fail)
      ((refine (refFits_any st ⟨ok, oe, ov, ot⟩ _).mono ?_; rintro e w6 ⟨rfl, hb6⟩; (have K6 := K5.more hb6; clear K5 hb6 x0 x1 x2 x3 x4 x5 x6 o0 o1 o2 o3 ea; have x0 := K6.bx.cell 0; have x1 := K6.bx.cell 1; have x2 := K6.bx.cell 2; have x3 := K6.bx.cell 3; have x4 := K6.bx.cell 4; have x5 := K6.bx.cell 5; have x6 := K6.bx.cell 6; have o0 := K6.bo.cell 0; have o1 := K6.bo.cell 1; have o2 := K6.bo.cell 2; have o3 := K6.bo.cell 3; have ea := K6.g.ea; simp only [List.getElem?_toArray, List.getElem?_cons_zero, List.getElem?_cons_succ] at x0 x1 x2 x3 x4 x5 x6 o0 o1 o2 o3)); rw [show fitsB st ⟨ok, oe, ov, ot⟩ = false from by rw [Bool.eq_false_iff, Ne, fitsB_true]; exact HF.out]; go_wp2_with fail; refine (is_same a _).mono ?_; rintro e w7 ⟨rfl, rfl⟩; have hB := K6.below; go_wp2_with fail; go_ret; exact ⟨rfl, hB⟩)
end Go.Proofs.YtciioiklkaannaaGreatDoor
