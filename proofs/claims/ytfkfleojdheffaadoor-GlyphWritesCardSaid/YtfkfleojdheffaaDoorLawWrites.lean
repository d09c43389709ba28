/- GlyphWrites: every word has the text that the document says, or none; every text is the word that it says, or none's. -/
import Derived.Test.YtfkfleojdheffaaDoorRefV
import Derived.Test.YtfkfleojdheffaaDoorUnpack
import Derived.Test.YtfkfleojdheffaaDoorAwakeW
namespace Go.Proofs.YtfkfleojdheffaaDoor
open Go Go.RowKit
set_option linter.unusedSimpArgs false
set_option linter.unusedVariables false
set_option linter.unusedSectionVars false

theorem un_agree {s : ByteArray} {z y : PW} (hz : GoodP z) (hzs : bs (txt z) = s) (hy : GoodP y) (hys : bs (txt y) = s) : y = z := txt_inj hy hz (bs_inj (hys.trans hzs.symm))

set_option maxRecDepth 100000 in
set_option maxHeartbeats 6400000 in
theorem glyphWrites_mid {w : World} {a b : Addr} {tS : TypeId} {pS : Value} {tR : TypeId} {pR : Value} {m : Int} (G : GW w a b tS pS tR pR m) (x : PW) (s : ByteArray) (hs : s.size ≤ 1024) :
    Calls Tryd.prog 3 #[x.v, .string s] w (RetB true w) := by
  have hb0 : Below w.heap.size w (w.alloc (.cells x.cells 23)) := (Below.refl _ _).alloc (Nat.le_refl _) _
  have A0 : Bk (w.alloc (.cells x.cells 23)) w.heap.size 23 x.cells := Bk.at_ rfl
  have dl : decide ((1024 : Int) < (s.size : Int)) = false := by simp; omega
  have G0 := G.more hb0
  unfold PW.v
  go_enter Tryd.func3, Tryd.ntmps3
  go_wp2_with fail
  simp only [PW.cells] at hb0 A0 G0
  generalize (w.alloc (.cells #[.int .i64 x.slot, .int .i64 x.gen, .int .i64 x.tag, .int .i64 x.num, .bool x.mark] 23)) = w0 at *
  refine (awake_any G0).mono ?_
  rintro e w1 ⟨rfl, hb1'⟩
  have A1 := A0.belowAll hb1'
  have hb1 := hb0.trans (hb1'.mono hb0.size)
  have G1 := G.more hb1
  clear A0 G0 hb0 hb1'
  obtain ⟨a0, a1, a2, a3, a4⟩ := bk5 A1
  go_wp2_with fail
  by_cases hg : GoodP x
  · refine (pack_yes G1 x hg).mono ?_
    rintro e w2 ⟨rfl, hb2'⟩
    have A2 := A1.belowAll hb2'
    have hb2 := hb1.trans (hb2'.mono hb1.size)
    clear a0 a1 a2 a3 a4 A1 G1 hb1 hb2' dl
    obtain ⟨a0, a1, a2, a3, a4⟩ := bk5 A2
    go_wp2_with fail
    refine (refPack_yes x hg _).mono ?_
    rintro e w3 ⟨rfl, hb3'⟩
    have hb3 := hb2.trans (hb3'.mono hb2.size)
    have G3 := G.more hb3
    have HT : Hid (((bs (txt x)).toList.isEmpty) = false) := by
      show _ = _
      rw [Go.ByteArray.toList_eq, bs_data, txt_eq]; rfl
    generalize bs (txt x) = t at *
    clear a0 a1 a2 a3 a4 A2 hb2 hb3' hg
    go_wp2_with fail
    (refine (unpack_any G3 s hs).mono ?_; rintro e w5 hun; rcases hun with ⟨z, hz, hzs, rfl, hb5'⟩ | ⟨hno, M, rfl, hM, hb5'⟩; (· have HZ := Lib.hid (And.intro hz hzs); clear hz hzs; obtain ⟨z0, z1, z2, z3, z4⟩ := z; simp only [PW.v]; (have hb5 := hb3.trans (hb5'.mono hb3.size); have hb6 := hb5.alloc hb5.size (.cells #[.int .i64 (z0), .int .i64 (z1), .int .i64 (z2), .int .i64 (z3), .bool z4] 23); have Z6 : Bk (w5.alloc (.cells #[.int .i64 (z0), .int .i64 (z1), .int .i64 (z2), .int .i64 (z3), .bool z4] 23)) w5.heap.size 23 #[.int .i64 (z0), .int .i64 (z1), .int .i64 (z2), .int .i64 (z3), .bool z4] := Bk.at_ rfl; (first | (have N6 := (N3.belowAll hb5').alloc (.cells #[.int .i64 (z0), .int .i64 (z1), .int .i64 (z2), .int .i64 (z3), .bool z4] 23); clear N3) | skip); clear hb5' hb5 hb3; go_wp2_with fail; generalize (w5.alloc (.cells #[.int .i64 (z0), .int .i64 (z1), .int .i64 (z2), .int .i64 (z3), .bool z4] 23)) = w6 at *; generalize w5.heap.size = VB at *); refine (refUnpack_any s _ hs).mono ?_; rintro e w7 hr; (rcases hr with ⟨y, hy, hys, rfl, hb7'⟩ | ⟨hno, _⟩); rotate_left; (· exact absurd HZ.out.2 (hno _ HZ.out.1)); obtain rfl := un_agree HZ.out.1 HZ.out.2 hy hys; clear hy hys; simp only [PW.v]; (have Z7 := Z6.belowAll hb7'; have hb7 := hb6.trans (hb7'.mono hb6.size); have hb8 := hb7.alloc hb7.size (.cells #[.int .i64 (z0), .int .i64 (z1), .int .i64 (z2), .int .i64 (z3), .bool z4] 23); have G8 := G.more hb8; have Z8 := Z7.alloc (.cells #[.int .i64 (z0), .int .i64 (z1), .int .i64 (z2), .int .i64 (z3), .bool z4] 23); have Y8 : Bk (w7.alloc (.cells #[.int .i64 (z0), .int .i64 (z1), .int .i64 (z2), .int .i64 (z3), .bool z4] 23)) w7.heap.size 23 #[.int .i64 (z0), .int .i64 (z1), .int .i64 (z2), .int .i64 (z3), .bool z4] := Bk.at_ rfl; (first | (have N8 := (N6.belowAll hb7').alloc (.cells #[.int .i64 (z0), .int .i64 (z1), .int .i64 (z2), .int .i64 (z3), .bool z4] 23); clear N6) | skip); clear Z6 hb6 hb7' Z7 hb7; go_upto_region 9 with (fail); generalize (w7.alloc (.cells #[.int .i64 (z0), .int .i64 (z1), .int .i64 (z2), .int .i64 (z3), .bool z4] 23)) = w8 at *; generalize w7.heap.size = XB at *); (obtain ⟨a0, a1, a2, a3, a4⟩ := bk5 Z8; obtain ⟨b0, b1, b2, b3, b4⟩ := bk5 Y8; have hea := G8.ea; have hew := G8.ew; clear G8 G3; (first | (have hte := HT.out; have hte' : (!t.toList.isEmpty) = true := (by rw [hte]; rfl)) | skip); go_wp2_with (go_at_call 13; (first | (with_reducible refine (is_woe a N 2 _ N8).mono ?_) | (with_reducible refine (is_woe b M 2 _ M8).mono ?_)); rintro e w9 ⟨rfl, rfl⟩); all_goals (go_ret; exact ⟨rfl, hb8⟩))); (· have HZ := Lib.hid hno; clear hno; simp only [PW.v, PW.zero]; have M5 : Bk w5 M 62 #[.int .i64 2, .iface 107 (.pointer (some b))] := hM; clear hM; have M6 := M5.alloc (.cells #[.int .i64 0, .int .i64 0, .int .i64 0, .int .i64 0, .bool false] 23); clear M5; (have hb5 := hb3.trans (hb5'.mono hb3.size); have hb6 := hb5.alloc hb5.size (.cells #[.int .i64 (0), .int .i64 (0), .int .i64 (0), .int .i64 (0), .bool false] 23); have Z6 : Bk (w5.alloc (.cells #[.int .i64 (0), .int .i64 (0), .int .i64 (0), .int .i64 (0), .bool false] 23)) w5.heap.size 23 #[.int .i64 (0), .int .i64 (0), .int .i64 (0), .int .i64 (0), .bool false] := Bk.at_ rfl; (first | (have N6 := (N3.belowAll hb5').alloc (.cells #[.int .i64 (0), .int .i64 (0), .int .i64 (0), .int .i64 (0), .bool false] 23); clear N3) | skip); clear hb5' hb5 hb3; go_wp2_with fail; generalize (w5.alloc (.cells #[.int .i64 (0), .int .i64 (0), .int .i64 (0), .int .i64 (0), .bool false] 23)) = w6 at *; generalize w5.heap.size = VB at *); refine (refUnpack_any s _ hs).mono ?_; rintro e w7 hr; (rcases hr with ⟨y, hy, hys, _⟩ | ⟨_, rfl, hb7'⟩); (· exact absurd hys (HZ.out _ hy)); simp only [PW.v, PW.zero]; have M8 := (M6.belowAll hb7').alloc (.cells #[.int .i64 0, .int .i64 0, .int .i64 0, .int .i64 0, .bool false] 23); clear M6; (have Z7 := Z6.belowAll hb7'; have hb7 := hb6.trans (hb7'.mono hb6.size); have hb8 := hb7.alloc hb7.size (.cells #[.int .i64 (0), .int .i64 (0), .int .i64 (0), .int .i64 (0), .bool false] 23); have G8 := G.more hb8; have Z8 := Z7.alloc (.cells #[.int .i64 (0), .int .i64 (0), .int .i64 (0), .int .i64 (0), .bool false] 23); have Y8 : Bk (w7.alloc (.cells #[.int .i64 (0), .int .i64 (0), .int .i64 (0), .int .i64 (0), .bool false] 23)) w7.heap.size 23 #[.int .i64 (0), .int .i64 (0), .int .i64 (0), .int .i64 (0), .bool false] := Bk.at_ rfl; (first | (have N8 := (N6.belowAll hb7').alloc (.cells #[.int .i64 (0), .int .i64 (0), .int .i64 (0), .int .i64 (0), .bool false] 23); clear N6) | skip); clear Z6 hb6 hb7' Z7 hb7; go_upto_region 9 with (fail); generalize (w7.alloc (.cells #[.int .i64 (0), .int .i64 (0), .int .i64 (0), .int .i64 (0), .bool false] 23)) = w8 at *; generalize w7.heap.size = XB at *); (obtain ⟨a0, a1, a2, a3, a4⟩ := bk5 Z8; obtain ⟨b0, b1, b2, b3, b4⟩ := bk5 Y8; have hea := G8.ea; have hew := G8.ew; clear G8 G3; (first | (have hte := HT.out; have hte' : (!t.toList.isEmpty) = true := (by rw [hte]; rfl)) | skip); go_wp2_with (go_at_call 13; (first | (with_reducible refine (is_woe a N 2 _ N8).mono ?_) | (with_reducible refine (is_woe b M 2 _ M8).mono ?_)); rintro e w9 ⟨rfl, rfl⟩); all_goals (go_ret; exact ⟨rfl, hb8⟩))))
  · refine (pack_no G1 x hg).mono ?_
    rintro e w2 ⟨N, rfl, hN, hb2'⟩
    have A2 := A1.belowAll hb2'
    have hb2 := hb1.trans (hb2'.mono hb1.size)
    clear a0 a1 a2 a3 a4 A1 G1 hb1 hb2' dl
    obtain ⟨a0, a1, a2, a3, a4⟩ := bk5 A2
    go_wp2_with fail
    refine (refPack_no x hg _).mono ?_
    rintro e w3 ⟨rfl, hb3'⟩
    rw [show bs [] = (⟨#[]⟩ : ByteArray) from rfl]
    have hb3 := hb2.trans (hb3'.mono hb2.size)
    have N3 := Bk.belowAll hN hb3'
    have G3 := G.more hb3
    clear a0 a1 a2 a3 a4 A2 hb2 hb3' hg hN
    go_wp2_with fail
    (refine (unpack_any G3 s hs).mono ?_; rintro e w5 hun; rcases hun with ⟨z, hz, hzs, rfl, hb5'⟩ | ⟨hno, M, rfl, hM, hb5'⟩; (· have HZ := Lib.hid (And.intro hz hzs); clear hz hzs; obtain ⟨z0, z1, z2, z3, z4⟩ := z; simp only [PW.v]; (have hb5 := hb3.trans (hb5'.mono hb3.size); have hb6 := hb5.alloc hb5.size (.cells #[.int .i64 (z0), .int .i64 (z1), .int .i64 (z2), .int .i64 (z3), .bool z4] 23); have Z6 : Bk (w5.alloc (.cells #[.int .i64 (z0), .int .i64 (z1), .int .i64 (z2), .int .i64 (z3), .bool z4] 23)) w5.heap.size 23 #[.int .i64 (z0), .int .i64 (z1), .int .i64 (z2), .int .i64 (z3), .bool z4] := Bk.at_ rfl; (first | (have N6 := (N3.belowAll hb5').alloc (.cells #[.int .i64 (z0), .int .i64 (z1), .int .i64 (z2), .int .i64 (z3), .bool z4] 23); clear N3) | skip); clear hb5' hb5 hb3; go_wp2_with fail; generalize (w5.alloc (.cells #[.int .i64 (z0), .int .i64 (z1), .int .i64 (z2), .int .i64 (z3), .bool z4] 23)) = w6 at *; generalize w5.heap.size = VB at *); refine (refUnpack_any s _ hs).mono ?_; rintro e w7 hr; (rcases hr with ⟨y, hy, hys, rfl, hb7'⟩ | ⟨hno, _⟩); rotate_left; (· exact absurd HZ.out.2 (hno _ HZ.out.1)); obtain rfl := un_agree HZ.out.1 HZ.out.2 hy hys; clear hy hys; simp only [PW.v]; (have Z7 := Z6.belowAll hb7'; have hb7 := hb6.trans (hb7'.mono hb6.size); have hb8 := hb7.alloc hb7.size (.cells #[.int .i64 (z0), .int .i64 (z1), .int .i64 (z2), .int .i64 (z3), .bool z4] 23); have G8 := G.more hb8; have Z8 := Z7.alloc (.cells #[.int .i64 (z0), .int .i64 (z1), .int .i64 (z2), .int .i64 (z3), .bool z4] 23); have Y8 : Bk (w7.alloc (.cells #[.int .i64 (z0), .int .i64 (z1), .int .i64 (z2), .int .i64 (z3), .bool z4] 23)) w7.heap.size 23 #[.int .i64 (z0), .int .i64 (z1), .int .i64 (z2), .int .i64 (z3), .bool z4] := Bk.at_ rfl; (first | (have N8 := (N6.belowAll hb7').alloc (.cells #[.int .i64 (z0), .int .i64 (z1), .int .i64 (z2), .int .i64 (z3), .bool z4] 23); clear N6) | skip); clear Z6 hb6 hb7' Z7 hb7; go_upto_region 9 with (fail); generalize (w7.alloc (.cells #[.int .i64 (z0), .int .i64 (z1), .int .i64 (z2), .int .i64 (z3), .bool z4] 23)) = w8 at *; generalize w7.heap.size = XB at *); (obtain ⟨a0, a1, a2, a3, a4⟩ := bk5 Z8; obtain ⟨b0, b1, b2, b3, b4⟩ := bk5 Y8; have hea := G8.ea; have hew := G8.ew; clear G8 G3; (first | (have hte := HT.out; have hte' : (!t.toList.isEmpty) = true := (by rw [hte]; rfl)) | skip); go_wp2_with (go_at_call 13; (first | (with_reducible refine (is_woe a N 2 _ N8).mono ?_) | (with_reducible refine (is_woe b M 2 _ M8).mono ?_)); rintro e w9 ⟨rfl, rfl⟩); all_goals (go_ret; exact ⟨rfl, hb8⟩))); (· have HZ := Lib.hid hno; clear hno; simp only [PW.v, PW.zero]; have M5 : Bk w5 M 62 #[.int .i64 2, .iface 107 (.pointer (some b))] := hM; clear hM; have M6 := M5.alloc (.cells #[.int .i64 0, .int .i64 0, .int .i64 0, .int .i64 0, .bool false] 23); clear M5; (have hb5 := hb3.trans (hb5'.mono hb3.size); have hb6 := hb5.alloc hb5.size (.cells #[.int .i64 (0), .int .i64 (0), .int .i64 (0), .int .i64 (0), .bool false] 23); have Z6 : Bk (w5.alloc (.cells #[.int .i64 (0), .int .i64 (0), .int .i64 (0), .int .i64 (0), .bool false] 23)) w5.heap.size 23 #[.int .i64 (0), .int .i64 (0), .int .i64 (0), .int .i64 (0), .bool false] := Bk.at_ rfl; (first | (have N6 := (N3.belowAll hb5').alloc (.cells #[.int .i64 (0), .int .i64 (0), .int .i64 (0), .int .i64 (0), .bool false] 23); clear N3) | skip); clear hb5' hb5 hb3; go_wp2_with fail; generalize (w5.alloc (.cells #[.int .i64 (0), .int .i64 (0), .int .i64 (0), .int .i64 (0), .bool false] 23)) = w6 at *; generalize w5.heap.size = VB at *); refine (refUnpack_any s _ hs).mono ?_; rintro e w7 hr; (rcases hr with ⟨y, hy, hys, _⟩ | ⟨_, rfl, hb7'⟩); (· exact absurd hys (HZ.out _ hy)); simp only [PW.v, PW.zero]; have M8 := (M6.belowAll hb7').alloc (.cells #[.int .i64 0, .int .i64 0, .int .i64 0, .int .i64 0, .bool false] 23); clear M6; (have Z7 := Z6.belowAll hb7'; have hb7 := hb6.trans (hb7'.mono hb6.size); have hb8 := hb7.alloc hb7.size (.cells #[.int .i64 (0), .int .i64 (0), .int .i64 (0), .int .i64 (0), .bool false] 23); have G8 := G.more hb8; have Z8 := Z7.alloc (.cells #[.int .i64 (0), .int .i64 (0), .int .i64 (0), .int .i64 (0), .bool false] 23); have Y8 : Bk (w7.alloc (.cells #[.int .i64 (0), .int .i64 (0), .int .i64 (0), .int .i64 (0), .bool false] 23)) w7.heap.size 23 #[.int .i64 (0), .int .i64 (0), .int .i64 (0), .int .i64 (0), .bool false] := Bk.at_ rfl; (first | (have N8 := (N6.belowAll hb7').alloc (.cells #[.int .i64 (0), .int .i64 (0), .int .i64 (0), .int .i64 (0), .bool false] 23); clear N6) | skip); clear Z6 hb6 hb7' Z7 hb7; go_upto_region 9 with (fail); generalize (w7.alloc (.cells #[.int .i64 (0), .int .i64 (0), .int .i64 (0), .int .i64 (0), .bool false] 23)) = w8 at *; generalize w7.heap.size = XB at *); (obtain ⟨a0, a1, a2, a3, a4⟩ := bk5 Z8; obtain ⟨b0, b1, b2, b3, b4⟩ := bk5 Y8; have hea := G8.ea; have hew := G8.ew; clear G8 G3; (first | (have hte := HT.out; have hte' : (!t.toList.isEmpty) = true := (by rw [hte]; rfl)) | skip); go_wp2_with (go_at_call 13; (first | (with_reducible refine (is_woe a N 2 _ N8).mono ?_) | (with_reducible refine (is_woe b M 2 _ M8).mono ?_)); rintro e w9 ⟨rfl, rfl⟩); all_goals (go_ret; exact ⟨rfl, hb8⟩))))
set_option maxRecDepth 100000 in
set_option maxHeartbeats 1600000 in
theorem glyphWrites_all {w : World} {a b : Addr} {tS : TypeId} {pS : Value} {tR : TypeId} {pR : Value} {m : Int} (G : GW w a b tS pS tR pR m) (x : PW) (s : ByteArray) (hl : s.size ≤ 9223372036854775807) :
    Calls Tryd.prog 3 #[x.v, .string s] w (RetB true w) := by
  by_cases hs : s.size ≤ 1024
  · exact glyphWrites_mid G x s hs
  · have hb0 : Below w.heap.size w (w.alloc (.cells x.cells 23)) := (Below.refl _ _).alloc (Nat.le_refl _) _
    have dl : decide ((1024 : Int) < (s.size : Int)) = true := by simp; omega
    have G0 := G.more hb0
    clear hs
    unfold PW.v
    go_enter Tryd.func3, Tryd.ntmps3
    go_wp2_with fail
    simp only [PW.cells] at hb0 G0
    generalize (w.alloc (.cells #[.int .i64 x.slot, .int .i64 x.gen, .int .i64 x.tag, .int .i64 x.num, .bool x.mark] 23)) = w0 at *
    refine (awake_any G0).mono ?_
    rintro e w1 ⟨rfl, hb1'⟩
    have hb1 := hb0.trans (hb1'.mono hb0.size)
    go_wp2_with fail
    go_ret
    exact ⟨rfl, hb1⟩
end Go.Proofs.YtfkfleojdheffaaDoor
