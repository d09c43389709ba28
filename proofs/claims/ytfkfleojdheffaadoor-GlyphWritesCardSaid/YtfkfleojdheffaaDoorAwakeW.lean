/- Unpack by its outcome; awake. -/
import Derived.Test.YtfkfleojdheffaaDoorUnpack
namespace Go.Proofs.YtfkfleojdheffaaDoor
open Go Go.RowKit
set_option linter.unusedSimpArgs false
set_option linter.unusedVariables false
set_option linter.unusedSectionVars false

section
variable {w : World} {a b : Addr} {tS : TypeId} {pS : Value} {tR : TypeId} {pR : Value} {m : Int} (G : GW w a b tS pS tR pR m)
include G
theorem unpack_is (x : PW) (hx : GoodP x) (s : ByteArray) (hs : s.size ≤ 1024) (h : bs (txt x) = s) : Calls Tryd.prog 11 #[.string s] w (RetOk x w) := by
  refine (unpack_any G s hs).mono ?_
  rintro e w' (⟨y, hy, hys, hr⟩ | ⟨hn, _⟩)
  · obtain rfl : y = x := txt_inj hy hx (bs_inj (hys.trans h.symm))
    exact hr
  · exact absurd h (hn x hx)
theorem unpack_none (s : ByteArray) (hs : s.size ≤ 1024) (h : NoWord s) : Calls Tryd.prog 11 #[.string s] w (RetBad b w) := by
  refine (unpack_any G s hs).mono ?_
  rintro e w' (⟨y, hy, hys, hr⟩ | ⟨hn, hr⟩)
  · exact absurd hys (h y hy)
  · exact hr
end

theorem itoa_small (n : Nat) (h : n < 10) : Lib.itoa (n : Int) = [UInt8.ofNat (48 + n)] := by
  rw [Lib.itoa, if_neg (by omega), show ((n : Int)).toNat = n from by omega, Lib.decDigits_one h]
theorem itoa_ten : Lib.itoa 10 = [49, 48] := by
  rw [Lib.itoa, if_neg (by omega), show (10 : Int).toNat = 10 from rfl, Lib.decDigits_two (by omega) (by omega)]; rfl
theorem itoa_neg2 : Lib.itoa (-2) = [45, 50] := by
  rw [Lib.itoa, if_pos (by omega), show (-2 : Int).natAbs = 2 from rfl, Lib.decDigits_one (by omega)]; rfl
theorem txt_awake : bs (txt ⟨5, 1, 10, -2, false⟩) = ⟨#[110, 46, 53, 46, 49, 46, 49, 48, 46, 45, 50]⟩ := by
  have h5 := itoa_small 5 (by omega)
  have h1 := itoa_small 1 (by omega)
  simp only [txt, letter, bs]
  rw [show ((5 : Nat) : Int) = 5 from rfl] at h5
  rw [show ((1 : Nat) : Int) = 1 from rfl] at h1
  rw [h5, h1, itoa_ten, itoa_neg2]
  rfl
theorem txt_m7 : bs (txt ⟨0, 0, 7, 0, true⟩) = ⟨#[109, 46, 48, 46, 48, 46, 55, 46, 48]⟩ := by
  have h0 := itoa_small 0 (by omega)
  have h7 := itoa_small 7 (by omega)
  rw [show ((0 : Nat) : Int) = 0 from rfl] at h0
  rw [show ((7 : Nat) : Int) = 7 from rfl] at h7
  simp only [txt, letter, bs]
  rw [h0, h7]
  rfl
theorem no_m07 : NoWord ⟨#[109, 46, 48, 46, 48, 46, 48, 55, 46, 48]⟩ := fun x hx hs => by
  have ht : txt x = [109, 46, 48, 46, 48, 46, 48, 55, 46, 48] := bs_inj hs
  have h1 := split_txt x
  rw [ht, show Lib.splitK [46] 0 5 [109, 46, 48, 46, 48, 46, 48, 55, 46, 48] = [[109], [48], [48], [48, 55], [48]] from by decide] at h1
  simp only [List.cons.injEq, and_true] at h1
  have h3 := h1.2.2.2.1
  obtain ⟨_, s0, s1, g0, g1, t0, t1, n0, n1⟩ := hx
  have h4 := atoi_itoa x.tag (by omega) (by omega)
  rw [← h3, show Lib.atoiAll [48, 55] = .ok 7 from by decide] at h4
  injection h4 with h4
  have h7 := itoa_small 7 (by omega)
  rw [show ((7 : Nat) : Int) = x.tag from h4, ← h3] at h7
  exact absurd h7 (by decide)

set_option maxRecDepth 100000 in
set_option maxHeartbeats 800000 in
theorem awake_any {w : World} {a b : Addr} {tS : TypeId} {pS : Value} {tR : TypeId} {pR : Value} {m : Int} (G : GW w a b tS pS tR pR m) : Calls Tryd.prog 8 #[] w (RetB true w) := by
  go_enter Tryd.func8, Tryd.ntmps8
  go_wp2_with fail
  refine (to_any ⟨3, 2, 9, 0, true⟩ ⟨5, 1, 77, 0, false⟩ _).mono ?_
  rintro e w1 ⟨rfl, hb1⟩
  rw [show (⟨5, 1, wrap64 (9 + 1), 0, false⟩ : PW) = ⟨5, 1, 10, 0, false⟩ from by rw [show wrap64 (9 + 1) = 10 from by unfold wrap64; omega]]
  simp only [PW.v]
  have hb2 := hb1.alloc hb1.size (.cells #[.int .i64 5, .int .i64 1, .int .i64 10, .int .i64 (-2), .bool false] 23)
  have G2 := G.more hb2
  clear hb1
  go_wp2_with fail
  generalize (w1.alloc (.cells #[.int .i64 5, .int .i64 1, .int .i64 10, .int .i64 (-2), .bool false] 23)) = w2 at *
  refine (pack_yes G2 ⟨5, 1, 10, -2, false⟩ (by decide)).mono ?_
  rintro e w3 ⟨rfl, hb3⟩
  rw [txt_awake]
  have G3 := G2.more hb3
  have hb4 := hb2.trans (hb3.mono hb2.size)
  clear hb2 hb3 G2
  go_wp2_with fail
  refine (unpack_is G3 ⟨0, 0, 7, 0, true⟩ (by decide) _ (by decide) txt_m7).mono ?_
  rintro e w4 ⟨rfl, hb5⟩
  simp only [PW.v]
  have hb6 := hb4.trans (hb5.mono hb4.size)
  have hb7 := hb6.alloc hb6.size (.cells #[.int .i64 0, .int .i64 0, .int .i64 7, .int .i64 0, .bool true] 23)
  have B7 : Bk (w4.alloc (.cells #[.int .i64 0, .int .i64 0, .int .i64 7, .int .i64 0, .bool true] 23)) w4.heap.size 23 #[.int .i64 0, .int .i64 0, .int .i64 7, .int .i64 0, .bool true] := Bk.at_ rfl
  have G7 := G.more hb7
  clear hb4 hb5 hb6 G3
  go_wp2_with fail
  generalize (w4.alloc (.cells #[.int .i64 0, .int .i64 0, .int .i64 7, .int .i64 0, .bool true] 23)) = w5 at *
  generalize w4.heap.size = vb at *
  refine (unpack_none G7 _ (by decide) no_m07).mono ?_
  rintro e w6 ⟨N, rfl, hN, hb8⟩
  simp only [PW.v, PW.zero]
  have hb9 := hb7.trans (hb8.mono hb7.size)
  have hb10 := hb9.alloc hb9.size (.cells #[.int .i64 0, .int .i64 0, .int .i64 0, .int .i64 0, .bool false] 23)
  have B10 := (B7.belowAll hb8).alloc (.cells #[.int .i64 0, .int .i64 0, .int .i64 0, .int .i64 0, .bool false] 23)
  have N10 := Bk.alloc hN (.cells #[.int .i64 0, .int .i64 0, .int .i64 0, .int .i64 0, .bool false] 23)
  have G10 := G.more hb10
  have c0 := B10.cell 0; have c1 := B10.cell 1; have c2 := B10.cell 2; have c3 := B10.cell 3; have c4 := B10.cell 4
  simp at c0 c1 c2 c3 c4
  have hew := G10.ew
  have hlt := B10.lt
  clear hb7 hb8 hb9 B7 G7 hN
  go_upto_region 6 with (fail)
  generalize (w6.alloc (.cells #[.int .i64 0, .int .i64 0, .int .i64 0, .int .i64 0, .bool false] 23)) = w7 at *
  go_wp2_with fail
  refine (is_woe b N 2 _ N10).mono ?_
  rintro e w8 ⟨rfl, rfl⟩
  go_wp2_with fail
  refine (nilW_any ⟨0, 0, 7, 0, true⟩ _).mono ?_
  rintro e w9 ⟨rfl, hb11⟩
  go_wp2_with fail
  go_ret
  exact ⟨rfl, hb10.trans (hb11.mono hb10.size)⟩
end Go.Proofs.YtfkfleojdheffaaDoor
