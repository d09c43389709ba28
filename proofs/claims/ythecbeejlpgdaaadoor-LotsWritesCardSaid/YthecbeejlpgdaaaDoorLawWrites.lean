/- LotsWrites, walked: of every script whether it can be run, and its bytes, is what the document says. -/
import Derived.Test.YthecbeejlpgdaaaDoorLawB
import Derived.Test.YthecbeejlpgdaaaDoorFnRefEncW
import Derived.Test.YthecbeejlpgdaaaDoorIs
import Derived.Test.YthecbeejlpgdaaaDoorReg2
namespace Go.Proofs.YthecbeejlpgdaaaDoor
open Go Go.RowKit
set_option linter.unusedSimpArgs false
set_option linter.unusedVariables false
set_option linter.unusedSectionVars false

theorem refEncode_yes {sa : ByteArray} (x : PScr) (A A' : Option Addr) (c c' : Nat) (w : World)
    (ho : Sl w w.heap.size 5 A x.ops.length (tcells x.ops)) (hp : Sl w w.heap.size 1 A' x.picks.length (icells x.picks))
    (lo : x.ops.length ≤ 9223372036854775807) (lp : x.picks.length ≤ 9223372036854775807) (h : encB x = true) (hsa : strOfNums (encNums x) = sa) :
    Calls Tryd.prog 21 #[x.v A c A' c'] w fun e w' => e = .returned (.tuple #[.string sa, .bool true]) ∧ Below w.heap.size w w' :=
  (refEncode_any x A A' c c' w ho hp lo lp).mono fun _ _ hh => ⟨by have := hh.1; rw [h, hsa] at this; exact this, hh.2⟩
theorem refEncode_isNo (x : PScr) (A A' : Option Addr) (c c' : Nat) (w : World)
    (ho : Sl w w.heap.size 5 A x.ops.length (tcells x.ops)) (hp : Sl w w.heap.size 1 A' x.picks.length (icells x.picks))
    (lo : x.ops.length ≤ 9223372036854775807) (lp : x.picks.length ≤ 9223372036854775807) (h : encB x = false) :
    Calls Tryd.prog 21 #[x.v A c A' c'] w fun e w' => e = .returned (.tuple #[.string ⟨#[]⟩, .bool false]) ∧ Below w.heap.size w w' :=
  (refEncode_any x A A' c c' w ho hp lo lp).mono fun _ _ hh => ⟨by have := hh.1; rw [h] at this; exact this, hh.2⟩
theorem allCells {p0 p1 p2 p3 p4 p5 p6 p7 q1 q2 q3 q4 q5 q6 q7 : Prop} (h0 : p0) (h : p1 ∧ p2 ∧ p3 ∧ p4 ∧ p5 ∧ p6 ∧ p7) (k : q1 ∧ q2 ∧ q3 ∧ q4 ∧ q5 ∧ q6 ∧ q7) : p0 ∧ p1 ∧ p2 ∧ p3 ∧ p4 ∧ p5 ∧ p6 ∧ p7 ∧ q1 ∧ q2 ∧ q3 ∧ q4 ∧ q5 ∧ q6 ∧ q7 :=
  ⟨h0, h.1, h.2.1, h.2.2.1, h.2.2.2.1, h.2.2.2.2.1, h.2.2.2.2.2.1, h.2.2.2.2.2.2, k⟩

/-- Both scripts in their blocks. -/
def TwoS (w0 : World) (T : TypeId) (u : Value) (x y : PScr) (g h : Nat) (A1 : Option Addr) (c1 : Nat) (A2 : Option Addr) (c2 : Nat) (B1 : Option Addr) (d1 : Nat) (B2 : Option Addr) (d2 : Nat) (w : World) : Prop :=
  SW w0 w T u x g A1 c1 A2 c2 ∧ SW w0 w T u y h B1 d1 B2 d2

set_option maxRecDepth 100000 in
set_option maxHeartbeats 1600000 in
theorem lotsWrites_big (x y : PScr) (A1 A2 B1 B2 : Option Addr) (c1 c2 d1 d2 : Nat) (w : World) (T : TypeId) (u : Value) (hE : w.cell? ⟨0, 0, none⟩ = some (.iface T u))
    (lo : x.ops.length ≤ 9223372036854775807) (lp : x.picks.length ≤ 9223372036854775807) (lo' : y.ops.length ≤ 9223372036854775807) (lp' : y.picks.length ≤ 9223372036854775807)
    (hbig : ¬ (x.ops.length ≤ 100 ∧ x.picks.length ≤ 5000 ∧ y.ops.length ≤ 100 ∧ y.picks.length ≤ 5000)) :
    Calls Tryd.prog 8 #[x.v A1 c1 A2 c2, y.v B1 d1 B2 d2] w (RetB true w) := by
  have hE1 := cell_alloc (cell_alloc hE (.cells #[.int .i64 x.st, .int .i64 x.en, .int .i64 x.th, .int .i64 x.sl, .int .i64 x.no, .slice A1 x.ops.length c1, .slice A2 x.picks.length c2] 29)) (.cells #[.int .i64 y.st, .int .i64 y.en, .int .i64 y.th, .int .i64 y.sl, .int .i64 y.no, .slice B1 y.ops.length d1, .slice B2 y.picks.length d2] 29)
  go_enter Tryd.func8, Tryd.ntmps8
  simp only [PScr.v]
  go_wp2_with fail
  refine (awake_any _ T u hE1).mono ?_
  rintro e w1 ⟨rfl, hb1⟩
  have hB := below_two hb1
  have x5 := (hb1.cell (p := ⟨w.heap.size, 5, none⟩) (by simp; try omega)).trans (show _ = some (.slice A1 x.ops.length c1) by simp)
  have x6 := (hb1.cell (p := ⟨w.heap.size, 6, none⟩) (by simp; try omega)).trans (show _ = some (.slice A2 x.picks.length c2) by simp)
  have y5 := (hb1.cell (p := ⟨w.heap.size + 1, 5, none⟩) (by simp; try omega)).trans (show _ = some (.slice B1 y.ops.length d1) by simp)
  have y6 := (hb1.cell (p := ⟨w.heap.size + 1, 6, none⟩) (by simp; try omega)).trans (show _ = some (.slice B2 y.picks.length d2) by simp)
  clear hb1
  go_wp2_with fail
  all_goals first
    | (exfalso; omega)
    | (go_ret; exact ⟨rfl, hB⟩)

set_option maxRecDepth 100000 in
set_option maxHeartbeats 3200000 in
theorem lotsWrites_small (x y : PScr) (A1 A2 B1 B2 : Option Addr) (c1 c2 d1 d2 : Nat) (w : World) (a : Addr) (hE : w.cell? ⟨0, 0, none⟩ = some (.iface 143 (.pointer (some a))))
    (sox : Sl w w.heap.size 5 A1 x.ops.length (tcells x.ops)) (spx : Sl w w.heap.size 1 A2 x.picks.length (icells x.picks)) (soy : Sl w w.heap.size 5 B1 y.ops.length (tcells y.ops)) (spy : Sl w w.heap.size 1 B2 y.picks.length (icells y.picks))
    (lo : x.ops.length ≤ 100) (lp : x.picks.length ≤ 5000) (lo' : y.ops.length ≤ 100) (lp' : y.picks.length ≤ 5000) (ex gx sxy : Bool) (hex : encB x = ex) (hgx : goodB x = gx) (hsxy : decide (x = y) = sxy) :
    Calls Tryd.prog 8 #[x.v A1 c1 A2 c2, y.v B1 d1 B2 d2] w (RetB true w) := by
  have HX := Lib.hid (And.intro hex (And.intro hgx hsxy)); clear hex hgx hsxy
  have g1 : decide ((100 : Int) < (x.ops.length : Int)) = false := by simp; omega
  have g2 : decide ((5000 : Int) < (x.picks.length : Int)) = false := by simp; omega
  have g3 : decide ((100 : Int) < (y.ops.length : Int)) = false := by simp; omega
  have g4 : decide ((5000 : Int) < (y.picks.length : Int)) = false := by simp; omega
  have hE1 := cell_alloc (cell_alloc hE (.cells #[.int .i64 x.st, .int .i64 x.en, .int .i64 x.th, .int .i64 x.sl, .int .i64 x.no, .slice A1 x.ops.length c1, .slice A2 x.picks.length c2] 29)) (.cells #[.int .i64 y.st, .int .i64 y.en, .int .i64 y.th, .int .i64 y.sl, .int .i64 y.no, .slice B1 y.ops.length d1, .slice B2 y.picks.length d2] 29)
  have KX0 : SW w ((w.alloc (.cells #[.int .i64 x.st, .int .i64 x.en, .int .i64 x.th, .int .i64 x.sl, .int .i64 x.no, .slice A1 x.ops.length c1, .slice A2 x.picks.length c2] 29)).alloc (.cells #[.int .i64 y.st, .int .i64 y.en, .int .i64 y.th, .int .i64 y.sl, .int .i64 y.no, .slice B1 y.ops.length d1, .slice B2 y.picks.length d2] 29)) _ _ x w.heap.size A1 c1 A2 c2 := ⟨((Below.refl _ _).alloc (Nat.le_refl _) _).alloc (by simp) _, hE1, (Bk.at_ rfl).alloc _, (sox.alloc _).alloc _, (spx.alloc _).alloc _⟩
  have KY0 : SW w ((w.alloc (.cells #[.int .i64 x.st, .int .i64 x.en, .int .i64 x.th, .int .i64 x.sl, .int .i64 x.no, .slice A1 x.ops.length c1, .slice A2 x.picks.length c2] 29)).alloc (.cells #[.int .i64 y.st, .int .i64 y.en, .int .i64 y.th, .int .i64 y.sl, .int .i64 y.no, .slice B1 y.ops.length d1, .slice B2 y.picks.length d2] 29)) _ _ y (w.heap.size + 1) B1 d1 B2 d2 := ⟨KX0.below, hE1, Bk.at_ (by simp), (soy.alloc _).alloc _, (spy.alloc _).alloc _⟩
  clear sox spx soy spy hE
  go_enter Tryd.func8, Tryd.ntmps8
  simp only [PScr.v]
  go_wp2_with fail
  refine (awake_any _ _ _ hE1).mono ?_
  rintro e w1 ⟨rfl, hb1⟩
  have KX1 := KX0.more hb1
  have KY1 := KY0.more hb1
  clear hb1 KX0 KY0 hE1
  obtain ⟨x0, x1, x2, x3, x4, x5, x6⟩ := KX1.k.cells
  obtain ⟨y0, y1, y2, y3, y4, y5, y6⟩ := KY1.k.cells
  cases ex
  · go_wp2_with fail
    refine (encode_isNo x A1 A2 c1 c2 _ _ _ KX1.err KX1.so KX1.sp (by omega) (by omega) HX.out.1).mono ?_
    rintro e w2 ⟨rfl, hb2⟩
    have KX2 := KX1.more hb2
    have KY2 := KY1.more hb2
    clear x0 x1 x2 x3 x4 x5 x6 y0 y1 y2 y3 y4 y5 y6 KX1 KY1 hb2
    obtain ⟨x0, x1, x2, x3, x4, x5, x6⟩ := KX2.k.cells
    go_wp2_with fail
    refine (refEncode_isNo x A1 A2 c1 c2 _ KX2.so KX2.sp (by omega) (by omega) HX.out.1).mono ?_
    rintro e w3 ⟨rfl, hb3⟩
    have KX3 := KX2.more hb3
    have KY3 := KY2.more hb3
    clear x0 x1 x2 x3 x4 x5 x6 KX2 KY2 hb3
    go_wp2_with fail
    (refine wp_region_class (TwoS w 143 (.pointer (some a)) x y w.heap.size (w.heap.size + 1) A1 c1 A2 c2 B1 d1 B2 d2) (by kernel_rfl) (by kernel_rfl) (⟨KX3.drew, KY3.drew⟩) ?_; (repeat (first | go_big_quiet_skip | (go_big_quiet_want; first | (go_big_quiet_op; go_big_quiet_on) | (apply Exists.intro; refine ⟨fun w' hC => ?_, ?_⟩; (· (obtain ⟨F, G⟩ := hC; have fe := F.err; obtain ⟨f0, f1, f2, f3, f4, f5, f6⟩ := F.k.cells; obtain ⟨g0, g1, g2, g3, g4, g5, g6⟩ := G.k.cells; go_simp; first | done | rfl | exact ⟨rfl, rfl⟩ | (first | (go_at_call 22; refine (is_same a _).mono ?_; rintro e w'' ⟨rfl, rfl⟩; exact ⟨rfl, F, G⟩) | (go_at_call 17; refine (good_is x A1 A2 c1 c2 _ _ _ F.err F.so F.sp (by omega) (by omega) HX.out.2.1).mono ?_; rintro e w'' ⟨rfl, hb⟩; exact ⟨rfl, F.more hb, G.more hb⟩) | (go_at_call 23; refine (refGood_is x A1 A2 c1 c2 _ F.so F.sp (by omega) (by omega) HX.out.2.1).mono ?_; rintro e w'' ⟨rfl, hb⟩; exact ⟨rfl, F.more hb, G.more hb⟩) | (go_at_call 18; refine (same_is x y A1 A2 B1 B2 c1 c2 d1 d2 _ F.so F.sp G.so G.sp (by omega) (by omega) (by omega) (by omega) HX.out.2.2).mono ?_; rintro e w'' ⟨rfl, hb⟩; exact ⟨rfl, F.more hb, G.more hb⟩) | (go_at_call 10; refine (refSame_is x y A1 A2 B1 B2 c1 c2 d1 d2 _ F.so F.sp G.so G.sp (by omega) (by omega) (by omega) (by omega) HX.out.2.2).mono ?_; rintro e w'' ⟨rfl, hb⟩; exact ⟨rfl, F.more hb, G.more hb⟩)))); go_big_quiet_on; simp only [Act.put, List.setIfInBounds_toArray, List.set_cons_succ, List.set_cons_zero])))); refine wpQuiet_nil ?_; intro w' hC); obtain ⟨F, G⟩ := hC; go_wp2_with fail; go_ret; exact ⟨rfl, F.below⟩
  · obtain ⟨sa, hsa⟩ : ∃ sa, strOfNums (encNums x) = sa := ⟨_, rfl⟩
    have HSA := Lib.hid hsa; clear hsa
    go_wp2_with fail
    refine (encode_yes x A1 A2 c1 c2 _ _ _ KX1.err KX1.so KX1.sp (by omega) (by omega) HX.out.1 HSA.out).mono ?_
    rintro e w2 ⟨rfl, hb2⟩
    have KX2 := KX1.more hb2
    have KY2 := KY1.more hb2
    clear x0 x1 x2 x3 x4 x5 x6 y0 y1 y2 y3 y4 y5 y6 KX1 KY1 hb2
    obtain ⟨x0, x1, x2, x3, x4, x5, x6⟩ := KX2.k.cells
    go_wp2_with fail
    refine (refEncode_yes x A1 A2 c1 c2 _ KX2.so KX2.sp (by omega) (by omega) HX.out.1 HSA.out).mono ?_
    rintro e w3 ⟨rfl, hb3⟩
    have KX3 := KX2.more hb3
    have KY3 := KY2.more hb3
    clear x0 x1 x2 x3 x4 x5 x6 KX2 KY2 hb3
    go_wp2_with fail
    (refine wp_region_class (TwoS w 143 (.pointer (some a)) x y w.heap.size (w.heap.size + 1) A1 c1 A2 c2 B1 d1 B2 d2) (by kernel_rfl) (by kernel_rfl) (⟨KX3.drew, KY3.drew⟩) ?_; (repeat (first | go_big_quiet_skip | (go_big_quiet_want; first | (go_big_quiet_op; go_big_quiet_on) | (apply Exists.intro; refine ⟨fun w' hC => ?_, ?_⟩; (· (obtain ⟨F, G⟩ := hC; have fe := F.err; obtain ⟨f0, f1, f2, f3, f4, f5, f6⟩ := F.k.cells; obtain ⟨g0, g1, g2, g3, g4, g5, g6⟩ := G.k.cells; go_simp; first | done | rfl | exact ⟨rfl, rfl⟩ | (first | (go_at_call 22; refine (is_same a _).mono ?_; rintro e w'' ⟨rfl, rfl⟩; exact ⟨rfl, F, G⟩) | (go_at_call 17; refine (good_is x A1 A2 c1 c2 _ _ _ F.err F.so F.sp (by omega) (by omega) HX.out.2.1).mono ?_; rintro e w'' ⟨rfl, hb⟩; exact ⟨rfl, F.more hb, G.more hb⟩) | (go_at_call 23; refine (refGood_is x A1 A2 c1 c2 _ F.so F.sp (by omega) (by omega) HX.out.2.1).mono ?_; rintro e w'' ⟨rfl, hb⟩; exact ⟨rfl, F.more hb, G.more hb⟩) | (go_at_call 18; refine (same_is x y A1 A2 B1 B2 c1 c2 d1 d2 _ F.so F.sp G.so G.sp (by omega) (by omega) (by omega) (by omega) HX.out.2.2).mono ?_; rintro e w'' ⟨rfl, hb⟩; exact ⟨rfl, F.more hb, G.more hb⟩) | (go_at_call 10; refine (refSame_is x y A1 A2 B1 B2 c1 c2 d1 d2 _ F.so F.sp G.so G.sp (by omega) (by omega) (by omega) (by omega) HX.out.2.2).mono ?_; rintro e w'' ⟨rfl, hb⟩; exact ⟨rfl, F.more hb, G.more hb⟩)))); go_big_quiet_on; simp only [Act.put, List.setIfInBounds_toArray, List.set_cons_succ, List.set_cons_zero])))); refine wpQuiet_nil ?_; intro w' hC); obtain ⟨F, G⟩ := hC; go_wp2_with fail; go_ret; exact ⟨rfl, F.below⟩

theorem lotsWrites_any (x y : PScr) (A1 A2 B1 B2 : Option Addr) (c1 c2 d1 d2 : Nat) (w : World) (a : Addr) (hE : w.cell? ⟨0, 0, none⟩ = some (.iface 143 (.pointer (some a))))
    (sox : Sl w w.heap.size 5 A1 x.ops.length (tcells x.ops)) (spx : Sl w w.heap.size 1 A2 x.picks.length (icells x.picks)) (soy : Sl w w.heap.size 5 B1 y.ops.length (tcells y.ops)) (spy : Sl w w.heap.size 1 B2 y.picks.length (icells y.picks))
    (lo : x.ops.length ≤ 9223372036854775807) (lp : x.picks.length ≤ 9223372036854775807) (lo' : y.ops.length ≤ 9223372036854775807) (lp' : y.picks.length ≤ 9223372036854775807) :
    Calls Tryd.prog 8 #[x.v A1 c1 A2 c2, y.v B1 d1 B2 d2] w (RetB true w) := by
  by_cases hb : x.ops.length ≤ 100 ∧ x.picks.length ≤ 5000 ∧ y.ops.length ≤ 100 ∧ y.picks.length ≤ 5000
  · obtain ⟨b1, b2, b3, b4⟩ := hb
    exact lotsWrites_small x y A1 A2 B1 B2 c1 c2 d1 d2 w a hE sox spx soy spy b1 b2 b3 b4 _ _ _ rfl rfl rfl
  · exact lotsWrites_big x y A1 A2 B1 B2 c1 c2 d1 d2 w _ _ hE lo lp lo' lp' hb

end Go.Proofs.YthecbeejlpgdaaaDoor
