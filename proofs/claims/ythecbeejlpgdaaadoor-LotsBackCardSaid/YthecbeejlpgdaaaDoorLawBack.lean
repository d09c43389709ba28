/- LotsBack, walked: a script that has bytes is read from them as it was. -/
import Derived.Test.YthecbeejlpgdaaaDoorLawB
import Derived.Test.YthecbeejlpgdaaaDoorReg2
import Derived.IntWalk
namespace Go.Proofs.YthecbeejlpgdaaaDoor
open Go Go.RowKit
set_option linter.unusedSimpArgs false
set_option linter.unusedVariables false
set_option linter.unusedSectionVars false

theorem twoCells {p1 p2 p3 p4 p5 p6 p7 q1 q2 q3 q4 q5 q6 q7 : Prop} (h : p1 ∧ p2 ∧ p3 ∧ p4 ∧ p5 ∧ p6 ∧ p7) (k : q1 ∧ q2 ∧ q3 ∧ q4 ∧ q5 ∧ q6 ∧ q7) : p1 ∧ p2 ∧ p3 ∧ p4 ∧ p5 ∧ p6 ∧ p7 ∧ q1 ∧ q2 ∧ q3 ∧ q4 ∧ q5 ∧ q6 ∧ q7 :=
  ⟨h.1, h.2.1, h.2.2.1, h.2.2.2.1, h.2.2.2.2.1, h.2.2.2.2.2.1, h.2.2.2.2.2.2, k⟩
set_option maxRecDepth 100000 in
set_option maxHeartbeats 1600000 in
theorem lotsBack_big (x y : PScr) (A1 A2 B1 B2 : Option Addr) (c1 c2 d1 d2 : Nat) (s : ByteArray) (w : World) (T : TypeId) (u : Value) (hE : w.cell? ⟨0, 0, none⟩ = some (.iface T u)) (hs : s.size ≤ 9223372036854775807)
    (lo : x.ops.length ≤ 9223372036854775807) (lp : x.picks.length ≤ 9223372036854775807) (lo' : y.ops.length ≤ 9223372036854775807) (lp' : y.picks.length ≤ 9223372036854775807)
    (hbig : ¬ (x.ops.length ≤ 64 ∧ x.picks.length ≤ 4096 ∧ y.ops.length ≤ 64 ∧ y.picks.length ≤ 4096 ∧ s.size ≤ 16384)) :
    Calls Tryd.prog 7 #[x.v A1 c1 A2 c2, y.v B1 d1 B2 d2, .string s] w (RetB true w) := by
  have hE1 := cell_alloc (cell_alloc hE (.cells #[.int .i64 x.st, .int .i64 x.en, .int .i64 x.th, .int .i64 x.sl, .int .i64 x.no, .slice A1 x.ops.length c1, .slice A2 x.picks.length c2] 29)) (.cells #[.int .i64 y.st, .int .i64 y.en, .int .i64 y.th, .int .i64 y.sl, .int .i64 y.no, .slice B1 y.ops.length d1, .slice B2 y.picks.length d2] 29)
  go_enter Tryd.func7, Tryd.ntmps7
  simp only [PScr.v]
  go_wp2_with fail
  refine (awake_any _ T u hE1).mono ?_
  rintro e w1 ⟨rfl, hb1⟩
  have hB := below_two hb1
  have x5 := (hb1.cell (p := ⟨w.heap.size, 5, none⟩) (by simp; try omega)).trans (show _ = some (.slice A1 x.ops.length c1) by simp)
  have x6 := (hb1.cell (p := ⟨w.heap.size, 6, none⟩) (by simp; try omega)).trans (show _ = some (.slice A2 x.picks.length c2) by simp)
  have y5 := (hb1.cell (p := ⟨w.heap.size + 1, 5, none⟩) (by simp; try omega)).trans (show _ = some (.slice B1 y.ops.length d1) by simp)
  have y6 := (hb1.cell (p := ⟨w.heap.size + 1, 6, none⟩) (by simp; try omega)).trans (show _ = some (.slice B2 y.picks.length d2) by simp)
  clear hb1
  go_wp2_with fail
  all_goals first
    | (exfalso; omega)
    | (go_ret; exact ⟨rfl, hB⟩)

set_option maxRecDepth 100000 in
set_option maxHeartbeats 3200000 in
theorem lotsBack_small (x y : PScr) (A1 A2 B1 B2 : Option Addr) (c1 c2 d1 d2 : Nat) (s : ByteArray) (w : World) (T : TypeId) (u : Value) (hE : w.cell? ⟨0, 0, none⟩ = some (.iface T u)) (hs : s.size ≤ 16384)
    (sox : Sl w w.heap.size 5 A1 x.ops.length (tcells x.ops)) (spx : Sl w w.heap.size 1 A2 x.picks.length (icells x.picks)) (soy : Sl w w.heap.size 5 B1 y.ops.length (tcells y.ops)) (spy : Sl w w.heap.size 1 B2 y.picks.length (icells y.picks))
    (lo : x.ops.length ≤ 64) (lp : x.picks.length ≤ 4096) (lo' : y.ops.length ≤ 64) (lp' : y.picks.length ≤ 4096) (ex ey : Bool) (hex : encB x = ex) (hey : encB y = ey) (nxy : encB x = true → encB y = true → x ≠ y) :
    Calls Tryd.prog 7 #[x.v A1 c1 A2 c2, y.v B1 d1 B2 d2, .string s] w (RetB true w) := by
  have HX := Lib.hid hex; have HY := Lib.hid hey; clear hex hey
  have NXY := Lib.hid nxy; clear nxy
  obtain ⟨l1, l2⟩ := dec_lens s
  have hze := dec_enc s
  have hz4 : ((((strOfNums (encNums (dec s))).size : Nat) : Int) == 6 + 4 * ((dec s).ops.length : Int) + ((dec s).picks.length : Int)) = true := by rw [encStr_size]; simp
  have hz3 := dec_self hze
  have hz5 : (strOfNums (encNums (dec s))).size ≤ 100000 := by rw [encStr_size]; omega
  obtain ⟨sc, hsc⟩ : ∃ sc, strOfNums (encNums (dec s)) = sc := ⟨_, rfl⟩
  rw [hsc] at hz4 hz3 hz5
  obtain ⟨z, hz⟩ : ∃ z, dec s = z := ⟨_, rfl⟩
  rw [hz] at l1 l2 hze hz4 hz3 hsc
  have HZ := Lib.hid (And.intro hz (And.intro hze (And.intro hsc (And.intro hz3 hz4))))
  clear hz hze hsc hz3 hz4
  have g1 : decide ((64 : Int) < (x.ops.length : Int)) = false := by simp; omega
  have g2 : decide ((4096 : Int) < (x.picks.length : Int)) = false := by simp; omega
  have g3 : decide ((64 : Int) < (y.ops.length : Int)) = false := by simp; omega
  have g4 : decide ((4096 : Int) < (y.picks.length : Int)) = false := by simp; omega
  have g5 : decide ((16384 : Int) < (s.size : Int)) = false := by simp; omega
  have hE1 := cell_alloc (cell_alloc hE (.cells #[.int .i64 x.st, .int .i64 x.en, .int .i64 x.th, .int .i64 x.sl, .int .i64 x.no, .slice A1 x.ops.length c1, .slice A2 x.picks.length c2] 29)) (.cells #[.int .i64 y.st, .int .i64 y.en, .int .i64 y.th, .int .i64 y.sl, .int .i64 y.no, .slice B1 y.ops.length d1, .slice B2 y.picks.length d2] 29)
  have KX0 : SW w ((w.alloc (.cells #[.int .i64 x.st, .int .i64 x.en, .int .i64 x.th, .int .i64 x.sl, .int .i64 x.no, .slice A1 x.ops.length c1, .slice A2 x.picks.length c2] 29)).alloc (.cells #[.int .i64 y.st, .int .i64 y.en, .int .i64 y.th, .int .i64 y.sl, .int .i64 y.no, .slice B1 y.ops.length d1, .slice B2 y.picks.length d2] 29)) T u x w.heap.size A1 c1 A2 c2 := ⟨((Below.refl _ _).alloc (Nat.le_refl _) _).alloc (by simp) _, hE1, (Bk.at_ rfl).alloc _, (sox.alloc _).alloc _, (spx.alloc _).alloc _⟩
  have KY0 : SW w ((w.alloc (.cells #[.int .i64 x.st, .int .i64 x.en, .int .i64 x.th, .int .i64 x.sl, .int .i64 x.no, .slice A1 x.ops.length c1, .slice A2 x.picks.length c2] 29)).alloc (.cells #[.int .i64 y.st, .int .i64 y.en, .int .i64 y.th, .int .i64 y.sl, .int .i64 y.no, .slice B1 y.ops.length d1, .slice B2 y.picks.length d2] 29)) T u y (w.heap.size + 1) B1 d1 B2 d2 := ⟨KX0.below, hE1, Bk.at_ (by simp), (soy.alloc _).alloc _, (spy.alloc _).alloc _⟩
  clear sox spx soy spy hE
  go_enter Tryd.func7, Tryd.ntmps7
  simp only [PScr.v]
  go_wp2_with fail
  refine (awake_any _ T u hE1).mono ?_
  rintro e w1 ⟨rfl, hb1⟩
  have KX1 := KX0.more hb1
  have KY1 := KY0.more hb1
  clear hb1 KX0 KY0 hE1
  obtain ⟨x0, x1, x2, x3, x4, x5, x6⟩ := KX1.k.cells
  obtain ⟨y0, y1, y2, y3, y4, y5, y6⟩ := KY1.k.cells
  cases ex
  · go_wp2_with fail
    refine (encode_isNo x A1 A2 c1 c2 _ T u KX1.err KX1.so KX1.sp (by omega) (by omega) HX.out).mono ?_
    rintro e w2 ⟨rfl, hb2⟩
    have KY2 := KY1.more hb2
    clear x0 x1 x2 x3 x4 x5 x6 y0 y1 y2 y3 y4 y5 y6 KX1 KY1 hb2
    obtain ⟨y0, y1, y2, y3, y4, y5, y6⟩ := KY2.k.cells
    cases ey
    · go_wp2_with fail
      refine (encode_isNo y B1 B2 d1 d2 _ T u KY2.err KY2.so KY2.sp (by omega) (by omega) HY.out).mono ?_
      rintro e w3 ⟨rfl, hb3⟩
      have KT := (KY2.more hb3).drewN
      clear y0 y1 y2 y3 y4 y5 y6 KY2 hb3
      go_wp2_with fail
      go_quiet (fail)
      have KT := KT nq
      (go_wp2_with fail; refine (decode_is _ _ (by omega) HZ.out.1).mono ?_; rintro e w7 ⟨C1, e1, C2, e2, rfl, so7, sp7, hb7⟩; have KZ0 := SW.store (x := z) (A := C1) (c := e1) (A' := C2) (c' := e2) (KT.below.trans (hb7.mono KT.below.size)) (cell_below KT.err hb7) so7 sp7; clear so7 sp7; have KT7 := KT.more hb7; clear hb7; go_wp2_with fail; (generalize (w7.alloc (.cells #[.int .i64 z.st, .int .i64 z.en, .int .i64 z.th, .int .i64 z.sl, .int .i64 z.no, .slice C1 z.ops.length e1, .slice C2 z.picks.length e2] 29)) = w8 at *); refine (encode_yes z C1 C2 e1 e2 _ T u KZ0.err KZ0.so KZ0.sp (by omega) (by omega) HZ.out.2.1 HZ.out.2.2.1).mono ?_; rintro e w9 ⟨rfl, hb9⟩; have KZ := KZ0.more hb9; clear hb9 KZ0 KT7 KT; have hsz := HZ.out.2.2.2.2; have hwr : ((sc.size : Int) == IntKind.i64.wrap (IntKind.i64.wrap (6 + IntKind.i64.wrap (4 * (z.ops.length : Int))) + (z.picks.length : Int))) = true := (by rw [IntWalk.i64_in (4 * (z.ops.length : Int)) (by omega), IntWalk.i64_in (6 + 4 * (z.ops.length : Int)) (by omega), IntWalk.i64_in _ (by omega)]; exact HZ.out.2.2.2.2); go_wp2_with fail; go_region_held3 (fun w' => w'.cell? ⟨w7.heap.size, 0, none⟩ = some (.int .i64 z.st) ∧ w'.cell? ⟨w7.heap.size, 1, none⟩ = some (.int .i64 z.en) ∧ w'.cell? ⟨w7.heap.size, 2, none⟩ = some (.int .i64 z.th) ∧ w'.cell? ⟨w7.heap.size, 3, none⟩ = some (.int .i64 z.sl) ∧ w'.cell? ⟨w7.heap.size, 4, none⟩ = some (.int .i64 z.no) ∧ w'.cell? ⟨w7.heap.size, 5, none⟩ = some (.slice C1 z.ops.length e1) ∧ w'.cell? ⟨w7.heap.size, 6, none⟩ = some (.slice C2 z.picks.length e2)) (first | exact K12.k.cells | exact K10.k.cells | exact KZ.drew.k.cells) (first | (go_at_call 11; refine (decode_is _ _ (by omega) HZ.out.2.2.2.1).mono ?_; rintro e w10 ⟨D1, f1, D2, f2, rfl, so10, sp10, hb10⟩; have K10 := KZ.drew.more hb10) | (go_at_call 18; refine (same_is (b := true) z z D1 D2 C1 C2 f1 f2 e1 e2 _ so10 sp10 K10.so K10.sp (by omega) (by omega) (by omega) (by omega) (by simp)).mono ?_; rintro e w12 ⟨rfl, hb12⟩; have K12 := K10.more hb12)); go_wp2_with fail; go_ret; exact ⟨rfl, K12.below⟩)
    · obtain ⟨sb, hsb⟩ : ∃ sb, strOfNums (encNums y) = sb := ⟨_, rfl⟩
      have HSB := Lib.hid hsb; clear hsb
      go_wp2_with fail
      refine (encode_yes y B1 B2 d1 d2 _ T u KY2.err KY2.so KY2.sp (by omega) (by omega) HY.out HSB.out).mono ?_
      rintro e w3 ⟨rfl, hb3⟩
      have KT := (KY2.more hb3).drewN
      clear y0 y1 y2 y3 y4 y5 y6 KY2 hb3
      go_wp2_with fail
      go_quiet (fail)
      have KT := KT nq
      (go_wp2_with fail; refine (decode_is _ _ (by omega) HZ.out.1).mono ?_; rintro e w7 ⟨C1, e1, C2, e2, rfl, so7, sp7, hb7⟩; have KZ0 := SW.store (x := z) (A := C1) (c := e1) (A' := C2) (c' := e2) (KT.below.trans (hb7.mono KT.below.size)) (cell_below KT.err hb7) so7 sp7; clear so7 sp7; have KT7 := KT.more hb7; clear hb7; go_wp2_with fail; (generalize (w7.alloc (.cells #[.int .i64 z.st, .int .i64 z.en, .int .i64 z.th, .int .i64 z.sl, .int .i64 z.no, .slice C1 z.ops.length e1, .slice C2 z.picks.length e2] 29)) = w8 at *); refine (encode_yes z C1 C2 e1 e2 _ T u KZ0.err KZ0.so KZ0.sp (by omega) (by omega) HZ.out.2.1 HZ.out.2.2.1).mono ?_; rintro e w9 ⟨rfl, hb9⟩; have KZ := KZ0.more hb9; clear hb9 KZ0 KT7 KT; have hsz := HZ.out.2.2.2.2; have hwr : ((sc.size : Int) == IntKind.i64.wrap (IntKind.i64.wrap (6 + IntKind.i64.wrap (4 * (z.ops.length : Int))) + (z.picks.length : Int))) = true := (by rw [IntWalk.i64_in (4 * (z.ops.length : Int)) (by omega), IntWalk.i64_in (6 + 4 * (z.ops.length : Int)) (by omega), IntWalk.i64_in _ (by omega)]; exact HZ.out.2.2.2.2); go_wp2_with fail; go_region_held3 (fun w' => w'.cell? ⟨w7.heap.size, 0, none⟩ = some (.int .i64 z.st) ∧ w'.cell? ⟨w7.heap.size, 1, none⟩ = some (.int .i64 z.en) ∧ w'.cell? ⟨w7.heap.size, 2, none⟩ = some (.int .i64 z.th) ∧ w'.cell? ⟨w7.heap.size, 3, none⟩ = some (.int .i64 z.sl) ∧ w'.cell? ⟨w7.heap.size, 4, none⟩ = some (.int .i64 z.no) ∧ w'.cell? ⟨w7.heap.size, 5, none⟩ = some (.slice C1 z.ops.length e1) ∧ w'.cell? ⟨w7.heap.size, 6, none⟩ = some (.slice C2 z.picks.length e2)) (first | exact K12.k.cells | exact K10.k.cells | exact KZ.drew.k.cells) (first | (go_at_call 11; refine (decode_is _ _ (by omega) HZ.out.2.2.2.1).mono ?_; rintro e w10 ⟨D1, f1, D2, f2, rfl, so10, sp10, hb10⟩; have K10 := KZ.drew.more hb10) | (go_at_call 18; refine (same_is (b := true) z z D1 D2 C1 C2 f1 f2 e1 e2 _ so10 sp10 K10.so K10.sp (by omega) (by omega) (by omega) (by omega) (by simp)).mono ?_; rintro e w12 ⟨rfl, hb12⟩; have K12 := K10.more hb12)); go_wp2_with fail; go_ret; exact ⟨rfl, K12.below⟩)
  · have hxd := dec_self HX.out
    have hx5 : (strOfNums (encNums x)).size ≤ 100000 := by rw [encStr_size]; omega
    obtain ⟨sa, hsa⟩ : ∃ sa, strOfNums (encNums x) = sa := ⟨_, rfl⟩
    rw [hsa] at hxd hx5
    have HSA := Lib.hid (And.intro hsa hxd); clear hsa hxd
    go_wp2_with fail
    refine (encode_yes x A1 A2 c1 c2 _ T u KX1.err KX1.so KX1.sp (by omega) (by omega) HX.out HSA.out.1).mono ?_
    rintro e w2 ⟨rfl, hb2⟩
    have KX2 := KX1.more hb2
    have KY2 := KY1.more hb2
    clear x0 x1 x2 x3 x4 x5 x6 y0 y1 y2 y3 y4 y5 y6 KX1 KY1 hb2
    obtain ⟨y0, y1, y2, y3, y4, y5, y6⟩ := KY2.k.cells
    cases ey
    · go_wp2_with fail
      refine (encode_isNo y B1 B2 d1 d2 _ T u KY2.err KY2.so KY2.sp (by omega) (by omega) HY.out).mono ?_
      rintro e w3 ⟨rfl, hb3⟩
      have KX3 := KX2.more hb3
      clear y0 y1 y2 y3 y4 y5 y6 KY2 hb3 KX2
      go_wp2_with fail
      refine wp_region_T (fun w' => SW w w' T u x w.heap.size A1 c1 A2 c2) 26 (by kernel_rfl) KX3.drew (fun hS => ?_)
      (refine wpT_batch (fuel := 14) (by kernel_rfl) (by kernel_rfl) (fun d => by cases d <;> exact fun _ _ _ _ h => h) hS [0, 1, 2, 3, 4, 5, 6, 7, 8, 9, 10, 11] _ _ (by kernel_rfl) ?_; simp only [pickOps, nthOp, List.toList_toArray]; (repeat (first | go_big_quiet_skip | (go_big_quiet_want; first | (go_big_quiet_op; go_big_quiet_on) | (apply Exists.intro; refine ⟨fun w' hS' => ?_, ?_⟩; (· (have hk := hS'.k.cells; obtain ⟨f0, f1, f2, f3, f4, f5, f6⟩ := hk; go_simp; first | done | rfl | exact ⟨rfl, rfl⟩)); go_big_quiet_on; simp only [Act.put, List.setIfInBounds_toArray, List.set_cons_succ, List.set_cons_zero])))); refine wpQuiet_nil ?_; (try dsimp only))
      (refine wpT_off 12 (by kernel_rfl) (by kernel_rfl) (fun d => by cases d <;> exact fun _ _ _ _ h => h) hS (by decide) (by kernel_rfl) (by kernel_rfl) (by rfl) ?_; simp only [nthOp, List.toList_toArray, Act.put, List.setIfInBounds_toArray, List.set_cons_succ, List.set_cons_zero])
      (refine wpT_batch (fuel := 5) (by kernel_rfl) (by kernel_rfl) (fun d => by cases d <;> exact fun _ _ _ _ h => h) hS [13, 14, 15, 16, 17, 18, 19, 21] _ _ (by kernel_rfl) ?_; simp only [pickOps, nthOp, List.toList_toArray]; (repeat (first | go_big_quiet_skip | (go_big_quiet_want; first | (go_big_quiet_op; go_big_quiet_on) | (apply Exists.intro; refine ⟨fun w' hS' => ?_, ?_⟩; (· (have hk := hS'.k.cells; obtain ⟨f0, f1, f2, f3, f4, f5, f6⟩ := hk; go_simp; first | done | rfl | exact ⟨rfl, rfl⟩)); go_big_quiet_on; simp only [Act.put, List.setIfInBounds_toArray, List.set_cons_succ, List.set_cons_zero])))); refine wpQuiet_nil ?_; (try dsimp only))
      (refine wpT_loud (i := 20) rfl (by kernel_rfl) (fun K hK => ?_))
      go_wp2_with fail
      refine (decode_is _ _ (by omega) HSA.out.2).mono ?_
      rintro e w4 ⟨D1, f1, D2, f2, rfl, so4, sp4, hb4⟩
      have K4 := KX3.drew.more hb4
      go_wp2_with fail
      refine hK.out _ _ (fun _ => K4) ?_
      clear hK hS
      (refine wpT_loud (i := 22) rfl (by kernel_rfl) (fun K hK => ?_))
      go_wp2_with fail
      refine (same_is (b := true) x x D1 D2 A1 A2 f1 f2 c1 c2 _ so4 sp4 K4.so K4.sp (by omega) (by omega) (by omega) (by omega) (by simp)).mono ?_
      rintro e w5 ⟨rfl, hb5⟩
      have KT := K4.more hb5
      go_wp2_with fail
      refine hK.out _ _ (fun _ => KT) ?_
      clear hK K4 KX3 so4 sp4 hb4 hb5
      have hS := KT
      (refine wpT_batch (fuel := 0) (by kernel_rfl) (by kernel_rfl) (fun d => by cases d <;> exact fun _ _ _ _ h => h) hS [23, 24, 25] _ _ (by kernel_rfl) ?_; simp only [pickOps, nthOp, List.toList_toArray]; (repeat (first | go_big_quiet_skip | (go_big_quiet_want; first | (go_big_quiet_op; go_big_quiet_on) | (apply Exists.intro; refine ⟨fun w' hS' => ?_, ?_⟩; (· (have hk := hS'.k.cells; obtain ⟨f0, f1, f2, f3, f4, f5, f6⟩ := hk; go_simp; first | done | rfl | exact ⟨rfl, rfl⟩)); go_big_quiet_on; simp only [Act.put, List.setIfInBounds_toArray, List.set_cons_succ, List.set_cons_zero])))); refine wpQuiet_nil ?_; (try dsimp only))
      clear hS
      refine wpT_done (by kernel_rfl) ?_ _
      (go_wp2_with fail; refine (decode_is _ _ (by omega) HZ.out.1).mono ?_; rintro e w7 ⟨C1, e1, C2, e2, rfl, so7, sp7, hb7⟩; have KZ0 := SW.store (x := z) (A := C1) (c := e1) (A' := C2) (c' := e2) (KT.below.trans (hb7.mono KT.below.size)) (cell_below KT.err hb7) so7 sp7; clear so7 sp7; have KT7 := KT.more hb7; clear hb7; go_wp2_with fail; (generalize (w7.alloc (.cells #[.int .i64 z.st, .int .i64 z.en, .int .i64 z.th, .int .i64 z.sl, .int .i64 z.no, .slice C1 z.ops.length e1, .slice C2 z.picks.length e2] 29)) = w8 at *); refine (encode_yes z C1 C2 e1 e2 _ T u KZ0.err KZ0.so KZ0.sp (by omega) (by omega) HZ.out.2.1 HZ.out.2.2.1).mono ?_; rintro e w9 ⟨rfl, hb9⟩; have KZ := KZ0.more hb9; clear hb9 KZ0 KT7 KT; have hsz := HZ.out.2.2.2.2; have hwr : ((sc.size : Int) == IntKind.i64.wrap (IntKind.i64.wrap (6 + IntKind.i64.wrap (4 * (z.ops.length : Int))) + (z.picks.length : Int))) = true := (by rw [IntWalk.i64_in (4 * (z.ops.length : Int)) (by omega), IntWalk.i64_in (6 + 4 * (z.ops.length : Int)) (by omega), IntWalk.i64_in _ (by omega)]; exact HZ.out.2.2.2.2); go_wp2_with fail; go_region_held3 (fun w' => w'.cell? ⟨w7.heap.size, 0, none⟩ = some (.int .i64 z.st) ∧ w'.cell? ⟨w7.heap.size, 1, none⟩ = some (.int .i64 z.en) ∧ w'.cell? ⟨w7.heap.size, 2, none⟩ = some (.int .i64 z.th) ∧ w'.cell? ⟨w7.heap.size, 3, none⟩ = some (.int .i64 z.sl) ∧ w'.cell? ⟨w7.heap.size, 4, none⟩ = some (.int .i64 z.no) ∧ w'.cell? ⟨w7.heap.size, 5, none⟩ = some (.slice C1 z.ops.length e1) ∧ w'.cell? ⟨w7.heap.size, 6, none⟩ = some (.slice C2 z.picks.length e2)) (first | exact K12.k.cells | exact K10.k.cells | exact KZ.drew.k.cells) (first | (go_at_call 11; refine (decode_is _ _ (by omega) HZ.out.2.2.2.1).mono ?_; rintro e w10 ⟨D1, f1, D2, f2, rfl, so10, sp10, hb10⟩; have K10 := KZ.drew.more hb10) | (go_at_call 18; refine (same_is (b := true) z z D1 D2 C1 C2 f1 f2 e1 e2 _ so10 sp10 K10.so K10.sp (by omega) (by omega) (by omega) (by omega) (by simp)).mono ?_; rintro e w12 ⟨rfl, hb12⟩; have K12 := K10.more hb12)); go_wp2_with fail; go_ret; exact ⟨rfl, K12.below⟩)
    · have hne := NXY.out HX.out HY.out
      have hsab : sa ≠ strOfNums (encNums y) := fun h => hne ((enc_inj HX.out HY.out).1 (by rw [HSA.out.1, h]))
      obtain ⟨sb, hsb⟩ : ∃ sb, strOfNums (encNums y) = sb := ⟨_, rfl⟩
      rw [hsb] at hsab
      have HSB := Lib.hid hsb; clear hsb
      have hab : (sa.toList == sb.toList) = false := by
        rw [Go.ByteArray.toList_eq, Go.ByteArray.toList_eq, beq_eq_false_iff_ne]
        intro h
        exact hsab (ByteArray.ext (Array.ext' h))
      have HNE := Lib.hid hne; clear hne hsab
      go_wp2_with fail
      refine (encode_yes y B1 B2 d1 d2 _ T u KY2.err KY2.so KY2.sp (by omega) (by omega) HY.out HSB.out).mono ?_
      rintro e w3 ⟨rfl, hb3⟩
      have KX3 := KX2.more hb3
      have KY3 := KY2.more hb3
      clear y0 y1 y2 y3 y4 y5 y6 KY2 hb3 KX2
      have tok1 : True := trivial
      go_wp2_with fail
      go_region_held3 (fun w' => w'.cell? ⟨w.heap.size, 0, none⟩ = some (.int .i64 x.st) ∧ w'.cell? ⟨w.heap.size, 1, none⟩ = some (.int .i64 x.en) ∧ w'.cell? ⟨w.heap.size, 2, none⟩ = some (.int .i64 x.th) ∧ w'.cell? ⟨w.heap.size, 3, none⟩ = some (.int .i64 x.sl) ∧ w'.cell? ⟨w.heap.size, 4, none⟩ = some (.int .i64 x.no) ∧ w'.cell? ⟨w.heap.size, 5, none⟩ = some (.slice A1 x.ops.length c1) ∧ w'.cell? ⟨w.heap.size, 6, none⟩ = some (.slice A2 x.picks.length c2) ∧ w'.cell? ⟨w.heap.size + 1, 0, none⟩ = some (.int .i64 y.st) ∧ w'.cell? ⟨w.heap.size + 1, 1, none⟩ = some (.int .i64 y.en) ∧ w'.cell? ⟨w.heap.size + 1, 2, none⟩ = some (.int .i64 y.th) ∧ w'.cell? ⟨w.heap.size + 1, 3, none⟩ = some (.int .i64 y.sl) ∧ w'.cell? ⟨w.heap.size + 1, 4, none⟩ = some (.int .i64 y.no) ∧ w'.cell? ⟨w.heap.size + 1, 5, none⟩ = some (.slice B1 y.ops.length d1) ∧ w'.cell? ⟨w.heap.size + 1, 6, none⟩ = some (.slice B2 y.picks.length d2)) (first | exact twoCells KT.k.cells KT'.k.cells | exact twoCells K4.k.cells K4'.k.cells | exact twoCells K9.k.cells K9'.k.cells | exact twoCells KX3.drew.k.cells KY3.drew.k.cells)
        (first
          | (go_at_call 18; have _t := tok1; refine (same_is (b := false) x y A1 A2 B1 B2 c1 c2 d1 d2 _ KX3.drew.so KX3.drew.sp KY3.drew.so KY3.drew.sp (by omega) (by omega) (by omega) (by omega) (by simpa using HNE.out)).mono ?_; rintro e w9 ⟨rfl, hb9⟩; have K9 := KX3.drew.more hb9; have K9' := KY3.drew.more hb9; clear tok1)
          | (go_at_call 11; refine (decode_is _ _ (by omega) HSA.out.2).mono ?_; rintro e w4 ⟨D1, f1, D2, f2, rfl, so4, sp4, hb4⟩; have K4 := K9.more hb4; have K4' := K9'.more hb4)
          | (go_at_call 18; refine (same_is (b := true) x x D1 D2 A1 A2 f1 f2 c1 c2 _ so4 sp4 K4.so K4.sp (by omega) (by omega) (by omega) (by omega) (by simp)).mono ?_; rintro e w5 ⟨rfl, hb5⟩; have KT := K4.more hb5; have KT' := K4'.more hb5))
      clear K4 K4' K9 K9' KX3 KY3 so4 sp4 hb4 hb5 hb9 KT'
      (go_wp2_with fail; refine (decode_is _ _ (by omega) HZ.out.1).mono ?_; rintro e w7 ⟨C1, e1, C2, e2, rfl, so7, sp7, hb7⟩; have KZ0 := SW.store (x := z) (A := C1) (c := e1) (A' := C2) (c' := e2) (KT.below.trans (hb7.mono KT.below.size)) (cell_below KT.err hb7) so7 sp7; clear so7 sp7; have KT7 := KT.more hb7; clear hb7; go_wp2_with fail; (generalize (w7.alloc (.cells #[.int .i64 z.st, .int .i64 z.en, .int .i64 z.th, .int .i64 z.sl, .int .i64 z.no, .slice C1 z.ops.length e1, .slice C2 z.picks.length e2] 29)) = w8 at *); refine (encode_yes z C1 C2 e1 e2 _ T u KZ0.err KZ0.so KZ0.sp (by omega) (by omega) HZ.out.2.1 HZ.out.2.2.1).mono ?_; rintro e w9 ⟨rfl, hb9⟩; have KZ := KZ0.more hb9; clear hb9 KZ0 KT7 KT; have hsz := HZ.out.2.2.2.2; have hwr : ((sc.size : Int) == IntKind.i64.wrap (IntKind.i64.wrap (6 + IntKind.i64.wrap (4 * (z.ops.length : Int))) + (z.picks.length : Int))) = true := (by rw [IntWalk.i64_in (4 * (z.ops.length : Int)) (by omega), IntWalk.i64_in (6 + 4 * (z.ops.length : Int)) (by omega), IntWalk.i64_in _ (by omega)]; exact HZ.out.2.2.2.2); go_wp2_with fail; go_region_held3 (fun w' => w'.cell? ⟨w7.heap.size, 0, none⟩ = some (.int .i64 z.st) ∧ w'.cell? ⟨w7.heap.size, 1, none⟩ = some (.int .i64 z.en) ∧ w'.cell? ⟨w7.heap.size, 2, none⟩ = some (.int .i64 z.th) ∧ w'.cell? ⟨w7.heap.size, 3, none⟩ = some (.int .i64 z.sl) ∧ w'.cell? ⟨w7.heap.size, 4, none⟩ = some (.int .i64 z.no) ∧ w'.cell? ⟨w7.heap.size, 5, none⟩ = some (.slice C1 z.ops.length e1) ∧ w'.cell? ⟨w7.heap.size, 6, none⟩ = some (.slice C2 z.picks.length e2)) (first | exact K12.k.cells | exact K10.k.cells | exact KZ.drew.k.cells) (first | (go_at_call 11; refine (decode_is _ _ (by omega) HZ.out.2.2.2.1).mono ?_; rintro e w10 ⟨D1, f1, D2, f2, rfl, so10, sp10, hb10⟩; have K10 := KZ.drew.more hb10) | (go_at_call 18; refine (same_is (b := true) z z D1 D2 C1 C2 f1 f2 e1 e2 _ so10 sp10 K10.so K10.sp (by omega) (by omega) (by omega) (by omega) (by simp)).mono ?_; rintro e w12 ⟨rfl, hb12⟩; have K12 := K10.more hb12)); go_wp2_with fail; go_ret; exact ⟨rfl, K12.below⟩)


set_option maxRecDepth 100000 in
set_option maxHeartbeats 3200000 in
theorem lotsBack_same (x : PScr) (A1 A2 B1 B2 : Option Addr) (c1 c2 d1 d2 : Nat) (s : ByteArray) (w : World) (T : TypeId) (u : Value) (hE : w.cell? ⟨0, 0, none⟩ = some (.iface T u)) (hs : s.size ≤ 16384)
    (sox : Sl w w.heap.size 5 A1 x.ops.length (tcells x.ops)) (spx : Sl w w.heap.size 1 A2 x.picks.length (icells x.picks)) (soy : Sl w w.heap.size 5 B1 x.ops.length (tcells x.ops)) (spy : Sl w w.heap.size 1 B2 x.picks.length (icells x.picks))
    (lo : x.ops.length ≤ 64) (lp : x.picks.length ≤ 4096) (ex : Bool) (hex : encB x = ex) :
    Calls Tryd.prog 7 #[x.v A1 c1 A2 c2, x.v B1 d1 B2 d2, .string s] w (RetB true w) := by
  have HX := Lib.hid hex; clear hex
  obtain ⟨l1, l2⟩ := dec_lens s
  have hze := dec_enc s
  have hz4 : ((((strOfNums (encNums (dec s))).size : Nat) : Int) == 6 + 4 * ((dec s).ops.length : Int) + ((dec s).picks.length : Int)) = true := by rw [encStr_size]; simp
  have hz3 := dec_self hze
  have hz5 : (strOfNums (encNums (dec s))).size ≤ 100000 := by rw [encStr_size]; omega
  obtain ⟨sc, hsc⟩ : ∃ sc, strOfNums (encNums (dec s)) = sc := ⟨_, rfl⟩
  rw [hsc] at hz4 hz3 hz5
  obtain ⟨z, hz⟩ : ∃ z, dec s = z := ⟨_, rfl⟩
  rw [hz] at l1 l2 hze hz4 hz3 hsc
  have HZ := Lib.hid (And.intro hz (And.intro hze (And.intro hsc (And.intro hz3 hz4))))
  clear hz hze hsc hz3 hz4
  have g1 : decide ((64 : Int) < (x.ops.length : Int)) = false := by simp; omega
  have g2 : decide ((4096 : Int) < (x.picks.length : Int)) = false := by simp; omega
  have g5 : decide ((16384 : Int) < (s.size : Int)) = false := by simp; omega
  have hE1 := cell_alloc (cell_alloc hE (.cells #[.int .i64 x.st, .int .i64 x.en, .int .i64 x.th, .int .i64 x.sl, .int .i64 x.no, .slice A1 x.ops.length c1, .slice A2 x.picks.length c2] 29)) (.cells #[.int .i64 x.st, .int .i64 x.en, .int .i64 x.th, .int .i64 x.sl, .int .i64 x.no, .slice B1 x.ops.length d1, .slice B2 x.picks.length d2] 29)
  have KX0 : SW w ((w.alloc (.cells #[.int .i64 x.st, .int .i64 x.en, .int .i64 x.th, .int .i64 x.sl, .int .i64 x.no, .slice A1 x.ops.length c1, .slice A2 x.picks.length c2] 29)).alloc (.cells #[.int .i64 x.st, .int .i64 x.en, .int .i64 x.th, .int .i64 x.sl, .int .i64 x.no, .slice B1 x.ops.length d1, .slice B2 x.picks.length d2] 29)) T u x w.heap.size A1 c1 A2 c2 := ⟨((Below.refl _ _).alloc (Nat.le_refl _) _).alloc (by simp) _, hE1, (Bk.at_ rfl).alloc _, (sox.alloc _).alloc _, (spx.alloc _).alloc _⟩
  have KY0 : SW w ((w.alloc (.cells #[.int .i64 x.st, .int .i64 x.en, .int .i64 x.th, .int .i64 x.sl, .int .i64 x.no, .slice A1 x.ops.length c1, .slice A2 x.picks.length c2] 29)).alloc (.cells #[.int .i64 x.st, .int .i64 x.en, .int .i64 x.th, .int .i64 x.sl, .int .i64 x.no, .slice B1 x.ops.length d1, .slice B2 x.picks.length d2] 29)) T u x (w.heap.size + 1) B1 d1 B2 d2 := ⟨KX0.below, hE1, Bk.at_ (by simp), (soy.alloc _).alloc _, (spy.alloc _).alloc _⟩
  clear sox spx soy spy hE
  go_enter Tryd.func7, Tryd.ntmps7
  simp only [PScr.v]
  go_wp2_with fail
  refine (awake_any _ T u hE1).mono ?_
  rintro e w1 ⟨rfl, hb1⟩
  have KX1 := KX0.more hb1
  have KY1 := KY0.more hb1
  clear hb1 KX0 KY0 hE1
  obtain ⟨x0, x1, x2, x3, x4, x5, x6⟩ := KX1.k.cells
  obtain ⟨y0, y1, y2, y3, y4, y5, y6⟩ := KY1.k.cells
  cases ex
  · go_wp2_with fail
    refine (encode_isNo x A1 A2 c1 c2 _ T u KX1.err KX1.so KX1.sp (by omega) (by omega) HX.out).mono ?_
    rintro e w2 ⟨rfl, hb2⟩
    have KY2 := KY1.more hb2
    clear x0 x1 x2 x3 x4 x5 x6 y0 y1 y2 y3 y4 y5 y6 KX1 KY1 hb2
    obtain ⟨y0, y1, y2, y3, y4, y5, y6⟩ := KY2.k.cells
    · go_wp2_with fail
      refine (encode_isNo x B1 B2 d1 d2 _ T u KY2.err KY2.so KY2.sp (by omega) (by omega) HX.out).mono ?_
      rintro e w3 ⟨rfl, hb3⟩
      have KT := (KY2.more hb3).drewN
      clear y0 y1 y2 y3 y4 y5 y6 KY2 hb3
      go_wp2_with fail
      go_quiet (fail)
      have KT := KT nq
      (go_wp2_with fail; refine (decode_is _ _ (by omega) HZ.out.1).mono ?_; rintro e w7 ⟨C1, e1, C2, e2, rfl, so7, sp7, hb7⟩; have KZ0 := SW.store (x := z) (A := C1) (c := e1) (A' := C2) (c' := e2) (KT.below.trans (hb7.mono KT.below.size)) (cell_below KT.err hb7) so7 sp7; clear so7 sp7; have KT7 := KT.more hb7; clear hb7; go_wp2_with fail; (generalize (w7.alloc (.cells #[.int .i64 z.st, .int .i64 z.en, .int .i64 z.th, .int .i64 z.sl, .int .i64 z.no, .slice C1 z.ops.length e1, .slice C2 z.picks.length e2] 29)) = w8 at *); refine (encode_yes z C1 C2 e1 e2 _ T u KZ0.err KZ0.so KZ0.sp (by omega) (by omega) HZ.out.2.1 HZ.out.2.2.1).mono ?_; rintro e w9 ⟨rfl, hb9⟩; have KZ := KZ0.more hb9; clear hb9 KZ0 KT7 KT; have hsz := HZ.out.2.2.2.2; have hwr : ((sc.size : Int) == IntKind.i64.wrap (IntKind.i64.wrap (6 + IntKind.i64.wrap (4 * (z.ops.length : Int))) + (z.picks.length : Int))) = true := (by rw [IntWalk.i64_in (4 * (z.ops.length : Int)) (by omega), IntWalk.i64_in (6 + 4 * (z.ops.length : Int)) (by omega), IntWalk.i64_in _ (by omega)]; exact HZ.out.2.2.2.2); go_wp2_with fail; go_region_held3 (fun w' => w'.cell? ⟨w7.heap.size, 0, none⟩ = some (.int .i64 z.st) ∧ w'.cell? ⟨w7.heap.size, 1, none⟩ = some (.int .i64 z.en) ∧ w'.cell? ⟨w7.heap.size, 2, none⟩ = some (.int .i64 z.th) ∧ w'.cell? ⟨w7.heap.size, 3, none⟩ = some (.int .i64 z.sl) ∧ w'.cell? ⟨w7.heap.size, 4, none⟩ = some (.int .i64 z.no) ∧ w'.cell? ⟨w7.heap.size, 5, none⟩ = some (.slice C1 z.ops.length e1) ∧ w'.cell? ⟨w7.heap.size, 6, none⟩ = some (.slice C2 z.picks.length e2)) (first | exact K12.k.cells | exact K10.k.cells | exact KZ.drew.k.cells) (first | (go_at_call 11; refine (decode_is _ _ (by omega) HZ.out.2.2.2.1).mono ?_; rintro e w10 ⟨D1, f1, D2, f2, rfl, so10, sp10, hb10⟩; have K10 := KZ.drew.more hb10) | (go_at_call 18; refine (same_is (b := true) z z D1 D2 C1 C2 f1 f2 e1 e2 _ so10 sp10 K10.so K10.sp (by omega) (by omega) (by omega) (by omega) (by simp)).mono ?_; rintro e w12 ⟨rfl, hb12⟩; have K12 := K10.more hb12)); go_wp2_with fail; go_ret; exact ⟨rfl, K12.below⟩)
  · have hxd := dec_self HX.out
    have hx5 : (strOfNums (encNums x)).size ≤ 100000 := by rw [encStr_size]; omega
    obtain ⟨sa, hsa⟩ : ∃ sa, strOfNums (encNums x) = sa := ⟨_, rfl⟩
    rw [hsa] at hxd hx5
    have HSA := Lib.hid (And.intro hsa hxd); clear hsa hxd
    go_wp2_with fail
    refine (encode_yes x A1 A2 c1 c2 _ T u KX1.err KX1.so KX1.sp (by omega) (by omega) HX.out HSA.out.1).mono ?_
    rintro e w2 ⟨rfl, hb2⟩
    have KX2 := KX1.more hb2
    have KY2 := KY1.more hb2
    clear x0 x1 x2 x3 x4 x5 x6 y0 y1 y2 y3 y4 y5 y6 KX1 KY1 hb2
    obtain ⟨y0, y1, y2, y3, y4, y5, y6⟩ := KY2.k.cells
    go_wp2_with fail
    refine (encode_yes x B1 B2 d1 d2 _ T u KY2.err KY2.so KY2.sp (by omega) (by omega) HX.out HSA.out.1).mono ?_
    rintro e w3 ⟨rfl, hb3⟩
    have KX3 := KX2.more hb3
    have KY3 := KY2.more hb3
    clear y0 y1 y2 y3 y4 y5 y6 KY2 hb3 KX2
    have tok1 : True := trivial
    go_wp2_with fail
    go_region_held3 (fun w' => w'.cell? ⟨w.heap.size, 0, none⟩ = some (.int .i64 x.st) ∧ w'.cell? ⟨w.heap.size, 1, none⟩ = some (.int .i64 x.en) ∧ w'.cell? ⟨w.heap.size, 2, none⟩ = some (.int .i64 x.th) ∧ w'.cell? ⟨w.heap.size, 3, none⟩ = some (.int .i64 x.sl) ∧ w'.cell? ⟨w.heap.size, 4, none⟩ = some (.int .i64 x.no) ∧ w'.cell? ⟨w.heap.size, 5, none⟩ = some (.slice A1 x.ops.length c1) ∧ w'.cell? ⟨w.heap.size, 6, none⟩ = some (.slice A2 x.picks.length c2) ∧ w'.cell? ⟨w.heap.size + 1, 0, none⟩ = some (.int .i64 x.st) ∧ w'.cell? ⟨w.heap.size + 1, 1, none⟩ = some (.int .i64 x.en) ∧ w'.cell? ⟨w.heap.size + 1, 2, none⟩ = some (.int .i64 x.th) ∧ w'.cell? ⟨w.heap.size + 1, 3, none⟩ = some (.int .i64 x.sl) ∧ w'.cell? ⟨w.heap.size + 1, 4, none⟩ = some (.int .i64 x.no) ∧ w'.cell? ⟨w.heap.size + 1, 5, none⟩ = some (.slice B1 x.ops.length d1) ∧ w'.cell? ⟨w.heap.size + 1, 6, none⟩ = some (.slice B2 x.picks.length d2)) (first | exact twoCells KT.k.cells KT'.k.cells | exact twoCells K4.k.cells K4'.k.cells | exact twoCells K9.k.cells K9'.k.cells | exact twoCells KX3.drew.k.cells KY3.drew.k.cells)
      (first
        | (go_at_call 18; have _t := tok1; refine (same_is (b := true) x x A1 A2 B1 B2 c1 c2 d1 d2 _ KX3.drew.so KX3.drew.sp KY3.drew.so KY3.drew.sp (by omega) (by omega) (by omega) (by omega) (by simp)).mono ?_; rintro e w9 ⟨rfl, hb9⟩; have K9 := KX3.drew.more hb9; have K9' := KY3.drew.more hb9; clear tok1)
        | (go_at_call 11; refine (decode_is _ _ (by omega) HSA.out.2).mono ?_; rintro e w4 ⟨D1, f1, D2, f2, rfl, so4, sp4, hb4⟩; have K4 := K9.more hb4; have K4' := K9'.more hb4)
        | (go_at_call 18; refine (same_is (b := true) x x D1 D2 A1 A2 f1 f2 c1 c2 _ so4 sp4 K4.so K4.sp (by omega) (by omega) (by omega) (by omega) (by simp)).mono ?_; rintro e w5 ⟨rfl, hb5⟩; have KT := K4.more hb5; have KT' := K4'.more hb5))
    clear K4 K4' K9 K9' KX3 KY3 so4 sp4 hb4 hb5 hb9 KT'
    (go_wp2_with fail; refine (decode_is _ _ (by omega) HZ.out.1).mono ?_; rintro e w7 ⟨C1, e1, C2, e2, rfl, so7, sp7, hb7⟩; have KZ0 := SW.store (x := z) (A := C1) (c := e1) (A' := C2) (c' := e2) (KT.below.trans (hb7.mono KT.below.size)) (cell_below KT.err hb7) so7 sp7; clear so7 sp7; have KT7 := KT.more hb7; clear hb7; go_wp2_with fail; (generalize (w7.alloc (.cells #[.int .i64 z.st, .int .i64 z.en, .int .i64 z.th, .int .i64 z.sl, .int .i64 z.no, .slice C1 z.ops.length e1, .slice C2 z.picks.length e2] 29)) = w8 at *); refine (encode_yes z C1 C2 e1 e2 _ T u KZ0.err KZ0.so KZ0.sp (by omega) (by omega) HZ.out.2.1 HZ.out.2.2.1).mono ?_; rintro e w9 ⟨rfl, hb9⟩; have KZ := KZ0.more hb9; clear hb9 KZ0 KT7 KT; have hsz := HZ.out.2.2.2.2; have hwr : ((sc.size : Int) == IntKind.i64.wrap (IntKind.i64.wrap (6 + IntKind.i64.wrap (4 * (z.ops.length : Int))) + (z.picks.length : Int))) = true := (by rw [IntWalk.i64_in (4 * (z.ops.length : Int)) (by omega), IntWalk.i64_in (6 + 4 * (z.ops.length : Int)) (by omega), IntWalk.i64_in _ (by omega)]; exact HZ.out.2.2.2.2); go_wp2_with fail; go_region_held3 (fun w' => w'.cell? ⟨w7.heap.size, 0, none⟩ = some (.int .i64 z.st) ∧ w'.cell? ⟨w7.heap.size, 1, none⟩ = some (.int .i64 z.en) ∧ w'.cell? ⟨w7.heap.size, 2, none⟩ = some (.int .i64 z.th) ∧ w'.cell? ⟨w7.heap.size, 3, none⟩ = some (.int .i64 z.sl) ∧ w'.cell? ⟨w7.heap.size, 4, none⟩ = some (.int .i64 z.no) ∧ w'.cell? ⟨w7.heap.size, 5, none⟩ = some (.slice C1 z.ops.length e1) ∧ w'.cell? ⟨w7.heap.size, 6, none⟩ = some (.slice C2 z.picks.length e2)) (first | exact K12.k.cells | exact K10.k.cells | exact KZ.drew.k.cells) (first | (go_at_call 11; refine (decode_is _ _ (by omega) HZ.out.2.2.2.1).mono ?_; rintro e w10 ⟨D1, f1, D2, f2, rfl, so10, sp10, hb10⟩; have K10 := KZ.drew.more hb10) | (go_at_call 18; refine (same_is (b := true) z z D1 D2 C1 C2 f1 f2 e1 e2 _ so10 sp10 K10.so K10.sp (by omega) (by omega) (by omega) (by omega) (by simp)).mono ?_; rintro e w12 ⟨rfl, hb12⟩; have K12 := K10.more hb12)); go_wp2_with fail; go_ret; exact ⟨rfl, K12.below⟩)


theorem lotsBack_any (x y : PScr) (A1 A2 B1 B2 : Option Addr) (c1 c2 d1 d2 : Nat) (s : ByteArray) (w : World) (T : TypeId) (u : Value) (hE : w.cell? ⟨0, 0, none⟩ = some (.iface T u)) (hs : s.size ≤ 9223372036854775807)
    (sox : Sl w w.heap.size 5 A1 x.ops.length (tcells x.ops)) (spx : Sl w w.heap.size 1 A2 x.picks.length (icells x.picks)) (soy : Sl w w.heap.size 5 B1 y.ops.length (tcells y.ops)) (spy : Sl w w.heap.size 1 B2 y.picks.length (icells y.picks))
    (lo : x.ops.length ≤ 9223372036854775807) (lp : x.picks.length ≤ 9223372036854775807) (lo' : y.ops.length ≤ 9223372036854775807) (lp' : y.picks.length ≤ 9223372036854775807) :
    Calls Tryd.prog 7 #[x.v A1 c1 A2 c2, y.v B1 d1 B2 d2, .string s] w (RetB true w) := by
  by_cases hb : x.ops.length ≤ 64 ∧ x.picks.length ≤ 4096 ∧ y.ops.length ≤ 64 ∧ y.picks.length ≤ 4096 ∧ s.size ≤ 16384
  · obtain ⟨b1, b2, b3, b4, b5⟩ := hb
    by_cases hxy : x = y
    · subst hxy
      exact lotsBack_same x A1 A2 B1 B2 c1 c2 d1 d2 s w T u hE b5 sox spx soy spy b1 b2 _ rfl
    · exact lotsBack_small x y A1 A2 B1 B2 c1 c2 d1 d2 s w T u hE b5 sox spx soy spy b1 b2 b3 b4 _ _ rfl rfl (fun _ _ => hxy)
  · exact lotsBack_big x y A1 A2 B1 B2 c1 c2 d1 d2 s w T u hE hs lo lp lo' lp' hb

end Go.Proofs.YthecbeejlpgdaaaDoor
