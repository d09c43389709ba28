/- hymn.Parse. -/
import Derived.Test.YtciioiklkaannaaGreatDoorParseW
import Derived.Test.YtciioiklkaannaaGreatDoorFnGood
namespace Go.Proofs.YtciioiklkaannaaGreatDoor
open Go Go.RowKit
set_option linter.unusedSimpArgs false
set_option linter.unusedVariables false
set_option linter.unusedSectionVars false

/-- A script as it lies in memory. -/
structure SA (w : World) (x : PScr) (A : Option Addr) (c : Nat) (A' : Option Addr) (c' : Nat) : Prop where
  so : Sl w w.heap.size 5 A x.ops.length (tcells x.ops)
  sp : Sl w w.heap.size 1 A' x.picks.length (icells x.picks)
  lo : x.ops.length ≤ 9223372036854775807
  lp : x.picks.length ≤ c'
  lc : c' ≤ 9223372036854775807
theorem SA.more {w w' : World} {x : PScr} {A : Option Addr} {c : Nat} {A' : Option Addr} {c' : Nat} (h : SA w x A c A' c') (hb : Below w.heap.size w w') : SA w' x A c A' c' :=
  ⟨(h.so.below hb).more hb.size, (h.sp.below hb).more hb.size, h.lo, h.lp, h.lc⟩
theorem Sl.apart {w w' : World} {B sz n g : Nat} {A : Option Addr} {xs : List Value} (h : Sl w B sz A n xs) (hB : B ≤ w.heap.size) (hA : ∀ b o, A = some ⟨b, o, none⟩ → b ≠ g) (hg : w.grownBy w' (some g)) : Sl w' B sz A n xs :=
  ⟨h.1, fun hn => by
    obtain ⟨b, off, e, hb, hc⟩ := h.2 hn
    exact ⟨b, off, e, hb, fun j u hu => (cell_grown hg (by omega) (hA b off e)).trans (hc j u hu)⟩⟩
theorem SA.apart {w w' : World} {g : Nat} {x : PScr} {A : Option Addr} {c : Nat} {A' : Option Addr} {c' : Nat} (h : SA w x A c A' c') (hg : w.grownBy w' (some g)) (h1 : ∀ b o, A = some ⟨b, o, none⟩ → b ≠ g) (h2 : ∀ b o, A' = some ⟨b, o, none⟩ → b ≠ g) : SA w' x A c A' c' :=
  ⟨(h.so.apart (Nat.le_refl _) h1 hg).more hg.size, (h.sp.apart (Nat.le_refl _) h2 hg).more hg.size, h.lo, h.lp, h.lc⟩
def zScr : PScr := ⟨0, 0, 0, 0, 0, [], []⟩
theorem SA.zero (w : World) : SA w zScr none 0 none 0 := ⟨Sl.none_, Sl.none_, by simp [zScr], by simp [zScr], by simp⟩
/-- A text that is a script's. -/
structure ParseOk (s : ByteArray) (x : PScr) : Prop where
  good : goodB x = true
  text : bs (textL x) = s
  size : s.size ≤ 32768
  one : ∀ y, Canon y → bs (textL y) = s → y = x
def RetParse (s : ByteArray) (b c : Addr) (w : World) (e : Ending) (w' : World) : Prop :=
  Below w.heap.size w w' ∧ ((∃ x A k A' k', e = .returned (.tuple #[x.v A k A' k', .nilIface]) ∧ SA w' x A k A' k' ∧ ParseOk s x) ∨
    (e = .returned (.tuple #[zScr.v none 0 none 0, .iface 203 (.pointer (some b))]) ∧ s.size ≤ 32768 ∧ ∀ y, goodB y = true → bs (textL y) ≠ s) ∨
    (e = .returned (.tuple #[zScr.v none 0 none 0, .iface 203 (.pointer (some c))]) ∧ 32768 < s.size))

set_option maxRecDepth 100000 in
set_option maxHeartbeats 3200000 in
theorem Parse_any {w : World} {a b c : Addr} {m : Int} (G : GH w a b c m) (s : ByteArray) : Calls Tryz.prog 13 #[.string s] w (RetParse s b c w) := by
  have B0 : Bk (w.alloc (.cells #[.int .i64 0, .int .i64 0, .int .i64 0, .int .i64 0, .int .i64 0, .slice none 0 0, .slice none 0 0] 27)) w.heap.size 27 #[.int .i64 0, .int .i64 0, .int .i64 0, .int .i64 0, .int .i64 0, .slice none 0 0, .slice none 0 0] := Bk.at_ rfl
  have hb0 : Below w.heap.size w (w.alloc (.cells #[.int .i64 0, .int .i64 0, .int .i64 0, .int .i64 0, .int .i64 0, .slice none 0 0, .slice none 0 0] 27)) := (Below.refl _ _).alloc (Nat.le_refl _) _
  have G0 := G.more hb0
  have hz0 : (w.alloc (.cells #[.int .i64 0, .int .i64 0, .int .i64 0, .int .i64 0, .int .i64 0, .slice none 0 0, .slice none 0 0] 27)).heap.size = w.heap.size + 1 := by simp
  go_enter Tryz.func13, Tryz.ntmps13
  by_cases hs : s.size ≤ 32768
  · have hs1 : (s.size : Int) ≤ 32768 := by omega
    go_wp2_with fail
    generalize (w.alloc (.cells #[.int .i64 0, .int .i64 0, .int .i64 0, .int .i64 0, .int .i64 0, .slice none 0 0, .slice none 0 0] 27)) = w0 at *
    refine (parse_any G0 s hs).mono ?_
    rintro e w1 ⟨x, A, cA, A', cA', so, sp, lo, lp, hc1, hc2, f1, f2, hb1, hr⟩
    have B1 := B0.belowAll hb1
    have hB := hb0.trans (hb1.mono hb0.size)
    have S1 : SA w1 x A cA A' cA' := ⟨so, sp, by omega, hc1, hc2⟩
    have X1 : Bk (w1.alloc (.cells #[.int .i64 0, .int .i64 0, .int .i64 0, .int .i64 0, .int .i64 0, .slice none 0 0, .slice none 0 0] 27)) w1.heap.size 27 #[.int .i64 0, .int .i64 0, .int .i64 0, .int .i64 0, .int .i64 0, .slice none 0 0, .slice none 0 0] := Bk.at_ rfl
    have B2 := B1.alloc (.cells #[.int .i64 0, .int .i64 0, .int .i64 0, .int .i64 0, .int .i64 0, .slice none 0 0, .slice none 0 0] 27)
    have hB2 := hB.alloc hB.size (.cells #[.int .i64 0, .int .i64 0, .int .i64 0, .int .i64 0, .int .i64 0, .slice none 0 0, .slice none 0 0] 27)
    have hlt := B1.lt
    have z0w : w0.heap.size = w.heap.size + 1 := hz0
    clear so sp hb1 hb0 B0 G0 B1
    simp only [PScr.v] at *
    rcases hr with ⟨rfl, ht⟩ | ⟨rfl, hn⟩
    · have HT := Lib.hid ht; clear ht
      go_wp2_with (refine wpList_store_bk (by rfl) _ _ _ (by rfl) w1.heap.size _ (by rfl) (by rfl) _ _ X1 (by rfl) (by kernel_rfl) (by rfl) ?_; intro w2 hst; have z0 := hst.bk.cell 0; have z1 := hst.bk.cell 1; have z2 := hst.bk.cell 2; have z3 := hst.bk.cell 3; have z4 := hst.bk.cell 4; have z5 := hst.bk.cell 5; have z6 := hst.bk.cell 6; simp only [List.getElem?_toArray, List.getElem?_cons_zero, List.getElem?_cons_succ] at z0 z1 z2 z3 z4 z5 z6)
      have hB3 := hst.below hB2 (by omega)
      have B3 := hst.far B2 (by omega)
      have hb2 : Below w1.heap.size w1 w2 := hst.below ((Below.refl _ w1).alloc (Nat.le_refl _) _) (Nat.le_refl _)
      have K2 := hst.bk
      have S3 : SA w2 x A cA A' cA' := S1.more hb2
      have G3 := G.more hB3
      clear S1 hB2 B2 hst X1 z0 z1 z2 z3 z4 z5 z6 hb2
      refine (good_any x A A' cA cA' w2 _ _ G3.ea S3.so S3.sp (by omega) (by omega)).mono ?_
      rintro e w3 ⟨rfl, hb3⟩
      have B4 := B3.belowAll hb3
      have K4 := K2.belowAll hb3
      have S4 := S3.more hb3
      have hB4 := hB3.trans (hb3.mono hB3.size)
      have G4 := G.more hB4
      clear B3 K2 S3 G3 hb3 hB3
      generalize w1.heap.size = XB at *
      cases hg : goodB x
      · have HG := Lib.hid hg; clear hg
        go_wp2_with fail
        have BQ := B4; have hBq := hB4
        generalize w3 = wq at *
        (go_upto_region 5 with (fail); have BZ := BQ.drew; have hbz := hBq.drew; have hez : wq.drew.cell? ⟨1, 0, none⟩ = _ := G4.ew; have hlz : 1 < w.heap.size := (World.block_lt_of_cell? w _ G.ew); refine wp_region_T (fun w' => w'.cell? ⟨1, 0, none⟩ = some (.iface 203 (.pointer (some b)))) 4 (by kernel_rfl) hez (fun hS => ?_); generalize wq.drew = wz at *; ((try simp only [Act.put, List.setIfInBounds_toArray, List.set_cons_succ, List.set_cons_zero]); refine wpT_batch (fuel := 2) (by kernel_rfl) (by kernel_rfl) (fun d => by cases d <;> exact fun _ _ _ _ h => h) hS [0, 1] _ _ (by kernel_rfl) ?_; simp only [pickOps, nthOp, List.toList_toArray]; (repeat (first | go_big_quiet_skip | (go_big_quiet_want; first | (go_big_quiet_op; go_big_quiet_on) | (apply Exists.intro; refine ⟨fun w' hS' => ?_, ?_⟩; (· (skip; go_simp; first | done | rfl | exact ⟨rfl, rfl⟩)); go_big_quiet_on; simp only [Act.put, List.setIfInBounds_toArray, List.set_cons_succ, List.set_cons_zero])))); refine wpQuiet_nil ?_; (try dsimp only)); (refine wpT_loudN 2 (by kernel_rfl) (fun K hK => ?_); simp only [nthOp, List.toList_toArray]); go_wp2_with (refine wpList_store_bk (by rfl) _ _ _ (by rfl) w.heap.size _ (by rfl) (by rfl) _ _ BZ (by rfl) (by kernel_rfl) (by rfl) ?_; intro wy hst); have hS2 : wy.cell? ⟨1, 0, none⟩ = some (.iface 203 (.pointer (some b))) := (cell_grown hst.grown (by have := hbz.size; omega) (by omega)).trans hS; refine hK.out _ _ (fun _ => hS2) ?_; clear hK hS; have hS := hS2; ((try simp only [Act.put, List.setIfInBounds_toArray, List.set_cons_succ, List.set_cons_zero]); refine wpT_batch (fuel := 0) (by kernel_rfl) (by kernel_rfl) (fun d => by cases d <;> exact fun _ _ _ _ h => h) hS [3] _ _ (by kernel_rfl) ?_; simp only [pickOps, nthOp, List.toList_toArray]; (repeat (first | go_big_quiet_skip | (go_big_quiet_want; first | (go_big_quiet_op; go_big_quiet_on) | (apply Exists.intro; refine ⟨fun w' hS' => ?_, ?_⟩; (· (skip; go_simp; first | done | rfl | exact ⟨rfl, rfl⟩)); go_big_quiet_on; simp only [Act.put, List.setIfInBounds_toArray, List.set_cons_succ, List.set_cons_zero])))); refine wpQuiet_nil ?_; (try dsimp only)); clear hS; refine wpT_done (by kernel_rfl) ?_ _; go_wp2_with fail; have r0 := hst.bk.cell 0; have r1 := hst.bk.cell 1; have r2 := hst.bk.cell 2; have r3 := hst.bk.cell 3; have r4 := hst.bk.cell 4; have r5 := hst.bk.cell 5; have r6 := hst.bk.cell 6; simp at r0 r1 r2 r3 r4 r5 r6; refine bodyPost_ret (v := .tuple #[.agg #[.int .i64 0, .int .i64 0, .int .i64 0, .int .i64 0, .int .i64 0, .slice none 0 0, .slice none 0 0], .iface 203 (.pointer (some b))]) (by simp [results, Tryz.results13, go_sem, r0, r1, r2, r3, r4, r5, r6]) rfl ?_)
        exact ⟨hst.below hbz (Nat.le_refl _), Or.inr (Or.inl ⟨rfl, hs, fun y hy e => by rw [HT.out.2.2 y (canon_of_good hy) e, HG.out] at hy; cases hy⟩)⟩
      · have HG := Lib.hid hg; clear hg
        have z0 := K4.cell 0; have z1 := K4.cell 1; have z2 := K4.cell 2; have z3 := K4.cell 3; have z4 := K4.cell 4; have z5 := K4.cell 5; have z6 := K4.cell 6; simp only [List.getElem?_toArray, List.getElem?_cons_zero, List.getElem?_cons_succ] at z0 z1 z2 z3 z4 z5 z6
        go_wp2_with (refine wpList_store_bk (by rfl) _ _ _ (by rfl) w.heap.size _ (by rfl) (by rfl) _ _ B4 (by rfl) (by kernel_rfl) (by rfl) ?_; intro wy hst)
        have r0 := hst.bk.cell 0; have r1 := hst.bk.cell 1; have r2 := hst.bk.cell 2; have r3 := hst.bk.cell 3; have r4 := hst.bk.cell 4; have r5 := hst.bk.cell 5; have r6 := hst.bk.cell 6
        simp at r0 r1 r2 r3 r4 r5 r6
        refine bodyPost_ret (v := .tuple #[.agg #[.int .i64 x.st, .int .i64 x.en, .int .i64 x.th, .int .i64 x.sl, .int .i64 x.no, .slice A x.ops.length cA, .slice A' x.picks.length cA'], .nilIface]) (by simp [results, Tryz.results13, go_sem, r0, r1, r2, r3, r4, r5, r6]) rfl ?_
        exact ⟨hst.below hB4 (Nat.le_refl _), Or.inl ⟨x, A, cA, A', cA', rfl, S4.apart hst.grown (fun b o e => by have := f1 b o e; omega) (fun b o e => by have := f2 b o e; omega), HG.out, HT.out.2.1, hs, HT.out.2.2⟩⟩
    · have HN := Lib.hid hn; clear hn
      go_wp2_with (refine wpList_store_bk (by rfl) _ _ _ (by rfl) w1.heap.size _ (by rfl) (by rfl) _ _ X1 (by rfl) (by kernel_rfl) (by rfl) ?_; intro w2 hst; have z0 := hst.bk.cell 0; have z1 := hst.bk.cell 1; have z2 := hst.bk.cell 2; have z3 := hst.bk.cell 3; have z4 := hst.bk.cell 4; have z5 := hst.bk.cell 5; have z6 := hst.bk.cell 6; simp only [List.getElem?_toArray, List.getElem?_cons_zero, List.getElem?_cons_succ] at z0 z1 z2 z3 z4 z5 z6)
      have hB3 := hst.below hB2 (by omega)
      have B3 := hst.far B2 (by omega)
      have G3 := G.more hB3
      clear S1 hB2 B2 hst X1 z0 z1 z2 z3 z4 z5 z6
      have BQ := B3; have hBq := hB3
      generalize w2 = wq at *
      (go_upto_region 5 with (fail); have BZ := BQ.drew; have hbz := hBq.drew; have hez : wq.drew.cell? ⟨1, 0, none⟩ = _ := G3.ew; have hlz : 1 < w.heap.size := (World.block_lt_of_cell? w _ G.ew); refine wp_region_T (fun w' => w'.cell? ⟨1, 0, none⟩ = some (.iface 203 (.pointer (some b)))) 4 (by kernel_rfl) hez (fun hS => ?_); generalize wq.drew = wz at *; ((try simp only [Act.put, List.setIfInBounds_toArray, List.set_cons_succ, List.set_cons_zero]); refine wpT_batch (fuel := 2) (by kernel_rfl) (by kernel_rfl) (fun d => by cases d <;> exact fun _ _ _ _ h => h) hS [0, 1] _ _ (by kernel_rfl) ?_; simp only [pickOps, nthOp, List.toList_toArray]; (repeat (first | go_big_quiet_skip | (go_big_quiet_want; first | (go_big_quiet_op; go_big_quiet_on) | (apply Exists.intro; refine ⟨fun w' hS' => ?_, ?_⟩; (· (skip; go_simp; first | done | rfl | exact ⟨rfl, rfl⟩)); go_big_quiet_on; simp only [Act.put, List.setIfInBounds_toArray, List.set_cons_succ, List.set_cons_zero])))); refine wpQuiet_nil ?_; (try dsimp only)); (refine wpT_loudN 2 (by kernel_rfl) (fun K hK => ?_); simp only [nthOp, List.toList_toArray]); go_wp2_with (refine wpList_store_bk (by rfl) _ _ _ (by rfl) w.heap.size _ (by rfl) (by rfl) _ _ BZ (by rfl) (by kernel_rfl) (by rfl) ?_; intro wy hst); have hS2 : wy.cell? ⟨1, 0, none⟩ = some (.iface 203 (.pointer (some b))) := (cell_grown hst.grown (by have := hbz.size; omega) (by omega)).trans hS; refine hK.out _ _ (fun _ => hS2) ?_; clear hK hS; have hS := hS2; ((try simp only [Act.put, List.setIfInBounds_toArray, List.set_cons_succ, List.set_cons_zero]); refine wpT_batch (fuel := 0) (by kernel_rfl) (by kernel_rfl) (fun d => by cases d <;> exact fun _ _ _ _ h => h) hS [3] _ _ (by kernel_rfl) ?_; simp only [pickOps, nthOp, List.toList_toArray]; (repeat (first | go_big_quiet_skip | (go_big_quiet_want; first | (go_big_quiet_op; go_big_quiet_on) | (apply Exists.intro; refine ⟨fun w' hS' => ?_, ?_⟩; (· (skip; go_simp; first | done | rfl | exact ⟨rfl, rfl⟩)); go_big_quiet_on; simp only [Act.put, List.setIfInBounds_toArray, List.set_cons_succ, List.set_cons_zero])))); refine wpQuiet_nil ?_; (try dsimp only)); clear hS; refine wpT_done (by kernel_rfl) ?_ _; go_wp2_with fail; have r0 := hst.bk.cell 0; have r1 := hst.bk.cell 1; have r2 := hst.bk.cell 2; have r3 := hst.bk.cell 3; have r4 := hst.bk.cell 4; have r5 := hst.bk.cell 5; have r6 := hst.bk.cell 6; simp at r0 r1 r2 r3 r4 r5 r6; refine bodyPost_ret (v := .tuple #[.agg #[.int .i64 0, .int .i64 0, .int .i64 0, .int .i64 0, .int .i64 0, .slice none 0 0, .slice none 0 0], .iface 203 (.pointer (some b))]) (by simp [results, Tryz.results13, go_sem, r0, r1, r2, r3, r4, r5, r6]) rfl ?_)
      exact ⟨hst.below hbz (Nat.le_refl _), Or.inr (Or.inl ⟨rfl, hs, fun y hy => HN.out y (canon_of_good hy)⟩)⟩
  · have hs1 : (32768 : Int) < (s.size : Int) := by omega
    go_wp2_with fail
    have BQ := B0; have hBq := hb0
    generalize (w.alloc (.cells #[.int .i64 0, .int .i64 0, .int .i64 0, .int .i64 0, .int .i64 0, .slice none 0 0, .slice none 0 0] 27)) = wq at *
    (go_upto_region 2 with (fail); have BZ := BQ.drew; have hbz := hBq.drew; have hez : wq.drew.cell? ⟨2, 0, none⟩ = _ := G0.el; have hlz : 2 < w.heap.size := (World.block_lt_of_cell? w _ G.el); refine wp_region_T (fun w' => w'.cell? ⟨2, 0, none⟩ = some (.iface 203 (.pointer (some c)))) 4 (by kernel_rfl) hez (fun hS => ?_); generalize wq.drew = wz at *; ((try simp only [Act.put, List.setIfInBounds_toArray, List.set_cons_succ, List.set_cons_zero]); refine wpT_batch (fuel := 2) (by kernel_rfl) (by kernel_rfl) (fun d => by cases d <;> exact fun _ _ _ _ h => h) hS [0, 1] _ _ (by kernel_rfl) ?_; simp only [pickOps, nthOp, List.toList_toArray]; (repeat (first | go_big_quiet_skip | (go_big_quiet_want; first | (go_big_quiet_op; go_big_quiet_on) | (apply Exists.intro; refine ⟨fun w' hS' => ?_, ?_⟩; (· (skip; go_simp; first | done | rfl | exact ⟨rfl, rfl⟩)); go_big_quiet_on; simp only [Act.put, List.setIfInBounds_toArray, List.set_cons_succ, List.set_cons_zero])))); refine wpQuiet_nil ?_; (try dsimp only)); (refine wpT_loudN 2 (by kernel_rfl) (fun K hK => ?_); simp only [nthOp, List.toList_toArray]); go_wp2_with (refine wpList_store_bk (by rfl) _ _ _ (by rfl) w.heap.size _ (by rfl) (by rfl) _ _ BZ (by rfl) (by kernel_rfl) (by rfl) ?_; intro wy hst); have hS2 : wy.cell? ⟨2, 0, none⟩ = some (.iface 203 (.pointer (some c))) := (cell_grown hst.grown (by have := hbz.size; omega) (by omega)).trans hS; refine hK.out _ _ (fun _ => hS2) ?_; clear hK hS; have hS := hS2; ((try simp only [Act.put, List.setIfInBounds_toArray, List.set_cons_succ, List.set_cons_zero]); refine wpT_batch (fuel := 0) (by kernel_rfl) (by kernel_rfl) (fun d => by cases d <;> exact fun _ _ _ _ h => h) hS [3] _ _ (by kernel_rfl) ?_; simp only [pickOps, nthOp, List.toList_toArray]; (repeat (first | go_big_quiet_skip | (go_big_quiet_want; first | (go_big_quiet_op; go_big_quiet_on) | (apply Exists.intro; refine ⟨fun w' hS' => ?_, ?_⟩; (· (skip; go_simp; first | done | rfl | exact ⟨rfl, rfl⟩)); go_big_quiet_on; simp only [Act.put, List.setIfInBounds_toArray, List.set_cons_succ, List.set_cons_zero])))); refine wpQuiet_nil ?_; (try dsimp only)); clear hS; refine wpT_done (by kernel_rfl) ?_ _; go_wp2_with fail; have r0 := hst.bk.cell 0; have r1 := hst.bk.cell 1; have r2 := hst.bk.cell 2; have r3 := hst.bk.cell 3; have r4 := hst.bk.cell 4; have r5 := hst.bk.cell 5; have r6 := hst.bk.cell 6; simp at r0 r1 r2 r3 r4 r5 r6; refine bodyPost_ret (v := .tuple #[.agg #[.int .i64 0, .int .i64 0, .int .i64 0, .int .i64 0, .int .i64 0, .slice none 0 0, .slice none 0 0], .iface 203 (.pointer (some c))]) (by simp [results, Tryz.results13, go_sem, r0, r1, r2, r3, r4, r5, r6]) rfl ?_)
    exact ⟨hst.below hbz (Nat.le_refl _), Or.inr (Or.inr ⟨rfl, by omega⟩)⟩
end Go.Proofs.YtciioiklkaannaaGreatDoor
