/- The laws of lots: what they share. Of two scripts' bytes: awake. -/
import Derived.Test.YthecbeejlpgdaaaDoorFnDecodeW
import Derived.Test.YthecbeejlpgdaaaDoorFnRefDecW
import Derived.Test.YthecbeejlpgdaaaDoorFnRefSame
import Derived.Test.YthecbeejlpgdaaaDoorFnEncW
namespace Go.Proofs.YthecbeejlpgdaaaDoor
open Go Go.RowKit
set_option linter.unusedSimpArgs false
set_option linter.unusedVariables false
set_option linter.unusedSectionVars false

/-- A script comes back. -/
def DecX (x : PScr) (w : World) (e : Ending) (w' : World) : Prop :=
  ∃ A c A' c', e = .returned (.agg #[.int .i64 x.st, .int .i64 x.en, .int .i64 x.th, .int .i64 x.sl, .int .i64 x.no, .slice A x.ops.length c, .slice A' x.picks.length c']) ∧
    Sl w' w'.heap.size 5 A x.ops.length (tcells x.ops) ∧ Sl w' w'.heap.size 1 A' x.picks.length (icells x.picks) ∧ Below w.heap.size w w'
theorem decode_is {x : PScr} (s : ByteArray) (w : World) (hs : s.size ≤ 140737488351232) (h : dec s = x) : Calls Tryd.prog 11 #[.string s] w (DecX x w) :=
  (decode_any s w hs).mono fun _ _ hh => h ▸ hh
theorem refDecode_is {x : PScr} (s : ByteArray) (w : World) (hs : s.size ≤ 140737488351232) (h : dec s = x) : Calls Tryd.prog 12 #[.string s] w (DecX x w) :=
  (refDecode_any s w hs).mono fun _ _ hh => h ▸ hh
theorem encode_is (x : PScr) (A A' : Option Addr) (c c' : Nat) (w : World) (T : TypeId) (u : Value) (hE : w.cell? ⟨0, 0, none⟩ = some (.iface T u))
    (ho : Sl w w.heap.size 5 A x.ops.length (tcells x.ops)) (hp : Sl w w.heap.size 1 A' x.picks.length (icells x.picks))
    (lo : x.ops.length ≤ 9223372036854775807) (lp : x.picks.length ≤ 9223372036854775807) (h : encB x = true) :
    Calls Tryd.prog 16 #[x.v A c A' c'] w fun e w' => e = .returned (.tuple #[.string (strOfNums (encNums x)), .nilIface]) ∧ Below w.heap.size w w' :=
  (encode_any x A A' c c' w T u hE ho hp lo lp).mono fun _ _ hh => ⟨by have := hh.1; rwa [h] at this, hh.2⟩
theorem refSame_is {b : Bool} (x y : PScr) (A1 A2 B1 B2 : Option Addr) (c1 c2 d1 d2 : Nat) (w : World)
    (ho : Sl w w.heap.size 5 A1 x.ops.length (tcells x.ops)) (hp : Sl w w.heap.size 1 A2 x.picks.length (icells x.picks))
    (ho' : Sl w w.heap.size 5 B1 y.ops.length (tcells y.ops)) (hp' : Sl w w.heap.size 1 B2 y.picks.length (icells y.picks))
    (lo : x.ops.length ≤ 9223372036854775807) (lp : x.picks.length ≤ 9223372036854775807) (lo' : y.ops.length ≤ 9223372036854775807) (lp' : y.picks.length ≤ 9223372036854775807) (h : decide (x = y) = b) :
    Calls Tryd.prog 10 #[x.v A1 c1 A2 c2, y.v B1 d1 B2 d2] w (RetB b w) := h ▸ refSame_any x y A1 A2 B1 B2 c1 c2 d1 d2 w ho hp ho' hp' lo lp lo' lp'
theorem same_is {b : Bool} (x y : PScr) (A1 A2 B1 B2 : Option Addr) (c1 c2 d1 d2 : Nat) (w : World)
    (ho : Sl w w.heap.size 5 A1 x.ops.length (tcells x.ops)) (hp : Sl w w.heap.size 1 A2 x.picks.length (icells x.picks))
    (ho' : Sl w w.heap.size 5 B1 y.ops.length (tcells y.ops)) (hp' : Sl w w.heap.size 1 B2 y.picks.length (icells y.picks))
    (lo : x.ops.length ≤ 9223372036854775807) (lp : x.picks.length ≤ 9223372036854775807) (lo' : y.ops.length ≤ 9223372036854775807) (lp' : y.picks.length ≤ 9223372036854775807) (h : decide (x = y) = b) :
    Calls Tryd.prog 18 #[x.v A1 c1 A2 c2, y.v B1 d1 B2 d2] w (RetB b w) := h ▸ same_any x y A1 A2 B1 B2 c1 c2 d1 d2 w ho hp ho' hp' lo lp lo' lp'
theorem ints_is {b : Bool} (xs ys : List Int) (A A' : Option Addr) (c c' B B' : Nat) (w : World) (hx : Sl w B 1 A xs.length (icells xs)) (hy : Sl w B' 1 A' ys.length (icells ys))
    (lx : xs.length ≤ 9223372036854775807) (ly : ys.length ≤ 9223372036854775807) (h : decide (xs = ys) = b) :
    Calls Tryd.prog 13 #[.slice A xs.length c, .slice A' ys.length c'] w (RetQ b w) := h ▸ ints_any xs ys A A' c c' B B' w hx hy lx ly

theorem below_one {w w' : World} {o : Obj} (h : Below (w.alloc o).heap.size (w.alloc o) w') : Below w.heap.size w w' := ((Below.refl _ _).alloc (Nat.le_refl _) _).trans (h.mono (by simp))
theorem below_two {w w' : World} {o o' : Obj} (h : Below ((w.alloc o).alloc o').heap.size ((w.alloc o).alloc o') w') : Below w.heap.size w w' := below_one (below_one h)
def awA : PScr := ⟨1, 1, 1, 0, 1, [], []⟩
def awB : PScr := ⟨5, 2, 2, 9, 3, [⟨1, ⟨6, 7, 5, 3⟩⟩], [0, 1]⟩
theorem dec_awA : dec ⟨#[]⟩ = ⟨1, 1, 1, 0, 1, [], []⟩ := by decide +kernel
theorem dec_awB : dec ⟨#[4, 1, 1, 9, 2, 1, 5, 3, 7, 5, 2, 1]⟩ = ⟨5, 2, 2, 9, 3, [⟨1, ⟨6, 7, 5, 3⟩⟩], [0, 1]⟩ := by decide +kernel
theorem enc_awB : encB ⟨5, 2, 2, 9, 3, [⟨1, ⟨6, 7, 5, 3⟩⟩], [0, 1]⟩ = true := by decide +kernel
theorem num_awB : strOfNums (encNums ⟨5, 2, 2, 9, 3, [⟨1, ⟨6, 7, 5, 3⟩⟩], [0, 1]⟩) = ⟨#[4, 1, 1, 9, 2, 1, 1, 0, 7, 5, 0, 1]⟩ := by decide +kernel
theorem good_awB : goodB ⟨5, 2, 2, 9, 3, [⟨1, ⟨6, 7, 5, 3⟩⟩], [0, 1]⟩ = true := by decide +kernel

set_option maxRecDepth 100000 in
set_option maxHeartbeats 800000 in
theorem awake_any (w : World) (T : TypeId) (u : Value) (hE : w.cell? ⟨0, 0, none⟩ = some (.iface T u)) :
    Calls Tryd.prog 9 #[] w (RetB true w) := by
  have hlt0 := World.block_lt_of_cell? w _ hE
  simp at hlt0
  go_enter Tryd.func9, Tryd.ntmps9
  go_wp2_with fail
  refine (decode_is _ _ (by decide) dec_awA).mono ?_
  rintro e w1 ⟨A1, c1, A2, c2, rfl, so1, sp1, hb1⟩
  go_wp2_with fail
  refine (decode_is _ _ (by decide) dec_awB).mono ?_
  rintro e w2 ⟨B1, d1, B2, d2, rfl, so2, sp2, hb2⟩
  have K1 : Bk w2 w1.heap.size 29 #[.int .i64 1, .int .i64 1, .int .i64 1, .int .i64 0, .int .i64 1, .slice A1 0 c1, .slice A2 0 c2] := (Bk.at_ rfl).belowAll hb2
  have h12 := below_one hb2
  have hB2 : Below w.heap.size w w2 := hb1.trans (h12.mono hb1.size)
  have hE2 := (hB2.cell (p := ⟨0, 0, none⟩) hlt0).trans hE
  have so1' := so1.below h12
  have sp1' := sp1.below h12
  have z12 : w1.heap.size < w2.heap.size := by have := hb2.size; simp at this; omega
  clear so1 sp1 hb1 hb2
  go_wp2_with fail
  refine (encode_is ⟨5, 2, 2, 9, 3, [⟨1, ⟨6, 7, 5, 3⟩⟩], [0, 1]⟩ B1 B2 d1 d2 _ T u (cell_alloc hE2 _) (so2.alloc _) (sp2.alloc _) (by decide) (by decide) enc_awB).mono ?_
  rintro e w3 ⟨rfl, hb3⟩
  rw [num_awB]
  have K1c := (K1.alloc _).belowAll hb3
  have K2 : Bk w3 w2.heap.size 29 #[.int .i64 5, .int .i64 2, .int .i64 2, .int .i64 9, .int .i64 3, .slice B1 1 d1, .slice B2 2 d2] := (Bk.at_ rfl).belowAll hb3
  have h23 := below_one hb3
  have z23 : w2.heap.size < w3.heap.size := by have := hb3.size; simp at this; omega
  have hB3 : Below w.heap.size w w3 := hB2.trans (h23.mono hB2.size)
  have a5 := ((so1'.more (Nat.le_of_lt z12)).below h23).more h23.size
  have a6 := ((sp1'.more (Nat.le_of_lt z12)).below h23).more h23.size
  have b5 := (so2.below h23).more h23.size
  have b6 := (sp2.below h23).more h23.size
  have p0 := K1c.cell 0
  have p1 := K1c.cell 1
  have p2 := K1c.cell 2
  have p3 := K1c.cell 3
  have p4 := K1c.cell 4
  have p5 := K1c.cell 5
  have p6 := K1c.cell 6
  simp at p0 p1 p2 p3 p4 p5 p6
  clear K1 so1' sp1' so2 sp2 hE2 hb3 h12
  go_wp2_with fail
  refine (refSame_is (b := true) ⟨1, 1, 1, 0, 1, [], []⟩ ⟨1, 1, 1, 0, 1, [], []⟩ A1 A2 none none c1 c2 0 0 _ a5 a6 Sl.none_ Sl.none_ (by decide) (by decide) (by decide) (by decide) (by decide)).mono ?_
  rintro e w4 ⟨rfl, hb4⟩
  have K2d := K2.belowAll hb4
  have hB4 : Below w.heap.size w w4 := hB3.trans (hb4.mono hB3.size)
  have c5 := (b5.below hb4).more hb4.size
  have c6 := (b6.below hb4).more hb4.size
  have z4 := hb4.size
  clear p0 p1 p2 p3 p4 p5 p6 a5 a6 b5 b6 K1c K2 hb4
  have r0 := K2d.cell 0
  have r1 := K2d.cell 1
  have r2 := K2d.cell 2
  have r3 := K2d.cell 3
  have r4 := K2d.cell 4
  have r5 := K2d.cell 5
  have r6 := K2d.cell 6
  simp at r0 r1 r2 r3 r4 r5 r6
  have z24 : w2.heap.size < w4.heap.size := by omega
  have hE4 := (hB4.cell (p := ⟨0, 0, none⟩) hlt0).trans hE
  clear z23 z4
  obtain ⟨tb, to, rfl, htb, t0, t1, t2, t3, t4⟩ := c5.task (i := 0) (by decide)
  simp at t0 t1 t2 t3 t4
  go_wp2_with fail
  refine (ints_is (b := true) [0, 1] [0, 1] B2 _ d2 _ _ _ _ (c6.below ((Below.refl _ _).alloc (Nat.le_refl _) _)) (Sl.of_bk (Bk.at_ rfl)) (by decide) (by decide) (by decide)).mono ?_
  rintro e w5 ⟨rfl, k5, rfl⟩
  go_wp2_with fail
  have hB5 : Below w4.heap.size w4 (w4.alloc (.cells #[.int .i64 0, .int .i64 1] 3)) := (Below.refl _ _).alloc (Nat.le_refl _) _
  refine (good_is ⟨5, 2, 2, 9, 3, [⟨1, ⟨6, 7, 5, 3⟩⟩], [0, 1]⟩ (some ⟨tb, to, none⟩) B2 d1 d2 _ T u (by exact cell_alloc hE4 _) (((c5.below hB5).more hB5.size).drewN _) (((c6.below hB5).more hB5.size).drewN _) (by decide) (by decide) good_awB).mono ?_
  rintro e w6 ⟨rfl, hb6⟩
  go_wp2_with fail
  go_ret
  exact ⟨rfl, (below_drewN (hB4.trans (hB5.mono hB4.size)) _).trans (hb6.mono (by have := hB4.size; simp; omega))⟩

end Go.Proofs.YthecbeejlpgdaaaDoor
