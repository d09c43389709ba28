/- LotsBytes, walked: one byte says one thing. -/
import Derived.Test.YthecbeejlpgdaaaDoorPlainB
import Derived.IntWalk
namespace Go.Proofs.YthecbeejlpgdaaaDoor
open Go Go.RowKit
set_option linter.unusedSimpArgs false
set_option linter.unusedVariables false
set_option linter.unusedSectionVars false

set_option maxRecDepth 100000 in
set_option maxHeartbeats 1600000 in
theorem lotsBytes_any (s : ByteArray) (n1 n2 : Int) (w : World) (T : TypeId) (u : Value) (hE : w.cell? ⟨0, 0, none⟩ = some (.iface T u)) (hs : s.size ≤ 9223372036854775807)
    (wn1 : (Lit.int .i64 n1).wf = true) (wn2 : (Lit.int .i64 n2).wf = true) :
    Calls Tryd.prog 5 #[.string s, .int .i64 n1, .int .i64 n2] w (RetB true w) := by
  have hlt0 := World.block_lt_of_cell? w _ hE
  simp at hlt0
  by_cases hl : 7 ≤ s.size ∧ s.size ≤ 4096
  · obtain ⟨hl1, hl2⟩ := hl
    obtain ⟨l1, l2⟩ := dec_lens s
    obtain ⟨x, hx⟩ : ∃ x, dec s = x := ⟨_, rfl⟩
    rw [hx] at l1 l2
    have HX := Lib.hid hx
    clear hx
    have d1 : decide ((s.size : Int) < 7) = false := by simp; omega
    have d2 : decide ((4096 : Int) < (s.size : Int)) = false := by simp; omega
    go_enter Tryd.func5, Tryd.ntmps5
    go_wp2_with (go_at_call 9; refine (awake_any _ T u hE).mono ?_; rintro e w1 ⟨rfl, hb1⟩)
    refine (decode_is _ _ (by omega) HX.out).mono ?_
    rintro e w2 ⟨A1, c1, A2, c2, rfl, so1, sp1, hb2⟩
    have KX0 := SW.store (A := A1) (c := c1) (A' := A2) (c' := c2) (hb1.trans (hb2.mono hb1.size)) (cell_below (cell_below hE hb1) hb2) so1 sp1
    clear so1 sp1 hb1 hb2
    obtain ⟨w3, cap, hcv, hby, hb3, hz3⟩ := bytes_new_at (w2.alloc (.cells #[.int .i64 x.st, .int .i64 x.en, .int .i64 x.th, .int .i64 x.sl, .int .i64 x.no, .slice A1 x.ops.length c1, .slice A2 x.picks.length c2] 29)) s (g := w2.heap.size + 1) (by simp)
    obtain ⟨k, hk, ek⟩ := idx_of n1 (m := s.size) (by omega) hl2
    obtain ⟨v, ev⟩ := u8_of n2
    have hby2 := hby.set_ hk v
    have hcb := hby2.back cap s.size (putB_size s k v).symm
    have q0 := hby.cell k hk
    have q1 := hby.free k hk
    have KX2 := KX0.more (hb3.setCell (by simp) (p := (⟨w2.heap.size + 1, k, none⟩ : Addr)) (u := .int .u8 v.toNat))
    clear KX0 hb3
    go_wp2_with fail
    have hP := dec_put s k v hk
    rw [HX.out] at hP
    obtain ⟨y, hy⟩ : ∃ y, dec (putB s k v) = y := ⟨_, rfl⟩
    rw [hy] at hP
    have HY := Lib.hid hy
    clear hy
    obtain ⟨p1, p2, p3, p4, p5, p6, p7⟩ := hP
    refine (decode_is _ _ (by rw [putB_size]; omega) HY.out).mono ?_
    rintro e w5 ⟨B1, e1, B2, e2, rfl, so5, sp5, hb5⟩
    have KY := SW.store (w0 := w) (x := y) (A := B1) (c := e1) (A' := B2) (c' := e2) (KX2.below.trans (hb5.mono KX2.below.size)) (cell_below KX2.err hb5) so5 sp5
    have KX3 := (KX2.more hb5).alloc (.cells #[.int .i64 y.st, .int .i64 y.en, .int .i64 y.th, .int .i64 y.sl, .int .i64 y.no, .slice B1 y.ops.length e1, .slice B2 y.picks.length e2] 29)
    have hby3 := hby2.below (by simp; omega) (hb5.alloc hb5.size (.cells #[.int .i64 y.st, .int .i64 y.en, .int .i64 y.th, .int .i64 y.sl, .int .i64 y.no, .slice B1 y.ops.length e1, .slice B2 y.picks.length e2] 29))
    have r3 := hby3.cell 3 (by rw [putB_size]; omega)
    have r4 := hby3
    clear hby3
    clear so5 sp5 hb5 KX2 hby2 hby hcv hcb q0 q1
    obtain ⟨st, en, th, sl, no, ops, picks⟩ := x
    obtain ⟨st', en', th', sl', no', ops', picks'⟩ := y
    simp only at *
    obtain ⟨x0, x1, x2, x3, x4, x5, x6⟩ := KX3.k.cells
    obtain ⟨y0, y1, y2, y3, y4, y5, y6⟩ := KY.k.cells
    have hc : k = 0 ∨ k = 1 ∨ k = 2 ∨ k = 3 ∨ k = 4 ∨ 5 ≤ k := by omega
    have xq : ∀ o o' n, ((((w5.alloc (.cells #[.int .i64 st', .int .i64 en', .int .i64 th', .int .i64 sl', .int .i64 no', .slice B1 ops'.length e1, .slice B2 picks'.length e2] 29)).alloc o).alloc o').drewN n).cell? ⟨w2.heap.size, 5, none⟩ = some (.slice A1 ops.length c1) := fun o o' n => (((KX3.alloc o).alloc o').drewN n).k.cells.2.2.2.2.2.1
    have rq : ∀ o o', (((w5.alloc (.cells #[.int .i64 st', .int .i64 en', .int .i64 th', .int .i64 sl', .int .i64 no', .slice B1 ops'.length e1, .slice B2 picks'.length e2] 29)).alloc o).alloc o').cell? ⟨w2.heap.size + 1, 3, none⟩ = some (.int .u8 (bat (putB s k v) 3)) := fun o o' => (cell_alloc (cell_alloc r3 o) o')
    clear r3 r4
    rcases hc with rfl | rfl | rfl | rfl | rfl | hk5
    · obtain rfl := p2 (by omega); obtain rfl := p3 (by omega); obtain rfl := p4 (by omega); obtain rfl := p5 (by omega)
      clear p1 p2 p3 p4 p5 p6 p7
      have kf : decide ((0 : Int) < 6 + 4 * (ops.length : Int)) = true := by simp; omega
      go_wp2_with fail
      go_quiet (fail)
      go_wp2_with fail
      go_ret
      exact ⟨rfl, (((KX3.alloc _).alloc _).drewN _).below⟩
    · obtain rfl := p1 (by omega); obtain rfl := p3 (by omega); obtain rfl := p4 (by omega); obtain rfl := p5 (by omega)
      clear p1 p2 p3 p4 p5 p6 p7
      have kf : decide ((1 : Int) < 6 + 4 * (ops.length : Int)) = true := by simp; omega
      go_wp2_with fail
      go_quiet (fail)
      go_wp2_with fail
      go_ret
      exact ⟨rfl, (((KX3.alloc _).alloc _).drewN _).below⟩
    · obtain rfl := p1 (by omega); obtain rfl := p2 (by omega); obtain rfl := p4 (by omega); obtain rfl := p5 (by omega)
      clear p1 p2 p3 p4 p5 p6 p7
      have kf : decide ((2 : Int) < 6 + 4 * (ops.length : Int)) = true := by simp; omega
      go_wp2_with fail
      go_quiet (fail)
      go_wp2_with fail
      go_ret
      exact ⟨rfl, (((KX3.alloc _).alloc _).drewN _).below⟩
    · obtain rfl := p1 (by omega); obtain rfl := p2 (by omega); obtain rfl := p3 (by omega); obtain rfl := p5 (by omega)
      obtain rfl := p6 rfl
      rw [bat_putB, if_pos ⟨rfl, hk⟩] at rq
      clear p1 p2 p3 p4 p5 p6 p7
      have kf : decide ((3 : Int) < 6 + 4 * (ops.length : Int)) = true := by simp; omega
      go_wp2_with fail
      go_quiet (fail)
      go_wp2_with fail
      go_ret
      exact ⟨rfl, (((KX3.alloc _).alloc _).drewN _).below⟩
    · obtain rfl := p1 (by omega); obtain rfl := p2 (by omega); obtain rfl := p3 (by omega); obtain rfl := p4 (by omega)
      clear p1 p2 p3 p4 p5 p6 p7
      have kf : decide ((4 : Int) < 6 + 4 * (ops.length : Int)) = true := by simp; omega
      go_wp2_with fail
      go_quiet (fail)
      go_wp2_with fail
      go_ret
      exact ⟨rfl, (((KX3.alloc _).alloc _).drewN _).below⟩
    · obtain rfl := p1 (by omega); obtain rfl := p2 (by omega); obtain rfl := p3 (by omega); obtain rfl := p4 (by omega); obtain rfl := p5 (by omega)
      clear p1 p2 p3 p4 p5 p6
      have z0 : ((k : Int) == 0) = false := by simp; omega
      have z1 : ((k : Int) == 1) = false := by simp; omega
      have z2 : ((k : Int) == 2) = false := by simp; omega
      have z3 : ((k : Int) == 3) = false := by simp; omega
      have z4 : ((k : Int) == 4) = false := by simp; omega
      by_cases hf : k < 6 + 4 * ops.length
      · clear p7
        have kf : decide ((k : Int) < 6 + 4 * (ops.length : Int)) = true := by simp; omega
        go_wp2_with fail
        go_quiet (fail)
        go_wp2_with fail
        go_ret
        exact ⟨rfl, (((KX3.alloc _).alloc _).drewN _).below⟩
      · obtain ⟨g1, g2, g3⟩ := p7 (by omega)
        have G3 := Lib.hid (And.intro g1 (And.intro g2 g3))
        have e6 : ((ops'.length : Int) != (ops.length : Int)) = false := by simp; omega
        have e7 : ((picks'.length : Int) != (picks.length : Int)) = false := by simp; omega
        clear g1 g2 g3 p7
        have xq6 : ∀ o o' n, ((((w5.alloc (.cells #[.int .i64 st', .int .i64 en', .int .i64 th', .int .i64 sl', .int .i64 no', .slice B1 ops'.length e1, .slice B2 picks'.length e2] 29)).alloc o).alloc o').drewN n).cell? ⟨w2.heap.size, 6, none⟩ = some (.slice A2 picks.length c2) := fun o o' n => (((KX3.alloc o).alloc o').drewN n).k.cells.2.2.2.2.2.2
        have yq5 : ∀ o o' n, ((((w5.alloc (.cells #[.int .i64 st', .int .i64 en', .int .i64 th', .int .i64 sl', .int .i64 no', .slice B1 ops'.length e1, .slice B2 picks'.length e2] 29)).alloc o).alloc o').drewN n).cell? ⟨w5.heap.size, 5, none⟩ = some (.slice B1 ops'.length e1) := fun o o' n => (((KY.alloc o).alloc o').drewN n).k.cells.2.2.2.2.2.1
        have yq6 : ∀ o o' n, ((((w5.alloc (.cells #[.int .i64 st', .int .i64 en', .int .i64 th', .int .i64 sl', .int .i64 no', .slice B1 ops'.length e1, .slice B2 picks'.length e2] 29)).alloc o).alloc o').drewN n).cell? ⟨w5.heap.size, 6, none⟩ = some (.slice B2 picks'.length e2) := fun o o' n => (((KY.alloc o).alloc o').drewN n).k.cells.2.2.2.2.2.2
        have kf : decide ((k : Int) < 6 + 4 * (ops.length : Int)) = false := by simp; omega
        go_wp2_with fail
        go_quiet (fail)
        go_wp2_with fail
        have KX4 : ∀ o o' n, SW w ((((w5.alloc (.cells #[.int .i64 st', .int .i64 en', .int .i64 th', .int .i64 sl', .int .i64 no', .slice B1 ops'.length e1, .slice B2 picks'.length e2] 29)).alloc o).alloc o').drewN n) T u ⟨st', en', th', sl', no', ops, picks⟩ w2.heap.size A1 c1 A2 c2 := fun o o' n => ((KX3.alloc o).alloc o').drewN n
        have KY4 : ∀ o o' n, SW w ((((w5.alloc (.cells #[.int .i64 st', .int .i64 en', .int .i64 th', .int .i64 sl', .int .i64 no', .slice B1 ops'.length e1, .slice B2 picks'.length e2] 29)).alloc o).alloc o').drewN n) T u ⟨st', en', th', sl', no', ops', picks'⟩ w5.heap.size B1 e1 B2 e2 := fun o o' n => ((KY.alloc o).alloc o').drewN n
        clear xq xq6 yq5 yq6 rq x0 x1 x2 x3 x4 x5 x6 y0 y1 y2 y3 y4 y5 y6
        go_loopw [14] (fun i wr => ∃ j : Nat, j ≤ picks.length ∧ i = .int .i64 j ∧ SW w wr T u ⟨st', en', th', sl', no', ops, picks⟩ w2.heap.size A1 c1 A2 c2 ∧ SW w wr T u ⟨st', en', th', sl', no', ops', picks'⟩ w5.heap.size B1 e1 B2 e2) (fun i _ => picks.length - (intOf i).toNat)
        case atStart => exact ⟨0, Nat.zero_le _, rfl, KX4 _ _ _, KY4 _ _ _⟩
        case round =>
          obtain ⟨j, hj, rfl, F, G⟩ := hrel
          clear KX4 KY4 KX3 KY
          by_cases hlt : j < picks.length
          · have hlt2 : j < picks'.length := by have := G3.out.2.1; omega
            obtain ⟨ob, off, rfl, hob, _⟩ := F.sp.pick hlt
            obtain ⟨ob2, off2, rfl, hob2, _⟩ := G.sp.pick hlt2
            obtain ⟨x0, x1, x2, x3, x4, x5, x6⟩ := F.k.cells
            obtain ⟨y0, y1, y2, y3, y4, y5, y6⟩ := G.k.cells
            have a0 := F.sp.pickAt hlt
            have b0 := G.sp.pickAt hlt2
            by_cases hq : j = k - (6 + 4 * ops.length)
            · have nq1 : ((j : Int) == (k : Int) - (6 + 4 * (ops.length : Int))) = true := by simp; omega
              have nq2 : ((j : Int) != (k : Int) - (6 + 4 * (ops.length : Int))) = false := by simp; omega
              clear hq
              go_wp2_with fail
              have ww := IntWalk.i64_in ((k : Int) - (6 + 4 * (ops.length : Int))) (by omega)
              go_quiet (fail)
              clear ww
              go_wp2_with fail
              go_roundw
              case rel => exact ⟨j + 1, by omega, by go_num, F.drewN _, G.drewN _⟩
              case measure => simp [intOf]; omega
            · have nq1 : ((j : Int) == (k : Int) - (6 + 4 * (ops.length : Int))) = false := by simp; omega
              have nq2 : ((j : Int) != (k : Int) - (6 + 4 * (ops.length : Int))) = true := by simp; omega
              have hp : picks'[j] = picks[j] := Option.some.inj (((List.getElem?_eq_getElem hlt2).symm.trans (G3.out.2.2 j hlt hq)).trans (List.getElem?_eq_getElem hlt))
              simp only [hp] at b0
              go_wp2_with fail
              have ww := IntWalk.i64_in ((k : Int) - (6 + 4 * (ops.length : Int))) (by omega)
              go_quiet (fail)
              clear ww
              go_wp2_with fail
              go_roundw
              case rel => exact ⟨j + 1, by omega, by go_num, F.drewN _, G.drewN _⟩
              case measure => simp [intOf]; omega
          · obtain ⟨x0, x1, x2, x3, x4, x5, x6⟩ := F.k.cells
            go_wp2_with fail
            go_ret
            exact ⟨rfl, F.below⟩
  · have hl' : (s.size : Int) < 7 ∨ 7 ≤ (s.size : Int) ∧ 4096 < (s.size : Int) := by omega
    rcases hl' with h | ⟨h1, h2⟩
    all_goals
      go_enter Tryd.func5, Tryd.ntmps5
      go_wp2_with (go_at_call 9; refine (awake_any _ T u hE).mono ?_; rintro e w1 ⟨rfl, hb1⟩)
      go_ret
      exact ⟨rfl, hb1⟩

end Go.Proofs.YthecbeejlpgdaaaDoor
