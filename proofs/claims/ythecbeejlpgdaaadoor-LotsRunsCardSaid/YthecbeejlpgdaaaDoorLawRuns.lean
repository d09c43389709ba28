/- LotsRuns, walked: any bytes are a script that can be run. -/
import Derived.Test.YthecbeejlpgdaaaDoorLawB
namespace Go.Proofs.YthecbeejlpgdaaaDoor
open Go Go.RowKit
set_option linter.unusedSimpArgs false
set_option linter.unusedVariables false
set_option linter.unusedSectionVars false

set_option maxRecDepth 100000 in
set_option maxHeartbeats 1600000 in
theorem lotsRuns_any (s : ByteArray) (w : World) (T : TypeId) (u : Value) (hE : w.cell? ⟨0, 0, none⟩ = some (.iface T u)) (hs : s.size ≤ 9223372036854775807) :
    Calls Tryd.prog 6 #[.string s] w (RetB true w) := by
  have hlt0 := World.block_lt_of_cell? w _ hE
  simp at hlt0
  by_cases hl : s.size ≤ 16384
  · have hl' : (s.size : Int) ≤ 16384 := by omega
    have l3 := dec_picks_le s
    have hg := dec_good s
    obtain ⟨x, hx⟩ : ∃ x, dec s = x := ⟨_, rfl⟩
    rw [hx] at l3 hg
    have HX := Lib.hid hx; clear hx
    obtain ⟨g1, g2, g3, g4, g5, g6, g7, g8, g9, g10, l1, l2⟩ := good_cfg hg
    have htask : ∀ k (hk : k < x.ops.length), _ := fun k hk => good_task hg (k := k) hk
    have HT := Lib.hid htask; clear htask
    have hc : goodCfg x.st x.en x.th x.sl x.no = true := by rw [goodCfg_true]; omega
    have HC := Lib.hid hc; clear hc
    have HG := Lib.hid hg; clear hg
    have d1 : decide ((64 : Int) < (x.ops.length : Int)) = false := by simp; omega
    have d2 : decide ((4096 : Int) < (x.picks.length : Int)) = false := by simp; omega
    have d3 : decide (s.size < x.picks.length) = false := by simp; omega
    go_enter Tryd.func6, Tryd.ntmps6
    go_wp2_with (go_at_call 9; refine (awake_any _ T u hE).mono ?_; rintro e w1 ⟨rfl, hb1⟩)
    refine (decode_is _ _ (by omega) HX.out).mono ?_
    rintro e w2 ⟨A1, c1, A2, c2, rfl, so1, sp1, hb2⟩
    have hB2 : Below w.heap.size w w2 := hb1.trans (hb2.mono hb1.size)
    have hE2 := (hB2.cell (p := ⟨0, 0, none⟩) hlt0).trans hE
    clear hb1 hb2
    go_wp2_with fail
    have K := SW.store (x := x) (A := A1) (c := c1) (A' := A2) (c' := c2) hB2 hE2 so1 sp1
    clear so1 sp1 hE2 hB2
    generalize (w2.alloc (.cells #[.int .i64 x.st, .int .i64 x.en, .int .i64 x.th, .int .i64 x.sl, .int .i64 x.no, .slice A1 x.ops.length c1, .slice A2 x.picks.length c2] 29)) = wa at *
    go_region_held3 (fun w' => w'.cell? ⟨w2.heap.size, 0, none⟩ = some (.int .i64 x.st) ∧ w'.cell? ⟨w2.heap.size, 1, none⟩ = some (.int .i64 x.en) ∧ w'.cell? ⟨w2.heap.size, 2, none⟩ = some (.int .i64 x.th) ∧ w'.cell? ⟨w2.heap.size, 3, none⟩ = some (.int .i64 x.sl) ∧ w'.cell? ⟨w2.heap.size, 4, none⟩ = some (.int .i64 x.no) ∧
      w'.cell? ⟨w2.heap.size, 5, none⟩ = some (.slice A1 x.ops.length c1) ∧ w'.cell? ⟨w2.heap.size, 6, none⟩ = some (.slice A2 x.picks.length c2))
      (first | exact K6.k.cells | exact K5.k.cells | exact K4.k.cells | exact K3.k.cells | exact K.drew.k.cells)
      (first
        | (go_at_call 17; refine (good_is x A1 A2 c1 c2 _ T u K.drew.err K.drew.so K.drew.sp (by omega) (by omega) HG.out).mono ?_; rintro e w3 ⟨rfl, hb3⟩; have K3 := K.drew.more hb3)
        | (go_at_call 11; refine (decode_is _ _ (by omega) HX.out).mono ?_; rintro e w4 ⟨B1, e1, B2, e2, rfl, so4, sp4, hb4⟩; have K4 := K3.more hb4)
        | (go_at_call 18; refine (same_is (b := true) x x A1 A2 B1 B2 c1 c2 e1 e2 _ K4.so K4.sp so4 sp4 (by omega) (by omega) (by omega) (by omega) (by simp)).mono ?_; rintro e w5 ⟨rfl, hb5⟩; have K5 := K4.more hb5)
        | (go_at_call 19; refine (parishGood_is x.st x.en x.th x.sl x.no _ HC.out).mono ?_; rintro e w6 ⟨rfl, hb6⟩; have K6 := K5.more hb6))
    go_wp2_with fail
    go_loopw [4] (fun i wr => ∃ k : Nat, k ≤ x.ops.length ∧ i = .int .i64 k ∧ SW w wr T u x w2.heap.size A1 c1 A2 c2) (fun i _ => x.ops.length - (intOf i).toNat)
    case atStart => exact ⟨0, Nat.zero_le _, rfl, K6⟩
    case round =>
      obtain ⟨k, hk, rfl, F⟩ := hrel
      clear K6 K5 K4 K3 K so4 sp4 hb3 hb4 hb5 hb6
      obtain ⟨x0, x1, x2, x3, x4, x5, x6⟩ := F.k.cells
      by_cases hlt : k < x.ops.length
      · obtain ⟨ob, off, rfl, hob, _⟩ := F.so.task hlt
        obtain ⟨t1, t2, t3⟩ := HT.out k hlt
        have FT := Lib.hid t3; clear t3
        have d4 : decide ((x.ops[k]).thread < 0) = false := by simp; omega
        have d5 : decide (x.th ≤ (x.ops[k]).thread) = false := by simp; omega
        clear x0 x1 x2 x3 x4 x5 x6
        have hSS : ∀ wx, SW w wx T u x w2.heap.size (some ⟨ob, off, none⟩) c1 A2 c2 → (wx.cell? ⟨w2.heap.size, 0, none⟩ = some (.int .i64 x.st) ∧ wx.cell? ⟨w2.heap.size, 2, none⟩ = some (.int .i64 x.th) ∧ wx.cell? ⟨w2.heap.size, 5, none⟩ = some (.slice (some ⟨ob, off, none⟩) x.ops.length c1) ∧
            wx.cell? ⟨ob, off + k * 5, none⟩ = some (.int .i64 (x.ops[k]).thread) ∧ wx.cell? ⟨ob, off + k * 5 + 1, none⟩ = some (.int .i64 (x.ops[k]).op.kind) ∧ wx.cell? ⟨ob, off + k * 5 + 2, none⟩ = some (.int .i64 (x.ops[k]).op.key) ∧
            wx.cell? ⟨ob, off + k * 5 + 3, none⟩ = some (.int .i64 (x.ops[k]).op.val) ∧ wx.cell? ⟨ob, off + k * 5 + 4, none⟩ = some (.int .i64 (x.ops[k]).op.tall)) :=
          fun wx h => ⟨h.k.cells.1, h.k.cells.2.2.1, h.k.cells.2.2.2.2.2.1, h.so.taskAt hlt⟩
        have HS := Lib.hid hSS; clear hSS
        obtain ⟨x0, x1, x2, x3, x4, x5, x6⟩ := F.k.cells
        go_wp2_with fail
        clear x0 x1 x2 x3 x4 x5 x6
        go_region_held3 (fun w' => w'.cell? ⟨w2.heap.size, 0, none⟩ = some (.int .i64 x.st) ∧ w'.cell? ⟨w2.heap.size, 2, none⟩ = some (.int .i64 x.th) ∧ w'.cell? ⟨w2.heap.size, 5, none⟩ = some (.slice (some ⟨ob, off, none⟩) x.ops.length c1) ∧
            w'.cell? ⟨ob, off + k * 5, none⟩ = some (.int .i64 (x.ops[k]).thread) ∧ w'.cell? ⟨ob, off + k * 5 + 1, none⟩ = some (.int .i64 (x.ops[k]).op.kind) ∧ w'.cell? ⟨ob, off + k * 5 + 2, none⟩ = some (.int .i64 (x.ops[k]).op.key) ∧
            w'.cell? ⟨ob, off + k * 5 + 3, none⟩ = some (.int .i64 (x.ops[k]).op.val) ∧ w'.cell? ⟨ob, off + k * 5 + 4, none⟩ = some (.int .i64 (x.ops[k]).op.tall))
          (first | exact HS.out _ F2 | exact HS.out _ F.drew)
          ((go_at_call 20; refine (fits_is x.st (x.ops[k]).op _ T u F.drew.err FT.out).mono ?_; rintro e w7 ⟨rfl, hb7⟩; have F2 := F.drew.more hb7))
        go_wp2_with fail
        go_roundw
        case rel => exact ⟨k + 1, by omega, by go_num, F2⟩
        case measure => simp [intOf]; omega
      · go_wp2_with fail
        go_ret
        exact ⟨rfl, F.below⟩
  · have hl' : ¬ (s.size : Int) ≤ 16384 := by omega
    go_enter Tryd.func6, Tryd.ntmps6
    go_wp2_with (go_at_call 9; refine (awake_any _ T u hE).mono ?_; rintro e w1 ⟨rfl, hb1⟩)
    go_ret
    exact ⟨rfl, hb1⟩

end Go.Proofs.YthecbeejlpgdaaaDoor
