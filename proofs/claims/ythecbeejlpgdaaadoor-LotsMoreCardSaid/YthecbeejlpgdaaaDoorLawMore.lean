/- LotsMore, walked: bytes behind a script's are picks, and nothing else. -/
import Derived.Test.YthecbeejlpgdaaaDoorLawB
namespace Go.Proofs.YthecbeejlpgdaaaDoor
open Go Go.RowKit
set_option linter.unusedSimpArgs false
set_option linter.unusedVariables false
set_option linter.unusedSectionVars false

theorem dec_more (x : PScr) (h : encB x = true) (m : ByteArray) : ∃ ps : List Int, dec (strOfNums (encNums x) ++ m) = ⟨x.st, x.en, x.th, x.sl, x.no, x.ops, ps⟩ ∧ ps.length = min (x.picks.length + m.size) 4096 ∧ ∀ j (hj : j < x.picks.length), ps[j]? = some x.picks[j] := by
  obtain ⟨e0, e1, e2, e3, e4, e5, e6, e7⟩ := begins_dec h (begins_more h m)
  obtain ⟨h1, _⟩ := encB_parts h
  have g := (good_cfg h1).2.2.2.2.2.2.2.2.2.2.2
  have hsz : (strOfNums (encNums x) ++ m).size = 6 + 4 * x.ops.length + x.picks.length + m.size := by rw [ByteArray.size_append, encStr_size]
  have eP : dP (strOfNums (encNums x) ++ m) = min (x.picks.length + m.size) 4096 := by unfold dP; rw [e5, hsz]; omega
  refine ⟨decPicks (strOfNums (encNums x) ++ m) (dP (strOfNums (encNums x) ++ m)), ?_, ?_, fun j hj => ?_⟩
  · unfold dec
    rw [e0, e1, e2, e3, e4, e6]
  · rw [decPicks_length, eP]
  · have hlt : j < dP (strOfNums (encNums x) ++ m) := by rw [eP]; omega
    simp only [decPicks, List.getElem?_map, List.getElem?_range hlt, Option.map_some, e7 j hj]

set_option maxRecDepth 100000 in
set_option maxHeartbeats 1600000 in
theorem lotsMore_any (s m : ByteArray) (w : World) (T : TypeId) (u : Value) (hE : w.cell? ⟨0, 0, none⟩ = some (.iface T u)) (hs : s.size ≤ 9223372036854775807) (hm : m.size ≤ 9223372036854775807) :
    Calls Tryd.prog 4 #[.string s, .string m] w (RetB true w) := by
  have hlt0 := World.block_lt_of_cell? w _ hE
  simp at hlt0
  by_cases hl : s.size ≤ 4096 ∧ m.size ≤ 4096
  · obtain ⟨hl1, hl2⟩ := hl
    have d1 : decide ((4096 : Int) < (s.size : Int)) = false := by simp; omega
    have d2 : decide ((4096 : Int) < (m.size : Int)) = false := by simp; omega
    obtain ⟨l1, l2⟩ := dec_lens s
    have hxe := dec_enc s
    obtain ⟨x, hx⟩ : ∃ x, dec s = x := ⟨_, rfl⟩
    rw [hx] at l1 l2 hxe
    obtain ⟨ps, p1, p2, p3⟩ := dec_more x hxe m
    have hsb : (strOfNums (encNums x)).size ≤ 100000 := by rw [encStr_size]; omega
    obtain ⟨b, hb⟩ : ∃ b, strOfNums (encNums x) = b := ⟨_, rfl⟩
    rw [hb] at p1 hsb
    have HX := Lib.hid (And.intro hx (And.intro hxe (And.intro hb p1)))
    have P3 := Lib.hid p3
    have P2 := Lib.hid p2
    have p4 : ps.length ≤ 4096 := by omega
    have p5 : x.picks.length ≤ ps.length := by omega
    clear hx hxe hb p1 p2 p3
    obtain ⟨st, en, th, sl, no, ops, picks⟩ := x
    simp only at *
    go_enter Tryd.func4, Tryd.ntmps4
    go_wp2_with (go_at_call 9; refine (awake_any _ T u hE).mono ?_; rintro e w1 ⟨rfl, hb1⟩)
    refine (decode_is _ _ (by omega) HX.out.1).mono ?_
    rintro e w2 ⟨A1, c1, A2, c2, rfl, so1, sp1, hb2⟩
    have KX0 := SW.store (x := ⟨st, en, th, sl, no, ops, picks⟩) (A := A1) (c := c1) (A' := A2) (c' := c2) (hb1.trans (hb2.mono hb1.size)) (cell_below (cell_below hE hb1) hb2) so1 sp1
    clear so1 sp1 hb1 hb2
    go_wp2_with fail
    generalize (w2.alloc (.cells #[.int .i64 st, .int .i64 en, .int .i64 th, .int .i64 sl, .int .i64 no, .slice A1 ops.length c1, .slice A2 picks.length c2] 29)) = w3 at *
    refine (encode_yes ⟨st, en, th, sl, no, ops, picks⟩ A1 A2 c1 c2 _ T u KX0.err KX0.so KX0.sp (by simp only; omega) (by simp only; omega) HX.out.2.1 HX.out.2.2.1).mono ?_
    rintro e w4 ⟨rfl, hb4⟩
    have KX1 := KX0.more hb4
    clear hb4 KX0
    go_wp2_with fail
    refine (decode_is _ _ (by rw [ByteArray.size_append]; omega) HX.out.2.2.2).mono ?_
    rintro e w5 ⟨B1, e1, B2, e2, rfl, so5, sp5, hb5⟩
    have KY := SW.store (w0 := w) (x := ⟨st, en, th, sl, no, ops, ps⟩) (A := B1) (c := e1) (A' := B2) (c' := e2) (KX1.below.trans (hb5.mono KX1.below.size)) (cell_below KX1.err hb5) so5 sp5
    have KX2 := (KX1.more hb5).alloc (.cells #[.int .i64 st, .int .i64 en, .int .i64 th, .int .i64 sl, .int .i64 no, .slice B1 ops.length e1, .slice B2 ps.length e2] 29)
    clear so5 sp5 hb5 KX1
    have dm : ((ps.length : Int) != if (4096 : Int) < (picks.length : Int) + (m.size : Int) then 4096 else (picks.length : Int) + (m.size : Int)) = false := by
      have := P2.out
      split <;> simp <;> omega
    obtain ⟨x0, x1, x2, x3, x4, x5, x6⟩ := KX2.k.cells
    obtain ⟨y0, y1, y2, y3, y4, y5, y6⟩ := KY.k.cells
    go_wp2_with fail
    all_goals clear x0 x1 x2 x3 x4 x5 x6 y0 y1 y2 y3 y4 y5 y6
    all_goals generalize (w5.alloc (.cells #[.int .i64 st, .int .i64 en, .int .i64 th, .int .i64 sl, .int .i64 no, .slice B1 ops.length e1, .slice B2 ps.length e2] 29)) = w6 at *
    all_goals
      go_loopw [9] (fun i wr => ∃ k : Nat, k ≤ ops.length ∧ i = .int .i64 k ∧ SW w wr T u ⟨st, en, th, sl, no, ops, picks⟩ w2.heap.size A1 c1 A2 c2 ∧ SW w wr T u ⟨st, en, th, sl, no, ops, ps⟩ w5.heap.size B1 e1 B2 e2) (fun i _ => ops.length - (intOf i).toNat)
      case atStart => exact ⟨0, Nat.zero_le _, rfl, KX2, KY⟩
      case round =>
        obtain ⟨k, hk, rfl, F, G⟩ := hrel
        clear KX2 KY
        by_cases hlt : k < ops.length
        · obtain ⟨ob, off, rfl, hob, _⟩ := F.so.task hlt
          obtain ⟨ob2, off2, rfl, hob2, _⟩ := G.so.task hlt
          obtain ⟨x0, x1, x2, x3, x4, x5, x6⟩ := F.k.cells
          obtain ⟨y0, y1, y2, y3, y4, y5, y6⟩ := G.k.cells
          obtain ⟨a0, a1, a2, a3, a4⟩ := F.so.taskAt hlt
          obtain ⟨b0, b1, b2, b3, b4⟩ := G.so.taskAt hlt
          go_wp2_with fail
          go_quiet (fail)
          go_wp2_with fail
          go_roundw
          case rel => exact ⟨k + 1, by omega, by go_num, F.drewN _, G.drewN _⟩
          case measure => simp [intOf]; omega
        · obtain ⟨x0, x1, x2, x3, x4, x5, x6⟩ := F.k.cells
          go_wp2_with fail
          clear x0 x1 x2 x3 x4 x5 x6
          go_loopw [10] (fun i wr => ∃ k : Nat, k ≤ picks.length ∧ i = .int .i64 k ∧ SW w wr T u ⟨st, en, th, sl, no, ops, picks⟩ w2.heap.size A1 c1 A2 c2 ∧ SW w wr T u ⟨st, en, th, sl, no, ops, ps⟩ w5.heap.size B1 e1 B2 e2) (fun i _ => picks.length - (intOf i).toNat)
          case atStart => exact ⟨0, Nat.zero_le _, rfl, F, G⟩
          case round =>
            clear F G
            obtain ⟨k, hk, rfl, F, G⟩ := hrel
            by_cases hlt : k < picks.length
            · have hlt2 : k < ps.length := by omega
              obtain ⟨ob, off, rfl, hob, _⟩ := F.sp.pick hlt
              obtain ⟨ob2, off2, rfl, hob2, _⟩ := G.sp.pick hlt2
              obtain ⟨x0, x1, x2, x3, x4, x5, x6⟩ := F.k.cells
              obtain ⟨y0, y1, y2, y3, y4, y5, y6⟩ := G.k.cells
              have a0 := F.sp.pickAt hlt
              have b0 := G.sp.pickAt hlt2
              have hq : ps[k] = picks[k] := Option.some.inj ((List.getElem?_eq_getElem hlt2).symm.trans (P3.out k hlt))
              simp only [hq] at b0
              go_wp2_with fail
              go_quiet (fail)
              go_wp2_with fail
              go_roundw
              case rel => exact ⟨k + 1, by omega, by go_num, F.drewN _, G.drewN _⟩
              case measure => simp [intOf]; omega
            · obtain ⟨x0, x1, x2, x3, x4, x5, x6⟩ := F.k.cells
              go_wp2_with fail
              go_ret
              exact ⟨rfl, F.below⟩
  · have hl' : ¬ ((s.size : Int) ≤ 4096 ∧ (m.size : Int) ≤ 4096) := by omega
    go_enter Tryd.func4, Tryd.ntmps4
    go_wp2_with (go_at_call 9; refine (awake_any _ T u hE).mono ?_; rintro e w1 ⟨rfl, hb1⟩)
    all_goals first
      | (exfalso; omega)
      | (go_ret; exact ⟨rfl, hb1⟩)

end Go.Proofs.YthecbeejlpgdaaaDoor
