/- LotsReads, walked: of every bytes the script is what the document says. -/
import Derived.Test.YthecbeejlpgdaaaDoorLawA
import Derived.Test.YthecbeejlpgdaaaDoorFnRefA
namespace Go.Proofs.YthecbeejlpgdaaaDoor
open Go Go.RowKit
set_option linter.unusedSimpArgs false
set_option linter.unusedVariables false
set_option linter.unusedSectionVars false

def KindsP (st : Int) (w : World) (e : Ending) (w' : World) : Prop :=
  ∃ A c, e = .returned (.slice A (kindsOf st).length c) ∧ Sl w' w'.heap.size 1 A (kindsOf st).length (icells (kindsOf st)) ∧ Below w.heap.size w w'
theorem kindsOf_out {st : Int} (h : ¬ (1 ≤ st ∧ st ≤ 5)) : kindsOf st = [] := by
  unfold kindsOf
  rw [if_neg (by omega), if_neg (by omega), if_neg (by omega)]
theorem kindsP_in {st : Int} {w w' : World} {e : Ending} (h : e = .returned (.slice (some ⟨w.heap.size, 0, none⟩) (kindsOf st).length (kindsOf st).length) ∧ w.alloc (.cells ((kindsOf st).map (Value.int .i64)).toArray 3) = w') : KindsP st w e w' := by
  obtain ⟨rfl, rfl⟩ := h
  exact ⟨_, _, rfl, Sl.of_bk (Bk.at_ rfl), (Below.refl _ _).alloc (Nat.le_refl _) _⟩
theorem kindsP_out {st : Int} {w : World} (h : ¬ (1 ≤ st ∧ st ≤ 5)) : KindsP st w (.returned (.slice none 0 0)) w := by
  refine ⟨none, 0, by rw [kindsOf_out h]; rfl, by rw [kindsOf_out h]; exact Sl.none_, Below.refl _ _⟩
theorem kinds_all (st : Int) (w : World) : Calls Tryd.prog 14 #[.int .i64 st] w (KindsP st w) := by
  by_cases h : 1 ≤ st ∧ st ≤ 5
  · exact (kinds_any st w h.1 h.2).mono fun _ _ hh => kindsP_in hh
  · have H := Lib.hid h
    have e1 : (st == 1) = false := by simp; omega
    have e2 : (st == 2) = false := by simp; omega
    have e3 : (st == 3) = false := by simp; omega
    have e4 : (st == 4) = false := by simp; omega
    have e5 : (st == 5) = false := by simp; omega
    clear h
    go_enter Tryd.func14, Tryd.ntmps14
    go_wp2_with fail
    go_ret
    exact kindsP_out H.out
theorem refKinds_all (st : Int) (w : World) : Calls Tryd.prog 15 #[.int .i64 st] w (KindsP st w) := by
  by_cases h : 1 ≤ st ∧ st ≤ 5
  · exact (refKinds_any st w h.1 h.2).mono fun _ _ hh => kindsP_in hh
  · have H := Lib.hid h
    have e1 : (st == 1) = false := by simp; omega
    have e2 : (st == 2) = false := by simp; omega
    have e3 : (st == 3) = false := by simp; omega
    have e4 : (st == 4) = false := by simp; omega
    have e5 : (st == 5) = false := by simp; omega
    clear h
    go_enter Tryd.func15, Tryd.ntmps15
    go_wp2_with fail
    go_ret
    exact kindsP_out H.out

theorem dec_lens (s : ByteArray) : (dec s).ops.length ≤ 64 ∧ (dec s).picks.length ≤ 4096 := by
  simp only [dec, decOps_length, decPicks_length]
  unfold dN dP
  omega

set_option maxHeartbeats 800000 in
theorem lotsReads_any (s : ByteArray) (st : Int) (w : World) (T : TypeId) (u : Value) (hE : w.cell? ⟨0, 0, none⟩ = some (.iface T u)) (hs : s.size ≤ 9223372036854775807) :
    Calls Tryd.prog 3 #[.string s, .int .i64 st] w (RetB true w) := by
  have hlt0 := World.block_lt_of_cell? w _ hE
  simp at hlt0
  by_cases hl : s.size ≤ 16384
  · have hl' : (s.size : Int) ≤ 16384 := by omega
    obtain ⟨l1, l2⟩ := dec_lens s
    obtain ⟨x, hx⟩ : ∃ x, dec s = x := ⟨_, rfl⟩
    rw [hx] at l1 l2
    have HX := Lib.hid hx; clear hx
    go_enter Tryd.func3, Tryd.ntmps3
    go_wp2_with (go_at_call 9; refine (awake_any _ T u hE).mono ?_; rintro e w1 ⟨rfl, hb1⟩)
    refine (decode_is _ _ (by omega) HX.out).mono ?_
    rintro e w2 ⟨A1, c1, A2, c2, rfl, so1, sp1, hb2⟩
    go_wp2_with fail
    refine (refDecode_is _ _ (by omega) HX.out).mono ?_
    rintro e w3 ⟨B1, d1, B2, d2, rfl, so2, sp2, hb3⟩
    go_wp2_with fail
    refine (refSame_is (b := true) x x A1 A2 B1 B2 c1 c2 d1 d2 _ ((so1.below hb3).more hb3.size) ((sp1.below hb3).more hb3.size) so2 sp2 (by omega) (by omega) (by omega) (by omega) (by simp)).mono ?_
    rintro e w4 ⟨rfl, hb4⟩
    have hB : Below w.heap.size w w4 := ((hb1.trans (hb2.mono hb1.size)).trans (hb3.mono (by have := hb1.size; have := hb2.size; omega))).trans (hb4.mono (by have := hb1.size; have := hb2.size; have := hb3.size; omega))
    clear so1 sp1 so2 sp2 hb1 hb2 hb3 hb4
    go_wp2_with fail
    refine (kinds_all st _).mono ?_
    rintro e w5 ⟨A1, c1, rfl, so1, hb5⟩
    go_wp2_with fail
    refine (refKinds_all st _).mono ?_
    rintro e w6 ⟨B1, d1, rfl, so2, hb6⟩
    have hl3 : (kindsOf st).length ≤ 3 := by unfold kindsOf; (repeat' split) <;> simp
    go_wp2_with fail
    refine (ints_is (b := true) (kindsOf st) (kindsOf st) A1 B1 c1 d1 _ _ _ (so1.below hb6) so2 (by omega) (by omega) (by simp)).mono ?_
    rintro e w7 ⟨rfl, k7, rfl⟩
    go_wp2_with fail
    go_ret
    exact ⟨rfl, below_drewN ((hB.trans (hb5.mono hB.size)).trans (hb6.mono (by have := hB.size; have := hb5.size; omega))) _⟩
  · have hl' : ¬ (s.size : Int) ≤ 16384 := by omega
    go_enter Tryd.func3, Tryd.ntmps3
    go_wp2_with (go_at_call 9; refine (awake_any _ T u hE).mono ?_; rintro e w1 ⟨rfl, hb1⟩)
    go_ret
    exact ⟨rfl, hb1⟩

end Go.Proofs.YthecbeejlpgdaaaDoor
