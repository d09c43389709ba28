/- The reference's Back: numbers the other way round. -/
import Derived.Test.YtlfbgpncdahglaaDoorLaws
namespace Go.Proofs.YtlfbgpncdahglaaDoor
open Go Go.RowKit
set_option linter.unusedSimpArgs false
set_option linter.unusedVariables false
set_option linter.unusedSectionVars false

theorem Own.empty {w : World} {g : Nat} {e : TypeId} {sz : Nat} (hg : Bk w g e #[]) : Own w e sz (.slice (some ⟨g, 0, none⟩) 0 0) 0 [] :=
  ⟨by simp, .inr ⟨g, 0, 0, [], [], rfl, by simpa using hg, rfl, Nat.le_refl _, by decide, by simp⟩⟩

set_option maxRecDepth 100000 in
set_option maxHeartbeats 800000 in
theorem back_any (l : List Int) (A : Option Addr) (c : Nat) (w : World) (hs : Sl w w.heap.size 1 A l.length (icells l)) (hl : l.length ≤ 10000) :
    Calls Tryd.prog 23 #[.slice A l.length c] w (NewOwn w 3 1 l.reverse.length (icells l.reverse)) := by
  have o0 : Own (w.alloc (.cells #[] 3)) 3 1 (.slice (some ⟨w.heap.size, 0, none⟩) 0 0) 0 [] := Own.empty (Bk.at_ rfl)
  have b0 : Below w.heap.size w (w.alloc (.cells #[] 3)) := (Below.refl _ _).alloc (Nat.le_refl _) _
  go_enter Tryd.func23, Tryd.ntmps23
  go_wp2_with fail
  go_loopw [3, 4] (fun v i wr => ∃ (j : Int) (ys : List Int), -1 ≤ j ∧ j < l.length ∧ i = .int .i64 j ∧ ys = (l.drop (j + 1).toNat).reverse ∧ Own wr 3 1 v ys.length (icells ys) ∧ Below w.heap.size w wr ∧ (∀ b, v.ownBlock = some b → w.heap.size ≤ b)) (fun _ i _ => (intOf i + 1).toNat)
  case atStart =>
    refine ⟨(l.length : Int) - 1, [], by omega, by omega, rfl, ?_, o0, b0, fun b e => ?_⟩
    · rw [List.drop_eq_nil_of_le (by omega)]; rfl
    · cases e; exact Nat.le_refl _
  case round =>
    obtain ⟨j, ys, hj, hlt, rfl, hys, ho, hb, hf⟩ := hrel
    have HY := Lib.hid hys; clear hys o0 b0
    by_cases h0 : 0 ≤ j
    · obtain ⟨m, rfl⟩ : ∃ m : Nat, j = m := ⟨j.toNat, by omega⟩
      obtain ⟨sb, off, rfl, hsb, q⟩ := (hs.below hb).pick (i := m) (by omega)
      have hyl : ys.length ≤ 100000 := by rw [HY.out]; simp; omega
      have o1 := ho.alloc (.cells #[.int .i64 l[m]] 3)
      have K1 : Bk (wr.alloc (.cells #[.int .i64 l[m]] 3)) wr.heap.size 3 #[.int .i64 l[m]] := Bk.at_ rfl
      obtain ⟨v', w4, hrun, h4, hg4, hf4⟩ := own_ints_append _ _ _ o1 hyl l[m] wr.heap.size K1 48
      have HR := Lib.hid hrun; clear hrun
      have hb4 := (hb.alloc hb.size (.cells #[.int .i64 l[m]] 3)).grown hg4 (by simp; have := hb.size; omega) hf
      have hf5 : ∀ b, v'.ownBlock = some b → w.heap.size ≤ b := fun b e => by
        rcases hf4 b e with h' | h'
        · exact hf b h'
        · simp at h'; have := hb.size; omega
      clear K1 o1 hg4 hf4 h0
      go_wp2_with (at_builtin; refine wpList_append_run (by rfl) _ _ _ _ _ _ _ (by rfl) (by rfl) (by rfl) HR.out ?_)
      go_roundw
      case rel =>
        refine ⟨(m : Int) - 1, _, by omega, by omega, rfl, ?_, h4, hb4, hf5⟩
        rw [HY.out, show ((m : Int) - 1 + 1).toNat = m from by omega, show ((m : Int) + 1).toNat = m + 1 from by omega, List.drop_eq_getElem_cons (i := m) (by omega), List.reverse_cons]
      case measure => simp [intOf]
    · obtain rfl : j = -1 := by omega
      clear h0
      go_wp2_with fail
      go_ret
      have e : ys = l.reverse := by rw [HY.out]; simp
      exact ⟨_, rfl, e ▸ ho, hb, hf⟩
end Go.Proofs.YtlfbgpncdahglaaDoor
