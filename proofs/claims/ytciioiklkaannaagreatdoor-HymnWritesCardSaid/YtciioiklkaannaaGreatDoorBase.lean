/- Small plain facts on bytes, worlds and slices that the walks of this seat share; no program in sight. -/
import Derived.WalkKit
import Derived.WalkSpells
import Derived.WalkLawsBesides
import Derived.Lib.Hide
import Derived.Deep.Draws
import Derived.Laws.OwnMore
import Derived.Deep.AppendLies
import Derived.Laws.Rows
namespace Go.Proofs.YtciioiklkaannaaGreatDoor
open Go Go.RowKit
set_option linter.unusedSimpArgs false
set_option linter.unusedVariables false
set_option linter.unusedSectionVars false

/-- The byte at a place, and 0 behind the last one. -/
def bat (s : ByteArray) (n : Nat) : Nat := if h : n < s.size then s[n].toNat else 0

theorem bat_lt (s : ByteArray) (n : Nat) : bat s n < 256 := by
  unfold bat; split
  · exact UInt8.toNat_lt _
  · omega

/-- What is left of a text from a place on. -/
def rest (s : ByteArray) (k : Nat) : ByteArray := s.extract k s.size

theorem rest_size (s : ByteArray) (k : Nat) : (rest s k).size = s.size - k := by
  simp [rest]

theorem below_drewN {B : Nat} {a w : World} (h : Below B a w) (n : Nat) : Below B a (w.drewN n) := ⟨h.os, h.tape, h.output, h.size, h.block⟩

theorem bcell {W w1 : World} (hb : Below W.heap.size W w1) : (∀ b o, b < W.heap.size → w1.cell? ⟨b, o, none⟩ = W.cell? ⟨b, o, none⟩) ∧ (∀ b o, b < W.heap.size → w1.frozen? ⟨b, o, none⟩ = W.frozen? ⟨b, o, none⟩) :=
  ⟨fun b o h => hb.cell (p := ⟨b, o, none⟩) h, fun b o h => hb.frozen (p := ⟨b, o, none⟩) h⟩

theorem setCell_same {w : World} {p : Addr} {v : Value} (h : w.cell? p = some v) : w.setCell p v = w := by
  have hh : (w.setCell p v).heap = w.heap := by
    apply Array.ext_getElem?
    intro i
    simp only [World.setCell, Array.getElem?_modify]
    by_cases hi : p.block = i
    · subst hi
      unfold World.cell? at h
      cases hb : w.heap[p.block]? with
      | none => simp [hb] at h
      | some o =>
        cases o <;> simp [hb] at h
        rename_i c e f
        obtain ⟨h1, h2⟩ := h
        simp [h1]
        apply Array.ext_getElem?
        intro j
        rw [Array.getElem?_setIfInBounds]
        split
        · rename_i hj; subst hj
          split
          · exact h2.symm
          · rename_i hlt; rw [Array.getElem?_eq_none (by omega)] at h2; cases h2
        · rfl
    · simp [hi]
  cases w
  simp only [World.setCell] at hh ⊢
  rw [hh]

theorem rest_zero (s : ByteArray) : rest s 0 = s := by
  simp [rest]

theorem rest_step (s : ByteArray) (k : Nat) : (rest s k).extract 1 (rest s k).size = rest s (k + 1) := by
  apply ByteArray.ext
  simp [rest, ByteArray.data_extract, Array.extract_extract]
  congr 1
  omega

theorem rest_head (s : ByteArray) (k : Nat) (h : k < s.size) (h' : 0 < (rest s k).size) : (rest s k)[0].toNat = bat s k := by
  unfold bat
  rw [dif_pos h]
  simp [rest, ByteArray.getElem_extract]

end Go.Proofs.YtciioiklkaannaaGreatDoor
