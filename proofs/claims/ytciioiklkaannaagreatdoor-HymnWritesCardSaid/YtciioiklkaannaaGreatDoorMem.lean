/- Blocks of the call's own, known whole. -/
import Derived.Test.YtciioiklkaannaaGreatDoorBase
import Derived.OwnWalk
namespace Go.Proofs.YtciioiklkaannaaGreatDoor
open Go Go.RowKit
set_option linter.unusedSimpArgs false
set_option linter.unusedVariables false
set_option linter.unusedSectionVars false

/-- Block g is just the cells cs of type t, none of them frozen. -/
def Bk (w : World) (g : Nat) (t : TypeId) (cs : Array Value) : Prop := w.heap[g]? = some (.cells cs t (0, 0))

section
variable {w w' : World} {g : Nat} {t : TypeId} {cs : Array Value}
theorem Bk.lt (h : Bk w g t cs) : g < w.heap.size := by
  unfold Bk at h
  rcases Nat.lt_or_ge g w.heap.size with hl | hl
  · exact hl
  · rw [Array.getElem?_eq_none hl] at h; cases h
theorem Bk.cell (h : Bk w g t cs) (i : Nat) : w.cell? ⟨g, i, none⟩ = cs[i]? := by
  unfold Bk at h
  simp [World.cell?, h]
theorem Bk.free (h : Bk w g t cs) (i : Nat) : w.frozen? ⟨g, i, none⟩ = false := by
  unfold Bk at h
  simp [World.frozen?, h]
theorem Bk.same (h : Bk w g t cs) (hh : w'.heap[g]? = w.heap[g]?) : Bk w' g t cs := by unfold Bk at *; rw [hh]; exact h
theorem Bk.new (w : World) (t : TypeId) (cs : Array Value) : Bk (w.alloc (.cells cs t)) w.heap.size t cs := by
  show (w.heap.push _)[w.heap.size]? = _
  simp
theorem Bk.at_ {w : World} {t : TypeId} {cs : Array Value} {g : Nat} (h : g = w.heap.size) : Bk (w.alloc (.cells cs t)) g t cs := by subst h; exact Bk.new w t cs
theorem Bk.drew (h : Bk w g t cs) : Bk w.drew g t cs := h
theorem Bk.drewN (h : Bk w g t cs) (n : Nat) : Bk (w.drewN n) g t cs := h
theorem Bk.alloc (h : Bk w g t cs) (o : Obj) : Bk (w.alloc o) g t cs := h.same (Below.heap_alloc w o g h.lt)
theorem Bk.set_ (h : Bk w g t cs) (i : Nat) (u : Value) : Bk (w.setCell ⟨g, i, none⟩ u) g t (cs.setIfInBounds i u) := by
  unfold Bk at *
  simp [World.setCell, Array.getElem?_modify, h]
theorem Bk.far (h : Bk w g t cs) {p : Addr} (hp : g ≠ p.block) (u : Value) : Bk (w.setCell p u) g t cs := h.same (Below.heap_setCell w p u g hp)
theorem Bk.below {B : Nat} (h : Bk w g t cs) (hb : Below B w w') (hg : g < B) : Bk w' g t cs := h.same (hb.block g hg)
theorem Bk.belowAll (h : Bk w g t cs) (hb : Below w.heap.size w w') : Bk w' g t cs := h.below hb h.lt
theorem Bk.grown {row : Option Nat} (h : Bk w g t cs) (hb : w.grownBy w' row) (hg : some g ≠ row) : Bk w' g t cs := h.same (hb.block g h.lt hg)
end

theorem grown_setCell (w : World) (b i : Nat) (u : Value) : w.grownBy (w.setCell ⟨b, i, none⟩ u) (some b) :=
  ⟨rfl, rfl, rfl, by simp [World.setCell], fun k _ hne => Below.heap_setCell w ⟨b, i, none⟩ u k (fun e => hne (by simp [e]))⟩
theorem grown_of_below {w w' : World} (h : Below w.heap.size w w') (row : Option Nat) : w.grownBy w' row := ⟨h.os, h.tape, h.output, h.size, fun k hk _ => h.block k hk⟩
theorem below_of_grown {w w' : World} {row : Option Nat} (h : w.grownBy w' row) {B : Nat} (hB : B ≤ w.heap.size) (hr : ∀ b, row = some b → B ≤ b) : Below B w w' :=
  (Below.refl B w).grown h hB hr
theorem own_below {w w' : World} {base : Nat} {e : TypeId} {sz n : Nat} {v : Value} {xs : List Value} (h : w.ownsRow base e sz v n xs) (hb : Below w.heap.size w w') : w'.ownsRow base e sz v n xs :=
  h.kept (grown_of_below hb none) (by cases hv : v.ownBlock <;> simp)
theorem own_setCell {w : World} {base : Nat} {e : TypeId} {sz n : Nat} {v : Value} {xs : List Value} (h : w.ownsRow base e sz v n xs) {a : Addr} (ha : a.block < base) (u : Value) : (w.setCell a u).ownsRow base e sz v n xs :=
  ownsRow_setCell_below h ha u
theorem own_more {w : World} {base base' : Nat} {e : TypeId} {sz n : Nat} {v : Value} {xs : List Value} (h : w.ownsRow base e sz v n xs) (hb : base' ≤ base) : w.ownsRow base' e sz v n xs := by
  obtain ⟨h1, h2⟩ := h
  refine ⟨h1, ?_⟩
  rcases h2 with h2 | ⟨g, cap, cur, hv, hg, r⟩
  · exact Or.inl h2
  · exact Or.inr ⟨g, cap, cur, hv, by omega, r⟩

theorem bk4 {w : World} {g : Nat} {t : TypeId} {p0 p1 p2 p3 : Value} (h : Bk w g t #[p0, p1, p2, p3]) :
    w.cell? ⟨g, 0, none⟩ = some p0 ∧ w.cell? ⟨g, 1, none⟩ = some p1 ∧ w.cell? ⟨g, 2, none⟩ = some p2 ∧ w.cell? ⟨g, 3, none⟩ = some p3 := ⟨h.cell 0, h.cell 1, h.cell 2, h.cell 3⟩
theorem cell_grown {w w' : World} {g b o : Nat} (h : w.grownBy w' (some g)) (hb : b < w.heap.size) (hne : b ≠ g) : w'.cell? ⟨b, o, none⟩ = w.cell? ⟨b, o, none⟩ := by
  unfold World.cell?
  rw [h.block b hb (by simpa using hne)]

end Go.Proofs.YtciioiklkaannaaGreatDoor
