/- Blocks of the call's own, known whole. A store of a whole struct into a block known whole: the new world by what it holds. -/
import Derived.Test.YtciioiklkaannaaGreatDoorFnA
import Derived.OwnWalk
import Derived.Deep.MidRow
namespace Go.Proofs.YtciioiklkaannaaGreatDoor
open Go Go.RowKit
set_option linter.unusedSimpArgs false
set_option linter.unusedVariables false
set_option linter.unusedSectionVars false

/-- Block g is just the cells cs of type t, none of them frozen. -/
def Bk (w : World) (g : Nat) (t : TypeId) (cs : Array Value) : Prop := w.heap[g]? = some (.cells cs t (0, 0))

section
variable {w w' : World} {g : Nat} {t : TypeId} {cs : Array Value}
theorem Bk.lt (h : Bk w g t cs) : g < w.heap.size := by
  unfold Bk at h
  rcases Nat.lt_or_ge g w.heap.size with hl | hl
  · exact hl
  · rw [Array.getElem?_eq_none hl] at h; cases h
theorem Bk.cell (h : Bk w g t cs) (i : Nat) : w.cell? ⟨g, i, none⟩ = cs[i]? := by
  unfold Bk at h
  simp [World.cell?, h]
theorem Bk.free (h : Bk w g t cs) (i : Nat) : w.frozen? ⟨g, i, none⟩ = false := by
  unfold Bk at h
  simp [World.frozen?, h]
theorem Bk.same (h : Bk w g t cs) (hh : w'.heap[g]? = w.heap[g]?) : Bk w' g t cs := by unfold Bk at *; rw [hh]; exact h
theorem Bk.new (w : World) (t : TypeId) (cs : Array Value) : Bk (w.alloc (.cells cs t)) w.heap.size t cs := by
  show (w.heap.push _)[w.heap.size]? = _
  simp
theorem Bk.at_ {w : World} {t : TypeId} {cs : Array Value} {g : Nat} (h : g = w.heap.size) : Bk (w.alloc (.cells cs t)) g t cs := by subst h; exact Bk.new w t cs
theorem Bk.drew (h : Bk w g t cs) : Bk w.drew g t cs := h
theorem Bk.drewN (h : Bk w g t cs) (n : Nat) : Bk (w.drewN n) g t cs := h
theorem Bk.alloc (h : Bk w g t cs) (o : Obj) : Bk (w.alloc o) g t cs := h.same (Below.heap_alloc w o g h.lt)
theorem Bk.set_ (h : Bk w g t cs) (i : Nat) (u : Value) : Bk (w.setCell ⟨g, i, none⟩ u) g t (cs.setIfInBounds i u) := by
  unfold Bk at *
  simp [World.setCell, Array.getElem?_modify, h]
theorem Bk.far (h : Bk w g t cs) {p : Addr} (hp : g ≠ p.block) (u : Value) : Bk (w.setCell p u) g t cs := h.same (Below.heap_setCell w p u g hp)
theorem Bk.below {B : Nat} (h : Bk w g t cs) (hb : Below B w w') (hg : g < B) : Bk w' g t cs := h.same (hb.block g hg)
theorem Bk.belowAll (h : Bk w g t cs) (hb : Below w.heap.size w w') : Bk w' g t cs := h.below hb h.lt
theorem Bk.grown {row : Option Nat} (h : Bk w g t cs) (hb : w.grownBy w' row) (hg : some g ≠ row) : Bk w' g t cs := h.same (hb.block g h.lt hg)
end

theorem grown_setCell (w : World) (b i : Nat) (u : Value) : w.grownBy (w.setCell ⟨b, i, none⟩ u) (some b) :=
  ⟨rfl, rfl, rfl, by simp [World.setCell], fun k _ hne => Below.heap_setCell w ⟨b, i, none⟩ u k (fun e => hne (by simp [e]))⟩
theorem grown_of_below {w w' : World} (h : Below w.heap.size w w') (row : Option Nat) : w.grownBy w' row := ⟨h.os, h.tape, h.output, h.size, fun k hk _ => h.block k hk⟩
theorem below_of_grown {w w' : World} {row : Option Nat} (h : w.grownBy w' row) {B : Nat} (hB : B ≤ w.heap.size) (hr : ∀ b, row = some b → B ≤ b) : Below B w w' :=
  (Below.refl B w).grown h hB hr
theorem own_below {w w' : World} {base : Nat} {e : TypeId} {sz n : Nat} {v : Value} {xs : List Value} (h : w.ownsRow base e sz v n xs) (hb : Below w.heap.size w w') : w'.ownsRow base e sz v n xs :=
  h.kept (grown_of_below hb none) (by cases hv : v.ownBlock <;> simp)
theorem own_setCell {w : World} {base : Nat} {e : TypeId} {sz n : Nat} {v : Value} {xs : List Value} (h : w.ownsRow base e sz v n xs) {a : Addr} (ha : a.block < base) (u : Value) : (w.setCell a u).ownsRow base e sz v n xs :=
  ownsRow_setCell_below h ha u
theorem own_more {w : World} {base base' : Nat} {e : TypeId} {sz n : Nat} {v : Value} {xs : List Value} (h : w.ownsRow base e sz v n xs) (hb : base' ≤ base) : w.ownsRow base' e sz v n xs := by
  obtain ⟨h1, h2⟩ := h
  refine ⟨h1, ?_⟩
  rcases h2 with h2 | ⟨g, cap, cur, hv, hg, r⟩
  · exact Or.inl h2
  · exact Or.inr ⟨g, cap, cur, hv, by omega, r⟩

theorem bk4 {w : World} {g : Nat} {t : TypeId} {p0 p1 p2 p3 : Value} (h : Bk w g t #[p0, p1, p2, p3]) :
    w.cell? ⟨g, 0, none⟩ = some p0 ∧ w.cell? ⟨g, 1, none⟩ = some p1 ∧ w.cell? ⟨g, 2, none⟩ = some p2 ∧ w.cell? ⟨g, 3, none⟩ = some p3 := ⟨h.cell 0, h.cell 1, h.cell 2, h.cell 3⟩
theorem cell_grown {w w' : World} {g b o : Nat} (h : w.grownBy w' (some g)) (hb : b < w.heap.size) (hne : b ≠ g) : w'.cell? ⟨b, o, none⟩ = w.cell? ⟨b, o, none⟩ := by
  unfold World.cell?
  rw [h.block b hb (by simpa using hne)]

end Go.Proofs.YtciioiklkaannaaGreatDoor
namespace Go.Proofs.YtciioiklkaannaaGreatDoor
open Go Go.RowKit

theorem setCells_bk {g : Nat} {t : TypeId} : ∀ (vs : List Value) (o : Nat) (w : World) (C : Array Value), Bk w g t C → o + vs.length ≤ C.size →
    ∃ C', Bk (w.setCells g o vs) g t C' ∧ C'.toList = C.toList.take o ++ vs ++ C.toList.drop (o + vs.length) ∧ w.grownBy (w.setCells g o vs) (some g) ∧ (w.setCells g o vs).heap.size = w.heap.size
  | [], o, w, C, h, _ => ⟨C, h, by simp, ⟨rfl, rfl, rfl, Nat.le_refl _, fun _ _ _ => rfl⟩, rfl⟩
  | v :: r, o, w, C, h, hl => by
    simp only [List.length_cons] at hl
    have h1 := h.set_ o v
    obtain ⟨C', hb, hC, hg, hz⟩ := setCells_bk r (o + 1) _ _ h1 (by simp; omega)
    have hg0 := grown_setCell w g o v
    have hz0 : (w.setCell ⟨g, o, none⟩ v).heap.size = w.heap.size := by simp [World.setCell]
    refine ⟨C', hb, ?_, ?_, hz.trans hz0⟩
    · rw [hC]
      have e : (C.setIfInBounds o v).toList = C.toList.take o ++ v :: C.toList.drop (o + 1) := by
        rw [Array.toList_setIfInBounds, List.set_eq_take_append_cons_drop, if_pos (by simp; omega)]
      rw [e]
      have key : ∀ A B : List Value, A.length = o → (A ++ v :: B).take (o + 1) ++ r ++ (A ++ v :: B).drop (o + 1 + r.length) = A ++ (v :: r) ++ B.drop r.length := by
        intro A B hA
        subst hA
        rw [List.take_length_add_append, show A.length + 1 + r.length = A.length + (1 + r.length) from by omega, List.drop_length_add_append]
        simp [Nat.add_comm 1 r.length]
      rw [key _ _ (by simp; omega), List.drop_drop]
      congr 2
      simp; omega
    · exact ⟨hg.os.trans hg0.os, hg.tape.trans hg0.tape, hg.output.trans hg0.output, Nat.le_trans hg0.size hg.size, fun k hk hne => (hg.block k (by omega) hne).trans (hg0.block k hk hne)⟩

/-- What a store of the cells cs into the block g leaves. -/
structure Stored (w : World) (g : Nat) (t : TypeId) (cs : Array Value) (w' : World) : Prop where
  bk : Bk w' g t cs
  grown : w.grownBy w' (some g)
  size : w'.heap.size = w.heap.size
section
variable {w w' : World} {g : Nat} {t : TypeId} {cs : Array Value}
theorem Stored.below (h : Stored w g t cs w') {B : Nat} {w0 : World} (hb : Below B w0 w) (hB : B ≤ g) : Below B w0 w' := hb.grown h.grown (by have := h.bk.lt; have := h.size; omega) (fun b e => by cases e; exact hB)
theorem Stored.far (h : Stored w g t cs w') {k : Nat} {u : TypeId} {ds : Array Value} (hk : Bk w k u ds) (hne : k ≠ g) : Bk w' k u ds := hk.grown h.grown (by simpa using hne)
end
section
variable {P : Program}
theorem wpList_store_bk {ops : Array Oper} {rest : List Oper} {op : Oper} {a : Act} {w : World} {Q : Exit → Act → World → Prop} (hgd : op.guard = none) (ty : TypeId) (x y : Operand) (ho : op.op = .store ty x y)
    (g : Nat) (cells : Array Value) (hx : a.eval x = .pointer (some ⟨g, 0, none⟩)) (hy : a.eval y = .agg cells) (t : TypeId) (cs : Array Value) (hB : Bk w g t cs) (hsz : cs.size = cells.size)
    (hi : (P.info? ty).map (·.size) = some cells.size) (h1 : cells.toList.all (·.oneCell') = true)
    (h : ∀ w', Stored w g t cells w' → wpList P ops Q rest (a.put op.dst undef) w') : wpList P ops Q (op :: rest) a w := by
  obtain ⟨C', hb, hC, hg, hz⟩ := setCells_bk cells.toList 0 w cs hB (by simp [hsz])
  have e : C' = cells := by
    apply Array.toList_inj.1
    rw [hC]; simp [hsz]
  subst e
  refine wpList_store_mid hgd ty x y ho g 0 C' hx hy (fun j hj => ⟨?_, ?_⟩) hi (by rw [← Array.all_toList]; exact h1) (h _ ⟨hb, hg, hz⟩)
  · rw [Nat.zero_add, hB.cell, Array.getElem?_eq_getElem (by omega)]; rfl
  · rw [Nat.zero_add]; exact hB.free j
end
end Go.Proofs.YtciioiklkaannaaGreatDoor
