/- A store of a whole struct into a block known whole: the new world by what it holds. -/
import Derived.Test.YtciioiklkaannaaGreatDoorMem
import Derived.Deep.MidRow
namespace Go.Proofs.YtciioiklkaannaaGreatDoor
open Go Go.RowKit
set_option linter.unusedSimpArgs false
set_option linter.unusedVariables false
set_option linter.unusedSectionVars false

theorem setCells_bk {g : Nat} {t : TypeId} : ∀ (vs : List Value) (o : Nat) (w : World) (C : Array Value), Bk w g t C → o + vs.length ≤ C.size →
    ∃ C', Bk (w.setCells g o vs) g t C' ∧ C'.toList = C.toList.take o ++ vs ++ C.toList.drop (o + vs.length) ∧ w.grownBy (w.setCells g o vs) (some g) ∧ (w.setCells g o vs).heap.size = w.heap.size
  | [], o, w, C, h, _ => ⟨C, h, by simp, ⟨rfl, rfl, rfl, Nat.le_refl _, fun _ _ _ => rfl⟩, rfl⟩
  | v :: r, o, w, C, h, hl => by
    simp only [List.length_cons] at hl
    have h1 := h.set_ o v
    obtain ⟨C', hb, hC, hg, hz⟩ := setCells_bk r (o + 1) _ _ h1 (by simp; omega)
    have hg0 := grown_setCell w g o v
    have hz0 : (w.setCell ⟨g, o, none⟩ v).heap.size = w.heap.size := by simp [World.setCell]
    refine ⟨C', hb, ?_, ?_, hz.trans hz0⟩
    · rw [hC]
      have e : (C.setIfInBounds o v).toList = C.toList.take o ++ v :: C.toList.drop (o + 1) := by
        rw [Array.toList_setIfInBounds, List.set_eq_take_append_cons_drop, if_pos (by simp; omega)]
      rw [e]
      have key : ∀ A B : List Value, A.length = o → (A ++ v :: B).take (o + 1) ++ r ++ (A ++ v :: B).drop (o + 1 + r.length) = A ++ (v :: r) ++ B.drop r.length := by
        intro A B hA
        subst hA
        rw [List.take_length_add_append, show A.length + 1 + r.length = A.length + (1 + r.length) from by omega, List.drop_length_add_append]
        simp [Nat.add_comm 1 r.length]
      rw [key _ _ (by simp; omega), List.drop_drop]
      congr 2
      simp; omega
    · exact ⟨hg.os.trans hg0.os, hg.tape.trans hg0.tape, hg.output.trans hg0.output, Nat.le_trans hg0.size hg.size, fun k hk hne => (hg.block k (by omega) hne).trans (hg0.block k hk hne)⟩

/-- What a store of the cells cs into the block g leaves. -/
structure Stored (w : World) (g : Nat) (t : TypeId) (cs : Array Value) (w' : World) : Prop where
  bk : Bk w' g t cs
  grown : w.grownBy w' (some g)
  size : w'.heap.size = w.heap.size
section
variable {w w' : World} {g : Nat} {t : TypeId} {cs : Array Value}
theorem Stored.below (h : Stored w g t cs w') {B : Nat} {w0 : World} (hb : Below B w0 w) (hB : B ≤ g) : Below B w0 w' := hb.grown h.grown (by have := h.bk.lt; have := h.size; omega) (fun b e => by cases e; exact hB)
theorem Stored.far (h : Stored w g t cs w') {k : Nat} {u : TypeId} {ds : Array Value} (hk : Bk w k u ds) (hne : k ≠ g) : Bk w' k u ds := hk.grown h.grown (by simpa using hne)
end
section
variable {P : Program}
theorem wpList_store_bk {ops : Array Oper} {rest : List Oper} {op : Oper} {a : Act} {w : World} {Q : Exit → Act → World → Prop} (hgd : op.guard = none) (ty : TypeId) (x y : Operand) (ho : op.op = .store ty x y)
    (g : Nat) (cells : Array Value) (hx : a.eval x = .pointer (some ⟨g, 0, none⟩)) (hy : a.eval y = .agg cells) (t : TypeId) (cs : Array Value) (hB : Bk w g t cs) (hsz : cs.size = cells.size)
    (hi : (P.info? ty).map (·.size) = some cells.size) (h1 : cells.toList.all (·.oneCell') = true)
    (h : ∀ w', Stored w g t cells w' → wpList P ops Q rest (a.put op.dst undef) w') : wpList P ops Q (op :: rest) a w := by
  obtain ⟨C', hb, hC, hg, hz⟩ := setCells_bk cells.toList 0 w cs hB (by simp [hsz])
  have e : C' = cells := by
    apply Array.toList_inj.1
    rw [hC]; simp [hsz]
  subst e
  refine wpList_store_mid hgd ty x y ho g 0 C' hx hy (fun j hj => ⟨?_, ?_⟩) hi (by rw [← Array.all_toList]; exact h1) (h _ ⟨hb, hg, hz⟩)
  · rw [Nat.zero_add, hB.cell, Array.getElem?_eq_getElem (by omega)]; rfl
  · rw [Nat.zero_add]; exact hB.free j
end
end Go.Proofs.YtciioiklkaannaaGreatDoor
