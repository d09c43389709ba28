/- Reading a script, by the reference: what lies in memory. -/
import Derived.Test.YthecbeejlpgdaaaDoorFnRefA
namespace Go.Proofs.YthecbeejlpgdaaaDoor
open Go Go.RowKit
set_option linter.unusedSimpArgs false
set_option linter.unusedVariables false
set_option linter.unusedSectionVars false

/-- While the reference reads a script: k operations, j picks. -/
structure R1 (w wr : World) (s : ByteArray) (k j : Nat) (v v' : Value) : Prop where
  o : Bk wr w.heap.size 29 #[.int .i64 0, .int .i64 0, .int .i64 0, .int .i64 0, .int .i64 0, .slice none 0 0, .slice none 0 0]
  x : Bk wr (w.heap.size + 1) 29 (xcell s v v')
  own : wr.ownsRow (w.heap.size + 2) 41 5 v k (tcells (decOps s k))
  own' : wr.ownsRow (w.heap.size + 2) 3 1 v' j (icells (decPicks s j))
  below : Below w.heap.size w wr

section
variable {w wr w' : World} {s : ByteArray} {k j : Nat} {v v' : Value}
theorem R1.lt (R : R1 w wr s k j v v') : w.heap.size + 2 ≤ wr.heap.size := R.x.lt
theorem R1.drew (R : R1 w wr s k j v v') : R1 w wr.drew s k j v v' := ⟨R.o, R.x, R.own, R.own', R.below.drew⟩
theorem R1.more (R : R1 w wr s k j v v') (h : Below wr.heap.size wr w') : R1 w w' s k j v v' :=
  ⟨R.o.belowAll h, R.x.belowAll h, own_below R.own h, own_below R.own' h, R.below.trans (h.mono R.below.size)⟩
theorem R1.alloc (R : R1 w wr s k j v v') (o : Obj) : R1 w (wr.alloc o) s k j v v' := R.more ((Below.refl _ _).alloc (Nat.le_refl _) _)
theorem R1.st (R : R1 w wr s k j v v') : wr.cell? ⟨w.heap.size + 1, 0, none⟩ = some (.int .i64 (dSt s)) := by have := R.x.cell 0; simpa [xcell] using this
theorem R1.th (R : R1 w wr s k j v v') : wr.cell? ⟨w.heap.size + 1, 2, none⟩ = some (.int .i64 (dTh s)) := by have := R.x.cell 2; simpa [xcell] using this
theorem R1.ops (R : R1 w wr s k j v v') : wr.cell? ⟨w.heap.size + 1, 5, none⟩ = some v := by have := R.x.cell 5; simpa [xcell] using this
theorem R1.picks (R : R1 w wr s k j v v') : wr.cell? ⟨w.heap.size + 1, 6, none⟩ = some v' := by have := R.x.cell 6; simpa [xcell] using this
end

theorem R1.after {w wr w' : World} {s : ByteArray} {k j : Nat} {v v' u : Value} (R : R1 w wr s k j v v') (hu : ∀ g, u.ownBlock = some g → w.heap.size + 2 ≤ g) (hg : wr.grownBy w' u.ownBlock) :
    Bk w' w.heap.size 29 #[.int .i64 0, .int .i64 0, .int .i64 0, .int .i64 0, .int .i64 0, .slice none 0 0, .slice none 0 0] ∧ Bk w' (w.heap.size + 1) 29 (xcell s v v') ∧ Below w.heap.size w w' :=
  ⟨R.o.grown hg (fun e => by have := hu _ e.symm; omega), R.x.grown hg (fun e => by have := hu _ e.symm; omega),
    R.below.grown hg R.below.size (fun g e => by have := hu g e; omega)⟩

theorem R1.afterCells {w wr w' : World} {s : ByteArray} {k j : Nat} {v v' u : Value} (R : R1 w wr s k j v v') (hu : ∀ g, u.ownBlock = some g → w.heap.size + 2 ≤ g) (hg : wr.grownBy w' u.ownBlock) :
    w'.cell? ⟨w.heap.size + 1, 5, none⟩ = some v ∧ w'.cell? ⟨w.heap.size + 1, 6, none⟩ = some v' ∧ w'.cell? ⟨w.heap.size + 1, 0, none⟩ = some (.int .i64 (dSt s)) ∧ w'.cell? ⟨w.heap.size + 1, 2, none⟩ = some (.int .i64 (dTh s)) ∧
    w'.frozen? ⟨w.heap.size + 1, 5, none⟩ = false ∧ w'.frozen? ⟨w.heap.size + 1, 6, none⟩ = false := by
  obtain ⟨_, X, _⟩ := R.after hu hg
  exact ⟨by have := X.cell 5; simpa [xcell] using this, by have := X.cell 6; simpa [xcell] using this, by have := X.cell 0; simpa [xcell] using this, by have := X.cell 2; simpa [xcell] using this, X.free 5, X.free 6⟩

theorem own_ge {w : World} {b n sz : Nat} {e : TypeId} {v : Value} {xs : List Value} (h : w.ownsRow b e sz v n xs) : ∀ g, v.ownBlock = some g → b ≤ g := fun g hg => (h.lt g hg).1

theorem R1.pushOp {w wr w' : World} {s : ByteArray} {k : Nat} {v v' u : Value} (R : R1 w wr s k 0 v v')
    (hown : w'.ownsRow (w.heap.size + 2) 41 5 u (k + 1) (tcells (decOps s k) ++ (taskOf s (6 + 4 * k)).cells)) (hg : wr.grownBy w' v.ownBlock) :
    R1 w (w'.setCell ⟨w.heap.size + 1, 5, none⟩ u) s (k + 1) 0 u v' := by
  obtain ⟨O, X, B⟩ := R.after (own_ge R.own) hg
  have X2 := X.set_ 5 u
  have e : (xcell s v v').setIfInBounds 5 u = xcell s u v' := rfl
  rw [e] at X2
  refine ⟨O.far (by simp) u, X2, ?_, ?_, B.setCell (by simp) u⟩
  · have h2 := own_setCell hown (a := ⟨w.heap.size + 1, 5, none⟩) (by simp) u
    rw [decOps_succ, tcells_append, ← taskOf_at]
    simpa [tcells] using h2
  · exact own_setCell (R.own'.kept hg (own_apart R.own' R.own (by decide))) (by simp) u
theorem R1.pushPick {w wr w' : World} {s : ByteArray} {j : Nat} {v v' u : Value} (R : R1 w wr s (dN s) j v v')
    (hown : w'.ownsRow (w.heap.size + 2) 3 1 u (j + 1) (icells (decPicks s j) ++ [.int .i64 (pickAt s (dTh s) (dN s) j)])) (hg : wr.grownBy w' v'.ownBlock) :
    R1 w (w'.setCell ⟨w.heap.size + 1, 6, none⟩ u) s (dN s) (j + 1) v u := by
  obtain ⟨O, X, B⟩ := R.after (own_ge R.own') hg
  have X2 := X.set_ 6 u
  have e : (xcell s v v').setIfInBounds 6 u = xcell s v u := rfl
  rw [e] at X2
  refine ⟨O.far (by simp) u, X2, ?_, ?_, B.setCell (by simp) u⟩
  · exact own_setCell (R.own.kept hg (own_apart R.own R.own' (by decide))) (by simp) u
  · have h2 := own_setCell hown (a := ⟨w.heap.size + 1, 6, none⟩) (by simp) u
    rw [decPicks_succ]
    simpa [icells] using h2

theorem R1.out {w wr : World} {s : ByteArray} {A A' : Option Addr} {c c' : Nat} (R : R1 w wr s (dN s) (dP s) (.slice A (dN s) c) (.slice A' (dP s) c')) (u0 u1 u2 u3 u4 u5 u6 : Value) :
    DecPost s w (.returned (.agg #[.int .i64 (dSt s), .int .i64 (dEn s), .int .i64 (dTh s), .int .i64 (dSl s), .int .i64 (dNo s), .slice A (dN s) c, .slice A' (dP s) c']))
      (((((((wr.setCell ⟨w.heap.size, 0, none⟩ u0).setCell ⟨w.heap.size, 1, none⟩ u1).setCell ⟨w.heap.size, 2, none⟩ u2).setCell ⟨w.heap.size, 3, none⟩ u3).setCell ⟨w.heap.size, 4, none⟩ u4).setCell ⟨w.heap.size, 5, none⟩ u5).setCell ⟨w.heap.size, 6, none⟩ u6) := by
  have o1 := R.own
  have o2 := R.own'
  have hb := R.below
  refine ⟨A, c, A', c', by rw [dec_v], ?_, ?_, ?_⟩
  · have q1 : ∀ i, (⟨w.heap.size, i, none⟩ : Addr).block < w.heap.size + 2 := fun i => by simp
    have := own_setCell (own_setCell (own_setCell (own_setCell (own_setCell (own_setCell (own_setCell o1 (q1 0) u0) (q1 1) u1) (q1 2) u2) (q1 3) u3) (q1 4) u4) (q1 5) u5) (q1 6) u6
    have h := Sl.of_own this
    simpa [dec, decOps_length] using h
  · have q1 : ∀ i, (⟨w.heap.size, i, none⟩ : Addr).block < w.heap.size + 2 := fun i => by simp
    have := own_setCell (own_setCell (own_setCell (own_setCell (own_setCell (own_setCell (own_setCell o2 (q1 0) u0) (q1 1) u1) (q1 2) u2) (q1 3) u3) (q1 4) u4) (q1 5) u5) (q1 6) u6
    have h := Sl.of_own this
    simpa [dec, decPicks_length] using h
  · exact ((((((hb.setCell (by simp) u0).setCell (by simp) u1).setCell (by simp) u2).setCell (by simp) u3).setCell (by simp) u4).setCell (by simp) u5).setCell (by simp) u6

end Go.Proofs.YthecbeejlpgdaaaDoor
