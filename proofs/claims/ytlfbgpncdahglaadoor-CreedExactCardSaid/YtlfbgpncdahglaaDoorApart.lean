/- Two structures that lie apart; operations as a slice. -/
import Derived.Test.YtlfbgpncdahglaaDoorPlain
namespace Go.Proofs.YtlfbgpncdahglaaDoor
open Go Go.RowKit
set_option linter.unusedSimpArgs false
set_option linter.unusedVariables false
set_option linter.unusedSectionVars false

/-- Block b is one of the structure's own. -/
def InB (b g : Nat) (v p : Value) : Prop := b = g ∨ v.ownBlock = some b ∨ p.ownBlock = some b
def Apart (g : Nat) (v p : Value) (g2 : Nat) (v2 p2 : Value) : Prop := ∀ b, InB b g v p → ¬ InB b g2 v2 p2
theorem Apart.symm {g : Nat} {v p : Value} {g2 : Nat} {v2 p2 : Value} (h : Apart g v p g2 v2 p2) : Apart g2 v2 p2 g v p := fun b h2 h1 => h b h1 h2

theorem CR.inLt {w : World} {g : Nat} {s : PC} {A : Option Addr} {c : Nat} {A' : Option Addr} {c' : Nat} (h : CR w g s A c A' c') {b : Nat} (hb : InB b g (.slice A s.vals.length c) (.slice A' s.pairs.length c')) : b < w.heap.size := by
  obtain ⟨l1, l2, l3⟩ := h.lt
  rcases hb with rfl | hb | hb
  · exact l1
  · exact l2 b hb
  · exact l3 b hb
theorem NewC.inGe {w w' : World} {g : Nat} {s : PC} {A : Option Addr} {c : Nat} {A' : Option Addr} {c' : Nat} (h : NewC w s g A c A' c' w') {b : Nat} (hb : InB b g (.slice A s.vals.length c) (.slice A' s.pairs.length c')) : w.heap.size ≤ b := by
  obtain ⟨_, _, h3, h4, h5⟩ := h
  rcases hb with rfl | hb | hb
  · exact h3
  · exact h4 b hb
  · exact h5 b hb
theorem NewC.apart {w w' : World} {g : Nat} {s : PC} {A : Option Addr} {c : Nat} {A' : Option Addr} {c' : Nat} {g2 : Nat} {s2 : PC} {A2 : Option Addr} {c2 : Nat} {A2' : Option Addr} {c2' : Nat}
    (h : NewC w s g A c A' c' w') (h2 : CR w g2 s2 A2 c2 A2' c2') : Apart g2 (.slice A2 s2.vals.length c2) (.slice A2' s2.pairs.length c2') g (.slice A s.vals.length c) (.slice A' s.pairs.length c') :=
  fun b h1 h3 => by have := h2.inLt h1; have := h.inGe h3; omega

/-- What is done to the one leaves the other as it was, and they stay apart. -/
theorem OnlyC.keep {w w' : World} {g : Nat} {v p v' p' : Value} (h : OnlyC w w' g v p v' p') {g2 : Nat} {s2 : PC} {A2 : Option Addr} {c2 : Nat} {A2' : Option Addr} {c2' : Nat} (h2 : CR w g2 s2 A2 c2 A2' c2')
    (ha : Apart g v p g2 (.slice A2 s2.vals.length c2) (.slice A2' s2.pairs.length c2')) : CR w' g2 s2 A2 c2 A2' c2' ∧ Apart g v' p' g2 (.slice A2 s2.vals.length c2) (.slice A2' s2.pairs.length c2') := by
  have hk : ∀ b, InB b g2 (.slice A2 s2.vals.length c2) (.slice A2' s2.pairs.length c2') → w'.heap[b]? = w.heap[b]? := fun b hb => by
    have hn := fun h1 => ha b h1 hb
    exact h.block b (h2.inLt hb) (fun e => hn (Or.inl e)) (fun e => hn (Or.inr (Or.inl e))) (fun e => hn (Or.inr (Or.inr e)))
  refine ⟨h2.same (hk g2 (Or.inl rfl)) (fun b e => hk b (Or.inr (Or.inl e))) (fun b e => hk b (Or.inr (Or.inr e))), fun b h1 h3 => ?_⟩
  have hlt := h2.inLt h3
  rcases h1 with rfl | h1 | h1
  · exact ha b (Or.inl rfl) h3
  · rcases h.fv b h1 with h4 | h4
    · exact ha b (Or.inr (Or.inl h4)) h3
    · omega
  · rcases h.fp b h1 with h4 | h4
    · exact ha b (Or.inr (Or.inr h4)) h3
    · omega

section
variable {w0 w w' : World} {T : TypeId} {u : Value} {g : Nat} {s : PC} {A : Option Addr} {c : Nat} {A' : Option Addr} {c' : Nat} {g2 : Nat} {s2 : PC} {A2 : Option Addr} {c2 : Nat} {A2' : Option Addr} {c2' : Nat} {v' p' : Value}
theorem LW.keep (h : LW w0 w T u g s A c A' c') (h2 : LW w0 w T u g2 s2 A2 c2 A2' c2') (ha : Apart g (.slice A s.vals.length c) (.slice A' s.pairs.length c') g2 (.slice A2 s2.vals.length c2) (.slice A2' s2.pairs.length c2'))
    (o : OnlyC w w' g (.slice A s.vals.length c) (.slice A' s.pairs.length c') v' p') : LW w0 w' T u g2 s2 A2 c2 A2' c2' ∧ Apart g v' p' g2 (.slice A2 s2.vals.length c2) (.slice A2' s2.pairs.length c2') := by
  obtain ⟨k1, k2⟩ := o.keep h2.r ha
  have hs := h.below.size
  have hb := o.below hs h.hg h.hv h.hp
  exact ⟨⟨h.below.trans hb, (hb.cell (p := ⟨0, 0, none⟩) h.lt).trans h.err, k1, h2.ok, h2.lt, h2.hg, h2.hv, h2.hp⟩, k2⟩
end

def ocells (l : List POp) : List Value := l.flatMap POp.cells
theorem ocells_length (l : List POp) : (ocells l).length = l.length * 4 := by
  induction l with
  | nil => rfl
  | cons a l ih =>
    have : (POp.cells a).length = 4 := rfl
    simp only [ocells, List.flatMap_cons, List.length_append, List.length_cons] at *
    omega
theorem ocells_get (l : List POp) : ∀ (i : Nat) (_ : i < l.length) (j : Nat), j < 4 → (ocells l)[i * 4 + j]? = (l[i]).cells[j]? := by
  induction l with
  | nil => intro i h; simp at h
  | cons a l ih =>
    intro i h j hj
    have ha : (POp.cells a).length = 4 := rfl
    cases i with
    | zero =>
      simp only [ocells, List.flatMap_cons, Nat.zero_mul, Nat.zero_add, List.getElem_cons_zero]
      rw [List.getElem?_append_left (by omega)]
    | succ i =>
      simp only [ocells, List.flatMap_cons, List.getElem_cons_succ]
      rw [List.getElem?_append_right (by omega), ha, show (i + 1) * 4 + j - 4 = i * 4 + j from by omega]
      exact ih i (by simpa using h) j hj
theorem Sl.op {w : World} {B : Nat} {A : Option Addr} {l : List POp} (h : Sl w B 4 A l.length (ocells l)) {i : Nat} (hi : i < l.length) :
    ∃ b off, A = some ⟨b, off, none⟩ ∧ b < B ∧ w.cell? ⟨b, off + i * 4, none⟩ = some (.int .i64 l[i].kind) ∧ w.cell? ⟨b, off + i * 4 + 1, none⟩ = some (.int .i64 l[i].key) ∧
      w.cell? ⟨b, off + i * 4 + 2, none⟩ = some (.int .i64 l[i].val) ∧ w.cell? ⟨b, off + i * 4 + 3, none⟩ = some (.int .i64 l[i].tall) := by
  obtain ⟨b, off, e, hb, hc⟩ := h.2 (by omega)
  have g := ocells_get l i hi
  exact ⟨b, off, e, hb, hc _ _ (g 0 (by omega)), hc _ _ (g 1 (by omega)), hc _ _ (g 2 (by omega)), hc _ _ (g 3 (by omega))⟩
theorem Sl.opAt {w : World} {B b off : Nat} {l : List POp} (h : Sl w B 4 (some ⟨b, off, none⟩) l.length (ocells l)) {i : Nat} (hi : i < l.length) :
    w.cell? ⟨b, off + i * 4, none⟩ = some (.int .i64 l[i].kind) ∧ w.cell? ⟨b, off + i * 4 + 1, none⟩ = some (.int .i64 l[i].key) ∧ w.cell? ⟨b, off + i * 4 + 2, none⟩ = some (.int .i64 l[i].val) ∧ w.cell? ⟨b, off + i * 4 + 3, none⟩ = some (.int .i64 l[i].tall) := by
  obtain ⟨b', o', e, _, hc⟩ := h.op hi
  cases e
  exact hc
end Go.Proofs.YtlfbgpncdahglaaDoor
