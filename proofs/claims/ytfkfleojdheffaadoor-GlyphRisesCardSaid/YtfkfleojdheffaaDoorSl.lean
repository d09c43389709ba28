/- Slices read as lists. -/
import Derived.Test.YtfkfleojdheffaaDoorFnA
import Derived.Test.YtfkfleojdheffaaDoorSize
import Derived.Laws.AppendOwn
import Derived.Test.YtfkfleojdheffaaDoorMem
namespace Go.Proofs.YtfkfleojdheffaaDoor
open Go Go.RowKit
set_option linter.unusedSimpArgs false
set_option linter.unusedVariables false
set_option linter.unusedSectionVars false

def icells (l : List Int) : List Value := l.map (Value.int .i64)

/-- The slice with the address A reads as n elements of sz cells each, below block B. -/
def Sl (w : World) (B sz : Nat) (A : Option Addr) (n : Nat) (xs : List Value) : Prop :=
  xs.length = n * sz ∧ (0 < n → ∃ b off, A = some ⟨b, off, none⟩ ∧ b < B ∧ ∀ j u, xs[j]? = some u → w.cell? ⟨b, off + j, none⟩ = some u)

section
variable {w w' : World} {B B' sz n : Nat} {A : Option Addr} {xs : List Value}
theorem Sl.none_ : Sl w B sz A 0 [] := ⟨by simp, fun h => absurd h (by omega)⟩
theorem Sl.keep (h : Sl w B sz A n xs) (hk : ∀ b o, b < B → w'.cell? ⟨b, o, none⟩ = w.cell? ⟨b, o, none⟩) : Sl w' B sz A n xs :=
  ⟨h.1, fun hn => by
    obtain ⟨b, off, e, hb, hc⟩ := h.2 hn
    exact ⟨b, off, e, hb, fun j u hu => (hk _ _ hb).trans (hc j u hu)⟩⟩
theorem Sl.more (h : Sl w B sz A n xs) (hB : B ≤ B') : Sl w B' sz A n xs :=
  ⟨h.1, fun hn => by
    obtain ⟨b, off, e, hb, hc⟩ := h.2 hn
    exact ⟨b, off, e, by omega, hc⟩⟩
theorem Sl.below (h : Sl w B sz A n xs) (hb : Below B w w') : Sl w' B sz A n xs := h.keep fun b o hp => hb.cell (p := ⟨b, o, none⟩) hp
theorem Sl.below' {C : Nat} (h : Sl w B sz A n xs) (hb : Below C w w') (hBC : B ≤ C) : Sl w' B sz A n xs := h.below (hb.mono hBC)
theorem Sl.of_own {base : Nat} {e : TypeId} {c : Nat} (h : w.ownsRow base e sz (.slice A n c) n xs) : Sl w w.heap.size sz A n xs := by
  refine ⟨h.1, fun hn => ?_⟩
  obtain ⟨g, cap, hv, _, hlt⟩ := h.form hn
  have hA : A = some ⟨g, 0, none⟩ := by injection hv
  subst hA
  have hc := h.cells (g := g) rfl
  refine ⟨g, 0, rfl, hlt, fun j u hu => ?_⟩
  have := hc j u hu
  simp only [Addr.add] at this
  split at this
  · rename_i h0; subst h0; simpa using this
  · simpa using this
end

theorem icells_length (l : List Int) : (icells l).length = l.length := by simp [icells]
theorem icells_get (l : List Int) (i : Nat) (h : i < l.length) : (icells l)[i]? = some (.int .i64 l[i]) := by simp [icells, h]
theorem Sl.pick {w : World} {B : Nat} {A : Option Addr} {l : List Int} (h : Sl w B 1 A l.length (icells l)) {i : Nat} (hi : i < l.length) :
    ∃ b off, A = some ⟨b, off, none⟩ ∧ b < B ∧ w.cell? ⟨b, off + i, none⟩ = some (.int .i64 l[i]) := by
  obtain ⟨b, off, e, hb, hc⟩ := h.2 (by omega)
  exact ⟨b, off, e, hb, hc i _ (icells_get l i hi)⟩


theorem Sl.alloc {w : World} {sz n : Nat} {A : Option Addr} {xs : List Value} (h : Sl w w.heap.size sz A n xs) (o : Obj) : Sl (w.alloc o) (w.alloc o).heap.size sz A n xs :=
  (h.below ((Below.refl _ _).alloc (Nat.le_refl _) _)).more (by simp)
theorem Sl.up {w w' : World} {sz n : Nat} {A : Option Addr} {xs : List Value} (h : Sl w w.heap.size sz A n xs) (hb : Below w.heap.size w w') : Sl w' w'.heap.size sz A n xs := (h.below hb).more hb.size
end Go.Proofs.YtfkfleojdheffaaDoor
