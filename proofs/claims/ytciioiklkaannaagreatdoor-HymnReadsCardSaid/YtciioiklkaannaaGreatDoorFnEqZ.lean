/- Scripts as plain data, and how they lie in memory. Whether two lists are the same: plain laws. -/
import Derived.Test.YtciioiklkaannaaGreatDoorFnSteeplestart
import Derived.Test.YtciioiklkaannaaGreatDoorFnA
import Derived.Deep.DeepMust
namespace Go.Proofs.YtciioiklkaannaaGreatDoor
open Go Go.RowKit
set_option linter.unusedSimpArgs false
set_option linter.unusedVariables false
set_option linter.unusedSectionVars false

structure PTask where
  thread : Int
  op : POp
  deriving DecidableEq

structure PScr where
  st : Int
  en : Int
  th : Int
  sl : Int
  no : Int
  ops : List PTask
  picks : List Int
  deriving DecidableEq

def PTask.cells (t : PTask) : List Value := [.int .i64 t.thread, .int .i64 t.op.kind, .int .i64 t.op.key, .int .i64 t.op.val, .int .i64 t.op.tall]
def tcells (l : List PTask) : List Value := l.flatMap PTask.cells
def icells (l : List Int) : List Value := l.map (Value.int .i64)

/-- The slice with the address A reads as n elements of sz cells each, below block B. -/
def Sl (w : World) (B sz : Nat) (A : Option Addr) (n : Nat) (xs : List Value) : Prop :=
  xs.length = n * sz ∧ (0 < n → ∃ b off, A = some ⟨b, off, none⟩ ∧ b < B ∧ ∀ j u, xs[j]? = some u → w.cell? ⟨b, off + j, none⟩ = some u)

section
variable {w w' : World} {B B' sz n : Nat} {A : Option Addr} {xs : List Value}
theorem Sl.none_ : Sl w B sz A 0 [] := ⟨by simp, fun h => absurd h (by omega)⟩
theorem Sl.keep (h : Sl w B sz A n xs) (hk : ∀ b o, b < B → w'.cell? ⟨b, o, none⟩ = w.cell? ⟨b, o, none⟩) : Sl w' B sz A n xs :=
  ⟨h.1, fun hn => by
    obtain ⟨b, off, e, hb, hc⟩ := h.2 hn
    exact ⟨b, off, e, hb, fun j u hu => (hk _ _ hb).trans (hc j u hu)⟩⟩
theorem Sl.more (h : Sl w B sz A n xs) (hB : B ≤ B') : Sl w B' sz A n xs :=
  ⟨h.1, fun hn => by
    obtain ⟨b, off, e, hb, hc⟩ := h.2 hn
    exact ⟨b, off, e, by omega, hc⟩⟩
theorem Sl.below (h : Sl w B sz A n xs) (hb : Below B w w') : Sl w' B sz A n xs := h.keep fun b o hp => hb.cell (p := ⟨b, o, none⟩) hp
theorem Sl.below' {C : Nat} (h : Sl w B sz A n xs) (hb : Below C w w') (hBC : B ≤ C) : Sl w' B sz A n xs := h.below (hb.mono hBC)
theorem Sl.of_own {base : Nat} {e : TypeId} {c : Nat} (h : w.ownsRow base e sz (.slice A n c) n xs) : Sl w w.heap.size sz A n xs := by
  refine ⟨h.1, fun hn => ?_⟩
  obtain ⟨g, cap, hv, _, hlt⟩ := h.form hn
  have hA : A = some ⟨g, 0, none⟩ := by injection hv
  subst hA
  have hc := h.cells (g := g) rfl
  refine ⟨g, 0, rfl, hlt, fun j u hu => ?_⟩
  have := hc j u hu
  simp only [Addr.add] at this
  split at this
  · rename_i h0; subst h0; simpa using this
  · simpa using this
end

theorem icells_length (l : List Int) : (icells l).length = l.length := by simp [icells]
theorem icells_get (l : List Int) (i : Nat) (h : i < l.length) : (icells l)[i]? = some (.int .i64 l[i]) := by simp [icells, h]
theorem tcells_length (l : List PTask) : (tcells l).length = l.length * 5 := by
  induction l with
  | nil => rfl
  | cons a l ih =>
    have : (PTask.cells a).length = 5 := rfl
    simp only [tcells, List.flatMap_cons, List.length_append, List.length_cons] at *
    omega
theorem tcells_get (l : List PTask) : ∀ (i : Nat) (_ : i < l.length) (j : Nat), j < 5 → (tcells l)[i * 5 + j]? = (l[i]).cells[j]? := by
  induction l with
  | nil => intro i h; simp at h
  | cons a l ih =>
    intro i h j hj
    have ha : (PTask.cells a).length = 5 := rfl
    cases i with
    | zero =>
      simp only [tcells, List.flatMap_cons, Nat.zero_mul, Nat.zero_add, List.getElem_cons_zero]
      rw [List.getElem?_append_left (by omega)]
    | succ i =>
      simp only [tcells, List.flatMap_cons, List.getElem_cons_succ]
      rw [List.getElem?_append_right (by omega), ha, show (i + 1) * 5 + j - 5 = i * 5 + j from by omega]
      exact ih i (by simpa using h) j hj

theorem Sl.pick {w : World} {B : Nat} {A : Option Addr} {l : List Int} (h : Sl w B 1 A l.length (icells l)) {i : Nat} (hi : i < l.length) :
    ∃ b off, A = some ⟨b, off, none⟩ ∧ b < B ∧ w.cell? ⟨b, off + i, none⟩ = some (.int .i64 l[i]) := by
  obtain ⟨b, off, e, hb, hc⟩ := h.2 (by omega)
  exact ⟨b, off, e, hb, hc i _ (icells_get l i hi)⟩

theorem Sl.task {w : World} {B : Nat} {A : Option Addr} {l : List PTask} (h : Sl w B 5 A l.length (tcells l)) {i : Nat} (hi : i < l.length) :
    ∃ b off, A = some ⟨b, off, none⟩ ∧ b < B ∧ w.cell? ⟨b, off + i * 5, none⟩ = some (.int .i64 l[i].thread) ∧ w.cell? ⟨b, off + i * 5 + 1, none⟩ = some (.int .i64 l[i].op.kind) ∧
      w.cell? ⟨b, off + i * 5 + 2, none⟩ = some (.int .i64 l[i].op.key) ∧ w.cell? ⟨b, off + i * 5 + 3, none⟩ = some (.int .i64 l[i].op.val) ∧ w.cell? ⟨b, off + i * 5 + 4, none⟩ = some (.int .i64 l[i].op.tall) := by
  obtain ⟨b, off, e, hb, hc⟩ := h.2 (by omega)
  have g := tcells_get l i hi
  exact ⟨b, off, e, hb, hc _ _ (g 0 (by omega)), hc _ _ (g 1 (by omega)), hc _ _ (g 2 (by omega)), hc _ _ (g 3 (by omega)), hc _ _ (g 4 (by omega))⟩

/-- A script's value: five numbers and two slices. -/
def PScr.v (x : PScr) (A : Option Addr) (c : Nat) (A' : Option Addr) (c' : Nat) : Value :=
  .agg #[.int .i64 x.st, .int .i64 x.en, .int .i64 x.th, .int .i64 x.sl, .int .i64 x.no, .slice A x.ops.length c, .slice A' x.picks.length c']

def taskOk (st th : Int) (t : PTask) : Bool := decide (0 ≤ t.thread) && decide (t.thread < th) && fitsB st t.op
def pickOk (th : Int) (p : Int) : Bool := decide (0 ≤ p) && decide (p < th)
def goodB (x : PScr) : Bool :=
  goodCfg x.st x.en x.th x.sl x.no && decide (x.ops.length ≤ 64) && decide (x.picks.length ≤ 4096) && x.ops.all (taskOk x.st x.th) && x.picks.all (pickOk x.th)

end Go.Proofs.YtciioiklkaannaaGreatDoor
namespace Go.Proofs.YtciioiklkaannaaGreatDoor
open Go Go.RowKit

theorem take_step {α : Type} {l m : List α} {k : Nat} (h1 : k < l.length) (h2 : k < m.length) (h : l.take k = m.take k) (e : l[k] = m[k]) : Hid (l.take (k + 1) = m.take (k + 1)) := by
  show l.take (k + 1) = m.take (k + 1)
  rw [List.take_succ_eq_append_getElem h1, List.take_succ_eq_append_getElem h2, h, e]
theorem ne_of_get {α : Type} {l m : List α} {k : Nat} (h1 : k < l.length) (h2 : k < m.length) (e : l[k] ≠ m[k]) : l ≠ m := by
  rintro rfl; exact e rfl

/-- A bool comes back, and nothing but draws has happened. -/
def RetQ (b : Bool) (w : World) (e : Ending) (w' : World) : Prop := e = .returned (.bool b) ∧ ∃ k, w' = w.drewN k
theorem retQ_B {b : Bool} {w w' : World} {e : Ending} (h : RetQ b w e w') : RetB b w e w' := by
  obtain ⟨h, k, rfl⟩ := h
  exact ⟨h, below_drewN (Below.refl _ _) k⟩
theorem Sl.drewN {w : World} {B sz n : Nat} {A : Option Addr} {xs : List Value} (h : Sl w B sz A n xs) (k : Nat) : Sl (w.drewN k) B sz A n xs := h
theorem drewN_zero (w : World) : w.drewN 0 = w := rfl

theorem cfg_ne {a b c d e a' b' c' d' e' : Int} (h : ¬ (a = a' ∧ b = b' ∧ c = c' ∧ d = d' ∧ e = e')) : ¬ a = a' ∨ (a = a' ∧ ¬ b = b') ∨ (a = a' ∧ b = b' ∧ ¬ c = c') ∨ (a = a' ∧ b = b' ∧ c = c' ∧ ¬ d = d') ∨ (a = a' ∧ b = b' ∧ c = c' ∧ d = d' ∧ ¬ e = e') := by
  by_cases h1 : a = a' <;> by_cases h2 : b = b' <;> by_cases h3 : c = c' <;> by_cases h4 : d = d' <;> simp_all
end Go.Proofs.YtciioiklkaannaaGreatDoor
