/- Plain laws of CreedOrders: what comes out of a stack, a queue, a map. -/
import Derived.Test.YtlfbgpncdahglaaDoorLaws
namespace Go.Proofs.YtlfbgpncdahglaaDoor
open Go Go.RowKit
set_option linter.unusedSimpArgs false
set_option linter.unusedVariables false
set_option linter.unusedSectionVars false

/-- Numbers as a map's pairs, with rising keys. -/
def en : Int → List Int → List (Int × Int)
  | _, [] => []
  | i, v :: l => (i, v) :: en (i + 1) l
theorem en_length : ∀ (i : Int) (l : List Int), (en i l).length = l.length
  | _, [] => rfl
  | i, v :: l => by simp [en, en_length (i + 1) l]
theorem en_append : ∀ (i : Int) (l : List Int) (v : Int), en i (l ++ [v]) = en i l ++ [(i + l.length, v)]
  | i, [], v => by simp [en]
  | i, u :: l, v => by
    simp only [List.cons_append, en, en_append (i + 1) l v, List.length_cons]
    rw [show (i + 1 + (l.length : Int)) = i + ((l.length + 1 : Nat) : Int) from by omega]
theorem en_lt : ∀ (i : Int) (l : List Int) (p : Int × Int), p ∈ en i l → p.1 < i + l.length
  | _, [], p, h => by simp [en] at h
  | i, v :: l, p, h => by
    simp only [en, List.mem_cons] at h
    simp only [List.length_cons]
    rcases h with rfl | h
    · simp only []; omega
    · have := en_lt (i + 1) l p h; omega
theorem en_pos (i : Int) (l : List Int) (k : Int) (h : k = i + l.length) : pos k (en i l) = l.length ∧ has k (en i l) = false := by
  have hp : pos k (en i l) = l.length := by
    unfold pos
    rw [← en_length i l]
    rw [List.findIdx_eq_length]
    intro p hp
    have := en_lt i l p hp
    simp; omega
  refine ⟨hp, ?_⟩
  unfold has
  rw [hp, List.getElem?_eq_none (by rw [en_length]; omega)]
theorem en_head (i v : Int) (l : List Int) : pos i (en i (v :: l)) = 0 ∧ has i (en i (v :: l)) = true := by
  have hp : pos i (en i (v :: l)) = 0 := by unfold pos; simp [en, List.findIdx_cons]
  refine ⟨hp, ?_⟩
  unfold has
  rw [hp]
  simp [en]

theorem ord_push (L : List Int) (v : Int) (h0 : 0 ≤ v) (h1 : v ≤ 1073741824) : fitsB 1 ⟨1, 0, v, 0⟩ = true ∧ ansOf ⟨1, L, []⟩ ⟨1, 0, v, 0⟩ = (1, 0) ∧ chgOf ⟨1, L, []⟩ ⟨1, 0, v, 0⟩ 1 = ⟨1, L ++ [v], []⟩ := by
  refine ⟨?_, by simp [ansOf], by simp [chgOf]⟩
  rw [fitsB_true, FitsP]; simp; omega
theorem ord_enq (L : List Int) (v : Int) (h0 : 0 ≤ v) (h1 : v ≤ 1073741824) : fitsB 2 ⟨4, 0, v, 0⟩ = true ∧ ansOf ⟨2, L, []⟩ ⟨4, 0, v, 0⟩ = (1, 0) ∧ chgOf ⟨2, L, []⟩ ⟨4, 0, v, 0⟩ 1 = ⟨2, L ++ [v], []⟩ := by
  refine ⟨?_, by simp [ansOf], by simp [chgOf]⟩
  rw [fitsB_true, FitsP]; simp; omega
theorem ord_ins (L : List Int) (v : Int) (k : Nat) (hk : L.length = k) (hk2 : k < 100) (h0 : 0 ≤ v) (h1 : v ≤ 1073741824) :
    fitsB 3 ⟨6, k, v, 0⟩ = true ∧ ansOf ⟨3, [], en 0 L⟩ ⟨6, k, v, 0⟩ = (1, 0) ∧ chgOf ⟨3, [], en 0 L⟩ ⟨6, k, v, 0⟩ 1 = ⟨3, [], en 0 (L ++ [v])⟩ := by
  obtain ⟨p1, p2⟩ := en_pos 0 L k (by omega)
  refine ⟨?_, by simp [ansOf, p2], ?_⟩
  · rw [fitsB_true, FitsP]; simp; omega
  · simp only [chgOf]
    simp [p1, en_append, List.take_of_length_le, en_length, List.drop_eq_nil_of_le, hk]
theorem ord_pop (L : List Int) (m : Nat) (hm : L.length = m + 1) : fitsB 1 ⟨2, 0, 0, 0⟩ = true ∧ ansOf ⟨1, L, []⟩ ⟨2, 0, 0, 0⟩ = (1, L[m]) ∧ chgOf ⟨1, L, []⟩ ⟨2, 0, 0, 0⟩ 1 = ⟨1, L.take m, []⟩ := by
  refine ⟨by decide, ?_, ?_⟩
  · have : L.getLast? = some L[m] := by rw [List.getLast?_eq_getElem?, show L.length - 1 = m from by omega]; exact List.getElem?_eq_getElem (by omega)
    simp [ansOf, this]
  · simp [chgOf, List.dropLast_eq_take, hm]
theorem ord_deq (v : Int) (L : List Int) : fitsB 2 ⟨5, 0, 0, 0⟩ = true ∧ ansOf ⟨2, v :: L, []⟩ ⟨5, 0, 0, 0⟩ = (1, v) ∧ chgOf ⟨2, v :: L, []⟩ ⟨5, 0, 0, 0⟩ 1 = ⟨2, L, []⟩ := by
  refine ⟨by decide, by simp [ansOf], by simp [chgOf]⟩
theorem ord_del (v : Int) (L : List Int) (j : Nat) (hj : j < 100) : fitsB 3 ⟨7, j, 0, 0⟩ = true ∧ ansOf ⟨3, [], en j (v :: L)⟩ ⟨7, j, 0, 0⟩ = (1, v) ∧ chgOf ⟨3, [], en j (v :: L)⟩ ⟨7, j, 0, 0⟩ 1 = ⟨3, [], en (j + 1 : Nat) L⟩ := by
  obtain ⟨p1, p2⟩ := en_head j v L
  simp only [en] at p1 p2
  refine ⟨?_, ?_, ?_⟩
  · rw [fitsB_true, FitsP]; simp; omega
  · simp [ansOf, p1, p2, en]
  · simp [chgOf, p1, en]
end Go.Proofs.YtlfbgpncdahglaaDoor
