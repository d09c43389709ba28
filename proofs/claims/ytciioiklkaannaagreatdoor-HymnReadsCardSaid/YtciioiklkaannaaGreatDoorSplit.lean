/- Texts cut at a byte: plain laws. -/
import Derived.Test.YtciioiklkaannaaGreatDoorNum
import Derived.Lib.Split
import Derived.Lib.CountLaws
import Derived.Lib.SlicesS
namespace Go.Proofs.YtciioiklkaannaaGreatDoor
open Go Go.RowKit
set_option linter.unusedSimpArgs false
set_option linter.unusedVariables false
set_option linter.unusedSectionVars false

def sp (c : UInt8) : List UInt8 → List (List UInt8)
  | [] => [[]]
  | a :: l => if a = c then [] :: sp c l else match sp c l with
    | h :: t => (a :: h) :: t
    | [] => [[a]]
def jn (c : UInt8) : List (List UInt8) → List UInt8
  | [] => []
  | x :: xs => x ++ xs.flatMap (c :: ·)

theorem sp_free (c : UInt8) : ∀ l : List UInt8, (∀ b ∈ l, b ≠ c) → sp c l = [l]
  | [], _ => rfl
  | a :: l, h => by
    rw [sp, if_neg (h a (by simp)), sp_free c l (fun b hb => h b (by simp [hb]))]
theorem sp_hit (c : UInt8) : ∀ (a r : List UInt8), (∀ b ∈ a, b ≠ c) → sp c (a ++ c :: r) = a :: sp c r
  | [], r, _ => by simp [sp]
  | x :: a, r, h => by
    rw [List.cons_append, sp, if_neg (h x (by simp)), sp_hit c a r (fun b hb => h b (by simp [hb]))]
theorem sp_cases (c : UInt8) : ∀ l : List UInt8, (∀ b ∈ l, b ≠ c) ∨ ∃ a r, l = a ++ c :: r ∧ ∀ b ∈ a, b ≠ c
  | [] => Or.inl (by simp)
  | x :: l => by
    by_cases hx : x = c
    · exact Or.inr ⟨[], l, by simp [hx], by simp⟩
    · rcases sp_cases c l with h | ⟨a, r, rfl, h⟩
      · exact Or.inl (fun b hb => by
          rcases List.mem_cons.1 hb with rfl | hb
          · exact hx
          · exact h b hb)
      · exact Or.inr ⟨x :: a, r, by simp, fun b hb => by
          rcases List.mem_cons.1 hb with rfl | hb
          · exact hx
          · exact h b hb⟩
theorem sp_join (c : UInt8) : ∀ (n : Nat) (l : List UInt8), l.length ≤ n → jn c (sp c l) = l ∧ (∀ x ∈ sp c l, ∀ b ∈ x, b ≠ c) ∧ sp c l ≠ []
  | 0, l, h => by
    obtain rfl : l = [] := List.eq_nil_of_length_eq_zero (by omega)
    exact ⟨rfl, by simp [sp], by simp [sp]⟩
  | n + 1, l, h => by
    rcases sp_cases c l with h1 | ⟨a, r, rfl, h1⟩
    · rw [sp_free c l h1]
      exact ⟨by simp [jn], fun x hx => by simp at hx; subst hx; exact h1, by simp⟩
    · obtain ⟨e1, e2, e3⟩ := sp_join c n r (by simp at h; omega)
      rw [sp_hit c a r h1]
      refine ⟨?_, fun x hx => ?_, by simp⟩
      · cases hq : sp c r with
        | nil => exact absurd hq e3
        | cons y ys =>
          rw [hq] at e1
          simp only [jn, List.flatMap_cons] at e1 ⊢
          rw [← e1]; simp
      · rcases List.mem_cons.1 hx with rfl | hx
        · exact h1
        · exact e2 x hx
theorem jn_sp (c : UInt8) (l : List UInt8) : jn c (sp c l) = l := (sp_join c _ l (Nat.le_refl _)).1
theorem sp_no (c : UInt8) (l : List UInt8) : ∀ x ∈ sp c l, ∀ b ∈ x, b ≠ c := (sp_join c _ l (Nat.le_refl _)).2.1
theorem sp_ne (c : UInt8) (l : List UInt8) : sp c l ≠ [] := (sp_join c _ l (Nat.le_refl _)).2.2
theorem sp_jn (c : UInt8) : ∀ W : List (List UInt8), W ≠ [] → (∀ x ∈ W, ∀ b ∈ x, b ≠ c) → sp c (jn c W) = W
  | [], h, _ => absurd rfl h
  | [x], _, h => by simp only [jn, List.flatMap_nil, List.append_nil]; exact sp_free c x (h x (by simp))
  | x :: y :: W, _, h => by
    have e : jn c (x :: y :: W) = x ++ c :: jn c (y :: W) := by simp [jn]
    rw [e, sp_hit c x _ (h x (by simp)), sp_jn c (y :: W) (by simp) (fun z hz => h z (by simp at hz ⊢; exact Or.inr hz))]

theorem index_hit : ∀ (c : UInt8) (a r : List UInt8), (∀ b ∈ a, b ≠ c) → Lib.index (a ++ c :: r) [c] = a.length
  | c, [], r, _ => by simp [Lib.index, List.isPrefixOf]
  | c, x :: a, r, h => by
    have hc : x ≠ c := h x (by simp)
    have ih := index_hit c a r (fun d hd => h d (by simp [hd]))
    simp only [List.cons_append, Lib.index]
    rw [if_neg (by simp [List.isPrefixOf]; exact fun e => hc e.symm), ih, if_neg (by simp)]
    simp
theorem index_miss : ∀ (c : UInt8) (a : List UInt8), (∀ b ∈ a, b ≠ c) → Lib.index a [c] = -1
  | c, [], _ => by simp [Lib.index]
  | c, x :: a, h => by
    have hc : x ≠ c := h x (by simp)
    have ih := index_miss c a (fun d hd => h d (by simp [hd]))
    simp only [Lib.index]
    rw [if_neg (by simp [List.isPrefixOf]; exact fun e => hc e.symm), ih]
    simp
theorem split_hit (c : UInt8) (k : Nat) (a r : List UInt8) (h : ∀ b ∈ a, b ≠ c) : Lib.splitK [c] 0 (k + 1) (a ++ c :: r) = a :: Lib.splitK [c] 0 k r := by
  rw [Lib.splitK, index_hit c a r h, if_neg (by simp)]
  simp
theorem split_miss (c : UInt8) (k : Nat) (a : List UInt8) (h : ∀ b ∈ a, b ≠ c) : Lib.splitK [c] 0 k a = [a] := by
  cases k with
  | zero => rfl
  | succ k => rw [Lib.splitK, index_miss c a h]; simp
theorem count_sp (c : UInt8) : ∀ (n : Nat) (l : List UInt8), l.length ≤ n → Lib.count l [c] + 1 = (sp c l).length ∧ Lib.splitK [c] 0 (Lib.count l [c]) l = sp c l
  | 0, l, h => by
    obtain rfl : l = [] := List.eq_nil_of_length_eq_zero (by omega)
    rw [Lib.count_miss (index_miss c [] (by simp))]
    exact ⟨rfl, rfl⟩
  | n + 1, l, h => by
    rcases sp_cases c l with h1 | ⟨a, r, rfl, h1⟩
    · rw [Lib.count_miss (index_miss c l h1), sp_free c l h1]
      exact ⟨rfl, rfl⟩
    · have hc := Lib.count_hit (sub := [c]) (by simp) (index_hit c a r h1)
      rw [show (a ++ c :: r).drop (a.length + [c].length) = r from by simp [List.drop_append]] at hc
      obtain ⟨e1, e2⟩ := count_sp c n r (by simp at h; omega)
      rw [hc, sp_hit c a r h1, Nat.add_comm 1, split_hit c _ a r h1, e2]
      exact ⟨by simp; omega, rfl⟩
theorem map_bs {P : List ByteArray} {L : List (List UInt8)} (h : P.map (·.data.toList) = L) : P = L.map bs := by
  subst h
  rw [List.map_map]
  have : (bs ∘ fun s : ByteArray => s.data.toList) = id := by funext s; exact s_bs s
  rw [this, List.map_id]
/-- What strings.Split hands back at a byte. -/
theorem split_is (c : UInt8) (s : ByteArray) : Lib.splitB ⟨#[c]⟩ 0 (Lib.countB s ⟨#[c]⟩) s = (sp c s.data.toList).map bs ∧ Lib.countB s ⟨#[c]⟩ + 1 = (sp c s.data.toList).length := by
  obtain ⟨e1, e2⟩ := count_sp c _ s.data.toList (Nat.le_refl _)
  refine ⟨map_bs ?_, e1⟩
  rw [Lib.splitB_data]
  exact e2
theorem sp_len (c : UInt8) : ∀ l : List UInt8, (sp c l).length ≤ l.length + 1
  | [] => by simp [sp]
  | a :: l => by
    have := sp_len c l
    rw [sp]
    split
    · simp; omega
    · split
      · rename_i h; rw [h] at this; simp at this ⊢; omega
      · simp
theorem sp_elt (c : UInt8) : ∀ (l : List UInt8) (x : List UInt8), x ∈ sp c l → x.length ≤ l.length
  | [], x, h => by simp [sp] at h; simp [h]
  | a :: l, x, h => by
    have ih := sp_elt c l
    rw [sp] at h
    split at h
    · rcases List.mem_cons.1 h with rfl | h
      · simp
      · have := ih x h; simp; omega
    · split at h
      · rename_i h' t hq
        rcases List.mem_cons.1 h with rfl | h
        · have := ih h' (by rw [hq]; simp)
          simp; omega
        · have := ih x (by rw [hq]; simp [h])
          simp; omega
      · simp at h; simp [h]
end Go.Proofs.YtciioiklkaannaaGreatDoor
