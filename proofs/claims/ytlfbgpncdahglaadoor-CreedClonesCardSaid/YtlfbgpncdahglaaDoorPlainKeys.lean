/- Plain law of CreedKeys: operations on unlike keys of a map commute. -/
import Derived.Test.YtlfbgpncdahglaaDoorPlain
namespace Go.Proofs.YtlfbgpncdahglaaDoor
open Go Go.RowKit
set_option linter.unusedSimpArgs false
set_option linter.unusedVariables false
set_option linter.unusedSectionVars false

theorem mem_key {l : List (Int × Int)} (hr : Rises l) {p q : Int × Int} (hp : p ∈ l) (hq : q ∈ l) (h : p.1 = q.1) : p = q := by
  obtain ⟨i, hi, rfl⟩ := List.getElem_of_mem hp
  obtain ⟨j, hj, rfl⟩ := List.getElem_of_mem hq
  rcases Nat.lt_trichotomy i j with h1 | h1 | h1
  · have := hr.lt hj h1; omega
  · subst h1; rfl
  · have := hr.lt hi h1; omega
theorem has_get {key : Int} {l : List (Int × Int)} (h : has key l = true) : ∃ v, l[pos key l]? = some (key, v) := by
  unfold has at h
  split at h
  · rename_i p hp
    have : p.1 = key := by simpa using h
    exact ⟨p.2, by rw [hp, ← this]⟩
  · cases h
theorem has_mem {key v : Int} {l : List (Int × Int)} (hr : Rises l) (h : (key, v) ∈ l) : has key l = true ∧ l[pos key l]? = some (key, v) := by
  have hh : has key l = true := by
    cases hc : has key l
    · exfalso
      obtain ⟨j, hj, e⟩ := List.getElem_of_mem h
      rcases Nat.lt_or_ge j (pos key l) with h1 | h1
      · have := pos_lt hj h1; rw [e] at this; simp at this
      · have := has_false hr hc hj h1; rw [e] at this; simp at this
    · rfl
  refine ⟨hh, ?_⟩
  obtain ⟨v', hv'⟩ := has_get hh
  have := mem_key hr (List.mem_of_getElem? hv') h rfl
  rw [hv', this]

/-- Two rising rows with the same pairs are the same. -/
theorem rises_ext : ∀ {l m : List (Int × Int)}, Rises l → Rises m → (∀ p, p ∈ l ↔ p ∈ m) → l = m
  | [], [], _, _, _ => rfl
  | [], q :: m, _, _, h => absurd ((h q).2 (by simp)) (by simp)
  | p :: l, [], _, _, h => absurd ((h p).1 (by simp)) (by simp)
  | p :: l, q :: m, hl, hm, h => by
    have hl1 := List.pairwise_cons.1 hl.1
    have hm1 := List.pairwise_cons.1 hm.1
    have e : p = q := by
      rcases List.mem_cons.1 ((h p).1 (by simp)) with e | e
      · exact e
      · rcases List.mem_cons.1 ((h q).2 (by simp)) with e' | e'
        · exact e'.symm
        · have := hm1.1 p e; have := hl1.1 q e'; omega
    subst e
    congr 1
    refine rises_ext ⟨hl1.2, fun x hx => hl.2 x (by simp [hx])⟩ ⟨hm1.2, fun x hx => hm.2 x (by simp [hx])⟩ fun x => ⟨fun hx => ?_, fun hx => ?_⟩
    · rcases List.mem_cons.1 ((h x).1 (by simp [hx])) with e | e
      · subst e; exact absurd (hl1.1 x hx) (by omega)
      · exact e
    · rcases List.mem_cons.1 ((h x).2 (by simp [hx])) with e | e
      · subst e; exact absurd (hm1.1 x hx) (by omega)
      · exact e

/-- The two rows say the same of a key. -/
def AtKey (k : Int) (l m : List (Int × Int)) : Prop := ∀ v, (k, v) ∈ l ↔ (k, v) ∈ m
theorem AtKey.has {k : Int} {l m : List (Int × Int)} (hl : Rises l) (hm : Rises m) (h : AtKey k l m) : Go.Proofs.YtlfbgpncdahglaaDoor.has k l = Go.Proofs.YtlfbgpncdahglaaDoor.has k m := by
  rw [Bool.eq_iff_iff]
  constructor
  · intro h1
    obtain ⟨v, hv⟩ := has_get h1
    exact (has_mem hm ((h v).1 (List.mem_of_getElem? hv))).1
  · intro h1
    obtain ⟨v, hv⟩ := has_get h1
    exact (has_mem hl ((h v).2 (List.mem_of_getElem? hv))).1
theorem ins_mem {key val : Int} {l : List (Int × Int)} (p : Int × Int) : p ∈ l.take (pos key l) ++ (key, val) :: l.drop (pos key l) ↔ p = (key, val) ∨ p ∈ l := by
  conv => rhs; rw [← List.take_append_drop (pos key l) l]
  simp only [List.mem_append, List.mem_cons]
  constructor
  · rintro (h | h | h)
    · exact Or.inr (Or.inl h)
    · exact Or.inl h
    · exact Or.inr (Or.inr h)
  · rintro (h | h | h)
    · exact Or.inr (Or.inl h)
    · exact Or.inl h
    · exact Or.inr (Or.inr h)
theorem del_mem {key : Int} {l : List (Int × Int)} (hr : Rises l) (h : has key l = true) (p : Int × Int) : p ∈ l.take (pos key l) ++ l.drop (pos key l + 1) ↔ p ∈ l ∧ p.1 ≠ key := by
  obtain ⟨v, hv⟩ := has_get h
  obtain ⟨hlt, he⟩ := List.getElem?_eq_some_iff.1 hv
  have hsplit : l = l.take (pos key l) ++ (key, v) :: l.drop (pos key l + 1) := by
    rw [← he, ← List.drop_eq_getElem_cons hlt, List.take_append_drop]
  constructor
  · intro hp
    have hin : p ∈ l := by
      rw [hsplit]
      simp only [List.mem_append, List.mem_cons] at hp ⊢
      rcases hp with h1 | h1
      · exact Or.inl h1
      · exact Or.inr (Or.inr h1)
    refine ⟨hin, fun e => ?_⟩
    rcases List.mem_append.1 hp with h1 | h1
    · obtain ⟨j, hj, rfl⟩ := List.getElem_of_mem h1
      rw [List.length_take] at hj
      rw [List.getElem_take] at e
      have := pos_lt (key := key) (l := l) (j := j) (by omega) (by omega)
      omega
    · obtain ⟨j, hj, rfl⟩ := List.getElem_of_mem h1
      rw [List.length_drop] at hj
      rw [List.getElem_drop] at e
      have := hr.lt (i := pos key l) (j := pos key l + 1 + j) (by omega) (by omega)
      rw [he] at this
      simp at this
      omega
  · rintro ⟨hp, hne⟩
    rw [hsplit] at hp
    simp only [List.mem_append, List.mem_cons] at hp ⊢
    rcases hp with h1 | h1 | h1
    · exact Or.inl h1
    · rw [h1] at hne; exact absurd rfl hne
    · exact Or.inr h1
end Go.Proofs.YtlfbgpncdahglaaDoor
