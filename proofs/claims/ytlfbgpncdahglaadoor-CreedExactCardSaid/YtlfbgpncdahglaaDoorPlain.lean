/- Plain laws on contents: what an operation leaves is contents again. -/
import Derived.Test.YtlfbgpncdahglaaDoorAwake
namespace Go.Proofs.YtlfbgpncdahglaaDoor
open Go Go.RowKit
set_option linter.unusedSimpArgs false
set_option linter.unusedVariables false
set_option linter.unusedSectionVars false

theorem pos_lt {key : Int} {l : List (Int × Int)} {j : Nat} (hj : j < l.length) (h : j < pos key l) : l[j].1 < key := by
  have := List.not_of_lt_findIdx h
  simpa using this
theorem pos_ge {key : Int} {l : List (Int × Int)} (hr : Rises l) {j : Nat} (hj : j < l.length) (h : pos key l ≤ j) : key ≤ l[j].1 := by
  have hp : pos key l < l.length := by omega
  have h0 : key ≤ l[pos key l].1 := by
    have := List.findIdx_getElem (xs := l) (p := fun p : Int × Int => decide (key ≤ p.1)) (w := hp)
    exact of_decide_eq_true this
  rcases Nat.eq_or_lt_of_le h with e | e
  · subst e; exact h0
  · have := hr.lt hj e; omega
theorem has_false {key : Int} {l : List (Int × Int)} (hr : Rises l) (h : has key l = false) {j : Nat} (hj : j < l.length) (hp : pos key l ≤ j) : key < l[j].1 := by
  have h1 := pos_ge hr hj hp
  rcases Int.lt_or_eq_of_le h1 with h2 | h2
  · exact h2
  · exfalso
    have hpl : pos key l < l.length := by omega
    have h3 := pos_ge hr hpl (Nat.le_refl _)
    have h4 : l[pos key l].1 = key := by
      rcases Nat.eq_or_lt_of_le hp with e | e
      · have e2 : l[pos key l].1 = l[j].1 := by simp [e]
        omega
      · have := hr.lt hj e; omega
    have : has key l = true := by unfold has; rw [List.getElem?_eq_getElem hpl]; simpa using h4
    rw [h] at this
    cases this

theorem rises_ins {key val : Int} {l : List (Int × Int)} (hr : Rises l) (h : has key l = false) (h0 : 0 ≤ key) (h1 : key ≤ 255) : Rises (l.take (pos key l) ++ (key, val) :: l.drop (pos key l)) := by
  refine ⟨?_, ?_⟩
  · rw [List.pairwise_append]
    refine ⟨hr.1.sublist (List.take_sublist _ _), ?_, ?_⟩
    · rw [List.pairwise_cons]
      refine ⟨?_, hr.1.sublist (List.drop_sublist _ _)⟩
      intro p hp
      obtain ⟨j, hj, rfl⟩ := List.getElem_of_mem hp
      rw [List.length_drop] at hj
      rw [List.getElem_drop]
      exact has_false hr h (by omega) (by omega)
    · intro p hp q hq
      obtain ⟨j, hj, rfl⟩ := List.getElem_of_mem hp
      rw [List.length_take] at hj
      rw [List.getElem_take]
      have hlt := pos_lt (key := key) (l := l) (j := j) (by omega) (by omega)
      rcases List.mem_cons.1 hq with rfl | hq
      · exact hlt
      · obtain ⟨i, hi, rfl⟩ := List.getElem_of_mem hq
        rw [List.length_drop] at hi
        rw [List.getElem_drop]
        have := has_false hr h (j := pos key l + i) (by omega) (by omega)
        omega
  · intro p hp
    rcases List.mem_append.1 hp with hp | hp
    · exact hr.2 p (List.mem_of_mem_take hp)
    · rcases List.mem_cons.1 hp with rfl | hp
      · exact ⟨h0, h1⟩
      · exact hr.2 p (List.mem_of_mem_drop hp)
theorem rises_del {l : List (Int × Int)} (hr : Rises l) (i : Nat) : Rises (l.take i ++ l.drop (i + 1)) := by
  have hs : (l.take i ++ l.drop (i + 1)).Sublist l := by
    conv => rhs; rw [← List.take_append_drop i l]
    exact (List.Sublist.refl _).append (by rw [← List.drop_drop]; exact List.drop_sublist _ _)
  exact ⟨hr.1.sublist hs, fun p hp => hr.2 p (hs.subset hp)⟩

/-- How much there is. -/
def PC.size (s : PC) : Nat := s.vals.length + s.pairs.length

theorem chg_size (s : PC) (o : POp) (code : Int) : (chgOf s o code).size ≤ s.size + 1 ∧ (chgOf s o code).st = s.st := by
  unfold chgOf PC.size
  have := pos_le o.key s.pairs
  split
  · simp
  · split
    · simp; omega
    · split
      · simp; omega
      · split
        · simp; omega
        · split
          · simp; omega
          · split
            · simp; omega
            · simp

theorem pok_chg {s : PC} {o : POp} (hok : POk s) (hf : fitsB s.st o = true) (hs : s.size < 10000) : POk (chgOf s o (ansOf s o).1) := by
  obtain ⟨k1, k2, k3⟩ := fits_kind hf
  obtain ⟨z1, z2⟩ := chg_size s o (ansOf s o).1
  refine ⟨by rw [z2]; exact hok.st, ?_, by unfold PC.size at z1 hs; omega, by unfold PC.size at z1 hs; omega⟩
  have hr := hok.rises
  unfold chgOf
  split
  · exact hr
  · rename_i hc
    split
    · exact hr
    · split
      · exact hr
      · split
        · exact hr
        · split
          · rename_i h6
            obtain ⟨q1, q2⟩ := k3 (by omega)
            refine rises_ins hr ?_ q1 q2
            cases hh : has o.key s.pairs
            · rfl
            · exfalso
              apply hc
              unfold ansOf
              rw [if_neg (by omega), if_neg (by omega), if_pos h6, hh]
              simp
          · split
            · exact rises_del hr _
            · exact hr
end Go.Proofs.YtlfbgpncdahglaaDoor
