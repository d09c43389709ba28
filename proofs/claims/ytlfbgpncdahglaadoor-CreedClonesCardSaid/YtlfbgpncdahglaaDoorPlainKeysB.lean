/- Plain law of CreedKeys, second part: the operations commute. -/
import Derived.Test.YtlfbgpncdahglaaDoorPlainKeys
namespace Go.Proofs.YtlfbgpncdahglaaDoor
open Go Go.RowKit
set_option linter.unusedSimpArgs false
set_option linter.unusedVariables false
set_option linter.unusedSectionVars false

/-- What is there behind an operation, fitting or not; what it answers. -/
def stepOf (s : PC) (o : POp) : PC := if fitsB s.st o = true then chgOf s o (ansOf s o).1 else s
theorem step_yes {s : PC} {o : POp} (h : fitsB s.st o = true) : stepOf s o = chgOf s o (ansOf s o).1 := if_pos h
theorem step_no {s : PC} {o : POp} (h : fitsB s.st o = false) : stepOf s o = s := if_neg (by rw [h]; simp)
theorem step_st (s : PC) (o : POp) : (stepOf s o).st = s.st := by
  unfold stepOf; split
  · exact (chg_size s o _).2
  · rfl
theorem step_size (s : PC) (o : POp) : (stepOf s o).size ≤ s.size + 1 := by
  unfold stepOf; split
  · exact (chg_size s o _).1
  · omega
theorem step_ok {s : PC} (o : POp) (hok : POk s) (hs : s.size < 10000) : POk (stepOf s o) := by
  unfold stepOf; split
  · rename_i h; exact pok_chg hok h hs
  · exact hok

theorem fits_map {st : Int} {o : POp} (h : fitsB st o = true) (hst : 3 ≤ st) : o.kind = 6 ∨ o.kind = 7 ∨ o.kind = 8 := by
  rw [fitsB_true, FitsP] at h
  omega
theorem step_vals {s : PC} (o : POp) (hst : 3 ≤ s.st) : (stepOf s o).vals = s.vals := by
  cases hf : fitsB s.st o
  · rw [step_no hf]
  · rw [step_yes hf]
    have hk := fits_map hf hst
    unfold chgOf
    split
    · rfl
    · rw [if_neg (by omega), if_neg (by omega), if_neg (by omega)]
      split
      · rfl
      · split <;> rfl
theorem ans_ins {s : PC} {o : POp} (hk : o.kind = 6) : ansOf s o = if has o.key s.pairs = true then (3, 0) else (1, 0) := by
  unfold ansOf
  rw [if_neg (by omega), if_neg (by omega), if_pos hk]
theorem ans_get_no {s : PC} {o : POp} (hk : o.kind = 7 ∨ o.kind = 8) (hh : has o.key s.pairs = false) : ansOf s o = (2, 0) := by
  unfold ansOf
  rw [if_neg (by omega), if_neg (by omega), if_neg (by omega), if_pos hk, hh]
theorem ans_get_yes {s : PC} {o : POp} (hk : o.kind = 7 ∨ o.kind = 8) (hh : has o.key s.pairs = true) {v : Int} (hv : s.pairs[pos o.key s.pairs]? = some (o.key, v)) : ansOf s o = (1, v) := by
  unfold ansOf
  rw [if_neg (by omega), if_neg (by omega), if_neg (by omega), if_pos hk, hh, hv]
theorem chg_not {s : PC} {o : POp} {code : Int} (h : code ≠ 1) : chgOf s o code = s := if_pos h
theorem step_mem {s : PC} (hr : Rises s.pairs) (o : POp) (hst : 3 ≤ s.st) (hf : fitsB s.st o = true) (p : Int × Int) :
    p ∈ (stepOf s o).pairs ↔ if o.kind = 6 ∧ has o.key s.pairs = false then p = (o.key, o.val) ∨ p ∈ s.pairs else if o.kind = 7 ∧ has o.key s.pairs = true then p ∈ s.pairs ∧ p.1 ≠ o.key else p ∈ s.pairs := by
  rw [step_yes hf]
  have hk := fits_map hf hst
  rcases Bool.eq_false_or_eq_true (has o.key s.pairs) with hh | hh
  · obtain ⟨v, hv⟩ := has_get hh
    rw [if_neg (fun h => by rw [hh] at h; cases h.2)]
    rcases hk with hk | hk | hk
    · rw [ans_ins hk, if_pos hh, chg_not (by decide), if_neg (fun h => by omega)]
    · rw [ans_get_yes (Or.inl hk) hh hv, if_pos ⟨hk, hh⟩]
      unfold chgOf
      rw [if_neg (by simp), if_neg (by omega), if_neg (by omega), if_neg (by omega), if_neg (by omega), if_pos hk]
      exact del_mem hr hh p
    · rw [ans_get_yes (Or.inr hk) hh hv, if_neg (fun h => by omega)]
      unfold chgOf
      rw [if_neg (by simp), if_neg (by omega), if_neg (by omega), if_neg (by omega), if_neg (by omega), if_neg (by omega)]
  · rw [if_neg (c := o.kind = 7 ∧ has o.key s.pairs = true) (fun h => by rw [hh] at h; cases h.2)]
    rcases hk with hk | hk | hk
    · rw [ans_ins hk, if_neg (c := has o.key s.pairs = true) (by rw [hh]; simp), if_pos ⟨hk, hh⟩]
      unfold chgOf
      rw [if_neg (by simp), if_neg (by omega), if_neg (by omega), if_neg (by omega), if_pos hk]
      exact ins_mem p
    · rw [ans_get_no (Or.inl hk) hh, chg_not (by decide), if_neg (fun h => by omega)]
    · rw [ans_get_no (Or.inr hk) hh, chg_not (by decide), if_neg (fun h => by omega)]
theorem step_far {s : PC} (hr : Rises s.pairs) (o : POp) (hst : 3 ≤ s.st) {p : Int × Int} (hp : p.1 ≠ o.key) : p ∈ (stepOf s o).pairs ↔ p ∈ s.pairs := by
  cases hf : fitsB s.st o
  · rw [step_no hf]
  · rw [step_mem hr o hst hf]
    split
    · constructor
      · rintro (rfl | h)
        · exact absurd rfl hp
        · exact h
      · exact Or.inr
    · split
      · exact ⟨fun h => h.1, fun h => ⟨h, hp⟩⟩
      · rfl
theorem step_at {s t : PC} (hs : Rises s.pairs) (ht : Rises t.pairs) (o : POp) (hst : 3 ≤ s.st) (e : t.st = s.st) (h : AtKey o.key s.pairs t.pairs) : (fitsB s.st o = true → ansOf s o = ansOf t o) ∧ AtKey o.key (stepOf s o).pairs (stepOf t o).pairs := by
  have hh := h.has hs ht
  cases hf : fitsB s.st o
  · refine ⟨fun h => (by cases h), ?_⟩
    rw [step_no hf, step_no (by rw [e]; exact hf)]
    exact h
  · have hf' : fitsB t.st o = true := by rw [e]; exact hf
    refine ⟨fun _ => ?_, fun v => ?_⟩
    · have hk := fits_map hf hst
      rcases hk with hk | hk
      · rw [ans_ins hk, ans_ins hk, hh]
      · rcases Bool.eq_false_or_eq_true (has o.key s.pairs) with hc | hc
        · obtain ⟨v, hv⟩ := has_get hc
          have h2 := (has_mem ht ((h v).1 (List.mem_of_getElem? hv))).2
          rw [ans_get_yes hk hc hv, ans_get_yes hk (by rw [← hh]; exact hc) h2]
        · rw [ans_get_no hk hc, ans_get_no hk (by rw [← hh]; exact hc)]
    · rw [step_mem hs o hst hf, step_mem ht o (by omega) hf', ← hh]
      split
      · rw [h v]
      · split
        · rw [h v]
        · exact h v

/-- Operations on unlike keys of a map: the answers don't ask the order, what they leave neither. -/
theorem keys_commute {s : PC} (hok : POk s) (hst : 3 ≤ s.st) (hz : s.size ≤ 5000) (o1 o2 : POp) (hne : o1.key ≠ o2.key) :
    (fitsB s.st o1 = true → ansOf (stepOf s o2) o1 = ansOf s o1) ∧ (fitsB s.st o2 = true → ansOf (stepOf s o1) o2 = ansOf s o2) ∧ stepOf (stepOf s o1) o2 = stepOf (stepOf s o2) o1 := by
  have k1 := step_ok o1 hok (by omega)
  have k2 := step_ok o2 hok (by omega)
  have z1 := step_size s o1
  have z2 := step_size s o2
  have k12 := step_ok o2 k1 (by omega)
  have k21 := step_ok o1 k2 (by omega)
  have s1 := step_st s o1
  have s2 := step_st s o2
  have a1 : AtKey o1.key s.pairs (stepOf s o2).pairs := fun v => (step_far hok.rises o2 hst hne).symm
  have a2 : AtKey o2.key s.pairs (stepOf s o1).pairs := fun v => (step_far hok.rises o1 hst (fun h => hne h.symm)).symm
  obtain ⟨r1, q1⟩ := step_at hok.rises k2.rises o1 hst s2 a1
  obtain ⟨r2, q2⟩ := step_at hok.rises k1.rises o2 hst s1 a2
  refine ⟨fun h => (r1 h).symm, fun h => (r2 h).symm, ?_⟩
  have hp : (stepOf (stepOf s o1) o2).pairs = (stepOf (stepOf s o2) o1).pairs := by
    refine rises_ext k12.rises k21.rises fun p => ?_
    by_cases h1 : p.1 = o1.key
    · rw [step_far k1.rises o2 (by omega) (by rw [h1]; exact hne)]
      have := q1 p.2
      rw [← h1] at this
      exact this
    · rw [step_far k2.rises o1 (by omega) h1]
      by_cases h2 : p.1 = o2.key
      · have := q2 p.2
        rw [← h2] at this
        exact this.symm
      · rw [step_far k1.rises o2 (by omega) h2, step_far hok.rises o1 hst h1, step_far hok.rises o2 hst h2]
  have hv : (stepOf (stepOf s o1) o2).vals = (stepOf (stepOf s o2) o1).vals := by
    rw [step_vals o2 (by omega), step_vals o1 hst, step_vals o1 (by omega), step_vals o2 hst]
  have hs : (stepOf (stepOf s o1) o2).st = (stepOf (stepOf s o2) o1).st := by
    rw [step_st, step_st, step_st, step_st]
  generalize stepOf (stepOf s o1) o2 = x at *
  generalize stepOf (stepOf s o2) o1 = y at *
  cases x; cases y
  simp at hp hv hs
  subst hp hv hs
  rfl
end Go.Proofs.YtlfbgpncdahglaaDoor
