/- Numbers as words: plain laws. -/
import Derived.Test.YtciioiklkaannaaGreatDoorFnA
import Derived.Lib.ItoaLen
namespace Go.Proofs.YtciioiklkaannaaGreatDoor
open Go Go.RowKit
set_option linter.unusedSimpArgs false
set_option linter.unusedVariables false
set_option linter.unusedSectionVars false

def bs (l : List UInt8) : ByteArray := ⟨l.toArray⟩
theorem bs_size (l : List UInt8) : (bs l).size = l.length := by simp [bs, ByteArray.size]
theorem bs_append (a b : List UInt8) : bs a ++ bs b = bs (a ++ b) := by apply ByteArray.ext; simp [bs, ByteArray.data_append]
theorem bs_data (l : List UInt8) : (bs l).data.toList = l := by simp [bs]
theorem bs_inj {l m : List UInt8} (h : bs l = bs m) : l = m := by
  have := congrArg (fun s : ByteArray => s.data.toList) h
  simpa [bs] using this
theorem s_bs (s : ByteArray) : bs s.data.toList = s := by apply ByteArray.ext; simp [bs]
theorem s_at (s : ByteArray) (p : Nat) (h : p < s.size) : s.data.toList[p]? = some s[p] := by
  rw [List.getElem?_eq_getElem (by simpa using h)]; rfl
theorem s_len (s : ByteArray) : s.data.toList.length = s.size := by simp

def isDig (c : UInt8) : Prop := 48 ≤ c.toNat ∧ c.toNat ≤ 57
theorem dig_of (k : Nat) (h : k < 10) : (UInt8.ofNat (48 + k)).toNat = 48 + k := by
  rw [UInt8.toNat_ofNat']; omega
theorem dec_dig (u : Nat) : ∀ c ∈ Lib.decDigits u, isDig c := by
  induction u using Nat.strongRecOn with
  | _ u ih =>
    intro c hc
    rw [Lib.decDigits] at hc
    split at hc
    · rename_i h
      simp only [List.mem_singleton] at hc
      subst hc
      unfold isDig
      rw [dig_of u h]; omega
    · rename_i h
      rcases List.mem_append.1 hc with hc | hc
      · exact ih (u / 10) (by omega) c hc
      · simp only [List.mem_singleton] at hc
        subst hc
        unfold isDig
        rw [dig_of (u % 10) (by omega)]; omega
theorem dec_ne (u : Nat) : Lib.decDigits u ≠ [] := by
  rw [Lib.decDigits]
  split <;> simp
theorem dec_len (k : Nat) : ∀ u, u < 10 ^ (k + 1) → (Lib.decDigits u).length ≤ k + 1 := by
  induction k with
  | zero =>
    intro u hu
    have h : u < 10 := by omega
    rw [Lib.decDigits, dif_pos h]
    simp
  | succ k ih =>
    intro u hu
    rw [Lib.decDigits]
    split
    · simp
    · have := ih (u / 10) (by rw [Nat.pow_succ] at hu; omega)
      simp; omega
def dval (l : List UInt8) : Int := l.foldl (fun a c => 10 * a + ((c.toNat : Int) - 48)) 0
theorem dval_snoc (l : List UInt8) (c : UInt8) : dval (l ++ [c]) = 10 * dval l + ((c.toNat : Int) - 48) := by simp [dval]
theorem dval_dec (u : Nat) : dval (Lib.decDigits u) = u := by
  induction u using Nat.strongRecOn with
  | _ u ih =>
    rw [Lib.decDigits]
    split
    · rename_i h
      have hd := dig_of u h
      show 10 * 0 + (((UInt8.ofNat (48 + u)).toNat : Int) - 48) = _
      rw [hd]; omega
    · rename_i h
      have hd := dig_of (u % 10) (by omega)
      rw [dval_snoc, ih (u / 10) (by omega), hd]; omega
theorem fold_bd (l : List UInt8) : ∀ a : Int, 0 ≤ a → (∀ c ∈ l, isDig c) → 0 ≤ l.foldl (fun a c => 10 * a + ((c.toNat : Int) - 48)) a ∧ l.foldl (fun a c => 10 * a + ((c.toNat : Int) - 48)) a < (a + 1) * 10 ^ l.length := by
  induction l with
  | nil => intro a ha _; simp; omega
  | cons c l ih =>
    intro a ha h
    have hc := h c (by simp)
    unfold isDig at hc
    obtain ⟨h1, h2⟩ := ih (10 * a + ((c.toNat : Int) - 48)) (by omega) (fun d hd => h d (by simp [hd]))
    refine ⟨h1, Int.lt_of_lt_of_le h2 ?_⟩
    rw [List.length_cons, Int.pow_succ, Int.mul_comm (10 ^ l.length) 10, ← Int.mul_assoc]
    exact Int.mul_le_mul_of_nonneg_right (by omega) (Int.pow_nonneg (by omega))
theorem dval_bd (l : List UInt8) (h : ∀ c ∈ l, isDig c) : 0 ≤ dval l ∧ dval l < 10 ^ l.length := by
  have := fold_bd l 0 (by omega) h
  simpa [dval] using this
theorem dval_14 (l : List UInt8) (h : ∀ c ∈ l, isDig c) (hl : l.length ≤ 14) : 0 ≤ dval l ∧ dval l < 100000000000000 := by
  obtain ⟨h0, h1⟩ := dval_bd l h
  have : (10 : Int) ^ l.length ≤ 10 ^ 14 := by exact_mod_cast Nat.pow_le_pow_right (by omega) hl
  exact ⟨h0, Int.lt_of_lt_of_le h1 (by simpa using this)⟩

/-- A word of digits with no zero ahead is its number's word. -/
theorem dec_dval : ∀ (n : Nat) (l : List UInt8), l.length = n → l ≠ [] → (∀ c ∈ l, isDig c) → (l.head? = some 48 → l = [48]) → Lib.decDigits (dval l).toNat = l ∧ (l ≠ [48] → 1 ≤ dval l) := by
  intro n
  induction n with
  | zero => intro l hl hne; exact absurd (List.eq_nil_of_length_eq_zero hl) hne
  | succ n ih =>
    intro l hl hne hd hz
    obtain ⟨l', c, rfl⟩ : ∃ l' c, l = l' ++ [c] := ⟨l.dropLast, l.getLast hne, (List.dropLast_concat_getLast hne).symm⟩
    have hc := hd c (by simp)
    unfold isDig at hc
    have hof : UInt8.ofNat c.toNat = c := by simp
    by_cases h0 : l' = []
    · subst h0
      have e : dval ([] ++ [c]) = (c.toNat : Int) - 48 := by simp [dval]
      rw [e, Lib.decDigits, dif_pos (by omega)]
      refine ⟨?_, fun h => ?_⟩
      · rw [show 48 + ((c.toNat : Int) - 48).toNat = c.toNat from by omega, hof]; rfl
      · have : c.toNat ≠ 48 := fun e => h (by rw [← hof, e]; rfl)
        omega
    · have hz' : l'.head? = some 48 → l' = [48] := fun h => by
        have h1 : (l' ++ [c]).head? = some 48 := by
          cases l' with
          | nil => exact absurd rfl h0
          | cons a r => simpa using h
        have h2 := hz h1
        have := congrArg List.length h2
        simp at this
        exact absurd this h0
      have h48 : l' ≠ [48] := fun e => by
        subst e
        have h2 := hz (by simp)
        simp at h2
      obtain ⟨e1, e2⟩ := ih l' (by simpa using hl) h0 (fun d hd' => hd d (by simp [hd'])) hz'
      have e3 := e2 h48
      rw [dval_snoc]
      refine ⟨?_, fun _ => by omega⟩
      rw [Lib.decDigits, dif_neg (by omega), show (10 * dval l' + ((c.toNat : Int) - 48)).toNat / 10 = (dval l').toNat from by omega, e1,
        show 48 + (10 * dval l' + ((c.toNat : Int) - 48)).toNat % 10 = c.toNat from by omega, hof]
theorem dec_head (u : Nat) (h : (Lib.decDigits u).head? = some 48) : Lib.decDigits u = [48] := by
  induction u using Nat.strongRecOn with
  | _ u ih =>
    rw [Lib.decDigits] at h ⊢
    split
    · rename_i h1
      rw [dif_pos h1] at h
      simpa using h
    · rename_i h1
      rw [dif_neg h1] at h
      exfalso
      have hne := dec_ne (u / 10)
      have h2 : (Lib.decDigits (u / 10)).head? = some 48 := by
        cases hq : Lib.decDigits (u / 10) with
        | nil => exact absurd hq hne
        | cons a r => rw [hq] at h; simpa using h
      have h3 := ih (u / 10) (by omega) h2
      have h4 := dval_dec (u / 10)
      rw [h3] at h4
      simp [dval] at h4
      omega

/-- The word s is the number n's. -/
def NumIs (s : ByteArray) (n : Nat) : Prop := n ≤ 1073741824 ∧ bs (Lib.decDigits n) = s
theorem numIs_inj {s : ByteArray} {n m : Nat} (h : NumIs s n) (h' : NumIs s m) : n = m := by
  have h1 := bs_inj (h.2.trans h'.2.symm)
  have := congrArg dval h1
  rw [dval_dec, dval_dec] at this
  omega
/-- What the walk of a number's word finds, where it is one. -/
theorem numIs_of {s : ByteArray} (h0 : 0 < s.size) (hz : s[0] = 48 → s = ⟨#[48]⟩) (hd : ∀ c ∈ s.data.toList, isDig c) (hm : dval s.data.toList ≤ 1073741824) : NumIs s (dval s.data.toList).toNat := by
  have hb := (dval_bd _ hd).1
  refine ⟨by omega, ?_⟩
  have hh : s.data.toList[0]? = some s[0] := s_at s 0 h0
  obtain ⟨e, _⟩ := dec_dval _ s.data.toList rfl (by intro e; have := s_len s; rw [e] at this; simp at this; omega) hd (fun h => by
    rw [List.head?_eq_getElem?, hh] at h
    rw [hz (Option.some.inj h)])
  rw [e, s_bs]
theorem numIs_facts {s : ByteArray} {n : Nat} (h : NumIs s n) : 0 < s.size ∧ s.size ≤ 10 ∧ (∀ h : 0 < s.size, s[0] = 48 → s = ⟨#[48]⟩) ∧ (∀ c ∈ s.data.toList, isDig c) ∧ dval s.data.toList = n := by
  obtain ⟨h1, rfl⟩ := h
  have hl := dec_len 9 n (by omega)
  refine ⟨by rw [bs_size]; exact List.length_pos_iff.2 (dec_ne n), by rw [bs_size]; exact hl, fun h e => ?_, by rw [bs_data]; exact dec_dig n, by rw [bs_data]; exact dval_dec n⟩
  have hh := s_at (bs (Lib.decDigits n)) 0 h
  rw [bs_data, e, ← List.head?_eq_getElem?] at hh
  rw [dec_head n hh]; rfl
end Go.Proofs.YtciioiklkaannaaGreatDoor
