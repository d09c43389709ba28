/- The reference's text of a word, read: plain laws. -/
import Derived.Test.YtfkfleojdheffaaDoorPlainW
namespace Go.Proofs.YtfkfleojdheffaaDoor
open Go Go.RowKit
set_option linter.unusedSimpArgs false
set_option linter.unusedVariables false
set_option linter.unusedSectionVars false

theorem dec_len (k : Nat) : ∀ u, u < 10 ^ (k + 1) → (Lib.decDigits u).length ≤ k + 1 := by
  induction k with
  | zero =>
    intro u hu
    have h : u < 10 := by omega
    rw [Lib.decDigits, dif_pos h]
    simp
  | succ k ih =>
    intro u hu
    rw [Lib.decDigits]
    split
    · simp
    · have := ih (u / 10) (by rw [Nat.pow_succ] at hu; omega)
      simp; omega
def dval (l : List UInt8) : Int := l.foldl (fun a c => 10 * a + ((c.toNat : Int) - 48)) 0
theorem dval_snoc (l : List UInt8) (c : UInt8) : dval (l ++ [c]) = 10 * dval l + ((c.toNat : Int) - 48) := by simp [dval]
theorem dval_dec (u : Nat) : dval (Lib.decDigits u) = u := by
  induction u using Nat.strongRecOn with
  | _ u ih =>
    rw [Lib.decDigits]
    split
    · rename_i h
      have hd := dig_of u h
      show 10 * 0 + (((UInt8.ofNat (48 + u)).toNat : Int) - 48) = _
      rw [hd]; omega
    · rename_i h
      have hd := dig_of (u % 10) (by omega)
      rw [dval_snoc, ih (u / 10) (by omega), hd]; omega
theorem fold_bd (l : List UInt8) : ∀ a : Int, 0 ≤ a → (∀ c ∈ l, isDig c) → 0 ≤ l.foldl (fun a c => 10 * a + ((c.toNat : Int) - 48)) a ∧ l.foldl (fun a c => 10 * a + ((c.toNat : Int) - 48)) a < (a + 1) * 10 ^ l.length := by
  induction l with
  | nil => intro a ha _; simp; omega
  | cons c l ih =>
    intro a ha h
    have hc := h c (by simp)
    unfold isDig at hc
    obtain ⟨h1, h2⟩ := ih (10 * a + ((c.toNat : Int) - 48)) (by omega) (fun d hd => h d (by simp [hd]))
    refine ⟨h1, Int.lt_of_lt_of_le h2 ?_⟩
    rw [List.length_cons, Int.pow_succ, Int.mul_comm (10 ^ l.length) 10, ← Int.mul_assoc]
    exact Int.mul_le_mul_of_nonneg_right (by omega) (Int.pow_nonneg (by omega))
theorem dval_bd (l : List UInt8) (h : ∀ c ∈ l, isDig c) : 0 ≤ dval l ∧ dval l < 10 ^ l.length := by
  have := fold_bd l 0 (by omega) h
  simpa [dval] using this
theorem dval_14 (l : List UInt8) (h : ∀ c ∈ l, isDig c) (hl : l.length ≤ 14) : 0 ≤ dval l ∧ dval l < 100000000000000 := by
  obtain ⟨h0, h1⟩ := dval_bd l h
  have : (10 : Int) ^ l.length ≤ 10 ^ 14 := by exact_mod_cast Nat.pow_le_pow_right (by omega) hl
  exact ⟨h0, Int.lt_of_lt_of_le h1 (by simpa using this)⟩

theorem run_end {D dd r : List UInt8} (hD : D = dd ++ r) (hdig : ∀ c ∈ dd, isDig c) (hlen : dd.length ≤ 13) (hr : r = [] ∨ ∃ r', r = 46 :: r') {q : Nat} (hq : q ≤ D.length)
    (hall : ∀ c ∈ D.take q, isDig c) (hend : q = 14 ∨ q = D.length ∨ ∃ c, D[q]? = some c ∧ ¬ isDig c) : D.take q = dd ∧ D.drop q = r ∧ q = dd.length := by
  subst hD
  have e : q = dd.length := by
    rcases Nat.lt_trichotomy q dd.length with h | h | h
    · rcases hend with h1 | h1 | ⟨c, h1, h2⟩
      · omega
      · simp at h1; omega
      · rw [List.getElem?_append_left h] at h1
        exact absurd (hdig c (List.mem_of_getElem? h1)) h2
    · exact h
    · rcases hr with rfl | ⟨r', rfl⟩
      · simp at hq; omega
      · have : (46 : UInt8) ∈ (dd ++ 46 :: r').take q := by
          rw [show q = dd.length + ((q - dd.length - 1) + 1) from by omega, List.take_length_add_append]
          simp
        have := hall _ this
        unfold isDig at this
        simp at this
  subst e
  simp

def fld (x : PW) : Nat → Int
  | 0 => x.slot
  | 1 => x.gen
  | 2 => x.tag
  | _ => x.num
def tl (x : PW) : Nat → List UInt8
  | 0 => 46 :: (Lib.itoa x.slot ++ 46 :: (Lib.itoa x.gen ++ 46 :: (Lib.itoa x.tag ++ 46 :: Lib.itoa x.num)))
  | 1 => 46 :: (Lib.itoa x.gen ++ 46 :: (Lib.itoa x.tag ++ 46 :: Lib.itoa x.num))
  | 2 => 46 :: (Lib.itoa x.tag ++ 46 :: Lib.itoa x.num)
  | 3 => 46 :: Lib.itoa x.num
  | _ => []
theorem tl_step (x : PW) (k : Nat) (h : k < 4) : tl x k = 46 :: (Lib.itoa (fld x k) ++ tl x (k + 1)) := by
  match k, h with
  | 0, _ => rfl
  | 1, _ => rfl
  | 2, _ => rfl
  | 3, _ => simp [tl, fld]
theorem tl_next (x : PW) (k : Nat) : tl x (k + 1) = [] ∨ ∃ r, tl x (k + 1) = 46 :: r := by
  match k with
  | 0 => exact Or.inr ⟨_, rfl⟩
  | 1 => exact Or.inr ⟨_, rfl⟩
  | 2 => exact Or.inr ⟨_, rfl⟩
  | k + 3 => exact Or.inl rfl
theorem fld_bd (x : PW) (h : GoodP x) (k : Nat) : -1099511627776 ≤ fld x k ∧ fld x k ≤ 1099511627776 := by
  obtain ⟨_, s0, s1, g0, g1, t0, t1, n0, n1⟩ := h
  match k with
  | 0 => simp only [fld]; omega
  | 1 => simp only [fld]; omega
  | 2 => simp only [fld]; omega
  | k + 3 => simp only [fld]; omega
theorem itoa_len13 (n : Int) (h0 : -1099511627776 ≤ n) (h1 : n ≤ 1099511627776) : (Lib.itoa n).length ≤ 14 := by
  unfold Lib.itoa
  split
  · have := dec_len 12 n.natAbs (by omega)
    simp; omega
  · have := dec_len 12 n.toNat (by omega)
    omega
theorem txt_80 (x : PW) (h : GoodP x) : (txt x).length ≤ 80 := by
  obtain ⟨_, s0, s1, g0, g1, t0, t1, n0, n1⟩ := h
  have h0 := itoa_len13 x.slot (by omega) (by omega)
  have h1 := itoa_len13 x.gen (by omega) (by omega)
  have h2 := itoa_len13 x.tag (by omega) (by omega)
  have h3 := itoa_len13 x.num (by omega) (by omega)
  rw [txt_eq]; simp; omega
theorem itoa_nat (n : Nat) : Lib.itoa (n : Int) = Lib.decDigits n := by
  unfold Lib.itoa
  rw [if_neg (by omega)]
  simp
theorem itoa_negs (n : Int) (h : n < 0) : Lib.itoa n = 45 :: Lib.decDigits n.natAbs := by
  unfold Lib.itoa
  rw [if_pos h]
/-- The text from a place on, where a word's number stands: what the reference reads. -/
theorem num_read {D : List UInt8} {f : Int} {r : List UInt8} (hD : D = Lib.itoa f ++ r) (h0 : -1099511627776 ≤ f) (h1 : f ≤ 1099511627776) (hr : r = [] ∨ ∃ r', r = 46 :: r') :
    (f < 0 ∧ D[0]? = some 45 ∧ ∀ q, q ≤ (D.drop 1).length → (∀ c ∈ (D.drop 1).take q, isDig c) → (q = 14 ∨ q = (D.drop 1).length ∨ ∃ c, (D.drop 1)[q]? = some c ∧ ¬ isDig c) → - dval ((D.drop 1).take q) = f ∧ (D.drop 1).drop q = r) ∨
    (0 ≤ f ∧ (∃ c, D[0]? = some c ∧ c ≠ 45) ∧ ∀ q, q ≤ D.length → (∀ c ∈ D.take q, isDig c) → (q = 14 ∨ q = D.length ∨ ∃ c, D[q]? = some c ∧ ¬ isDig c) → dval (D.take q) = f ∧ D.drop q = r) := by
  by_cases hf : f < 0
  · refine Or.inl ⟨hf, ?_, fun q a b c => ?_⟩
    · rw [hD, itoa_negs f hf]; rfl
    · have hl := dec_len 12 f.natAbs (by omega)
      obtain ⟨e1, e2, _⟩ := run_end (D := D.drop 1) (dd := Lib.decDigits f.natAbs) (r := r) (by rw [hD, itoa_negs f hf]; rfl) (dec_dig _) (by omega) hr a b c
      rw [e1, e2, dval_dec]
      exact ⟨by omega, rfl⟩
  · obtain ⟨n, rfl⟩ : ∃ n : Nat, f = n := ⟨f.toNat, by omega⟩
    rw [itoa_nat] at hD
    refine Or.inr ⟨by omega, ?_, fun q a b c => ?_⟩
    · cases hc : Lib.decDigits n with
      | nil => exact absurd hc (dec_ne _)
      | cons c l =>
        refine ⟨c, by rw [hD, hc]; rfl, fun e => ?_⟩
        have := dec_dig n c (by rw [hc]; simp)
        unfold isDig at this
        rw [e] at this
        simp at this
    · have hl := dec_len 12 n (by omega)
      obtain ⟨e1, e2, _⟩ := run_end (D := D) (dd := Lib.decDigits n) (r := r) hD (dec_dig _) (by omega) hr a b c
      rw [e1, e2, dval_dec]
      exact ⟨rfl, rfl⟩
end Go.Proofs.YtfkfleojdheffaaDoor
