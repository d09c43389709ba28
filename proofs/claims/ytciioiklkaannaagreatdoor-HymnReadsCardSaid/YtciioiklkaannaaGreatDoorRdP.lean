/- A script's text, read by the reference: plain laws. -/
import Derived.Test.YtciioiklkaannaaGreatDoorTextI
import Derived.Test.YtciioiklkaannaaGreatDoorPrintP
import Derived.Test.YtciioiklkaannaaGreatDoorParseF
namespace Go.Proofs.YtciioiklkaannaaGreatDoor
open Go Go.RowKit
set_option linter.unusedSimpArgs false
set_option linter.unusedVariables false
set_option linter.unusedSectionVars false

open Classical in
/-- A word's number; -1: it is none. -/
noncomputable def numOf (l : List UInt8) : Int := if h : ∃ n : Nat, NumIs (bs l) n then (Classical.choose h : Nat) else -1
theorem numOf_is {l : List UInt8} {n : Nat} (h : NumIs (bs l) n) : numOf l = n := by
  unfold numOf
  rw [dif_pos ⟨n, h⟩]
  have := numIs_inj (Classical.choose_spec (⟨n, h⟩ : ∃ n : Nat, NumIs (bs l) n)) h
  omega
theorem numOf_no {l : List UInt8} (h : ∀ n, ¬ NumIs (bs l) n) : numOf l = -1 := by
  unfold numOf
  rw [dif_neg (fun ⟨n, hn⟩ => h n hn)]
theorem numOf_dec {v : Int} (h0 : 0 ≤ v) (h1 : v ≤ 1073741824) : numOf (Lib.decDigits v.toNat) = v := by
  rw [numOf_is (n := v.toNat) ⟨by omega, rfl⟩]; omega
theorem numOf_bd (l : List UInt8) : -1 ≤ numOf l ∧ numOf l ≤ 1073741824 := by
  unfold numOf
  split
  · rename_i h
    have := (Classical.choose_spec h).1
    omega
  · omega
noncomputable def atV (W : List (List UInt8)) (i : Nat) : Int := if h : i < W.length then numOf W[i] else -1
theorem atV_bd (W : List (List UInt8)) (i : Nat) : -1 ≤ atV W i ∧ atV W i ≤ 1073741824 := by
  unfold atV
  split
  · exact numOf_bd _
  · omega
/-- What the reference tries for a kind. -/
noncomputable def opC (st : Int) (W : List (List UInt8)) (k : Int) : POp :=
  if k = 1 ∨ k = 4 then ⟨k, 0, atV W 1, 0⟩ else if k = 6 then ⟨k, atV W 1, atV W 2, if st = 5 then atV W 3 else 0⟩ else if k = 7 ∨ k = 8 then ⟨k, atV W 1, 0, 0⟩ else ⟨k, 0, 0, 0⟩
theorem opC_kind (st : Int) (W : List (List UInt8)) (k : Int) : (opC st W k).kind = k := by
  unfold opC
  split
  · rfl
  · split
    · rfl
    · split <;> rfl
theorem atV_1 (w : List UInt8) (v : Int) (h0 : 0 ≤ v) (h1 : v ≤ 1073741824) (r : List (List UInt8)) : atV (w :: Lib.decDigits v.toNat :: r) 1 = v := by
  simp [atV, numOf_dec h0 h1]
theorem atV_2 (w z : List UInt8) (v : Int) (h0 : 0 ≤ v) (h1 : v ≤ 1073741824) (r : List (List UInt8)) : atV (w :: z :: Lib.decDigits v.toNat :: r) 2 = v := by
  simp [atV, numOf_dec h0 h1]
theorem atV_3 (w z y : List UInt8) (v : Int) (h0 : 0 ≤ v) (h1 : v ≤ 1073741824) (r : List (List UInt8)) : atV (w :: z :: y :: Lib.decDigits v.toNat :: r) 3 = v := by
  simp [atV, numOf_dec h0 h1]
theorem opC_own {st : Int} {o : POp} (hf : FitsP st o) : opC st (lineW st o) o.kind = o := by
  have hv := fits_fld hf 2
  have hk := fits_fld hf 1
  have ht := fits_fld hf 3
  have h18 := fits_kind hf
  obtain ⟨kind, key, val, tall⟩ := o
  simp only [fldVal] at hv hk ht
  simp at hv hk ht
  unfold FitsP at hf
  simp only at hf h18
  have : kind = 1 ∨ kind = 2 ∨ kind = 3 ∨ kind = 4 ∨ kind = 5 ∨ kind = 6 ∨ kind = 7 ∨ kind = 8 := by omega
  rcases this with rfl | rfl | rfl | rfl | rfl | rfl | rfl | rfl
  · have e : lineW st ⟨1, key, val, tall⟩ = [opWord 1, Lib.decDigits val.toNat] := by simp [lineW, offs, fldWord, fldVal]
    rw [e]; simp [opC, atV_1 _ val hv.1 hv.2]; omega
  · simp [opC]; omega
  · simp [opC]; omega
  · have e : lineW st ⟨4, key, val, tall⟩ = [opWord 4, Lib.decDigits val.toNat] := by simp [lineW, offs, fldWord, fldVal]
    rw [e]; simp [opC, atV_1 _ val hv.1 hv.2]; omega
  · simp [opC]; omega
  · by_cases h5 : st = 5
    · have e : lineW st ⟨6, key, val, tall⟩ = [opWord 6, Lib.decDigits key.toNat, Lib.decDigits val.toNat, Lib.decDigits tall.toNat] := by simp [lineW, offs, fldWord, fldVal, h5]
      rw [e]; simp [opC, h5, atV_1 _ key hk.1 hk.2, atV_2 _ _ val hv.1 hv.2, atV_3 _ _ _ tall ht.1 ht.2]
    · have e : lineW st ⟨6, key, val, tall⟩ = [opWord 6, Lib.decDigits key.toNat, Lib.decDigits val.toNat] := by simp [lineW, offs, fldWord, fldVal, h5]
      rw [e]; simp [opC, h5, atV_1 _ key hk.1 hk.2, atV_2 _ _ val hv.1 hv.2]; omega
  · have e : lineW st ⟨7, key, val, tall⟩ = [opWord 7, Lib.decDigits key.toNat] := by simp [lineW, offs, fldWord, fldVal]
    rw [e]; simp [opC, atV_1 _ key hk.1 hk.2]; omega
  · have e : lineW st ⟨8, key, val, tall⟩ = [opWord 8, Lib.decDigits key.toNat] := by simp [lineW, offs, fldWord, fldVal]
    rw [e]; simp [opC, atV_1 _ key hk.1 hk.2]; omega

/-! ### Words, byte by byte -/
theorem sp_snoc_hit (c : UInt8) : ∀ l : List UInt8, sp c (l ++ [c]) = sp c l ++ [[]]
  | [] => by simp [sp]
  | a :: l => by
    have ih := sp_snoc_hit c l
    rw [List.cons_append, sp, sp]
    split
    · rw [ih]; rfl
    · rw [ih]
      cases h : sp c l with
      | nil => exact absurd h (sp_ne _ _)
      | cons x xs => rfl
theorem sp_snoc_no (c b : UInt8) (hb : b ≠ c) : ∀ l : List UInt8, ∃ I x, sp c l = I ++ [x] ∧ sp c (l ++ [b]) = I ++ [x ++ [b]]
  | [] => ⟨[], [], rfl, by simp [sp, hb]⟩
  | a :: l => by
    obtain ⟨I, x, h1, h2⟩ := sp_snoc_no c b hb l
    rw [List.cons_append, sp, sp, h1, h2]
    split
    · exact ⟨[] :: I, x, rfl, rfl⟩
    · cases I with
      | nil => exact ⟨[], a :: x, rfl, rfl⟩
      | cons i is => exact ⟨(a :: i) :: is, x, rfl, rfl⟩

/-! ### Lines, one behind the other -/
/-- A script behind j of its lines. -/
def preX (y : PScr) : Nat → PScr
  | 0 => zScr
  | j + 1 => ⟨y.st, y.en, y.th, y.sl, y.no, y.ops.take j, y.picks.take (16 * (j - y.ops.length))⟩
def ends (ls : List (List UInt8)) : List UInt8 := ls.flatMap (· ++ [10])
theorem text_ends (y : PScr) : textL y = ends (linesOf y) := by rw [textL]; unfold linesOf ends; rw [flat_end]
theorem ends_append (a b : List (List UInt8)) : ends (a ++ b) = ends a ++ ends b := by simp [ends]
/-- The state x, behind the first f bytes, is y's. -/
def Mt (y : PScr) (D : List UInt8) (f : Nat) (x : PScr) : Prop := ∃ j, j ≤ (linesOf y).length ∧ D.take f = ends ((linesOf y).take j) ∧ f ≤ D.length ∧ x = preX y j
theorem mt_start (y : PScr) (D : List UInt8) : Mt y D 0 zScr := ⟨0, Nat.zero_le _, by simp [ends], Nat.zero_le _, rfl⟩
theorem ends_pos {ls : List (List UInt8)} (h : ls ≠ []) : 0 < (ends ls).length := by
  cases ls with
  | nil => exact absurd rfl h
  | cons l ls => simp [ends]; omega
theorem mt_line {y : PScr} (hy : Canon y) {D : List UInt8} (hD : textL y = D) {f : Nat} {x : PScr} (M : Mt y D f x) {i : Nat} (hfi : f ≤ i) (hi : D[i]? = some 10) (hno : ∀ p, f ≤ p → p < i → D[p]? ≠ some 10) :
    ∃ j, ∃ h : j < (linesOf y).length, x = preX y j ∧ (D.drop f).take (i - f) = (linesOf y)[j] ∧ (f = 0 ↔ j = 0) ∧ Mt y D (i + 1) (preX y (j + 1)) := by
  obtain ⟨j, hj, hT, hf, rfl⟩ := M
  have hE : D = ends ((linesOf y).take j) ++ ends ((linesOf y).drop j) := by rw [← ends_append, List.take_append_drop, ← text_ends, hD]
  have hl : f = (ends ((linesOf y).take j)).length := by rw [← hT, List.length_take]; omega
  have hd : D.drop f = ends ((linesOf y).drop j) := by rw [hl, hE, List.drop_left' rfl]
  have hiD : i < D.length := (List.getElem?_eq_some_iff.1 hi).1
  have hjl : j < (linesOf y).length := by
    rcases Nat.lt_or_ge j (linesOf y).length with h | h
    · exact h
    · rw [List.drop_eq_nil_of_le h] at hd
      have := congrArg List.length hd
      simp [ends] at this
      omega
  obtain ⟨l, hl0⟩ : ∃ l, l = (linesOf y)[j] := ⟨_, rfl⟩
  have hdr : (linesOf y).drop j = l :: (linesOf y).drop (j + 1) := by rw [hl0]; exact List.drop_eq_getElem_cons hjl
  have h10 : ∀ b ∈ l, b ≠ 10 := by rw [hl0]; exact lines_no10 hy _ (List.getElem_mem hjl)
  rw [hdr] at hd
  have hd2 : D.drop f = l ++ 10 :: ends ((linesOf y).drop (j + 1)) := by rw [hd]; simp [ends]
  have hat : ∀ p, (D.drop f)[p]? = D[f + p]? := fun p => List.getElem?_drop
  have hlen : i - f = l.length := by
    rcases Nat.lt_trichotomy (i - f) l.length with h | h | h
    · exfalso
      have h1 := hat (i - f)
      rw [hd2, List.getElem?_append_left h, show f + (i - f) = i from by omega, hi] at h1
      exact h10 _ (List.mem_of_getElem? h1) rfl
    · exact h
    · exfalso
      have h1 := hat l.length
      rw [hd2, List.getElem?_append_right (Nat.le_refl _)] at h1
      simp at h1
      exact hno (f + l.length) (by omega) (by omega) h1.symm
  refine ⟨j, hjl, rfl, ?_, ?_, j + 1, hjl, ?_, hiD, rfl⟩
  · rw [hd2, hlen, List.take_left', hl0]; rfl
  · constructor
    · intro h0
      rcases Nat.eq_zero_or_pos j with h | h
      · exact h
      · have := ends_pos (ls := (linesOf y).take j) (fun e => by have h9 := congrArg List.length e; rw [List.length_take, List.length_nil] at h9; omega)
        omega
    · intro h0
      rw [hl, h0]; rfl
  · have e : i + 1 = f + (l.length + 1) := by omega
    rw [List.take_succ_eq_append_getElem hjl, ends_append, ← hT, e, List.take_add, hd2, ← hl0]
    congr 1
    rw [show l ++ 10 :: ends ((linesOf y).drop (j + 1)) = (l ++ [10]) ++ ends ((linesOf y).drop (j + 1)) from by simp, List.take_left' (by simp)]
    simp [ends]
theorem mt_fin {y : PScr} (hy : Canon y) {D : List UInt8} (hD : textL y = D) {f : Nat} {x : PScr} (M : Mt y D f x) (hno : ∀ p, f ≤ p → p < D.length → D[p]? ≠ some 10) : x = y := by
  have hend : D[D.length - 1]? = some 10 := by rw [← List.getLast?_eq_getElem?, ← hD]; simp [textL]
  have hpos : 1 ≤ D.length := by rw [← hD]; simp [textL]
  obtain ⟨j, hj, hT, hf, rfl⟩ := M
  have hfD : f = D.length := by
    rcases Nat.lt_or_ge f D.length with h | h
    · exact absurd hend (hno _ (by omega) (by omega))
    · omega
  have hE : D = ends ((linesOf y).take j) ++ ends ((linesOf y).drop j) := by rw [← ends_append, List.take_append_drop, ← text_ends, hD]
  rw [hfD, List.take_length] at hT
  have h0 := congrArg List.length hE
  rw [List.length_append, ← hT] at h0
  have hj2 : (linesOf y).drop j = [] := Decidable.byContradiction fun h => by have := ends_pos h; omega
  have hj3 : (linesOf y).length ≤ j := by have := congrArg List.length hj2; simp at this; omega
  have hL : (linesOf y).length = 1 + y.ops.length + (chunks y.picks).length := by simp [linesOf]; omega
  have hc := chunks_len y.picks
  obtain ⟨q, rfl⟩ : ∃ q, j = q + 1 := ⟨j - 1, by omega⟩
  obtain ⟨a, b, c, d, e, g, p⟩ := y
  simp only [preX, PScr.mk.injEq, true_and] at hL hc ⊢
  exact ⟨List.take_of_length_le (by omega), List.take_of_length_le (by omega)⟩
theorem line_at (y : PScr) (j : Nat) (h : j < (linesOf y).length) : (j = 0 ∧ (linesOf y)[j] = headL y) ∨ (∃ t, ∃ ht : t < y.ops.length, j = t + 1 ∧ (linesOf y)[j] = taskL y.st y.ops[t] ∧ preX y (j + 1) = { preX y j with ops := (preX y j).ops ++ [y.ops[t]] }) ∨
    (∃ t, ∃ ht : t < (chunks y.picks).length, j = y.ops.length + t + 1 ∧ (linesOf y)[j] = pickL (chunks y.picks)[t] ∧ preX y (j + 1) = { preX y j with picks := (preX y j).picks ++ (chunks y.picks)[t] }) := by
  cases j with
  | zero => exact Or.inl ⟨rfl, rfl⟩
  | succ t =>
    refine Or.inr ?_
    have hlen : (linesOf y).length = 1 + y.ops.length + (chunks y.picks).length := by simp [linesOf]; omega
    by_cases ht : t < y.ops.length
    · refine Or.inl ⟨t, ht, rfl, ?_, ?_⟩
      · simp only [linesOf, List.getElem_cons_succ]
        rw [List.getElem_append_left (by simpa using ht)]; simp
      · simp only [preX]
        rw [List.take_succ_eq_append_getElem ht, show t + 1 - y.ops.length = 0 from by omega, show t - y.ops.length = 0 from by omega]
    · have hc : t - y.ops.length < (chunks y.picks).length := by omega
      refine Or.inr ⟨t - y.ops.length, hc, by omega, ?_, ?_⟩
      · simp only [linesOf, List.getElem_cons_succ]
        rw [List.getElem_append_right (by simp; omega)]; simp
      · obtain ⟨g1, _⟩ := chunks_get _ _ hc
        simp only [preX]
        rw [g1, List.take_of_length_le (by omega : y.ops.length ≤ t + 1), List.take_of_length_le (by omega : y.ops.length ≤ t), show 16 * (t + 1 - y.ops.length) = 16 * (t - y.ops.length) + 16 from by omega, List.take_add]
end Go.Proofs.YtciioiklkaannaaGreatDoor
