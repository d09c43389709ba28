/- What stands in no script's text. -/
import Derived.Test.YtciioiklkaannaaDoorAwakeH
namespace Go.Proofs.YtciioiklkaannaaDoor
open Go Go.RowKit
set_option linter.unusedSimpArgs false
set_option linter.unusedVariables false
set_option linter.unusedSectionVars false

/-- No two bytes c side by side. -/
def na (c : UInt8) : List UInt8 → Bool
  | [] => true
  | [_] => true
  | a :: b :: l => !(a == c && b == c) && na c (b :: l)
theorem na_bad (c : UInt8) (B : List UInt8) : ∀ A : List UInt8, na c (A ++ c :: c :: B) = false
  | [] => by simp [na]
  | [a] => by simp [na]
  | a :: b :: A => by
    have h := na_bad c B (b :: A)
    simp only [List.cons_append, na] at h ⊢
    rw [h]; simp
theorem na_cons {c a : UInt8} (h : a ≠ c) : ∀ l, na c (a :: l) = na c l
  | [] => rfl
  | b :: l => by simp [na, h]
theorem na_free {c : UInt8} (m : List UInt8) : ∀ l : List UInt8, (∀ b ∈ l, b ≠ c) → na c (l ++ m) = na c m
  | [], _ => rfl
  | a :: l, h => by rw [List.cons_append, na_cons (h a (by simp)), na_free m l (fun b hb => h b (by simp [hb]))]
theorem na_sep {c : UInt8} {l m : List UInt8} (hl : l ≠ []) (h : ∀ b ∈ l, b ≠ c) : na c (c :: (l ++ m)) = na c (l ++ m) := by
  cases l with
  | nil => exact absurd rfl hl
  | cons a l => simp [na, h a (by simp)]
theorem na_lines : ∀ (ls : List (List UInt8)), (∀ l ∈ ls, l ≠ [] ∧ ∀ b ∈ l, b ≠ 10) → na 10 (ls.flatMap (· ++ [10])) = true ∧ na 10 (10 :: ls.flatMap (· ++ [10])) = true
  | [], _ => ⟨rfl, rfl⟩
  | l :: ls, h => by
    obtain ⟨h1, h2⟩ := h l (by simp)
    have h3 := (na_lines ls (fun x hx => h x (by simp [hx]))).2
    rw [List.flatMap_cons, List.append_assoc, na_sep h1 h2, na_free _ l h2]
    exact ⟨h3, h3⟩
/-- A line: words, one blank apart. -/
def IsLine (l : List UInt8) : Prop := ∃ w ws, l = jn 32 (w :: ws) ∧ ∀ u ∈ w :: ws, u ≠ [] ∧ ∀ b ∈ u, b ≠ 32
theorem na_words (m : List UInt8) : ∀ (ws : List (List UInt8)) (w : List UInt8), (∀ u ∈ w :: ws, u ≠ [] ∧ ∀ b ∈ u, b ≠ 32) → na 32 (jn 32 (w :: ws) ++ 10 :: m) = na 32 m
  | [], w, h => by
    have h1 := h w (by simp)
    rw [show jn 32 [w] = w from by simp [jn], na_free _ w h1.2, na_cons (by decide)]
  | v :: ws, w, h => by
    have h1 := h w (by simp)
    have h2 := h v (by simp)
    have h3 := na_words m ws v (fun u hu => h u (by simp at hu ⊢; exact Or.inr hu))
    have e : jn 32 (w :: v :: ws) ++ 10 :: m = w ++ 32 :: (v ++ (ws.flatMap (32 :: ·) ++ 10 :: m)) := by simp [jn]
    have e2 : jn 32 (v :: ws) ++ 10 :: m = v ++ (ws.flatMap (32 :: ·) ++ 10 :: m) := by simp [jn]
    rw [e, na_free _ w h1.2, na_sep h2.1 h2.2, ← e2, h3]
theorem na_text : ∀ (ls : List (List UInt8)), (∀ l ∈ ls, IsLine l) → na 32 (ls.flatMap (· ++ [10])) = true
  | [], _ => rfl
  | l :: ls, h => by
    obtain ⟨w, ws, rfl, hw⟩ := h l (by simp)
    rw [List.flatMap_cons, List.append_assoc, show ([10] : List UInt8) ++ ls.flatMap (· ++ [10]) = 10 :: ls.flatMap (· ++ [10]) from rfl, na_words _ ws w hw]
    exact na_text ls fun x hx => h x (by simp [hx])
theorem dec_word (n : Nat) : Lib.decDigits n ≠ [] ∧ ∀ b ∈ Lib.decDigits n, b ≠ 32 := ⟨dec_ne n, dec_no 32 (by decide) n⟩
theorem head_line {x : PScr} (h : Canon x) : IsLine (headL x) := by
  refine ⟨yard, _, rfl, fun u hu => ?_⟩
  have hs : stWord x.st ≠ [] ∧ ∀ b ∈ stWord x.st, b ≠ 32 := by
    have := h.st
    have : x.st = 1 ∨ x.st = 2 ∨ x.st = 3 ∨ x.st = 4 ∨ x.st = 5 := by omega
    rcases this with h | h | h | h | h <;> rw [h] <;> decide
  have he : enWord x.en ≠ [] ∧ ∀ b ∈ enWord x.en, b ≠ 32 := by
    have := h.en
    have : x.en = 1 ∨ x.en = 2 ∨ x.en = 3 ∨ x.en = 4 ∨ x.en = 5 := by omega
    rcases this with h | h | h | h | h <;> rw [h] <;> decide
  simp only [List.mem_cons, List.mem_nil_iff, or_false] at hu
  rcases hu with rfl | rfl | rfl | rfl | rfl | rfl
  · decide
  · exact hs
  · exact he
  · exact dec_word _
  · exact dec_word _
  · exact dec_word _
theorem task_line {st : Int} {t : PTask} (h : FitsP st t.op) : IsLine (taskL st t) := by
  obtain ⟨h1, h8⟩ := fits_kind h
  refine ⟨wDo, Lib.decDigits t.thread.toNat :: lineW st t.op, by simp [taskL, lineL, lineW, jn], fun u hu => ?_⟩
  rcases List.mem_cons.1 hu with rfl | hu
  · decide
  rcases List.mem_cons.1 hu with rfl | hu
  · exact dec_word _
  refine ⟨?_, lineW_no32 h u hu⟩
  rcases List.mem_cons.1 hu with rfl | hu
  · have : t.op.kind = 1 ∨ t.op.kind = 2 ∨ t.op.kind = 3 ∨ t.op.kind = 4 ∨ t.op.kind = 5 ∨ t.op.kind = 6 ∨ t.op.kind = 7 ∨ t.op.kind = 8 := by omega
    rcases this with h | h | h | h | h | h | h | h <;> rw [h] <;> decide
  · obtain ⟨o, _, rfl⟩ := List.mem_map.1 hu
    exact dec_ne _
theorem pick_line (ps : List Int) : IsLine (pickL ps) := by
  refine ⟨wPick, ps.map intW, rfl, fun u hu => ?_⟩
  rcases List.mem_cons.1 hu with rfl | hu
  · decide
  · obtain ⟨o, _, rfl⟩ := List.mem_map.1 hu
    exact dec_word _
theorem all_lines {x : PScr} (h : Canon x) : ∀ l ∈ linesOf x, IsLine l := by
  intro l hl
  simp only [linesOf, List.mem_cons, List.mem_append, List.mem_map] at hl
  rcases hl with rfl | ⟨t, ht, rfl⟩ | ⟨c, _, rfl⟩
  · exact head_line h
  · exact task_line (h.ops t ht).2.2
  · exact pick_line c
theorem line_ne {l : List UInt8} (h : IsLine l) : l ≠ [] := by
  obtain ⟨w, ws, rfl, hw⟩ := h
  have := (hw w (by simp)).1
  intro e
  simp [jn] at e
  exact this e.1
theorem text_na {x : PScr} (h : Canon x) : na 10 (textL x) = true ∧ na 32 (textL x) = true := by
  have e : textL x = (linesOf x).flatMap (· ++ [10]) := by rw [textL]; unfold linesOf; rw [flat_end]
  rw [e]
  exact ⟨(na_lines _ fun l hl => ⟨line_ne (all_lines h l hl), lines_no10 h l hl⟩).1, na_text _ (all_lines h)⟩
/-- Two ends of lines, two blanks, side by side. -/
theorem no_two {c : UInt8} (hc : c = 10 ∨ c = 32) (A B : List UInt8) (s : ByteArray) (hs : bs (A ++ c :: c :: B) = s) : ∀ x, goodB x = true → bs (textL x) ≠ s := fun x hx e => by
  have h1 := text_na (canon_of_good hx)
  have h2 := bs_inj (e.trans hs.symm)
  have h3 := na_bad c B A
  rw [← h2] at h3
  rcases hc with rfl | rfl
  · rw [h1.1] at h3; cases h3
  · rw [h1.2] at h3; cases h3
theorem no_last (A : List UInt8) (c : UInt8) (hc : c ≠ 10) (s : ByteArray) (hs : bs (A ++ [c]) = s) : ∀ x, goodB x = true → bs (textL x) ≠ s := fun x _ e => by
  have h2 := congrArg List.getLast? (bs_inj (e.trans hs.symm))
  simp [textL] at h2
  exact hc h2.symm
end Go.Proofs.YtciioiklkaannaaDoor
