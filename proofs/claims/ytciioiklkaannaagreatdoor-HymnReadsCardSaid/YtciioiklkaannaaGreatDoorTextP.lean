/- A script's text: plain laws. -/
import Derived.Test.YtciioiklkaannaaGreatDoorCfg
import Derived.Test.YtciioiklkaannaaGreatDoorTask
import Derived.Test.YtciioiklkaannaaGreatDoorPicks
import Derived.Test.YtciioiklkaannaaGreatDoorFnEqZ
namespace Go.Proofs.YtciioiklkaannaaGreatDoor
open Go Go.RowKit
set_option linter.unusedSimpArgs false
set_option linter.unusedVariables false
set_option linter.unusedSectionVars false

def wDo : List UInt8 := [100, 111]
def wPick : List UInt8 := [112, 105, 99, 107]
def headL (x : PScr) : List UInt8 := jn 32 (headW x.st x.en x.th.toNat x.sl.toNat x.no.toNat)
def taskL (st : Int) (t : PTask) : List UInt8 := wDo ++ 32 :: (Lib.decDigits t.thread.toNat ++ 32 :: lineL st t.op)
def intW (p : Int) : List UInt8 := Lib.decDigits p.toNat
def pickL (ps : List Int) : List UInt8 := jn 32 (wPick :: ps.map intW)
def chunks (l : List Int) : List (List Int) := if h : l = [] then [] else l.take 16 :: chunks (l.drop 16)
termination_by l.length
decreasing_by have := List.length_pos_iff.2 h; simp; omega
def linesOf (x : PScr) : List (List UInt8) := headL x :: (x.ops.map (taskL x.st) ++ (chunks x.picks).map pickL)
def textL (x : PScr) : List UInt8 := jn 10 (linesOf x) ++ [10]

theorem chunks_nil : chunks [] = [] := by rw [chunks]; simp
theorem chunks_cons {l : List Int} (h : l ≠ []) : chunks l = l.take 16 :: chunks (l.drop 16) := by rw [chunks, dif_neg h]
theorem chunks_small {l : List Int} (h : l ≠ []) (hl : l.length ≤ 16) : chunks l = [l] := by
  rw [chunks_cons h, List.take_of_length_le hl, List.drop_eq_nil_of_le hl, chunks_nil]
/-- A chunk more, behind whole chunks. -/
theorem chunks_snoc : ∀ (n : Nat) (l : List Int) (c : List Int), l.length = 16 * n → c ≠ [] → c.length ≤ 16 → chunks (l ++ c) = chunks l ++ [c]
  | 0, l, c, h, hc, hl => by
    obtain rfl : l = [] := List.eq_nil_of_length_eq_zero (by omega)
    rw [chunks_nil, List.nil_append, List.nil_append, chunks_small hc hl]
  | n + 1, l, c, h, hc, hl => by
    have hl0 : l ≠ [] := fun e => by rw [e] at h; simp at h
    have h1 : l ++ c ≠ [] := fun e => hl0 (List.append_eq_nil_iff.1 e).1
    rw [chunks_cons h1, chunks_cons hl0, List.take_append_of_le_length (by omega), List.drop_append_of_le_length (by omega), chunks_snoc n _ c (by simp; omega) hc hl]
    rfl
theorem chunks_get : ∀ (j : Nat) (l : List Int) (h : j < (chunks l).length), (chunks l)[j] = (l.drop (16 * j)).take 16 ∧ 16 * j < l.length
  | 0, l, h => by
    have hl : l ≠ [] := fun e => by rw [e, chunks_nil] at h; simp at h
    simp only [chunks_cons hl]
    exact ⟨rfl, by have := List.length_pos_iff.2 hl; omega⟩
  | j + 1, l, h => by
    have hl : l ≠ [] := fun e => by rw [e, chunks_nil] at h; simp at h
    simp only [chunks_cons hl, List.length_cons] at h ⊢
    obtain ⟨h1, h2⟩ := chunks_get j (l.drop 16) (by omega)
    simp only [List.getElem_cons_succ]
    rw [h1, List.drop_drop]
    refine ⟨by congr 2; omega, ?_⟩
    simp at h2; omega
theorem chunks_len_aux : ∀ (n : Nat) (l : List Int), l.length ≤ n → l.length ≤ 16 * (chunks l).length
  | 0, l, h => by omega
  | n + 1, l, h => by
    by_cases hl : l = []
    · rw [hl]; simp
    · have h1 := chunks_len_aux n (l.drop 16) (by have := List.length_pos_iff.2 hl; simp; omega)
      rw [chunks_cons hl, List.length_cons]
      simp at h1; omega
theorem chunks_len (l : List Int) : l.length ≤ 16 * (chunks l).length := chunks_len_aux _ l (Nat.le_refl _)
theorem jn_chars (c : UInt8) (P : UInt8 → Prop) (hc : P c) : ∀ (W : List (List UInt8)), (∀ x ∈ W, ∀ b ∈ x, P b) → ∀ b ∈ jn c W, P b
  | [], _, b, hb => by simp [jn] at hb
  | x :: xs, h, b, hb => by
    simp only [jn, List.mem_append, List.mem_flatMap, List.mem_cons] at hb
    rcases hb with hb | ⟨y, hy, rfl | hb⟩
    · exact h x (by simp) b hb
    · exact hc
    · exact h y (by simp [hy]) b hb
theorem head_no10 (x : PScr) (h1 : 1 ≤ x.st) (h5 : x.st ≤ 5) (e1 : 1 ≤ x.en) (e5 : x.en ≤ 5) : ∀ b ∈ headL x, b ≠ 10 := by
  refine jn_chars 32 (· ≠ 10) (by decide) _ (fun y hy => ?_)
  simp only [headW, List.mem_cons, List.mem_nil_iff, or_false] at hy
  have hs : ∀ b ∈ stWord x.st, b ≠ 10 := by
    have : x.st = 1 ∨ x.st = 2 ∨ x.st = 3 ∨ x.st = 4 ∨ x.st = 5 := by omega
    rcases this with h | h | h | h | h <;> rw [h] <;> decide
  have he : ∀ b ∈ enWord x.en, b ≠ 10 := by
    have : x.en = 1 ∨ x.en = 2 ∨ x.en = 3 ∨ x.en = 4 ∨ x.en = 5 := by omega
    rcases this with h | h | h | h | h <;> rw [h] <;> decide
  rcases hy with rfl | rfl | rfl | rfl | rfl | rfl
  · decide
  · exact hs
  · exact he
  · exact dec_no 10 (by decide) _
  · exact dec_no 10 (by decide) _
  · exact dec_no 10 (by decide) _
theorem opWord_no10 {k : Int} (h1 : 1 ≤ k) (h8 : k ≤ 8) : ∀ b ∈ opWord k, b ≠ 10 := by
  have : k = 1 ∨ k = 2 ∨ k = 3 ∨ k = 4 ∨ k = 5 ∨ k = 6 ∨ k = 7 ∨ k = 8 := by omega
  rcases this with rfl | rfl | rfl | rfl | rfl | rfl | rfl | rfl <;> decide
theorem line_no10 {st : Int} {op : POp} (h : FitsP st op) : ∀ b ∈ lineL st op, b ≠ 10 := by
  obtain ⟨h1, h8⟩ := fits_kind h
  refine jn_chars 32 (· ≠ 10) (by decide) _ (fun y hy => ?_)
  rcases List.mem_cons.1 hy with rfl | hy
  · exact opWord_no10 h1 h8
  · obtain ⟨o, _, rfl⟩ := List.mem_map.1 hy
    exact dec_no 10 (by decide) _
theorem task_no10 {st : Int} {t : PTask} (h : FitsP st t.op) : ∀ b ∈ taskL st t, b ≠ 10 := by
  intro b hb
  simp only [taskL, List.mem_append, List.mem_cons] at hb
  rcases hb with hb | rfl | hb | rfl | hb
  · exact (by decide : ∀ b ∈ wDo, b ≠ 10) b hb
  · decide
  · exact dec_no 10 (by decide) _ b hb
  · decide
  · exact line_no10 h b hb
theorem pick_no10 (ps : List Int) : ∀ b ∈ pickL ps, b ≠ 10 := by
  refine jn_chars 32 (· ≠ 10) (by decide) _ (fun y hy => ?_)
  rcases List.mem_cons.1 hy with rfl | hy
  · decide
  · obtain ⟨o, _, rfl⟩ := List.mem_map.1 hy
    exact dec_no 10 (by decide) _

/-- A script that can be run, or another that has a text. -/
structure Canon (x : PScr) : Prop where
  st : 1 ≤ x.st ∧ x.st ≤ 5
  en : 1 ≤ x.en ∧ x.en ≤ 5
  th : 0 ≤ x.th ∧ x.th ≤ 1073741824
  sl : 0 ≤ x.sl ∧ x.sl ≤ 1073741824
  no : 0 ≤ x.no ∧ x.no ≤ 1073741824
  ops : ∀ t ∈ x.ops, 0 ≤ t.thread ∧ t.thread ≤ 1073741824 ∧ FitsP x.st t.op
  picks : ∀ p ∈ x.picks, 0 ≤ p ∧ p ≤ 1073741824
theorem canon_of_good {x : PScr} (h : goodB x = true) : Canon x := by
  simp only [goodB, Bool.and_eq_true, decide_eq_true_eq, List.all_eq_true] at h
  obtain ⟨⟨⟨⟨hg, _⟩, _⟩, ho⟩, hp⟩ := h
  rw [goodCfg_true] at hg
  refine ⟨by omega, by omega, by omega, by omega, by omega, fun t ht => ?_, fun p hp' => ?_⟩
  · have := ho t ht
    simp only [taskOk, Bool.and_eq_true, decide_eq_true_eq] at this
    exact ⟨this.1.1, by omega, (fitsB_true _ _).1 this.2⟩
  · have := hp p hp'
    simp only [pickOk, Bool.and_eq_true, decide_eq_true_eq] at this
    omega
theorem lines_no10 {x : PScr} (h : Canon x) : ∀ l ∈ linesOf x, ∀ b ∈ l, b ≠ 10 := by
  intro l hl
  simp only [linesOf, List.mem_cons, List.mem_append, List.mem_map] at hl
  rcases hl with rfl | ⟨t, ht, rfl⟩ | ⟨c, _, rfl⟩
  · exact head_no10 x h.st.1 h.st.2 h.en.1 h.en.2
  · exact task_no10 (h.ops t ht).2.2
  · exact pick_no10 c
theorem text_lines {x : PScr} (h : Canon x) : sp 10 (jn 10 (linesOf x)) = linesOf x := sp_jn 10 _ (by simp [linesOf]) (lines_no10 h)
end Go.Proofs.YtciioiklkaannaaGreatDoor
