/- A script's text, read by the reference: one line's laws. -/
import Derived.Test.YtciioiklkaannaaGreatDoorRdP
namespace Go.Proofs.YtciioiklkaannaaGreatDoor
open Go Go.RowKit
set_option linter.unusedSimpArgs false
set_option linter.unusedVariables false
set_option linter.unusedSectionVars false

theorem lines_len {y : PScr} (hy : Canon y) : ∀ l ∈ linesOf y, l.length ≤ 200 := by
  intro l hl
  simp only [linesOf, List.mem_cons, List.mem_append, List.mem_map] at hl
  rcases hl with rfl | ⟨t, ht, rfl⟩ | ⟨c, hc, rfl⟩
  · have a1 := stWord_len hy.st.1 hy.st.2; have a2 := enWord_len hy.en.1 hy.en.2
    have a3 := dec_le hy.th.1 hy.th.2; have a4 := dec_le hy.sl.1 hy.sl.2; have a5 := dec_le hy.no.1 hy.no.2
    simp [headL, headW, jn, yard]; omega
  · obtain ⟨t1, t2, t3⟩ := hy.ops t ht
    have h2 := dec_le t1 t2
    have h3 := lineL_len t3
    simp [taskL, wDo]; omega
  · obtain ⟨n, hn, rfl⟩ := List.mem_iff_getElem.1 hc
    obtain ⟨g1, _⟩ := chunks_get _ _ hn
    rw [g1]
    have h1 := words_len (ps := (y.picks.drop (16 * n)).take 16) fun p hp => hy.picks p (List.mem_of_mem_drop (List.mem_of_mem_take hp))
    rw [List.length_take] at h1
    simp only [pickL, jn, List.length_append, wPick, List.length_cons, List.length_nil]
    omega

/-- Every script with the text is x behind f bytes. -/
def Tx (D : List UInt8) (f : Nat) (x : PScr) : Prop := ∀ y, goodB y = true → textL y = D → Mt y D f x
def NoG (D : List UInt8) : Prop := ∀ y, goodB y = true → textL y ≠ D
/-- A line between f and i. -/
structure Ln (D : List UInt8) (f i : Nat) : Prop where
  fi : f ≤ i
  at_ : D[i]? = some 10
  no : ∀ p, f ≤ p → p < i → D[p]? ≠ some 10
theorem tx_start (D : List UInt8) : Tx D 0 zScr := fun y _ _ => mt_start y D
theorem ln_len {D : List UInt8} {f i : Nat} (L : Ln D f i) : ((D.drop f).take (i - f)).length = i - f := by
  have hiD : i < D.length := (List.getElem?_eq_some_iff.1 L.at_).1
  rw [List.length_take, List.length_drop]; omega
theorem ln_long {D : List UInt8} {f i : Nat} {x : PScr} (T : Tx D f x) (L : Ln D f i) (h : 200 < i - f) : NoG D := fun y hg hD => by
  have hy := canon_of_good hg
  obtain ⟨j, hj, _, h1, _⟩ := mt_line hy hD (T y hg hD) L.fi L.at_ L.no
  have h2 := lines_len hy _ (List.getElem_mem hj)
  rw [← h1, ln_len L] at h2
  omega

/-! ### The first line -/
structure HS (W : List (List UInt8)) (y : PScr) (k : Nat) (st en : Int) : Prop where
  w : W = headW y.st y.en y.th.toNat y.sl.toNat y.no.toNat
  s : y.st < k → st = y.st
  e : y.en < k → en = y.en
def TxH (D : List UInt8) (i : Nat) (W : List (List UInt8)) (ops : List PTask) (picks : List Int) (k : Nat) (st en : Int) : Prop :=
  ∀ y, goodB y = true → textL y = D → ops = [] ∧ picks = [] ∧ HS W y k st en ∧ Mt y D (i + 1) ⟨y.st, y.en, y.th, y.sl, y.no, [], []⟩
theorem sp_head {y : PScr} (hy : Canon y) : sp 32 (headL y) = headW y.st y.en y.th.toNat y.sl.toNat y.no.toNat := by
  have h1 := (cfg_own hy).2.2.2.2.2.2.2
  rwa [bs_data] at h1
theorem txh_start {D : List UInt8} {i : Nat} {x : PScr} (T : Tx D 0 x) (L : Ln D 0 i) {W : List (List UInt8)} (hW : W = sp 32 ((D.drop 0).take (i - 0))) : TxH D i W x.ops x.picks 1 x.st x.en := fun y hg hD => by
  have hy := canon_of_good hg
  obtain ⟨j, hj, hx, h1, h0, M⟩ := mt_line hy hD (T y hg hD) L.fi L.at_ L.no
  obtain rfl := h0.1 rfl
  have e0 : (linesOf y)[0] = headL y := rfl
  rw [e0] at h1
  refine ⟨by rw [hx]; rfl, by rw [hx]; rfl, ⟨by rw [hW, h1, sp_head hy], fun h => ?_, fun h => ?_⟩, ?_⟩
  · have := hy.st.1; omega
  · have := hy.en.1; omega
  · simpa [preX] using M
theorem stWord_ne {a b : Int} (ha : 1 ≤ a ∧ a ≤ 5) (hb : 1 ≤ b ∧ b ≤ 5) (h : stWord a = stWord b) : a = b := by
  have := congrArg (fun l => stOf (bs l)) h
  rwa [stOf_hit ha.1 ha.2, stOf_hit hb.1 hb.2] at this
theorem enWord_ne {a b : Int} (ha : 1 ≤ a ∧ a ≤ 5) (hb : 1 ≤ b ∧ b ≤ 5) (h : enWord a = enWord b) : a = b := by
  have := congrArg (fun l => enOf (bs l)) h
  rwa [enOf_hit ha.1 ha.2, enOf_hit hb.1 hb.2] at this
theorem txh_step {D : List UInt8} {i : Nat} {W : List (List UInt8)} {ops : List PTask} {picks : List Int} {k : Nat} {st en st' en' : Int} (T : TxH D i W ops picks k st en) (h1 : 1 ≤ k) (h5 : k ≤ 5) (hl : W.length = 6)
    (hs : st' = if W[1] = stWord k then (k : Int) else st) (he : en' = if W[2] = enWord k then (k : Int) else en) : TxH D i W ops picks (k + 1) st' en' := fun y hg hD => by
  obtain ⟨a, b, H, M⟩ := T y hg hD
  have hy := canon_of_good hg
  refine ⟨a, b, ⟨H.w, fun h => ?_, fun h => ?_⟩, M⟩
  · have e : W[1] = stWord y.st := by simp only [H.w]; rfl
    rw [hs, e]
    by_cases hk : y.st = k
    · rw [if_pos (by rw [hk]), hk]
    · rw [if_neg (fun e => hk (stWord_ne hy.st ⟨by omega, by omega⟩ e))]
      exact H.s (by omega)
  · have e : W[2] = enWord y.en := by simp only [H.w]; rfl
    rw [he, e]
    by_cases hk : y.en = k
    · rw [if_pos (by rw [hk]), hk]
    · rw [if_neg (fun e => hk (enWord_ne hy.en ⟨by omega, by omega⟩ e))]
      exact H.e (by omega)
theorem txh_end {D : List UInt8} {i : Nat} {W : List (List UInt8)} {ops : List PTask} {picks : List Int} {k : Nat} {st en : Int} (T : TxH D i W ops picks k st en) (hk : 6 ≤ k ∨ W.length ≠ 6) : Tx D (i + 1) ⟨st, en, atV W 3, atV W 4, atV W 5, ops, picks⟩ := fun y hg hD => by
  obtain ⟨rfl, rfl, H, M⟩ := T y hg hD
  have hy := canon_of_good hg
  have hl : W.length = 6 := by rw [H.w]; rfl
  have hk6 : 6 ≤ k := by omega
  have hs := H.s (by have := hy.st.2; omega)
  have he := H.e (by have := hy.en.2; omega)
  have a3 : atV W 3 = y.th := by rw [H.w]; simp [atV, headW, numOf_dec hy.th.1 hy.th.2]
  have a4 : atV W 4 = y.sl := by rw [H.w]; simp [atV, headW, numOf_dec hy.sl.1 hy.sl.2]
  have a5 : atV W 5 = y.no := by rw [H.w]; simp [atV, headW, numOf_dec hy.no.1 hy.no.2]
  rw [hs, he, a3, a4, a5]
  exact M

/-! ### The lines behind it -/
theorem sp_taskL {st : Int} {t : PTask} : sp 32 (taskL st t) = wDo :: Lib.decDigits t.thread.toNat :: sp 32 (lineL st t.op) := by
  unfold taskL
  rw [sp_hit 32 wDo _ (by decide), sp_hit 32 _ _ (dec_no 32 (by decide) _)]
theorem ln_rest {D : List UInt8} {f i : Nat} {x : PScr} (L : Ln D f i) (hf : f ≠ 0) {y : PScr} (hy : Canon y) (hD : textL y = D) (M : Mt y D f x) :
    x.st = y.st ∧ ((∃ t, t ∈ y.ops ∧ (D.drop f).take (i - f) = taskL y.st t ∧ Mt y D (i + 1) { x with ops := x.ops ++ [t] }) ∨
      (∃ c : List Int, (∀ p ∈ c, 0 ≤ p ∧ p ≤ 1073741824) ∧ (D.drop f).take (i - f) = pickL c ∧ Mt y D (i + 1) { x with picks := x.picks ++ c })) := by
  obtain ⟨j, hj, hx, h1, h0, M'⟩ := mt_line hy hD M L.fi L.at_ L.no
  have hj0 : j ≠ 0 := fun e => hf (h0.2 e)
  refine ⟨?_, ?_⟩
  · obtain ⟨q, rfl⟩ : ∃ q, j = q + 1 := ⟨j - 1, by omega⟩
    rw [hx]; rfl
  · rcases line_at y j hj with ⟨e, _⟩ | ⟨t, ht, _, e1, e2⟩ | ⟨t, ht, _, e1, e2⟩
    · exact absurd e hj0
    · rw [e2, ← hx] at M'
      exact Or.inl ⟨_, List.getElem_mem ht, h1.trans e1, M'⟩
    · rw [e2, ← hx] at M'
      refine Or.inr ⟨_, fun p hp => ?_, h1.trans e1, M'⟩
      obtain ⟨g1, _⟩ := chunks_get _ _ ht
      rw [g1] at hp
      exact hy.picks p (List.mem_of_mem_drop (List.mem_of_mem_take hp))
theorem jn_cons2 (a b c : List UInt8) (r : List (List UInt8)) : ∃ z, jn 32 (a :: b :: c :: r) = a ++ 32 :: (b ++ 32 :: z) := ⟨c ++ r.flatMap (32 :: ·), by simp [jn]⟩
theorem ln_do_len {S : List UInt8} {W : List (List UInt8)} (hW : W = sp 32 S) (h0 : W[0]? = some wDo) (h2 : 2 < W.length) : 4 + (W[1]).length ≤ S.length := by
  have h := jn_sp 32 S
  rw [← hW] at h
  match W, h0, h2, h with
  | a :: b :: c :: r, h0, _, h =>
    have : a = wDo := by simpa using h0
    subst this
    obtain ⟨z, hz⟩ := jn_cons2 wDo b c r
    rw [← h, hz]
    simp [wDo]; omega
theorem task_drop (st : Int) (t : PTask) : (taskL st t).drop (4 + (Lib.decDigits t.thread.toNat).length) = lineL st t.op := by
  unfold taskL
  rw [show wDo ++ 32 :: (Lib.decDigits t.thread.toNat ++ 32 :: lineL st t.op) = (wDo ++ 32 :: (Lib.decDigits t.thread.toNat ++ [32])) ++ lineL st t.op from by simp]
  exact List.drop_left' (by simp [wDo]; omega)
section
variable {D : List UInt8} {f i : Nat} {x : PScr} (T : Tx D f x) (L : Ln D f i) (hf : f ≠ 0) {W : List (List UInt8)} (hW : W = sp 32 ((D.drop f).take (i - f)))
include T L hf hW
theorem ln_do_y (h0 : W[0]? = some wDo) (h2 : 2 < W.length) {y : PScr} (hg : goodB y = true) (hD : textL y = D) :
    ∃ t, t ∈ y.ops ∧ x.st = y.st ∧ W[1] = Lib.decDigits t.thread.toNat ∧ atV W 1 = t.thread ∧ 0 ≤ t.thread ∧ FitsP y.st t.op ∧ (D.drop f).take (i - f) = taskL y.st t ∧ Mt y D (i + 1) { x with ops := x.ops ++ [t] } := by
  have hy := canon_of_good hg
  obtain ⟨hs, ⟨t, ht, hl, M⟩ | ⟨c, _, hl, _⟩⟩ := ln_rest L hf hy hD (T y hg hD)
  · have hw : W = wDo :: Lib.decDigits t.thread.toNat :: sp 32 (lineL y.st t.op) := by rw [hW, hl, sp_taskL]
    obtain ⟨t1, t2, t3⟩ := hy.ops t ht
    refine ⟨t, ht, hs, by simp only [hw]; rfl, by rw [hw, atV_1 _ _ t1 t2], t1, t3, hl, M⟩
  · exfalso
    rw [hW, hl, sp_pick] at h0
    have : wPick = wDo := by simpa using h0
    exact absurd this (by decide)
theorem ln_do_no (h0 : W[0]? = some wDo) (h2 : 2 < W.length) (hn : atV W 1 < 0) : NoG D := fun y hg hD => by
  obtain ⟨t, _, _, _, e, h, _⟩ := ln_do_y T L hf hW h0 h2 hg hD
  omega
theorem ln_do_bad (h0 : W[0]? = some wDo) (h2 : 2 < W.length) {z : ByteArray} (hz : z = bs (((D.drop f).take (i - f)).drop (4 + (W[1]).length))) (hR : ∀ op, FitsP x.st op → bs (lineL x.st op) ≠ z) : NoG D := fun y hg hD => by
  obtain ⟨t, _, hs, h1, _, _, hfit, hl, _⟩ := ln_do_y T L hf hW h0 h2 hg hD
  refine hR t.op (by rw [hs]; exact hfit) ?_
  rw [hz, hl, h1, task_drop, hs]
theorem ln_do (h0 : W[0]? = some wDo) (h2 : 2 < W.length) {z : ByteArray} (hz : z = bs (((D.drop f).take (i - f)).drop (4 + (W[1]).length))) {op : POp} (hfi : FitsP x.st op) (ht : bs (lineL x.st op) = z) {n : Int} (hn : n = atV W 1) : Tx D (i + 1) { x with ops := x.ops ++ [⟨n, op⟩] } := fun y hg hD => by
  obtain ⟨t, _, hs, h1, e, _, hfit, hl, M⟩ := ln_do_y T L hf hW h0 h2 hg hD
  rw [hz, hl, h1, task_drop, hs] at ht
  rw [hs] at hfi
  have e2 : op = t.op := by
    obtain ⟨q, qs, hq⟩ : ∃ q qs, sp 32 (bs (lineL y.st op)).data.toList = q :: qs := by
      cases h : sp 32 (bs (lineL y.st op)).data.toList with
      | nil => exact absurd h (sp_ne _ _)
      | cons q qs => exact ⟨q, qs, rfl⟩
    obtain ⟨_, ⟨ns, hns⟩, q1⟩ := read_back hq hfi rfl
    obtain ⟨_, _, q2⟩ := read_back hq hfit ht.symm
    rw [← q1 ns hns, q2 ns hns]
  rw [hn, e, e2]
  exact M
theorem ln_pick (h : ¬ (W[0]? = some wDo ∧ 2 < W.length)) : Tx D (i + 1) { x with picks := x.picks ++ (List.range (W.length - 1)).map (fun j => atV W (j + 1)) } := fun y hg hD => by
  have hy := canon_of_good hg
  obtain ⟨hs, ⟨t, ht, hl, M⟩ | ⟨c, hc, hl, M⟩⟩ := ln_rest L hf hy hD (T y hg hD)
  · exfalso
    refine h ?_
    rw [hW, hl, sp_taskL]
    refine ⟨rfl, ?_⟩
    have := List.length_pos_iff.2 (sp_ne 32 (lineL y.st t.op))
    simp; omega
  · have hw : W = wPick :: c.map intW := by rw [hW, hl, sp_pick]
    have e : (List.range (W.length - 1)).map (fun j => atV W (j + 1)) = c := by
      apply List.ext_getElem
      · simp [hw]
      · intro n h1 h2
        have e1 : W[n + 1]? = some (intW c[n]) := by rw [hw]; simp [h2]
        obtain ⟨p1, p2⟩ := hc _ (List.getElem_mem h2)
        obtain ⟨q1, q2⟩ := List.getElem?_eq_some_iff.1 e1
        simp only [List.getElem_map, List.getElem_range, atV, q1, dite_true, q2]
        exact numOf_dec p1 p2
    rw [e]
    exact M
end
theorem tx_fin {D : List UInt8} {f : Nat} {x : PScr} (T : Tx D f x) (hno : ∀ p, f ≤ p → p < D.length → D[p]? ≠ some 10) : ∀ y, goodB y = true → textL y = D → x = y := fun y hg hD => mt_fin (canon_of_good hg) hD (T y hg hD) hno
end Go.Proofs.YtciioiklkaannaaGreatDoor
