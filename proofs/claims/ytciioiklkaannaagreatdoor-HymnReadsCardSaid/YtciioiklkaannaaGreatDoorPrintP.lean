/- A script's text, as it is written piece by piece: plain laws. -/
import Derived.Test.YtciioiklkaannaaGreatDoorTextP
namespace Go.Proofs.YtciioiklkaannaaGreatDoor
open Go Go.RowKit
set_option linter.unusedSimpArgs false
set_option linter.unusedVariables false
set_option linter.unusedSectionVars false

theorem flat_end : ∀ (ls : List (List UInt8)) (l : List UInt8), jn 10 (l :: ls) ++ [10] = (l :: ls).flatMap (· ++ [10])
  | [], l => by simp [jn]
  | y :: ys, l => by
    have h := flat_end ys y
    have e : jn 10 (l :: y :: ys) = l ++ 10 :: jn 10 (y :: ys) := by simp [jn]
    rw [e, List.flatMap_cons, ← h]
    simp
def cAt (l : List Int) (k : Nat) : List Int := (l.drop (16 * k)).take 16
theorem chunks_range : ∀ (n : Nat) (l : List Int), (l.length + 15) / 16 = n → chunks l = (List.range n).map (cAt l)
  | 0, l, h => by
    obtain rfl : l = [] := List.eq_nil_of_length_eq_zero (by omega)
    rw [chunks_nil]; rfl
  | n + 1, l, h => by
    have hl : l ≠ [] := fun e => by rw [e] at h; simp at h
    have h1 := List.length_pos_iff.2 hl
    rw [chunks_cons hl, chunks_range n (l.drop 16) (by simp; omega), List.range_succ_eq_map, List.map_cons, List.map_map]
    congr 1
    refine List.map_congr_left fun k _ => ?_
    show ((l.drop 16).drop (16 * k)).take 16 = (l.drop (16 * (k + 1))).take 16
    rw [List.drop_drop]
    congr 2; omega
def headK (x : PScr) (k : Nat) : List UInt8 := jn 32 ((headW x.st x.en x.th.toNat x.sl.toNat x.no.toNat).take (3 + k))
def opsK (x : PScr) (k : Nat) : List UInt8 := headL x ++ [10] ++ (x.ops.take k).flatMap fun t => taskL x.st t ++ [10]
def picksK (x : PScr) (ks : List Nat) : List UInt8 := opsK x x.ops.length ++ ks.flatMap fun k => pickL (cAt x.picks k) ++ [10]
def rowK (x : PScr) (ks : List Nat) (k j : Nat) : List UInt8 := picksK x ks ++ jn 32 (wPick :: ((cAt x.picks k).take j).map intW)
theorem text_picks (x : PScr) : textL x = picksK x (List.range ((x.picks.length + 15) / 16)) := by
  unfold textL linesOf
  rw [flat_end, chunks_range _ _ rfl]
  simp only [picksK, opsK, List.take_length, List.flatMap_cons, List.flatMap_append, List.flatMap_map, List.append_assoc]
theorem head_start (x : PScr) : headK x 0 = [121, 97, 114, 100, 32] ++ stWord x.st ++ [32] ++ enWord x.en := by
  simp [headK, headW, jn, yard]
theorem head_step (x : PScr) (k : Nat) (hk : k < 3) (v : Int) (hv : [x.th, x.sl, x.no][k]? = some v) : headK x (k + 1) = headK x k ++ ([32] ++ Lib.decDigits v.toNat) := by
  match k, hk with
  | 0, _ => simp at hv; subst hv; simp [headK, headW, jn]
  | 1, _ => simp at hv; subst hv; simp [headK, headW, jn]
  | 2, _ => simp at hv; subst hv; simp [headK, headW, jn]
theorem head_fin (x : PScr) : headK x 3 ++ [10] = opsK x 0 := by simp [headK, headW, opsK, headL]
theorem ops_step (x : PScr) (k : Nat) (hk : k < x.ops.length) : opsK x (k + 1) = opsK x k ++ ([100, 111, 32] ++ Lib.decDigits (x.ops[k]).thread.toNat ++ [32] ++ lineL x.st (x.ops[k]).op ++ [10]) := by
  unfold opsK
  rw [List.take_succ_eq_append_getElem hk, List.flatMap_append]
  simp [taskL, wDo]
theorem ops_fin (x : PScr) : picksK x [] = opsK x x.ops.length := by simp [picksK]
theorem row_start (x : PScr) (ks : List Nat) (k : Nat) : rowK x ks k 0 = picksK x ks ++ [112, 105, 99, 107] := by simp [rowK, jn, wPick]
theorem row_step (x : PScr) (ks : List Nat) (k j : Nat) (hj : j < (cAt x.picks k).length) : rowK x ks k (j + 1) = rowK x ks k j ++ ([32] ++ Lib.decDigits ((cAt x.picks k)[j]).toNat) := by
  unfold rowK
  rw [List.take_succ_eq_append_getElem hj, List.map_append, List.map_singleton, List.append_assoc]
  congr 1
  simp [jn, intW]
theorem row_fin (x : PScr) (ks : List Nat) (k : Nat) : rowK x ks k (cAt x.picks k).length ++ [10] = picksK x (ks ++ [k]) := by
  simp [rowK, picksK, pickL]

theorem stWord_len {k : Int} (h1 : 1 ≤ k) (h5 : k ≤ 5) : (stWord k).length ≤ 7 := by
  have : k = 1 ∨ k = 2 ∨ k = 3 ∨ k = 4 ∨ k = 5 := by omega
  rcases this with rfl | rfl | rfl | rfl | rfl <;> decide
theorem enWord_len {k : Int} (h1 : 1 ≤ k) (h5 : k ≤ 5) : (enWord k).length ≤ 8 := by
  have : k = 1 ∨ k = 2 ∨ k = 3 ∨ k = 4 ∨ k = 5 := by omega
  rcases this with rfl | rfl | rfl | rfl | rfl <;> decide
theorem dec_le {n : Int} (h0 : 0 ≤ n) (h1 : n ≤ 1073741824) : (Lib.decDigits n.toNat).length ≤ 10 := dec_len 9 _ (by omega)
theorem lineL_len {st : Int} {op : POp} (h : FitsP st op) : (lineL st op).length ≤ 40 := by
  obtain ⟨h1, h8⟩ := fits_kind h
  have hk := opWord_len h1 h8
  have hl := offs_len st op.kind
  have key : ∀ l : List Nat, (((l.map (fldWord op)).flatMap (fun y => (32 : UInt8) :: y)).length ≤ 11 * l.length) := by
    intro l
    induction l with
    | nil => simp
    | cons o l ih =>
      have := dec_le (fits_fld h o).1 (fits_fld h o).2
      simp only [List.map_cons, List.flatMap_cons, List.length_append, List.length_cons, fldWord] at ih ⊢
      omega
  have := key (offs st op.kind)
  unfold lineL lineW
  simp only [jn, List.length_append]
  omega
theorem head_len (x : PScr) (hx : Canon x) (k : Nat) (hk : k ≤ 3) : (headK x k).length ≤ 60 := by
  have a1 := stWord_len hx.st.1 hx.st.2; have a2 := enWord_len hx.en.1 hx.en.2
  have a3 := dec_le hx.th.1 hx.th.2; have a4 := dec_le hx.sl.1 hx.sl.2; have a5 := dec_le hx.no.1 hx.no.2
  have : k = 0 ∨ k = 1 ∨ k = 2 ∨ k = 3 := by omega
  rcases this with rfl | rfl | rfl | rfl <;> simp [headK, headW, jn, yard] <;> omega
theorem ops_len (x : PScr) (hx : Canon x) : ∀ k, k ≤ x.ops.length → (opsK x k).length ≤ 61 + 60 * k
  | 0, _ => by
    rw [← head_fin]
    have := head_len x hx 3 (by omega)
    simp; omega
  | k + 1, h => by
    have h1 := ops_len x hx k (by omega)
    obtain ⟨t1, t2, t3⟩ := hx.ops _ (List.getElem_mem (show k < x.ops.length by omega))
    have h2 := dec_le t1 t2
    have h3 := lineL_len t3
    rw [ops_step x k (by omega)]
    simp only [List.length_append, List.length_cons, List.length_nil]
    omega
theorem cAt_len (l : List Int) (k : Nat) : (cAt l k).length ≤ 16 := by unfold cAt; rw [List.length_take]; omega
theorem cAt_mem {l : List Int} {k : Nat} {p : Int} (h : p ∈ cAt l k) : p ∈ l := List.mem_of_mem_drop (List.mem_of_mem_take h)
theorem words_len {ps : List Int} (h : ∀ p ∈ ps, 0 ≤ p ∧ p ≤ 1073741824) : ((ps.map intW).flatMap (fun y => (32 : UInt8) :: y)).length ≤ 11 * ps.length := by
  induction ps with
  | nil => simp
  | cons p ps ih =>
    have h1 := ih fun q hq => h q (by simp [hq])
    obtain ⟨p1, p2⟩ := h p (by simp)
    have h2 := dec_le p1 p2
    simp only [List.map_cons, List.flatMap_cons, List.length_append, List.length_cons, intW] at h1 ⊢
    omega
theorem picks_len (x : PScr) (hx : Canon x) (hn : x.ops.length ≤ 64) : ∀ ks, (picksK x ks).length ≤ 4000 + 200 * ks.length := by
  have key : ∀ ks : List Nat, ((ks.flatMap fun k => pickL (cAt x.picks k) ++ [10]).length ≤ 200 * ks.length) := by
    intro ks
    induction ks with
    | nil => simp
    | cons k ks ih =>
      have h1 := words_len (ps := cAt x.picks k) fun p hp => hx.picks p (cAt_mem hp)
      have h2 := cAt_len x.picks k
      simp only [List.flatMap_cons, List.length_append, List.length_cons, List.length_nil, pickL, jn, wPick] at ih h1 ⊢
      omega
  intro ks
  have h1 := ops_len x hx x.ops.length (Nat.le_refl _)
  have h2 := key ks
  unfold picksK
  rw [List.length_append]
  omega
theorem row_len (x : PScr) (hx : Canon x) (hn : x.ops.length ≤ 64) (ks : List Nat) (k j : Nat) : (rowK x ks k j).length ≤ 4200 + 200 * ks.length := by
  have h1 := picks_len x hx hn ks
  have h2 := words_len (ps := (cAt x.picks k).take j) fun p hp => hx.picks p (cAt_mem (List.mem_of_mem_take hp))
  have h3 := cAt_len x.picks k
  rw [List.length_take] at h2
  unfold rowK
  simp only [jn, wPick, List.length_append, List.length_cons, List.length_nil] at h2 ⊢
  omega
end Go.Proofs.YtciioiklkaannaaGreatDoor
