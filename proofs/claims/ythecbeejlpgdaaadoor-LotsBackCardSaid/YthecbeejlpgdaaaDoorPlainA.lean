/- Scripts and their bytes: plain facts, no program in sight. -/
import Derived.Test.YthecbeejlpgdaaaDoorFnEncB
namespace Go.Proofs.YthecbeejlpgdaaaDoor
open Go Go.RowKit
set_option linter.unusedSimpArgs false
set_option linter.unusedVariables false
set_option linter.unusedSectionVars false

theorem bat_getD (s : ByteArray) (i : Nat) : bat s i = (s.data.toList.getD i 0).toNat := by
  unfold bat
  split
  · rename_i h
    have h' : i < s.data.toList.length := by simpa using h
    rw [List.getD_eq_getElem?_getD, List.getElem?_eq_getElem h', Option.getD_some]
    rfl
  · rename_i h
    have h' : s.data.toList.length ≤ i := by simpa using h
    rw [List.getD_eq_getElem?_getD, List.getElem?_eq_none h']
    rfl
theorem bat_append (a b : ByteArray) (i : Nat) : bat (a ++ b) i = if i < a.size then bat a i else bat b (i - a.size) := by
  have e : (a ++ b).data.toList = a.data.toList ++ b.data.toList := by simp
  rw [bat_getD, bat_getD, bat_getD, e]
  split
  · rename_i h
    have h' : i < a.data.toList.length := by simpa using h
    simp only [List.getD_eq_getElem?_getD, List.getElem?_append_left h']
  · rename_i h
    have h' : a.data.toList.length ≤ i := by simpa using h
    simp only [List.getD_eq_getElem?_getD, List.getElem?_append_right h']
    simp
theorem bat_strOf {l : List Int} (hl : ∀ n ∈ l, 0 ≤ n ∧ n ≤ 255) {i : Nat} (hi : i < l.length) : (bat (strOfNums l) i : Int) = l[i] := by
  rw [bat_getD, strOfNums_data]
  simp only [List.getD_eq_getElem?_getD, List.getElem?_map, List.getElem?_eq_getElem hi, Option.map_some, Option.getD_some]
  obtain ⟨h0, h1⟩ := hl _ (List.getElem_mem hi)
  have : (UInt8.ofNat (l[i]).toNat).toNat = (l[i]).toNat := by
    rw [UInt8.toNat_ofNat']
    omega
  rw [this]
  omega

theorem flat4 {α : Type} (f : α → List Int) (hf : ∀ a, (f a).length = 4) : ∀ (l : List α) (i j : Nat) (_ : i < l.length), j < 4 → (l.flatMap f)[4 * i + j]? = (f l[i])[j]? := by
  intro l
  induction l with
  | nil => intro i j h; simp at h
  | cons a l ih =>
    intro i j h hj
    have ha := hf a
    cases i with
    | zero =>
      simp only [List.flatMap_cons, Nat.mul_zero, Nat.zero_add, List.getElem_cons_zero]
      rw [List.getElem?_append_left (by omega)]
    | succ i =>
      simp only [List.flatMap_cons, List.getElem_cons_succ]
      rw [List.getElem?_append_right (by omega), ha, show 4 * (i + 1) + j - 4 = 4 * i + j from by omega]
      exact ih i j (by simpa using h) hj
theorem flat4_length {α : Type} (f : α → List Int) (hf : ∀ a, (f a).length = 4) (l : List α) : (l.flatMap f).length = 4 * l.length := by
  induction l with
  | nil => rfl
  | cons a l ih =>
    have ha := hf a
    simp only [List.flatMap_cons, List.length_append, List.length_cons, ih, ha]
    omega
theorem opNums_length (st : Int) (t : PTask) : (opNums st t).length = 4 := rfl
theorem encNums_length (x : PScr) : (encNums x).length = 6 + 4 * x.ops.length + x.picks.length := by
  unfold encNums
  simp only [List.length_append, flat4_length _ (opNums_length x.st)]
  rfl
theorem encNums_head (x : PScr) {i : Nat} (hi : i < 6) : (encNums x)[i]? = (headNums x)[i]? := by
  unfold encNums
  have hh : (headNums x).length = 6 := rfl
  rw [List.append_assoc, List.getElem?_append_left (by omega)]
theorem encNums_op (x : PScr) {i j : Nat} (hi : i < x.ops.length) (hj : j < 4) : (encNums x)[6 + 4 * i + j]? = (opNums x.st x.ops[i])[j]? := by
  unfold encNums
  have hh : (headNums x).length = 6 := rfl
  have hl := flat4_length _ (opNums_length x.st) x.ops
  rw [List.append_assoc, List.getElem?_append_right (by omega), hh, show 6 + 4 * i + j - 6 = 4 * i + j from by omega, List.getElem?_append_left (by omega)]
  exact flat4 _ (opNums_length x.st) x.ops i j hi hj
theorem encNums_pick (x : PScr) {j : Nat} (hj : j < x.picks.length) : (encNums x)[6 + 4 * x.ops.length + j]? = some x.picks[j] := by
  unfold encNums
  have hh : (headNums x).length = 6 := rfl
  have hl := flat4_length _ (opNums_length x.st) x.ops
  rw [List.getElem?_append_right (by simp only [List.length_append]; omega)]
  simp only [List.length_append, hh, hl]
  rw [show 6 + 4 * x.ops.length + j - (6 + 4 * x.ops.length) = j from by omega, List.getElem?_eq_getElem hj]

theorem encB_parts {x : PScr} (h : encB x = true) : goodB x = true ∧ x.sl ≤ 255 ∧ ∀ t ∈ x.ops, encOk x.st t = true := by
  simp only [encB, Bool.and_eq_true, decide_eq_true_iff, List.all_eq_true] at h
  exact ⟨h.1.1, h.1.2, h.2⟩
theorem encNums_byte {x : PScr} (h : encB x = true) : ∀ n ∈ encNums x, 0 ≤ n ∧ n ≤ 255 := by
  obtain ⟨h1, h2, h3⟩ := encB_parts h
  obtain ⟨g1, g2, g3, g4, g5, g6, g7, g8, g9, g10, g11, g12⟩ := good_cfg h1
  intro n hn
  unfold encNums at hn
  rw [List.mem_append, List.mem_append] at hn
  rcases hn with (hn | hn) | hn
  · simp only [headNums, List.mem_cons, List.not_mem_nil, or_false] at hn
    omega
  · obtain ⟨t, ht, hn⟩ := List.mem_flatMap.1 hn
    obtain ⟨k, hk, rfl⟩ := List.getElem_of_mem ht
    obtain ⟨t1, t2, t3⟩ := good_task h1 hk
    obtain ⟨p1, p2, p3, p4⟩ := parts_bounds t3
    obtain ⟨i1, i2⟩ := place_bounds (d := -1) (fits_kind t3)
    obtain ⟨q1, q2, _⟩ := encOk_yes (h3 _ ht)
    simp only [opNums, List.mem_cons, List.not_mem_nil, or_false] at hn
    omega
  · obtain ⟨k, hk, rfl⟩ := List.getElem_of_mem hn
    have := good_pick h1 hk
    omega
theorem encStr_size (x : PScr) : (strOfNums (encNums x)).size = 6 + 4 * x.ops.length + x.picks.length := by
  rw [strOfNums_size, encNums_length]

/-- A text that begins with a script's bytes. -/
def Begins (s : ByteArray) (x : PScr) : Prop := 6 + 4 * x.ops.length + x.picks.length ≤ s.size ∧ ∀ i n, (encNums x)[i]? = some n → (bat s i : Int) = n

theorem begins_self {x : PScr} (h : encB x = true) : Begins (strOfNums (encNums x)) x := by
  refine ⟨by rw [encStr_size]; exact Nat.le_refl _, fun i n hi => ?_⟩
  obtain ⟨hlt, rfl⟩ := List.getElem?_eq_some_iff.1 hi
  exact bat_strOf (encNums_byte h) hlt
theorem begins_more {x : PScr} (h : encB x = true) (m : ByteArray) : Begins (strOfNums (encNums x) ++ m) x := by
  have hs := begins_self h
  refine ⟨by have := hs.1; simp; omega, fun i n hi => ?_⟩
  obtain ⟨hlt, _⟩ := List.getElem?_eq_some_iff.1 hi
  rw [bat_append, if_pos (by rw [encStr_size]; rw [encNums_length] at hlt; exact hlt)]
  exact hs.2 i n hi

theorem kindAt_place {st n : Int} (h : n ∈ kindsOf st) {b : Nat} (hb : (b : Int) = placeOf (kindsOf st) n (-1)) : kindAt st b = n := by
  unfold placeOf at hb
  rw [if_pos h] at hb
  have hlt := List.idxOf_lt_length_iff.2 h
  have e : b = (kindsOf st).idxOf n := by omega
  subst e
  unfold kindAt
  rw [Nat.mod_eq_of_lt hlt, List.getElem?_eq_getElem hlt, Option.getD_some, List.getElem_idxOf]

theorem begins_dec {s : ByteArray} {x : PScr} (h : encB x = true) (hs : Begins s x) :
    dSt s = x.st ∧ dEn s = x.en ∧ dTh s = x.th ∧ dSl s = x.sl ∧ dNo s = x.no ∧ dN s = x.ops.length ∧ decOps s (dN s) = x.ops ∧ ∀ j (hj : j < x.picks.length), pickAt s (dTh s) (dN s) j = x.picks[j] := by
  obtain ⟨h1, h2, h3⟩ := encB_parts h
  obtain ⟨g1, g2, g3, g4, g5, g6, g7, g8, g9, g10, g11, g12⟩ := good_cfg h1
  have a0 := hs.2 0 (x.st - 1) (by rw [encNums_head x (by omega)]; rfl)
  have a1 := hs.2 1 (x.en - 1) (by rw [encNums_head x (by omega)]; rfl)
  have a2 := hs.2 2 (x.th - 1) (by rw [encNums_head x (by omega)]; rfl)
  have a3 := hs.2 3 x.sl (by rw [encNums_head x (by omega)]; rfl)
  have a4 := hs.2 4 (x.no - 1) (by rw [encNums_head x (by omega)]; rfl)
  have a5 := hs.2 5 x.ops.length (by rw [encNums_head x (by omega)]; rfl)
  have e0 : dSt s = x.st := by unfold dSt; omega
  have e1 : dEn s = x.en := by unfold dEn; omega
  have e2 : dTh s = x.th := by unfold dTh; omega
  have e3 : dSl s = x.sl := by unfold dSl; omega
  have e4 : dNo s = x.no := by unfold dNo; omega
  have e5 : dN s = x.ops.length := by unfold dN; omega
  refine ⟨e0, e1, e2, e3, e4, e5, ?_, fun j hj => ?_⟩
  · rw [e5]
    apply List.ext_getElem (by simp [decOps])
    intro i hi hi'
    have b0 := hs.2 (6 + 4 * i + 0) _ (by rw [encNums_op x hi' (by omega)]; rfl)
    have b1 := hs.2 (6 + 4 * i + 1) _ (by rw [encNums_op x hi' (by omega)]; rfl)
    have b2 := hs.2 (6 + 4 * i + 2) _ (by rw [encNums_op x hi' (by omega)]; rfl)
    have b3 := hs.2 (6 + 4 * i + 3) _ (by rw [encNums_op x hi' (by omega)]; rfl)
    obtain ⟨t1, t2, t3⟩ := good_task h1 hi'
    obtain ⟨_, _, q3⟩ := encOk_yes (h3 _ (List.getElem_mem hi'))
    simp only [decOps, List.getElem_map, List.getElem_range]
    unfold taskAt
    rw [e0, e2, show 7 + 4 * i = 6 + 4 * i + 1 from by omega, show 8 + 4 * i = 6 + 4 * i + 2 from by omega, show 9 + 4 * i = 6 + 4 * i + 3 from by omega,
      kindAt_place (fits_kind t3) b1, b2, b3, q3, show 6 + 4 * i = 6 + 4 * i + 0 from rfl, b0, Int.emod_eq_of_lt t1 t2]
  · have b0 := hs.2 _ _ (encNums_pick x hj)
    obtain ⟨p1, p2⟩ := good_pick h1 hj
    unfold pickAt
    rw [e2, e5, b0, Int.emod_eq_of_lt p1 p2]

theorem dec_self {x : PScr} (h : encB x = true) : dec (strOfNums (encNums x)) = x := by
  obtain ⟨e0, e1, e2, e3, e4, e5, e6, e7⟩ := begins_dec h (begins_self h)
  obtain ⟨h1, _⟩ := encB_parts h
  have g := (good_cfg h1).2.2.2.2.2.2.2.2.2.2.2
  have eP : dP (strOfNums (encNums x)) = x.picks.length := by unfold dP; rw [e5, encStr_size]; omega
  obtain ⟨st, en, th, sl, no, ops, picks⟩ := x
  unfold dec
  rw [e0, e1, e2, e3, e4, e6, eP]
  congr 1
  apply List.ext_getElem (by simp [decPicks])
  intro j hj hj'
  simp only [decPicks, List.getElem_map, List.getElem_range]
  exact e7 j hj'

theorem kindAt_mem {st : Int} (h1 : 1 ≤ st) (h5 : st ≤ 5) (b : Nat) : kindAt st b ∈ kindsOf st := by
  have hst : st = 1 ∨ st = 2 ∨ st = 3 ∨ st = 4 ∨ st = 5 := by omega
  have hlt : b % (kindsOf st).length < (kindsOf st).length := Nat.mod_lt _ (by rcases hst with e | e | e | e | e <;> rw [e] <;> decide)
  unfold kindAt
  rw [List.getElem?_eq_getElem hlt, Option.getD_some]
  exact List.getElem_mem hlt
theorem form_fits {st k x y : Int} (h1 : 1 ≤ st) (h5 : st ≤ 5) (hk : k ∈ kindsOf st) (x0 : 0 ≤ x) (x1 : x ≤ 255) (y0 : 0 ≤ y) (y1 : y ≤ 255) : fitsB st (formOp st k x y) = true := by
  rw [fitsB_true]
  have hst : st = 1 ∨ st = 2 ∨ st = 3 ∨ st = 4 ∨ st = 5 := by omega
  rcases hst with rfl | rfl | rfl | rfl | rfl <;> simp [kindsOf] at hk
  all_goals
    rcases hk with rfl | hk
    · simp [formOp, FitsP]; omega
    · first
        | (rcases hk with rfl | rfl <;> simp [formOp, FitsP] <;> omega)
        | (subst hk; simp [formOp, FitsP])
theorem form_enc {st k x y : Int} {th : Int} (h1 : 1 ≤ st) (h5 : st ≤ 5) (hk : k ∈ kindsOf st) (x0 : 0 ≤ x) (x1 : x ≤ 255) (y0 : 0 ≤ y) (y1 : y ≤ 255) : encOk st ⟨th, formOp st k x y⟩ = true := by
  have hst : st = 1 ∨ st = 2 ∨ st = 3 ∨ st = 4 ∨ st = 5 := by omega
  have d1 : (256 * x + y) / 256 = x := by omega
  have d2 : (256 * x + y) % 256 = y := by omega
  rcases hst with rfl | rfl | rfl | rfl | rfl <;> simp [kindsOf] at hk
  all_goals
    rcases hk with rfl | hk
    · simp [encOk, formOp, partsA, partsB, d1, d2, x1, y1]
    · first
        | (rcases hk with rfl | rfl <;> simp [encOk, formOp, partsA, partsB, x1])
        | (subst hk; simp [encOk, formOp, partsA, partsB])

theorem dec_good (s : ByteArray) : goodB (dec s) = true := by
  have hq : ∀ k, bat s k < 256 := bat_lt s
  have s1 : 1 ≤ dSt s := by unfold dSt; omega
  have s5 : dSt s ≤ 5 := by unfold dSt; have := hq 0; omega
  have t1 : 1 ≤ dTh s := by unfold dTh; omega
  have t6 : dTh s ≤ 6 := by unfold dTh; omega
  refine goodB_yes ?_ ?_ ?_ ?_ ?_
  · rw [goodCfg_true]
    have := hq 3
    have : dEn s ≤ 5 := by unfold dEn; omega
    have : 1 ≤ dEn s := by unfold dEn; omega
    have : dSl s ≤ 1024 := by unfold dSl; omega
    have : 0 ≤ dSl s := by unfold dSl; omega
    have : dNo s ≤ 64 := by unfold dNo; omega
    have : 1 ≤ dNo s := by unfold dNo; omega
    omega
  · rw [decOps_length]; unfold dN; omega
  · rw [decPicks_length]; unfold dP; omega
  · rw [List.all_eq_true]
    intro t ht
    simp only [decOps, List.mem_map, List.mem_range] at ht
    obtain ⟨i, _, rfl⟩ := ht
    have b2 := hq (8 + 4 * i)
    have b3 := hq (9 + 4 * i)
    refine taskOk_mk ?_ ?_ (form_fits s1 s5 (kindAt_mem s1 s5 _) (by omega) (by omega) (by omega) (by omega))
    · exact Int.emod_nonneg _ (by omega)
    · exact Int.emod_lt_of_pos _ (by omega)
  · rw [List.all_eq_true]
    intro p hp
    simp only [decPicks, List.mem_map, List.mem_range] at hp
    obtain ⟨i, _, rfl⟩ := hp
    simp only [pickOk, Bool.and_eq_true, decide_eq_true_iff]
    exact ⟨Int.emod_nonneg _ (by omega), Int.emod_lt_of_pos _ (by omega)⟩
theorem dec_enc (s : ByteArray) : encB (dec s) = true := by
  have hq : ∀ k, bat s k < 256 := bat_lt s
  have s1 : 1 ≤ dSt s := by unfold dSt; omega
  have s5 : dSt s ≤ 5 := by unfold dSt; have := hq 0; omega
  refine encB_yes (dec_good s) ?_ ?_
  · show dSl s ≤ 255
    unfold dSl; have := hq 3; omega
  · rw [List.all_eq_true]
    intro t ht
    simp only [dec, decOps, List.mem_map, List.mem_range] at ht
    obtain ⟨i, _, rfl⟩ := ht
    have b2 := hq (8 + 4 * i)
    have b3 := hq (9 + 4 * i)
    exact form_enc s1 s5 (kindAt_mem s1 s5 _) (by omega) (by omega) (by omega) (by omega)
theorem enc_inj {x y : PScr} (hx : encB x = true) (hy : encB y = true) : strOfNums (encNums x) = strOfNums (encNums y) ↔ x = y :=
  ⟨fun h => by rw [← dec_self hx, ← dec_self hy, h], fun h => by rw [h]⟩
theorem dec_picks_le (s : ByteArray) : (dec s).picks.length ≤ s.size := by
  simp only [dec, decPicks_length]; unfold dP; omega

theorem dec_lens (s : ByteArray) : (dec s).ops.length ≤ 64 ∧ (dec s).picks.length ≤ 4096 := by
  simp only [dec, decOps_length, decPicks_length]
  unfold dN dP
  omega


end Go.Proofs.YthecbeejlpgdaaaDoor
