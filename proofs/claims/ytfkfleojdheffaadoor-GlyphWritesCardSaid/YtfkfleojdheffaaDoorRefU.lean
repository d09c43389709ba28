/- The reference's Unpack. -/
import Derived.Test.YtfkfleojdheffaaDoorRefB
import Derived.Test.YtfkfleojdheffaaDoorStore
import Derived.Test.YtfkfleojdheffaaDoorUnpack0
import Derived.Test.YtfkfleojdheffaaDoorReg2
import Derived.LoopTactic
import Derived.Deep.CutBlock
namespace Go.Proofs.YtfkfleojdheffaaDoor
open Go Go.RowKit
set_option linter.unusedSimpArgs false
set_option linter.unusedVariables false
set_option linter.unusedSectionVars false

/-- What the reference says of a text. -/
def RetRef (s : ByteArray) (w : World) (e : Ending) (w' : World) : Prop :=
  (∃ x, GoodP x ∧ bs (txt x) = s ∧ e = .returned (.tuple #[x.v, .bool true]) ∧ Below w.heap.size w w') ∨ (NoWord s ∧ e = .returned (.tuple #[PW.zero.v, .bool false]) ∧ Below w.heap.size w w')

def ints (l : List Int) : Array Value := (l.map (Value.int .i64)).toArray
def bools (l : List Bool) : Array Value := (l.map Value.bool).toArray
theorem ints_get (l : List Int) (k : Nat) (h : k < l.length) : (ints l)[k]? = some (.int .i64 l[k]) := by simp [ints, h]
theorem bools_get (l : List Bool) (k : Nat) (h : k < l.length) : (bools l)[k]? = some (.bool l[k]) := by simp [bools, h]
theorem ints_set (l : List Int) (k : Nat) (v : Int) : (ints l).setIfInBounds k (.int .i64 v) = ints (l.set k v) := by simp [ints, List.map_set]
theorem bools_set (l : List Bool) (k : Nat) (v : Bool) : (bools l).setIfInBounds k (.bool v) = bools (l.set k v) := by simp [bools, List.map_set]

/-- The round's state. -/
structure RU (w : World) (s : ByteArray) (k p : Nat) (LL : List Int) (BB : List Bool) (wr : World) : Prop where
  hk : k ≤ 4
  hp : p ≤ s.size
  ll : LL.length = 4
  bb : BB.length = 4
  fresh : ∀ i (h : i < BB.length), k ≤ i → BB[i] = false
  inv : ∀ x, GoodP x → bs (txt x) = s → s.data.toList.drop p = tl x k ∧ ∀ i (h : i < LL.length), i < k → LL[i] = fld x i
  b0 : Bk wr w.heap.size 23 #[.int .i64 0, .int .i64 0, .int .i64 0, .int .i64 0, .bool false]
  b1 : Bk wr (w.heap.size + 1) 23 #[.int .i64 0, .int .i64 0, .int .i64 0, .int .i64 0, .bool false]
  b2 : Bk wr (w.heap.size + 1 + 1) 52 (ints LL)
  b3 : Bk wr (w.heap.size + 1 + 1 + 1) 55 (bools BB)
  below : Below w.heap.size w wr

theorem txt_tl (x : PW) : (txt x).drop 1 = tl x 0 := by rw [txt_eq]; rfl
theorem bs_data (l : List UInt8) : (bs l).data.toList = l := by simp [bs]
theorem s_at (s : ByteArray) (p : Nat) (h : p < s.size) : s.data.toList[p]? = some s[p] := by
  rw [List.getElem?_eq_getElem (by simpa using h)]; rfl
theorem s_len (s : ByteArray) : s.data.toList.length = s.size := by simp

theorem inv_step {s : ByteArray} {k p : Nat} {LL : List Int} (inv : ∀ x, GoodP x → bs (txt x) = s → s.data.toList.drop p = tl x k ∧ ∀ i (h : i < LL.length), i < k → LL[i] = fld x i)
    (hk : k < 4) (hl : LL.length = 4) (sg : Bool) (f q : Nat) (n : Int) (hsg : if sg then s.data.toList[p + 1]? = some 45 ∧ f = p + 2 else s.data.toList[p + 1]? ≠ some 45 ∧ f = p + 1)
    (hq : f + q ≤ s.size) (hall : ∀ c ∈ (s.data.toList.drop f).take q, isDig c) (hend : q = 14 ∨ f + q = s.size ∨ ∃ c, s.data.toList[f + q]? = some c ∧ ¬ isDig c)
    (hn : n = if sg then - dval ((s.data.toList.drop f).take q) else dval ((s.data.toList.drop f).take q)) :
    ∀ x, GoodP x → bs (txt x) = s → s.data.toList.drop (f + q) = tl x (k + 1) ∧ ∀ i (h : i < (LL.set k n).length), i < k + 1 → (LL.set k n)[i] = fld x i := by
  intro x hx hs
  obtain ⟨h1, h2⟩ := inv x hx hs
  rw [tl_step x k hk] at h1
  have hD : s.data.toList.drop (p + 1) = Lib.itoa (fld x k) ++ tl x (k + 1) := by
    rw [← List.drop_drop, h1]; rfl
  have h0 : (s.data.toList.drop (p + 1))[0]? = s.data.toList[p + 1]? := by simp
  have hlen := s_len s
  have main : n = fld x k ∧ s.data.toList.drop (f + q) = tl x (k + 1) := by
    rcases num_read hD (fld_bd x hx k).1 (fld_bd x hx k).2 (tl_next x k) with ⟨_, g1, g2⟩ | ⟨_, ⟨c, g1, g3⟩, g2⟩
    · rw [h0] at g1
      cases sg
      · exact absurd g1 hsg.1
      · obtain ⟨_, rfl⟩ := hsg
        simp only [if_true] at hn
        rw [List.drop_drop] at g2
        obtain ⟨e1, e2⟩ := g2 q (by rw [List.length_drop]; omega) hall (by
          rcases hend with h | h | ⟨c, h, h'⟩
          · exact Or.inl h
          · exact Or.inr (Or.inl (by rw [List.length_drop]; omega))
          · exact Or.inr (Or.inr ⟨c, by rw [List.getElem?_drop]; exact h, h'⟩))
        exact ⟨hn.trans e1, by rw [List.drop_drop] at e2; exact e2⟩
    · rw [h0] at g1
      cases sg
      · obtain ⟨_, rfl⟩ := hsg
        simp only [Bool.false_eq_true, if_false] at hn
        obtain ⟨e1, e2⟩ := g2 q (by rw [List.length_drop]; omega) hall (by
          rcases hend with h | h | ⟨c, h, h'⟩
          · exact Or.inl h
          · exact Or.inr (Or.inl (by rw [List.length_drop]; omega))
          · exact Or.inr (Or.inr ⟨c, by rw [List.getElem?_drop]; exact h, h'⟩))
        exact ⟨hn.trans e1, by rw [List.drop_drop] at e2; exact e2⟩
      · rw [g1] at hsg
        exact absurd (Option.some.inj hsg.1) g3
  refine ⟨main.2, fun i hi hik => ?_⟩
  rw [List.getElem_set]
  split
  · rename_i e; subst e; exact main.1
  · exact h2 i (by simpa using hi) (by omega)
theorem noword_dot {s : ByteArray} {k p : Nat} {LL : List Int} (inv : ∀ x, GoodP x → bs (txt x) = s → s.data.toList.drop p = tl x k ∧ ∀ i (h : i < LL.length), i < k → LL[i] = fld x i)
    (hk : k < 4) (h : s.data.toList[p]? ≠ some 46) : NoWord s := fun x hx hs => by
  obtain ⟨h1, _⟩ := inv x hx hs
  rw [tl_step x k hk] at h1
  have := congrArg (fun l : List UInt8 => l[0]?) h1
  rw [List.getElem?_drop] at this
  exact h this

theorem RU.next {w : World} {s : ByteArray} {k : Nat} {LL : List Int} {BB : List Bool} {wl : World} (hk : k < 4) (j : Nat) (hj : j ≤ s.size) (n : Int) (hl : LL.length = 4) (hb : BB.length = 4)
    (fresh : ∀ i (h : i < BB.length), k + 1 ≤ i → BB[i] = false)
    (inv : ∀ x, GoodP x → bs (txt x) = s → s.data.toList.drop j = tl x (k + 1) ∧ ∀ i (h : i < (LL.set k n).length), i < k + 1 → (LL.set k n)[i] = fld x i)
    (b0 : Bk wl w.heap.size 23 #[.int .i64 0, .int .i64 0, .int .i64 0, .int .i64 0, .bool false]) (b1 : Bk wl (w.heap.size + 1) 23 #[.int .i64 0, .int .i64 0, .int .i64 0, .int .i64 0, .bool false])
    (b2 : Bk wl (w.heap.size + 1 + 1) 52 (ints LL)) (b3 : Bk wl (w.heap.size + 1 + 1 + 1) 55 (bools BB)) (below : Below w.heap.size w wl) :
    RU w s (k + 1) j (LL.set k n) BB (wl.setCell ⟨w.heap.size + 1 + 1, k, none⟩ (.int .i64 n)) :=
  ⟨by omega, hj, by simpa using hl, hb, fresh, inv, b0.far (by simp; omega) _, b1.far (by simp) _, by rw [← ints_set]; exact b2.set_ _ _, b3.far (by simp) _, below.setCell (by simp; omega) _⟩

/-- The digits from f up to j, and their value n. -/
structure RQ (s : ByteArray) (f j : Nat) (n : Int) : Prop where
  h0 : f ≤ j
  h1 : j ≤ f + 14
  h2 : j ≤ s.size
  val : n = dval ((s.data.toList.drop f).take (j - f))
  dig : ∀ c ∈ (s.data.toList.drop f).take (j - f), isDig c
theorem RQ.bd {s : ByteArray} {f j : Nat} {n : Int} (h : RQ s f j n) : 0 ≤ n ∧ n < 100000000000000 := by
  rw [h.val]
  exact dval_14 _ h.dig (by rw [List.length_take]; have := h.h1; omega)
theorem RQ.step {s : ByteArray} {f j : Nat} {n : Int} (h : RQ s f j n) (h1 : j < s.size) (h2 : j < f + 14) (h3 : 48 ≤ (s[j]).toNat) (h4 : (s[j]).toNat ≤ 57) : RQ s f (j + 1) (10 * n + (((s[j]).toNat : Int) - 48)) := by
  have h0 := h.h0
  have e : (s.data.toList.drop f).take (j + 1 - f) = (s.data.toList.drop f).take (j - f) ++ [s[j]] := by
    rw [show j + 1 - f = (j - f) + 1 from by omega, List.take_add_one, List.getElem?_drop, show f + (j - f) = j from by omega, s_at s j h1]
    rfl
  refine ⟨by omega, by omega, by omega, ?_, ?_⟩
  · rw [e, dval_snoc, ← h.val]
  · rw [e]
    intro c hc
    rcases List.mem_append.1 hc with hc | hc
    · exact h.dig c hc
    · obtain rfl := List.mem_singleton.1 hc
      exact ⟨h3, h4⟩
theorem RQ.fin {s : ByteArray} {f j : Nat} {n : Int} (h : RQ s f j n) (he : j = f + 14 ∨ j = s.size ∨ ∃ h : j < s.size, ¬ (48 ≤ (s[j]).toNat ∧ (s[j]).toNat ≤ 57)) :
    f + (j - f) ≤ s.size ∧ (j - f = 14 ∨ f + (j - f) = s.size ∨ ∃ c, s.data.toList[f + (j - f)]? = some c ∧ ¬ isDig c) := by
  have h0 := h.h0
  have h2 := h.h2
  rw [show f + (j - f) = j from by omega]
  refine ⟨h2, ?_⟩
  rcases he with he | he | ⟨hl, he⟩
  · exact Or.inl (by omega)
  · exact Or.inr (Or.inl he)
  · exact Or.inr (Or.inr ⟨s[j], s_at s j hl, he⟩)
theorem inv_next {s : ByteArray} {k p : Nat} {LL : List Int} (inv : ∀ x, GoodP x → bs (txt x) = s → s.data.toList.drop p = tl x k ∧ ∀ i (h : i < LL.length), i < k → LL[i] = fld x i)
    (hk : k < 4) (hl : LL.length = 4) (sg : Bool) (f j : Nat) (n n' : Int) (hsg : if sg then s.data.toList[p + 1]? = some 45 ∧ f = p + 2 else s.data.toList[p + 1]? ≠ some 45 ∧ f = p + 1)
    (h : RQ s f j n) (he : j = f + 14 ∨ j = s.size ∨ ∃ h : j < s.size, ¬ (48 ≤ (s[j]).toNat ∧ (s[j]).toNat ≤ 57)) (hn : n' = if sg then - n else n) :
    ∀ x, GoodP x → bs (txt x) = s → s.data.toList.drop j = tl x (k + 1) ∧ ∀ i (h : i < (LL.set k n').length), i < k + 1 → (LL.set k n')[i] = fld x i := by
  obtain ⟨a, b⟩ := h.fin he
  have := inv_step inv hk hl sg f (j - f) n' hsg a h.dig b (by rw [hn, h.val])
  rwa [show f + (j - f) = j from by have := h.h0; omega] at this

theorem four {LL : List Int} (h : LL.length = 4) : ∃ v0 v1 v2 v3, LL = [v0, v1, v2, v3] := by
  match LL, h with
  | [v0, v1, v2, v3], _ => exact ⟨v0, v1, v2, v3, rfl⟩
theorem first_is {s : ByteArray} (h : 0 < s.size) (x : PW) (hs : bs (txt x) = s) : s[0] = letter x := by
  have h1 := s_at s 0 h
  have h2 : s.data.toList[0]? = (txt x)[0]? := by rw [← hs, bs_data]
  rw [h1, txt_eq] at h2
  simpa using h2
theorem mark_is (x : PW) : (((letter x).toNat : Int) == 109) = x.mark := by
  unfold letter; cases x.mark <;> rfl
theorem noword_of {s : ByteArray} (h : 0 < s.size) {p : Nat} {v0 v1 v2 v3 : Int} (inv : ∀ x, GoodP x → bs (txt x) = s → s.data.toList.drop p = tl x 4 ∧ ∀ i (h : i < [v0, v1, v2, v3].length), i < 4 → [v0, v1, v2, v3][i] = fld x i)
    (hno : ¬ (GoodP ⟨v0, v1, v2, v3, (((s[0]).toNat : Int) == 109)⟩ ∧ bs (txt ⟨v0, v1, v2, v3, (((s[0]).toNat : Int) == 109)⟩) = s)) : NoWord s := fun x hx hs => by
  have e := (inv x hx hs).2
  have e0 : v0 = x.slot := e 0 (by simp) (by omega)
  have e1 : v1 = x.gen := e 1 (by simp) (by omega)
  have e2 : v2 = x.tag := e 2 (by simp) (by omega)
  have e3 : v3 = x.num := e 3 (by simp) (by omega)
  rw [first_is h x hs, mark_is] at hno
  subst e0 e1 e2 e3
  exact hno ⟨hx, hs⟩
theorem nil_ne {s : ByteArray} (h : 0 < s.size) : bs [] ≠ s := fun e => by
  rw [← e] at h; simp [bs, ByteArray.size] at h
theorem ba_ne {a b : ByteArray} (h : a ≠ b) : (a.toList == b.toList) = false := by
  rw [beq_eq_false_iff_ne, Go.ByteArray.toList_eq, Go.ByteArray.toList_eq]
  exact fun e => h (ByteArray.ext (Array.toList_inj.1 e))
theorem ba_ne' {a b : ByteArray} (h : a ≠ b) : (a.toList != b.toList) = true := by rw [bne, ba_ne h]; rfl
theorem byte_toNat {c d : UInt8} (h : c ≠ d) : c.toNat ≠ d.toNat := fun e => h (UInt8.toNat_inj.1 e)
theorem b46 {c : UInt8} (h : c = 46) : ((c.toNat : Int) != 46) = false := by subst h; rfl
theorem b46n {c : UInt8} (h : c ≠ 46) : ((c.toNat : Int) != 46) = true := by have h2 := byte_toNat h; have : (46 : UInt8).toNat = 46 := rfl; simp; omega
theorem b45 {c : UInt8} (h : c = 45) : ((c.toNat : Int) == 45) = true := by subst h; rfl
theorem b45n {c : UInt8} (h : c ≠ 45) : ((c.toNat : Int) == 45) = false := by have h2 := byte_toNat h; have : (45 : UInt8).toNat = 45 := rfl; simp; omega

set_option maxRecDepth 100000 in
set_option maxHeartbeats 12800000 in
theorem refUnpack_mid (s : ByteArray) (w : World) (h1 : 1 ≤ s.size) (h2 : s.size ≤ 80) : Calls Tryd.prog 12 #[.string s] w (RetRef s w) := by
  have d0 : decide ((s.size : Int) < 1) = false := by simp; omega
  have d1 : decide ((80 : Int) < (s.size : Int)) = false := by simp; omega
  have R0 : RU w s 0 1 [0, 0, 0, 0] [false, false, false, false] ((((w.alloc (.cells #[.int .i64 0, .int .i64 0, .int .i64 0, .int .i64 0, .bool false] 23)).alloc (.cells #[.int .i64 0, .int .i64 0, .int .i64 0, .int .i64 0, .bool false] 23)).alloc (.cells #[.int .i64 0, .int .i64 0, .int .i64 0, .int .i64 0] 52)).alloc (.cells #[.bool false, .bool false, .bool false, .bool false] 55)) :=
    ⟨by omega, by omega, rfl, rfl, fun i h _ => by
      have : i = 0 ∨ i = 1 ∨ i = 2 ∨ i = 3 := by simp at h; omega
      rcases this with rfl | rfl | rfl | rfl <;> rfl,
     fun x _ hs => ⟨by rw [← hs, bs_data, txt_tl], fun i _ h => absurd h (by omega)⟩,
     (((Bk.at_ rfl).alloc _).alloc _).alloc _, ((Bk.at_ (by simp)).alloc _).alloc _, (Bk.at_ (by simp)).alloc _, Bk.at_ (by simp), by (repeat' (first | (with_reducible exact Below.refl _ _) | (with_reducible assumption) | (with_reducible refine Below.alloc ?_ ?_ _) | (with_reducible refine Below.drew ?_) | (with_reducible refine below_drewN ?_ _) | (with_reducible refine Below.setCell ?_ ?_ _) | go_size))⟩
  have RH := Lib.hid R0; clear R0
  go_enter Tryd.func12, Tryd.ntmps12
  go_wp2_with fail
  clear d0 d1
  go_loopw [7, 8] (fun t7 t8 wr => ∃ k p LL BB, t7 = .int .i64 (p : Nat) ∧ t8 = .int .i64 (k : Nat) ∧ RU w s k p LL BB wr) (fun _ t8 _ => 4 - (intOf t8).toNat)
  case atStart => exact ⟨0, 1, _, _, rfl, rfl, RH.out⟩
  case round =>
    obtain ⟨k, p, LL, BB, rfl, rfl, R'⟩ := hrel
    have R := Lib.hid R'; clear R' RH
    have hp := R.out.hp
    have hk4 := R.out.hk
    by_cases hk : k < 4
    · by_cases hps : p < s.size
      · by_cases hdot : s[p] = 46
        · have hd1 := b46 hdot
          have hp1 : s.data.toList[p + 1]? = if h : p + 1 < s.size then some (s[p + 1]'h) else none := by
            split
            · exact s_at s _ ‹_›
            · exact List.getElem?_eq_none (by rw [s_len]; omega)
          have HP1 := Lib.hid hp1; clear hp1
          clear hdot
          by_cases hq : p + 1 < s.size
          · by_cases hmin : s[p + 1] = 45
            · have hd2 := b45 hmin
              have HSG := Lib.hid (show s.data.toList[p + 1]? = some 45 by rw [HP1.out, dif_pos hq, hmin])
              clear hmin
              (have b3 := R.out.b3.cell k; have f3 := R.out.b3.free k; have hkb : k < BB.length := (by have := R.out.bb; omega); rw [bools_get _ _ hkb] at b3; have hk0 : (0 : Int) ≤ (k : Int) := (by omega); have hk1 : (k : Int) < 4 := (by omega); go_wp2_with fail; have hfs : p + 2 ≤ s.size := (by omega); clear b3 f3 hkb; have V0 := R.out.b0.far (p := ⟨w.heap.size + 1 + 1 + 1, k, none⟩) (by simp; omega) (.bool true); have V1 := R.out.b1.far (p := ⟨w.heap.size + 1 + 1 + 1, k, none⟩) (by simp) (.bool true); have V2 := R.out.b2.far (p := ⟨w.heap.size + 1 + 1 + 1, k, none⟩) (by simp) (.bool true); have V3 := R.out.b3.set_ k (.bool true); rw [bools_set] at V3; have hbv := R.out.below.setCell (p := ⟨w.heap.size + 1 + 1 + 1, k, none⟩) (by simp; omega) (.bool true); generalize (wr.setCell ⟨w.heap.size + 1 + 1 + 1, k, none⟩ (.bool true)) = wl at *; have HB : Hid ((BB.set k true).length = 4 ∧ (∀ i (h : i < (BB.set k true).length), k + 1 ≤ i → (BB.set k true)[i] = false) ∧ (BB.set k true)[k]? = some true) := ⟨(by simpa using R.out.bb), fun i h hi => (by rw [List.getElem_set, if_neg (by omega)]; exact R.out.fresh i (by simpa using h) (by omega)), List.getElem?_set_self (by have := R.out.bb; omega)⟩; generalize BB.set k true = B2 at *; have HS : Hid (if true then s.data.toList[p + 1]? = some 45 ∧ p + 2 = p + 2 else s.data.toList[p + 1]? ≠ some 45 ∧ p + 2 = p + 1) := ⟨HSG.out, rfl⟩)
              (have HQ : Hid (RQ s (p + 2) (p + 2) 0) := ⟨Nat.le_refl _, (by omega), hfs, (by simp [dval]), (by simp)⟩; go_loop [7, 9] (fun t7 t9 => ∃ (j : Nat) (n : Int), t7 = .int .i64 j ∧ t9 = .int .i64 n ∧ RQ s (p + 2) j n) (fun t7 _ => s.size - (intOf t7).toNat); (case atStart => exact ⟨p + 2, 0, (by go_num), rfl, HQ.out⟩); (case round => (obtain ⟨j, n, rfl, rfl, hq'⟩ := hrel; have Q := Lib.hid hq'; obtain ⟨n0, n1⟩ := hq'.bd; have hj1 := hq'.h1; have hj2 := hq'.h2; clear hq' HQ; by_cases a1 : j < s.size; rotate_left; (· have HE := Lib.hid (show j = p + 2 + 14 ∨ j = s.size ∨ ∃ h : j < s.size, ¬ (48 ≤ (s[j]).toNat ∧ (s[j]).toNat ≤ 57) from Or.inr (Or.inl (by omega))); (have c3 := V3.cell k; rw [bools, List.getElem?_toArray, List.getElem?_map, HB.out.2.2] at c3; simp only [Option.map_some] at c3; have hkl : k < LL.length := (by have := R.out.ll; omega); have c2 := V2.cell k; rw [ints_get _ _ hkl] at c2; have f2 := V2.free k; go_wp2_with fail; all_goals (go_roundw; (case rel => exact ⟨k + 1, j, LL.set k (if true then - n else n), B2, rfl, (by go_num), RU.next hk j Q.out.h2 _ R.out.ll HB.out.1 HB.out.2.1 (inv_next R.out.inv hk R.out.ll true (p + 2) j n _ HS.out Q.out HE.out rfl) V0 V1 V2 V3 hbv⟩); (case measure => simp [intOf]; omega)))); by_cases a2 : 48 ≤ (s[j]).toNat; rotate_left; (· have HE := Lib.hid (show j = p + 2 + 14 ∨ j = s.size ∨ ∃ h : j < s.size, ¬ (48 ≤ (s[j]).toNat ∧ (s[j]).toNat ≤ 57) from Or.inr (Or.inr ⟨a1, fun e => a2 e.1⟩)); have a2' : decide ((48 : Int) ≤ ((s[j]).toNat : Int)) = false := decide_eq_false (by omega); clear a2; (have c3 := V3.cell k; rw [bools, List.getElem?_toArray, List.getElem?_map, HB.out.2.2] at c3; simp only [Option.map_some] at c3; have hkl : k < LL.length := (by have := R.out.ll; omega); have c2 := V2.cell k; rw [ints_get _ _ hkl] at c2; have f2 := V2.free k; go_wp2_with fail; all_goals (go_roundw; (case rel => exact ⟨k + 1, j, LL.set k (if true then - n else n), B2, rfl, (by go_num), RU.next hk j Q.out.h2 _ R.out.ll HB.out.1 HB.out.2.1 (inv_next R.out.inv hk R.out.ll true (p + 2) j n _ HS.out Q.out HE.out rfl) V0 V1 V2 V3 hbv⟩); (case measure => simp [intOf]; omega)))); by_cases a3 : (s[j]).toNat ≤ 57; rotate_left; (· have HE := Lib.hid (show j = p + 2 + 14 ∨ j = s.size ∨ ∃ h : j < s.size, ¬ (48 ≤ (s[j]).toNat ∧ (s[j]).toNat ≤ 57) from Or.inr (Or.inr ⟨a1, fun e => a3 e.2⟩)); have a2' : decide ((48 : Int) ≤ ((s[j]).toNat : Int)) = true := decide_eq_true (by omega); have a3' : decide (((s[j]).toNat : Int) ≤ 57) = false := decide_eq_false (by omega); clear a2 a3; (have c3 := V3.cell k; rw [bools, List.getElem?_toArray, List.getElem?_map, HB.out.2.2] at c3; simp only [Option.map_some] at c3; have hkl : k < LL.length := (by have := R.out.ll; omega); have c2 := V2.cell k; rw [ints_get _ _ hkl] at c2; have f2 := V2.free k; go_wp2_with fail; all_goals (go_roundw; (case rel => exact ⟨k + 1, j, LL.set k (if true then - n else n), B2, rfl, (by go_num), RU.next hk j Q.out.h2 _ R.out.ll HB.out.1 HB.out.2.1 (inv_next R.out.inv hk R.out.ll true (p + 2) j n _ HS.out Q.out HE.out rfl) V0 V1 V2 V3 hbv⟩); (case measure => simp [intOf]; omega)))); by_cases a4 : j < p + 2 + 14; rotate_left; (· have HE := Lib.hid (show j = p + 2 + 14 ∨ j = s.size ∨ ∃ h : j < s.size, ¬ (48 ≤ (s[j]).toNat ∧ (s[j]).toNat ≤ 57) from Or.inl (by omega)); have a2' : decide ((48 : Int) ≤ ((s[j]).toNat : Int)) = true := decide_eq_true (by omega); have a3' : decide (((s[j]).toNat : Int) ≤ 57) = true := decide_eq_true (by omega); clear a2 a3; (have c3 := V3.cell k; rw [bools, List.getElem?_toArray, List.getElem?_map, HB.out.2.2] at c3; simp only [Option.map_some] at c3; have hkl : k < LL.length := (by have := R.out.ll; omega); have c2 := V2.cell k; rw [ints_get _ _ hkl] at c2; have f2 := V2.free k; go_wp2_with fail; all_goals (go_roundw; (case rel => exact ⟨k + 1, j, LL.set k (if true then - n else n), B2, rfl, (by go_num), RU.next hk j Q.out.h2 _ R.out.ll HB.out.1 HB.out.2.1 (inv_next R.out.inv hk R.out.ll true (p + 2) j n _ HS.out Q.out HE.out rfl) V0 V1 V2 V3 hbv⟩); (case measure => simp [intOf]; omega)))); have a2' : decide ((48 : Int) ≤ ((s[j]).toNat : Int)) = true := decide_eq_true (by omega); have a3' : decide (((s[j]).toNat : Int) ≤ 57) = true := decide_eq_true (by omega); go_wp2_with fail; go_round; (case rel => exact ⟨j + 1, _, (by go_num), (by go_num), Q.out.step a1 a4 a2 a3⟩); (case measure => simp [intOf]; omega))))
            · have hd2 := b45n hmin
              have HSG := Lib.hid (show s.data.toList[p + 1]? ≠ some 45 by rw [HP1.out, dif_pos hq]; exact fun e => hmin (Option.some.inj e))
              clear hmin
              (have hk0 : (0 : Int) ≤ (k : Int) := (by omega); have hk1 : (k : Int) < 4 := (by omega); go_wp2_with fail; have hfs : p + 1 ≤ s.size := (by omega); have V0 := R.out.b0; have V1 := R.out.b1; have V2 := R.out.b2; have V3 := R.out.b3; have hbv := R.out.below; have HB : Hid (BB.length = 4 ∧ (∀ i (h : i < BB.length), k + 1 ≤ i → BB[i] = false) ∧ BB[k]? = some false) := ⟨R.out.bb, fun i h hi => R.out.fresh i h (by omega), (by rw [List.getElem?_eq_getElem (by have := R.out.bb; omega), R.out.fresh k _ (Nat.le_refl _)])⟩; obtain ⟨wl, hwl⟩ : ∃ wl, wr = wl := ⟨_, rfl⟩; subst hwl; obtain ⟨B2, rfl⟩ : ∃ B2, B2 = BB := ⟨_, rfl⟩; have HS : Hid (if false then s.data.toList[p + 1]? = some 45 ∧ p + 1 = p + 2 else s.data.toList[p + 1]? ≠ some 45 ∧ p + 1 = p + 1) := ⟨HSG.out, rfl⟩)
              (have HQ : Hid (RQ s (p + 1) (p + 1) 0) := ⟨Nat.le_refl _, (by omega), hfs, (by simp [dval]), (by simp)⟩; go_loop [7, 9] (fun t7 t9 => ∃ (j : Nat) (n : Int), t7 = .int .i64 j ∧ t9 = .int .i64 n ∧ RQ s (p + 1) j n) (fun t7 _ => s.size - (intOf t7).toNat); (case atStart => exact ⟨p + 1, 0, (by go_num), rfl, HQ.out⟩); (case round => (obtain ⟨j, n, rfl, rfl, hq'⟩ := hrel; have Q := Lib.hid hq'; obtain ⟨n0, n1⟩ := hq'.bd; have hj1 := hq'.h1; have hj2 := hq'.h2; clear hq' HQ; by_cases a1 : j < s.size; rotate_left; (· have HE := Lib.hid (show j = p + 1 + 14 ∨ j = s.size ∨ ∃ h : j < s.size, ¬ (48 ≤ (s[j]).toNat ∧ (s[j]).toNat ≤ 57) from Or.inr (Or.inl (by omega))); (have c3 := V3.cell k; rw [bools, List.getElem?_toArray, List.getElem?_map, HB.out.2.2] at c3; simp only [Option.map_some] at c3; have hkl : k < LL.length := (by have := R.out.ll; omega); have c2 := V2.cell k; rw [ints_get _ _ hkl] at c2; have f2 := V2.free k; go_wp2_with fail; all_goals (go_roundw; (case rel => exact ⟨k + 1, j, LL.set k (if false then - n else n), B2, rfl, (by go_num), RU.next hk j Q.out.h2 _ R.out.ll HB.out.1 HB.out.2.1 (inv_next R.out.inv hk R.out.ll false (p + 1) j n _ HS.out Q.out HE.out rfl) V0 V1 V2 V3 hbv⟩); (case measure => simp [intOf]; omega)))); by_cases a2 : 48 ≤ (s[j]).toNat; rotate_left; (· have HE := Lib.hid (show j = p + 1 + 14 ∨ j = s.size ∨ ∃ h : j < s.size, ¬ (48 ≤ (s[j]).toNat ∧ (s[j]).toNat ≤ 57) from Or.inr (Or.inr ⟨a1, fun e => a2 e.1⟩)); have a2' : decide ((48 : Int) ≤ ((s[j]).toNat : Int)) = false := decide_eq_false (by omega); clear a2; (have c3 := V3.cell k; rw [bools, List.getElem?_toArray, List.getElem?_map, HB.out.2.2] at c3; simp only [Option.map_some] at c3; have hkl : k < LL.length := (by have := R.out.ll; omega); have c2 := V2.cell k; rw [ints_get _ _ hkl] at c2; have f2 := V2.free k; go_wp2_with fail; all_goals (go_roundw; (case rel => exact ⟨k + 1, j, LL.set k (if false then - n else n), B2, rfl, (by go_num), RU.next hk j Q.out.h2 _ R.out.ll HB.out.1 HB.out.2.1 (inv_next R.out.inv hk R.out.ll false (p + 1) j n _ HS.out Q.out HE.out rfl) V0 V1 V2 V3 hbv⟩); (case measure => simp [intOf]; omega)))); by_cases a3 : (s[j]).toNat ≤ 57; rotate_left; (· have HE := Lib.hid (show j = p + 1 + 14 ∨ j = s.size ∨ ∃ h : j < s.size, ¬ (48 ≤ (s[j]).toNat ∧ (s[j]).toNat ≤ 57) from Or.inr (Or.inr ⟨a1, fun e => a3 e.2⟩)); have a2' : decide ((48 : Int) ≤ ((s[j]).toNat : Int)) = true := decide_eq_true (by omega); have a3' : decide (((s[j]).toNat : Int) ≤ 57) = false := decide_eq_false (by omega); clear a2 a3; (have c3 := V3.cell k; rw [bools, List.getElem?_toArray, List.getElem?_map, HB.out.2.2] at c3; simp only [Option.map_some] at c3; have hkl : k < LL.length := (by have := R.out.ll; omega); have c2 := V2.cell k; rw [ints_get _ _ hkl] at c2; have f2 := V2.free k; go_wp2_with fail; all_goals (go_roundw; (case rel => exact ⟨k + 1, j, LL.set k (if false then - n else n), B2, rfl, (by go_num), RU.next hk j Q.out.h2 _ R.out.ll HB.out.1 HB.out.2.1 (inv_next R.out.inv hk R.out.ll false (p + 1) j n _ HS.out Q.out HE.out rfl) V0 V1 V2 V3 hbv⟩); (case measure => simp [intOf]; omega)))); by_cases a4 : j < p + 1 + 14; rotate_left; (· have HE := Lib.hid (show j = p + 1 + 14 ∨ j = s.size ∨ ∃ h : j < s.size, ¬ (48 ≤ (s[j]).toNat ∧ (s[j]).toNat ≤ 57) from Or.inl (by omega)); have a2' : decide ((48 : Int) ≤ ((s[j]).toNat : Int)) = true := decide_eq_true (by omega); have a3' : decide (((s[j]).toNat : Int) ≤ 57) = true := decide_eq_true (by omega); clear a2 a3; (have c3 := V3.cell k; rw [bools, List.getElem?_toArray, List.getElem?_map, HB.out.2.2] at c3; simp only [Option.map_some] at c3; have hkl : k < LL.length := (by have := R.out.ll; omega); have c2 := V2.cell k; rw [ints_get _ _ hkl] at c2; have f2 := V2.free k; go_wp2_with fail; all_goals (go_roundw; (case rel => exact ⟨k + 1, j, LL.set k (if false then - n else n), B2, rfl, (by go_num), RU.next hk j Q.out.h2 _ R.out.ll HB.out.1 HB.out.2.1 (inv_next R.out.inv hk R.out.ll false (p + 1) j n _ HS.out Q.out HE.out rfl) V0 V1 V2 V3 hbv⟩); (case measure => simp [intOf]; omega)))); have a2' : decide ((48 : Int) ≤ ((s[j]).toNat : Int)) = true := decide_eq_true (by omega); have a3' : decide (((s[j]).toNat : Int) ≤ 57) = true := decide_eq_true (by omega); go_wp2_with fail; go_round; (case rel => exact ⟨j + 1, _, (by go_num), (by go_num), Q.out.step a1 a4 a2 a3⟩); (case measure => simp [intOf]; omega))))
          · have HSG := Lib.hid (show s.data.toList[p + 1]? ≠ some 45 by rw [HP1.out, dif_neg hq]; simp)
            (have hk0 : (0 : Int) ≤ (k : Int) := (by omega); have hk1 : (k : Int) < 4 := (by omega); go_wp2_with fail; have hfs : p + 1 ≤ s.size := (by omega); have V0 := R.out.b0; have V1 := R.out.b1; have V2 := R.out.b2; have V3 := R.out.b3; have hbv := R.out.below; have HB : Hid (BB.length = 4 ∧ (∀ i (h : i < BB.length), k + 1 ≤ i → BB[i] = false) ∧ BB[k]? = some false) := ⟨R.out.bb, fun i h hi => R.out.fresh i h (by omega), (by rw [List.getElem?_eq_getElem (by have := R.out.bb; omega), R.out.fresh k _ (Nat.le_refl _)])⟩; obtain ⟨wl, hwl⟩ : ∃ wl, wr = wl := ⟨_, rfl⟩; subst hwl; obtain ⟨B2, rfl⟩ : ∃ B2, B2 = BB := ⟨_, rfl⟩; have HS : Hid (if false then s.data.toList[p + 1]? = some 45 ∧ p + 1 = p + 2 else s.data.toList[p + 1]? ≠ some 45 ∧ p + 1 = p + 1) := ⟨HSG.out, rfl⟩)
            (have HQ : Hid (RQ s (p + 1) (p + 1) 0) := ⟨Nat.le_refl _, (by omega), hfs, (by simp [dval]), (by simp)⟩; go_loop [7, 9] (fun t7 t9 => ∃ (j : Nat) (n : Int), t7 = .int .i64 j ∧ t9 = .int .i64 n ∧ RQ s (p + 1) j n) (fun t7 _ => s.size - (intOf t7).toNat); (case atStart => exact ⟨p + 1, 0, (by go_num), rfl, HQ.out⟩); (case round => (obtain ⟨j, n, rfl, rfl, hq'⟩ := hrel; have Q := Lib.hid hq'; obtain ⟨n0, n1⟩ := hq'.bd; have hj1 := hq'.h1; have hj2 := hq'.h2; clear hq' HQ; by_cases a1 : j < s.size; rotate_left; (· have HE := Lib.hid (show j = p + 1 + 14 ∨ j = s.size ∨ ∃ h : j < s.size, ¬ (48 ≤ (s[j]).toNat ∧ (s[j]).toNat ≤ 57) from Or.inr (Or.inl (by omega))); (have c3 := V3.cell k; rw [bools, List.getElem?_toArray, List.getElem?_map, HB.out.2.2] at c3; simp only [Option.map_some] at c3; have hkl : k < LL.length := (by have := R.out.ll; omega); have c2 := V2.cell k; rw [ints_get _ _ hkl] at c2; have f2 := V2.free k; go_wp2_with fail; all_goals (go_roundw; (case rel => exact ⟨k + 1, j, LL.set k (if false then - n else n), B2, rfl, (by go_num), RU.next hk j Q.out.h2 _ R.out.ll HB.out.1 HB.out.2.1 (inv_next R.out.inv hk R.out.ll false (p + 1) j n _ HS.out Q.out HE.out rfl) V0 V1 V2 V3 hbv⟩); (case measure => simp [intOf]; omega)))); by_cases a2 : 48 ≤ (s[j]).toNat; rotate_left; (· have HE := Lib.hid (show j = p + 1 + 14 ∨ j = s.size ∨ ∃ h : j < s.size, ¬ (48 ≤ (s[j]).toNat ∧ (s[j]).toNat ≤ 57) from Or.inr (Or.inr ⟨a1, fun e => a2 e.1⟩)); have a2' : decide ((48 : Int) ≤ ((s[j]).toNat : Int)) = false := decide_eq_false (by omega); clear a2; (have c3 := V3.cell k; rw [bools, List.getElem?_toArray, List.getElem?_map, HB.out.2.2] at c3; simp only [Option.map_some] at c3; have hkl : k < LL.length := (by have := R.out.ll; omega); have c2 := V2.cell k; rw [ints_get _ _ hkl] at c2; have f2 := V2.free k; go_wp2_with fail; all_goals (go_roundw; (case rel => exact ⟨k + 1, j, LL.set k (if false then - n else n), B2, rfl, (by go_num), RU.next hk j Q.out.h2 _ R.out.ll HB.out.1 HB.out.2.1 (inv_next R.out.inv hk R.out.ll false (p + 1) j n _ HS.out Q.out HE.out rfl) V0 V1 V2 V3 hbv⟩); (case measure => simp [intOf]; omega)))); by_cases a3 : (s[j]).toNat ≤ 57; rotate_left; (· have HE := Lib.hid (show j = p + 1 + 14 ∨ j = s.size ∨ ∃ h : j < s.size, ¬ (48 ≤ (s[j]).toNat ∧ (s[j]).toNat ≤ 57) from Or.inr (Or.inr ⟨a1, fun e => a3 e.2⟩)); have a2' : decide ((48 : Int) ≤ ((s[j]).toNat : Int)) = true := decide_eq_true (by omega); have a3' : decide (((s[j]).toNat : Int) ≤ 57) = false := decide_eq_false (by omega); clear a2 a3; (have c3 := V3.cell k; rw [bools, List.getElem?_toArray, List.getElem?_map, HB.out.2.2] at c3; simp only [Option.map_some] at c3; have hkl : k < LL.length := (by have := R.out.ll; omega); have c2 := V2.cell k; rw [ints_get _ _ hkl] at c2; have f2 := V2.free k; go_wp2_with fail; all_goals (go_roundw; (case rel => exact ⟨k + 1, j, LL.set k (if false then - n else n), B2, rfl, (by go_num), RU.next hk j Q.out.h2 _ R.out.ll HB.out.1 HB.out.2.1 (inv_next R.out.inv hk R.out.ll false (p + 1) j n _ HS.out Q.out HE.out rfl) V0 V1 V2 V3 hbv⟩); (case measure => simp [intOf]; omega)))); by_cases a4 : j < p + 1 + 14; rotate_left; (· have HE := Lib.hid (show j = p + 1 + 14 ∨ j = s.size ∨ ∃ h : j < s.size, ¬ (48 ≤ (s[j]).toNat ∧ (s[j]).toNat ≤ 57) from Or.inl (by omega)); have a2' : decide ((48 : Int) ≤ ((s[j]).toNat : Int)) = true := decide_eq_true (by omega); have a3' : decide (((s[j]).toNat : Int) ≤ 57) = true := decide_eq_true (by omega); clear a2 a3; (have c3 := V3.cell k; rw [bools, List.getElem?_toArray, List.getElem?_map, HB.out.2.2] at c3; simp only [Option.map_some] at c3; have hkl : k < LL.length := (by have := R.out.ll; omega); have c2 := V2.cell k; rw [ints_get _ _ hkl] at c2; have f2 := V2.free k; go_wp2_with fail; all_goals (go_roundw; (case rel => exact ⟨k + 1, j, LL.set k (if false then - n else n), B2, rfl, (by go_num), RU.next hk j Q.out.h2 _ R.out.ll HB.out.1 HB.out.2.1 (inv_next R.out.inv hk R.out.ll false (p + 1) j n _ HS.out Q.out HE.out rfl) V0 V1 V2 V3 hbv⟩); (case measure => simp [intOf]; omega)))); have a2' : decide ((48 : Int) ≤ ((s[j]).toNat : Int)) = true := decide_eq_true (by omega); have a3' : decide (((s[j]).toNat : Int) ≤ 57) = true := decide_eq_true (by omega); go_wp2_with fail; go_round; (case rel => exact ⟨j + 1, _, (by go_num), (by go_num), Q.out.step a1 a4 a2 a3⟩); (case measure => simp [intOf]; omega))))
        · have HN := Lib.hid (noword_dot R.out.inv hk (by rw [s_at s p hps]; exact fun e => hdot (Option.some.inj e)))
          have hd1 := b46n hdot
          (obtain ⟨a0, a1, a2, a3, a4⟩ := bk5 R.out.b1; go_wp2_with (refine wpList_store_bk (by rfl) _ _ _ (by rfl) w.heap.size _ (by rfl) (by rfl) _ _ R.out.b0 (by rfl) infoWord (by rfl) ?_; intro w4 hst); obtain ⟨r0, r1, r2, r3, r4⟩ := bk5 hst.bk; refine bodyPost_ret (v := .tuple #[.agg #[.int .i64 0, .int .i64 0, .int .i64 0, .int .i64 0, .bool false], .bool false]) (by simp [results, Tryd.results12, go_sem, r0, r1, r2, r3, r4]) rfl ?_; exact Or.inr ⟨HN.out, rfl, hst.below R.out.below (Nat.le_refl _)⟩)
      · have HN := Lib.hid (noword_dot R.out.inv hk (by rw [List.getElem?_eq_none (by rw [s_len]; omega)]; simp))
        (obtain ⟨a0, a1, a2, a3, a4⟩ := bk5 R.out.b1; go_wp2_with (refine wpList_store_bk (by rfl) _ _ _ (by rfl) w.heap.size _ (by rfl) (by rfl) _ _ R.out.b0 (by rfl) infoWord (by rfl) ?_; intro w4 hst); obtain ⟨r0, r1, r2, r3, r4⟩ := bk5 hst.bk; refine bodyPost_ret (v := .tuple #[.agg #[.int .i64 0, .int .i64 0, .int .i64 0, .int .i64 0, .bool false], .bool false]) (by simp [results, Tryd.results12, go_sem, r0, r1, r2, r3, r4]) rfl ?_; exact Or.inr ⟨HN.out, rfl, hst.below R.out.below (Nat.le_refl _)⟩)
    · obtain rfl : k = 4 := by omega
      go_upto_region 24 with (fail)
      (obtain ⟨v0, v1, v2, v3, rfl⟩ := four R.out.ll; have B0 := R.out.b0.drew; have B1 := R.out.b1.drew; have B2' : Bk wr.drew (w.heap.size + 1 + 1) 52 #[.int .i64 v0, .int .i64 v1, .int .i64 v2, .int .i64 v3] := R.out.b2.drew; have hbb := R.out.below.drew; have hs0 : (0 : Int) < (s.size : Int) := (by omega); have hs1 : 0 < s.size := (by omega); have HN : Hid (¬ (GoodP ⟨v0, v1, v2, v3, (((s[0]).toNat : Int) == 109)⟩ ∧ bs (txt ⟨v0, v1, v2, v3, (((s[0]).toNat : Int) == 109)⟩) = s) → NoWord s) := fun hno => noword_of hs1 R.out.inv hno; refine wp_region_T (fun w' => Bk w' (w.heap.size + 1 + 1) 52 #[.int .i64 v0, .int .i64 v1, .int .i64 v2, .int .i64 v3]) 13 (by kernel_rfl) B2' (fun hS => ?_); generalize wr.drew = w2 at *; ((try simp only [Act.put, List.setIfInBounds_toArray, List.set_cons_succ, List.set_cons_zero]); refine wpT_batch (fuel := 2) (by kernel_rfl) (by kernel_rfl) (fun d => by cases d <;> exact fun _ _ _ _ h => h) hS [0, 1, 2, 3, 4, 5, 6, 7, 8, 9, 10, 11] _ _ (by kernel_rfl) ?_; simp only [pickOps, nthOp, List.toList_toArray]; (repeat (first | go_big_quiet_skip | (go_big_quiet_want; first | (go_big_quiet_op; go_big_quiet_on) | (apply Exists.intro; refine ⟨fun w' hS' => ?_, ?_⟩; (· ((have f0 := hS'.cell 0; have f1 := hS'.cell 1; have f2 := hS'.cell 2; have f3 := hS'.cell 3; simp at f0 f1 f2 f3); go_simp; first | done | rfl | exact ⟨rfl, rfl⟩)); go_big_quiet_on; simp only [Act.put, List.setIfInBounds_toArray, List.set_cons_succ, List.set_cons_zero])))); refine wpQuiet_nil ?_; (try dsimp only)); (refine wpT_loudN 12 (by kernel_rfl) (fun K hK => ?_); simp only [nthOp, List.toList_toArray]); go_wp2_with fail; refine hK.out _ _ (fun _ => B2'.alloc _) ?_; clear hK hS; (refine wpT_loudN 13 (by kernel_rfl) (fun K hK => ?_); simp only [nthOp, List.toList_toArray]); go_wp2_with fail; refine hK.out _ _ (fun h => absurd h (by omega)) ?_; clear hK; refine wpT_done (by kernel_rfl) ?_ _; generalize ((((s[0]).toNat : Int) == 109)) = mk at *; have Y : Bk (w2.alloc (.cells #[.int .i64 v0, .int .i64 v1, .int .i64 v2, .int .i64 v3, .bool mk] 23)) w2.heap.size 23 #[.int .i64 v0, .int .i64 v1, .int .i64 v2, .int .i64 v3, .bool mk] := Bk.at_ rfl; have C0 := B0.alloc (.cells #[.int .i64 v0, .int .i64 v1, .int .i64 v2, .int .i64 v3, .bool mk] 23); have C1 := B1.alloc (.cells #[.int .i64 v0, .int .i64 v1, .int .i64 v2, .int .i64 v3, .bool mk] 23); have hbc := hbb.alloc hbb.size (.cells #[.int .i64 v0, .int .i64 v1, .int .i64 v2, .int .i64 v3, .bool mk] 23); clear B0 B1 B2' hbb; generalize w2.heap.size = N at *; generalize (w2.alloc (.cells #[.int .i64 v0, .int .i64 v1, .int .i64 v2, .int .i64 v3, .bool mk] 23)) = w3 at *; obtain ⟨a0, a1, a2, a3, a4⟩ := bk5 Y; go_wp2_with fail; by_cases hg : GoodP ⟨v0, v1, v2, v3, mk⟩; (· by_cases ht : bs (txt ⟨v0, v1, v2, v3, mk⟩) = s; (· (refine (refPack_yes ⟨v0, v1, v2, v3, mk⟩ hg _).mono ?_; rintro e w4 ⟨rfl, hb4⟩; have Y4 := Y.belowAll hb4; have C04 := C0.belowAll hb4; have hbd := hbc.trans (hb4.mono hbc.size); clear a0 a1 a2 a3 a4 Y C0 C1 hbc hb4; rw [ht]; have HG := Lib.hid (And.intro hg ht); clear hg ht; obtain ⟨a0, a1, a2, a3, a4⟩ := bk5 Y4; go_wp2_with (refine wpList_store_bk (by rfl) _ _ _ (by rfl) w.heap.size _ (by rfl) (by rfl) _ _ C04 (by rfl) infoWord (by rfl) ?_; intro w5 hst); obtain ⟨r0, r1, r2, r3, r4⟩ := bk5 hst.bk; refine bodyPost_ret (v := .tuple #[.agg #[.int .i64 v0, .int .i64 v1, .int .i64 v2, .int .i64 v3, .bool mk], .bool true]) (by simp [results, Tryd.results12, go_sem, r0, r1, r2, r3, r4]) rfl ?_; exact Or.inl ⟨_, HG.out.1, HG.out.2, rfl, hst.below hbd (Nat.le_refl _)⟩)); (· (refine (refPack_yes ⟨v0, v1, v2, v3, mk⟩ hg _).mono ?_; rintro e w4 ⟨rfl, hb4⟩; have C04 := C0.belowAll hb4; have C14 := C1.belowAll hb4; have hbd := hbc.trans (hb4.mono hbc.size); clear a0 a1 a2 a3 a4 Y C0 C1 hbc hb4; have hne := Lib.hid (HN.out (fun hh => ht hh.2)); have hq1 := ba_ne (ht); have hq2 := ba_ne' (ht); obtain ⟨c0, c1, c2, c3, c4⟩ := bk5 C14; go_wp2_with (refine wpList_store_bk (by rfl) _ _ _ (by rfl) w.heap.size _ (by rfl) (by rfl) _ _ C04 (by rfl) infoWord (by rfl) ?_; intro w5 hst); obtain ⟨r0, r1, r2, r3, r4⟩ := bk5 hst.bk; refine bodyPost_ret (v := .tuple #[.agg #[.int .i64 0, .int .i64 0, .int .i64 0, .int .i64 0, .bool false], .bool false]) (by simp [results, Tryd.results12, go_sem, r0, r1, r2, r3, r4]) rfl ?_; exact Or.inr ⟨hne.out, rfl, hst.below hbd (Nat.le_refl _)⟩))); (· (refine (refPack_no ⟨v0, v1, v2, v3, mk⟩ hg _).mono ?_; rintro e w4 ⟨rfl, hb4⟩; have C04 := C0.belowAll hb4; have C14 := C1.belowAll hb4; have hbd := hbc.trans (hb4.mono hbc.size); clear a0 a1 a2 a3 a4 Y C0 C1 hbc hb4; have hne := Lib.hid (HN.out (fun hh => hg hh.1)); have hq1 := ba_ne (nil_ne hs1); have hq2 := ba_ne' (nil_ne hs1); obtain ⟨c0, c1, c2, c3, c4⟩ := bk5 C14; go_wp2_with (refine wpList_store_bk (by rfl) _ _ _ (by rfl) w.heap.size _ (by rfl) (by rfl) _ _ C04 (by rfl) infoWord (by rfl) ?_; intro w5 hst); obtain ⟨r0, r1, r2, r3, r4⟩ := bk5 hst.bk; refine bodyPost_ret (v := .tuple #[.agg #[.int .i64 0, .int .i64 0, .int .i64 0, .int .i64 0, .bool false], .bool false]) (by simp [results, Tryd.results12, go_sem, r0, r1, r2, r3, r4]) rfl ?_; exact Or.inr ⟨hne.out, rfl, hst.below hbd (Nat.le_refl _)⟩)))
end Go.Proofs.YtfkfleojdheffaaDoor
