/- The place of a key among pairs: slices.BinarySearchFunc with creed's comparison, contents.find. -/
import Derived.Test.YtlfbgpncdahglaaDoorPair
import Derived.Test.YtlfbgpncdahglaaDoorSl
namespace Go.Proofs.YtlfbgpncdahglaaDoor
open Go Go.RowKit
set_option linter.unusedSimpArgs false
set_option linter.unusedVariables false
set_option linter.unusedSectionVars false

def pos (key : Int) (l : List (Int × Int)) : Nat := l.findIdx (fun p => decide (key ≤ p.1))
def has (key : Int) (l : List (Int × Int)) : Bool := match l[pos key l]? with
  | some p => p.1 == key
  | none => false

theorem pos_le (key : Int) (l : List (Int × Int)) : pos key l ≤ l.length := List.findIdx_le_length
theorem pos_eq {key : Int} {l : List (Int × Int)} {i : Nat} (hi : i ≤ l.length) (h1 : ∀ j, (h : j < l.length) → j < i → l[j].1 < key) (h2 : ∀ j, (h : j < l.length) → i ≤ j → key ≤ l[j].1) : pos key l = i := by
  unfold pos
  rcases Nat.lt_or_ge i l.length with hlt | hge
  · rw [List.findIdx_eq hlt]
    refine ⟨by simpa using h2 i hlt (Nat.le_refl _), fun j hj => ?_⟩
    have := h1 j (by omega) hj
    simp
    omega
  · have : i = l.length := by omega
    subst this
    rw [List.findIdx_eq_length]
    intro p hp
    obtain ⟨j, hj, rfl⟩ := List.getElem_of_mem hp
    have := h1 j hj hj
    simp
    omega

theorem closure_any (k v key : Int) (w : World) (h1 : 0 ≤ k) (h2 : k ≤ 255) (h3 : 0 ≤ key) (h4 : key ≤ 255) :
    Calls Tryd.prog 53 #[.agg #[.int .i64 k, .int .i64 v], .int .i64 key] w fun e w' => e = .returned (.int .i64 (k - key)) ∧ w.alloc (.cells #[.int .i64 k, .int .i64 v] 94) = w' := by
  go_enter Tryd.func53, Tryd.ntmps53
  go_wp2
  go_ret
  exact ⟨ret_int (by first | rfl | exact IntWalk.wrap64_in _ (by omega)), rfl⟩

def Fnd (key : Int) (l : List (Int × Int)) (w : World) (e : Ending) (w' : World) : Prop :=
  e = .returned (.tuple #[.int .i64 (pos key l), .bool (has key l)]) ∧ Below w.heap.size w w'

theorem Sl.pair {w : World} {B : Nat} {A : Option Addr} {l : List (Int × Int)} (h : Sl w B 2 A l.length (pcells l)) {i : Nat} (hi : i < l.length) :
    ∃ b off, A = some ⟨b, off, none⟩ ∧ b < B ∧ w.cell? ⟨b, off + i * 2, none⟩ = some (.int .i64 l[i].1) ∧ w.cell? ⟨b, off + i * 2 + 1, none⟩ = some (.int .i64 l[i].2) := by
  obtain ⟨b, off, e, hb, hc⟩ := h.2 (by omega)
  obtain ⟨g1, g2⟩ := pcells_get l i hi
  exact ⟨b, off, e, hb, hc _ _ g1, hc _ _ g2⟩

/-- Keys that rise, and are keys. -/
def Rises (l : List (Int × Int)) : Prop := l.Pairwise (fun a b => a.1 < b.1) ∧ ∀ p ∈ l, 0 ≤ p.1 ∧ p.1 ≤ 255

theorem Rises.lt {l : List (Int × Int)} (h : Rises l) {i j : Nat} (hj : j < l.length) (hij : i < j) : (l[i]'(by omega)).1 < l[j].1 :=
  (List.pairwise_iff_getElem.1 h.1) i j (by omega) hj hij
theorem Rises.key {l : List (Int × Int)} (h : Rises l) {i : Nat} (hi : i < l.length) : 0 ≤ l[i].1 ∧ l[i].1 ≤ 255 := h.2 _ (List.getElem_mem hi)

set_option maxRecDepth 100000 in
set_option maxHeartbeats 800000 in
theorem bsearch_any (w : World) (A : Option Addr) (c : Nat) (l : List (Int × Int)) (h : Sl w w.heap.size 2 A l.length (pcells l)) (hs : Rises l) (hl : l.length ≤ 100000) (key : Int) (hk0 : 0 ≤ key) (hk1 : key ≤ 255) :
    Calls Tryd.prog 52 #[.slice A l.length c, .int .i64 key, .func (.func 53) #[] #[]] w (Fnd key l w) := by
  go_enter Tryd.func52, Tryd.ntmps52
  go_wp2_with fail
  go_loopw [9, 10] (fun i j wr => ∃ a b : Nat, a ≤ b ∧ b ≤ l.length ∧ i = .int .i64 a ∧ j = .int .i64 b ∧ Below w.heap.size w wr ∧ Hid ((∀ k, (h : k < l.length) → k < a → l[k].1 < key) ∧ (∀ k, (h : k < l.length) → b ≤ k → key ≤ l[k].1))) (fun i j _ => (intOf j).toNat - (intOf i).toNat)
  case atStart => exact ⟨0, l.length, Nat.zero_le _, Nat.le_refl _, rfl, rfl, Below.refl _ _, fun k _ hk => absurd hk (by omega), fun k hk hk' => absurd hk (by omega)⟩
  case round =>
    obtain ⟨a, b, hab, hbl, rfl, rfl, hB, HI⟩ := hrel
    by_cases hlt : a < b
    · obtain ⟨m, hm⟩ : ∃ m, m = (a + b) / 2 := ⟨_, rfl⟩
      have hml : m < l.length := by omega
      have hma : a ≤ m := by omega
      have hmb : m < b := by omega
      have hmm : ((a : Int) + (b : Int)) / 2 = (m : Int) := by omega
      clear hm
      obtain ⟨bb, off, rfl, hbb, q1, q2⟩ := (h.below hB).pair hml
      obtain ⟨k1, k2⟩ := hs.key hml
      have hz := hB.size
      by_cases hq : l[m].1 < key
      · have d : decide (l[m].1 - key < 0) = true := by simp; omega
        go_wp2_with (go_at_call 53; refine (closure_any _ _ _ _ k1 k2 hk0 hk1).mono ?_; rintro e w' ⟨rfl, rfl⟩)
        go_roundw
        case rel => exact ⟨m + 1, b, by omega, hbl, by go_num, rfl, hB.alloc hB.size _, fun k hk hk' => by
          rcases Nat.lt_or_ge k m with hkm | hkm
          · have := hs.lt hml hkm; omega
          · obtain rfl : k = m := by omega
            exact hq, HI.out.2⟩
        case measure => simp [intOf]; omega
      · have d : decide (l[m].1 - key < 0) = false := by simp; omega
        go_wp2_with (go_at_call 53; refine (closure_any _ _ _ _ k1 k2 hk0 hk1).mono ?_; rintro e w' ⟨rfl, rfl⟩)
        go_roundw
        case rel => exact ⟨a, m, by omega, by omega, rfl, rfl, hB.alloc hB.size _, HI.out.1, fun k hk hk' => by
          rcases Nat.eq_or_lt_of_le hk' with rfl | hkm
          · omega
          · have := hs.lt hk hkm; omega⟩
        case measure => simp [intOf]; omega
    · obtain rfl : a = b := by omega
      have hp : pos key l = a := pos_eq hbl HI.out.1 HI.out.2
      clear hlt
      by_cases hal : a < l.length
      · obtain ⟨bb, off, rfl, hbb, q1, q2⟩ := (h.below hB).pair hal
        obtain ⟨k1, k2⟩ := hs.key hal
        have hh : has key l = (l[a].1 == key) := by unfold has; rw [hp, List.getElem?_eq_getElem hal]
        have HP := Lib.hid (And.intro hp hh); clear hp hh
        go_wp2_with (go_at_call 53; refine (closure_any _ _ _ _ k1 k2 hk0 hk1).mono ?_; rintro e w' ⟨rfl, rfl⟩)
        go_ret2
        refine ⟨?_, hB.alloc hB.size _⟩
        have e : (l[a].1 - key == 0) = (l[a].1 == key) := by rw [Bool.eq_iff_iff]; simp; omega
        rw [HP.out.1, HP.out.2, ← e]
        rfl
      · obtain rfl : a = l.length := by omega
        have hh : has key l = false := by unfold has; rw [hp, List.getElem?_eq_none (Nat.le_refl _)]
        have HP := Lib.hid (And.intro hp hh); clear hp hh
        go_wp2_with fail
        go_ret2
        exact ⟨by rw [HP.out.1, HP.out.2]; rfl, hB⟩

theorem find_any (w : World) (g : Nat) (A : Option Addr) (c : Nat) (l : List (Int × Int)) (hv : w.cell? ⟨g, 2, none⟩ = some (.slice A l.length c)) (h : Sl w w.heap.size 2 A l.length (pcells l)) (hs : Rises l) (hl : l.length ≤ 100000) (key : Int) (hk0 : 0 ≤ key) (hk1 : key ≤ 255) :
    Calls Tryd.prog 49 #[.pointer (some ⟨g, 1, none⟩), .int .i64 key] w (Fnd key l w) := by
  go_enter Tryd.func49, Tryd.ntmps49
  go_wp2_with fail
  refine (bsearch_any w A c l h hs hl key hk0 hk1).mono ?_
  rintro e w' ⟨rfl, hb⟩
  go_wp2_with fail
  go_ret2
  exact ⟨rfl, hb⟩
end Go.Proofs.YtlfbgpncdahglaaDoor
