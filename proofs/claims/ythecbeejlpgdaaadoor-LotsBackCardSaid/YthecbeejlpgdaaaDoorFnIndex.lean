/- The place of a number in a list: slices.Index, sextonref19.place. -/
import Derived.Test.YthecbeejlpgdaaaDoorData
import Derived.Deep.DeepMust
namespace Go.Proofs.YthecbeejlpgdaaaDoor
open Go Go.RowKit
set_option linter.unusedSimpArgs false
set_option linter.unusedVariables false
set_option linter.unusedSectionVars false

/-- The first place of n, or d. -/
def placeOf (l : List Int) (n : Int) (d : Int) : Int := if n ∈ l then (l.idxOf n : Int) else d
theorem not_in_take {l : List Int} {n : Int} {k : Nat} (hk : k < l.length) (h : n ∉ l.take k) (e : l[k] ≠ n) : Hid (n ∉ l.take (k + 1)) := by
  show n ∉ l.take (k + 1)
  rw [List.take_succ_eq_append_getElem hk]
  simp only [List.mem_append, List.mem_singleton, not_or]
  exact ⟨h, fun h => e h.symm⟩
theorem idxOf_at {l : List Int} {n : Int} : ∀ {k : Nat} (hk : k < l.length), n ∉ l.take k → l[k] = n → l.idxOf n = k := by
  induction l with
  | nil => intro k hk; simp at hk
  | cons a l ih =>
    intro k hk h e
    cases k with
    | zero => simp at e; simp [e]
    | succ k =>
      simp at h e
      have := ih (k := k) (by simpa using hk) h.2 e
      have hne : (a == n) = false := by simpa using fun h' => h.1 h'.symm
      simp [List.idxOf_cons, hne, this]
theorem placeOf_at {l : List Int} {n : Int} {k : Nat} {d : Int} (hk : k < l.length) (h : n ∉ l.take k) (e : l[k] = n) : placeOf l n d = k := by
  have hm : n ∈ l := by rw [← e]; exact List.getElem_mem hk
  unfold placeOf
  rw [if_pos hm]
  rw [idxOf_at hk h e]
theorem placeOf_no {l : List Int} {n d : Int} (h : n ∉ l) : placeOf l n d = d := by
  unfold placeOf; rw [if_neg h]

def RetI (i : Int) (w : World) (e : Ending) (w' : World) : Prop := e = .returned (.int .i64 i) ∧ w = w'

set_option maxHeartbeats 800000 in
theorem index_any (xs : List Int) (n : Int) (A : Option Addr) (c B : Nat) (w : World) (hx : Sl w B 1 A xs.length (icells xs)) (lx : xs.length ≤ 9223372036854775807) :
    Calls Tryd.prog 29 #[.slice A xs.length c, .int .i64 n] w (RetI (placeOf xs n (-1)) w) := by
  go_enter Tryd.func29, Tryd.ntmps29
  go_wp2_with fail
  go_loop [8] (fun i => ∃ k : Nat, k ≤ xs.length ∧ i = .int .i64 k ∧ Hid (n ∉ xs.take k)) (fun i => xs.length - (intOf i).toNat)
  case atStart => exact ⟨0, Nat.zero_le _, rfl, by show n ∉ _; simp⟩
  case round =>
    obtain ⟨k, hk, rfl, hall⟩ := hrel
    by_cases hlt : k < xs.length
    · obtain ⟨b1, o1, rfl, _, q1⟩ := hx.pick hlt
      clear hx
      by_cases he : xs[k] = n
      · have hp := placeOf_at (d := -1) hlt hall.out he
        have HP := Lib.hid hp; clear hp
        have hb : (n == xs[k]) = true := by simp [he]
        clear he
        go_wp2_with fail
        go_ret
        exact ⟨ret_int (by rw [HP.out]), rfl⟩
      · have hn := not_in_take hlt hall.out he
        have hb : (n == xs[k]) = false := by simpa using fun h => he h.symm
        clear he
        go_wp2_with fail
        go_round
        case rel => exact ⟨k + 1, by omega, by go_num, hn⟩
        case measure => simp [intOf]; omega
    · have hke : k = xs.length := by omega
      subst hke
      have hp := placeOf_no (d := -1) (by have := hall.out; rwa [List.take_length] at this)
      have HP := Lib.hid hp; clear hp hall
      go_wp2_with fail
      go_ret
      exact ⟨ret_int (by rw [HP.out]), rfl⟩

set_option maxHeartbeats 800000 in
theorem place_any (xs : List Int) (n : Int) (A : Option Addr) (c B : Nat) (w : World) (hx : Sl w B 1 A xs.length (icells xs)) (lx : xs.length ≤ 9223372036854775807) :
    Calls Tryd.prog 37 #[.slice A xs.length c, .int .i64 n] w (RetI (placeOf xs n 0) w) := by
  go_enter Tryd.func37, Tryd.ntmps37
  go_wp2_with fail
  go_loop [5] (fun i => ∃ k : Nat, k ≤ xs.length ∧ i = .int .i64 k ∧ Hid (n ∉ xs.take k)) (fun i => xs.length - (intOf i).toNat)
  case atStart => exact ⟨0, Nat.zero_le _, rfl, by show n ∉ _; simp⟩
  case round =>
    obtain ⟨k, hk, rfl, hall⟩ := hrel
    by_cases hlt : k < xs.length
    · obtain ⟨b1, o1, rfl, _, q1⟩ := hx.pick hlt
      clear hx
      by_cases he : xs[k] = n
      · have hp := placeOf_at (d := 0) hlt hall.out he
        have HP := Lib.hid hp; clear hp
        have hb : (xs[k] == n) = true := by simp [he]
        clear he
        go_wp2_with fail
        go_ret
        exact ⟨ret_int (by rw [HP.out]), rfl⟩
      · have hn := not_in_take hlt hall.out he
        have hb : (xs[k] == n) = false := by simpa using he
        clear he
        go_wp2_with fail
        go_round
        case rel => exact ⟨k + 1, by omega, by go_num, hn⟩
        case measure => simp [intOf]; omega
    · have hke : k = xs.length := by omega
      subst hke
      have hp := placeOf_no (d := 0) (by have := hall.out; rwa [List.take_length] at this)
      have HP := Lib.hid hp; clear hp hall
      go_wp2_with fail
      go_ret
      exact ⟨ret_int (by rw [HP.out]), rfl⟩

end Go.Proofs.YthecbeejlpgdaaaDoor
