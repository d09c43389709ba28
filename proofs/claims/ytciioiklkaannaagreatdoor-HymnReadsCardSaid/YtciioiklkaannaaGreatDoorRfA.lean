/- The reference's words of numbers, operations, structures, engines; its Line. -/
import Derived.Test.YtciioiklkaannaaGreatDoorPrint
namespace Go.Proofs.YtciioiklkaannaaGreatDoor
open Go Go.RowKit
set_option linter.unusedSimpArgs false
set_option linter.unusedVariables false
set_option linter.unusedSectionVars false

theorem digit_cut (n : Nat) (h : n < 10) : (⟨#[48, 49, 50, 51, 52, 53, 54, 55, 56, 57]⟩ : ByteArray).extract n (n + 1) = bs [UInt8.ofNat (48 + n)] := by
  have : n = 0 ∨ n = 1 ∨ n = 2 ∨ n = 3 ∨ n = 4 ∨ n = 5 ∨ n = 6 ∨ n = 7 ∨ n = 8 ∨ n = 9 := by omega
  rcases this with rfl | rfl | rfl | rfl | rfl | rfl | rfl | rfl | rfl | rfl <;> rfl
def RetS (l : List UInt8) (w : World) (e : Ending) (w' : World) : Prop := e = .returned (.string (bs l)) ∧ Below w.heap.size w w'

set_option maxRecDepth 100000 in
set_option maxHeartbeats 1600000 in
theorem digits_any (n : Nat) : ∀ (w : World), n ≤ 9000000000000000000 → Calls Tryz.prog 29 #[.int .i64 n] w (RetS (Lib.decDigits n) w) := by
  induction n using Nat.strongRecOn with
  | _ n ih =>
    intro w hn
    rw [Lib.decDigits]
    by_cases h : n < 10
    · rw [dif_pos h]
      have hc := digit_cut n h
      have HC := Lib.hid hc; clear hc ih
      go_enter Tryz.func29, Tryz.ntmps29
      go_wp2_with fail
      go_ret
      refine ⟨?_, by (repeat' (first | (with_reducible exact Below.refl _ _) | (with_reducible assumption) | (with_reducible refine Below.alloc ?_ ?_ _) | (with_reducible refine Below.drew ?_) | (with_reducible refine below_drewN ?_ _) | (with_reducible refine Below.setCell ?_ ?_ _) | go_size))⟩
      rw [← HC.out]
      rfl
    · rw [dif_neg h]
      obtain ⟨q, hq⟩ : ∃ q : Nat, n / 10 = q := ⟨_, rfl⟩
      obtain ⟨r, hr⟩ : ∃ r : Nat, n % 10 = r := ⟨_, rfl⟩
      rw [hq, hr]
      have hc := digit_cut r (by omega)
      obtain ⟨D, hD⟩ : ∃ D, (⟨#[48, 49, 50, 51, 52, 53, 54, 55, 56, 57]⟩ : ByteArray).extract r (r + 1) = D := ⟨_, rfl⟩
      obtain ⟨d, hd'⟩ : ∃ d, bs (Lib.decDigits q) = d := ⟨_, rfl⟩
      have s1 : D.size ≤ 1 := by rw [← hD, hc, bs_size]; simp
      have s2 : d.size ≤ 19 := by rw [← hd', bs_size]; exact dec_len 18 q (by omega)
      have hih : ∀ w, Calls Tryz.prog 29 #[.int .i64 (q : Int)] w (fun e w' => e = .returned (.string d) ∧ Below w.heap.size w w') := fun w => hd' ▸ ih q (by omega) w (by omega)
      have HC := Lib.hid (hD.symm.trans hc)
      have HI := Lib.hid hih
      have HD := Lib.hid hd'
      clear hc hih ih hd'
      have e1 : (n : Int) / 10 = (q : Int) := by omega
      have e2 : (n : Int) % 10 = (r : Int) := by omega
      have b1 : r < 10 := by omega
      have hd : decide ((n : Int) < 10) = false := by simp; omega
      have w1 : IntKind.i64.wrap (q : Int) = q := IntWalk.i64_in _ (by omega)
      have w2 : IntKind.i64.wrap (r : Int) = r := IntWalk.i64_in _ (by omega)
      have w3 : IntKind.i64.wrap ((r : Int) + 1) = r + 1 := IntWalk.i64_in _ (by omega)
      have w9 : ¬ (9223372036854775807 < d.size + D.size) := by omega
      have w5 : (0 : Int) ≤ r := by omega
      have w6 : (r : Int) + 1 ≤ 10 := by omega
      have w7 : (r : Int) ≤ r + 1 := by omega
      have e3 : (n : Int).tmod 10 = r := by rw [Int.tmod_eq_emod_of_nonneg (by omega)]; exact e2
      have w4 : ((r : Int) + 1).toNat = r + 1 := by omega
      clear hq hr
      go_enter Tryz.func29, Tryz.ntmps29
      go_wp2_with fail
      (refine wp_region_class (fun w' : World => Below w.heap.size w w') (by kernel_rfl) (by kernel_rfl) ((Below.refl _ _).drew) ?_; (repeat (first | go_big_quiet_skip | (go_big_quiet_want; first | (go_big_quiet_op; go_big_quiet_on) | (apply Exists.intro; refine ⟨fun w' hC => ?_, ?_⟩; (· (skip; go_simp; first | done | rfl | exact ⟨rfl, rfl⟩ | ((go_at_call 29; (with_reducible refine (HI.out _).mono ?_); rintro e w'' ⟨rfl, hb⟩; exact ⟨rfl, hC.trans (hb.mono hC.size)⟩)))); go_big_quiet_on; simp only [Act.put, List.setIfInBounds_toArray, List.set_cons_succ, List.set_cons_zero])))); refine wpQuiet_nil ?_; intro w' hC)
      (try dsimp only)
      go_wp2_with fail
      go_ret
      refine ⟨?_, hC⟩
      rw [← HD.out, HC.out, bs_append]
      rfl
/-- A number's word. -/
theorem digs_is (v : Int) (h0 : 0 ≤ v) (h1 : v ≤ 1073741824) (w : World) (d : ByteArray) (hd : Hid (bs (Lib.decDigits v.toNat) = d)) :
    Calls Tryz.prog 29 #[.int .i64 v] w fun e w' => e = .returned (.string d) ∧ Below w.heap.size w w' := by
  have h := digits_any v.toNat w (by omega)
  rw [show ((v.toNat : Nat) : Int) = v from by omega] at h
  refine h.mono ?_
  rintro e w' ⟨he, hb⟩
  exact ⟨by rw [← hd.out]; exact he, hb⟩

set_option maxHeartbeats 1600000 in
theorem kind_any (k : Int) (h1 : 1 ≤ k) (h8 : k ≤ 8) (w : World) : Calls Tryz.prog 36 #[.int .i64 k] w fun e w' => e = .returned (.string (bs (opWord k))) ∧ w = w' := by
  have : k = 1 ∨ k = 2 ∨ k = 3 ∨ k = 4 ∨ k = 5 ∨ k = 6 ∨ k = 7 ∨ k = 8 := by omega
  rcases this with rfl | rfl | rfl | rfl | rfl | rfl | rfl | rfl
  all_goals
    clear h1 h8
    go_enter Tryz.func36, Tryz.ntmps36
    go_wp2_with fail
    go_ret
    exact ⟨rfl, rfl⟩
set_option maxHeartbeats 1600000 in
theorem structure_any (k : Int) (h1 : 1 ≤ k) (h5 : k ≤ 5) (w : World) : Calls Tryz.prog 27 #[.int .i64 k] w fun e w' => e = .returned (.string (bs (stWord k))) ∧ w = w' := by
  have : k = 1 ∨ k = 2 ∨ k = 3 ∨ k = 4 ∨ k = 5 := by omega
  rcases this with rfl | rfl | rfl | rfl | rfl
  all_goals
    clear h1 h5
    go_enter Tryz.func27, Tryz.ntmps27
    go_wp2_with fail
    go_ret
    exact ⟨rfl, rfl⟩
set_option maxHeartbeats 1600000 in
theorem engine_any (k : Int) (h1 : 1 ≤ k) (h5 : k ≤ 5) (w : World) : Calls Tryz.prog 28 #[.int .i64 k] w fun e w' => e = .returned (.string (bs (enWord k))) ∧ w = w' := by
  have : k = 1 ∨ k = 2 ∨ k = 3 ∨ k = 4 ∨ k = 5 := by omega
  rcases this with rfl | rfl | rfl | rfl | rfl
  all_goals
    clear h1 h5
    go_enter Tryz.func28, Tryz.ntmps28
    go_wp2_with fail
    go_ret
    exact ⟨rfl, rfl⟩
end Go.Proofs.YtciioiklkaannaaGreatDoor
