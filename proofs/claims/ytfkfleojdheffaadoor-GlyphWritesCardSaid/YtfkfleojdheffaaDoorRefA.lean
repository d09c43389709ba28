/- The reference of glyph: digits, Good, Pack. -/
import Derived.Test.YtfkfleojdheffaaDoorSmallW
import Derived.Test.YtfkfleojdheffaaDoorRefP
namespace Go.Proofs.YtfkfleojdheffaaDoor
open Go Go.RowKit
set_option linter.unusedSimpArgs false
set_option linter.unusedVariables false
set_option linter.unusedSectionVars false

theorem digit_cut (n : Nat) (h : n < 10) : (⟨#[48, 49, 50, 51, 52, 53, 54, 55, 56, 57]⟩ : ByteArray).extract n (n + 1) = bs [UInt8.ofNat (48 + n)] := by
  have : n = 0 ∨ n = 1 ∨ n = 2 ∨ n = 3 ∨ n = 4 ∨ n = 5 ∨ n = 6 ∨ n = 7 ∨ n = 8 ∨ n = 9 := by omega
  rcases this with rfl | rfl | rfl | rfl | rfl | rfl | rfl | rfl | rfl | rfl <;> rfl

theorem bs_size (l : List UInt8) : (bs l).size = l.length := by simp [bs, ByteArray.size]
theorem bs_append (a b : List UInt8) : bs a ++ bs b = bs (a ++ b) := by
  apply ByteArray.ext; simp [bs, ByteArray.data_append]

set_option maxRecDepth 100000 in
set_option maxHeartbeats 1600000 in
theorem digits_any (n : Nat) : ∀ (w : World), n ≤ 9000000000000000000 → Calls Tryd.prog 24 #[.int .i64 n] w (RetS (Lib.decDigits n) w) := by
  induction n using Nat.strongRecOn with
  | _ n ih =>
    intro w hn
    rw [Lib.decDigits]
    by_cases h : n < 10
    · rw [dif_pos h]
      have hc := digit_cut n h
      have HC := Lib.hid hc; clear hc ih
      go_enter Tryd.func24, Tryd.ntmps24
      go_wp2_with fail
      go_ret
      refine ⟨?_, by (repeat' (first | (with_reducible exact Below.refl _ _) | (with_reducible assumption) | (with_reducible refine Below.alloc ?_ ?_ _) | (with_reducible refine Below.drew ?_) | (with_reducible refine below_drewN ?_ _) | (with_reducible refine Below.setCell ?_ ?_ _) | go_size))⟩
      rw [← HC.out]
      rfl
    · rw [dif_neg h]
      obtain ⟨q, hq⟩ : ∃ q : Nat, n / 10 = q := ⟨_, rfl⟩
      obtain ⟨r, hr⟩ : ∃ r : Nat, n % 10 = r := ⟨_, rfl⟩
      rw [hq, hr]
      have hc := digit_cut r (by omega)
      obtain ⟨D, hD⟩ : ∃ D, (⟨#[48, 49, 50, 51, 52, 53, 54, 55, 56, 57]⟩ : ByteArray).extract r (r + 1) = D := ⟨_, rfl⟩
      obtain ⟨d, hd'⟩ : ∃ d, bs (Lib.decDigits q) = d := ⟨_, rfl⟩
      have s1 : D.size ≤ 1 := by rw [← hD, hc, bs_size]; simp
      have s2 : d.size ≤ 19 := by rw [← hd', bs_size]; exact dec_len 18 q (by omega)
      have hih : ∀ w, Calls Tryd.prog 24 #[.int .i64 (q : Int)] w (fun e w' => e = .returned (.string d) ∧ Below w.heap.size w w') := fun w => hd' ▸ ih q (by omega) w (by omega)
      have HC := Lib.hid (hD.symm.trans hc)
      have HI := Lib.hid hih
      have HD := Lib.hid hd'
      clear hc hih ih hd'
      have e1 : (n : Int) / 10 = (q : Int) := by omega
      have e2 : (n : Int) % 10 = (r : Int) := by omega
      have b1 : r < 10 := by omega
      have hd : decide ((n : Int) < 10) = false := by simp; omega
      have w1 : IntKind.i64.wrap (q : Int) = q := IntWalk.i64_in _ (by omega)
      have w2 : IntKind.i64.wrap (r : Int) = r := IntWalk.i64_in _ (by omega)
      have w3 : IntKind.i64.wrap ((r : Int) + 1) = r + 1 := IntWalk.i64_in _ (by omega)
      have w9 : ¬ (9223372036854775807 < d.size + D.size) := by omega
      have w5 : (0 : Int) ≤ r := by omega
      have w6 : (r : Int) + 1 ≤ 10 := by omega
      have w7 : (r : Int) ≤ r + 1 := by omega
      have e3 : (n : Int).tmod 10 = r := by rw [Int.tmod_eq_emod_of_nonneg (by omega)]; exact e2
      have w4 : ((r : Int) + 1).toNat = r + 1 := by omega
      clear hq hr
      go_enter Tryd.func24, Tryd.ntmps24
      go_wp2_with fail
      (refine wp_region_class (fun w' : World => Below w.heap.size w w') (by kernel_rfl) (by kernel_rfl) ((Below.refl _ _).drew) ?_; (repeat (first | go_big_quiet_skip | (go_big_quiet_want; first | (go_big_quiet_op; go_big_quiet_on) | (apply Exists.intro; refine ⟨fun w' hC => ?_, ?_⟩; (· (skip; go_simp; first | done | rfl | exact ⟨rfl, rfl⟩ | ((go_at_call 24; (with_reducible refine (HI.out _).mono ?_); rintro e w'' ⟨rfl, hb⟩; exact ⟨rfl, hC.trans (hb.mono hC.size)⟩)))); go_big_quiet_on; simp only [Act.put, List.setIfInBounds_toArray, List.set_cons_succ, List.set_cons_zero])))); refine wpQuiet_nil ?_; intro w' hC)
      (try dsimp only)
      go_wp2_with fail
      go_ret
      refine ⟨?_, hC⟩
      rw [← HD.out, HC.out, bs_append]
      rfl

def inB (n lo hi : Int) : Bool := decide (lo ≤ n ∧ n ≤ hi)
set_option maxHeartbeats 400000 in
theorem in_any (n lo hi : Int) (b : Bool) (h : Hid (inB n lo hi = b)) (w : World) : Calls Tryd.prog 30 #[.int .i64 n, .int .i64 lo, .int .i64 hi] w fun e w' => e = .returned (.bool b) ∧ w = w' := by
  rw [← h.out]
  clear h
  unfold inB
  by_cases h1 : lo ≤ n
  · by_cases h2 : n ≤ hi
    · have d1 : decide (lo ≤ n) = true := decide_eq_true h1
      have d2 : decide (n ≤ hi) = true := decide_eq_true h2
      rw [show decide (lo ≤ n ∧ n ≤ hi) = true from decide_eq_true ⟨h1, h2⟩]
      clear h1 h2
      go_enter Tryd.func30, Tryd.ntmps30
      go_wp2_with fail
      go_ret
      exact ⟨rfl, rfl⟩
    · have d1 : decide (lo ≤ n) = true := decide_eq_true h1
      have d2 : decide (n ≤ hi) = false := decide_eq_false h2
      rw [show decide (lo ≤ n ∧ n ≤ hi) = false from decide_eq_false (fun h => h2 h.2)]
      clear h1 h2
      go_enter Tryd.func30, Tryd.ntmps30
      go_wp2_with fail
      go_ret
      exact ⟨rfl, rfl⟩
  · have d1 : decide (lo ≤ n) = false := decide_eq_false h1
    rw [show decide (lo ≤ n ∧ n ≤ hi) = false from decide_eq_false (fun h => h1 h.1)]
    clear h1
    go_enter Tryd.func30, Tryd.ntmps30
    go_wp2_with fail
    go_ret
    exact ⟨rfl, rfl⟩
theorem good_in (x : PW) : goodB x = (inB x.slot 0 1024 && inB x.gen 0 1099511627776 && inB x.tag 0 1099511627776 && inB x.num (-1099511627776) 1099511627776 && (x.slot != 0 || x.gen == 0)) := by
  rw [Bool.eq_iff_iff, goodB_true]
  simp only [GoodP, inB, Bool.and_eq_true, decide_eq_true_eq, Bool.or_eq_true, bne_iff_ne, beq_iff_eq]
  omega
set_option maxRecDepth 100000 in
set_option maxHeartbeats 1600000 in
theorem refGood_any (x : PW) (w : World) : Calls Tryd.prog 23 #[x.v] w (RetB (goodB x) w) := by
  rw [good_in]
  obtain ⟨slot, gen, tag, num, mark⟩ := x
  simp only [PW.v]
  obtain ⟨b1, h1⟩ : ∃ b, inB slot 0 1024 = b := ⟨_, rfl⟩
  obtain ⟨b2, h2⟩ : ∃ b, inB gen 0 1099511627776 = b := ⟨_, rfl⟩
  obtain ⟨b3, h3⟩ : ∃ b, inB tag 0 1099511627776 = b := ⟨_, rfl⟩
  obtain ⟨b4, h4⟩ : ∃ b, inB num (-1099511627776) 1099511627776 = b := ⟨_, rfl⟩
  rw [h1, h2, h3, h4]
  have H1 := Lib.hid h1; have H2 := Lib.hid h2; have H3 := Lib.hid h3; have H4 := Lib.hid h4
  clear h1 h2 h3 h4
  cases b1
  · (go_enter Tryd.func23, Tryd.ntmps23; go_wp2_with (go_at_call 30; (first | (with_reducible refine (in_any _ _ _ _ H1 _).mono ?_) | (with_reducible refine (in_any _ _ _ _ H2 _).mono ?_) | (with_reducible refine (in_any _ _ _ _ H3 _).mono ?_) | (with_reducible refine (in_any _ _ _ _ H4 _).mono ?_)); rintro e w' ⟨rfl, rfl⟩); go_ret; exact ⟨rfl, (by (repeat' (first | (with_reducible exact Below.refl _ _) | (with_reducible assumption) | (with_reducible refine Below.alloc ?_ ?_ _) | (with_reducible refine Below.drew ?_) | (with_reducible refine below_drewN ?_ _) | (with_reducible refine Below.setCell ?_ ?_ _) | go_size)))⟩)
  cases b2
  · (go_enter Tryd.func23, Tryd.ntmps23; go_wp2_with (go_at_call 30; (first | (with_reducible refine (in_any _ _ _ _ H1 _).mono ?_) | (with_reducible refine (in_any _ _ _ _ H2 _).mono ?_) | (with_reducible refine (in_any _ _ _ _ H3 _).mono ?_) | (with_reducible refine (in_any _ _ _ _ H4 _).mono ?_)); rintro e w' ⟨rfl, rfl⟩); go_ret; exact ⟨rfl, (by (repeat' (first | (with_reducible exact Below.refl _ _) | (with_reducible assumption) | (with_reducible refine Below.alloc ?_ ?_ _) | (with_reducible refine Below.drew ?_) | (with_reducible refine below_drewN ?_ _) | (with_reducible refine Below.setCell ?_ ?_ _) | go_size)))⟩)
  cases b3
  · (go_enter Tryd.func23, Tryd.ntmps23; go_wp2_with (go_at_call 30; (first | (with_reducible refine (in_any _ _ _ _ H1 _).mono ?_) | (with_reducible refine (in_any _ _ _ _ H2 _).mono ?_) | (with_reducible refine (in_any _ _ _ _ H3 _).mono ?_) | (with_reducible refine (in_any _ _ _ _ H4 _).mono ?_)); rintro e w' ⟨rfl, rfl⟩); go_ret; exact ⟨rfl, (by (repeat' (first | (with_reducible exact Below.refl _ _) | (with_reducible assumption) | (with_reducible refine Below.alloc ?_ ?_ _) | (with_reducible refine Below.drew ?_) | (with_reducible refine below_drewN ?_ _) | (with_reducible refine Below.setCell ?_ ?_ _) | go_size)))⟩)
  cases b4
  · (go_enter Tryd.func23, Tryd.ntmps23; go_wp2_with (go_at_call 30; (first | (with_reducible refine (in_any _ _ _ _ H1 _).mono ?_) | (with_reducible refine (in_any _ _ _ _ H2 _).mono ?_) | (with_reducible refine (in_any _ _ _ _ H3 _).mono ?_) | (with_reducible refine (in_any _ _ _ _ H4 _).mono ?_)); rintro e w' ⟨rfl, rfl⟩); go_ret; exact ⟨rfl, (by (repeat' (first | (with_reducible exact Below.refl _ _) | (with_reducible assumption) | (with_reducible refine Below.alloc ?_ ?_ _) | (with_reducible refine Below.drew ?_) | (with_reducible refine below_drewN ?_ _) | (with_reducible refine Below.setCell ?_ ?_ _) | go_size)))⟩)
  by_cases q1 : slot = 0
  · have k1 : (slot != 0) = false := by simp [q1]
    rw [k1]
    by_cases q2 : gen = 0
    · have k2 : (gen == 0) = true := by simp [q2]
      rw [k2]
      clear q1 q2
      (go_enter Tryd.func23, Tryd.ntmps23; go_wp2_with (go_at_call 30; (first | (with_reducible refine (in_any _ _ _ _ H1 _).mono ?_) | (with_reducible refine (in_any _ _ _ _ H2 _).mono ?_) | (with_reducible refine (in_any _ _ _ _ H3 _).mono ?_) | (with_reducible refine (in_any _ _ _ _ H4 _).mono ?_)); rintro e w' ⟨rfl, rfl⟩); go_ret; exact ⟨rfl, (by (repeat' (first | (with_reducible exact Below.refl _ _) | (with_reducible assumption) | (with_reducible refine Below.alloc ?_ ?_ _) | (with_reducible refine Below.drew ?_) | (with_reducible refine below_drewN ?_ _) | (with_reducible refine Below.setCell ?_ ?_ _) | go_size)))⟩)
    · have k2 : (gen == 0) = false := by simp [q2]
      rw [k2]
      clear q1 q2
      (go_enter Tryd.func23, Tryd.ntmps23; go_wp2_with (go_at_call 30; (first | (with_reducible refine (in_any _ _ _ _ H1 _).mono ?_) | (with_reducible refine (in_any _ _ _ _ H2 _).mono ?_) | (with_reducible refine (in_any _ _ _ _ H3 _).mono ?_) | (with_reducible refine (in_any _ _ _ _ H4 _).mono ?_)); rintro e w' ⟨rfl, rfl⟩); go_ret; exact ⟨rfl, (by (repeat' (first | (with_reducible exact Below.refl _ _) | (with_reducible assumption) | (with_reducible refine Below.alloc ?_ ?_ _) | (with_reducible refine Below.drew ?_) | (with_reducible refine below_drewN ?_ _) | (with_reducible refine Below.setCell ?_ ?_ _) | go_size)))⟩)
  · have k1 : (slot != 0) = true := by simp [q1]
    rw [k1]
    clear q1
    (go_enter Tryd.func23, Tryd.ntmps23; go_wp2_with (go_at_call 30; (first | (with_reducible refine (in_any _ _ _ _ H1 _).mono ?_) | (with_reducible refine (in_any _ _ _ _ H2 _).mono ?_) | (with_reducible refine (in_any _ _ _ _ H3 _).mono ?_) | (with_reducible refine (in_any _ _ _ _ H4 _).mono ?_)); rintro e w' ⟨rfl, rfl⟩); go_ret; exact ⟨rfl, (by (repeat' (first | (with_reducible exact Below.refl _ _) | (with_reducible assumption) | (with_reducible refine Below.alloc ?_ ?_ _) | (with_reducible refine Below.drew ?_) | (with_reducible refine below_drewN ?_ _) | (with_reducible refine Below.setCell ?_ ?_ _) | go_size)))⟩)
end Go.Proofs.YtfkfleojdheffaaDoor
