/- hymn.number: whether a word is a number's, and which. -/
import Derived.Test.YtciioiklkaannaaGreatDoorNum
import Derived.Test.YtciioiklkaannaaGreatDoorFnA
import Derived.LoopTactic
namespace Go.Proofs.YtciioiklkaannaaGreatDoor
open Go Go.RowKit
set_option linter.unusedSimpArgs false
set_option linter.unusedVariables false
set_option linter.unusedSectionVars false

def RetNum (s : ByteArray) (w : World) (e : Ending) (w' : World) : Prop :=
  (∃ n : Nat, NumIs s n ∧ e = .returned (.tuple #[.int .i64 n, .bool true]) ∧ w = w') ∨ ((∀ n, ¬ NumIs s n) ∧ ∃ m : Int, e = .returned (.tuple #[.int .i64 m, .bool false]) ∧ w = w')

theorem byte_toNat {c d : UInt8} (h : c ≠ d) : c.toNat ≠ d.toNat := fun e => h (UInt8.toNat_inj.1 e)
theorem beq_byte {c : UInt8} {n : Nat} (h : (c.toNat : Int) = n) : ((c.toNat : Int) == n) = true := by simp [h]
theorem ba_eq {a b : ByteArray} (h : a = b) : (a.toList == b.toList) = true := by subst h; simp
theorem ba_ne {a b : ByteArray} (h : a ≠ b) : (a.toList == b.toList) = false := by
  rw [beq_eq_false_iff_ne, Go.ByteArray.toList_eq, Go.ByteArray.toList_eq]
  exact fun e => h (ByteArray.ext (Array.toList_inj.1 e))
theorem ba_ne' {a b : ByteArray} (h : a ≠ b) : (a.toList != b.toList) = true := by rw [bne, ba_ne h]; rfl
theorem ba_eq' {a b : ByteArray} (h : a = b) : (a.toList != b.toList) = false := by rw [bne, ba_eq h]; rfl
theorem size_pos_ne {s : ByteArray} (h : 0 < s.size) : s ≠ ⟨#[]⟩ := fun e => by rw [e] at h; exact absurd h (by decide)
theorem zero_list : (⟨#[48]⟩ : ByteArray).toList = [48] := by rw [Go.ByteArray.toList_eq]

/-- The digits up to k, and their value n. -/
structure RN (s : ByteArray) (k : Nat) (n : Int) : Prop where
  h2 : k ≤ s.size
  val : n = dval (s.data.toList.take k)
  dig : ∀ c ∈ s.data.toList.take k, isDig c
theorem RN.bd {s : ByteArray} {k : Nat} {n : Int} (h : RN s k n) (hs : s.size ≤ 10) : 0 ≤ n ∧ n < 100000000000000 := by
  rw [h.val]
  exact dval_14 _ h.dig (by rw [List.length_take]; have := h.h2; omega)
theorem RN.step {s : ByteArray} {k : Nat} {n : Int} (h : RN s k n) (h1 : k < s.size) (h3 : 48 ≤ (s[k]).toNat) (h4 : (s[k]).toNat ≤ 57) : RN s (k + 1) (10 * n + (((s[k]).toNat : Int) - 48)) := by
  have e : s.data.toList.take (k + 1) = s.data.toList.take k ++ [s[k]] := by
    rw [List.take_add_one, s_at s k h1]; rfl
  refine ⟨by omega, by rw [e, dval_snoc, ← h.val], ?_⟩
  rw [e]
  intro c hc
  rcases List.mem_append.1 hc with hc | hc
  · exact h.dig c hc
  · obtain rfl := List.mem_singleton.1 hc
    exact ⟨h3, h4⟩
theorem RN.fin {s : ByteArray} {n : Int} (h : RN s s.size n) : (∀ c ∈ s.data.toList, isDig c) ∧ n = dval s.data.toList := by
  have e : s.data.toList.take s.size = s.data.toList := List.take_of_length_le (by rw [s_len]; exact Nat.le_refl _)
  have h1 := h.dig; have h2 := h.val
  rw [e] at h1 h2
  exact ⟨h1, h2⟩
theorem num_bad {s : ByteArray} {k : Nat} (h : k < s.size) (h1 : ¬ (48 ≤ (s[k]).toNat ∧ (s[k]).toNat ≤ 57)) : ∀ n, ¬ NumIs s n := fun n hn =>
  h1 ((numIs_facts hn).2.2.2.1 s[k] (List.mem_of_getElem? (s_at s k h)))

set_option maxRecDepth 100000 in
set_option maxHeartbeats 1600000 in
theorem number_any (s : ByteArray) (w : World) (hs : s.size ≤ 9223372036854775807) : Calls Tryz.prog 58 #[.string s] w (RetNum s w) := by
  by_cases h0 : s = ⟨#[]⟩
  · have HN : Hid (∀ n, ¬ NumIs s n) := fun n hn => by
      have := (numIs_facts hn).1
      rw [h0] at this
      exact absurd this (by decide)
    have HB : Hid (RetNum s w = RetNum ⟨#[]⟩ w) := by rw [h0]; rfl
    rw [h0] at HN ⊢
    clear h0 HB hs
    go_enter Tryz.func58, Tryz.ntmps58
    go_wp2_with fail
    go_ret2
    exact Or.inr ⟨HN.out, _, rfl, rfl⟩
  · have hpos : 0 < s.size := by
      rcases Nat.eq_zero_or_pos s.size with h | h
      · exact absurd (ByteArray.ext (by have : s.data.size = 0 := h; exact Array.eq_empty_of_size_eq_zero this)) h0
      · exact h
    have q0 : (s.toList == []) = false := by have := ba_ne h0; rwa [show (⟨#[]⟩ : ByteArray).toList = [] from by rw [Go.ByteArray.toList_eq]] at this
    have q1 : s.toList.isEmpty = false := isEmpty_of_size hpos
    clear h0
    by_cases h10 : s.size ≤ 10
    · have h10' : decide ((10 : Int) < (s.size : Int)) = false := decide_eq_false (by omega)
      by_cases hz : s[0] = 48 ∧ s ≠ ⟨#[48]⟩
      · have HN : Hid (∀ n, ¬ NumIs s n) := fun n hn => hz.2 ((numIs_facts hn).2.2.1 hpos hz.1)
        have q2 : ((s[0].toNat : Int) == 48) = true := by rw [hz.1]; rfl
        have q3 : (s.toList == [48]) = false := by have := ba_ne hz.2; rwa [zero_list] at this
        clear hz
        go_enter Tryz.func58, Tryz.ntmps58
        go_wp2_with fail
        go_ret2
        exact Or.inr ⟨HN.out, _, rfl, rfl⟩
      · have HZ : Hid (s[0] = 48 → s = ⟨#[48]⟩) := fun e => Decidable.byContradiction fun h => hz ⟨e, h⟩
        have hd : ((s[0].toNat : Int) == 48) = false ∨ (((s[0].toNat : Int) == 48) = true ∧ (s.toList == [48]) = true) := by
          by_cases e : s[0] = 48
          · refine Or.inr ⟨by rw [e]; rfl, ?_⟩
            have := ba_eq (HZ.out e); rwa [zero_list] at this
          · refine Or.inl ?_
            have h2 := byte_toNat e
            have : (48 : UInt8).toNat = 48 := rfl
            simp; omega
        clear hz
        rcases hd with q2 | ⟨q2, q3⟩
        all_goals
          go_enter Tryz.func58, Tryz.ntmps58
          go_wp2_with fail
          go_loop [4, 24] (fun t4 t24 => ∃ (k : Nat) (n : Int), t24 = .int .i64 k ∧ t4 = .int .i64 n ∧ RN s k n) (fun _ t24 => s.size - (intOf t24).toNat)
          case atStart => exact ⟨0, 0, rfl, rfl, ⟨Nat.zero_le _, by simp [dval], by simp⟩⟩
          case round =>
            obtain ⟨k, n, rfl, rfl, R'⟩ := hrel
            have R := Lib.hid R'
            have hk := R'.h2
            obtain ⟨n0, n1⟩ := R'.bd h10
            clear R'
            by_cases hlt : k < s.size
            · by_cases g : 48 ≤ (s[k]).toNat ∧ (s[k]).toNat ≤ 57
              · obtain ⟨g1, g2⟩ := g
                have g1' : decide (((s[k]).toNat : Int) < 48) = false := decide_eq_false (by omega)
                have g2' : decide ((57 : Int) < ((s[k]).toNat : Int)) = false := decide_eq_false (by omega)
                go_wp2_with fail
                go_round
                case rel => exact ⟨k + 1, _, by go_num, rfl, R.out.step hlt g1 g2⟩
                case measure => simp [intOf]; omega
              · have HN := Lib.hid (num_bad hlt g)
                have hg : decide (((s[k]).toNat : Int) < 48) = true ∨ (decide (((s[k]).toNat : Int) < 48) = false ∧ decide ((57 : Int) < ((s[k]).toNat : Int)) = true) := by
                  simp only [decide_eq_true_eq, decide_eq_false_iff_not]; omega
                clear g
                rcases hg with g1 | ⟨g1, g2⟩
                all_goals
                  go_wp2_with fail
                  go_ret2
                  exact Or.inr ⟨HN.out, _, rfl, rfl⟩
            · obtain rfl : k = s.size := by omega
              obtain ⟨f1, f2⟩ := R.out.fin
              by_cases hm : n ≤ 1073741824
              · have HN := Lib.hid (numIs_of hpos HZ.out f1 (by rw [← f2]; exact hm))
                rw [← f2] at HN
                have hd : decide (n ≤ 1073741824) = true := decide_eq_true hm
                obtain ⟨m, rfl⟩ : ∃ m : Nat, n = m := ⟨n.toNat, by omega⟩
                clear f1 f2
                go_wp2_with fail
                go_ret2
                exact Or.inl ⟨m, by simpa using HN.out, rfl, rfl⟩
              · have HN : Hid (∀ m, ¬ NumIs s m) := fun m hm' => by
                  have h1 := (numIs_facts hm').2.2.2.2
                  have := hm'.1
                  rw [← f2] at h1
                  omega
                have hd : decide (n ≤ 1073741824) = false := decide_eq_false hm
                clear f1 f2
                go_wp2_with fail
                go_ret2
                exact Or.inr ⟨HN.out, _, rfl, rfl⟩
    · have HN : Hid (∀ n, ¬ NumIs s n) := fun n hn => h10 (numIs_facts hn).2.1
      have hd : decide ((10 : Int) < (s.size : Int)) = true := decide_eq_true (by omega)
      go_enter Tryz.func58, Tryz.ntmps58
      go_wp2_with fail
      go_ret2
      exact Or.inr ⟨HN.out, _, rfl, rfl⟩
end Go.Proofs.YtciioiklkaannaaGreatDoor
