/- The reference's number, at, words. -/
import Derived.Test.YtciioiklkaannaaGreatDoorRdP
import Derived.Test.YtciioiklkaannaaGreatDoorRfA
namespace Go.Proofs.YtciioiklkaannaaGreatDoor
open Go Go.RowKit
set_option linter.unusedSimpArgs false
set_option linter.unusedVariables false
set_option linter.unusedSectionVars false

theorem numOf_s (s : ByteArray) {n : Nat} (h : NumIs s n) : numOf s.data.toList = n := numOf_is (by rw [s_bs]; exact h)
theorem numOf_sn (s : ByteArray) (h : ∀ n, ¬ NumIs s n) : numOf s.data.toList = -1 := numOf_no (by rw [s_bs]; exact h)

set_option maxRecDepth 100000 in
set_option maxHeartbeats 3200000 in
theorem refNumber_any (s : ByteArray) (w : World) (hs : s.size ≤ 9223372036854775807) (v : Int) (hv : numOf s.data.toList = v) :
    Calls Tryz.prog 59 #[.string s] w fun e w' => e = .returned (.int .i64 v) ∧ w = w' := by
  have HV := Lib.hid hv; clear hv
  by_cases h0 : s.size = 0
  · have z : (s.size : Int) = 0 := by omega
    have HN : Hid (numOf s.data.toList = -1) := numOf_sn s fun n hn => by have := (numIs_facts hn).1; omega
    clear h0
    go_enter Tryz.func59, Tryz.ntmps59
    go_wp2_with fail
    go_ret
    exact ⟨by rw [← HV.out, HN.out]; rfl, rfl⟩
  · have hpos : 0 < s.size := by omega
    have z : ((s.size : Int) == 0) = false := beq_false_of_ne (by omega)
    have z' : s ≠ ByteArray.empty := fun e => by rw [e] at hpos; exact absurd hpos (by decide)
    by_cases h10 : s.size ≤ 10
    · have z10 : decide ((10 : Int) < (s.size : Int)) = false := decide_eq_false (by omega)
      clear h0
      by_cases hz : s[0] = 48 ∧ 1 < s.size
      · obtain ⟨e1, e2⟩ := hz
        have HN : Hid (numOf s.data.toList = -1) := numOf_sn s fun n hn => by
          have h1 := (numIs_facts hn).2.2.1 hpos e1
          rw [h1] at e2
          exact absurd e2 (by decide)
        have q1 : (((s[0]).toNat : Int) == 48) = true := by rw [e1]; rfl
        have q2 : decide ((1 : Int) < (s.size : Int)) = true := decide_eq_true (by omega)
        clear e1 e2
        go_enter Tryz.func59, Tryz.ntmps59
        go_wp2_with fail
        go_ret
        exact ⟨by rw [← HV.out, HN.out]; rfl, rfl⟩
      · have HZ : Hid (s[0] = 48 → s = ⟨#[48]⟩) := fun e => by
          have h1 : s.size = 1 := by rcases Nat.lt_or_ge 1 s.size with h | h; · exact absurd ⟨e, h⟩ hz
                                     · omega
          apply ByteArray.ext
          apply Array.ext
          · exact h1
          · intro i h2 h3
            have h2' : i < s.size := h2
            have : i = 0 := by omega
            subst this
            exact e
        have hd : (((s[0]).toNat : Int) == 48) = false ∨ ((((s[0]).toNat : Int) == 48) = true ∧ decide ((1 : Int) < (s.size : Int)) = false) := by
          by_cases e : s[0] = 48
          · refine Or.inr ⟨by rw [e]; rfl, decide_eq_false (fun h => hz ⟨e, by omega⟩)⟩
          · refine Or.inl (beq_false_of_ne (fun h => e (UInt8.toNat_inj.1 (by have : (48 : UInt8).toNat = 48 := rfl; omega))))
        clear hz
        rcases hd with q1 | ⟨q1, q2⟩
        all_goals
          go_enter Tryz.func59, Tryz.ntmps59
          go_wp2_with fail
          go_loop [3, 4] (fun t3 t4 => ∃ (k : Nat) (n : Int), t4 = .int .i64 k ∧ t3 = .int .i64 n ∧ RN s k n) (fun _ t4 => s.size - (intOf t4).toNat)
          case atStart => exact ⟨0, 0, rfl, rfl, ⟨Nat.zero_le _, by simp [dval], by simp⟩⟩
          case round =>
            obtain ⟨k, n, rfl, rfl, R'⟩ := hrel
            have R := Lib.hid R'
            have hk := R'.h2
            obtain ⟨n0, n1⟩ := R'.bd h10
            clear R'
            by_cases hlt : k < s.size
            · by_cases g : 48 ≤ (s[k]).toNat ∧ (s[k]).toNat ≤ 57
              · obtain ⟨g1, g2⟩ := g
                have g1' : ¬ (((s[k]).toNat : Int) < 48) := by omega
                have g2' : ¬ ((57 : Int) < ((s[k]).toNat : Int)) := by omega
                go_wp2_with fail
                go_round
                case rel => exact ⟨k + 1, _, by go_num, rfl, R.out.step hlt g1 g2⟩
                case measure => simp [intOf]; omega
              · have HN : Hid (numOf s.data.toList = -1) := numOf_sn s (num_bad hlt g)
                have hg : (((s[k]).toNat : Int) < 48) ∨ (¬ (((s[k]).toNat : Int) < 48) ∧ ((57 : Int) < ((s[k]).toNat : Int))) := by omega
                clear g
                rcases hg with g1 | ⟨g1, g2⟩
                all_goals
                  go_wp2_with fail
                  go_ret
                  exact ⟨by rw [← HV.out, HN.out]; rfl, rfl⟩
            · obtain rfl : k = s.size := by omega
              obtain ⟨f1, f2⟩ := R.out.fin
              by_cases hm : n ≤ 1073741824
              · have HN : Hid (numOf s.data.toList = n) := by
                  have h1 := numOf_s s (numIs_of hpos HZ.out f1 (by rw [← f2]; exact hm))
                  show _ = _
                  rw [h1, ← f2]; omega
                clear f1 f2
                go_wp2_with fail
                go_ret
                exact ⟨by rw [← HV.out, HN.out]; rfl, rfl⟩
              · have HN : Hid (numOf s.data.toList = -1) := numOf_sn s fun m hm' => by
                  have h1 := (numIs_facts hm').2.2.2.2
                  have := hm'.1
                  rw [← f2] at h1
                  omega
                have hd : (1073741824 : Int) < n := by omega
                clear f1 f2
                go_wp2_with fail
                go_ret
                exact ⟨by rw [← HV.out, HN.out]; rfl, rfl⟩
    · have HN : Hid (numOf s.data.toList = -1) := numOf_sn s fun n hn => h10 (numIs_facts hn).2.1
      have hd : decide ((10 : Int) < (s.size : Int)) = true := decide_eq_true (by omega)
      go_enter Tryz.func59, Tryz.ntmps59
      go_wp2_with fail
      go_ret
      exact ⟨by rw [← HV.out, HN.out]; rfl, rfl⟩

/-- A list of words in memory. -/
def WL (w : World) (A : Option Addr) (W : List (List UInt8)) : Prop := Sl w w.heap.size 1 A W.length (strs (W.map bs))
theorem WL.more {w w' : World} {A : Option Addr} {W : List (List UInt8)} (h : WL w A W) (hb : Below w.heap.size w w') : WL w' A W := (Sl.below h hb).more hb.size
set_option maxRecDepth 100000 in
set_option maxHeartbeats 800000 in
theorem at_any (A : Option Addr) (c : Nat) (W : List (List UInt8)) (w : World) (h : WL w A W) (hz : ∀ x ∈ W, x.length ≤ 1000000) (hn : W.length ≤ 1000000) (i : Nat) (hi : i ≤ 1000000) (v : Int) (hv : atV W i = v) :
    Calls Tryz.prog 42 #[.slice A W.length c, .int .i64 i] w fun e w' => e = .returned (.int .i64 v) ∧ w = w' := by
  have i1 : (0 : Int) ≤ (i : Int) := by omega
  by_cases hlt : i < W.length
  · have hv2 : numOf (bs W[i]).data.toList = v := by rw [bs_data, ← hv]; simp [atV, hlt]
    have HN := Lib.hid (refNumber_any (bs W[i]) w (by rw [bs_size]; have := hz _ (List.getElem_mem hlt); omega) v hv2)
    obtain ⟨b, off, rfl, _, hc⟩ := h.2 (by omega)
    have q := hc i (.string (bs W[i])) (by simp [strs, hlt])
    have i2 : (i : Int) < (W.length : Int) := by omega
    clear hv2 hv hc
    go_enter Tryz.func42, Tryz.ntmps42
    go_wp2_with fail
    refine HN.out.mono ?_
    rintro e w' ⟨rfl, rfl⟩
    go_wp2_with fail
    go_ret
    exact ⟨rfl, rfl⟩
  · have hv2 : v = -1 := by rw [← hv]; simp [atV, hlt]
    have i2 : (W.length : Int) ≤ (i : Int) := by omega
    subst hv2
    clear hv
    go_enter Tryz.func42, Tryz.ntmps42
    go_wp2_with fail
    go_ret
    exact ⟨rfl, rfl⟩
end Go.Proofs.YtciioiklkaannaaGreatDoor
