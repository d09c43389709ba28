/- Whether two scripts are the same, by the reference. -/
import Derived.Test.YtciioiklkaannaaGreatDoorStEq
import Derived.Test.YtciioiklkaannaaGreatDoorFnEqZ
namespace Go.Proofs.YtciioiklkaannaaGreatDoor
open Go Go.RowKit
set_option linter.unusedSimpArgs false
set_option linter.unusedVariables false
set_option linter.unusedSectionVars false

theorem scr_ne_ops {st en th sl no st' en' th' sl' no' : Int} {ops ops' : List PTask} {picks picks' : List Int} (h : ops ≠ ops' ∨ picks ≠ picks') :
    decide ((⟨st, en, th, sl, no, ops, picks⟩ : PScr) = ⟨st', en', th', sl', no', ops', picks'⟩) = false := by
  simp only [decide_eq_false_iff_not, PScr.mk.injEq]
  rintro ⟨_, _, _, _, _, h1, h2⟩
  rcases h with h | h
  · exact h h1
  · exact h h2

set_option maxHeartbeats 1600000 in
theorem refSame_any (x y : PScr) (A1 A2 B1 B2 : Option Addr) (c1 c2 d1 d2 : Nat) (w : World)
    (ho : Sl w w.heap.size 5 A1 x.ops.length (tcells x.ops)) (hp : Sl w w.heap.size 1 A2 x.picks.length (icells x.picks))
    (ho' : Sl w w.heap.size 5 B1 y.ops.length (tcells y.ops)) (hp' : Sl w w.heap.size 1 B2 y.picks.length (icells y.picks))
    (lo : x.ops.length ≤ 9223372036854775807) (lp : x.picks.length ≤ 9223372036854775807) (lo' : y.ops.length ≤ 9223372036854775807) (lp' : y.picks.length ≤ 9223372036854775807) :
    Calls Tryz.prog 16 #[x.v A1 c1 A2 c2, y.v B1 d1 B2 d2] w (RetB (decide (x = y)) w) := by
  obtain ⟨st, en, th, sl, no, ops, picks⟩ := x
  obtain ⟨st', en', th', sl', no', ops', picks'⟩ := y
  simp only [PScr.v] at *
  by_cases hc : st = st' ∧ en = en' ∧ th = th' ∧ sl = sl' ∧ no = no'
  · obtain ⟨rfl, rfl, rfl, rfl, rfl⟩ := hc
    by_cases hl1 : ops'.length = ops.length
    · by_cases hl2 : picks'.length = picks.length
      · rw [hl1] at ho' ⊢
        rw [hl2] at hp' ⊢
        have HL := Lib.hid (And.intro hl1 hl2)
        clear lo' lp'
        go_enter Tryz.func16, Tryz.ntmps16
        clear hl1 hl2
        go_wp2_with fail
        have hB : Below w.heap.size w ((w.alloc (.cells #[.int .i64 st, .int .i64 en, .int .i64 th, .int .i64 sl, .int .i64 no, .slice A1 ops.length c1, .slice A2 picks.length c2] 27)).alloc (.cells #[.int .i64 st, .int .i64 en, .int .i64 th, .int .i64 sl, .int .i64 no, .slice B1 ops.length d1, .slice B2 picks.length d2] 27)) := ((Below.refl _ _).alloc (Nat.le_refl _) _).alloc (by simp) _
        have ho1 := ho.below hB
        have ho2 := ho'.below hB
        have hp1 := hp.below hB
        have hp2 := hp'.below hB
        clear ho ho' hp hp'
        have e1 : ((w.alloc (.cells #[.int .i64 st, .int .i64 en, .int .i64 th, .int .i64 sl, .int .i64 no, .slice A1 ops.length c1, .slice A2 picks.length c2] 27)).alloc (.cells #[.int .i64 st, .int .i64 en, .int .i64 th, .int .i64 sl, .int .i64 no, .slice B1 ops.length d1, .slice B2 picks.length d2] 27)).cell? ⟨w.heap.size, 5, none⟩ = some (.slice A1 ops.length c1) := by simp
        have e2 : ((w.alloc (.cells #[.int .i64 st, .int .i64 en, .int .i64 th, .int .i64 sl, .int .i64 no, .slice A1 ops.length c1, .slice A2 picks.length c2] 27)).alloc (.cells #[.int .i64 st, .int .i64 en, .int .i64 th, .int .i64 sl, .int .i64 no, .slice B1 ops.length d1, .slice B2 picks.length d2] 27)).cell? ⟨w.heap.size, 6, none⟩ = some (.slice A2 picks.length c2) := by simp
        have e3 : ((w.alloc (.cells #[.int .i64 st, .int .i64 en, .int .i64 th, .int .i64 sl, .int .i64 no, .slice A1 ops.length c1, .slice A2 picks.length c2] 27)).alloc (.cells #[.int .i64 st, .int .i64 en, .int .i64 th, .int .i64 sl, .int .i64 no, .slice B1 ops.length d1, .slice B2 picks.length d2] 27)).cell? ⟨w.heap.size + 1, 5, none⟩ = some (.slice B1 ops.length d1) := by simp
        have e4 : ((w.alloc (.cells #[.int .i64 st, .int .i64 en, .int .i64 th, .int .i64 sl, .int .i64 no, .slice A1 ops.length c1, .slice A2 picks.length c2] 27)).alloc (.cells #[.int .i64 st, .int .i64 en, .int .i64 th, .int .i64 sl, .int .i64 no, .slice B1 ops.length d1, .slice B2 picks.length d2] 27)).cell? ⟨w.heap.size + 1, 6, none⟩ = some (.slice B2 picks.length d2) := by simp
        generalize ((w.alloc (.cells #[.int .i64 st, .int .i64 en, .int .i64 th, .int .i64 sl, .int .i64 no, .slice A1 ops.length c1, .slice A2 picks.length c2] 27)).alloc (.cells #[.int .i64 st, .int .i64 en, .int .i64 th, .int .i64 sl, .int .i64 no, .slice B1 ops.length d1, .slice B2 picks.length d2] 27)) = W at *
        go_loopw [5] (fun i wr => ∃ k m : Nat, k ≤ ops.length ∧ i = .int .i64 k ∧ W.drewN m = wr ∧ Hid (ops.take k = ops'.take k)) (fun i _ => ops.length - (intOf i).toNat)
        case atStart => exact ⟨0, 0, Nat.zero_le _, rfl, rfl, rfl⟩
        case round =>
          obtain ⟨k, m, hk, rfl, rfl, hall⟩ := hrel
          by_cases hlt : k < ops.length
          · have hlt2 : k < ops'.length := by rw [HL.out.1]; exact hlt
            rw [← HL.out.1] at ho2
            obtain ⟨b1, o1, rfl, _, q10, q11, q12, q13, q14⟩ := ho1.task hlt
            obtain ⟨b2, o2, rfl, _, q20, q21, q22, q23, q24⟩ := ho2.task hlt2
            clear ho1 ho2 hp1 hp2
            by_cases he : ops[k] = ops'[k]
            · have hn := take_step hlt hlt2 hall.out he
              obtain ⟨d1, d2, d3, d4, d5⟩ := task_eq he
              clear he
              go_wp2_with fail
              go_quiet (fail)
              go_wp2_with fail
              go_roundw
              case rel => exact ⟨k + 1, _, by omega, by go_num, rfl, hn⟩
              case measure => simp [intOf]; omega
            · have HD := Lib.hid (scr_ne_ops (st := st) (en := en) (th := th) (sl := sl) (no := no) (st' := st) (en' := en) (th' := th) (sl' := sl) (no' := no) (picks := picks) (picks' := picks') (Or.inl (ne_of_get hlt hlt2 he)))
              have hn := task_ne he
              clear he
              rcases hn with d1 | ⟨d1, d2⟩ | ⟨d1, d2, d3⟩ | ⟨d1, d2, d3, d4⟩ | ⟨d1, d2, d3, d4, d5⟩
              all_goals
                go_wp2_with fail
                go_quiet (fail)
                go_wp2_with fail
                go_ret
                exact ⟨ret_bool HD.out.symm, below_drewN (below_drewN hB _) _⟩
          · have hke : k = ops.length := by omega
            subst hke
            have hd : ops = ops' := by
              have := hall.out
              rwa [List.take_length, List.take_of_length_le (by rw [HL.out.1]; exact Nat.le_refl _)] at this
            have HO := Lib.hid hd; clear hd hall
            go_wp2_with fail
            go_loopw [6] (fun i wr => ∃ k n : Nat, k ≤ picks.length ∧ i = .int .i64 k ∧ W.drewN n = wr ∧ Hid (picks.take k = picks'.take k)) (fun i _ => picks.length - (intOf i).toNat)
            case atStart => exact ⟨0, m, Nat.zero_le _, rfl, rfl, rfl⟩
            case round =>
              obtain ⟨k, n, hk, rfl, rfl, hall⟩ := hrel
              by_cases hlt : k < picks.length
              · have hlt2 : k < picks'.length := by rw [HL.out.2]; exact hlt
                rw [← HL.out.2] at hp2
                obtain ⟨b1, o1, rfl, _, q1⟩ := hp1.pick hlt
                obtain ⟨b2, o2, rfl, _, q2⟩ := hp2.pick hlt2
                clear ho1 ho2 hp1 hp2
                by_cases he : picks[k] = picks'[k]
                · have hn := take_step hlt hlt2 hall.out he
                  have hb : (picks[k] != picks'[k]) = false := by simp [he]
                  clear he
                  go_wp2_with fail
                  go_quiet (fail)
                  go_wp2_with fail
                  go_roundw
                  case rel => exact ⟨k + 1, _, by omega, by go_num, rfl, hn⟩
                  case measure => simp [intOf]; omega
                · have HD := Lib.hid (scr_ne_ops (st := st) (en := en) (th := th) (sl := sl) (no := no) (st' := st) (en' := en) (th' := th) (sl' := sl) (no' := no) (ops := ops) (ops' := ops') (Or.inr (ne_of_get hlt hlt2 he)))
                  have hb : (picks[k] != picks'[k]) = true := by simp [he]
                  clear he
                  go_wp2_with fail
                  go_quiet (fail)
                  go_wp2_with fail
                  go_ret
                  exact ⟨ret_bool HD.out.symm, below_drewN (below_drewN hB _) _⟩
              · have hke : k = picks.length := by omega
                subst hke
                have hd : picks = picks' := by
                  have := hall.out
                  rwa [List.take_length, List.take_of_length_le (by rw [HL.out.2]; exact Nat.le_refl _)] at this
                have HP := Lib.hid hd; clear hd hall
                go_wp2_with fail
                go_ret
                exact ⟨ret_bool (by rw [HO.out, HP.out]; simp), below_drewN hB _⟩
      · have HD := Lib.hid (scr_ne_ops (st := st) (en := en) (th := th) (sl := sl) (no := no) (st' := st) (en' := en) (th' := th) (sl' := sl) (no' := no) (ops := ops) (ops' := ops') (picks := picks) (picks' := picks') (Or.inr (fun h => hl2 (by rw [h]))))
        have g1 : ((ops.length : Int) != (ops'.length : Int)) = false := by simp [hl1]
        have g2 : ((picks.length : Int) != (picks'.length : Int)) = true := by simp; omega
        clear hl1 hl2 ho ho' hp hp'
        go_enter Tryz.func16, Tryz.ntmps16
        go_wp2_with fail
        go_ret
        exact ⟨ret_bool HD.out.symm, ((Below.refl _ _).alloc (Nat.le_refl _) _).alloc (by simp) _⟩
    · have HD := Lib.hid (scr_ne_ops (st := st) (en := en) (th := th) (sl := sl) (no := no) (st' := st) (en' := en) (th' := th) (sl' := sl) (no' := no) (ops := ops) (ops' := ops') (picks := picks) (picks' := picks') (Or.inl (fun h => hl1 (by rw [h]))))
      have g1 : ((ops.length : Int) != (ops'.length : Int)) = true := by simp; omega
      clear hl1 ho ho' hp hp'
      go_enter Tryz.func16, Tryz.ntmps16
      go_wp2_with fail
      go_ret
      exact ⟨ret_bool HD.out.symm, ((Below.refl _ _).alloc (Nat.le_refl _) _).alloc (by simp) _⟩
  · have hd : decide ((⟨st, en, th, sl, no, ops, picks⟩ : PScr) = ⟨st', en', th', sl', no', ops', picks'⟩) = false := by
      simp only [decide_eq_false_iff_not, PScr.mk.injEq]
      rintro ⟨h1, h2, h3, h4, h5, _⟩
      exact hc ⟨h1, h2, h3, h4, h5⟩
    have H := Lib.hid hd; clear hd
    have hn := cfg_ne hc
    clear hc ho hp ho' hp' lo lp lo' lp'
    rcases hn with h1 | ⟨h1, h2⟩ | ⟨h1, h2, h3⟩ | ⟨h1, h2, h3, h4⟩ | ⟨h1, h2, h3, h4, h5⟩
    all_goals
      go_enter Tryz.func16, Tryz.ntmps16
      go_wp2_with fail
      go_ret
      exact ⟨ret_bool H.out.symm, ((Below.refl _ _).alloc (Nat.le_refl _) _).alloc (by simp) _⟩

end Go.Proofs.YtciioiklkaannaaGreatDoor
