/- What is asked of no structure at all. -/
import Derived.Test.YtlfbgpncdahglaaDoorLaws
namespace Go.Proofs.YtlfbgpncdahglaaDoor
open Go Go.RowKit
set_option linter.unusedSimpArgs false
set_option linter.unusedVariables false
set_option linter.unusedSectionVars false

set_option maxHeartbeats 400000 in
theorem same_with_nil (w : World) (g : Nat) : Calls Tryd.prog 25 #[.pointer (some ⟨g, 0, none⟩), .pointer none] w fun e w' => e = .returned (.bool false) ∧ w = w' := by
  go_enter Tryd.func25, Tryd.ntmps25
  go_wp2_with fail
  go_ret
  exact ⟨rfl, rfl⟩
set_option maxHeartbeats 400000 in
theorem same_nil_nil (w : World) : Calls Tryd.prog 25 #[.pointer none, .pointer none] w fun e w' => e = .returned (.bool true) ∧ w = w' := by
  go_enter Tryd.func25, Tryd.ntmps25
  go_wp2_with fail
  go_ret
  exact ⟨rfl, rfl⟩
set_option maxHeartbeats 400000 in
theorem clone_nil (w : World) : Calls Tryd.prog 24 #[.pointer none] w fun e w' => e = .returned (.pointer none) ∧ w = w' := by
  go_enter Tryd.func24, Tryd.ntmps24
  go_wp2_with fail
  go_ret
  exact ⟨rfl, rfl⟩
set_option maxHeartbeats 400000 in
theorem vals_nil (w : World) : Calls Tryd.prog 18 #[.pointer none] w fun e w' => e = .returned (.slice none 0 0) ∧ w = w' := by
  go_enter Tryd.func18, Tryd.ntmps18
  go_wp2_with fail
  go_ret
  exact ⟨rfl, rfl⟩
set_option maxHeartbeats 400000 in
theorem pairs_nil (w : World) : Calls Tryd.prog 21 #[.pointer none] w fun e w' => e = .returned (.slice none 0 0) ∧ w = w' := by
  go_enter Tryd.func21, Tryd.ntmps21
  go_wp2_with fail
  go_ret
  exact ⟨rfl, rfl⟩
set_option maxRecDepth 100000 in
set_option maxHeartbeats 800000 in
theorem may_nil (o : POp) (a1 a2 : Int) (w : World) : Calls Tryd.prog 16 #[.pointer none, o.v, .agg #[.int .i64 a1, .int .i64 a2]] w fun e w' => e = .returned (.bool false) ∧ Below w.heap.size w w' := by
  obtain ⟨kind, key, val, tall⟩ := o
  simp only [POp.v] at *
  go_enter Tryd.func16, Tryd.ntmps16
  go_wp2_with fail
  go_quiet (fail)
  go_wp2_with fail
  go_ret
  exact ⟨rfl, by (repeat' (first | (with_reducible exact Below.refl _ _) | (with_reducible assumption) | (with_reducible refine Below.alloc ?_ ?_ _) | (with_reducible refine Below.drew ?_) | (with_reducible refine below_drewN ?_ _) | (with_reducible refine Below.setCell ?_ ?_ _) | go_size))⟩
set_option maxRecDepth 100000 in
set_option maxHeartbeats 800000 in
theorem do_nil (o : POp) (T : TypeId) (u : Value) (w : World) (hN : w.cell? ⟨1, 0, none⟩ = some (.iface T u)) :
    Calls Tryd.prog 13 #[.pointer none, o.v] w fun e w' => e = .returned (.tuple #[.agg #[.int .i64 0, .int .i64 0], .iface T u]) ∧ Below w.heap.size w w' := by
  have hlt0 := World.block_lt_of_cell? w _ hN
  simp at hlt0
  obtain ⟨kind, key, val, tall⟩ := o
  simp only [POp.v] at *
  have KR3 : Bk (((w.alloc (.cells #[.int .i64 kind, .int .i64 key, .int .i64 val, .int .i64 tall] 34)).alloc (.cells #[.int .i64 0, .int .i64 0] 36)).drew) (w.heap.size + 1) 36 #[.int .i64 0, .int .i64 0] := (Bk.at_ (by simp)).drew
  have hB3 : Below w.heap.size w (((w.alloc (.cells #[.int .i64 kind, .int .i64 key, .int .i64 val, .int .i64 tall] 34)).alloc (.cells #[.int .i64 0, .int .i64 0] 36)).drew) := by (repeat' (first | (with_reducible exact Below.refl _ _) | (with_reducible assumption) | (with_reducible refine Below.alloc ?_ ?_ _) | (with_reducible refine Below.drew ?_) | (with_reducible refine below_drewN ?_ _) | (with_reducible refine Below.setCell ?_ ?_ _) | go_size))
  have hE3 := cell_below hN hB3
  have hne : 1 ≠ w.heap.size + 1 := by omega
  go_enter Tryd.func13, Tryd.ntmps13
  go_wp2_with fail
  refine wp_region_T (fun w' => w'.cell? ⟨1, 0, none⟩ = some (.iface T u)) 3 (by kernel_rfl) hE3 (fun hS => ?_)
  generalize (((w.alloc (.cells #[.int .i64 kind, .int .i64 key, .int .i64 val, .int .i64 tall] 34)).alloc (.cells #[.int .i64 0, .int .i64 0] 36)).drew) = w2 at KR3 hE3 hB3 hS ⊢
  have s0 := fun v => (KR3.set_ 0 v).cell 0
  have s1 := fun v v' => ((KR3.set_ 0 v).set_ 1 v').cell 1
  have r0 := KR3.cell 0; have r1 := KR3.cell 1; have q0 := KR3.free 0; have q1 := KR3.free 1
  have s2 := fun v => (KR3.set_ 0 v).cell 1
  have s3 := fun v => (KR3.set_ 0 v).free 1
  simp at s0 s1 r0 r1 s2
  ((try simp only [Act.put, List.setIfInBounds_toArray, List.set_cons_succ, List.set_cons_zero]); refine wpT_batch (fuel := 2) (by kernel_rfl) (by kernel_rfl) (fun d => by cases d <;> exact fun _ _ _ _ h => h) hS [0, 1] _ _ (by kernel_rfl) ?_; simp only [pickOps, nthOp, List.toList_toArray]; (repeat (first | go_big_quiet_skip | (go_big_quiet_want; first | (go_big_quiet_op; go_big_quiet_on) | (apply Exists.intro; refine ⟨fun w' hS' => ?_, ?_⟩; (· (skip; go_simp; first | done | rfl | exact ⟨rfl, rfl⟩)); go_big_quiet_on; simp only [Act.put, List.setIfInBounds_toArray, List.set_cons_succ, List.set_cons_zero])))); refine wpQuiet_nil ?_; (try dsimp only))
  (refine wpT_loudN 2 (by kernel_rfl) (fun K hK => ?_); simp only [nthOp, List.toList_toArray])
  go_wp2_with fail
  refine hK.out _ _ (fun _ => (cell_other hne).trans ((cell_other hne).trans hE3)) ?_
  clear hK
  ((refine wpT_loudN 3 (by kernel_rfl) (fun K hK => ?_); simp only [nthOp, List.toList_toArray]); go_wp2_with fail; refine hK.out _ _ (fun h => absurd h (by omega)) ?_; clear hK)
  refine wpT_done (by kernel_rfl) ?_ _
  go_wp2_with fail
  refine bodyPost_ret (v := .tuple #[.agg #[.int .i64 0, .int .i64 0], .iface T u]) (by simp [results, Tryd.results13, go_sem, s0, s1]) rfl ⟨rfl, by (repeat' (first | (with_reducible exact Below.refl _ _) | (with_reducible assumption) | (with_reducible refine Below.alloc ?_ ?_ _) | (with_reducible refine Below.drew ?_) | (with_reducible refine below_drewN ?_ _) | (with_reducible refine Below.setCell ?_ ?_ _) | go_size))⟩

/-- Of the same structure: the same, if what comes out and the pairs are the same. -/
theorem same_out {s t : PC} (h : t.st = s.st) : decide (s = t) = (decide (outVals t = outVals s) && decide (t.pairs = s.pairs)) := by
  obtain ⟨a, b, c⟩ := s
  obtain ⟨a', b', c'⟩ := t
  simp only at h
  subst h
  rw [Bool.eq_iff_iff]
  simp only [Bool.and_eq_true, decide_eq_true_eq, outVals, PC.mk.injEq, true_and]
  constructor
  · rintro ⟨rfl, rfl⟩; exact ⟨rfl, rfl⟩
  · rintro ⟨h1, h2⟩
    refine ⟨?_, h2.symm⟩
    by_cases h : a' = 1
    · rw [if_pos h, if_pos h] at h1
      exact (List.reverse_inj.1 h1).symm
    · rw [if_neg h, if_neg h] at h1
      exact h1.symm
theorem samePairs_is {b : Bool} (xs ys : List (Int × Int)) (A A' : Option Addr) (c c' B B' : Nat) (w : World) (hx : Sl w B 2 A xs.length (pcells xs)) (hy : Sl w B' 2 A' ys.length (pcells ys))
    (lx : xs.length ≤ 9223372036854775807) (ly : ys.length ≤ 9223372036854775807) (h : decide (xs = ys) = b) :
    Calls Tryd.prog 20 #[.slice A xs.length c, .slice A' ys.length c'] w (RetQ b w) := h ▸ samePairs_any xs ys A A' c c' B B' w hx hy lx ly
theorem outVals_le {s : PC} (h : POk s) : (outVals s).length ≤ 10000 := by
  have := h.lv
  unfold outVals; split <;> simp <;> exact this
end Go.Proofs.YtlfbgpncdahglaaDoor
