/- hymn.fields, hymn.sizes: which numbers of an operation, of a layout, are words. -/
import Derived.Test.YtciioiklkaannaaGreatDoorFnEqZ
import Derived.Test.YtciioiklkaannaaGreatDoorStore
import Derived.Test.YtciioiklkaannaaGreatDoorReg2
namespace Go.Proofs.YtciioiklkaannaaGreatDoor
open Go Go.RowKit
set_option linter.unusedSimpArgs false
set_option linter.unusedVariables false
set_option linter.unusedSectionVars false

/-- Where an operation's words lie. -/
def offs (st kind : Int) : List Nat :=
  if kind = 1 ∨ kind = 4 then [2] else if kind = 6 then (if st = 5 then [1, 2, 3] else [1, 2]) else if kind = 7 ∨ kind = 8 then [1] else []
def ptrs (g : Nat) (os : List Nat) : List Value := os.map fun o => .pointer (some ⟨g, o, none⟩)
/-- A slice of pointers into the block g. -/
def RetPs (g : Nat) (os : List Nat) (w : World) (e : Ending) (w' : World) : Prop :=
  ∃ A, e = .returned (.slice A os.length os.length) ∧ Sl w' w'.heap.size 1 A os.length (ptrs g os) ∧ Below w.heap.size w w' ∧ ∀ b o, A = some ⟨b, o, none⟩ → w.heap.size ≤ b

theorem sl_new {w' : World} {os : List Nat} {g N : Nat} {T : TypeId} (hB : Bk w' N T (ptrs g os).toArray) : Sl w' w'.heap.size 1 (some ⟨N, 0, none⟩) os.length (ptrs g os) :=
  ⟨by simp [ptrs], fun _ => ⟨N, 0, rfl, hB.lt, fun j u hu => by rw [Nat.zero_add, hB.cell]; simpa using hu⟩⟩
theorem retPs_new {w w' : World} {os os' : List Nat} {g : Nat} {T : TypeId} (N n : Nat) (ho : os = os') (hn : n = os'.length) (hB : Bk w' N T (ptrs g os').toArray) (hw : Below w.heap.size w w') (hN : w.heap.size ≤ N := by exact Nat.le_refl _) :
    RetPs g os w (.returned (.slice (some ⟨N, 0, none⟩) n n)) w' := by
  subst ho hn
  exact ⟨_, rfl, sl_new hB, hw, fun b o e => by cases e; exact hN⟩
theorem retPs_nil {w w' : World} {os : List Nat} {g : Nat} (ho : os = []) (hw : Below w.heap.size w w') : RetPs g os w (.returned (.slice none 0 0)) w' := by
  subst ho
  exact ⟨none, rfl, Sl.none_, hw, fun b o e => by cases e⟩

set_option maxRecDepth 100000 in
set_option maxHeartbeats 1600000 in
theorem fields_any (st kind : Int) (g : Nat) (w : World) (hk : w.cell? ⟨g, 0, none⟩ = some (.int .i64 kind)) :
    Calls Tryz.prog 25 #[.int .i64 st, .pointer (some ⟨g, 0, none⟩)] w (RetPs g (offs st kind) w) := by
  go_enter Tryz.func25, Tryz.ntmps25
  by_cases k1 : kind = 1 ∨ kind = 4
  · have e : [2] = offs st kind := by simp [offs, k1]
    have he := Lib.hid e; clear e
    rcases k1 with rfl | rfl
    all_goals
      go_wp2_with fail
      go_ret
      exact retPs_new _ _ he.out.symm rfl (Bk.at_ rfl) (by (repeat' (first | (with_reducible exact Below.refl _ _) | (with_reducible assumption) | (with_reducible refine Below.alloc ?_ ?_ _) | (with_reducible refine Below.drew ?_) | (with_reducible refine below_drewN ?_ _) | (with_reducible refine Below.setCell ?_ ?_ _) | go_size)))
  · by_cases k6 : kind = 6
    · subst k6
      by_cases s5 : st = 5
      · subst s5
        have he : Hid ([1, 2, 3] = offs 5 6) := by show _ = _; simp [offs]
        go_wp2_with fail
        refine wp_region_T (fun _ => True) 11 (by kernel_rfl) trivial (fun hS => ?_)
        generalize hw : w.drew = w1
        ((try simp only [Act.put, List.setIfInBounds_toArray, List.set_cons_succ, List.set_cons_zero]); refine wpT_batch (fuel := 2) (by kernel_rfl) (by kernel_rfl) (fun d => by cases d <;> exact fun _ _ _ _ h => h) hS [0, 1, 2, 3, 4, 5, 6, 7, 8] _ _ (by kernel_rfl) ?_; simp only [pickOps, nthOp, List.toList_toArray]; (repeat (first | go_big_quiet_skip | (go_big_quiet_want; first | (go_big_quiet_op; go_big_quiet_on) | (apply Exists.intro; refine ⟨fun w' hS' => ?_, ?_⟩; (· (skip; go_simp; first | done | rfl | exact ⟨rfl, rfl⟩)); go_big_quiet_on; simp only [Act.put, List.setIfInBounds_toArray, List.set_cons_succ, List.set_cons_zero])))); refine wpQuiet_nil ?_; (try dsimp only))
        (refine wpT_loudN 9 (by kernel_rfl) (fun K hK => ?_); simp only [nthOp, List.toList_toArray])
        go_wp2_with fail
        refine hK.out _ _ (fun _ => trivial) ?_
        clear hK hS
        have hS : (fun _ : World => True) w1 := trivial
        ((try simp only [Act.put, List.setIfInBounds_toArray, List.set_cons_succ, List.set_cons_zero]); refine wpT_batch (fuel := 0) (by kernel_rfl) (by kernel_rfl) (fun d => by cases d <;> exact fun _ _ _ _ h => h) hS [10] _ _ (by kernel_rfl) ?_; simp only [pickOps, nthOp, List.toList_toArray]; (repeat (first | go_big_quiet_skip | (go_big_quiet_want; first | (go_big_quiet_op; go_big_quiet_on) | (apply Exists.intro; refine ⟨fun w' hS' => ?_, ?_⟩; (· (skip; go_simp; first | done | rfl | exact ⟨rfl, rfl⟩)); go_big_quiet_on; simp only [Act.put, List.setIfInBounds_toArray, List.set_cons_succ, List.set_cons_zero])))); refine wpQuiet_nil ?_; (try dsimp only))
        refine wpT_done (by kernel_rfl) ?_ _
        go_wp2_with fail
        subst hw
        go_ret
        exact retPs_new _ _ he.out.symm rfl (Bk.at_ rfl) (by (repeat' (first | (with_reducible exact Below.refl _ _) | (with_reducible assumption) | (with_reducible refine Below.alloc ?_ ?_ _) | (with_reducible refine Below.drew ?_) | (with_reducible refine below_drewN ?_ _) | (with_reducible refine Below.setCell ?_ ?_ _) | go_size)))
      · have hs5 : (st == 5) = false := by simpa using s5
        have he : Hid ([1, 2] = offs st 6) := by show _ = _; simp [offs, s5]
        clear k1 s5
        go_wp2_with fail
        refine wp_region_T (fun _ => True) 8 (by kernel_rfl) trivial (fun hS => ?_)
        generalize hw : w.drew = w1
        ((try simp only [Act.put, List.setIfInBounds_toArray, List.set_cons_succ, List.set_cons_zero]); refine wpT_batch (fuel := 2) (by kernel_rfl) (by kernel_rfl) (fun d => by cases d <;> exact fun _ _ _ _ h => h) hS [0, 1, 2, 3, 4, 5] _ _ (by kernel_rfl) ?_; simp only [pickOps, nthOp, List.toList_toArray]; (repeat (first | go_big_quiet_skip | (go_big_quiet_want; first | (go_big_quiet_op; go_big_quiet_on) | (apply Exists.intro; refine ⟨fun w' hS' => ?_, ?_⟩; (· (skip; go_simp; first | done | rfl | exact ⟨rfl, rfl⟩)); go_big_quiet_on; simp only [Act.put, List.setIfInBounds_toArray, List.set_cons_succ, List.set_cons_zero])))); refine wpQuiet_nil ?_; (try dsimp only))
        (refine wpT_loudN 6 (by kernel_rfl) (fun K hK => ?_); simp only [nthOp, List.toList_toArray])
        go_wp2_with fail
        refine hK.out _ _ (fun _ => trivial) ?_
        clear hK hS
        have hS : (fun _ : World => True) w1 := trivial
        ((try simp only [Act.put, List.setIfInBounds_toArray, List.set_cons_succ, List.set_cons_zero]); refine wpT_batch (fuel := 0) (by kernel_rfl) (by kernel_rfl) (fun d => by cases d <;> exact fun _ _ _ _ h => h) hS [7] _ _ (by kernel_rfl) ?_; simp only [pickOps, nthOp, List.toList_toArray]; (repeat (first | go_big_quiet_skip | (go_big_quiet_want; first | (go_big_quiet_op; go_big_quiet_on) | (apply Exists.intro; refine ⟨fun w' hS' => ?_, ?_⟩; (· (skip; go_simp; first | done | rfl | exact ⟨rfl, rfl⟩)); go_big_quiet_on; simp only [Act.put, List.setIfInBounds_toArray, List.set_cons_succ, List.set_cons_zero])))); refine wpQuiet_nil ?_; (try dsimp only))
        refine wpT_done (by kernel_rfl) ?_ _
        go_wp2_with fail
        subst hw
        go_ret
        exact retPs_new _ _ he.out.symm rfl (Bk.at_ rfl) (by (repeat' (first | (with_reducible exact Below.refl _ _) | (with_reducible assumption) | (with_reducible refine Below.alloc ?_ ?_ _) | (with_reducible refine Below.drew ?_) | (with_reducible refine below_drewN ?_ _) | (with_reducible refine Below.setCell ?_ ?_ _) | go_size)))
    · by_cases k7 : kind = 7 ∨ kind = 8
      · have e : [1] = offs st kind := by simp [offs, k1, k6, k7]
        have he := Lib.hid e; clear e
        rcases k7 with rfl | rfl
        all_goals
          clear k1 k6
          go_wp2_with fail
          go_ret
          exact retPs_new _ _ he.out.symm rfl (Bk.at_ rfl) (by (repeat' (first | (with_reducible exact Below.refl _ _) | (with_reducible assumption) | (with_reducible refine Below.alloc ?_ ?_ _) | (with_reducible refine Below.drew ?_) | (with_reducible refine below_drewN ?_ _) | (with_reducible refine Below.setCell ?_ ?_ _) | go_size)))
      · have e : [] = offs st kind := by simp [offs, k1, k6, k7]
        have he := Lib.hid e; clear e
        have q1 : (kind == 1) = false := by simp; omega
        have q4 : (kind == 4) = false := by simp; omega
        have q6 : (kind == 6) = false := by simp; omega
        have q7 : (kind == 7) = false := by simp; omega
        have q8 : (kind == 8) = false := by simp; omega
        clear k1 k6 k7
        go_wp2_with fail
        go_ret
        exact retPs_nil he.out.symm (Below.refl _ _)

set_option maxRecDepth 100000 in
set_option maxHeartbeats 1600000 in
theorem sizes_any (g : Nat) (w : World) : Calls Tryz.prog 20 #[.pointer (some ⟨g, 0, none⟩)] w (RetPs g [2, 3, 4] w) := by
  go_enter Tryz.func20, Tryz.ntmps20
  go_wp2_with fail
  refine wp_region_T (fun _ => True) 11 (by kernel_rfl) trivial (fun hS => ?_)
  generalize hw : w.drew = w1
  ((try simp only [Act.put, List.setIfInBounds_toArray, List.set_cons_succ, List.set_cons_zero]); refine wpT_batch (fuel := 2) (by kernel_rfl) (by kernel_rfl) (fun d => by cases d <;> exact fun _ _ _ _ h => h) hS [0, 1, 2, 3, 4, 5, 6, 7, 8] _ _ (by kernel_rfl) ?_; simp only [pickOps, nthOp, List.toList_toArray]; (repeat (first | go_big_quiet_skip | (go_big_quiet_want; first | (go_big_quiet_op; go_big_quiet_on) | (apply Exists.intro; refine ⟨fun w' hS' => ?_, ?_⟩; (· (skip; go_simp; first | done | rfl | exact ⟨rfl, rfl⟩)); go_big_quiet_on; simp only [Act.put, List.setIfInBounds_toArray, List.set_cons_succ, List.set_cons_zero])))); refine wpQuiet_nil ?_; (try dsimp only))
  (refine wpT_loudN 9 (by kernel_rfl) (fun K hK => ?_); simp only [nthOp, List.toList_toArray])
  go_wp2_with fail
  refine hK.out _ _ (fun _ => trivial) ?_
  clear hK hS
  have hS : (fun _ : World => True) w1 := trivial
  ((try simp only [Act.put, List.setIfInBounds_toArray, List.set_cons_succ, List.set_cons_zero]); refine wpT_batch (fuel := 0) (by kernel_rfl) (by kernel_rfl) (fun d => by cases d <;> exact fun _ _ _ _ h => h) hS [10] _ _ (by kernel_rfl) ?_; simp only [pickOps, nthOp, List.toList_toArray]; (repeat (first | go_big_quiet_skip | (go_big_quiet_want; first | (go_big_quiet_op; go_big_quiet_on) | (apply Exists.intro; refine ⟨fun w' hS' => ?_, ?_⟩; (· (skip; go_simp; first | done | rfl | exact ⟨rfl, rfl⟩)); go_big_quiet_on; simp only [Act.put, List.setIfInBounds_toArray, List.set_cons_succ, List.set_cons_zero])))); refine wpQuiet_nil ?_; (try dsimp only))
  refine wpT_done (by kernel_rfl) ?_ _
  go_wp2_with fail
  subst hw
  go_ret
  exact retPs_new _ _ rfl rfl (Bk.at_ rfl) (by (repeat' (first | (with_reducible exact Below.refl _ _) | (with_reducible assumption) | (with_reducible refine Below.alloc ?_ ?_ _) | (with_reducible refine Below.drew ?_) | (with_reducible refine below_drewN ?_ _) | (with_reducible refine Below.setCell ?_ ?_ _) | go_size)))
end Go.Proofs.YtciioiklkaannaaGreatDoor
