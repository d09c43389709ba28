/- Whether an operation fits a structure. Whether an operation fits a structure: sexton/steeple.Start. -/
import Derived.Test.YtciioiklkaannaaGreatDoorFnA
namespace Go.Proofs.YtciioiklkaannaaGreatDoor
open Go Go.RowKit
set_option linter.unusedSimpArgs false
set_option linter.unusedVariables false
set_option linter.unusedSectionVars false

def FitsP (st : Int) (o : POp) : Prop :=
  (st = 1 ∧ o.key = 0 ∧ o.tall = 0 ∧ ((o.kind = 1 ∧ 0 ≤ o.val ∧ o.val ≤ 1073741824) ∨ ((o.kind = 2 ∨ o.kind = 3) ∧ o.val = 0))) ∨
  (st = 2 ∧ o.key = 0 ∧ o.tall = 0 ∧ ((o.kind = 4 ∧ 0 ≤ o.val ∧ o.val ≤ 1073741824) ∨ (o.kind = 5 ∧ o.val = 0))) ∨
  ((st = 3 ∨ st = 4) ∧ 0 ≤ o.key ∧ o.key ≤ 255 ∧ o.tall = 0 ∧ ((o.kind = 6 ∧ 0 ≤ o.val ∧ o.val ≤ 1073741824) ∨ ((o.kind = 7 ∨ o.kind = 8) ∧ o.val = 0))) ∨
  (st = 5 ∧ 0 ≤ o.key ∧ o.key ≤ 255 ∧ ((o.kind = 6 ∧ 0 ≤ o.val ∧ o.val ≤ 1073741824 ∧ 1 ≤ o.tall ∧ o.tall ≤ 3) ∨ ((o.kind = 7 ∨ o.kind = 8) ∧ o.val = 0 ∧ o.tall = 0)))
instance (st : Int) (o : POp) : Decidable (FitsP st o) := by unfold FitsP; infer_instance
def fitsB (st : Int) (o : POp) : Bool := decide (FitsP st o)

def goodL (o : POp) : Prop := 0 ≤ o.key ∧ o.key ≤ 255 ∧ ((o.kind = 6 ∧ 0 ≤ o.val ∧ o.val ≤ 1073741824 ∧ 0 ≤ o.tall ∧ o.tall ≤ 3) ∨ ((o.kind = 7 ∨ o.kind = 8) ∧ o.val = 0 ∧ o.tall = 0))
instance (o : POp) : Decidable (goodL o) := by unfold goodL; infer_instance
def goodLB (o : POp) : Bool := decide (goodL o)
theorem goodLB_true (o : POp) : goodLB o = true ↔ goodL o := by simp [goodLB]
theorem fitsB_true (st : Int) (o : POp) : fitsB st o = true ↔ FitsP st o := by simp [fitsB]

set_option maxHeartbeats 400000 in
theorem litanyGood_any (o : POp) (w : World) :
    Calls Tryz.prog 63 #[o.v] w (RetB (goodLB o) w) := by
  obtain ⟨kind, key, val, tall⟩ := o
  simp only [POp.v]
  go_enter Tryz.func63, Tryz.ntmps63
  go_wp2
  all_goals
    go_ret
    refine ⟨ret_bool ?_, by (repeat' (first | (with_reducible exact Below.refl _ _) | (with_reducible assumption) | (with_reducible refine Below.alloc ?_ ?_ _) | (with_reducible refine Below.drew ?_) | (with_reducible refine below_drewN ?_ _) | (with_reducible refine Below.setCell ?_ ?_ _) | go_size))⟩
    rw [Bool.eq_iff_iff, goodLB_true, goodL]
    simp at *
    omega

theorem woeAt_any (n : Int) (T : TypeId) (u : Value) (w : World) :
    Calls Tryz.prog 62 #[.int .i64 n, .iface T u] w fun e w' =>
      e = .returned (.iface 175 (.pointer (some ⟨w.heap.size, 0, none⟩))) ∧ w.alloc (.cells #[.int .i64 n, .iface T u] 177) = w' := by
  go_enter Tryz.func62, Tryz.ntmps62
  go_wp2
  go_ret
  exact ⟨rfl, rfl⟩

/-- The end of a Start: no error just if the operation fits. -/
def RetErr (ok : Bool) (w : World) (e : Ending) (w' : World) : Prop :=
  (∃ v er, e = .returned (.tuple #[v, er]) ∧ (if ok then er = .nilIface else ∃ T p, er = .iface T (.pointer (some p)))) ∧ Below w.heap.size w w'

theorem retErr_yes {ok : Bool} {w w' : World} {v : Value} (h : ok = true) (hb : Below w.heap.size w w') : RetErr ok w (.returned (.tuple #[v, .nilIface])) w' :=
  ⟨⟨_, _, rfl, by rw [if_pos h]⟩, hb⟩
theorem retErr_no {ok : Bool} {w w' : World} {v : Value} {T : TypeId} {p : Addr} (h : ok = false) (hb : Below w.heap.size w w') : RetErr ok w (.returned (.tuple #[v, .iface T (.pointer (some p))])) w' :=
  ⟨⟨_, _, rfl, by rw [h]; exact ⟨_, _, rfl⟩⟩, hb⟩

set_option maxHeartbeats 400000 in
theorem pileStart_any (o : POp) (w : World) (T : TypeId) (u : Value) (hE : w.cell? ⟨0, 0, none⟩ = some (.iface T u)) :
    Calls Tryz.prog 47 #[o.v] w (RetErr (fitsB 1 o) w) := by
  obtain ⟨kind, key, val, tall⟩ := o
  simp only [POp.v]
  have hlt := World.block_lt_of_cell? w _ hE
  go_enter Tryz.func47, Tryz.ntmps47
  go_wp2_with (go_at_call 62; refine (woeAt_any _ _ _ _).mono ?_; rintro e w' ⟨rfl, rfl⟩)
  all_goals
    go_ret2
    first
      | (refine retErr_yes ?_ (by (repeat' (first | (with_reducible exact Below.refl _ _) | (with_reducible assumption) | (with_reducible refine Below.alloc ?_ ?_ _) | (with_reducible refine Below.drew ?_) | (with_reducible refine below_drewN ?_ _) | (with_reducible refine Below.setCell ?_ ?_ _) | go_size))); simp at *; rw [fitsB_true, FitsP]; simp; omega)
      | (refine retErr_no ?_ (by (repeat' (first | (with_reducible exact Below.refl _ _) | (with_reducible assumption) | (with_reducible refine Below.alloc ?_ ?_ _) | (with_reducible refine Below.drew ?_) | (with_reducible refine below_drewN ?_ _) | (with_reducible refine Below.setCell ?_ ?_ _) | go_size))); simp at *; rw [Bool.eq_false_iff, Ne, fitsB_true, FitsP]; simp; omega)

set_option maxHeartbeats 400000 in
theorem cortegeStart_any (o : POp) (w : World) (T : TypeId) (u : Value) (hE : w.cell? ⟨0, 0, none⟩ = some (.iface T u)) :
    Calls Tryz.prog 48 #[o.v] w (RetErr (fitsB 2 o) w) := by
  obtain ⟨kind, key, val, tall⟩ := o
  simp only [POp.v]
  have hlt := World.block_lt_of_cell? w _ hE
  go_enter Tryz.func48, Tryz.ntmps48
  go_wp2_with (go_at_call 62; refine (woeAt_any _ _ _ _).mono ?_; rintro e w' ⟨rfl, rfl⟩)
  all_goals
    go_ret2
    first
      | (refine retErr_yes ?_ (by (repeat' (first | (with_reducible exact Below.refl _ _) | (with_reducible assumption) | (with_reducible refine Below.alloc ?_ ?_ _) | (with_reducible refine Below.drew ?_) | (with_reducible refine below_drewN ?_ _) | (with_reducible refine Below.setCell ?_ ?_ _) | go_size))); simp at *; rw [fitsB_true, FitsP]; simp; omega)
      | (refine retErr_no ?_ (by (repeat' (first | (with_reducible exact Below.refl _ _) | (with_reducible assumption) | (with_reducible refine Below.alloc ?_ ?_ _) | (with_reducible refine Below.drew ?_) | (with_reducible refine below_drewN ?_ _) | (with_reducible refine Below.setCell ?_ ?_ _) | go_size))); simp at *; rw [Bool.eq_false_iff, Ne, fitsB_true, FitsP]; simp; omega)

end Go.Proofs.YtciioiklkaannaaGreatDoor
namespace Go.Proofs.YtciioiklkaannaaGreatDoor
open Go Go.RowKit

set_option maxHeartbeats 400000 in
theorem steepleStart_any (o : POp) (w : World) (T : TypeId) (u : Value) (hE : w.cell? ⟨0, 0, none⟩ = some (.iface T u)) :
    Calls Tryz.prog 51 #[o.v] w (RetErr (fitsB 5 o) w) := by
  obtain ⟨kind, key, val, tall⟩ := o
  simp only [POp.v]
  have hlt := World.block_lt_of_cell? w _ hE
  simp at hlt
  have hlt0 : 0 < w.heap.size := by omega
  cases hg : goodLB ⟨kind, key, val, tall⟩
  all_goals
    have hg' := hg
    first | rw [Bool.eq_false_iff, Ne, goodLB_true, goodL] at hg' | rw [goodLB_true, goodL] at hg'
    simp at hg'
    have HG := Lib.hid hg'; clear hg'
    go_enter Tryz.func51, Tryz.ntmps51
    go_wp2_with (first | (go_at_call 63; refine (litanyGood_any ⟨kind, key, val, tall⟩ _).mono ?_; rintro e w1 ⟨rfl, hb1⟩; obtain ⟨hc1, hf1⟩ := bcell hb1; have hz1 : w.heap.size < w1.heap.size := (by have h := hb1.size; simp at h; omega)) | (go_at_call 62; refine (woeAt_any _ _ _ _).mono ?_; rintro e w' ⟨rfl, rfl⟩))
    all_goals
      go_ret2
      have hg' := HG.out
      have hB : Below w.heap.size w w1 := ((Below.refl _ _).alloc (Nat.le_refl _) _).trans (hb1.mono (by simp))
      have hsz : w.heap.size ≤ w1.heap.size := by omega
      clear hc1 hf1 hb1
      first
        | (refine retErr_yes ?_ (by (repeat' (first | (with_reducible exact Below.refl _ _) | (with_reducible assumption) | (with_reducible refine Below.alloc ?_ ?_ _) | (with_reducible refine Below.drew ?_) | (with_reducible refine below_drewN ?_ _) | (with_reducible refine Below.setCell ?_ ?_ _) | go_size))); clear hB; (try simp at *); rw [fitsB_true, FitsP]; simp; omega)
        | (refine retErr_no ?_ (by (repeat' (first | (with_reducible exact Below.refl _ _) | (with_reducible assumption) | (with_reducible refine Below.alloc ?_ ?_ _) | (with_reducible refine Below.drew ?_) | (with_reducible refine below_drewN ?_ _) | (with_reducible refine Below.setCell ?_ ?_ _) | go_size))); clear hB; (try simp at *); rw [Bool.eq_false_iff, Ne, fitsB_true, FitsP]; simp; omega)

end Go.Proofs.YtciioiklkaannaaGreatDoor
