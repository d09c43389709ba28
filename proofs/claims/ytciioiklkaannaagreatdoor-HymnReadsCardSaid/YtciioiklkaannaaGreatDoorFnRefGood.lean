/- What can be run, by the reference: the small functions. -/
import Derived.Test.YtciioiklkaannaaGreatDoorFnSteeplestart
namespace Go.Proofs.YtciioiklkaannaaGreatDoor
open Go Go.RowKit
set_option linter.unusedSimpArgs false
set_option linter.unusedVariables false
set_option linter.unusedSectionVars false

set_option maxHeartbeats 400000 in
theorem ref14Good_any (a b c d e : Int) (w : World) :
    Calls Tryz.prog 26 #[.agg #[.int .i64 a, .int .i64 b, .int .i64 c, .int .i64 d, .int .i64 e]] w (RetB (goodCfg a b c d e) w) := by
  go_enter Tryz.func26, Tryz.ntmps26
  go_wp2
  all_goals
    go_ret
    refine ⟨ret_bool (Eq.symm ?_), by go_grown⟩
    rw [Bool.eq_iff_iff, goodCfg_true]
    simp
    omega

set_option maxHeartbeats 400000 in
theorem ref09Good_any (o : POp) (w : World) :
    Calls Tryz.prog 34 #[o.v] w (RetB (goodLB o) w) := by
  obtain ⟨kind, key, val, tall⟩ := o
  simp only [POp.v]
  go_enter Tryz.func34, Tryz.ntmps34
  go_wp2
  all_goals
    go_ret
    refine ⟨ret_bool ?_, by (repeat' (first | (with_reducible exact Below.refl _ _) | (with_reducible assumption) | (with_reducible refine Below.alloc ?_ ?_ _) | (with_reducible refine Below.drew ?_) | (with_reducible refine below_drewN ?_ _) | (with_reducible refine Below.setCell ?_ ?_ _) | go_size))⟩
    rw [Bool.eq_iff_iff, goodLB_true, goodL]
    simp at *
    omega

def goodS (o : POp) : Prop := 0 ≤ o.key ∧ o.key ≤ 255 ∧ ((o.kind = 6 ∧ 0 ≤ o.val ∧ o.val ≤ 1073741824 ∧ 1 ≤ o.tall ∧ o.tall ≤ 3) ∨ ((o.kind = 7 ∨ o.kind = 8) ∧ o.val = 0 ∧ o.tall = 0))
instance (o : POp) : Decidable (goodS o) := by unfold goodS; infer_instance
def goodSB (o : POp) : Bool := decide (goodS o)
theorem goodSB_true (o : POp) : goodSB o = true ↔ goodS o := by simp [goodSB]

set_option maxHeartbeats 400000 in
theorem ref11Good_any (o : POp) (w : World) :
    Calls Tryz.prog 35 #[o.v] w (RetB (goodSB o) w) := by
  obtain ⟨kind, key, val, tall⟩ := o
  simp only [POp.v]
  go_enter Tryz.func35, Tryz.ntmps35
  go_wp2
  all_goals
    go_ret
    refine ⟨ret_bool ?_, by (repeat' (first | (with_reducible exact Below.refl _ _) | (with_reducible assumption) | (with_reducible refine Below.alloc ?_ ?_ _) | (with_reducible refine Below.drew ?_) | (with_reducible refine below_drewN ?_ _) | (with_reducible refine Below.setCell ?_ ?_ _) | go_size))⟩
    rw [Bool.eq_iff_iff, goodSB_true, goodS]
    simp at *
    omega

/-- A pointer comes back; it is none just if the operation doesn't fit. -/
def RetPt (ok : Bool) (w : World) (e : Ending) (w' : World) : Prop :=
  (∃ v, e = .returned v ∧ (if ok then ∃ p, v = .pointer (some p) else v = .pointer none)) ∧ Below w.heap.size w w'
theorem retPt_yes {ok : Bool} {w w' : World} {p : Addr} (h : ok = true) (hb : Below w.heap.size w w') : RetPt ok w (.returned (.pointer (some p))) w' :=
  ⟨⟨_, rfl, by rw [if_pos h]; exact ⟨_, rfl⟩⟩, hb⟩
theorem retPt_no {ok : Bool} {w w' : World} (h : ok = false) (hb : Below w.heap.size w w') : RetPt ok w (.returned (.pointer none)) w' :=
  ⟨⟨_, rfl, by rw [h]; rfl⟩, hb⟩

set_option maxHeartbeats 800000 in
theorem ref07Start_any (o : POp) (w : World) :
    Calls Tryz.prog 32 #[o.v] w (RetPt (fitsB 1 o) w) := by
  obtain ⟨kind, key, val, tall⟩ := o
  simp only [POp.v]
  go_enter Tryz.func32, Tryz.ntmps32
  go_wp2
  all_goals
    go_ret
    first
      | (refine retPt_yes ?_ ?_; (rw [fitsB_true, FitsP]; simp at *; omega); (repeat' (first | (with_reducible exact Below.refl _ _) | (with_reducible assumption) | (with_reducible refine Below.alloc ?_ ?_ _) | (with_reducible refine Below.drew ?_) | (with_reducible refine below_drewN ?_ _) | (with_reducible refine Below.setCell ?_ ?_ _) | go_size)))
      | (refine retPt_no ?_ ?_; (rw [Bool.eq_false_iff, Ne, fitsB_true, FitsP]; simp at *; omega); (repeat' (first | (with_reducible exact Below.refl _ _) | (with_reducible assumption) | (with_reducible refine Below.alloc ?_ ?_ _) | (with_reducible refine Below.drew ?_) | (with_reducible refine below_drewN ?_ _) | (with_reducible refine Below.setCell ?_ ?_ _) | go_size)))

set_option maxHeartbeats 800000 in
theorem ref08Start_any (o : POp) (w : World) :
    Calls Tryz.prog 33 #[o.v] w (RetPt (fitsB 2 o) w) := by
  obtain ⟨kind, key, val, tall⟩ := o
  simp only [POp.v]
  go_enter Tryz.func33, Tryz.ntmps33
  go_wp2
  all_goals
    go_ret
    first
      | (refine retPt_yes ?_ ?_; (rw [fitsB_true, FitsP]; simp at *; omega); (repeat' (first | (with_reducible exact Below.refl _ _) | (with_reducible assumption) | (with_reducible refine Below.alloc ?_ ?_ _) | (with_reducible refine Below.drew ?_) | (with_reducible refine below_drewN ?_ _) | (with_reducible refine Below.setCell ?_ ?_ _) | go_size)))
      | (refine retPt_no ?_ ?_; (rw [Bool.eq_false_iff, Ne, fitsB_true, FitsP]; simp at *; omega); (repeat' (first | (with_reducible exact Below.refl _ _) | (with_reducible assumption) | (with_reducible refine Below.alloc ?_ ?_ _) | (with_reducible refine Below.drew ?_) | (with_reducible refine below_drewN ?_ _) | (with_reducible refine Below.setCell ?_ ?_ _) | go_size)))

end Go.Proofs.YtciioiklkaannaaGreatDoor
