/- Words of cells: plain data, and the small functions of glyph, each by a contract. -/
import Derived.Test.YtfkfleojdheffaaDoorFnA
import Derived.Test.YtfkfleojdheffaaDoorMem
import Derived.Test.YtfkfleojdheffaaDoorSize
import Derived.Laws.StructEq
namespace Go.Proofs.YtfkfleojdheffaaDoor
open Go Go.RowKit
set_option linter.unusedSimpArgs false
set_option linter.unusedVariables false
set_option linter.unusedSectionVars false

structure PW where
  slot : Int
  gen : Int
  tag : Int
  num : Int
  mark : Bool
  deriving DecidableEq
def PW.cells (x : PW) : Array Value := #[.int .i64 x.slot, .int .i64 x.gen, .int .i64 x.tag, .int .i64 x.num, .bool x.mark]
def PW.v (x : PW) : Value := .agg #[.int .i64 x.slot, .int .i64 x.gen, .int .i64 x.tag, .int .i64 x.num, .bool x.mark]
def PW.zero : PW := ⟨0, 0, 0, 0, false⟩

def GoodP (x : PW) : Prop := (x.slot = 0 → x.gen = 0) ∧ 0 ≤ x.slot ∧ x.slot ≤ 1024 ∧ 0 ≤ x.gen ∧ x.gen ≤ 1099511627776 ∧ 0 ≤ x.tag ∧ x.tag ≤ 1099511627776 ∧ -1099511627776 ≤ x.num ∧ x.num ≤ 1099511627776
instance (x : PW) : Decidable (GoodP x) := by unfold GoodP; infer_instance
def goodB (x : PW) : Bool := decide (GoodP x)
theorem goodB_true (x : PW) : goodB x = true ↔ GoodP x := by simp [goodB]
theorem goodB_false (x : PW) : goodB x = false ↔ ¬ GoodP x := by simp [goodB]
def sameB (x y : PW) : Bool := decide (x.slot = y.slot ∧ x.tag = y.tag ∧ x.num = y.num ∧ x.mark = y.mark)

def RetW (v : PW) (w : World) (e : Ending) (w' : World) : Prop := e = .returned v.v ∧ Below w.heap.size w w'

set_option maxRecDepth 100000 in
set_option maxHeartbeats 800000 in
theorem good_any (x : PW) (w : World) : Calls Tryd.prog 14 #[x.v] w (RetB (goodB x) w) := by
  obtain ⟨slot, gen, tag, num, mark⟩ := x
  simp only [PW.v]
  go_enter Tryd.func14, Tryd.ntmps14
  go_wp2_with fail
  all_goals
    go_ret
    refine ⟨ret_bool ?_, by (repeat' (first | (with_reducible exact Below.refl _ _) | (with_reducible assumption) | (with_reducible refine Below.alloc ?_ ?_ _) | (with_reducible refine Below.drew ?_) | (with_reducible refine below_drewN ?_ _) | (with_reducible refine Below.setCell ?_ ?_ _) | go_size))⟩
    first
      | (refine (decide_eq_decide.2 ?_); simp [GoodP] at *; omega)
      | (refine ((goodB_false _).2 ?_).symm; simp [GoodP] at *; omega)

set_option maxRecDepth 100000 in
set_option maxHeartbeats 800000 in
theorem same_any (x y : PW) (w : World) : Calls Tryd.prog 15 #[x.v, y.v] w (RetB (sameB x y) w) := by
  obtain ⟨slot, gen, tag, num, mark⟩ := x
  obtain ⟨slot', gen', tag', num', mark'⟩ := y
  simp only [PW.v]
  go_enter Tryd.func15, Tryd.ntmps15
  go_wp2_with fail
  all_goals
    go_ret
    refine ⟨ret_bool ?_, by (repeat' (first | (with_reducible exact Below.refl _ _) | (with_reducible assumption) | (with_reducible refine Below.alloc ?_ ?_ _) | (with_reducible refine Below.drew ?_) | (with_reducible refine below_drewN ?_ _) | (with_reducible refine Below.setCell ?_ ?_ _) | go_size))⟩
    simp_all [sameB]

set_option maxHeartbeats 400000 in
theorem to_any (x y : PW) (w : World) : Calls Tryd.prog 16 #[x.v, y.v] w (RetW ⟨y.slot, y.gen, wrap64 (x.tag + 1), 0, false⟩ w) := by
  obtain ⟨slot, gen, tag, num, mark⟩ := x
  obtain ⟨slot', gen', tag', num', mark'⟩ := y
  simp only [PW.v]
  go_enter Tryd.func16, Tryd.ntmps16
  go_wp2_with fail
  go_returns
  exact ⟨rfl, by (repeat' (first | (with_reducible exact Below.refl _ _) | (with_reducible assumption) | (with_reducible refine Below.alloc ?_ ?_ _) | (with_reducible refine Below.drew ?_) | (with_reducible refine below_drewN ?_ _) | (with_reducible refine Below.setCell ?_ ?_ _) | go_size))⟩
set_option maxHeartbeats 400000 in
theorem marked_any (x : PW) (w : World) : Calls Tryd.prog 17 #[x.v] w (RetW ⟨x.slot, x.gen, wrap64 (x.tag + 1), x.num, true⟩ w) := by
  obtain ⟨slot, gen, tag, num, mark⟩ := x
  simp only [PW.v]
  go_enter Tryd.func17, Tryd.ntmps17
  go_wp2_with fail
  go_returns
  exact ⟨rfl, by (repeat' (first | (with_reducible exact Below.refl _ _) | (with_reducible assumption) | (with_reducible refine Below.alloc ?_ ?_ _) | (with_reducible refine Below.drew ?_) | (with_reducible refine below_drewN ?_ _) | (with_reducible refine Below.setCell ?_ ?_ _) | go_size))⟩
set_option maxHeartbeats 400000 in
theorem count_any (x : PW) (n : Int) (w : World) : Calls Tryd.prog 18 #[x.v, .int .i64 n] w (RetW ⟨0, 0, wrap64 (x.tag + 1), wrap64 (x.num + n), false⟩ w) := by
  obtain ⟨slot, gen, tag, num, mark⟩ := x
  simp only [PW.v]
  go_enter Tryd.func18, Tryd.ntmps18
  go_wp2_with fail
  go_returns
  exact ⟨rfl, by (repeat' (first | (with_reducible exact Below.refl _ _) | (with_reducible assumption) | (with_reducible refine Below.alloc ?_ ?_ _) | (with_reducible refine Below.drew ?_) | (with_reducible refine below_drewN ?_ _) | (with_reducible refine Below.setCell ?_ ?_ _) | go_size))⟩
set_option maxHeartbeats 400000 in
theorem ref_any (x : PW) (w : World) : Calls Tryd.prog 19 #[x.v] w (RetW ⟨x.slot, x.gen, 0, 0, false⟩ w) := by
  obtain ⟨slot, gen, tag, num, mark⟩ := x
  simp only [PW.v]
  go_enter Tryd.func19, Tryd.ntmps19
  go_wp2_with fail
  go_returns
  exact ⟨rfl, by (repeat' (first | (with_reducible exact Below.refl _ _) | (with_reducible assumption) | (with_reducible refine Below.alloc ?_ ?_ _) | (with_reducible refine Below.drew ?_) | (with_reducible refine below_drewN ?_ _) | (with_reducible refine Below.setCell ?_ ?_ _) | go_size))⟩
set_option maxHeartbeats 400000 in
theorem nilW_any (x : PW) (w : World) : Calls Tryd.prog 20 #[x.v] w (RetB (x.slot == 0) w) := by
  obtain ⟨slot, gen, tag, num, mark⟩ := x
  simp only [PW.v]
  go_enter Tryd.func20, Tryd.ntmps20
  go_wp2_with fail
  go_ret
  exact ⟨rfl, by (repeat' (first | (with_reducible exact Below.refl _ _) | (with_reducible assumption) | (with_reducible refine Below.alloc ?_ ?_ _) | (with_reducible refine Below.drew ?_) | (with_reducible refine below_drewN ?_ _) | (with_reducible refine Below.setCell ?_ ?_ _) | go_size))⟩

/-- An error at a place: a block of its own that holds the place and what caused it. -/
def RetE (T : TypeId) (u : Value) (n : Int) (w : World) (e : Ending) (w' : World) : Prop :=
  e = .returned (.iface 60 (.pointer (some ⟨w.heap.size, 0, none⟩))) ∧ w' = w.alloc (.cells #[.int .i64 n, .iface T u] 62)
set_option maxHeartbeats 400000 in
theorem woeAt_any (n : Int) (T : TypeId) (u : Value) (w : World) : Calls Tryd.prog 21 #[.int .i64 n, .iface T u] w (RetE T u n w) := by
  go_enter Tryd.func21, Tryd.ntmps21
  go_wp2_with fail
  go_ret
  exact ⟨rfl, rfl⟩
end Go.Proofs.YtfkfleojdheffaaDoor
