/- Sizes that the walk compares: two rules for its simp. -/
import Derived.WalkKit
namespace Go.Proofs.YtciioiklkaannaaGreatDoor
open Go Go.RowKit
set_option linter.unusedSimpArgs false
set_option linter.unusedVariables false
set_option linter.unusedSectionVars false
@[go_sem] theorem size_le {n m : Nat} (h : n < m) : n ≤ m := Nat.le_of_lt h
@[go_sem] theorem size_lt_add {n m k : Nat} (h : n < m) : n < m + k := Nat.lt_of_lt_of_le h (Nat.le_add_right _ _)
@[go_sem] theorem size_le_add {n m k : Nat} (h : n ≤ m) : n ≤ m + k := Nat.le_trans h (Nat.le_add_right _ _)
end Go.Proofs.YtciioiklkaannaaGreatDoor
