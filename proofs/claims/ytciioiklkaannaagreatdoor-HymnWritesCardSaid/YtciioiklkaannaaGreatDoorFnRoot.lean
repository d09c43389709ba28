/- The cell of a root; the beginning of an operation on a list. -/
import Derived.Test.YtciioiklkaannaaGreatDoorFnC
namespace Go.Proofs.YtciioiklkaannaaGreatDoor
open Go Go.RowKit
set_option linter.unusedSimpArgs false
set_option linter.unusedVariables false
set_option linter.unusedSectionVars false

theorem boardRoot_any (n : Int) (w : World) (h0 : 0 ≤ n) (h1 : n < 24) :
    Calls Tryz.prog 64 #[.int .i64 n] w fun e w' => e = .returned (.tuple #[.agg #[.int .i64 0, .int .i64 0, .int .i64 n], .nilIface]) ∧
      w.alloc (.cells #[.int .i64 0, .int .i64 0, .int .i64 n] 120) = w' := by
  go_enter Tryz.func64, Tryz.ntmps64
  go_wp2
  go_returns
  exact ⟨by simp, rfl⟩

def RetP (w : World) (e : Ending) (w' : World) : Prop := (∃ p, e = .returned (.pointer p)) ∧ Below w.heap.size w w'

theorem litanyFrom_any (a b c k : Int) (o : POp) (w : World) :
    Calls Tryz.prog 65 #[.agg #[.int .i64 a, .int .i64 b, .int .i64 c], .int .i64 k, o.v] w (RetP w) := by
  obtain ⟨kind, key, val, tall⟩ := o
  simp only [POp.v]
  go_enter Tryz.func65, Tryz.ntmps65
  go_wp2
  all_goals
    go_ret
    exact ⟨⟨_, rfl⟩, by (repeat' (first | (with_reducible exact Below.refl _ _) | (with_reducible assumption) | (with_reducible refine Below.alloc ?_ ?_ _) | (with_reducible refine Below.drew ?_) | (with_reducible refine below_drewN ?_ _) | (with_reducible refine Below.setCell ?_ ?_ _) | go_size))⟩

end Go.Proofs.YtciioiklkaannaaGreatDoor
