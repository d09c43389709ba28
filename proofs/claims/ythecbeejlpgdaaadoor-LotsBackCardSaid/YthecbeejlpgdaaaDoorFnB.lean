/- More small functions. -/
import Derived.Test.YthecbeejlpgdaaaDoorFnA
namespace Go.Proofs.YthecbeejlpgdaaaDoor
open Go Go.RowKit
set_option linter.unusedSimpArgs false
set_option linter.unusedVariables false
set_option linter.unusedSectionVars false

def partsA (o : POp) : Int := if o.kind = 1 ∨ o.kind = 4 then o.val / 256 else o.key
def partsB (o : POp) : Int := if o.kind = 1 ∨ o.kind = 4 then o.val % 256 else o.val

theorem parts_any (o : POp) (w : World) (hv : 0 ≤ o.val) (hv1 : o.val ≤ 1073741824) :
    Calls Tryd.prog 28 #[o.v] w (RetV (.tuple #[.int .i64 (partsA o), .int .i64 (partsB o)]) w) := by
  obtain ⟨kind, key, val, tall⟩ := o
  simp only [POp.v] at *
  go_enter Tryd.func28, Tryd.ntmps28
  go_wp2
  all_goals
    go_quiet (fail)
    go_wp2
    go_returns
    refine ⟨?_, by (repeat' (first | (with_reducible exact Below.refl _ _) | (with_reducible assumption) | (with_reducible refine Below.alloc ?_ ?_ _) | (with_reducible refine Below.drew ?_) | (with_reducible refine below_drewN ?_ _) | (with_reducible refine Below.setCell ?_ ?_ _) | go_size))⟩
    simp_all [partsA, partsB]

def kindsOf (st : Int) : List Int := if st = 1 then [1, 2, 3] else if st = 2 then [4, 5] else if 3 ≤ st ∧ st ≤ 5 then [6, 7, 8] else []


theorem kinds_any (st : Int) (w : World) (h1 : 1 ≤ st) (h5 : st ≤ 5) :
    Calls Tryd.prog 14 #[.int .i64 st] w fun e w' => e = .returned (.slice (some ⟨w.heap.size, 0, none⟩) (kindsOf st).length (kindsOf st).length) ∧
      w.alloc (.cells ((kindsOf st).map (Value.int .i64)).toArray 3) = w' := by
  go_enter Tryd.func14, Tryd.ntmps14
  go_wp2
  all_goals
    go_returns
    simp_all [kindsOf]

end Go.Proofs.YthecbeejlpgdaaaDoor
