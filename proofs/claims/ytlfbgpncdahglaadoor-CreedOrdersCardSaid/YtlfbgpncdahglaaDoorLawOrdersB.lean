/- CreedOrders where there are too many values; CreedOrders whole. -/
import Derived.Test.YtlfbgpncdahglaaDoorLawOrders
namespace Go.Proofs.YtlfbgpncdahglaaDoor
open Go Go.RowKit
set_option linter.unusedSimpArgs false
set_option linter.unusedVariables false
set_option linter.unusedSectionVars false

set_option maxRecDepth 100000 in
set_option maxHeartbeats 800000 in
theorem creedOrders_all (vals : List Int) (V : Option Addr) (vc : Nat) (w : World) (a : Addr) (hE : w.cell? ⟨0, 0, none⟩ = some (.iface 156 (.pointer (some a))))
    (so : Sl w w.heap.size 1 V vals.length (icells vals)) (lo : vals.length ≤ 9223372036854775807) :
    Calls Tryd.prog 4 #[.slice V vals.length vc] w (RetB true w) := by
  by_cases hl : vals.length ≤ 100
  · exact creedOrders_any vals V vc w a hE so hl
  · have g1 : decide ((100 : Int) < (vals.length : Int)) = true := by simp; omega
    clear hl
    go_enter Tryd.func4, Tryd.ntmps4
    go_wp2_with fail
    refine (awake_any _ a hE).mono ?_
    rintro e w1 ⟨rfl, hb1⟩
    go_wp2_with fail
    go_ret
    exact ⟨rfl, hb1⟩
end Go.Proofs.YtlfbgpncdahglaaDoor
