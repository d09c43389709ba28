/- CreedExact where there is no such structure; CreedExact whole. -/
import Derived.Test.YtlfbgpncdahglaaDoorLawExact
namespace Go.Proofs.YtlfbgpncdahglaaDoor
open Go Go.RowKit
set_option linter.unusedSimpArgs false
set_option linter.unusedVariables false
set_option linter.unusedSectionVars false

set_option maxRecDepth 100000 in
set_option maxHeartbeats 800000 in
theorem creedExact_all (st : Int) (acts : List PAct) (A : Option Addr) (c : Nat) (w : World) (a : Addr) (hE : w.cell? ⟨0, 0, none⟩ = some (.iface 156 (.pointer (some a))))
    (so : Sl w w.heap.size 7 A acts.length (acells acts)) (lo : acts.length ≤ 9223372036854775807) :
    Calls Tryd.prog 3 #[.int .i64 st, .slice A acts.length c] w (RetB true w) := by
  by_cases hs : 1 ≤ st ∧ st ≤ 5
  · exact creedExact_any st acts A c w a hE so lo hs.1 hs.2
  · have hc : st < 1 ∨ 1 ≤ st ∧ 5 < st := by omega
    have HS := Lib.hid hs; clear hs
    rcases hc with hc | ⟨hc1, hc2⟩
    · have d1 : decide (st < 1) = true := by simpa using hc
      clear hc
      go_enter Tryd.func3, Tryd.ntmps3
      go_wp2_with fail
      refine (awake_any _ a hE).mono ?_
      rintro e w1 ⟨rfl, hb1⟩
      have hE1 := cell_below hE hb1
      go_wp2_with fail
      refine (new_no st _ HS.out _ _ hE1).mono ?_
      rintro e w2 ⟨rfl, hb2⟩
      have hE2 := cell_below hE1 hb2
      have hb := hb1.trans (hb2.mono hb1.size)
      clear hE hE1 hb1 hb2
      go_wp2_with fail
      refine (is_same a _).mono ?_
      rintro e w6 ⟨rfl, rfl⟩
      go_wp2_with fail
      go_ret
      exact ⟨rfl, hb⟩
    · have d1 : decide (st < 1) = false := by simp; omega
      have d2 : decide (5 < st) = true := by simpa using hc2
      clear hc1 hc2
      go_enter Tryd.func3, Tryd.ntmps3
      go_wp2_with fail
      refine (awake_any _ a hE).mono ?_
      rintro e w1 ⟨rfl, hb1⟩
      have hE1 := cell_below hE hb1
      go_wp2_with fail
      refine (new_no st _ HS.out _ _ hE1).mono ?_
      rintro e w2 ⟨rfl, hb2⟩
      have hE2 := cell_below hE1 hb2
      have hb := hb1.trans (hb2.mono hb1.size)
      clear hE hE1 hb1 hb2
      go_wp2_with fail
      refine (is_same a _).mono ?_
      rintro e w6 ⟨rfl, rfl⟩
      go_wp2_with fail
      go_ret
      exact ⟨rfl, hb⟩
end Go.Proofs.YtlfbgpncdahglaaDoor
