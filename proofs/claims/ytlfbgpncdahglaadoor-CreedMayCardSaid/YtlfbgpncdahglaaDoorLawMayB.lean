/- CreedMay where there are too many operations; CreedMay whole. -/
import Derived.Test.YtlfbgpncdahglaaDoorLawMay
namespace Go.Proofs.YtlfbgpncdahglaaDoor
open Go Go.RowKit
set_option linter.unusedSimpArgs false
set_option linter.unusedVariables false
set_option linter.unusedSectionVars false

set_option maxRecDepth 100000 in
set_option maxHeartbeats 800000 in
theorem creedMay_big (st : Int) (ops : List POp) (A : Option Addr) (c : Nat) (a1 a2 : Int) (w : World) (a : Addr) (hE : w.cell? ⟨0, 0, none⟩ = some (.iface 156 (.pointer (some a))))
    (lo : ops.length ≤ 9223372036854775807) (hl : ¬ ops.length ≤ 100) :
    Calls Tryd.prog 5 #[.int .i64 st, .slice A ops.length c, .agg #[.int .i64 a1, .int .i64 a2]] w (RetB true w) := by
  have g1 : decide ((100 : Int) < (ops.length : Int)) = true := by simp; omega
  clear hl
  obtain ⟨s0, hs0, hs1, hs5⟩ := stOf_in st
  have hE0 := cell_alloc hE (.cells #[.int .i64 a1, .int .i64 a2] 36)
  have hw0 : Below w.heap.size w (w.alloc (.cells #[.int .i64 a1, .int .i64 a2] 36)) := (Below.refl _ _).alloc (Nat.le_refl _) _
  have hws := hw0.size
  go_enter Tryd.func5, Tryd.ntmps5
  go_wp2_with fail
  generalize (w.alloc (.cells #[.int .i64 a1, .int .i64 a2] 36)) = w0 at *
  generalize hwa : w.heap.size = wa at *
  refine (awake_any _ a hE0).mono ?_
  rintro e w1 ⟨rfl, hb1⟩
  have hbb := hw0.trans (hb1.mono hws)
  go_wp2_with fail
  rw [hs0]
  refine (new_any s0 _ hs1 hs5).mono ?_
  rintro e w2 ⟨g, A1, c1, A1', c1', rfl, hn⟩
  have hb2 := hbb.trans (hn.2.1.mono (by have := hbb.size; omega))
  clear hn hs0 hE hE0 hb1
  go_wp2_with fail
  go_ret
  exact ⟨rfl, by rw [hwa]; exact hb2⟩

theorem creedMay_all (st : Int) (ops : List POp) (A : Option Addr) (c : Nat) (a1 a2 : Int) (w : World) (a : Addr) (hE : w.cell? ⟨0, 0, none⟩ = some (.iface 156 (.pointer (some a))))
    (so : Sl w w.heap.size 4 A ops.length (ocells ops)) (lo : ops.length ≤ 9223372036854775807) :
    Calls Tryd.prog 5 #[.int .i64 st, .slice A ops.length c, .agg #[.int .i64 a1, .int .i64 a2]] w (RetB true w) := by
  by_cases hl : ops.length ≤ 100
  · exact creedMay_any st ops A c a1 a2 w a hE so hl
  · exact creedMay_big st ops A c a1 a2 w a hE lo hl
end Go.Proofs.YtlfbgpncdahglaaDoor
