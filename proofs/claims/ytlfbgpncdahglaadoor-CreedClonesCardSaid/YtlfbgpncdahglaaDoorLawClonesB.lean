/- CreedClones where there are too many operations; CreedClones whole. -/
import Derived.Test.YtlfbgpncdahglaaDoorLawClones
namespace Go.Proofs.YtlfbgpncdahglaaDoor
open Go Go.RowKit
set_option linter.unusedSimpArgs false
set_option linter.unusedVariables false
set_option linter.unusedSectionVars false

set_option maxRecDepth 100000 in
set_option maxHeartbeats 800000 in
theorem creedClones_big (st : Int) (ops more : List POp) (A B : Option Addr) (c d : Nat) (w : World) (a : Addr) (hE : w.cell? ⟨0, 0, none⟩ = some (.iface 156 (.pointer (some a))))
    (lo : ops.length ≤ 9223372036854775807) (lm : more.length ≤ 9223372036854775807) (hl : ¬ (ops.length ≤ 60 ∧ more.length ≤ 60)) :
    Calls Tryd.prog 7 #[.int .i64 st, .slice A ops.length c, .slice B more.length d] w (RetB true w) := by
  obtain ⟨s0, hs0, hs1, hs5⟩ := stOf_in st
  have hc : ¬ ops.length ≤ 60 ∨ ops.length ≤ 60 ∧ ¬ more.length ≤ 60 := by omega
  clear hl
  rcases hc with hc | ⟨hc, hc2⟩
  · have g1 : decide ((60 : Int) < (ops.length : Int)) = true := by simp; omega
    clear hc
    go_enter Tryd.func7, Tryd.ntmps7
    go_wp2_with fail
    refine (awake_any _ a hE).mono ?_
    rintro e w1 ⟨rfl, hb1⟩
    go_wp2_with fail
    rw [hs0]
    refine (new_any s0 _ hs1 hs5).mono ?_
    rintro e w2 ⟨g, A1, c1, A1', c1', rfl, hn⟩
    have hb2 := hb1.trans (hn.2.1.mono hb1.size)
    clear hn hs0 hE hb1
    go_wp2_with fail
    go_ret
    exact ⟨rfl, hb2⟩
  · have g1 : decide ((60 : Int) < (ops.length : Int)) = false := by simp; omega
    have g2 : decide ((60 : Int) < (more.length : Int)) = true := by simp; omega
    clear hc hc2
    go_enter Tryd.func7, Tryd.ntmps7
    go_wp2_with fail
    refine (awake_any _ a hE).mono ?_
    rintro e w1 ⟨rfl, hb1⟩
    go_wp2_with fail
    rw [hs0]
    refine (new_any s0 _ hs1 hs5).mono ?_
    rintro e w2 ⟨g, A1, c1, A1', c1', rfl, hn⟩
    have hb2 := hb1.trans (hn.2.1.mono hb1.size)
    clear hn hs0 hE hb1
    go_wp2_with fail
    go_ret
    exact ⟨rfl, hb2⟩

theorem creedClones_all (st : Int) (ops more : List POp) (A B : Option Addr) (c d : Nat) (w : World) (a a' : Addr) (hE : w.cell? ⟨0, 0, none⟩ = some (.iface 156 (.pointer (some a))))
    (hN : w.cell? ⟨1, 0, none⟩ = some (.iface 156 (.pointer (some a'))))
    (so : Sl w w.heap.size 4 A ops.length (ocells ops)) (sm : Sl w w.heap.size 4 B more.length (ocells more)) (lo : ops.length ≤ 9223372036854775807) (lm : more.length ≤ 9223372036854775807) :
    Calls Tryd.prog 7 #[.int .i64 st, .slice A ops.length c, .slice B more.length d] w (RetB true w) := by
  by_cases hl : ops.length ≤ 60 ∧ more.length ≤ 60
  · exact creedClones_any st ops more A B c d w a a' hE hN so sm hl.1 hl.2
  · exact creedClones_big st ops more A B c d w a hE lo lm hl
end Go.Proofs.YtlfbgpncdahglaaDoor
