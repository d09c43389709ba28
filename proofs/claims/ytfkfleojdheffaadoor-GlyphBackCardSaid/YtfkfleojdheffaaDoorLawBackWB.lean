/- GlyphBack where the text is long; GlyphBack whole. -/
import Derived.Test.YtfkfleojdheffaaDoorLawBackW
namespace Go.Proofs.YtfkfleojdheffaaDoor
open Go Go.RowKit
set_option linter.unusedSimpArgs false
set_option linter.unusedVariables false
set_option linter.unusedSectionVars false

set_option maxRecDepth 100000 in
set_option maxHeartbeats 800000 in
theorem glyphBack_all {w : World} {a b : Addr} {tS : TypeId} {pS : Value} {tR : TypeId} {pR : Value} {m : Int} (G : GW w a b tS pS tR pR m) (x y : PW) (s : ByteArray) (ls : s.size ≤ 9223372036854775807) :
    Calls Tryd.prog 4 #[x.v, y.v, .string s] w (RetB true w) := by
  by_cases hs : s.size ≤ 1024
  · exact glyphBack_any G x y s hs
  · have hb0 : Below w.heap.size w ((w.alloc (.cells #[.int .i64 x.slot, .int .i64 x.gen, .int .i64 x.tag, .int .i64 x.num, .bool x.mark] 23)).alloc (.cells #[.int .i64 y.slot, .int .i64 y.gen, .int .i64 y.tag, .int .i64 y.num, .bool y.mark] 23)) := ((Below.refl _ _).alloc (Nat.le_refl _) _).alloc (by simp) _
    have dl : decide ((1024 : Int) < (s.size : Int)) = true := by simp; omega
    clear hs
    have G0 := G.more hb0
    unfold PW.v
    go_enter Tryd.func4, Tryd.ntmps4
    go_wp2_with fail
    refine (awake_any G0).mono ?_
    rintro e w1 ⟨rfl, hb1⟩
    go_wp2_with fail
    go_ret
    exact ⟨rfl, hb0.trans (hb1.mono hb0.size)⟩
end Go.Proofs.YtfkfleojdheffaaDoor
