/- CreedKeys where there are too many operations; CreedKeys whole. -/
import Derived.Test.YtlfbgpncdahglaaDoorLawKeys
namespace Go.Proofs.YtlfbgpncdahglaaDoor
open Go Go.RowKit
set_option linter.unusedSimpArgs false
set_option linter.unusedVariables false
set_option linter.unusedSectionVars false

set_option maxRecDepth 100000 in
set_option maxHeartbeats 800000 in
theorem creedKeys_big (st : Int) (ops : List POp) (A : Option Addr) (c : Nat) (o1 o2 : POp) (w : World) (a : Addr) (hE : w.cell? ⟨0, 0, none⟩ = some (.iface 156 (.pointer (some a))))
    (lo : ops.length ≤ 9223372036854775807) (hl : ¬ ops.length ≤ 40) :
    Calls Tryd.prog 6 #[.int .i64 st, .slice A ops.length c, .agg #[.int .i64 o1.kind, .int .i64 o1.key, .int .i64 o1.val, .int .i64 o1.tall, .int .i64 o2.kind, .int .i64 o2.key, .int .i64 o2.val, .int .i64 o2.tall]] w (RetB true w) := by
  have g1 : decide ((40 : Int) < (ops.length : Int)) = true := by simp; omega
  clear hl
  obtain ⟨s0, hs0, hs1, hs5⟩ := stOf3_in st
  have hE0 := cell_alloc hE (.cells #[.int .i64 o1.kind, .int .i64 o1.key, .int .i64 o1.val, .int .i64 o1.tall, .int .i64 o2.kind, .int .i64 o2.key, .int .i64 o2.val, .int .i64 o2.tall] 60)
  have hw0 : Below w.heap.size w (w.alloc (.cells #[.int .i64 o1.kind, .int .i64 o1.key, .int .i64 o1.val, .int .i64 o1.tall, .int .i64 o2.kind, .int .i64 o2.key, .int .i64 o2.val, .int .i64 o2.tall] 60)) := (Below.refl _ _).alloc (Nat.le_refl _) _
  have hws := hw0.size
  go_enter Tryd.func6, Tryd.ntmps6
  go_wp2_with fail
  generalize (w.alloc (.cells #[.int .i64 o1.kind, .int .i64 o1.key, .int .i64 o1.val, .int .i64 o1.tall, .int .i64 o2.kind, .int .i64 o2.key, .int .i64 o2.val, .int .i64 o2.tall] 60)) = w0 at *
  generalize hwa : w.heap.size = wa at *
  refine (awake_any _ a hE0).mono ?_
  rintro e w1 ⟨rfl, hb1⟩
  have hbb := hw0.trans (hb1.mono hws)
  go_wp2_with fail
  rw [hs0]
  refine (new_any s0 _ (by omega) hs5).mono ?_
  rintro e w2 ⟨g, A1, c1, A1', c1', rfl, hn⟩
  have hb2 := hbb.trans (hn.2.1.mono (by have := hbb.size; omega))
  clear hn hs0 hE hE0 hb1
  go_wp2_with fail
  go_ret
  exact ⟨rfl, by rw [hwa]; exact hb2⟩

theorem creedKeys_all (st : Int) (ops : List POp) (A : Option Addr) (c : Nat) (o1 o2 : POp) (w : World) (a : Addr) (hE : w.cell? ⟨0, 0, none⟩ = some (.iface 156 (.pointer (some a))))
    (so : Sl w w.heap.size 4 A ops.length (ocells ops)) (lo : ops.length ≤ 9223372036854775807) :
    Calls Tryd.prog 6 #[.int .i64 st, .slice A ops.length c, .agg #[.int .i64 o1.kind, .int .i64 o1.key, .int .i64 o1.val, .int .i64 o1.tall, .int .i64 o2.kind, .int .i64 o2.key, .int .i64 o2.val, .int .i64 o2.tall]] w (RetB true w) := by
  by_cases hl : ops.length ≤ 40
  · exact creedKeys_any st ops A c o1 o2 w a hE so hl
  · exact creedKeys_big st ops A c o1 o2 w a hE lo hl
end Go.Proofs.YtlfbgpncdahglaaDoor
