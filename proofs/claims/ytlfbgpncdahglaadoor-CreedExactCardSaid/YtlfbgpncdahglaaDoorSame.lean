/- Creed.Same; what is asked of nil. -/
import Derived.Test.YtlfbgpncdahglaaDoorVals
import Derived.Test.YtlfbgpncdahglaaDoorFnEqP
namespace Go.Proofs.YtlfbgpncdahglaaDoor
open Go Go.RowKit
set_option linter.unusedSimpArgs false
set_option linter.unusedVariables false
set_option linter.unusedSectionVars false

theorem equalInts_is {b : Bool} (xs ys : List Int) (A A' : Option Addr) (c c' B B' : Nat) (w : World) (hx : Sl w B 1 A xs.length (icells xs)) (hy : Sl w B' 1 A' ys.length (icells ys))
    (lx : xs.length ≤ 9223372036854775807) (ly : ys.length ≤ 9223372036854775807) (h : decide (xs = ys) = b) :
    Calls Tryd.prog 43 #[.slice A xs.length c, .slice A' ys.length c'] w (RetQ b w) := h ▸ equalInts_any xs ys A A' c c' B B' w hx hy lx ly
theorem equalPairs_is {b : Bool} (xs ys : List (Int × Int)) (A A' : Option Addr) (c c' B B' : Nat) (w : World) (hx : Sl w B 2 A xs.length (pcells xs)) (hy : Sl w B' 2 A' ys.length (pcells ys))
    (lx : xs.length ≤ 9223372036854775807) (ly : ys.length ≤ 9223372036854775807) (h : decide (xs = ys) = b) :
    Calls Tryd.prog 44 #[.slice A xs.length c, .slice A' ys.length c'] w (RetQ b w) := h ▸ equalPairs_any xs ys A A' c c' B B' w hx hy lx ly

theorem pc_eq (s t : PC) : decide (s = t) = ((s.st == t.st) && decide (s.vals = t.vals) && decide (s.pairs = t.pairs)) := by
  obtain ⟨a, b, c⟩ := s
  obtain ⟨a', b', c'⟩ := t
  rw [Bool.eq_iff_iff]
  simp [and_assoc]

section
variable (w : World) (g : Nat) (s : PC) (A : Option Addr) (c : Nat) (A' : Option Addr) (c' : Nat) (h : CR w g s A c A' c') (hok : POk s) (g2 : Nat) (t : PC) (B : Option Addr) (d : Nat) (B' : Option Addr) (d' : Nat) (k : CR w g2 t B d B' d') (kok : POk t)
include h hok k kok
set_option maxRecDepth 100000 in
set_option maxHeartbeats 800000 in
theorem sameC_any : Calls Tryd.prog 25 #[.pointer (some ⟨g, 0, none⟩), .pointer (some ⟨g2, 0, none⟩)] w (RetQ (decide (s = t)) w) := by
  rw [pc_eq]
  obtain ⟨c0, c1, c2⟩ := h.cells
  obtain ⟨e0, e1, e2⟩ := k.cells
  have l1 := hok.lv; have l2 := hok.lp; have l3 := kok.lv; have l4 := kok.lp
  cases hst : (s.st == t.st)
  · simp only [Bool.false_and]
    go_enter Tryd.func25, Tryd.ntmps25
    go_wp2_with fail
    go_quiet (fail)
    go_wp2_with fail
    go_ret
    exact ⟨rfl, _, rfl⟩
  · simp only [Bool.true_and]
    cases hv : decide (s.vals = t.vals)
    · have HV := Lib.hid hv; clear hv
      simp only [Bool.false_and]
      go_enter Tryd.func25, Tryd.ntmps25
      go_wp2_with fail
      go_quiet ((go_at_call 43; exact Calls.quiet_of (equalInts_is s.vals t.vals A B c d _ _ _ (h.v.sl.drewN _) (k.v.sl.drewN _) (by omega) (by omega) HV.out)))
      go_wp2_with fail
      go_ret
      exact ⟨rfl, _, rfl⟩
    · have HV := Lib.hid hv; clear hv
      simp only [Bool.true_and]
      cases hp : decide (s.pairs = t.pairs)
      all_goals
        have HP := Lib.hid hp; clear hp
        go_enter Tryd.func25, Tryd.ntmps25
        go_wp2_with fail
        go_quiet ((first | (go_at_call 43; exact Calls.quiet_of (equalInts_is s.vals t.vals A B c d _ _ _ (h.v.sl.drewN _) (k.v.sl.drewN _) (by omega) (by omega) HV.out)) | (go_at_call 44; exact Calls.quiet_of (equalPairs_is s.pairs t.pairs A' B' c' d' _ _ _ (h.p.sl.drewN _) (k.p.sl.drewN _) (by omega) (by omega) HP.out))))
        go_wp2_with fail
        go_ret
        exact ⟨rfl, _, rfl⟩
end
end Go.Proofs.YtlfbgpncdahglaaDoor
