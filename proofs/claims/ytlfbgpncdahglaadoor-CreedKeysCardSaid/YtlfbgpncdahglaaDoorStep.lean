/- Do by its outcome, fitting or not. -/
import Derived.Test.YtlfbgpncdahglaaDoorLaws
import Derived.Test.YtlfbgpncdahglaaDoorPlainKeysB
namespace Go.Proofs.YtlfbgpncdahglaaDoor
open Go Go.RowKit
set_option linter.unusedSimpArgs false
set_option linter.unusedVariables false
set_option linter.unusedSectionVars false

def outOf (s : PC) (o : POp) : Int × Int := if fitsB s.st o = true then ansOf s o else (0, 0)
def errOf (s : PC) (o : POp) (T : TypeId) (u : Value) : Value := if fitsB s.st o = true then .nilIface else .iface T u
def Stepped (w : World) (g : Nat) (v p : Value) (s' : PC) (a : Int × Int) (ev : Value) (e : Ending) (w' : World) : Prop :=
  e = .returned (.tuple #[.agg #[.int .i64 a.1, .int .i64 a.2], ev]) ∧ RetS w g v p s' w'

theorem RetS.of_below {w w' : World} {g : Nat} {s : PC} {A : Option Addr} {c : Nat} {A' : Option Addr} {c' : Nat} (h : CR w g s A c A' c') (hb : Below w.heap.size w w') : RetS w g (.slice A s.vals.length c) (.slice A' s.pairs.length c') s w' :=
  ⟨A, c, A', c', h.below hb, ⟨hb.os, hb.tape, hb.output, hb.size, fun b hlt _ _ _ => hb.block b hlt, fun _ e => Or.inl e, fun _ e => Or.inl e⟩⟩

theorem do_step (w : World) (g : Nat) (s : PC) (A : Option Addr) (c : Nat) (A' : Option Addr) (c' : Nat) (h : CR w g s A c A' c') (o : POp) (T : TypeId) (u : Value) (hE : w.cell? ⟨0, 0, none⟩ = some (.iface T u)) (hok : POk s) :
    Calls Tryd.prog 13 #[.pointer (some ⟨g, 0, none⟩), o.v] w (Stepped w g (.slice A s.vals.length c) (.slice A' s.pairs.length c') (stepOf s o) (outOf s o) (errOf s o T u)) := by
  cases hf : fitsB s.st o
  · refine (do_no w g s A c A' c' h o T u hE hf).mono ?_
    rintro e w' ⟨rfl, hb⟩
    have e1 : outOf s o = (0, 0) := if_neg (by rw [hf]; simp)
    have e2 : errOf s o T u = .iface T u := if_neg (by rw [hf]; simp)
    rw [e1, e2, step_no hf]
    exact ⟨rfl, RetS.of_below h hb⟩
  · have e1 : outOf s o = ansOf s o := if_pos hf
    have e2 : errOf s o T u = .nilIface := if_pos hf
    rw [e1, e2, step_yes hf]
    exact do_yes w g s A c A' c' h o T u hE hok hf
theorem u64_rem3 (n : Int) : 0 ≤ (IntKind.u64.wrap n).tmod 3 ∧ (IntKind.u64.wrap n).tmod 3 < 3 := by
  have h0 : 0 ≤ IntKind.u64.wrap n := by
    have : IntKind.u64.wrap n = n % 18446744073709551616 := by unfold IntKind.wrap; simp [IntKind.signed, IntKind.bits]
    omega
  rw [Int.tmod_eq_emod_of_nonneg h0]
  omega
theorem stOf3_in (n : Int) : ∃ s, wrap64 (3 + wrap64 ((IntKind.u64.wrap n).tmod 3)) = s ∧ 3 ≤ s ∧ s ≤ 5 := by
  obtain ⟨h1, h2⟩ := u64_rem3 n
  exact ⟨_, rfl, by unfold wrap64; omega, by unfold wrap64; omega⟩
end Go.Proofs.YtlfbgpncdahglaaDoor
