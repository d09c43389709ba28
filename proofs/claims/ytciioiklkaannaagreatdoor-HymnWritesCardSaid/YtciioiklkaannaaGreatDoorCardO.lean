/- An operation as an argument: what its reading gives. -/
import Derived.Test.YtciioiklkaannaaGreatDoorCardB
namespace Go.Proofs.YtciioiklkaannaaGreatDoor
open Go.ChangeShapes Go.WideShapes Go.ChangeAt Go.RowKit Go.Deep
set_option linter.unusedSimpArgs false
set_option linter.unusedVariables false
set_option linter.unusedSectionVars false

section
variable {H : Type} {enc : TypeId × Value → H} {W : World} {base : Nat} {spare : Nat → Bool} {held : Bool}
set_option maxRecDepth 100000 in
theorem op_arg {b0 : Nat} {v : Value} {d : DataW H} {p : List MemPlace} (hv : Value.okWide Tryz.prog W .any b0 29 v) (h : DataW.Trod enc Tryz.prog W base spare held 29 v d p) : ∃ o : POp, v = o.v := by
  obtain ⟨cs, rfl, hsz⟩ := okWide_struct Tryz.underlying29 hv
  obtain ⟨l⟩ := cs
  obtain ⟨fuel, hf⟩ := h
  obtain ⟨o, ho⟩ := open_op hf
  simp [Value.cells] at ho
  subst ho
  exact ⟨o, rfl⟩
end
end Go.Proofs.YtciioiklkaannaaGreatDoor
