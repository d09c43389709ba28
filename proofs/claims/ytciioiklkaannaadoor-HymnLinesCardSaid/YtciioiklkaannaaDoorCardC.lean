/- An array of two operations as an argument: what its reading gives. -/
import Derived.Test.YtciioiklkaannaaDoorCardB
import Derived.OpenShut
namespace Go.Proofs.YtciioiklkaannaaDoor
open Go.ChangeShapes Go.WideShapes Go.ChangeAt Go.RowKit Go.Deep
set_option linter.unusedSimpArgs false
set_option linter.unusedVariables false
set_option linter.unusedSectionVars false

theorem cellsTwo : Tryd.prog.cellsOf 24 = 8 := by kernel_rfl
theorem okWide_array {P : Program} {w : World} {r : Reach} {base n : Nat} {t e : TypeId} {v : Value} (ht : P.underlying t = some (.array n e)) (h : Value.okWide P w r base t v) : ∃ cs, v = .agg cs ∧ cs.size = P.cellsOf t := by
  simp only [Value.okWide, ht] at h
  obtain ⟨cs, h1, h2, _⟩ := h
  exact ⟨cs, h1, h2⟩
section
variable {H : Type} {enc : TypeId × Value → H} {W : World} {base : Nat} {spare : Nat → Bool} {held : Bool}
set_option maxRecDepth 100000 in
theorem open_two {b0 : Nat} {v : Value} {d : DataW H} {p : List MemPlace} (hv : Value.okWide Tryd.prog W .any b0 24 v) (h : DataW.Trod enc Tryd.prog W base spare held 24 v d p) :
    ∃ o1 o2 : POp, v = .agg #[.int .i64 o1.kind, .int .i64 o1.key, .int .i64 o1.val, .int .i64 o1.tall, .int .i64 o2.kind, .int .i64 o2.key, .int .i64 o2.val, .int .i64 o2.tall] := by
  obtain ⟨cs, rfl, hsz⟩ := okWide_array Tryd.underlying24 hv
  obtain ⟨l⟩ := cs
  match l, hsz.trans cellsTwo with
  | [c0, c1, c2, c3, c4, c5, c6, c7], _ =>
    obtain ⟨fuel, hf⟩ := h
    obtain ⟨ys, n, _, _, _, hlen, hg⟩ := DataW.trod_array Tryd.underlying24 hf
    match ys, hlen with
    | [y0, y1], _ =>
      have g0 := hg 0 (by omega)
      have g1 := hg 1 (by omega)
      simp [cellsOp, Value.cells] at g0 g1
      obtain ⟨o1, e1⟩ := open_op g0
      obtain ⟨o2, e2⟩ := open_op g1
      simp [POp.cells] at e1 e2
      obtain ⟨rfl, rfl, rfl, rfl⟩ := e1
      obtain ⟨rfl, rfl, rfl, rfl⟩ := e2
      exact ⟨o1, o2, rfl⟩
end
end Go.Proofs.YtciioiklkaannaaDoor
