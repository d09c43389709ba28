/- A list of numbers as an argument. -/
import Derived.Test.YtfkfleojdheffaaDoorCardB
import Derived.Test.YtfkfleojdheffaaDoorSl
namespace Go.Proofs.YtfkfleojdheffaaDoor
open Go.ChangeShapes Go.WideShapes Go.ChangeAt Go.RowKit Go.Deep
set_option linter.unusedSimpArgs false
set_option linter.unusedVariables false
set_option linter.unusedSectionVars false

section
variable {H : Type} {enc : TypeId × Value → H}
variable {W : World} {base : Nat} {spare : Nat → Bool} {held : Bool}
set_option maxRecDepth 100000 in
theorem open_nums {fuel : Nat} {cs : List Value} {x : DataW H × List MemPlace} (h : DataW.trod enc Tryd.prog W base spare held fuel 40 cs = some x) :
    ∃ (A : Option Addr) (c : Nat) (l : List Int), cs = [.slice A l.length c] ∧ Sl W W.heap.size 1 A l.length (icells l) ∧ l.length ≤ 9223372036854775807 := by
  rcases open_slice Tryd.underlying40 h with ⟨rfl, _⟩ | ⟨a, len, cap, m, n, D, Pl, rfl, _, hlc, hcm, hm, _, hel⟩
  · exact ⟨none, 0, [], rfl, Sl.none_, by simp⟩
  · have hlm : len ≤ m := by rw [hm]; split <;> omega
    obtain ⟨l, hl, hp⟩ := list_of (p := fun i (t : Int) => W.cell? (a.add i) = some (.int .i64 t)) len (fun i hi => by
      obtain ⟨cs', hc, ht⟩ := hel i (by omega)
      rw [cellsInt] at hc
      obtain ⟨k, rfl, _⟩ := DataW.trod_int Tryd.underlying3 ht
      obtain ⟨_, _, hat⟩ := World.cells?_some hc
      have := hat 0 (by omega)
      rw [add_add] at this
      exact ⟨k, by simpa using this⟩)
    refine ⟨some a, cap, l, by rw [hl], ⟨by simp [icells], fun hpos => ?_⟩, by rw [hl]; have := le_len hcm; omega⟩
    have h00 := hp 0 hpos
    obtain ⟨b, off, rfl⟩ := plain_addr h00
    have hbl := World.block_lt_of_cell? W _ h00
    refine ⟨b, off, rfl, by simpa [Addr.add] using hbl, fun j u hu => ?_⟩
    have hjl : j < l.length := by
      have := (List.getElem?_eq_some_iff.1 hu).1
      rwa [icells_length] at this
    have h1 := hp j hjl
    rw [add_plain] at h1
    rw [h1, ← icells_get l j hjl]
    exact hu

set_option maxRecDepth 100000 in
theorem nums_arg {b0 : Nat} {v : Value} {d : DataW H} {p : List MemPlace} (hv : Value.okWide Tryd.prog W .any b0 40 v) (h : DataW.Trod enc Tryd.prog W base spare held 40 v d p) :
    ∃ (A : Option Addr) (c : Nat) (l : List Int), v = .slice A l.length c ∧ Sl W W.heap.size 1 A l.length (icells l) ∧ l.length ≤ 9223372036854775807 := by
  obtain ⟨fuel, hf⟩ := h
  obtain ⟨A, c, l, hc, hs, hl⟩ := open_nums hf
  obtain ⟨A', n', c', rfl⟩ := okWide_slice Tryd.underlying40 hv
  simp [Value.cells] at hc
  obtain ⟨rfl, rfl, rfl⟩ := hc
  exact ⟨A', c', l, rfl, hs, hl⟩
end
end Go.Proofs.YtfkfleojdheffaaDoor
