/- A slice of acts as an argument: what its reading gives. -/
import Derived.Test.YtlfbgpncdahglaaDoorCardB
import Derived.Test.YtlfbgpncdahglaaDoorEx
namespace Go.Proofs.YtlfbgpncdahglaaDoor
open Go.ChangeShapes Go.WideShapes Go.ChangeAt Go.RowKit Go.Deep
set_option linter.unusedSimpArgs false
set_option linter.unusedVariables false
set_option linter.unusedSectionVars false

theorem cellsAct : Tryd.prog.cellsOf 38 = 7 := by kernel_rfl
section
variable {H : Type} {enc : TypeId × Value → H} {W : World} {base : Nat} {spare : Nat → Bool} {held : Bool}
set_option maxRecDepth 100000 in
theorem open_ans {fuel : Nat} {cs : List Value} {x : DataW H × List MemPlace} (h : DataW.trod enc Tryd.prog W base spare held fuel 36 cs = some x) : ∃ a b : Int, cs = [.int .i64 a, .int .i64 b] := by
  obtain ⟨ys, n, _, _, hc, hlen, hg⟩ := DataW.trod_struct Tryd.underlying36 h
  rw [cellsAnswer] at hc
  match cs, hc, ys, hlen with
  | [c0, c1], _, [y0, y1], _ =>
    have g0 := hg 0 _ rfl
    have g1 := hg 1 _ rfl
    simp [cellsInt] at g0 g1
    obtain ⟨a, e0, _⟩ := DataW.trod_int Tryd.underlying3 g0
    obtain ⟨b, e1, _⟩ := DataW.trod_int Tryd.underlying3 g1
    simp at e0 e1
    subst e0 e1
    exact ⟨a, b, rfl⟩
set_option maxRecDepth 100000 in
theorem open_act {fuel : Nat} {cs : List Value} {x : DataW H × List MemPlace} (h : DataW.trod enc Tryd.prog W base spare held fuel 38 cs = some x) : ∃ o : PAct, cs = o.cells := by
  obtain ⟨ys, n, _, _, hc, hlen, hg⟩ := DataW.trod_struct Tryd.underlying38 h
  rw [cellsAct] at hc
  match cs, hc, ys, hlen with
  | [c0, c1, c2, c3, c4, c5, c6], _, [y0, y1, y2], _ =>
    have g0 := hg 0 _ rfl
    have g1 := hg 1 _ rfl
    have g2 := hg 2 _ rfl
    simp [cellsInt, cellsOp, cellsAnswer] at g0 g1 g2
    obtain ⟨a, e0, _⟩ := DataW.trod_int Tryd.underlying3 g0
    obtain ⟨o, e1⟩ := open_op g1
    obtain ⟨p, q, e2⟩ := open_ans g2
    simp [POp.cells] at e0 e1 e2
    obtain ⟨rfl, rfl, rfl, rfl⟩ := e1
    obtain ⟨rfl, rfl⟩ := e2
    subst e0
    exact ⟨⟨a, o, p, q⟩, rfl⟩

set_option maxRecDepth 100000 in
theorem open_acts {fuel : Nat} {cs : List Value} {x : DataW H × List MemPlace} (h : DataW.trod enc Tryd.prog W base spare held fuel 22 cs = some x) :
    ∃ (A : Option Addr) (c : Nat) (l : List PAct), cs = [.slice A l.length c] ∧ Sl W W.heap.size 7 A l.length (acells l) ∧ l.length ≤ 9223372036854775807 := by
  rcases open_slice Tryd.underlying22 h with ⟨rfl, _⟩ | ⟨a, len, cap, m, n, D, Pl, rfl, _, hlc, hcm, hm, _, hel⟩
  · exact ⟨none, 0, [], rfl, Sl.none_, by simp⟩
  · have hlm : len ≤ m := by rw [hm]; split <;> omega
    obtain ⟨l, hl, hp⟩ := list_of (p := fun i (t : PAct) => ∀ j, j < 7 → W.cell? ((a.add (i * 7)).add j) = t.cells[j]?) len (fun i hi => by
      obtain ⟨cs', hc, ht⟩ := hel i (by omega)
      rw [cellsAct] at hc
      obtain ⟨t, rfl⟩ := open_act ht
      obtain ⟨_, _, hat⟩ := World.cells?_some hc
      exact ⟨t, fun j hj => hat j hj⟩)
    refine ⟨some a, cap, l, by rw [hl], ⟨by rw [acells_length], fun hpos => ?_⟩, by rw [hl]; have := le_len hcm; omega⟩
    have h0 := hp 0 hpos 0 (by omega)
    have h00 : W.cell? ((a.add (0 * 7)).add 0) = some (.int .i64 (l[0]).kind) := h0
    rw [add_add, show 0 * 7 + 0 = 0 from rfl] at h00
    obtain ⟨b, off, rfl⟩ := plain_addr h00
    have hbl := World.block_lt_of_cell? W _ h00
    refine ⟨b, off, rfl, by simpa [Addr.add] using hbl, fun j u hu => ?_⟩
    have hjl : j < l.length * 7 := by
      have := (List.getElem?_eq_some_iff.1 hu).1
      rwa [acells_length] at this
    have hq : j / 7 < l.length := by omega
    have h1 := hp (j / 7) hq (j % 7) (by omega)
    rw [add_add, show j / 7 * 7 + j % 7 = j from by omega, add_plain] at h1
    rw [h1, ← acells_get l (j / 7) hq (j % 7) (by omega), show j / 7 * 7 + j % 7 = j from by omega]
    exact hu
set_option maxRecDepth 100000 in
theorem acts_arg {b0 : Nat} {v : Value} {d : DataW H} {p : List MemPlace} (hv : Value.okWide Tryd.prog W .any b0 22 v) (h : DataW.Trod enc Tryd.prog W base spare held 22 v d p) :
    ∃ (A : Option Addr) (c : Nat) (l : List PAct), v = .slice A l.length c ∧ Sl W W.heap.size 7 A l.length (acells l) ∧ l.length ≤ 9223372036854775807 := by
  obtain ⟨fuel, hf⟩ := h
  obtain ⟨A, c, l, hc, hs, hl⟩ := open_acts hf
  obtain ⟨A', n', c', rfl⟩ := okWide_slice Tryd.underlying22 hv
  simp [Value.cells] at hc
  obtain ⟨rfl, rfl, rfl⟩ := hc
  exact ⟨A', c', l, rfl, hs, hl⟩
end
end Go.Proofs.YtlfbgpncdahglaaDoor
