/- Operations, answers, numbers as arguments: what their reading gives; every argument reads behind the call as it read before. -/
import Derived.Test.YtlfbgpncdahglaaDoorCardA
import Derived.Test.YtlfbgpncdahglaaDoorLaws
import Derived.WideKeyArgs
import Derived.Carry
import Derived.Deep.Slices
namespace Go.Proofs.YtlfbgpncdahglaaDoor
open Go.ChangeShapes Go.WideShapes Go.ChangeAt Go.RowKit Go.Deep
set_option linter.unusedSimpArgs false
set_option linter.unusedVariables false
set_option linter.unusedSectionVars false

theorem laidOut : laidOutB Tryd.prog = true := by kernel_rfl

section
variable {H : Type} {enc : TypeId × Value → H}
theorem trodAll_stays {P : Program} (hl : laidOutB P = true) {W W' : World} {sp : Nat → Bool} (hb : Below W.heap.size W W') :
    ∀ {ts : List TypeId} {vs : List Value} {ds : List (DataW H)} {ps : List MemPlace}, (∀ t ∈ ts, P.readableRec t = true ∧ t < P.types.size) → DataW.TrodAll enc P W 0 (fun _ => true) true ts vs ds ps →
      (∀ x ∈ ps, x.block < W.heap.size) → (∀ x ∈ ps, sp x.block = true) → DataW.TrodAll enc P W' 0 sp true ts vs ds ps
  | [], [], [], _, _, h, _, _ => h
  | [], [], _ :: _, _, _, h, _, _ => h.elim
  | [], _ :: _, _, _, _, h, _, _ => h.elim
  | _ :: _, [], _, _, _, h, _, _ => h.elim
  | _ :: _, _ :: _, [], _, _, h, _, _ => h.elim
  | t :: ts, v :: vs, d :: ds, ps, hr, h, hlt, hsp => by
    obtain ⟨p, q, h1, h2, rfl⟩ := h
    refine ⟨p, q, ?_, trodAll_stays hl hb (fun t ht => hr t (by simp [ht])) h2 (fun x hx => hlt x (by simp [hx])) (fun x hx => hsp x (by simp [hx])), rfl⟩
    exact WideElems.Trod_stays hl (hr t (by simp)).1 (hr t (by simp)).2 h1 (fun x hx => hb.same (hlt x (by simp [hx]))) (fun x hx => hsp x (by simp [hx]))

theorem list_of {α : Type} {p : Nat → α → Prop} : ∀ (n : Nat), (∀ i, i < n → ∃ t, p i t) → ∃ l : List α, l.length = n ∧ ∀ i (h : i < l.length), p i l[i]
  | 0, _ => ⟨[], rfl, fun i h => by simp at h⟩
  | n + 1, h => by
    obtain ⟨l, hl, hp⟩ := list_of n (fun i hi => h i (by omega))
    obtain ⟨t, ht⟩ := h n (by omega)
    refine ⟨l ++ [t], by simp [hl], fun i hi => ?_⟩
    by_cases e : i < l.length
    · rw [List.getElem_append_left e]; exact hp i e
    · have : i = n := by simp at hi; omega
      subst this
      rw [List.getElem_append_right (by omega)]
      simpa [hl] using ht

theorem cellsOp : Tryd.prog.cellsOf 34 = 4 := by kernel_rfl
theorem cellsInt : Tryd.prog.cellsOf 3 = 1 := by kernel_rfl
theorem cellsAnswer : Tryd.prog.cellsOf 36 = 2 := by kernel_rfl

variable {W : World} {base : Nat} {spare : Nat → Bool} {held : Bool}
set_option maxRecDepth 100000 in
theorem open_op {fuel : Nat} {cs : List Value} {x : DataW H × List MemPlace} (h : DataW.trod enc Tryd.prog W base spare held fuel 34 cs = some x) : ∃ o : POp, cs = o.cells := by
  obtain ⟨ys, n, _, _, hc, hlen, hg⟩ := DataW.trod_struct Tryd.underlying34 h
  rw [cellsOp] at hc
  match cs, hc, ys, hlen with
  | [c0, c1, c2, c3], _, [y0, y1, y2, y3], _ =>
    have g0 := hg 0 _ rfl
    have g1 := hg 1 _ rfl
    have g2 := hg 2 _ rfl
    have g3 := hg 3 _ rfl
    simp [cellsInt] at g0 g1 g2 g3
    obtain ⟨a, e0, _⟩ := DataW.trod_int Tryd.underlying3 g0
    obtain ⟨b, e1, _⟩ := DataW.trod_int Tryd.underlying3 g1
    obtain ⟨c, e2, _⟩ := DataW.trod_int Tryd.underlying3 g2
    obtain ⟨d, e3, _⟩ := DataW.trod_int Tryd.underlying3 g3
    simp at e0 e1 e2 e3
    subst e0 e1 e2 e3
    exact ⟨⟨a, b, c, d⟩, rfl⟩
theorem plain_addr {a : Addr} {v : Value} (h : W.cell? (a.add 0) = some v) : ∃ b off, a = ⟨b, off, none⟩ := by
  obtain ⟨b, off, spot⟩ := a
  have hspot : spot = none := by simpa [Addr.add] using World.cell?_spot h
  subst hspot
  exact ⟨b, off, rfl⟩

set_option maxRecDepth 100000 in
theorem open_ops {fuel : Nat} {cs : List Value} {x : DataW H × List MemPlace} (h : DataW.trod enc Tryd.prog W base spare held fuel 56 cs = some x) :
    ∃ (A : Option Addr) (c : Nat) (l : List POp), cs = [.slice A l.length c] ∧ Sl W W.heap.size 4 A l.length (ocells l) ∧ l.length ≤ 9223372036854775807 := by
  rcases open_slice Tryd.underlying56 h with ⟨rfl, _⟩ | ⟨a, len, cap, m, n, D, Pl, rfl, _, hlc, hcm, hm, _, hel⟩
  · exact ⟨none, 0, [], rfl, Sl.none_, by simp⟩
  · have hlm : len ≤ m := by rw [hm]; split <;> omega
    obtain ⟨l, hl, hp⟩ := list_of (p := fun i (t : POp) => ∀ j, j < 4 → W.cell? ((a.add (i * 4)).add j) = t.cells[j]?) len (fun i hi => by
      obtain ⟨cs', hc, ht⟩ := hel i (by omega)
      rw [cellsOp] at hc
      obtain ⟨t, rfl⟩ := open_op ht
      obtain ⟨_, _, hat⟩ := World.cells?_some hc
      exact ⟨t, fun j hj => hat j hj⟩)
    refine ⟨some a, cap, l, by rw [hl], ⟨by rw [ocells_length], fun hpos => ?_⟩, by rw [hl]; have := le_len hcm; omega⟩
    have h0 := hp 0 hpos 0 (by omega)
    have h00 : W.cell? ((a.add (0 * 4)).add 0) = some (.int .i64 (l[0]).kind) := h0
    rw [add_add, show 0 * 4 + 0 = 0 from rfl] at h00
    obtain ⟨b, off, rfl⟩ := plain_addr h00
    have hbl := World.block_lt_of_cell? W _ h00
    refine ⟨b, off, rfl, by simpa [Addr.add] using hbl, fun j u hu => ?_⟩
    have hjl : j < l.length * 4 := by
      have := (List.getElem?_eq_some_iff.1 hu).1
      rwa [ocells_length] at this
    have hq : j / 4 < l.length := by omega
    have h1 := hp (j / 4) hq (j % 4) (by omega)
    rw [add_add, show j / 4 * 4 + j % 4 = j from by omega, add_plain] at h1
    rw [h1, ← ocells_get l (j / 4) hq (j % 4) (by omega), show j / 4 * 4 + j % 4 = j from by omega]
    exact hu
set_option maxRecDepth 100000 in
theorem open_nums {fuel : Nat} {cs : List Value} {x : DataW H × List MemPlace} (h : DataW.trod enc Tryd.prog W base spare held fuel 48 cs = some x) :
    ∃ (A : Option Addr) (c : Nat) (l : List Int), cs = [.slice A l.length c] ∧ Sl W W.heap.size 1 A l.length (icells l) ∧ l.length ≤ 9223372036854775807 := by
  rcases open_slice Tryd.underlying48 h with ⟨rfl, _⟩ | ⟨a, len, cap, m, n, D, Pl, rfl, _, hlc, hcm, hm, _, hel⟩
  · exact ⟨none, 0, [], rfl, Sl.none_, by simp⟩
  · have hlm : len ≤ m := by rw [hm]; split <;> omega
    obtain ⟨l, hl, hp⟩ := list_of (p := fun i (t : Int) => W.cell? (a.add i) = some (.int .i64 t)) len (fun i hi => by
      obtain ⟨cs', hc, ht⟩ := hel i (by omega)
      rw [cellsInt] at hc
      obtain ⟨k, rfl, _⟩ := DataW.trod_int Tryd.underlying3 ht
      obtain ⟨_, _, hat⟩ := World.cells?_some hc
      have := hat 0 (by omega)
      rw [add_add] at this
      exact ⟨k, by simpa using this⟩)
    refine ⟨some a, cap, l, by rw [hl], ⟨by simp [icells], fun hpos => ?_⟩, by rw [hl]; have := le_len hcm; omega⟩
    have h00 := hp 0 hpos
    obtain ⟨b, off, rfl⟩ := plain_addr h00
    have hbl := World.block_lt_of_cell? W _ h00
    refine ⟨b, off, rfl, by simpa [Addr.add] using hbl, fun j u hu => ?_⟩
    have hjl : j < l.length := by
      have := (List.getElem?_eq_some_iff.1 hu).1
      rwa [icells_length] at this
    have h1 := hp j hjl
    rw [add_plain] at h1
    rw [h1, ← icells_get l j hjl]
    exact hu

set_option maxRecDepth 100000 in
theorem open_answer {b0 : Nat} {v : Value} {d : DataW H} {p : List MemPlace} (hv : Value.okWide Tryd.prog W .any b0 36 v) (h : DataW.Trod enc Tryd.prog W base spare held 36 v d p) :
    ∃ a b : Int, v = .agg #[.int .i64 a, .int .i64 b] := by
  obtain ⟨cs, rfl, hsz⟩ := okWide_struct Tryd.underlying36 hv
  obtain ⟨l⟩ := cs
  match l, hsz.trans cellsAnswer with
  | [c0, c1], _ =>
    obtain ⟨fuel, hf⟩ := h
    obtain ⟨ys, n, _, _, _, hlen, hg⟩ := DataW.trod_struct Tryd.underlying36 hf
    match ys, hlen with
    | [y0, y1], _ =>
      have g0 := hg 0 _ rfl
      have g1 := hg 1 _ rfl
      simp [cellsInt] at g0 g1
      obtain ⟨q0, e0, _⟩ := DataW.trod_int Tryd.underlying3 g0
      obtain ⟨q1, e1, _⟩ := DataW.trod_int Tryd.underlying3 g1
      simp [Value.cells] at e0 e1
      subst e0 e1
      exact ⟨q0, q1, rfl⟩
set_option maxRecDepth 100000 in
theorem ops_arg {b0 : Nat} {v : Value} {d : DataW H} {p : List MemPlace} (hv : Value.okWide Tryd.prog W .any b0 56 v) (h : DataW.Trod enc Tryd.prog W base spare held 56 v d p) :
    ∃ (A : Option Addr) (c : Nat) (l : List POp), v = .slice A l.length c ∧ Sl W W.heap.size 4 A l.length (ocells l) ∧ l.length ≤ 9223372036854775807 := by
  obtain ⟨fuel, hf⟩ := h
  obtain ⟨A, c, l, hc, hs, hl⟩ := open_ops hf
  obtain ⟨A', n', c', rfl⟩ := okWide_slice Tryd.underlying56 hv
  simp [Value.cells] at hc
  obtain ⟨rfl, rfl, rfl⟩ := hc
  exact ⟨A', c', l, rfl, hs, hl⟩
set_option maxRecDepth 100000 in
theorem nums_arg {b0 : Nat} {v : Value} {d : DataW H} {p : List MemPlace} (hv : Value.okWide Tryd.prog W .any b0 48 v) (h : DataW.Trod enc Tryd.prog W base spare held 48 v d p) :
    ∃ (A : Option Addr) (c : Nat) (l : List Int), v = .slice A l.length c ∧ Sl W W.heap.size 1 A l.length (icells l) ∧ l.length ≤ 9223372036854775807 := by
  obtain ⟨fuel, hf⟩ := h
  obtain ⟨A, c, l, hc, hs, hl⟩ := open_nums hf
  obtain ⟨A', n', c', rfl⟩ := okWide_slice Tryd.underlying48 hv
  simp [Value.cells] at hc
  obtain ⟨rfl, rfl, rfl⟩ := hc
  exact ⟨A', c', l, rfl, hs, hl⟩
end
end Go.Proofs.YtlfbgpncdahglaaDoor
