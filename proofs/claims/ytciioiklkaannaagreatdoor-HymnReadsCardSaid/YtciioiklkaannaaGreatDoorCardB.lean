/- A script as an argument: what its reading gives; every argument reads behind the call as it read before. -/
import Derived.Test.YtciioiklkaannaaGreatDoorCardA
import Derived.Test.YtciioiklkaannaaGreatDoorParseF
import Derived.WideKeyArgs
import Derived.Carry
import Derived.Deep.Slices
namespace Go.Proofs.YtciioiklkaannaaGreatDoor
open Go.ChangeShapes Go.WideShapes Go.ChangeAt Go.RowKit Go.Deep
set_option linter.unusedSimpArgs false
set_option linter.unusedVariables false
set_option linter.unusedSectionVars false

theorem laidOut : laidOutB Tryz.prog = true := by kernel_rfl

section
variable {H : Type} {enc : TypeId × Value → H}
theorem trodAll_stays {P : Program} (hl : laidOutB P = true) {W W' : World} {sp : Nat → Bool} (hb : Below W.heap.size W W') :
    ∀ {ts : List TypeId} {vs : List Value} {ds : List (DataW H)} {ps : List MemPlace}, (∀ t ∈ ts, P.readableRec t = true ∧ t < P.types.size) → DataW.TrodAll enc P W 0 (fun _ => true) true ts vs ds ps →
      (∀ x ∈ ps, x.block < W.heap.size) → (∀ x ∈ ps, sp x.block = true) → DataW.TrodAll enc P W' 0 sp true ts vs ds ps
  | [], [], [], _, _, h, _, _ => h
  | [], [], _ :: _, _, _, h, _, _ => h.elim
  | [], _ :: _, _, _, _, h, _, _ => h.elim
  | _ :: _, [], _, _, _, h, _, _ => h.elim
  | _ :: _, _ :: _, [], _, _, h, _, _ => h.elim
  | t :: ts, v :: vs, d :: ds, ps, hr, h, hlt, hsp => by
    obtain ⟨p, q, h1, h2, rfl⟩ := h
    refine ⟨p, q, ?_, trodAll_stays hl hb (fun t ht => hr t (by simp [ht])) h2 (fun x hx => hlt x (by simp [hx])) (fun x hx => hsp x (by simp [hx])), rfl⟩
    exact WideElems.Trod_stays hl (hr t (by simp)).1 (hr t (by simp)).2 h1 (fun x hx => hb.same (hlt x (by simp [hx]))) (fun x hx => hsp x (by simp [hx]))

theorem list_of {α : Type} {p : Nat → α → Prop} : ∀ (n : Nat), (∀ i, i < n → ∃ t, p i t) → ∃ l : List α, l.length = n ∧ ∀ i (h : i < l.length), p i l[i]
  | 0, _ => ⟨[], rfl, fun i h => by simp at h⟩
  | n + 1, h => by
    obtain ⟨l, hl, hp⟩ := list_of n (fun i hi => h i (by omega))
    obtain ⟨t, ht⟩ := h n (by omega)
    refine ⟨l ++ [t], by simp [hl], fun i hi => ?_⟩
    by_cases e : i < l.length
    · rw [List.getElem_append_left e]; exact hp i e
    · have : i = n := by simp at hi; omega
      subst this
      rw [List.getElem_append_right (by omega)]
      simpa [hl] using ht

theorem cellsTask : Tryz.prog.cellsOf 53 = 5 := by kernel_rfl
theorem cellsOp : Tryz.prog.cellsOf 29 = 4 := by kernel_rfl
theorem cellsInt : Tryz.prog.cellsOf 3 = 1 := by kernel_rfl
theorem cellsCfg : Tryz.prog.cellsOf 23 = 5 := by kernel_rfl
theorem cellsScr : Tryz.prog.cellsOf 27 = 7 := by kernel_rfl
theorem cellsTasks : Tryz.prog.cellsOf 24 = 1 := by kernel_rfl
theorem cellsInts : Tryz.prog.cellsOf 25 = 1 := by kernel_rfl

variable {W : World} {base : Nat} {spare : Nat → Bool} {held : Bool}
set_option maxRecDepth 100000 in
theorem open_op {fuel : Nat} {cs : List Value} {x : DataW H × List MemPlace} (h : DataW.trod enc Tryz.prog W base spare held fuel 29 cs = some x) : ∃ o : POp, cs = o.cells := by
  obtain ⟨ys, n, _, _, hc, hlen, hg⟩ := DataW.trod_struct Tryz.underlying29 h
  rw [cellsOp] at hc
  match cs, hc, ys, hlen with
  | [c0, c1, c2, c3], _, [y0, y1, y2, y3], _ =>
    have g0 := hg 0 _ rfl
    have g1 := hg 1 _ rfl
    have g2 := hg 2 _ rfl
    have g3 := hg 3 _ rfl
    simp [cellsInt] at g0 g1 g2 g3
    obtain ⟨a, e0, _⟩ := DataW.trod_int Tryz.underlying3 g0
    obtain ⟨b, e1, _⟩ := DataW.trod_int Tryz.underlying3 g1
    obtain ⟨c, e2, _⟩ := DataW.trod_int Tryz.underlying3 g2
    obtain ⟨d, e3, _⟩ := DataW.trod_int Tryz.underlying3 g3
    simp at e0 e1 e2 e3
    subst e0 e1 e2 e3
    exact ⟨⟨a, b, c, d⟩, rfl⟩
set_option maxRecDepth 100000 in
theorem open_task {fuel : Nat} {cs : List Value} {x : DataW H × List MemPlace} (h : DataW.trod enc Tryz.prog W base spare held fuel 53 cs = some x) : ∃ t : PTask, cs = t.cells := by
  obtain ⟨ys, n, _, _, hc, hlen, hg⟩ := DataW.trod_struct Tryz.underlying53 h
  rw [cellsTask] at hc
  match cs, hc, ys, hlen with
  | [c0, c1, c2, c3, c4], _, [y0, y1], _ =>
    have g0 := hg 0 _ rfl
    have g1 := hg 1 _ rfl
    simp [cellsInt, cellsOp] at g0 g1
    obtain ⟨a, e0, _⟩ := DataW.trod_int Tryz.underlying3 g0
    obtain ⟨o, e1⟩ := open_op g1
    simp [POp.cells] at e0 e1
    obtain ⟨rfl, rfl, rfl, rfl⟩ := e1
    subst e0
    exact ⟨⟨a, o⟩, rfl⟩

theorem plain_addr {a : Addr} {v : Value} (h : W.cell? (a.add 0) = some v) : ∃ b off, a = ⟨b, off, none⟩ := by
  obtain ⟨b, off, spot⟩ := a
  have hspot : spot = none := by simpa [Addr.add] using World.cell?_spot h
  subst hspot
  exact ⟨b, off, rfl⟩

set_option maxRecDepth 100000 in
theorem open_tasks {fuel : Nat} {cs : List Value} {x : DataW H × List MemPlace} (h : DataW.trod enc Tryz.prog W base spare held fuel 24 cs = some x) :
    ∃ (A : Option Addr) (c : Nat) (l : List PTask), cs = [.slice A l.length c] ∧ Sl W W.heap.size 5 A l.length (tcells l) ∧ l.length ≤ 9223372036854775807 := by
  rcases open_slice Tryz.underlying24 h with ⟨rfl, _⟩ | ⟨a, len, cap, m, n, D, Pl, rfl, _, hlc, hcm, hm, _, hel⟩
  · exact ⟨none, 0, [], rfl, Sl.none_, by simp⟩
  · have hlm : len ≤ m := by rw [hm]; split <;> omega
    obtain ⟨l, hl, hp⟩ := list_of (p := fun i (t : PTask) => ∀ j, j < 5 → W.cell? ((a.add (i * 5)).add j) = t.cells[j]?) len (fun i hi => by
      obtain ⟨cs', hc, ht⟩ := hel i (by omega)
      rw [cellsTask] at hc
      obtain ⟨t, rfl⟩ := open_task ht
      obtain ⟨_, _, hat⟩ := World.cells?_some hc
      exact ⟨t, fun j hj => hat j hj⟩)
    refine ⟨some a, cap, l, by rw [hl], ⟨by rw [tcells_length], fun hpos => ?_⟩, by rw [hl]; have := le_len hcm; omega⟩
    have h0 := hp 0 hpos 0 (by omega)
    have h00 : W.cell? ((a.add (0 * 5)).add 0) = some (.int .i64 (l[0]).thread) := h0
    rw [add_add, show 0 * 5 + 0 = 0 from rfl] at h00
    obtain ⟨b, off, rfl⟩ := plain_addr h00
    have hbl := World.block_lt_of_cell? W _ h00
    refine ⟨b, off, rfl, by simpa [Addr.add] using hbl, fun j u hu => ?_⟩
    have hjl : j < l.length * 5 := by
      have := (List.getElem?_eq_some_iff.1 hu).1
      rwa [tcells_length] at this
    have hq : j / 5 < l.length := by omega
    have h1 := hp (j / 5) hq (j % 5) (by omega)
    rw [add_add, show j / 5 * 5 + j % 5 = j from by omega, add_plain] at h1
    rw [h1, ← tcells_get l (j / 5) hq (j % 5) (by omega), show j / 5 * 5 + j % 5 = j from by omega]
    exact hu
set_option maxRecDepth 100000 in
theorem open_nums {fuel : Nat} {cs : List Value} {x : DataW H × List MemPlace} (h : DataW.trod enc Tryz.prog W base spare held fuel 25 cs = some x) :
    ∃ (A : Option Addr) (c : Nat) (l : List Int), cs = [.slice A l.length c] ∧ Sl W W.heap.size 1 A l.length (icells l) ∧ l.length ≤ c ∧ c ≤ 9223372036854775807 := by
  rcases open_slice Tryz.underlying25 h with ⟨rfl, _⟩ | ⟨a, len, cap, m, n, D, Pl, rfl, _, hlc, hcm, hm, _, hel⟩
  · exact ⟨none, 0, [], rfl, Sl.none_, by simp, by simp⟩
  · have hlm : len ≤ m := by rw [hm]; split <;> omega
    obtain ⟨l, hl, hp⟩ := list_of (p := fun i (t : Int) => W.cell? (a.add i) = some (.int .i64 t)) len (fun i hi => by
      obtain ⟨cs', hc, ht⟩ := hel i (by omega)
      rw [cellsInt] at hc
      obtain ⟨k, rfl, _⟩ := DataW.trod_int Tryz.underlying3 ht
      obtain ⟨_, _, hat⟩ := World.cells?_some hc
      have := hat 0 (by omega)
      rw [add_add] at this
      exact ⟨k, by simpa using this⟩)
    refine ⟨some a, cap, l, by rw [hl], ⟨by simp [icells], fun hpos => ?_⟩, by rw [hl]; exact hlc, le_len hcm⟩
    have h00 := hp 0 hpos
    obtain ⟨b, off, rfl⟩ := plain_addr h00
    have hbl := World.block_lt_of_cell? W _ h00
    refine ⟨b, off, rfl, by simpa [Addr.add] using hbl, fun j u hu => ?_⟩
    have hjl : j < l.length := by
      have := (List.getElem?_eq_some_iff.1 hu).1
      rwa [icells_length] at this
    have h1 := hp j hjl
    rw [add_plain] at h1
    rw [h1, ← icells_get l j hjl]
    exact hu

set_option maxRecDepth 100000 in
theorem open_script {b0 : Nat} {v : Value} {d : DataW H} {p : List MemPlace} (hv : Value.okWide Tryz.prog W .any b0 27 v) (h : DataW.Trod enc Tryz.prog W base spare held 27 v d p) :
    ∃ (x : PScr) (A : Option Addr) (c : Nat) (A' : Option Addr) (c' : Nat), v = x.v A c A' c' ∧ SA W x A c A' c' := by
  obtain ⟨cs, rfl, hsz⟩ := okWide_struct Tryz.underlying27 hv
  obtain ⟨l⟩ := cs
  match l, hsz.trans cellsScr with
  | [c0, c1, c2, c3, c4, c5, c6], _ =>
    obtain ⟨fuel, hf⟩ := h
    obtain ⟨ys, n, _, _, _, hlen, hg⟩ := DataW.trod_struct Tryz.underlying27 hf
    match ys, hlen with
    | [y0, y1, y2], _ =>
      have g0 := hg 0 _ rfl
      have g1 := hg 1 _ rfl
      have g2 := hg 2 _ rfl
      simp [cellsCfg, cellsTasks, cellsInts] at g0 g1 g2
      obtain ⟨zs, n', _, _, _, hlen', hg'⟩ := DataW.trod_struct Tryz.underlying23 g0
      match zs, hlen' with
      | [z0, z1, z2, z3, z4], _ =>
        have k0 := hg' 0 _ rfl
        have k1 := hg' 1 _ rfl
        have k2 := hg' 2 _ rfl
        have k3 := hg' 3 _ rfl
        have k4 := hg' 4 _ rfl
        simp [cellsInt] at k0 k1 k2 k3 k4
        obtain ⟨q0, e0, _⟩ := DataW.trod_int Tryz.underlying3 k0
        obtain ⟨q1, e1, _⟩ := DataW.trod_int Tryz.underlying3 k1
        obtain ⟨q2, e2, _⟩ := DataW.trod_int Tryz.underlying3 k2
        obtain ⟨q3, e3, _⟩ := DataW.trod_int Tryz.underlying3 k3
        obtain ⟨q4, e4, _⟩ := DataW.trod_int Tryz.underlying3 k4
        obtain ⟨A, c, ops, f5, so, lo⟩ := open_tasks g1
        obtain ⟨A', c', picks, f6, sp, lp, lc⟩ := open_nums g2
        simp [Value.cells] at e0 e1 e2 e3 e4 f5 f6
        subst e0 e1 e2 e3 e4 f5 f6
        exact ⟨⟨q0, q1, q2, q3, q4, ops, picks⟩, A, c, A', c', rfl, so, sp, lo, lp, lc⟩
end
end Go.Proofs.YtciioiklkaannaaGreatDoor
