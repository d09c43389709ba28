/- Reading a script: lots.Decode. -/
import Derived.Test.YthecbeejlpgdaaaDoorData
import Derived.Test.YthecbeejlpgdaaaDoorMem
import Derived.KernelRfl
import Derived.Deep.AppendLies
namespace Go.Proofs.YthecbeejlpgdaaaDoor
open Go Go.RowKit
set_option linter.unusedSimpArgs false
set_option linter.unusedVariables false
set_option linter.unusedSectionVars false

/-- The operation that the bytes from 6 + 4i on say. -/
def kindAt (st : Int) (b : Nat) : Int := (kindsOf st)[b % (kindsOf st).length]?.getD 0
def taskAt (s : ByteArray) (st th : Int) (i : Nat) : PTask :=
  ⟨(bat s (6 + 4 * i) : Int) % th, formOp st (kindAt st (bat s (7 + 4 * i))) (bat s (8 + 4 * i)) (bat s (9 + 4 * i))⟩
def pickAt (s : ByteArray) (th : Int) (n i : Nat) : Int := (bat s (6 + 4 * n + i) : Int) % th
def dSt (s : ByteArray) : Int := (bat s 0 : Int) % 5 + 1
def dEn (s : ByteArray) : Int := (bat s 1 : Int) % 5 + 1
def dTh (s : ByteArray) : Int := (bat s 2 : Int) % 6 + 1
def dSl (s : ByteArray) : Int := (bat s 3 : Int)
def dNo (s : ByteArray) : Int := (bat s 4 : Int) % 64 + 1
def dN (s : ByteArray) : Nat := bat s 5 % 65
def dP (s : ByteArray) : Nat := min (s.size - (6 + 4 * dN s)) 4096
def decOps (s : ByteArray) (k : Nat) : List PTask := (List.range k).map (taskAt s (dSt s) (dTh s))
def decPicks (s : ByteArray) (k : Nat) : List Int := (List.range k).map (pickAt s (dTh s) (dN s))
def dec (s : ByteArray) : PScr := ⟨dSt s, dEn s, dTh s, dSl s, dNo s, decOps s (dN s), decPicks s (dP s)⟩

def NextPost (s : ByteArray) (k b : Nat) (w : World) (e : Ending) (w' : World) : Prop :=
  e = .returned (.int .i64 (bat s k)) ∧ Bk w' b 55 #[.string (rest s (k + 1))] ∧ w.grownBy w' (some b) ∧ w'.heap.size = w.heap.size
theorem next_bk (s : ByteArray) (k b : Nat) (w : World) (h : Bk w b 55 #[.string (rest s k)]) :
    Calls Tryd.prog 24 #[.pointer (some ⟨b, 0, none⟩)] w (NextPost s k b w) :=
  (next_any s k ⟨b, 0, none⟩ w (by rw [h.cell]; rfl) (h.free 0)).mono fun e w' ⟨he, hw⟩ => by
    subst hw
    exact ⟨he, by simpa using h.set_ 0 (.string (rest s (k + 1))), grown_setCell _ _ _ _, by simp [World.setCell]⟩

/-- What lies in memory while a script is read. -/
structure DW (w wr : World) (s : ByteArray) (k : Nat) (xc : Array Value) : Prop where
  o : Bk wr w.heap.size 29 #[.int .i64 0, .int .i64 0, .int .i64 0, .int .i64 0, .int .i64 0, .slice none 0 0, .slice none 0 0]
  r : Bk wr (w.heap.size + 1) 55 #[.string (rest s k)]
  x : Bk wr (w.heap.size + 2) 29 xc
  below : Below w.heap.size w wr

theorem DW.next {w wr w' : World} {s : ByteArray} {k : Nat} {xc : Array Value} {e : Ending} (D : DW w wr s k xc) (h : NextPost s k (w.heap.size + 1) wr e w') :
    DW w w' s (k + 1) xc :=
  ⟨D.o.grown h.2.2.1 (by simp), h.2.1, D.x.grown h.2.2.1 (by simp), D.below.grown h.2.2.1 D.below.size (by simp)⟩
theorem DW.set_ {w wr : World} {s : ByteArray} {k : Nat} {xc : Array Value} (D : DW w wr s k xc) (i : Nat) (u : Value) :
    DW w (wr.setCell ⟨w.heap.size + 2, i, none⟩ u) s k (xc.setIfInBounds i u) :=
  ⟨D.o.far (by simp) u, D.r.far (by simp) u, D.x.set_ i u, D.below.setCell (by simp) u⟩
theorem DW.more {w wr w' : World} {s : ByteArray} {k : Nat} {xc : Array Value} (D : DW w wr s k xc) (h : Below wr.heap.size wr w') : DW w w' s k xc :=
  ⟨D.o.belowAll h, D.r.belowAll h, D.x.belowAll h, D.below.trans (h.mono D.below.size)⟩

def xcell (s : ByteArray) (v v' : Value) : Array Value := #[.int .i64 (dSt s), .int .i64 (dEn s), .int .i64 (dTh s), .int .i64 (dSl s), .int .i64 (dNo s), v, v']
def kcells (s : ByteArray) : Array Value := ((kindsOf (dSt s)).map (Value.int .i64)).toArray

/-- In the first loop's round k, the reader at byte p. -/
structure L1 (w wr : World) (s : ByteArray) (kb p k : Nat) (v : Value) : Prop where
  d : DW w wr s p (xcell s v (.slice none 0 0))
  kk : Bk wr kb 3 (kcells s)
  own : wr.ownsRow (kb + 1) 41 5 v k (tcells (decOps s k))
  kb : w.heap.size + 2 < kb

theorem DW.drew {w wr : World} {s : ByteArray} {k : Nat} {xc : Array Value} (D : DW w wr s k xc) : DW w wr.drew s k xc := ⟨D.o, D.r, D.x, D.below.drew⟩
theorem L1.drew {w wr : World} {s : ByteArray} {kb p k : Nat} {v : Value} (L : L1 w wr s kb p k v) : L1 w wr.drew s kb p k v := ⟨L.d.drew, L.kk, L.own, L.kb⟩
theorem L1.next {w wr w' : World} {s : ByteArray} {kb p k : Nat} {v : Value} {e : Ending} (L : L1 w wr s kb p k v) (h : NextPost s p (w.heap.size + 1) wr e w') : L1 w w' s kb (p + 1) k v :=
  ⟨L.d.next h, L.kk.grown h.2.2.1 (by have := L.kb; simp; omega), L.own.kept h.2.2.1 (by
    cases hv : v.ownBlock with
    | none => simp
    | some g => right; intro e; have := (L.own.lt g hv).1; have := L.kb; simp at e; omega), L.kb⟩
theorem L1.more {w wr w' : World} {s : ByteArray} {kb p k : Nat} {v : Value} (L : L1 w wr s kb p k v) (h : Below wr.heap.size wr w') : L1 w w' s kb p k v :=
  ⟨L.d.more h, L.kk.belowAll h, own_below L.own h, L.kb⟩
theorem L1.th {w wr : World} {s : ByteArray} {kb p k : Nat} {v : Value} (L : L1 w wr s kb p k v) : wr.cell? ⟨w.heap.size + 1 + 1, 2, none⟩ = some (.int .i64 (dTh s)) := by
  have := L.d.x.cell 2; simpa [xcell] using this
theorem L1.st {w wr : World} {s : ByteArray} {kb p k : Nat} {v : Value} (L : L1 w wr s kb p k v) : wr.cell? ⟨w.heap.size + 1 + 1, 0, none⟩ = some (.int .i64 (dSt s)) := by
  have := L.d.x.cell 0; simpa [xcell] using this
theorem L1.ops {w wr : World} {s : ByteArray} {kb p k : Nat} {v : Value} (L : L1 w wr s kb p k v) : wr.cell? ⟨w.heap.size + 1 + 1, 5, none⟩ = some v := by
  have := L.d.x.cell 5; simpa [xcell] using this
theorem L1.kind {w wr : World} {s : ByteArray} {kb p k : Nat} {v : Value} (L : L1 w wr s kb p k v) (b : Nat) : wr.cell? ⟨kb, b % (kindsOf (dSt s)).length, none⟩ = some (.int .i64 (kindAt (dSt s) b)) := by
  have h := L.kk.cell (b % (kindsOf (dSt s)).length)
  have hst : dSt s = 1 ∨ dSt s = 2 ∨ dSt s = 3 ∨ dSt s = 4 ∨ dSt s = 5 := by unfold dSt; omega
  rw [h]
  unfold kcells kindAt
  rcases hst with e | e | e | e | e <;> rw [e]
  · have : b % 3 < 3 := Nat.mod_lt _ (by omega)
    generalize hc : b % 3 = c at this
    simp [kindsOf, hc]
    match c, this with
    | 0, _ => rfl
    | 1, _ => rfl
    | 2, _ => rfl
  · have : b % 2 < 2 := Nat.mod_lt _ (by omega)
    generalize hc : b % 2 = c at this
    simp [kindsOf, hc]
    match c, this with
    | 0, _ => rfl
    | 1, _ => rfl
  all_goals
    have : b % 3 < 3 := Nat.mod_lt _ (by omega)
    generalize hc : b % 3 = c at this
    simp [kindsOf, hc]
    match c, this with
    | 0, _ => rfl
    | 1, _ => rfl
    | 2, _ => rfl

theorem decOps_succ (s : ByteArray) (k : Nat) : decOps s (k + 1) = decOps s k ++ [taskAt s (dSt s) (dTh s) k] := by
  simp [decOps, List.range_succ]
theorem decOps_length (s : ByteArray) (k : Nat) : (decOps s k).length = k := by simp [decOps]
theorem tcells_append (a b : List PTask) : tcells (a ++ b) = tcells a ++ tcells b := by simp [tcells]
/-- What the four bytes from p on say. -/
def taskOf (s : ByteArray) (p : Nat) : PTask := ⟨(bat s p : Int) % dTh s, formOp (dSt s) (kindAt (dSt s) (bat s (p + 1))) (bat s (p + 1 + 1)) (bat s (p + 1 + 1 + 1))⟩
theorem taskOf_at (s : ByteArray) (k : Nat) : taskOf s (6 + 4 * k) = taskAt s (dSt s) (dTh s) k := by
  unfold taskOf taskAt
  rw [show 6 + 4 * k + 1 = 7 + 4 * k from by omega, show 7 + 4 * k + 1 = 8 + 4 * k from by omega, show 8 + 4 * k + 1 = 9 + 4 * k from by omega]
theorem L1.push {w w12 w13 : World} {s : ByteArray} {kb p k : Nat} {v v' : Value} (L : L1 w w12 s kb p k v) (o : Obj)
    (hown : w13.ownsRow (kb + 1) 41 5 v' (k + 1) (tcells (decOps s k) ++ (taskOf s (6 + 4 * k)).cells)) (hg : (w12.alloc o).grownBy w13 v.ownBlock) (hp : p = 6 + 4 * k + 4) :
    L1 w (w13.setCell ⟨w.heap.size + 2, 5, none⟩ v') s kb (6 + 4 * (k + 1)) (k + 1) v' := by
  have hkb := L.kb
  have hne : ∀ g, g ≤ kb → some g ≠ v.ownBlock := by
    intro g hgk e
    have := (L.own.lt g e.symm).1
    omega
  have hs := L.d.below.size
  have hlt := L.kk.lt
  have Dx : Bk w13 (w.heap.size + 2) 29 (xcell s v (.slice none 0 0)) := (L.d.x.alloc o).grown hg (hne _ (by omega))
  have D : DW w w13 s p (xcell s v (.slice none 0 0)) :=
    ⟨(L.d.o.alloc o).grown hg (hne _ (by omega)), (L.d.r.alloc o).grown hg (hne _ (by omega)), Dx,
      (L.d.below.alloc hs o).grown hg (by simp; omega) (fun g e => by have := (L.own.lt g e).1; omega)⟩
  have D2 := D.set_ 5 v'
  have e : (xcell s v (.slice none 0 0)).setIfInBounds 5 v' = xcell s v' (.slice none 0 0) := rfl
  rw [e] at D2
  refine ⟨by rw [show 6 + 4 * (k + 1) = p from by omega]; exact D2, ((L.kk.alloc o).grown hg (hne _ (by omega))).far (by simp; omega) _, ?_, hkb⟩
  have h2 := own_setCell hown (a := ⟨w.heap.size + 2, 5, none⟩) (by simp; omega) v'
  rw [decOps_succ, tcells_append, ← taskOf_at]
  simpa [tcells] using h2

theorem L1.xAfter {w w12 w13 : World} {s : ByteArray} {kb p k : Nat} {v : Value} (L : L1 w w12 s kb p k v) (o : Obj) (hg : (w12.alloc o).grownBy w13 v.ownBlock) :
    w13.cell? ⟨w.heap.size + 1 + 1, 5, none⟩ = some v ∧ w13.cell? ⟨w.heap.size + 1 + 1, 0, none⟩ = some (.int .i64 (dSt s)) ∧ w13.frozen? ⟨w.heap.size + 1 + 1, 5, none⟩ = false := by
  have hkb := L.kb
  have Dx : Bk w13 (w.heap.size + 2) 29 (xcell s v (.slice none 0 0)) := (L.d.x.alloc o).grown hg (by intro e; have := (L.own.lt _ e.symm).1; omega)
  exact ⟨by have := Dx.cell 5; simpa [xcell] using this, by have := Dx.cell 0; simpa [xcell] using this, Dx.free 5⟩

theorem own_apart {w : World} {b b' : Nat} {e e' : TypeId} {sz sz' n n' : Nat} {v v' : Value} {xs xs' : List Value} (h : w.ownsRow b e sz v n xs) (h' : w.ownsRow b' e' sz' v' n' xs') (hne : e ≠ e') :
    v.ownBlock = none ∨ v.ownBlock ≠ v'.ownBlock := by
  rcases h.2 with ⟨rfl, _⟩ | ⟨g, cap, cur, rfl, _, hh, _⟩
  · left; rfl
  · right
    rcases h'.2 with ⟨rfl, _⟩ | ⟨g', cap', cur', rfl, _, hh', _⟩
    · simp [Value.ownBlock]
    · simp only [Value.ownBlock, Option.map_some, ne_eq, Option.some.injEq]
      intro e1
      subst e1
      rw [hh] at hh'
      simp at hh'
      exact hne hh'.2

/-- In the second loop, j picks read. -/
structure L2 (w wr : World) (s : ByteArray) (kb p j : Nat) (v v' : Value) : Prop where
  d : DW w wr s p (xcell s v v')
  own : wr.ownsRow (kb + 1) 41 5 v (dN s) (tcells (decOps s (dN s)))
  own' : wr.ownsRow (kb + 1) 3 1 v' j (icells (decPicks s j))
  kl : kb < wr.heap.size
  kb : w.heap.size + 2 < kb

theorem L1.two {w wr : World} {s : ByteArray} {kb p : Nat} {v : Value} (L : L1 w wr s kb p (dN s) v) : L2 w wr s kb p 0 v (.slice none 0 0) :=
  ⟨L.d, L.own, ⟨rfl, .inl ⟨rfl, rfl⟩⟩, L.kk.lt, L.kb⟩
theorem L2.drew {w wr : World} {s : ByteArray} {kb p j : Nat} {v v' : Value} (L : L2 w wr s kb p j v v') : L2 w wr.drew s kb p j v v' := ⟨L.d.drew, L.own, L.own', L.kl, L.kb⟩
theorem L2.next {w wr w' : World} {s : ByteArray} {kb p j : Nat} {v v' : Value} {e : Ending} (L : L2 w wr s kb p j v v') (h : NextPost s p (w.heap.size + 1) wr e w') : L2 w w' s kb (p + 1) j v v' := by
  have aux : ∀ {e sz n x xs}, wr.ownsRow (kb + 1) e sz x n xs → w'.ownsRow (kb + 1) e sz x n xs := fun {e sz n x xs} ho => ho.kept h.2.2.1 (by
    cases hv : x.ownBlock with
    | none => simp
    | some g => right; intro e; have := (ho.lt g hv).1; have := L.kb; simp at e; omega)
  exact ⟨L.d.next h, aux L.own, aux L.own', by have := h.2.2.1.size; have := L.kl; omega, L.kb⟩
theorem L2.th {w wr : World} {s : ByteArray} {kb p j : Nat} {v v' : Value} (L : L2 w wr s kb p j v v') : wr.cell? ⟨w.heap.size + 1 + 1, 2, none⟩ = some (.int .i64 (dTh s)) := by
  have := L.d.x.cell 2; simpa [xcell] using this
theorem L2.picks {w wr : World} {s : ByteArray} {kb p j : Nat} {v v' : Value} (L : L2 w wr s kb p j v v') : wr.cell? ⟨w.heap.size + 1 + 1, 6, none⟩ = some v' := by
  have := L.d.x.cell 6; simpa [xcell] using this
theorem L2.left {w wr : World} {s : ByteArray} {kb p j : Nat} {v v' : Value} (L : L2 w wr s kb p j v v') : wr.cell? ⟨w.heap.size + 1, 0, none⟩ = some (.string (rest s p)) := by
  have := L.d.r.cell 0; simpa using this
theorem L2.xAfter {w w12 w13 : World} {s : ByteArray} {kb p j : Nat} {v v' : Value} (L : L2 w w12 s kb p j v v') (o : Obj) (hg : (w12.alloc o).grownBy w13 v'.ownBlock) :
    w13.cell? ⟨w.heap.size + 1 + 1, 6, none⟩ = some v' ∧ w13.cell? ⟨w.heap.size + 1 + 1, 2, none⟩ = some (.int .i64 (dTh s)) ∧ w13.frozen? ⟨w.heap.size + 1 + 1, 6, none⟩ = false := by
  have hkb := L.kb
  have Dx : Bk w13 (w.heap.size + 2) 29 (xcell s v v') := (L.d.x.alloc o).grown hg (by intro e; have := (L.own'.lt _ e.symm).1; omega)
  exact ⟨by have := Dx.cell 6; simpa [xcell] using this, by have := Dx.cell 2; simpa [xcell] using this, Dx.free 6⟩
theorem decPicks_succ (s : ByteArray) (j : Nat) : decPicks s (j + 1) = decPicks s j ++ [pickAt s (dTh s) (dN s) j] := by
  simp [decPicks, List.range_succ]
theorem L2.push {w w12 w13 : World} {s : ByteArray} {kb p j : Nat} {v v' v'' : Value} (L : L2 w w12 s kb p j v v') (o : Obj)
    (hown : w13.ownsRow (kb + 1) 3 1 v'' (j + 1) (icells (decPicks s j) ++ [.int .i64 (pickAt s (dTh s) (dN s) j)])) (hg : (w12.alloc o).grownBy w13 v'.ownBlock) :
    L2 w (w13.setCell ⟨w.heap.size + 2, 6, none⟩ v'') s kb p (j + 1) v v'' := by
  have hkb := L.kb
  have hne : ∀ g, g ≤ kb → some g ≠ v'.ownBlock := by
    intro g hgk e
    have := (L.own'.lt g e.symm).1
    omega
  have hs := L.d.below.size
  have hlt := L.kl
  have D : DW w w13 s p (xcell s v v') :=
    ⟨(L.d.o.alloc o).grown hg (hne _ (by omega)), (L.d.r.alloc o).grown hg (hne _ (by omega)), (L.d.x.alloc o).grown hg (hne _ (by omega)),
      (L.d.below.alloc hs o).grown hg (by simp; omega) (fun g e => by have := (L.own'.lt g e).1; omega)⟩
  have D2 := D.set_ 6 v''
  have e : (xcell s v v').setIfInBounds 6 v'' = xcell s v v'' := rfl
  rw [e] at D2
  have ho : w13.ownsRow (kb + 1) 41 5 v (dN s) (tcells (decOps s (dN s))) := (L.own.alloc o).kept hg (own_apart L.own L.own' (by decide))
  refine ⟨D2, own_setCell ho (a := ⟨w.heap.size + 2, 6, none⟩) (by simp; omega) v'', ?_, ?_, hkb⟩
  · have h2 := own_setCell hown (a := ⟨w.heap.size + 2, 6, none⟩) (by simp; omega) v''
    rw [decPicks_succ]
    simpa [icells] using h2
  · have := hg.size
    simp [World.setCell] at this ⊢
    omega

/-- How much of the text is left in the reader at block b. -/
def leftN (w : World) (b : Nat) : Nat := match w.cell? ⟨b, 0, none⟩ with | some (.string t) => t.size | _ => 0
theorem L2.leftN {w wr : World} {s : ByteArray} {kb p j : Nat} {v v' : Value} (L : L2 w wr s kb p j v v') : leftN wr (w.heap.size + 1) = s.size - p := by
  unfold Go.Proofs.YthecbeejlpgdaaaDoor.leftN
  rw [L.left]
  simp [rest_size]

theorem own_slice {w : World} {base : Nat} {e : TypeId} {sz n : Nat} {v : Value} {xs : List Value} (h : w.ownsRow base e sz v n xs) : ∃ A c, v = .slice A n c := by
  obtain ⟨h1, h2⟩ := h
  rcases Nat.eq_zero_or_pos n with h0 | h0
  · subst h0
    rcases h2 with ⟨rfl, _⟩ | ⟨g, cap, cur, hv, hg, r⟩
    · exact ⟨_, _, rfl⟩
    · exact ⟨_, _, hv⟩
  · obtain ⟨g, cap, hv, _⟩ := World.ownsRow.form (w := w) (base := base) (e := e) (xs := xs) ⟨h1, h2⟩ h0
    exact ⟨_, _, hv⟩

def DecPost (s : ByteArray) (w : World) (e : Ending) (w' : World) : Prop :=
  ∃ A c A' c', e = .returned ((dec s).v A c A' c') ∧ Sl w' w'.heap.size 5 A (dec s).ops.length (tcells (dec s).ops) ∧ Sl w' w'.heap.size 1 A' (dec s).picks.length (icells (dec s).picks) ∧
    Below w.heap.size w w'
theorem decPicks_length (s : ByteArray) (k : Nat) : (decPicks s k).length = k := by simp [decPicks]
theorem dec_v (s : ByteArray) (A : Option Addr) (c : Nat) (A' : Option Addr) (c' : Nat) :
    Value.agg #[.int .i64 (dSt s), .int .i64 (dEn s), .int .i64 (dTh s), .int .i64 (dSl s), .int .i64 (dNo s), .slice A (dN s) c, .slice A' (dP s) c'] = (dec s).v A c A' c' := by
  simp [PScr.v, dec, decOps_length, decPicks_length]
theorem L2.out {w wr : World} {s : ByteArray} {kb p : Nat} {A A' : Option Addr} {c c' : Nat} (M : L2 w wr s kb p (dP s) (.slice A (dN s) c) (.slice A' (dP s) c')) (u0 u1 u2 u3 u4 u5 u6 : Value) :
    DecPost s w (.returned (.agg #[.int .i64 (dSt s), .int .i64 (dEn s), .int .i64 (dTh s), .int .i64 (dSl s), .int .i64 (dNo s), .slice A (dN s) c, .slice A' (dP s) c']))
      (((((((wr.setCell ⟨w.heap.size, 0, none⟩ u0).setCell ⟨w.heap.size, 1, none⟩ u1).setCell ⟨w.heap.size, 2, none⟩ u2).setCell ⟨w.heap.size, 3, none⟩ u3).setCell ⟨w.heap.size, 4, none⟩ u4).setCell ⟨w.heap.size, 5, none⟩ u5).setCell ⟨w.heap.size, 6, none⟩ u6) := by
  have hk := M.kb
  have o1 := M.own
  have o2 := M.own'
  have hb := M.d.below
  refine ⟨A, c, A', c', by rw [dec_v], ?_, ?_, ?_⟩
  · have q1 : ∀ i, (⟨w.heap.size, i, none⟩ : Addr).block < kb + 1 := fun i => by simp; omega
    have := own_setCell (own_setCell (own_setCell (own_setCell (own_setCell (own_setCell (own_setCell o1 (q1 0) u0) (q1 1) u1) (q1 2) u2) (q1 3) u3) (q1 4) u4) (q1 5) u5) (q1 6) u6
    have h := Sl.of_own this
    simpa [dec, decOps_length] using h
  · have q1 : ∀ i, (⟨w.heap.size, i, none⟩ : Addr).block < kb + 1 := fun i => by simp; omega
    have := own_setCell (own_setCell (own_setCell (own_setCell (own_setCell (own_setCell (own_setCell o2 (q1 0) u0) (q1 1) u1) (q1 2) u2) (q1 3) u3) (q1 4) u4) (q1 5) u5) (q1 6) u6
    have h := Sl.of_own this
    simpa [dec, decPicks_length] using h
  · exact ((((((hb.setCell (by simp) u0).setCell (by simp) u1).setCell (by simp) u2).setCell (by simp) u3).setCell (by simp) u4).setCell (by simp) u5).setCell (by simp) u6

theorem form_agg (st kind x y : Int) (w : World) (hx0 : 0 ≤ x) (hx1 : x ≤ 255) (hy0 : 0 ≤ y) (hy1 : y ≤ 255) :
    Calls Tryd.prog 25 #[.int .i64 st, .int .i64 kind, .int .i64 x, .int .i64 y] w
      (RetV (.agg #[.int .i64 (formOp st kind x y).kind, .int .i64 (formOp st kind x y).key, .int .i64 (formOp st kind x y).val, .int .i64 (formOp st kind x y).tall]) w) :=
  form_any st kind x y w hx0 hx1 hy0 hy1
theorem infoTask : (Tryd.prog.info? 41).map (fun i => (i.zero, i.size, i.bytes)) = some (some (.agg #[.int .i64 0, .int .i64 0, .int .i64 0, .int .i64 0, .int .i64 0]), 5, 40) := by kernel_rfl
theorem infoInt : (Tryd.prog.info? 3).map (fun i => (i.zero, i.size, i.bytes)) = some (some (.int .i64 0), 1, 8) := by kernel_rfl

end Go.Proofs.YthecbeejlpgdaaaDoor
