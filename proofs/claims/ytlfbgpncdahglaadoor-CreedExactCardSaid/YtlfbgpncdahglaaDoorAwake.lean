/- What the laws of creed share: contracts by their outcome; awake. -/
import Derived.Test.YtlfbgpncdahglaaDoorMay
import Derived.Test.YtlfbgpncdahglaaDoorIs
import Derived.Test.YtlfbgpncdahglaaDoorFnRefFits
namespace Go.Proofs.YtlfbgpncdahglaaDoor
open Go Go.RowKit
set_option linter.unusedSimpArgs false
set_option linter.unusedVariables false
set_option linter.unusedSectionVars false

section
variable (w : World) (g : Nat) (s : PC) (A : Option Addr) (c : Nat) (A' : Option Addr) (c' : Nat) (h : CR w g s A c A' c') (o : POp) (T : TypeId) (u : Value) (hE : w.cell? ⟨0, 0, none⟩ = some (.iface T u))
include h hE
theorem do_is {s' : PC} {a : Int × Int} (hok : POk s) (hf : fitsB s.st o = true) (ha : ansOf s o = a) (hs : chgOf s o a.1 = s') :
    Calls Tryd.prog 13 #[.pointer (some ⟨g, 0, none⟩), o.v] w (Done w g (.slice A s.vals.length c) (.slice A' s.pairs.length c') s' a) := by
  subst ha hs
  exact do_yes w g s A c A' c' h o T u hE hok hf

theorem may_any (hok : POk s) (a1 a2 : Int) : Calls Tryd.prog 16 #[.pointer (some ⟨g, 0, none⟩), o.v, .agg #[.int .i64 a1, .int .i64 a2]] w (RetM w g (.slice A s.vals.length c) (.slice A' s.pairs.length c') (mayOf s o (a1, a2))) := by
  unfold mayOf
  cases hf : fitsB s.st o
  · simp only [Bool.false_eq_true, if_false]
    exact may_unfit w g s A c A' c' h hok o a1 a2 T u hE hf
  · simp only [if_true]
    by_cases hq : (a1, a2) = ((4 : Int), (0 : Int)) ∧ putsB o = true
    · rw [if_pos hq]
      obtain ⟨h1, h2⟩ := hq
      injection h1 with e1 e2
      exact may_full w g s A c A' c' h hok o a1 a2 T u hE hf e1 e2 (by simpa [putsB] using h2)
    · rw [if_neg hq]
      by_cases ha : ansOf s o = (a1, a2)
      · rw [if_pos ha]
        exact may_yes w g s A c A' c' h hok o a1 a2 T u hE hf (by rw [ha]) (by rw [ha])
      · rw [if_neg ha]
        refine may_no w g s A c A' c' h hok o a1 a2 T u hE hf ?_ ?_
        · by_cases h1 : (ansOf s o).1 = a1
          · exact Or.inr ⟨h1, fun h2 => ha (Prod.ext h1 h2)⟩
          · exact Or.inl h1
        · by_cases h1 : a1 = 4
          · by_cases h2 : a2 = 0
            · refine Or.inr (Or.inr ⟨h1, h2, fun h3 => hq ⟨by rw [h1, h2], by simpa [putsB] using h3⟩⟩)
            · exact Or.inr (Or.inl ⟨h1, h2⟩)
          · exact Or.inl h1
theorem may_is {r : Bool} {s' : PC} (hok : POk s) {a1 a2 : Int} (hr : mayOf s o (a1, a2) = (r, s')) : Calls Tryd.prog 16 #[.pointer (some ⟨g, 0, none⟩), o.v, .agg #[.int .i64 a1, .int .i64 a2]] w (RetM w g (.slice A s.vals.length c) (.slice A' s.pairs.length c') (r, s')) :=
  hr ▸ may_any w g s A c A' c' h o T u hE hok a1 a2
end

theorem vals_is {l : List Int} (w : World) (g : Nat) (s : PC) (A : Option Addr) (c : Nat) (A' : Option Addr) (c' : Nat) (h : CR w g s A c A' c') (hok : POk s) (hl : outVals s = l) :
    Calls Tryd.prog 18 #[.pointer (some ⟨g, 0, none⟩)] w (NewOwn w 3 1 l.length (icells l)) := hl ▸ vals_any w g s A c A' c' h hok
theorem ints_is {b : Bool} (xs ys : List Int) (A A' : Option Addr) (c c' B B' : Nat) (w : World) (hx : Sl w B 1 A xs.length (icells xs)) (hy : Sl w B' 1 A' ys.length (icells ys))
    (lx : xs.length ≤ 9223372036854775807) (ly : ys.length ≤ 9223372036854775807) (h : decide (xs = ys) = b) :
    Calls Tryd.prog 17 #[.slice A xs.length c, .slice A' ys.length c'] w (RetQ b w) := h ▸ ints_any xs ys A A' c c' B B' w hx hy lx ly

/-- A block that is none of the structure's own. -/
def Far (b g : Nat) (v p : Value) : Prop := b ≠ g ∧ v.ownBlock ≠ some b ∧ p.ownBlock ≠ some b
theorem CR.far {w : World} {g : Nat} {s : PC} {A : Option Addr} {c : Nat} {A' : Option Addr} {c' : Nat} (h : CR w g s A c A' c') {b : Nat} (hb : w.heap.size ≤ b) : Far b g (.slice A s.vals.length c) (.slice A' s.pairs.length c') := by
  obtain ⟨l1, l2, l3⟩ := h.lt
  exact ⟨by omega, fun e => by have := l2 _ e; omega, fun e => by have := l3 _ e; omega⟩
theorem OnlyC.far {w w' : World} {g : Nat} {v p v' p' : Value} (h : OnlyC w w' g v p v' p') {b : Nat} (hb : b < w.heap.size) (hf : Far b g v p) : Far b g v' p' ∧ w'.heap[b]? = w.heap[b]? := by
  obtain ⟨h1, h2, h3⟩ := hf
  refine ⟨⟨h1, fun e => ?_, fun e => ?_⟩, h.block b hb h1 h2 h3⟩
  · rcases h.fv b e with h' | h'
    · exact h2 h'
    · omega
  · rcases h.fp b e with h' | h'
    · exact h3 h'
    · omega

/-- While a law runs: a structure of its own, the sentinel; nothing that was there before has changed. -/
structure LW (w0 w : World) (T : TypeId) (u : Value) (g : Nat) (s : PC) (A : Option Addr) (c : Nat) (A' : Option Addr) (c' : Nat) : Prop where
  below : Below w0.heap.size w0 w
  err : w.cell? ⟨0, 0, none⟩ = some (.iface T u)
  r : CR w g s A c A' c'
  ok : POk s
  lt : 0 < w0.heap.size
  hg : w0.heap.size ≤ g
  hv : ∀ b, (Value.slice A s.vals.length c).ownBlock = some b → w0.heap.size ≤ b
  hp : ∀ b, (Value.slice A' s.pairs.length c').ownBlock = some b → w0.heap.size ≤ b
section
variable {w0 w w' : World} {T : TypeId} {u : Value} {g : Nat} {s s' : PC} {A : Option Addr} {c : Nat} {A' : Option Addr} {c' : Nat}
theorem LW.more (h : LW w0 w T u g s A c A' c') (hb : Below w.heap.size w w') : LW w0 w' T u g s A c A' c' :=
  ⟨h.below.trans (hb.mono h.below.size), cell_below h.err hb, h.r.below hb, h.ok, h.lt, h.hg, h.hv, h.hp⟩
theorem LW.alloc (h : LW w0 w T u g s A c A' c') (o : Obj) : LW w0 (w.alloc o) T u g s A c A' c' := h.more ((Below.refl _ _).alloc (Nat.le_refl _) _)
theorem LW.drew (h : LW w0 w T u g s A c A' c') : LW w0 w.drew T u g s A c A' c' := h.more (Below.refl _ _).drew
theorem LW.drewN (h : LW w0 w T u g s A c A' c') (n : Nat) : LW w0 (w.drewN n) T u g s A c A' c' := h.more (below_drewN (Below.refl _ _) n)
theorem LW.new (hb : Below w0.heap.size w0 w) (he : w.cell? ⟨0, 0, none⟩ = some (.iface T u)) (hlt : 0 < w0.heap.size) (hn : NewC w s g A c A' c' w') (hok : POk s) : LW w0 w' T u g s A c A' c' := by
  obtain ⟨h1, h2, h3, h4, h5⟩ := hn
  have hs := hb.size
  exact ⟨hb.trans (h2.mono hs), cell_below he h2, h1, hok, hlt, by omega, fun b e => by have := h4 b e; omega, fun b e => by have := h5 b e; omega⟩
theorem LW.done {A2 : Option Addr} {c2 : Nat} {A2' : Option Addr} {c2' : Nat} (h : LW w0 w T u g s A c A' c') (h2 : CR w' g s' A2 c2 A2' c2') (o2 : OnlyC w w' g (.slice A s.vals.length c) (.slice A' s.pairs.length c') (.slice A2 s'.vals.length c2) (.slice A2' s'.pairs.length c2')) (hok : POk s') : LW w0 w' T u g s' A2 c2 A2' c2' := by
  have hs := h.below.size
  have hb := o2.below hs h.hg h.hv h.hp
  refine ⟨h.below.trans hb, (hb.cell (p := ⟨0, 0, none⟩) h.lt).trans h.err, h2, hok, h.lt, h.hg, fun b e => ?_, fun b e => ?_⟩
  · rcases o2.fv b e with h1 | h1
    · exact h.hv b h1
    · omega
  · rcases o2.fp b e with h1 | h1
    · exact h.hp b h1
    · omega
end

theorem pok_vals (st : Int) (l : List Int) (h : 1 ≤ st ∧ st ≤ 5) (hl : l.length ≤ 10000) : POk ⟨st, l, []⟩ := ⟨h, ⟨List.Pairwise.nil, by simp⟩, hl, by simp⟩
theorem Sl.of_bk {w : World} {g : Nat} {t : TypeId} {xs : List Value} (h : Bk w g t xs.toArray) : Sl w w.heap.size 1 (some ⟨g, 0, none⟩) xs.length xs :=
  ⟨by simp, fun _ => ⟨g, 0, rfl, h.lt, fun j u hu => by rw [Nat.zero_add, h.cell]; simpa using hu⟩⟩

set_option maxRecDepth 100000 in
set_option maxHeartbeats 4000000 in
theorem awake_any (w : World) (a : Addr) (hE : w.cell? ⟨0, 0, none⟩ = some (.iface 156 (.pointer (some a)))) :
    Calls Tryd.prog 8 #[] w (RetB true w) := by
  have hlt0 := World.block_lt_of_cell? w _ hE
  simp at hlt0
  go_enter Tryd.func8, Tryd.ntmps8
  go_wp2_with fail
  refine (new_any 1 _ (by decide) (by decide)).mono ?_
  rintro e w1 ⟨g, A, c, A', c', rfl, hn⟩
  have L1 := LW.new (Below.refl _ w) hE hlt0 hn (pok_vals 1 [] (by decide) (by decide))
  clear hn
  go_wp2_with fail
  refine (do_is _ g ⟨1, [], []⟩ A c A' c' L1.r ⟨1, 0, 2, 0⟩ _ _ L1.err (s' := ⟨1, [2], []⟩) (a := (1, 0)) L1.ok (by decide) (by decide) (by decide)).mono ?_
  rintro e w2 ⟨rfl, A2, c2, A2', c2', h2, o2⟩
  have L2 := (L1.done h2 o2 (pok_vals 1 [2] (by decide) (by decide))).alloc (.cells #[.int .i64 1, .int .i64 0] 36)
  have KA : Bk (w2.alloc (.cells #[.int .i64 1, .int .i64 0] 36)) w2.heap.size 36 #[.int .i64 1, .int .i64 0] := Bk.at_ rfl
  have FA := h2.far (b := w2.heap.size) (Nat.le_refl _)
  clear h2 o2 L1
  go_wp2_with fail
  refine (do_is _ g ⟨1, [2], []⟩ A2 c2 A2' c2' L2.r ⟨1, 0, 1, 0⟩ _ _ L2.err (s' := ⟨1, [2, 1], []⟩) (a := (1, 0)) L2.ok (by decide) (by decide) (by decide)).mono ?_
  rintro e w3 ⟨rfl, A3, c3, A3', c3', h3, o3⟩
  have L3 := (L2.done h3 o3 (pok_vals 1 [2, 1] (by decide) (by decide))).alloc (.cells #[.int .i64 2, .int .i64 0, .int .i64 0, .int .i64 0] 34)
  obtain ⟨FA3, ka⟩ := o3.far KA.lt FA
  have KA3 := (KA.same ka).alloc (.cells #[.int .i64 2, .int .i64 0, .int .i64 0, .int .i64 0] 34)
  have KP : Bk (w3.alloc (.cells #[.int .i64 2, .int .i64 0, .int .i64 0, .int .i64 0] 34)) w3.heap.size 34 #[.int .i64 2, .int .i64 0, .int .i64 0, .int .i64 0] := Bk.at_ rfl
  have FP := h3.far (b := w3.heap.size) (Nat.le_refl _)
  clear h3 o3 ka L2 FA
  go_wp2_with fail
  refine (do_no _ g ⟨1, [2, 1], []⟩ A3 c3 A3' c3' L3.r ⟨8, 0, 0, 0⟩ _ _ L3.err (by decide)).mono ?_
  rintro e w4 ⟨rfl, hb4⟩
  have L4 := (L3.more hb4).alloc (.cells #[.int .i64 0, .int .i64 0] 36)
  have KA4 := (KA3.belowAll hb4).alloc (.cells #[.int .i64 0, .int .i64 0] 36)
  have KP4 := (KP.belowAll hb4).alloc (.cells #[.int .i64 0, .int .i64 0] 36)
  clear L3 KA3 KP hb4
  go_wp2_with fail
  refine (new_no 6 _ (by decide) _ _ L4.err).mono ?_
  rintro e w5 ⟨rfl, hb5⟩
  have L5 := (L4.more hb5)
  have KA5 := (KA4.belowAll hb5)
  have KP5 := (KP4.belowAll hb5)
  have FP5 := FP
  clear L4 KA4 KP4 hb5 KA FP
  generalize w2.heap.size = pa at *
  generalize w3.heap.size = pp at *
  have x0 := KA5.cell 0; have x1 := KA5.cell 1; have y0 := KP5.cell 0; have y1 := KP5.cell 1; have y2 := KP5.cell 2; have y3 := KP5.cell 3
  simp at x0 x1 y0 y1 y2 y3
  go_wp2_with fail
  refine (may_is _ g ⟨1, [2, 1], []⟩ A3 c3 A3' c3' L5.r ⟨2, 0, 0, 0⟩ _ _ L5.err (r := false) (s' := ⟨1, [2, 1], []⟩) L5.ok (by decide)).mono ?_
  rintro e w6 ⟨rfl, A6, c6, A6', c6', h6, o6⟩
  have L6 := L5.done h6 o6 L5.ok
  obtain ⟨FP6, kp⟩ := o6.far KP5.lt FP5
  have KP6 := KP5.same kp
  clear x0 x1 y0 y1 y2 y3 h6 o6 kp KP5 KA5 L5 FP5
  go_wp2_with fail
  refine (may_is _ g ⟨1, [2, 1], []⟩ A6 c6 A6' c6' L6.r ⟨1, 0, 9, 0⟩ _ _ L6.err (r := true) (s' := ⟨1, [2, 1], []⟩) L6.ok (by decide)).mono ?_
  rintro e w7 ⟨rfl, A7, c7, A7', c7', h7, o7⟩
  have L7 := L6.done h7 o7 L6.ok
  obtain ⟨FP7, kp⟩ := o7.far KP6.lt FP6
  have KP7 := KP6.same kp
  clear h7 o7 kp KP6 L6 FP6
  go_wp2_with fail
  refine (vals_is (l := [1, 2]) _ g ⟨1, [2, 1], []⟩ A7 c7 A7' c7' L7.r L7.ok (by decide)).mono ?_
  rintro e w8 ⟨v8, rfl, ho8, hb8, hf8⟩
  have L8 := (L7.more hb8).alloc (.cells #[.int .i64 1, .int .i64 2] 3)
  have KP8 := (KP7.belowAll hb8).alloc (.cells #[.int .i64 1, .int .i64 2] 3)
  obtain ⟨A8, c8, rfl, _, _⟩ := ho8.form
  go_wp2_with fail
  refine (ints_is (b := true) [1, 2] [1, 2] A8 _ c8 _ _ _ _ (by exact (ho8.alloc _).sl) (by exact Sl.of_bk (xs := icells [1, 2]) (Bk.at_ rfl)) (by decide) (by decide) (by decide)).mono ?_
  rintro e w9 ⟨rfl, k9, rfl⟩
  have L9 := L8.drewN k9
  have KP9 := KP8.drewN k9
  clear L8 KP8 L7 ho8 hb8 hf8
  have y0 := KP9.cell 0; have y1 := KP9.cell 1; have y2 := KP9.cell 2; have y3 := KP9.cell 3
  simp at y0 y1 y2 y3
  go_wp2_with fail
  refine (may_is _ g ⟨1, [2, 1], []⟩ A7 c7 A7' c7' L9.r ⟨2, 0, 0, 0⟩ _ _ L9.err (r := true) (s' := ⟨1, [2], []⟩) L9.ok (by decide)).mono ?_
  rintro e w10 ⟨rfl, A10, c10, A10', c10', h10, o10⟩
  have L10 := L9.done h10 o10 (pok_vals 1 [2] (by decide) (by decide))
  clear y0 y1 y2 y3 KP9 KP7 FP7 h10 o10 L9
  go_wp2_with fail
  refine (vals_is (l := [2]) _ g ⟨1, [2], []⟩ A10 c10 A10' c10' L10.r L10.ok (by decide)).mono ?_
  rintro e w11 ⟨v11, rfl, ho11, hb11, hf11⟩
  have L11 := (L10.more hb11).alloc (.cells #[.int .i64 2] 3)
  obtain ⟨A11, c11, rfl, _, _⟩ := ho11.form
  go_wp2_with fail
  refine (ints_is (b := true) [2] [2] A11 _ c11 _ _ _ _ (by exact (ho11.alloc _).sl) (by exact Sl.of_bk (xs := icells [2]) (Bk.at_ rfl)) (by decide) (by decide) (by decide)).mono ?_
  rintro e w12 ⟨rfl, k12, rfl⟩
  have L12 := L11.drewN k12
  have z0 := L12.err
  have hB := L12.below
  simp at z0
  clear L11 L10 ho11 hb11 hf11 L12
  go_wp2_with fail
  refine (is_same a _).mono ?_
  rintro e w13 ⟨rfl, rfl⟩
  go_wp2_with fail
  refine (is_same a _).mono ?_
  rintro e w14 ⟨rfl, rfl⟩
  go_wp2_with fail
  go_ret
  exact ⟨rfl, hB⟩
end Go.Proofs.YtlfbgpncdahglaaDoor
