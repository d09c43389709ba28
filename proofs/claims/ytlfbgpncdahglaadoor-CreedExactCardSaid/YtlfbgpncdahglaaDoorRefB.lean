/- The reference's Do, its head: the boxes, and a copy of what is there. -/
import Derived.Test.YtlfbgpncdahglaaDoorRefA
import Derived.Deep.DeepCutAuto
import Derived.Deep.CutBlock
namespace Go.Proofs.YtlfbgpncdahglaaDoor
open Go Go.RowKit
set_option linter.unusedSimpArgs false
set_option linter.unusedVariables false
set_option linter.unusedSectionVars false

/-- A slice of pairs that can be read. -/
structure Rd (w : World) (B : Nat) (A : Option Addr) (L : List (Int × Int)) (c : Nat) : Prop where
  sl : Sl w B 2 A L.length (pcells L)
  le : L.length ≤ c
  max : c ≤ 9223372036854775807
  ad : (A = none ∧ c = 0) ∨ ∃ b off, A = some ⟨b, off, none⟩ ∧ b < B
theorem Rd.of_own {w : World} {A : Option Addr} {c : Nat} {L : List (Int × Int)} (h : Own w 94 2 (.slice A L.length c) L.length (pcells L)) : Rd w w.heap.size A L c := by
  refine ⟨h.sl, ?_, ?_, ?_⟩
  · obtain ⟨A', c', e, h1, h2⟩ := h.form
    injection e with e1 e2 e3
    omega
  · obtain ⟨A', c', e, h1, h2⟩ := h.form
    injection e with e1 e2 e3
    omega
  · rcases h.2 with ⟨e, _⟩ | ⟨g, off, cap, _, _, e, _⟩
    · injection e with e1 e2 e3; exact Or.inl ⟨e1, e3⟩
    · injection e with e1 e2 e3; exact Or.inr ⟨g, off, e1, h.lt (by rw [e1]; rfl)⟩
theorem Rd.up {w w' : World} {A : Option Addr} {c : Nat} {L : List (Int × Int)} (h : Rd w w.heap.size A L c) (hb : Below w.heap.size w w') : Rd w' w'.heap.size A L c := ⟨h.sl.up hb, h.le, h.max, h.ad.imp id fun ⟨b, off, e, hl⟩ => ⟨b, off, e, Nat.lt_of_lt_of_le hl hb.size⟩⟩
theorem Rd.nil {w : World} {B : Nat} : Rd w B none [] 0 := ⟨Sl.none_, Nat.le_refl _, by decide, Or.inl ⟨rfl, rfl⟩⟩

/-- What the boxes of a call of Do hold. -/
structure RD (w w' : World) (K : Int) (A : Option Addr) (n c : Nat) (o : POp) : Prop where
  below : Below w.heap.size w w'
  bc : Bk w' w.heap.size 32 #[.int .i64 K, .slice A n c]
  bo : Bk w' (w.heap.size + 1) 34 #[.int .i64 o.kind, .int .i64 o.key, .int .i64 o.val, .int .i64 o.tall]
  r0 : Bk w' (w.heap.size + 2) 32 #[.int .i64 0, .slice none 0 0]
  r1 : Bk w' (w.heap.size + 3) 36 #[.int .i64 0, .int .i64 0]
section
variable {w w1 w2 : World} {K : Int} {A : Option Addr} {n c : Nat} {o : POp}
theorem RD.z (h : RD w w1 K A n c o) : w.heap.size + 4 ≤ w1.heap.size := by have := h.r1.lt; omega
theorem RD.more (h : RD w w1 K A n c o) (hb : Below (w.heap.size + 4) w1 w2) : RD w w2 K A n c o :=
  ⟨h.below.trans (hb.mono (by omega)), h.bc.below hb (by omega), h.bo.below hb (by omega), h.r0.below hb (by omega), h.r1.below hb (by omega)⟩
theorem RD.alloc (h : RD w w1 K A n c o) (x : Obj) : RD w (w1.alloc x) K A n c o := h.more ((Below.refl _ _).alloc h.z _)
theorem RD.drew (h : RD w w1 K A n c o) : RD w w1.drew K A n c o := h.more (Below.refl _ _).drew
theorem RD.drewN (h : RD w w1 K A n c o) (k : Nat) : RD w (w1.drewN k) K A n c o := h.more (below_drewN (Below.refl _ _) k)
theorem RD.set (h : RD w w1 K A n c o) {D : Nat} (hD : w.heap.size + 4 ≤ D) (i : Nat) (u : Value) : RD w (w1.setCell ⟨D, i, none⟩ u) K A n c o := h.more (Below.setCell (p := ⟨D, i, none⟩) (Below.refl _ _) hD _)
theorem RD.grown (h : RD w w1 K A n c o) {row : Option Nat} (hg : w1.grownBy w2 row) (hr : ∀ b, row = some b → w.heap.size + 4 ≤ b) : RD w w2 K A n c o := h.more ((Below.refl _ w1).grown hg h.z hr)
end
theorem own_row2 {X o n c b : Nat} (e : (Value.slice (some ⟨X, o, none⟩) n c).ownBlock = some b) : b = X := (Option.some.inj e).symm
theorem own_row {X n c b : Nat} (e : (Value.slice (some ⟨X, 0, none⟩) n c).ownBlock = some b) : b = X := (Option.some.inj e).symm
theorem fresh_row {w : World} {X n c : Nat} {v' : Value} (hf : Fresh w (.slice (some ⟨X, 0, none⟩) n c) v') {b : Nat} (e : v'.ownBlock = some b) : b = X ∨ w.heap.size ≤ b := by
  rcases hf b e with h | h
  · exact Or.inl (Option.some.inj h).symm
  · exact Or.inr h
theorem Own.set {w : World} {e : TypeId} {sz n : Nat} {v : Value} {xs : List Value} (h : Own w e sz v n xs) {D : Nat} (hD : v.ownBlock ≠ some D) (i : Nat) (u : Value) : Own (w.setCell ⟨D, i, none⟩ u) e sz v n xs :=
  h.kept fun g hg => Below.heap_setCell w ⟨D, i, none⟩ u g (fun e => hD (by rw [hg]; exact congrArg some e))

/-- The copy d of the structure. -/
structure RDD (w w' : World) (K : Int) (D : Nat) (M : List (Int × Int)) (A' : Option Addr) (c' : Nat) : Prop where
  d : Bk w' D 32 #[.int .i64 K, .slice A' M.length c']
  own : Own w' 94 2 (.slice A' M.length c') M.length (pcells M)
  hd : w.heap.size + 4 ≤ D
  hf : ∀ b, (Value.slice A' M.length c').ownBlock = some b → w.heap.size + 4 ≤ b ∧ b ≠ D
  nn : (Value.slice A' M.length c').ownBlock ≠ none
theorem rd_fin {w w3 : World} {K : Int} {A : Option Addr} {n c : Nat} {o : POp} (h : RD w w3 K A n c o) {M : List (Int × Int)} {A' : Option Addr} {c' : Nat} (ho : Own w3 94 2 (.slice A' M.length c') M.length (pcells M)) {D : Nat} (hD : Bk w3 D 32 #[.int .i64 0, .slice none 0 0])
    (hge : w.heap.size + 4 ≤ D) (hf : ∀ b, (Value.slice A' M.length c').ownBlock = some b → w.heap.size + 4 ≤ b ∧ b ≠ D) (hn : (Value.slice A' M.length c').ownBlock ≠ none) :
    RD w ((w3.setCell ⟨D, 0, none⟩ (.int .i64 K)).setCell ⟨D, 1, none⟩ (.slice A' M.length c')) K A n c o ∧ RDD w ((w3.setCell ⟨D, 0, none⟩ (.int .i64 K)).setCell ⟨D, 1, none⟩ (.slice A' M.length c')) K D M A' c' := by
  have hne : (Value.slice A' M.length c').ownBlock ≠ some D := fun e => (hf D e).2 rfl
  exact ⟨(h.set hge _ _).set hge _ _, ⟨by simpa using (hD.set_ 0 (.int .i64 K)).set_ 1 (.slice A' M.length c'), (ho.set hne _ _).set hne _ _, hge, hf, hn⟩⟩

/-- The result boxes' cells while they are written. -/
structure RdOut (w w6 : World) : Prop where
  k0 : w6.cell? ⟨w.heap.size + 2, 0, none⟩ = some (.int .i64 0)
  k1 : w6.cell? ⟨w.heap.size + 2, 1, none⟩ = some (.slice none 0 0)
  k2 : w6.frozen? ⟨w.heap.size + 2, 0, none⟩ = false
  k3 : w6.frozen? ⟨w.heap.size + 2, 1, none⟩ = false
  k4 : ∀ v, (w6.setCell ⟨w.heap.size + 2, 0, none⟩ v).cell? ⟨w.heap.size + 2, 1, none⟩ = some (.slice none 0 0)
  k5 : ∀ v, (w6.setCell ⟨w.heap.size + 2, 0, none⟩ v).frozen? ⟨w.heap.size + 2, 1, none⟩ = false
  m0 : ∀ v v', ((w6.setCell ⟨w.heap.size + 2, 0, none⟩ v).setCell ⟨w.heap.size + 2, 1, none⟩ v').cell? ⟨w.heap.size + 3, 0, none⟩ = some (.int .i64 0)
  m1 : ∀ v v', ((w6.setCell ⟨w.heap.size + 2, 0, none⟩ v).setCell ⟨w.heap.size + 2, 1, none⟩ v').cell? ⟨w.heap.size + 3, 1, none⟩ = some (.int .i64 0)
  m2 : ∀ v v', ((w6.setCell ⟨w.heap.size + 2, 0, none⟩ v).setCell ⟨w.heap.size + 2, 1, none⟩ v').frozen? ⟨w.heap.size + 3, 0, none⟩ = false
  m3 : ∀ v v', ((w6.setCell ⟨w.heap.size + 2, 0, none⟩ v).setCell ⟨w.heap.size + 2, 1, none⟩ v').frozen? ⟨w.heap.size + 3, 1, none⟩ = false
  m4 : ∀ v v' u, (((w6.setCell ⟨w.heap.size + 2, 0, none⟩ v).setCell ⟨w.heap.size + 2, 1, none⟩ v').setCell ⟨w.heap.size + 3, 0, none⟩ u).cell? ⟨w.heap.size + 3, 1, none⟩ = some (.int .i64 0)
  m5 : ∀ v v' u, (((w6.setCell ⟨w.heap.size + 2, 0, none⟩ v).setCell ⟨w.heap.size + 2, 1, none⟩ v').setCell ⟨w.heap.size + 3, 0, none⟩ u).frozen? ⟨w.heap.size + 3, 1, none⟩ = false
  n0 : ∀ v v' u u', ((((w6.setCell ⟨w.heap.size + 2, 0, none⟩ v).setCell ⟨w.heap.size + 2, 1, none⟩ v').setCell ⟨w.heap.size + 3, 0, none⟩ u).setCell ⟨w.heap.size + 3, 1, none⟩ u').cell? ⟨w.heap.size + 2, 0, none⟩ = some v
  n1 : ∀ v v' u u', ((((w6.setCell ⟨w.heap.size + 2, 0, none⟩ v).setCell ⟨w.heap.size + 2, 1, none⟩ v').setCell ⟨w.heap.size + 3, 0, none⟩ u).setCell ⟨w.heap.size + 3, 1, none⟩ u').cell? ⟨w.heap.size + 2, 1, none⟩ = some v'
  n2 : ∀ v v' u u', ((((w6.setCell ⟨w.heap.size + 2, 0, none⟩ v).setCell ⟨w.heap.size + 2, 1, none⟩ v').setCell ⟨w.heap.size + 3, 0, none⟩ u).setCell ⟨w.heap.size + 3, 1, none⟩ u').cell? ⟨w.heap.size + 3, 0, none⟩ = some u
  n3 : ∀ v v' u u', ((((w6.setCell ⟨w.heap.size + 2, 0, none⟩ v).setCell ⟨w.heap.size + 2, 1, none⟩ v').setCell ⟨w.heap.size + 3, 0, none⟩ u).setCell ⟨w.heap.size + 3, 1, none⟩ u').cell? ⟨w.heap.size + 3, 1, none⟩ = some u'
theorem rd_out {w w6 : World} {K : Int} {A : Option Addr} {n c : Nat} {o : POp} (R : RD w w6 K A n c o) : RdOut w w6 := by
  have P : ∀ v v', Bk ((w6.setCell ⟨w.heap.size + 2, 0, none⟩ v).setCell ⟨w.heap.size + 2, 1, none⟩ v') (w.heap.size + 3) 36 #[.int .i64 0, .int .i64 0] := fun v v' => (R.r1.far (p := ⟨w.heap.size + 2, 0, none⟩) (by simp) v).far (p := ⟨w.heap.size + 2, 1, none⟩) (by simp) v'
  have Q : ∀ v v' u u', Bk ((((w6.setCell ⟨w.heap.size + 2, 0, none⟩ v).setCell ⟨w.heap.size + 2, 1, none⟩ v').setCell ⟨w.heap.size + 3, 0, none⟩ u).setCell ⟨w.heap.size + 3, 1, none⟩ u') (w.heap.size + 2) 32 #[v, v'] := fun v v' u u' => by
    simpa using (((R.r0.set_ 0 v).set_ 1 v').far (p := ⟨w.heap.size + 3, 0, none⟩) (by simp) u).far (p := ⟨w.heap.size + 3, 1, none⟩) (by simp) u'
  have S : ∀ v v' u u', Bk ((((w6.setCell ⟨w.heap.size + 2, 0, none⟩ v).setCell ⟨w.heap.size + 2, 1, none⟩ v').setCell ⟨w.heap.size + 3, 0, none⟩ u).setCell ⟨w.heap.size + 3, 1, none⟩ u') (w.heap.size + 3) 36 #[u, u'] := fun v v' u u' => by
    simpa using ((P v v').set_ 0 u).set_ 1 u'
  exact ⟨by simpa using R.r0.cell 0, by simpa using R.r0.cell 1, R.r0.free 0, R.r0.free 1, fun v => by simpa using (R.r0.set_ 0 v).cell 1, fun v => (R.r0.set_ 0 v).free 1,
    fun v v' => by simpa using (P v v').cell 0, fun v v' => by simpa using (P v v').cell 1, fun v v' => (P v v').free 0, fun v v' => (P v v').free 1,
    fun v v' u => by simpa using ((P v v').set_ 0 u).cell 1, fun v v' u => ((P v v').set_ 0 u).free 1,
    fun v v' u u' => by simpa using (Q v v' u u').cell 0, fun v v' u u' => by simpa using (Q v v' u u').cell 1, fun v v' u u' => by simpa using (S v v' u u').cell 0, fun v v' u u' => by simpa using (S v v' u u').cell 1⟩
theorem own_out {w w6 : World} {e : TypeId} {sz n : Nat} {x : Value} {xs : List Value} (h : Own w6 e sz x n xs) (hf : ∀ b, x.ownBlock = some b → w.heap.size + 4 ≤ b) (v v' u u' : Value) :
    Own ((((w6.setCell ⟨w.heap.size + 2, 0, none⟩ v).setCell ⟨w.heap.size + 2, 1, none⟩ v').setCell ⟨w.heap.size + 3, 0, none⟩ u).setCell ⟨w.heap.size + 3, 1, none⟩ u') e sz x n xs := by
  have h2 : x.ownBlock ≠ some (w.heap.size + 2) := fun e => by have := hf _ e; omega
  have h3 : x.ownBlock ≠ some (w.heap.size + 3) := fun e => by have := hf _ e; omega
  exact (((h.set h2 _ _).set h2 _ _).set h3 _ _).set h3 _ _
theorem Own.one {w : World} {X : Nat} {p : Int × Int} (h : Bk w X 94 #[.int .i64 p.1, .int .i64 p.2]) : Own w 94 2 (.slice (some ⟨X, 0, none⟩) 1 1) ([p] : List (Int × Int)).length (pcells [p]) :=
  ⟨rfl, .inr ⟨X, 0, 1, [], [], rfl, by simpa [pcells, pcell] using h, rfl, Nat.le_refl _, by decide, by simp [pcells, pcell]⟩⟩
theorem RDD.more {w w1 w2 : World} {K : Int} {D : Nat} {M : List (Int × Int)} {A' : Option Addr} {c' : Nat} (h : RDD w w1 K D M A' c') (hb : Below w1.heap.size w1 w2) : RDD w w2 K D M A' c' := ⟨h.d.belowAll hb, h.own.below hb, h.hd, h.hf, h.nn⟩
theorem RDD.alloc {w w1 : World} {K : Int} {D : Nat} {M : List (Int × Int)} {A' : Option Addr} {c' : Nat} (h : RDD w w1 K D M A' c') (x : Obj) : RDD w (w1.alloc x) K D M A' c' := h.more ((Below.refl _ _).alloc (Nat.le_refl _) _)
/-- A slice's memory is the old one's, or new. -/
def AFresh (w : World) (A A' : Option Addr) : Prop := ∀ a', A' = some a' → (∃ a, A = some a ∧ a.block = a'.block) ∨ w.heap.size ≤ a'.block
theorem afresh_refl {w : World} {A : Option Addr} : AFresh w A A := fun a' e => Or.inl ⟨a', e, rfl⟩
theorem afresh_own {w : World} {A A' : Option Addr} {n c : Nat} (h : ∀ b, (Value.slice A' n c).ownBlock = some b → w.heap.size + 4 ≤ b) : AFresh w A A' := fun a' e => by
  subst e
  have := h a'.block rfl
  exact Or.inr (by omega)
/-- The reference's structure and its answer come back. -/
def RetD (w : World) (A : Option Addr) (Kd : Int) (M : List (Int × Int)) (a : Int × Int) (e : Ending) (w' : World) : Prop :=
  ∃ A' c', e = .returned (.tuple #[.agg #[.int .i64 Kd, .slice A' M.length c'], .agg #[.int .i64 a.1, .int .i64 a.2]]) ∧ Rd w' w'.heap.size A' M c' ∧ Below w.heap.size w w' ∧ AFresh w A A'
theorem sl_drop {w : World} {g off c i : Nat} {L M : List (Int × Int)} {a : Nat} (h : Own w 94 2 (.slice (some ⟨g, off, none⟩) L.length c) L.length (pcells L)) (hM : L.drop i = M) (ha : a = off + i * 2 ∨ M.length = 0) : Sl w w.heap.size 2 (some ⟨g, a, none⟩) M.length (pcells M) := by
  refine ⟨pcells_length M, fun hpos => ⟨g, a, rfl, h.lt rfl, fun j u hu => ?_⟩⟩
  rcases ha with rfl | h0
  · rw [Nat.add_assoc]
    refine own_cells h (i * 2 + j) u ?_
    have hi : i < L.length := by rw [← hM, List.length_drop] at hpos; omega
    rw [pcells_split L i, List.getElem?_append_right (by rw [pcells_length, List.length_take]; omega), pcells_length, List.length_take, Nat.min_eq_left (by omega), Nat.add_sub_cancel_left, hM]
    exact hu
  · omega

theorem sl_takeS {w : World} {B : Nat} {A : Option Addr} {L P : List (Int × Int)} {p : Nat} (h : Sl w B 2 A L.length (pcells L)) (hp : p ≤ L.length) (hP : L.take p = P) : Sl w B 2 A P.length (pcells P) := by
  refine ⟨pcells_length P, fun hpos => ?_⟩
  have hl : P.length = p := by rw [← hP, List.length_take]; omega
  obtain ⟨b, off, e, hb, hc⟩ := h.2 (by omega)
  refine ⟨b, off, e, hb, fun j u hu => hc j u ?_⟩
  rw [pcells_split L p, hP, List.getElem?_append_left]
  · exact hu
  · rcases Nat.lt_or_ge j (pcells P).length with h' | h'
    · exact h'
    · rw [List.getElem?_eq_none h'] at hu; cases hu
theorem sl_dropS {w : World} {B b off a i : Nat} {L Q : List (Int × Int)} (h : Sl w B 2 (some ⟨b, off, none⟩) L.length (pcells L)) (hQ : L.drop i = Q) (ha : a = off + i * 2 ∨ Q.length = 0) : Sl w B 2 (some ⟨b, a, none⟩) Q.length (pcells Q) := by
  refine ⟨pcells_length Q, fun hpos => ?_⟩
  rcases ha with rfl | h0
  · have hi : i < L.length := by rw [← hQ, List.length_drop] at hpos; omega
    obtain ⟨b', off', e, hb, hc⟩ := h.2 (by omega)
    cases e
    refine ⟨b, _, rfl, hb, fun j u hu => ?_⟩
    rw [Nat.add_assoc]
    refine hc (i * 2 + j) u ?_
    rw [pcells_split L i, List.getElem?_append_right (by rw [pcells_length, List.length_take]; omega), pcells_length, List.length_take, Nat.min_eq_left (by omega), Nat.add_sub_cancel_left, hQ]
    exact hu
  · omega

end Go.Proofs.YtlfbgpncdahglaaDoor
