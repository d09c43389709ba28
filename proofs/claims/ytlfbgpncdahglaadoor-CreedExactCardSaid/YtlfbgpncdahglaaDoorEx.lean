/- CreedExact: a structure beside the reference's; acts as a slice. -/
import Derived.Test.YtlfbgpncdahglaaDoorRefJ
namespace Go.Proofs.YtlfbgpncdahglaaDoor
open Go Go.RowKit
set_option linter.unusedSimpArgs false
set_option linter.unusedVariables false
set_option linter.unusedSectionVars false

theorem samePairs_is1 {b : Bool} (xs ys : List (Int × Int)) (A A' : Option Addr) (c c' B B' : Nat) (w : World) (hx : Sl w B 2 A xs.length (pcells xs)) (hy : Sl w B' 2 A' ys.length (pcells ys))
    (lx : xs.length ≤ 9223372036854775807) (ly : ys.length ≤ 9223372036854775807) (h : decide (xs = ys) = b) :
    Calls Tryd.prog 20 #[.slice A xs.length c, .slice A' ys.length c'] w (RetQ b w) := h ▸ samePairs_any xs ys A A' c c' B B' w hx hy lx ly
theorem outVals_le1 {s : PC} (h : POk s) : (outVals s).length ≤ 10000 := by
  have := h.lv
  unfold outVals; split <;> simp <;> exact this
/-- A stack and a queue have no pairs, a map no values. -/
def Kin (s : PC) : Prop := (s.st ≤ 2 → s.pairs = []) ∧ (3 ≤ s.st → s.vals = [])
theorem kin_chg {s : PC} {o : POp} (hf : fitsB s.st o = true) (h : Kin s) (code : Int) : Kin (chgOf s o code) := by
  have hst := (chg_size s o code).2
  rw [fitsB_true, FitsP] at hf
  refine ⟨fun h2 => ?_, fun h3 => ?_⟩
  · rw [hst] at h2
    have hp := h.1 h2
    unfold chgOf
    split
    · exact hp
    · split
      · exact hp
      · split
        · exact hp
        · split
          · exact hp
          · rw [if_neg (by omega), if_neg (by omega)]; exact hp
  · rw [hst] at h3
    have hp := h.2 h3
    unfold chgOf
    split
    · exact hp
    · rw [if_neg (by omega), if_neg (by omega), if_neg (by omega)]
      split
      · exact hp
      · split <;> exact hp
theorem kin_may {s t : PC} {o : POp} {a1 a2 : Int} {r : Bool} (h : Kin s) (hr : mayOf s o (a1, a2) = (r, t)) : Kin t := by
  unfold mayOf at hr
  split at hr
  · rename_i hf
    split at hr
    · cases hr; exact h
    · split at hr
      · cases hr; exact kin_chg hf h _
      · cases hr; exact h
  · cases hr; exact h
theorem pok_may {s t : PC} {o : POp} {a1 a2 : Int} {r : Bool} (h : POk s) (hs : s.size < 10000) (hr : mayOf s o (a1, a2) = (r, t)) : POk t ∧ t.size ≤ s.size + 1 ∧ t.st = s.st := by
  unfold mayOf at hr
  split at hr
  · rename_i hf
    split at hr
    · cases hr; exact ⟨h, by omega, rfl⟩
    · split at hr
      · rename_i ha
        cases hr
        have := chg_size s o a1
        refine ⟨?_, this.1, this.2⟩
        have hk := pok_chg h hf hs
        rw [ha] at hk
        exact hk
      · cases hr; exact ⟨h, by omega, rfl⟩
  · cases hr; exact ⟨h, by omega, rfl⟩

theorem lst_out {s : PC} (hok : POk s) (h : s.st ≤ 2) : (lst s).map (·.2) = outVals s := by
  have h1 := hok.st.1
  by_cases h2 : s.st = 1
  · rw [lst_1 h2, outVals, if_pos h2]; simp [Function.comp_def]
  · rw [lst_2 (by omega), outVals, if_neg h2]; simp [Function.comp_def]
def RetL (w : World) (L : List (Int × Int)) (e : Ending) (w' : World) : Prop := ∃ A' c', e = .returned (.slice A' L.length c') ∧ Sl w' w'.heap.size 2 A' L.length (pcells L) ∧ Below w.heap.size w w'
theorem refVals_is (s : PC) (hok : POk s) (hk : Kin s) (A : Option Addr) (c : Nat) (w : World) (hs : Rd w w.heap.size A (lst s) c) :
    Calls Tryd.prog 19 #[.agg #[.int .i64 s.st, .slice A (lst s).length c]] w (NewOwn w 3 1 (outVals s).length (icells (outVals s))) := by
  by_cases h : s.st ≤ 2
  · rw [← lst_out hok h]
    exact refVals_lo s.st (lst s) A c w hs.sl h (lst_le hok)
  · have e : outVals s = [] := by rw [outVals, if_neg (by omega)]; exact hk.2 (by omega)
    rw [e]
    exact refVals_hi s.st (lst s) A c w h (lst_le hok)
theorem refPairs_is (s : PC) (hok : POk s) (hk : Kin s) (A : Option Addr) (c : Nat) (w : World) (hs : Rd w w.heap.size A (lst s) c) :
    Calls Tryd.prog 22 #[.agg #[.int .i64 s.st, .slice A (lst s).length c]] w (RetL w s.pairs) := by
  by_cases h : s.st ≤ 2
  · refine (refPairs_lo s.st _ w h).mono ?_
    rintro e w' ⟨rfl, hb⟩
    rw [hk.1 h]
    exact ⟨none, 0, rfl, Sl.none_, hb⟩
  · refine (refPairs_hi s.st _ w h).mono ?_
    rintro e w' ⟨rfl, hb⟩
    rw [lst_3 (by omega)] at hs ⊢
    exact ⟨A, c, rfl, hs.sl.up hb, hb⟩

structure PAct where
  kind : Int
  op : POp
  a1 : Int
  a2 : Int
def PAct.cells (a : PAct) : List Value := [.int .i64 a.kind, .int .i64 a.op.kind, .int .i64 a.op.key, .int .i64 a.op.val, .int .i64 a.op.tall, .int .i64 a.a1, .int .i64 a.a2]
def acells (l : List PAct) : List Value := l.flatMap PAct.cells
theorem acells_length (l : List PAct) : (acells l).length = l.length * 7 := by
  induction l with
  | nil => rfl
  | cons a l ih =>
    have : (PAct.cells a).length = 7 := rfl
    simp only [acells, List.flatMap_cons, List.length_append, List.length_cons] at *
    omega
theorem acells_get (l : List PAct) : ∀ (i : Nat) (_ : i < l.length) (j : Nat), j < 7 → (acells l)[i * 7 + j]? = (l[i]).cells[j]? := by
  induction l with
  | nil => intro i h; simp at h
  | cons a l ih =>
    intro i h j hj
    have ha : (PAct.cells a).length = 7 := rfl
    cases i with
    | zero =>
      simp only [acells, List.flatMap_cons, Nat.zero_mul, Nat.zero_add, List.getElem_cons_zero]
      rw [List.getElem?_append_left (by omega)]
    | succ i =>
      simp only [acells, List.flatMap_cons, List.getElem_cons_succ]
      rw [List.getElem?_append_right (by omega), ha, show (i + 1) * 7 + j - 7 = i * 7 + j from by omega]
      exact ih i (by simpa using h) j hj
theorem Sl.act {w : World} {B : Nat} {A : Option Addr} {l : List PAct} (h : Sl w B 7 A l.length (acells l)) {i : Nat} (hi : i < l.length) :
    ∃ b off, A = some ⟨b, off, none⟩ ∧ b < B ∧ w.cell? ⟨b, off + i * 7, none⟩ = some (.int .i64 l[i].kind) ∧ w.cell? ⟨b, off + i * 7 + 1, none⟩ = some (.int .i64 l[i].op.kind) ∧ w.cell? ⟨b, off + i * 7 + 2, none⟩ = some (.int .i64 l[i].op.key) ∧
      w.cell? ⟨b, off + i * 7 + 3, none⟩ = some (.int .i64 l[i].op.val) ∧ w.cell? ⟨b, off + i * 7 + 4, none⟩ = some (.int .i64 l[i].op.tall) ∧ w.cell? ⟨b, off + i * 7 + 5, none⟩ = some (.int .i64 l[i].a1) ∧ w.cell? ⟨b, off + i * 7 + 6, none⟩ = some (.int .i64 l[i].a2) := by
  obtain ⟨b, off, e, hb, hc⟩ := h.2 (by omega)
  have g := acells_get l i hi
  exact ⟨b, off, e, hb, hc _ _ (g 0 (by omega)), hc _ _ (g 1 (by omega)), hc _ _ (g 2 (by omega)), hc _ _ (g 3 (by omega)), hc _ _ (g 4 (by omega)), hc _ _ (g 5 (by omega)), hc _ _ (g 6 (by omega))⟩

/-- A block that isn't the structure's. -/
structure EX (w0 w : World) (T : TypeId) (u : Value) (g : Nat) (s t : PC) (A : Option Addr) (c : Nat) (A' : Option Addr) (c' : Nat) (U : Nat) (UA : Option Addr) (uc : Nat) : Prop where
  l : LW w0 w T u g s A c A' c'
  box : Bk w U 32 #[.int .i64 t.st, .slice UA (lst t).length uc]
  rd : Rd w w.heap.size UA (lst t) uc
  hU : w0.heap.size ≤ U
  offU : ¬ InB U g (.slice A s.vals.length c) (.slice A' s.pairs.length c')
  offA : ∀ b, (Value.slice UA (lst t).length uc).ownBlock = some b → ¬ InB b g (.slice A s.vals.length c) (.slice A' s.pairs.length c')
theorem Rd.same {w w' : World} {A : Option Addr} {L : List (Int × Int)} {c : Nat} (h : Rd w w.heap.size A L c) (hz : w.heap.size ≤ w'.heap.size) (hb : ∀ b, (Value.slice A L.length c).ownBlock = some b → w'.heap[b]? = w.heap[b]?) : Rd w' w'.heap.size A L c := by
  refine ⟨⟨h.sl.1, fun hpos => ?_⟩, h.le, h.max, h.ad.imp id fun ⟨b, off, e, hl⟩ => ⟨b, off, e, Nat.lt_of_lt_of_le hl hz⟩⟩
  obtain ⟨b, off, e, hl, hc⟩ := h.sl.2 hpos
  refine ⟨b, off, e, Nat.lt_of_lt_of_le hl hz, fun j u hu => ?_⟩
  rw [World.cell?_of_block (hb b (by rw [e]; rfl))]
  exact hc j u hu
theorem Rd.blt {w : World} {A : Option Addr} {L : List (Int × Int)} {c B : Nat} (h : Rd w B A L c) {b : Nat} (e : (Value.slice A L.length c).ownBlock = some b) : b < B := by
  rcases h.ad with ⟨rfl, _⟩ | ⟨b', off, rfl, hl⟩
  · cases e
  · have := own_row2 e; omega
section
variable {w0 w w' : World} {T : TypeId} {u : Value} {g : Nat} {s t s' : PC} {A : Option Addr} {c : Nat} {A' : Option Addr} {c' : Nat} {U : Nat} {UA : Option Addr} {uc : Nat}
theorem EX.more (h : EX w0 w T u g s t A c A' c' U UA uc) (hb : Below w.heap.size w w') : EX w0 w' T u g s t A c A' c' U UA uc :=
  ⟨h.l.more hb, h.box.belowAll hb, h.rd.up hb, h.hU, h.offU, h.offA⟩
theorem EX.alloc (h : EX w0 w T u g s t A c A' c' U UA uc) (o : Obj) : EX w0 (w.alloc o) T u g s t A c A' c' U UA uc := h.more ((Below.refl _ _).alloc (Nat.le_refl _) _)
theorem EX.drew (h : EX w0 w T u g s t A c A' c' U UA uc) : EX w0 w.drew T u g s t A c A' c' U UA uc := h.more (Below.refl _ _).drew
theorem EX.drewN (h : EX w0 w T u g s t A c A' c' U UA uc) (n : Nat) : EX w0 (w.drewN n) T u g s t A c A' c' U UA uc := h.more (below_drewN (Below.refl _ _) n)
/-- The structure is asked. -/
theorem EX.done (h : EX w0 w T u g s t A c A' c' U UA uc) {A2 : Option Addr} {c2 : Nat} {A2' : Option Addr} {c2' : Nat} (h2 : CR w' g s' A2 c2 A2' c2') (o : OnlyC w w' g (.slice A s.vals.length c) (.slice A' s.pairs.length c') (.slice A2 s'.vals.length c2) (.slice A2' s'.pairs.length c2')) (hok : POk s') :
    EX w0 w' T u g s' t A2 c2 A2' c2' U UA uc := by
  have hn : ∀ b, b < w.heap.size → ¬ InB b g (.slice A s.vals.length c) (.slice A' s.pairs.length c') → ¬ InB b g (.slice A2 s'.vals.length c2) (.slice A2' s'.pairs.length c2') ∧ w'.heap[b]? = w.heap[b]? := fun b hl hb => by
    refine ⟨fun hi => ?_, o.block b hl (fun e => hb (Or.inl e)) (fun e => hb (Or.inr (Or.inl e))) (fun e => hb (Or.inr (Or.inr e)))⟩
    rcases hi with rfl | hi | hi
    · exact hb (Or.inl rfl)
    · rcases o.fv b hi with h' | h'
      · exact hb (Or.inr (Or.inl h'))
      · omega
    · rcases o.fp b hi with h' | h'
      · exact hb (Or.inr (Or.inr h'))
      · omega
  obtain ⟨u1, u2⟩ := hn U h.box.lt h.offU
  exact ⟨h.l.done h2 o hok, h.box.same u2, h.rd.same o.size (fun b e => (hn b (h.rd.blt e) (h.offA b e)).2), h.hU, u1, fun b e => (hn b (h.rd.blt e) (h.offA b e)).1⟩
theorem EX.off (h : EX w0 w T u g s t A c A' c' U UA uc) {UA2 : Option Addr} (haf : AFresh w UA UA2) {n q : Nat} : ∀ b, (Value.slice UA2 n q).ownBlock = some b → ¬ InB b g (.slice A s.vals.length c) (.slice A' s.pairs.length c') := fun b e => by
  cases UA2 with
  | none => cases e
  | some a2 =>
    have e2 : a2.block = b := Option.some.inj e
    rcases haf a2 rfl with ⟨a0, ha0, hab⟩ | hge
    · exact h.offA b (by rw [ha0]; exact congrArg some (hab.trans e2))
    · intro hi
      have := h.l.r.inLt hi
      omega
/-- The reference's box is written. -/
theorem EX.set (h : EX w0 w T u g s t A c A' c' U UA uc) {t' : PC} (hst : t'.st = t.st) {UA' : Option Addr} {uc' : Nat} (hr : Rd w w.heap.size UA' (lst t') uc') (hf : ∀ b, (Value.slice UA' (lst t').length uc').ownBlock = some b → ¬ InB b g (.slice A s.vals.length c) (.slice A' s.pairs.length c')) :
    EX w0 ((w.setCell ⟨U, 0, none⟩ (.int .i64 t'.st)).setCell ⟨U, 1, none⟩ (.slice UA' (lst t').length uc')) T u g s t' A c A' c' U UA' uc' := by
  have hb : Below w0.heap.size w ((w.setCell ⟨U, 0, none⟩ (.int .i64 t'.st)).setCell ⟨U, 1, none⟩ (.slice UA' (lst t').length uc')) := Below.setCell (p := ⟨U, 1, none⟩) (Below.setCell (p := ⟨U, 0, none⟩) (Below.refl _ _) h.hU _) h.hU _
  have hk : ∀ b, b ≠ U → ((w.setCell ⟨U, 0, none⟩ (.int .i64 t'.st)).setCell ⟨U, 1, none⟩ (.slice UA' (lst t').length uc')).heap[b]? = w.heap[b]? := fun b hb => (Below.heap_setCell _ ⟨U, 1, none⟩ _ b hb).trans (Below.heap_setCell _ ⟨U, 0, none⟩ _ b hb)
  have hi : ∀ b, InB b g (.slice A s.vals.length c) (.slice A' s.pairs.length c') → b ≠ U := fun b hb e => h.offU (e ▸ hb)
  refine ⟨⟨h.l.below.trans hb, (hb.cell (p := ⟨0, 0, none⟩) h.l.lt).trans h.l.err, h.l.r.same (hk g (hi g (Or.inl rfl))) (fun b e => hk b (hi b (Or.inr (Or.inl e)))) (fun b e => hk b (hi b (Or.inr (Or.inr e)))), h.l.ok, h.l.lt, h.l.hg, h.l.hv, h.l.hp⟩,
    by simpa using (h.box.set_ 0 (.int .i64 t'.st)).set_ 1 (.slice UA' (lst t').length uc'), hr.setr h.box _ _, h.hU, h.offU, hf⟩
end
end Go.Proofs.YtlfbgpncdahglaaDoor
