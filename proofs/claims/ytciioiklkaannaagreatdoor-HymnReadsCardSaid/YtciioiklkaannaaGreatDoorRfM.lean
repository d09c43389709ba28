/- The reference's Parse: its memory. -/
import Derived.Test.YtciioiklkaannaaGreatDoorRdQ
import Derived.Test.YtciioiklkaannaaGreatDoorRfR
import Derived.Test.YtciioiklkaannaaGreatDoorRfC
import Derived.Test.YtciioiklkaannaaGreatDoorFnRefGd
namespace Go.Proofs.YtciioiklkaannaaGreatDoor
open Go Go.RowKit
set_option linter.unusedSimpArgs false
set_option linter.unusedVariables false
set_option linter.unusedSectionVars false

def RetRP (s : ByteArray) (w : World) (e : Ending) (w' : World) : Prop :=
  Below w.heap.size w w' ∧ ((∃ y A k A' k', goodB y = true ∧ bs (textL y) = s ∧ e = .returned (.tuple #[y.v A k A' k', .bool true]) ∧ SA w' y A k A' k') ∨
    (NoG s.data.toList ∧ e = .returned (.tuple #[zScr.v none 0 none 0, .bool false])))
/-- The world while the text is read. -/
structure PR (w : World) (B : Nat) (x : PScr) (vo vp : Value) (wr : World) : Prop where
  lt : w.heap.size + 1 < B
  br : Bk wr w.heap.size 27 #[.int .i64 0, .int .i64 0, .int .i64 0, .int .i64 0, .int .i64 0, .slice none 0 0, .slice none 0 0]
  bn : Bk wr (w.heap.size + 1) 27 #[.int .i64 0, .int .i64 0, .int .i64 0, .int .i64 0, .int .i64 0, .slice none 0 0, .slice none 0 0]
  bx : Bk wr B 27 #[.int .i64 x.st, .int .i64 x.en, .int .i64 x.th, .int .i64 x.sl, .int .i64 x.no, vo, vp]
  oo : Own wr 53 5 vo x.ops.length (tcells x.ops)
  op : Own wr 3 1 vp x.picks.length (icells x.picks)
  fo : ∀ b, vo.ownBlock = some b → B < b
  fp : ∀ b, vp.ownBlock = some b → B < b
  ne : ∀ b, vo.ownBlock = some b → vp.ownBlock ≠ some b
  below : Below w.heap.size w wr
section
variable {w : World} {B : Nat} {x : PScr} {vo vp : Value} {wr w1 : World} (M : PR w B x vo vp wr)
include M
theorem PR.more (hb : Below wr.heap.size wr w1) : PR w B x vo vp w1 :=
  ⟨M.lt, M.br.belowAll hb, M.bn.belowAll hb, M.bx.belowAll hb, M.oo.below hb, M.op.below hb, M.fo, M.fp, M.ne, M.below.trans (hb.mono M.below.size)⟩
theorem PR.fld (j : Nat) (v : Value) (x' : PScr) (h1 : x'.ops = x.ops) (h2 : x'.picks = x.picks)
    (hc : (#[.int .i64 x.st, .int .i64 x.en, .int .i64 x.th, .int .i64 x.sl, .int .i64 x.no, vo, vp] : Array Value).setIfInBounds j v = #[.int .i64 x'.st, .int .i64 x'.en, .int .i64 x'.th, .int .i64 x'.sl, .int .i64 x'.no, vo, vp]) : PR w B x' vo vp (wr.setCell ⟨B, j, none⟩ v) := by
  have hl := M.lt
  have hk : ∀ b : Nat, B < b → (wr.setCell ⟨B, j, none⟩ v).heap[b]? = wr.heap[b]? := fun b hb => Below.heap_setCell wr _ _ b (by simp; omega)
  refine ⟨M.lt, M.br.far (by simp; omega) _, M.bn.far (by simp; omega) _, ?_, ?_, ?_, M.fo, M.fp, M.ne, M.below.setCell (by simp; omega) _⟩
  · have := M.bx.set_ j v
    rwa [hc] at this
  · rw [h1]; exact M.oo.kept (fun g e => hk g (M.fo g e))
  · rw [h2]; exact M.op.kept (fun g e => hk g (M.fp g e))
theorem PR.pushO {v' : Value} {ops' : List PTask} (ho : Own w1 53 5 v' ops'.length (tcells ops')) (hg : wr.grownBy w1 vo.ownBlock) (hf : Fresh wr vo v') : PR w B { x with ops := ops' } v' vp (w1.setCell ⟨B, 5, none⟩ v') := by
  have hl := M.lt
  have hz := M.bx.lt
  have hfar : ∀ k, k ≤ B → some k ≠ vo.ownBlock := fun k hk e => by have := M.fo k e.symm; omega
  have fo' : ∀ b, v'.ownBlock = some b → B < b := fun b e => by
    rcases hf b e with h | h
    · exact M.fo b h
    · omega
  have hp1 : Own w1 3 1 vp x.picks.length (icells x.picks) := M.op.grown hg (by
    cases hv : vp.ownBlock with
    | none => exact Or.inl rfl
    | some b => exact Or.inr (fun e => M.ne b e.symm hv))
  have hk : ∀ b : Nat, B < b → (w1.setCell ⟨B, 5, none⟩ v').heap[b]? = w1.heap[b]? := fun b hb => Below.heap_setCell w1 _ _ b (by simp; omega)
  refine ⟨M.lt, (M.br.grown hg (hfar _ (by omega))).far (by simp; omega) _, (M.bn.grown hg (hfar _ (by omega))).far (by simp; omega) _, ?_, ho.kept (fun g e => hk g (fo' g e)), hp1.kept (fun g e => hk g (M.fp g e)), fo', M.fp, fun b e e' => ?_, ?_⟩
  · have := (M.bx.grown hg (hfar _ (by omega))).set_ 5 v'
    simpa using this
  · rcases hf b e with h | h
    · exact M.ne b h e'
    · have := M.op.lt e'; omega
  · exact (M.below.grown hg M.below.size (fun b e => by have := M.fo b e; omega)).setCell (by simp; omega) _
theorem PR.pushP {v' : Value} {picks' : List Int} (ho : Own w1 3 1 v' picks'.length (icells picks')) (hg : wr.grownBy w1 vp.ownBlock) (hf : Fresh wr vp v') : PR w B { x with picks := picks' } vo v' (w1.setCell ⟨B, 6, none⟩ v') := by
  have hl := M.lt
  have hz := M.bx.lt
  have hfar : ∀ k, k ≤ B → some k ≠ vp.ownBlock := fun k hk e => by have := M.fp k e.symm; omega
  have fp' : ∀ b, v'.ownBlock = some b → B < b := fun b e => by
    rcases hf b e with h | h
    · exact M.fp b h
    · omega
  have hp1 : Own w1 53 5 vo x.ops.length (tcells x.ops) := M.oo.grown hg (by
    cases hv : vo.ownBlock with
    | none => exact Or.inl rfl
    | some b => exact Or.inr (fun e => M.ne b hv e.symm))
  have hk : ∀ b : Nat, B < b → (w1.setCell ⟨B, 6, none⟩ v').heap[b]? = w1.heap[b]? := fun b hb => Below.heap_setCell w1 _ _ b (by simp; omega)
  refine ⟨M.lt, (M.br.grown hg (hfar _ (by omega))).far (by simp; omega) _, (M.bn.grown hg (hfar _ (by omega))).far (by simp; omega) _, ?_, hp1.kept (fun g e => hk g (M.fo g e)), ho.kept (fun g e => hk g (fp' g e)), M.fo, fp', fun b e e' => ?_, ?_⟩
  · have := (M.bx.grown hg (hfar _ (by omega))).set_ 6 v'
    simpa using this
  · rcases hf b e' with h | h
    · exact M.ne b e h
    · have := M.oo.lt e; omega
  · exact (M.below.grown hg M.below.size (fun b e => by have := M.fp b e; omega)).setCell (by simp; omega) _
end
/-- No newline from f on below i. -/
def NoNl (D : List UInt8) (f i : Nat) : Prop := ∀ p, f ≤ p → p < i → D[p]? ≠ some 10
theorem nonl_step {s : ByteArray} {f i : Nat} (h : NoNl s.data.toList f i) (hlt : i < s.size) (h10 : s[i] ≠ 10) : NoNl s.data.toList f (i + 1) := fun p h1 h2 => by
  rcases Nat.lt_or_ge p i with h3 | h3
  · exact h p h1 h3
  · obtain rfl : p = i := by omega
    rw [s_at s p hlt]
    exact fun e => h10 (Option.some.inj e)
theorem ln_of {s : ByteArray} {f i : Nat} (h : NoNl s.data.toList f i) (hfi : f ≤ i) (hlt : i < s.size) (h10 : s[i] = 10) : Ln s.data.toList f i := ⟨hfi, by rw [s_at s i hlt, h10], h⟩
theorem ln_str (s : ByteArray) (f i : Nat) : (s.extract f i).data.toList = (s.data.toList.drop f).take (i - f) := by
  rw [ByteArray.data_extract, Array.toList_extract]
theorem rd_uni {st : Int} {t : ByteArray} {w w' : World} {e : Ending} (h : RetRd st t w e w') : Below w.heap.size w w' ∧ ∃ (tk te tv tt : Int) (bb : Bool), e = .returned (.tuple #[.agg #[.int .i64 tk, .int .i64 te, .int .i64 tv, .int .i64 tt], .bool bb]) ∧
    ((bb = true ∧ FitsP st ⟨tk, te, tv, tt⟩ ∧ bs (lineL st ⟨tk, te, tv, tt⟩) = t) ∨ (bb = false ∧ ∀ op, FitsP st op → bs (lineL st op) ≠ t)) := by
  obtain ⟨hb, ⟨⟨tk, te, tv, tt⟩, hf, ht, rfl⟩ | ⟨hn, rfl⟩⟩ := h
  · exact ⟨hb, tk, te, tv, tt, true, rfl, Or.inl ⟨rfl, hf, ht⟩⟩
  · exact ⟨hb, 0, 0, 0, 0, false, rfl, Or.inr ⟨rfl, hn⟩⟩
theorem cut_end (S : ByteArray) (p : Nat) : S.extract p S.size = bs (S.data.toList.drop p) := by
  have h := ln_str S p S.size
  rw [List.take_of_length_le (by rw [List.length_drop, s_len]; exact Nat.le_refl _)] at h
  rw [← h, s_bs]
theorem PR.alloc {w : World} {B : Nat} {x : PScr} {vo vp : Value} {wr : World} (M : PR w B x vo vp wr) (o : Obj) : PR w B x vo vp (wr.alloc o) := M.more ((Below.refl _ _).alloc (Nat.le_refl _) _)
/-- The operation read, and what it says. -/
structure RdC (w : World) (B : Nat) (x : PScr) (vo vp : Value) (Z : ByteArray) (OB : Nat) (tk te tv tt : Int) (bb : Bool) (wx : World) : Prop where
  pr : PR w B x vo vp wx
  bk : Bk wx OB 29 #[.int .i64 tk, .int .i64 te, .int .i64 tv, .int .i64 tt]
  is_ : (bb = true ∧ FitsP x.st ⟨tk, te, tv, tt⟩ ∧ bs (lineL x.st ⟨tk, te, tv, tt⟩) = Z) ∨ (bb = false ∧ ∀ op, FitsP x.st op → bs (lineL x.st op) ≠ Z)
/-- Behind n picks of a line. -/
noncomputable def pkX (x : PScr) (W : List (List UInt8)) (n : Nat) : PScr := { x with picks := x.picks ++ (List.range n).map (fun j => atV W (j + 1)) }
theorem pkX_0 (x : PScr) (W : List (List UInt8)) : pkX x W 0 = x := by cases x; simp [pkX]
theorem pkX_succ (x : PScr) (W : List (List UInt8)) (n : Nat) : { pkX x W n with picks := (pkX x W n).picks ++ [atV W (n + 1)] } = pkX x W (n + 1) := by simp [pkX, List.range_succ]
theorem pkX_len (x : PScr) (W : List (List UInt8)) (n : Nat) : (pkX x W n).picks.length = x.picks.length + n ∧ (pkX x W n).ops = x.ops := by simp [pkX]
theorem own_one {w : World} {v : Int} {g : Nat} (h : g = w.heap.size) : Own (w.alloc (.cells #[.int .i64 v] 3)) 3 1 (.slice (some ⟨g, 0, none⟩) 1 1) 1 (icells [v]) := by
  subst h
  have B0 : Bk (w.alloc (.cells #[.int .i64 v] 3)) w.heap.size 3 #[.int .i64 v] := Bk.at_ rfl
  exact ⟨by simp [icells], Or.inr ⟨w.heap.size, 0, 1, [], [], rfl, B0, rfl, Nat.le_refl _, by simp [maxLen], by simp [icells]⟩⟩
theorem WL.grown {w w' : World} {Wb Wo : Nat} {W : List (List UInt8)} {row : Option Nat} (h : WL w (some ⟨Wb, Wo, none⟩) W) (hg : w.grownBy w' row) (hne : some Wb ≠ row) : WL w' (some ⟨Wb, Wo, none⟩) W :=
  ⟨h.1, fun hn => by
    obtain ⟨b, off, e, hb, hc⟩ := h.2 hn
    cases e
    exact ⟨Wb, Wo, rfl, Nat.lt_of_lt_of_le hb hg.size, fun j u hu => (World.cell?_of_block (w := w) (w' := w') (a := ⟨Wb, Wo + j, none⟩) (hg.block Wb hb hne)).trans (hc j u hu)⟩⟩
theorem WL.set {w : World} {Wb Wo B j : Nat} {W : List (List UInt8)} (h : WL w (some ⟨Wb, Wo, none⟩) W) (hne : Wb ≠ B) (v : Value) : WL (w.setCell ⟨B, j, none⟩ v) (some ⟨Wb, Wo, none⟩) W := h.grown (grown_setCell w B j v) (by simpa using hne)
theorem noG_bs {s : ByteArray} (h : NoG s.data.toList) : ∀ y, goodB y = true → bs (textL y) ≠ s := fun y hg e => h y hg (by rw [← e, bs_data])
end Go.Proofs.YtciioiklkaannaaGreatDoor
