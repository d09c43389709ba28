/- A strings.Builder beside other blocks of the call: what writes into it keep. -/
import Derived.Test.YtciioiklkaannaaGreatDoorBuild
import Derived.Test.YtciioiklkaannaaGreatDoorNum
import Derived.Test.YtciioiklkaannaaGreatDoorStore
import Derived.RangeFuncWrites
namespace Go.Proofs.YtciioiklkaannaaGreatDoor
open Go Go.RowKit
set_option linter.unusedSimpArgs false
set_option linter.unusedVariables false
set_option linter.unusedSectionVars false

abbrev tBld : TypeId := 57
abbrev tU8 : TypeId := 5

/-- The builder b holds acc; the listed blocks as listed; all below w's end as it was. -/
structure PB (w : World) (b : Nat) (L : List (Nat × TypeId × Array Value)) (acc : List UInt8) (wr : World) : Prop where
  bl : ∀ q ∈ L, Bk wr q.1 q.2.1 q.2.2
  hL : ∀ q ∈ L, q.1 ≠ b ∧ q.2.1 ≠ tU8
  bb : Lib.IsBuilderF tBld tU8 w.heap.size b (Lib.byteCells acc) wr
  below : Below w.heap.size w wr

theorem builder_same {T e : TypeId} {B b : Nat} {bs : List Value} {w w' : World} (h : Lib.IsBuilderF T e B b bs w) (h0 : w'.heap[b]? = w.heap[b]?) (hb : ∀ (k : Nat) (c : Array Value) (fz : Nat × Nat), w.heap[k]? = some (Obj.cells c e fz) → w'.heap[k]? = w.heap[k]?) : Lib.IsBuilderF T e B b bs w' := by
  have key : ∀ p, Lib.BuilderAtF T e B b p bs w → Lib.BuilderAtF T e B b p bs w' := by
    rintro p ⟨h1, v, h2, ⟨h3, h4⟩, h5⟩
    refine ⟨h1, v, h0.trans h2, ⟨h3, ?_⟩, h5⟩
    rcases h4 with h4 | ⟨g, cap, cur, fz, hv, hB, hg, rest⟩
    · exact Or.inl h4
    · exact Or.inr ⟨g, cap, cur, fz, hv, hB, (hb g _ _ hg).trans hg, rest⟩
  rcases h with h | h
  · exact Or.inl (key _ h)
  · exact Or.inr (key _ h)
theorem builder_lt {T e : TypeId} {B b : Nat} {bs : List Value} {w : World} (h : Lib.IsBuilderF T e B b bs w) : b < w.heap.size := by
  rcases h with h | h
  · exact h.lt
  · exact h.lt
theorem builder_cells {T e : TypeId} {B b : Nat} {bs : List Value} {w : World} (h : Lib.IsBuilderF T e B b bs w) : ∃ cs fz, w.heap[b]? = some (.cells cs T fz) := by
  rcases h with ⟨_, _, h, _⟩ | ⟨_, _, h, _⟩ <;> exact ⟨_, _, h⟩
theorem lt_of_heap {w : World} {k : Nat} {o : Obj} (h : w.heap[k]? = some o) : k < w.heap.size := (Array.getElem?_eq_some_iff.1 h).1
theorem builder_below {T e : TypeId} {B b : Nat} {bs : List Value} {w w' : World} (h : Lib.IsBuilderF T e B b bs w) (hb : Below w.heap.size w w') : Lib.IsBuilderF T e B b bs w' :=
  builder_same h (hb.block b (builder_lt h)) fun k _ _ hk => hb.block k (lt_of_heap hk)
theorem builder_at {T e : TypeId} {B b : Nat} {bs : List Value} {w : World} {p : Value} (h : Lib.BuilderAtF T e B b p bs w) (hp : p = .pointer none ∨ p = .pointer (some ⟨b, 0, none⟩)) : Lib.IsBuilderF T e B b bs w := by
  rcases hp with rfl | rfl
  · exact Or.inl h
  · exact Or.inr h
theorem bytes_append (l m : List UInt8) : Lib.byteCells (l ++ m) = Lib.byteCells l ++ Lib.byteCells m := by simp [Lib.byteCells]
theorem byteCells_length (l : List UInt8) : (Lib.byteCells l).length = l.length := by simp [Lib.byteCells]
theorem strCells_bs (l : List UInt8) : Lib.strCells (bs l) = Lib.byteCells l := by rw [Lib.strCells_eq, bs_data]

section
variable {w : World} {b : Nat} {L : List (Nat × TypeId × Array Value)} {acc : List UInt8} {wr w1 : World} (M : PB w b L acc wr)
include M
theorem PB.more (hb : Below wr.heap.size wr w1) : PB w b L acc w1 :=
  ⟨fun q hq => (M.bl q hq).belowAll hb, M.hL, builder_below M.bb hb, M.below.trans (hb.mono M.below.size)⟩
theorem PB.alloc (o : Obj) : PB w b L acc (wr.alloc o) := M.more ((Below.refl _ wr).alloc (Nat.le_refl _) _)
theorem PB.drew : PB w b L acc wr.drew := M.more (Below.refl _ wr).drew
theorem PB.ltb : b < wr.heap.size := builder_lt M.bb
theorem PB.stored {g : Nat} {t : TypeId} {cs cs0 : Array Value} (h0 : Bk wr g t cs0) (hst : Stored wr g t cs w1) (hg : w.heap.size ≤ g) (hgb : g ≠ b) (ht : t ≠ tU8) (hL : ∀ q ∈ L, q.1 ≠ g) : PB w b ((g, t, cs) :: L) acc w1 := by
  refine ⟨fun q hq => ?_, fun q hq => ?_, builder_same M.bb (hst.grown.block b M.ltb (by simpa using Ne.symm hgb)) (fun k c fz hk => hst.grown.block k (lt_of_heap hk) (fun e => ?_)), hst.below M.below hg⟩
  · rcases List.mem_cons.1 hq with rfl | hq
    · exact hst.bk
    · exact hst.far (M.bl q hq) (hL q hq)
  · rcases List.mem_cons.1 hq with rfl | hq
    · exact ⟨hgb, ht⟩
    · exact M.hL q hq
  · cases e
    unfold Bk at h0
    rw [h0] at hk
    simp only [Option.some.injEq, Obj.cells.injEq] at hk
    exact ht hk.2.1
theorem PB.get {k : Nat} {t : TypeId} {cs : Array Value} (h : (k, t, cs) ∈ L) : Bk wr k t cs := M.bl _ h
theorem PB.push {k : Nat} {t : TypeId} {cs : Array Value} (h : Bk wr k t cs) (hk : k ≠ b) (ht : t ≠ tU8) : PB w b ((k, t, cs) :: L) acc wr :=
  ⟨fun q hq => by
    rcases List.mem_cons.1 hq with rfl | hq
    · exact h
    · exact M.bl q hq, fun q hq => by
    rcases List.mem_cons.1 hq with rfl | hq
    · exact ⟨hk, ht⟩
    · exact M.hL q hq, M.bb, M.below⟩
theorem PB.write {l : List UInt8} (hb : Lib.BuilderAtF tBld tU8 w.heap.size b (.pointer (some ⟨b, 0, none⟩)) (Lib.byteCells acc ++ Lib.strCells (bs l)) w1) (h1 : Below w.heap.size wr w1) (h2 : Lib.OthersKept tU8 (some b) wr w1) : PB w b L (acc ++ l) w1 := by
  refine ⟨fun q hq => ?_, M.hL, ?_, M.below.trans h1⟩
  · obtain ⟨h3, h4⟩ := M.hL q hq
    exact h2 q.1 _ (M.bl q hq) (by simpa using h3) (fun c fz e => by injection e with _ e2 _; exact h4 e2)
  · rw [bytes_append, ← strCells_bs l]; exact builder_at hb (Or.inr rfl)
theorem PB.keeps (h1 : Below w.heap.size wr w1) (h2 : Lib.OthersKept tU8 (some b) wr w1) : KeepsOthers wr w1 := by
  have hb : ∃ cs fz, wr.heap[b]? = some (.cells cs tBld fz) := by
    rcases M.bb with ⟨_, _, h, _⟩ | ⟨_, _, h, _⟩ <;> exact ⟨_, _, h⟩
  refine ⟨h1.size, fun k o hk ho => h2 k o hk (fun e => ?_) (fun c fz e => ?_)⟩
  · obtain ⟨cs, fz, hb⟩ := hb
    cases e
    rw [hb] at hk
    cases hk
    cases ho
  · subst e; cases ho
theorem PB.write_call (l : List UInt8) (hl : acc.length + l.length ≤ 1000000) :
    Calls Tryz.prog 19 #[.pointer (some ⟨b, 0, none⟩), .string (bs l)] wr fun e w' => e = .returned (.tuple #[.int .i64 (bs l).size, .nilIface]) ∧ PB w b L (acc ++ l) w' ∧ KeepsOthers wr w' := by
  refine (Tryz.Builder_WriteString_k w.heap.size b (Lib.byteCells acc) (bs l) wr M.bb (by rw [byteCells_length, bs_size]; omega) M.below.size).mono ?_
  rintro e w' ⟨rfl, h1, h2, h3⟩
  exact ⟨rfl, M.write h1 h2 h3, M.keeps h2 h3⟩
end

theorem PB.pop {w : World} {b : Nat} {q : Nat × TypeId × Array Value} {L : List (Nat × TypeId × Array Value)} {acc : List UInt8} {wr : World} (M : PB w b (q :: L) acc wr) : PB w b L acc wr :=
  ⟨fun q hq => M.bl q (List.mem_cons_of_mem _ hq), fun q hq => M.hL q (List.mem_cons_of_mem _ hq), M.bb, M.below⟩
theorem PB.fresh {w w1 : World} {X : Nat} {t : TypeId} {xs : Array Value} (hB : Below w.heap.size w w1) (hX : Bk w1 X t xs) (ht : t ≠ tU8) :
    PB w w1.heap.size [(X, t, xs)] [] (w1.alloc (.cells #[.pointer none, .slice none 0 0] tBld)) := by
  have h0 := hX.lt
  refine ⟨fun q hq => ?_, fun q hq => ?_, Or.inl ⟨hB.size, _, Bk.at_ rfl, World.ownsRowF_nil _ _ _ _, by simp [Value.ownBlock]⟩, hB.alloc hB.size _⟩
  · obtain rfl := List.mem_singleton.1 hq; exact hX.alloc _
  · obtain rfl := List.mem_singleton.1 hq; exact ⟨by simp; omega, ht⟩
/-- A turn of a block at or beyond the end that is no cells. -/
theorem pb_own {w : World} {b : Nat} {L : List (Nat × TypeId × Array Value)} {B : Nat} {α : Type} (f : α → List UInt8) (hB : w.heap.size ≤ B) : OwnFrom B (fun (s : α) W => PB w b L (f s) W) := by
  intro s W W' row M hg hr
  have hc : ∀ (k : Nat) (c : Array Value) (t : TypeId) (fz : Nat × Nat), W.heap[k]? = some (.cells c t fz) → W'.heap[k]? = W.heap[k]? := fun k c t fz hk => by
    refine hg.block k (lt_of_heap hk) (fun e => ?_)
    obtain ⟨_, o, ho, hno⟩ := hr k e.symm
    rw [hk] at ho; cases ho; cases hno
  exact ⟨fun q hq => (hc _ _ _ _ (M.bl q hq)).trans (M.bl q hq), M.hL, builder_same M.bb (by obtain ⟨_, _, h⟩ := builder_cells M.bb; exact hc _ _ _ _ h) (fun k _ _ hk => hc k _ _ _ hk), M.below.grown hg M.below.size (fun k e => by have := (hr k e).1; omega)⟩
end Go.Proofs.YtciioiklkaannaaGreatDoor
