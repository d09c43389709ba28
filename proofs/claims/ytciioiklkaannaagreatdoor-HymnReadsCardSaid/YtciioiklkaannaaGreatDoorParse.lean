/- hymn.parse: the lines of a text. -/
import Derived.Test.YtciioiklkaannaaGreatDoorParseP
import Derived.Deep.CutBlock
namespace Go.Proofs.YtciioiklkaannaaGreatDoor
open Go Go.RowKit
set_option linter.unusedSimpArgs false
set_option linter.unusedVariables false
set_option linter.unusedSectionVars false

def NoText (s : ByteArray) : Prop := ∀ y, Canon y → bs (textL y) ≠ s
def TextOf (s : ByteArray) (x : PScr) : Prop := Canon x ∧ bs (textL x) = s ∧ ∀ y, Canon y → bs (textL y) = s → y = x
def RetParse0 (s : ByteArray) (w : World) (e : Ending) (w' : World) : Prop :=
  ∃ (x : PScr) (A : Option Addr) (c : Nat) (A' : Option Addr) (c' : Nat), Sl w' w'.heap.size 5 A x.ops.length (tcells x.ops) ∧ Sl w' w'.heap.size 1 A' x.picks.length (icells x.picks) ∧
    x.ops.length ≤ 1000000 ∧ x.picks.length ≤ 1000000 ∧ x.picks.length ≤ c' ∧ c' ≤ 9223372036854775807 ∧ (∀ b o, A = some ⟨b, o, none⟩ → w.heap.size ≤ b) ∧ (∀ b o, A' = some ⟨b, o, none⟩ → w.heap.size ≤ b) ∧ Below w.heap.size w w' ∧
    ((e = .returned (.tuple #[x.v A c A' c', .bool true]) ∧ TextOf s x) ∨ (e = .returned (.tuple #[x.v A c A' c', .bool false]) ∧ NoText s))

theorem own_sl {w : World} {t : TypeId} {sz n : Nat} {v : Value} {xs : List Value} (h : Own w t sz v n xs) : ∃ A c, v = .slice A n c ∧ Sl w w.heap.size sz A n xs := by
  rcases h.2 with ⟨hv, h0⟩ | ⟨g, off, cap, A, R, hv, hk, _, _, _, _⟩
  · subst hv h0
    exact ⟨none, 0, rfl, h.1, fun h => absurd h (by omega)⟩
  · subst hv
    exact ⟨_, cap, rfl, h.1, fun _ => ⟨g, off, rfl, hk.lt, own_cells h⟩⟩

theorem own_sl' {w : World} {t : TypeId} {sz n c : Nat} {A : Option Addr} {xs : List Value} (h : Own w t sz (.slice A n c) n xs) : Sl w w.heap.size sz A n xs := by
  obtain ⟨A', c', e, hs⟩ := own_sl h
  injection e with e1 e2 e3
  subst e1
  exact hs
theorem own_cap {w : World} {t : TypeId} {sz n c : Nat} {A : Option Addr} {xs : List Value} (h : Own w t sz (.slice A n c) n xs) : n ≤ c ∧ c ≤ 9223372036854775807 := by
  rcases h.2 with ⟨hv, h0⟩ | ⟨g, off, cap, A', R, hv, hk, _, h1, h2, _⟩
  · injection hv with e1 e2 e3
    omega
  · injection hv with e1 e2 e3
    unfold maxLen at h2
    omega
theorem infoTask : (Tryz.prog.info? 53).map (fun i => (i.zero, i.size, i.bytes)) = some (some (.agg #[.int .i64 0, .int .i64 0, .int .i64 0, .int .i64 0, .int .i64 0]), 5, 40) := by kernel_rfl
theorem tcells_append (l m : List PTask) : tcells (l ++ m) = tcells l ++ tcells m := by simp [tcells]
theorem icells_append (l m : List Int) : icells (l ++ m) = icells l ++ icells m := by simp [icells]
theorem bk_cells {w : World} {g : Nat} {t : TypeId} {cs : List Value} (h : Bk w g t cs.toArray) : ∀ j u, cs[j]? = some u → w.cell? ((⟨g, 0, none⟩ : Addr).add j) = some u := by
  intro j u hu
  rw [Addr.add_lit, Nat.zero_add, h.cell]
  simpa using hu
theorem own_task_append (w : World) (v : Value) (l : List PTask) (h : Own w 53 5 v l.length (tcells l)) (hl : l.length ≤ 100000) (x : PTask) (b : Nat) (hb : Bk w b 53 #[.int .i64 x.thread, .int .i64 x.op.kind, .int .i64 x.op.key, .int .i64 x.op.val, .int .i64 x.op.tall]) (t : TypeId) :
    ∃ v' w', (Builtin.append_ #[24, 24] t #[v, .slice (some ⟨b, 0, none⟩) 1 1]).run Tryz.prog w = .ok v' w' ∧
      Own w' 53 5 v' (l ++ [x]).length (tcells (l ++ [x])) ∧ w.grownBy w' v.ownBlock ∧ Fresh w v v' := by
  obtain ⟨i, hi, hz, hz1, hz2⟩ := info_parts infoTask
  have h0 := own_append (P := Tryz.prog) w 24 t 53 i _ 5 40 Tryz.underlying24 hi hz hz1 hz2 rfl (by omega) v l.length (tcells l) h ⟨b, 0, none⟩ 1 1 x.cells rfl (bk_cells hb) (by intro u hu; simp [PTask.cells] at hu; rcases hu with rfl | rfl | rfl | rfl | rfl <;> rfl) (by omega) (by simp only [maxLen]; omega) (by omega)
  rw [tcells_append, List.length_append]
  simpa [tcells] using h0
theorem own_ints_append (w : World) (v : Value) (l : List Int) (h : Own w 3 1 v l.length (icells l)) (hl : l.length ≤ 1000000) (ps : List Int) (q : Nat) (hq : ps.length = q) (hp : 1 ≤ q) (hp' : q ≤ 16) (N c : Nat) (hN : Own w 3 1 (.slice (some ⟨N, 0, none⟩) q c) q (icells ps)) (t : TypeId) :
    ∃ v' w', (Builtin.append_ #[25, 25] t #[v, .slice (some ⟨N, 0, none⟩) q c]).run Tryz.prog w = .ok v' w' ∧
      Own w' 3 1 v' (l ++ ps).length (icells (l ++ ps)) ∧ w.grownBy w' v.ownBlock ∧ Fresh w v v' := by
  subst hq
  obtain ⟨i, hi, hz, hz1, hz2⟩ := info_parts infoInt
  have h0 := own_append (P := Tryz.prog) w 25 t 3 i _ 1 8 Tryz.underlying25 hi hz hz1 hz2 rfl (by omega) v l.length (icells l) h ⟨N, 0, none⟩ ps.length c (icells ps) (by simp [icells]) (fun j u hu => by rw [Addr.add_lit]; exact own_cells hN j u hu)
    (by intro u hu; simp [icells] at hu; obtain ⟨_, _, rfl⟩ := hu; rfl) (by omega) (by simp only [maxLen]; omega) (by omega)
  rw [icells_append, List.length_append]
  exact h0

/-- The world while the lines are read. -/
structure PM (w : World) (L : List (List UInt8)) (st en th sl no : Int) (ops : List PTask) (picks : List Int) (vo vp : Value) (wr : World) : Prop where
  br : Bk wr w.heap.size 27 #[.int .i64 0, .int .i64 0, .int .i64 0, .int .i64 0, .int .i64 0, .slice none 0 0, .slice none 0 0]
  bx : Bk wr (w.heap.size + 1) 27 #[.int .i64 st, .int .i64 en, .int .i64 th, .int .i64 sl, .int .i64 no, vo, vp]
  bl : Bk wr (w.heap.size + 1 + 1) 9 (strs (L.map bs)).toArray
  oo : Own wr 53 5 vo ops.length (tcells ops)
  op : Own wr 3 1 vp picks.length (icells picks)
  fo : ∀ b, vo.ownBlock = some b → w.heap.size + 3 ≤ b
  fp : ∀ b, vp.ownBlock = some b → w.heap.size + 3 ≤ b
  ne : ∀ b, vo.ownBlock = some b → vp.ownBlock ≠ some b
  below : Below w.heap.size w wr
section
variable {w : World} {L : List (List UInt8)} {st en th sl no : Int} {ops : List PTask} {picks : List Int} {vo vp : Value} {wr w1 : World} (M : PM w L st en th sl no ops picks vo vp wr)
include M
theorem PM.more (hb : Below wr.heap.size wr w1) : PM w L st en th sl no ops picks vo vp w1 :=
  ⟨M.br.belowAll hb, M.bx.belowAll hb, M.bl.belowAll hb, M.oo.below hb, M.op.below hb, M.fo, M.fp, M.ne, M.below.trans (hb.mono M.below.size)⟩
theorem PM.alloc (o : Obj) : PM w L st en th sl no ops picks vo vp (wr.alloc o) := M.more ((Below.refl _ _).alloc (Nat.le_refl _) _)
theorem PM.pushO {v' : Value} {ops' : List PTask} (ho : Own w1 53 5 v' ops'.length (tcells ops')) (hg : wr.grownBy w1 vo.ownBlock) (hf : Fresh wr vo v') : PM w L st en th sl no ops' picks v' vp (w1.setCell ⟨w.heap.size + 1, 5, none⟩ v') := by
  have hz : w.heap.size + 3 ≤ wr.heap.size := by have := M.bl.lt; omega
  have hfar : ∀ k, k < w.heap.size + 3 → some k ≠ vo.ownBlock := fun k hk e => by have := M.fo k e.symm; omega
  have fo' : ∀ b, v'.ownBlock = some b → w.heap.size + 3 ≤ b := fun b e => by
    rcases hf b e with h | h
    · exact M.fo b h
    · omega
  have hp1 : Own w1 3 1 vp picks.length (icells picks) := M.op.grown hg (by
    cases hv : vp.ownBlock with
    | none => exact Or.inl rfl
    | some b => exact Or.inr (fun e => M.ne b e.symm hv))
  have hk : ∀ b : Nat, w.heap.size + 3 ≤ b → (w1.setCell ⟨w.heap.size + 1, 5, none⟩ v').heap[b]? = w1.heap[b]? := fun b hb => Below.heap_setCell w1 _ _ b (by simp; omega)
  refine ⟨(M.br.grown hg (hfar _ (by omega))).far (by simp) _, ?_, (M.bl.grown hg (hfar _ (by omega))).far (by simp) _, ho.kept (fun g e => hk g (fo' g e)), hp1.kept (fun g e => hk g (M.fp g e)), fo', M.fp, fun b e e' => ?_, ?_⟩
  · have := (M.bx.grown hg (hfar _ (by omega))).set_ 5 v'
    simpa using this
  · rcases hf b e with h | h
    · exact M.ne b h e'
    · have := M.op.lt e'; omega
  · exact (M.below.grown hg M.below.size (fun b e => by have := M.fo b e; omega)).setCell (by simp) _
theorem PM.pushP {v' : Value} {picks' : List Int} (ho : Own w1 3 1 v' picks'.length (icells picks')) (hg : wr.grownBy w1 vp.ownBlock) (hf : Fresh wr vp v') : PM w L st en th sl no ops picks' vo v' (w1.setCell ⟨w.heap.size + 1, 6, none⟩ v') := by
  have hz : w.heap.size + 3 ≤ wr.heap.size := by have := M.bl.lt; omega
  have hfar : ∀ k, k < w.heap.size + 3 → some k ≠ vp.ownBlock := fun k hk e => by have := M.fp k e.symm; omega
  have fp' : ∀ b, v'.ownBlock = some b → w.heap.size + 3 ≤ b := fun b e => by
    rcases hf b e with h | h
    · exact M.fp b h
    · omega
  have hp1 : Own w1 53 5 vo ops.length (tcells ops) := M.oo.grown hg (by
    cases hv : vo.ownBlock with
    | none => exact Or.inl rfl
    | some b => exact Or.inr (fun e => M.ne b hv e.symm))
  have hk : ∀ b : Nat, w.heap.size + 3 ≤ b → (w1.setCell ⟨w.heap.size + 1, 6, none⟩ v').heap[b]? = w1.heap[b]? := fun b hb => Below.heap_setCell w1 _ _ b (by simp; omega)
  refine ⟨(M.br.grown hg (hfar _ (by omega))).far (by simp) _, ?_, (M.bl.grown hg (hfar _ (by omega))).far (by simp) _, hp1.kept (fun g e => hk g (M.fo g e)), ho.kept (fun g e => hk g (fp' g e)), M.fo, fp', fun b e e' => ?_, ?_⟩
  · have := (M.bx.grown hg (hfar _ (by omega))).set_ 6 v'
    simpa using this
  · rcases hf b e' with h | h
    · exact M.ne b e h
    · have := M.oo.lt e; omega
  · exact (M.below.grown hg M.below.size (fun b e => by have := M.fp b e; omega)).setCell (by simp) _
end
theorem PInv.sizes {l0 : List UInt8} {ls : List (List UInt8)} {st en th sl no : Int} {k : Nat} {ops : List PTask} {picks : List Int} (P : PInv l0 ls st en th sl no k ops picks) : ops.length ≤ ls.length ∧ picks.length ≤ 16 * ls.length := by
  have h1 := congrArg List.length P.lines
  have h2 := chunks_len picks
  have h3 := P.hk
  simp only [List.length_take, List.length_append, List.length_map] at h1
  omega
end Go.Proofs.YtciioiklkaannaaGreatDoor
