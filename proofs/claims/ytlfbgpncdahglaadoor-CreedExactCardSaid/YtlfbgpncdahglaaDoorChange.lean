/- What an operation changes: Creed.change. -/
import Derived.Test.YtlfbgpncdahglaaDoorCreed
import Derived.Test.YtlfbgpncdahglaaDoorFnDelete
namespace Go.Proofs.YtlfbgpncdahglaaDoor
open Go Go.RowKit
set_option linter.unusedSimpArgs false
set_option linter.unusedVariables false
set_option linter.unusedSectionVars false

theorem Own.form {w : World} {e : TypeId} {sz n : Nat} {v : Value} {xs : List Value} (h : Own w e sz v n xs) : ∃ A c, v = .slice A n c ∧ n ≤ c ∧ c ≤ 9223372036854775807 := by
  rcases h.2 with ⟨rfl, rfl⟩ | ⟨g, off, cap, A, R, rfl, hk, _, hn, hc, _⟩
  · exact ⟨_, _, rfl, Nat.le_refl _, by decide⟩
  · exact ⟨_, _, rfl, hn, by simpa [maxLen] using hc⟩

/-- Nothing older has changed but the block g and those of v and p; what v' and p' stand on is theirs or new. -/
structure OnlyC (w w' : World) (g : Nat) (v p v' p' : Value) : Prop where
  os : w'.os = w.os
  tape : w'.tape = w.tape
  output : w'.output = w.output
  size : w.heap.size ≤ w'.heap.size
  block : ∀ b, b < w.heap.size → b ≠ g → v.ownBlock ≠ some b → p.ownBlock ≠ some b → w'.heap[b]? = w.heap[b]?
  fv : Fresh w v v'
  fp : Fresh w p p'

theorem Fresh.refl (w : World) (v : Value) : Fresh w v v := fun _ h => Or.inl h
theorem Fresh.trans {w w' : World} {v v1 v2 : Value} (h : Fresh w v v1) (h' : Fresh w' v1 v2) (hs : w.heap.size ≤ w'.heap.size) : Fresh w v v2 := fun g hg => by
  rcases h' g hg with h1 | h1
  · exact h g h1
  · exact Or.inr (by omega)

theorem Fresh.mono {w w' : World} {v v' : Value} (h : Fresh w' v v') (hs : w.heap.size ≤ w'.heap.size) : Fresh w v v' := fun g hg => (h g hg).imp id fun h1 => by omega

theorem OnlyC.of_below {w w' : World} (h : Below w.heap.size w w') (g : Nat) (v p : Value) : OnlyC w w' g v p v p :=
  ⟨h.os, h.tape, h.output, h.size, fun b hb _ _ _ => h.block b hb, Fresh.refl _ _, Fresh.refl _ _⟩
theorem OnlyC.trans {w w1 w2 : World} {g : Nat} {v p v1 p1 v2 p2 : Value} (h : OnlyC w w1 g v p v1 p1) (h' : OnlyC w1 w2 g v1 p1 v2 p2) : OnlyC w w2 g v p v2 p2 :=
  ⟨h'.os.trans h.os, h'.tape.trans h.tape, h'.output.trans h.output, Nat.le_trans h.size h'.size, fun b hb hg hv hp => by
    refine (h'.block b (Nat.lt_of_lt_of_le hb h.size) hg ?_ ?_).trans (h.block b hb hg hv hp)
    · intro e; rcases h.fv b e with h1 | h1
      · exact hv h1
      · omega
    · intro e; rcases h.fp b e with h1 | h1
      · exact hp h1
      · omega, h.fv.trans h'.fv h.size, h.fp.trans h'.fp h.size⟩
theorem OnlyC.below {w w' : World} {g B : Nat} {v p v' p' : Value} (h : OnlyC w w' g v p v' p') (hB : B ≤ w.heap.size) (hg : B ≤ g) (hv : ∀ b, v.ownBlock = some b → B ≤ b) (hp : ∀ b, p.ownBlock = some b → B ≤ b) : Below B w w' :=
  ⟨h.os, h.tape, h.output, h.size, fun b hb => h.block b (by omega) (by omega) (fun e => by have := hv b e; omega) (fun e => by have := hp b e; omega)⟩

/-- The structure s' comes to lie there. -/
def RetS (w : World) (g : Nat) (v p : Value) (s' : PC) (w' : World) : Prop :=
  ∃ A c A' c', CR w' g s' A c A' c' ∧ OnlyC w w' g v p (.slice A s'.vals.length c) (.slice A' s'.pairs.length c')
def RetU (w : World) (g : Nat) (v p : Value) (s' : PC) (e : Ending) (w' : World) : Prop := e = .returned (.tuple #[]) ∧ RetS w g v p s' w'

/-- New values are stored. -/
theorem CR.setV {w w4 : World} {g : Nat} {s : PC} {A : Option Addr} {c : Nat} {A' : Option Addr} {c' : Nat} (h : CR w g s A c A' c') (hb : ∀ b, b < w.heap.size → (Value.slice A s.vals.length c).ownBlock ≠ some b → w4.heap[b]? = w.heap[b]?)
    (hos : w4.os = w.os) (htp : w4.tape = w.tape) (hout : w4.output = w.output) (hsz : w.heap.size ≤ w4.heap.size)
    (vals' : List Int) (v' : Value) (hv : Own w4 3 1 v' vals'.length (icells vals')) (hf : Fresh w (.slice A s.vals.length c) v') :
    RetS w g (.slice A s.vals.length c) (.slice A' s.pairs.length c') { s with vals := vals' } (w4.setCell ⟨g, 1, none⟩ v') := by
  obtain ⟨A2, c2, rfl, _, _⟩ := hv.form
  have hg := h.k.lt
  have hkg : Bk w4 g 66 #[.int .i64 s.st, .slice A s.vals.length c, .slice A' s.pairs.length c'] := h.k.same (hb g hg h.vg)
  have hv2g : (Value.slice A2 vals'.length c2).ownBlock ≠ some g := fun e => by
    rcases hf g e with h1 | h1
    · exact h.vg h1
    · omega
  have hpk : ∀ b, (Value.slice A' s.pairs.length c').ownBlock = some b → w4.heap[b]? = w.heap[b]? := fun b e => hb b (h.p.lt e) (fun e' => h.vp b e' e)
  have hset : ∀ b, b ≠ g → (w4.setCell ⟨g, 1, none⟩ (.slice A2 vals'.length c2)).heap[b]? = w4.heap[b]? := fun b hne => Below.heap_setCell w4 ⟨g, 1, none⟩ _ b (fun e => hne e)
  refine ⟨A2, c2, A', c', ⟨hkg.set_ 1 _, ?_, ?_, hv2g, h.pg, ?_⟩, ⟨hos, htp, hout, by simpa [World.setCell] using hsz, fun b hlt hbg hbv hbp => (hset b hbg).trans (hb b hlt hbv), hf, Fresh.refl _ _⟩⟩
  · exact hv.kept fun b e => hset b (fun e' => hv2g (e'.symm ▸ e))
  · exact h.p.kept fun b e => (hset b (fun e' => h.pg (e'.symm ▸ e))).trans (hpk b e)
  · intro b e e'
    rcases hf b e with h1 | h1
    · exact h.vp b h1 e'
    · have := h.p.lt e'; omega

/-- New pairs are stored. -/
theorem CR.setP {w w4 : World} {g : Nat} {s : PC} {A : Option Addr} {c : Nat} {A' : Option Addr} {c' : Nat} (h : CR w g s A c A' c') (hb : ∀ b, b < w.heap.size → (Value.slice A' s.pairs.length c').ownBlock ≠ some b → w4.heap[b]? = w.heap[b]?)
    (hos : w4.os = w.os) (htp : w4.tape = w.tape) (hout : w4.output = w.output) (hsz : w.heap.size ≤ w4.heap.size)
    (l : List (Int × Int)) (v' : Value) (hv : Own w4 94 2 v' l.length (pcells l)) (hf : Fresh w (.slice A' s.pairs.length c') v') :
    RetS w g (.slice A s.vals.length c) (.slice A' s.pairs.length c') { s with pairs := l } (w4.setCell ⟨g, 2, none⟩ v') := by
  obtain ⟨A2, c2, rfl, _, _⟩ := hv.form
  have hg := h.k.lt
  have hkg : Bk w4 g 66 #[.int .i64 s.st, .slice A s.vals.length c, .slice A' s.pairs.length c'] := h.k.same (hb g hg h.pg)
  have hv2g : (Value.slice A2 l.length c2).ownBlock ≠ some g := fun e => by
    rcases hf g e with h1 | h1
    · exact h.pg h1
    · omega
  have hpk : ∀ b, (Value.slice A s.vals.length c).ownBlock = some b → w4.heap[b]? = w.heap[b]? := fun b e => hb b (h.v.lt e) (fun e' => h.vp b e e')
  have hset : ∀ b, b ≠ g → (w4.setCell ⟨g, 2, none⟩ (.slice A2 l.length c2)).heap[b]? = w4.heap[b]? := fun b hne => Below.heap_setCell w4 ⟨g, 2, none⟩ _ b (fun e => hne e)
  refine ⟨A, c, A2, c2, ⟨hkg.set_ 2 _, ?_, ?_, h.vg, hv2g, ?_⟩, ⟨hos, htp, hout, by simpa [World.setCell] using hsz, fun b hlt hbg hbv hbp => (hset b hbg).trans (hb b hlt hbp), Fresh.refl _ _, hf⟩⟩
  · exact h.v.kept fun b e => (hset b (fun e' => h.vg (e'.symm ▸ e))).trans (hpk b e)
  · exact hv.kept fun b e => hset b (fun e' => hv2g (e'.symm ▸ e))
  · intro b e e'
    rcases hf b e' with h1 | h1
    · exact h.vp b e h1
    · have := h.v.lt e; omega

theorem own_ints_append (w : World) (v : Value) (l : List Int) (h : Own w 3 1 v l.length (icells l)) (hl : l.length ≤ 100000) (x : Int) (b : Nat) (hb : Bk w b 3 #[.int .i64 x]) (t : TypeId) :
    ∃ v' w', (Builtin.append_ #[48, 48] t #[v, .slice (some ⟨b, 0, none⟩) 1 1]).run Tryd.prog w = .ok v' w' ∧
      Own w' 3 1 v' (l ++ [x]).length (icells (l ++ [x])) ∧ w.grownBy w' v.ownBlock ∧ Fresh w v v' := by
  obtain ⟨i, hi, hz, hz1, hz2⟩ := info_parts infoInt
  have h0 := own_append (P := Tryd.prog) w 48 t 3 i _ 1 8 Tryd.underlying48 hi hz hz1 hz2 rfl (by omega) v l.length (icells l) h ⟨b, 0, none⟩ 1 1 [.int .i64 x] rfl (bk_cells hb) (by intro u hu; simp at hu; rw [hu]; rfl) (by omega) (by simp only [maxLen]; omega) (by omega)
  simpa [icells] using h0

section
variable (w : World) (g : Nat) (s : PC) (A : Option Addr) (c : Nat) (A' : Option Addr) (c' : Nat) (h : CR w g s A c A' c') (hok : POk s) (kind key val tall : Int) (av : Int)
include h

set_option maxHeartbeats 400000 in
/-- An answer that is no Yes: nothing changes. -/
theorem change_not (code : Int) (hc : code ≠ 1) : Calls Tryd.prog 38 #[.pointer (some ⟨g, 0, none⟩), .agg #[.int .i64 kind, .int .i64 key, .int .i64 val, .int .i64 tall], .agg #[.int .i64 code, .int .i64 av]] w (RetU w g (.slice A s.vals.length c) (.slice A' s.pairs.length c') s) := by
  have hc1 : (code != 1) = true := by simpa using hc
  clear hc
  go_enter Tryd.func38, Tryd.ntmps38
  go_wp2_with fail
  go_end0
  exact ⟨rfl, _, _, _, _, (h.alloc _).alloc _, OnlyC.of_below (by (repeat' (first | (with_reducible exact Below.refl _ _) | (with_reducible assumption) | (with_reducible refine Below.alloc ?_ ?_ _) | (with_reducible refine Below.drew ?_) | (with_reducible refine below_drewN ?_ _) | (with_reducible refine Below.setCell ?_ ?_ _) | go_size))) _ _ _⟩

include hok
set_option maxRecDepth 100000 in
set_option maxHeartbeats 800000 in
theorem change_put (hk : kind = 1 ∨ kind = 4) : Calls Tryd.prog 38 #[.pointer (some ⟨g, 0, none⟩), .agg #[.int .i64 kind, .int .i64 key, .int .i64 val, .int .i64 tall], .agg #[.int .i64 1, .int .i64 av]] w (RetU w g (.slice A s.vals.length c) (.slice A' s.pairs.length c') { s with vals := s.vals ++ [val] }) := by
  obtain ⟨c0, c1, c2⟩ := h.cells
  have hg := h.k.lt
  have hl := hok.lv
  rcases hk with rfl | rfl
  · (have h1 := ((h.alloc (.cells #[.int .i64 1, .int .i64 key, .int .i64 val, .int .i64 tall] 34)).alloc (.cells #[.int .i64 1, .int .i64 av] 36)).drew; have KB : Bk (((w.alloc (.cells #[.int .i64 1, .int .i64 key, .int .i64 val, .int .i64 tall] 34)).alloc (.cells #[.int .i64 1, .int .i64 av] 36)).drew) w.heap.size 34 #[.int .i64 1, .int .i64 key, .int .i64 val, .int .i64 tall] := ((Bk.at_ rfl).alloc _).drew; have h3 := h1.alloc (.cells #[.int .i64 val] 3); have hB : Below w.heap.size w ((((w.alloc (.cells #[.int .i64 1, .int .i64 key, .int .i64 val, .int .i64 tall] 34)).alloc (.cells #[.int .i64 1, .int .i64 av] 36)).drew).alloc (.cells #[.int .i64 val] 3)) := (by (repeat' (first | (with_reducible exact Below.refl _ _) | (with_reducible assumption) | (with_reducible refine Below.alloc ?_ ?_ _) | (with_reducible refine Below.drew ?_) | (with_reducible refine below_drewN ?_ _) | (with_reducible refine Below.setCell ?_ ?_ _) | go_size))); obtain ⟨v', w4, hrun, ho, hgr, hf⟩ := own_ints_append _ _ _ h3.v (by omega) val (w.heap.size + 1 + 1) (Bk.at_ (by simp)) 48; obtain ⟨A2, c3, rfl, _, _⟩ := ho.form; have K4 := h3.k.grown hgr (fun e => h.vg e.symm); have KB4 := (KB.alloc (.cells #[.int .i64 val] 3)).grown hgr (fun e => by have := h.v.lt e.symm; omega); have d1 := K4.cell 1; have q1 := K4.free 1; simp at d1; have hR : RetS w g (.slice A s.vals.length c) (.slice A' s.pairs.length c') { s with vals := s.vals ++ [val] } (w4.setCell ⟨g, 1, none⟩ (.slice A2 (s.vals ++ [val]).length c3)) := h.setV (fun b hb hv => (hgr.block b (Nat.lt_of_lt_of_le hb hB.size) (fun e => hv e.symm)).trans (hB.block b hb)) (hgr.os.trans hB.os) (hgr.tape.trans hB.tape) (hgr.output.trans hB.output) (Nat.le_trans hB.size hgr.size) _ _ ho (hf.mono hB.size); have HR := Lib.hid (And.intro hrun hR); clear hrun hR hgr ho hf hB; go_enter Tryd.func38, Tryd.ntmps38; go_wp2_with fail; refine wp_region_T (fun w' => w'.cell? ⟨g, 1, none⟩ = some (.slice A s.vals.length c) ∧ w'.cell? ⟨w.heap.size, 2, none⟩ = some (.int .i64 val)) 10 (by kernel_rfl) ⟨h1.cells.2.1, KB.cell 2⟩ (fun hS => ?_); ((try simp only [Act.put, List.setIfInBounds_toArray, List.set_cons_succ, List.set_cons_zero]); refine wpT_batch (fuel := 6) (by kernel_rfl) (by kernel_rfl) (fun d => by cases d <;> exact fun _ _ _ _ h => h) hS [0, 1, 2, 3, 4, 5, 6, 7] _ _ (by kernel_rfl) ?_; simp only [pickOps, nthOp, List.toList_toArray]; (repeat (first | go_big_quiet_skip | (go_big_quiet_want; first | (go_big_quiet_op; go_big_quiet_on) | (apply Exists.intro; refine ⟨fun w' hS' => ?_, ?_⟩; (· (obtain ⟨f1, f2⟩ := hS'; go_simp; first | done | rfl | exact ⟨rfl, rfl⟩)); go_big_quiet_on; simp only [Act.put, List.setIfInBounds_toArray, List.set_cons_succ, List.set_cons_zero])))); refine wpQuiet_nil ?_; (try dsimp only)); (refine wpT_loudN 8 (by kernel_rfl) (fun K hK => ?_); simp only [nthOp, List.toList_toArray]); go_wp2_with fail; refine hK.out _ _ (fun _ => ⟨h3.cells.2.1, (KB.alloc _).cell 2⟩) ?_; clear hK; (refine wpT_loudN 9 (by kernel_rfl) (fun K hK => ?_); simp only [nthOp, List.toList_toArray]); refine wpList_append_run (by rfl) _ _ _ _ _ _ _ (by rfl) (by rfl) (by rfl) HR.out.1 ?_; go_wp2_with fail; refine hK.out _ _ (fun _ => ⟨K4.cell 1, KB4.cell 2⟩) ?_; clear hK; ((refine wpT_loudN 10 (by kernel_rfl) (fun K hK => ?_); simp only [nthOp, List.toList_toArray]); go_wp2_with fail; refine hK.out _ _ (fun h => absurd h (by omega)) ?_; clear hK); ((refine wpT_loudN 11 (by kernel_rfl) (fun K hK => ?_); simp only [nthOp, List.toList_toArray]); go_wp2_with fail; refine hK.out _ _ (fun h => absurd h (by omega)) ?_; clear hK); ((refine wpT_loudN 12 (by kernel_rfl) (fun K hK => ?_); simp only [nthOp, List.toList_toArray]); go_wp2_with fail; refine hK.out _ _ (fun h => absurd h (by omega)) ?_; clear hK); ((refine wpT_loudN 13 (by kernel_rfl) (fun K hK => ?_); simp only [nthOp, List.toList_toArray]); go_wp2_with fail; refine hK.out _ _ (fun h => absurd h (by omega)) ?_; clear hK); refine wpT_done (by kernel_rfl) ?_ _; go_wp2_with fail; go_end0; exact ⟨rfl, by simpa using HR.out.2⟩)
  · (have h1 := ((h.alloc (.cells #[.int .i64 4, .int .i64 key, .int .i64 val, .int .i64 tall] 34)).alloc (.cells #[.int .i64 1, .int .i64 av] 36)).drew; have KB : Bk (((w.alloc (.cells #[.int .i64 4, .int .i64 key, .int .i64 val, .int .i64 tall] 34)).alloc (.cells #[.int .i64 1, .int .i64 av] 36)).drew) w.heap.size 34 #[.int .i64 4, .int .i64 key, .int .i64 val, .int .i64 tall] := ((Bk.at_ rfl).alloc _).drew; have h3 := h1.alloc (.cells #[.int .i64 val] 3); have hB : Below w.heap.size w ((((w.alloc (.cells #[.int .i64 4, .int .i64 key, .int .i64 val, .int .i64 tall] 34)).alloc (.cells #[.int .i64 1, .int .i64 av] 36)).drew).alloc (.cells #[.int .i64 val] 3)) := (by (repeat' (first | (with_reducible exact Below.refl _ _) | (with_reducible assumption) | (with_reducible refine Below.alloc ?_ ?_ _) | (with_reducible refine Below.drew ?_) | (with_reducible refine below_drewN ?_ _) | (with_reducible refine Below.setCell ?_ ?_ _) | go_size))); obtain ⟨v', w4, hrun, ho, hgr, hf⟩ := own_ints_append _ _ _ h3.v (by omega) val (w.heap.size + 1 + 1) (Bk.at_ (by simp)) 48; obtain ⟨A2, c3, rfl, _, _⟩ := ho.form; have K4 := h3.k.grown hgr (fun e => h.vg e.symm); have KB4 := (KB.alloc (.cells #[.int .i64 val] 3)).grown hgr (fun e => by have := h.v.lt e.symm; omega); have d1 := K4.cell 1; have q1 := K4.free 1; simp at d1; have hR : RetS w g (.slice A s.vals.length c) (.slice A' s.pairs.length c') { s with vals := s.vals ++ [val] } (w4.setCell ⟨g, 1, none⟩ (.slice A2 (s.vals ++ [val]).length c3)) := h.setV (fun b hb hv => (hgr.block b (Nat.lt_of_lt_of_le hb hB.size) (fun e => hv e.symm)).trans (hB.block b hb)) (hgr.os.trans hB.os) (hgr.tape.trans hB.tape) (hgr.output.trans hB.output) (Nat.le_trans hB.size hgr.size) _ _ ho (hf.mono hB.size); have HR := Lib.hid (And.intro hrun hR); clear hrun hR hgr ho hf hB; go_enter Tryd.func38, Tryd.ntmps38; go_wp2_with fail; refine wp_region_T (fun w' => w'.cell? ⟨g, 1, none⟩ = some (.slice A s.vals.length c) ∧ w'.cell? ⟨w.heap.size, 2, none⟩ = some (.int .i64 val)) 10 (by kernel_rfl) ⟨h1.cells.2.1, KB.cell 2⟩ (fun hS => ?_); ((try simp only [Act.put, List.setIfInBounds_toArray, List.set_cons_succ, List.set_cons_zero]); refine wpT_batch (fuel := 6) (by kernel_rfl) (by kernel_rfl) (fun d => by cases d <;> exact fun _ _ _ _ h => h) hS [0, 1, 2, 3, 4, 5, 6, 7] _ _ (by kernel_rfl) ?_; simp only [pickOps, nthOp, List.toList_toArray]; (repeat (first | go_big_quiet_skip | (go_big_quiet_want; first | (go_big_quiet_op; go_big_quiet_on) | (apply Exists.intro; refine ⟨fun w' hS' => ?_, ?_⟩; (· (obtain ⟨f1, f2⟩ := hS'; go_simp; first | done | rfl | exact ⟨rfl, rfl⟩)); go_big_quiet_on; simp only [Act.put, List.setIfInBounds_toArray, List.set_cons_succ, List.set_cons_zero])))); refine wpQuiet_nil ?_; (try dsimp only)); (refine wpT_loudN 8 (by kernel_rfl) (fun K hK => ?_); simp only [nthOp, List.toList_toArray]); go_wp2_with fail; refine hK.out _ _ (fun _ => ⟨h3.cells.2.1, (KB.alloc _).cell 2⟩) ?_; clear hK; (refine wpT_loudN 9 (by kernel_rfl) (fun K hK => ?_); simp only [nthOp, List.toList_toArray]); refine wpList_append_run (by rfl) _ _ _ _ _ _ _ (by rfl) (by rfl) (by rfl) HR.out.1 ?_; go_wp2_with fail; refine hK.out _ _ (fun _ => ⟨K4.cell 1, KB4.cell 2⟩) ?_; clear hK; ((refine wpT_loudN 10 (by kernel_rfl) (fun K hK => ?_); simp only [nthOp, List.toList_toArray]); go_wp2_with fail; refine hK.out _ _ (fun h => absurd h (by omega)) ?_; clear hK); ((refine wpT_loudN 11 (by kernel_rfl) (fun K hK => ?_); simp only [nthOp, List.toList_toArray]); go_wp2_with fail; refine hK.out _ _ (fun h => absurd h (by omega)) ?_; clear hK); ((refine wpT_loudN 12 (by kernel_rfl) (fun K hK => ?_); simp only [nthOp, List.toList_toArray]); go_wp2_with fail; refine hK.out _ _ (fun h => absurd h (by omega)) ?_; clear hK); ((refine wpT_loudN 13 (by kernel_rfl) (fun K hK => ?_); simp only [nthOp, List.toList_toArray]); go_wp2_with fail; refine hK.out _ _ (fun h => absurd h (by omega)) ?_; clear hK); refine wpT_done (by kernel_rfl) ?_ _; go_wp2_with fail; go_end0; exact ⟨rfl, by simpa using HR.out.2⟩)

omit h hok in
theorem icells_snoc (l : List Int) (x : Int) : icells (l ++ [x]) = icells l ++ [.int .i64 x] := by simp [icells]
omit h hok in
theorem own_cut {w : World} {e : TypeId} {sz : Nat} {A : Option Addr} {n c : Nat} {xs ys : List Value} (h : Own w e sz (.slice A (n + 1) c) (n + 1) (xs ++ ys)) (hl : xs.length = n * sz) : Own w e sz (.slice A n c) n xs := by
  refine ⟨hl, ?_⟩
  rcases h.2 with ⟨_, h'⟩ | ⟨g, off, cap, A, R, hv, hk, hA, hn, hc, hs⟩
  · omega
  · cases hv
    refine .inr ⟨g, off, c, A, ys ++ R, rfl, ?_, hA, by omega, hc, ?_⟩
    · rw [List.append_assoc] at hk
      exact hk
    · simp only [List.length_append] at hs ⊢
      omega

omit h hok in
theorem own_tail {w : World} {e : TypeId} {sz : Nat} {g off c n : Nat} {xs ys : List Value} (h : Own w e sz (.slice (some ⟨g, off, none⟩) (n + 1) c) (n + 1) (xs ++ ys)) (hl : xs.length = sz) (hc : c ≠ 1) : Own w e sz (.slice (some ⟨g, off + sz, none⟩) n (c - 1)) n ys := by
  have h1 := h.1
  rw [List.length_append, Nat.add_mul] at h1
  refine ⟨by omega, ?_⟩
  rcases h.2 with ⟨_, h'⟩ | ⟨g, off, cap, A, R, hv, hk, hA, hn, hc, hs⟩
  · omega
  · cases hv
    refine .inr ⟨g, off + sz, c - 1, A ++ xs, R, rfl, ?_, by rw [List.length_append]; omega, by omega, by omega, ?_⟩
    · simp only [List.append_assoc] at hk ⊢
      exact hk
    · simp only [List.length_append] at hs
      rw [Nat.sub_mul]
      omega
omit h hok in
theorem own_none {w : World} {e : TypeId} {sz : Nat} {g off n : Nat} {xs : List Value} (h : Own w e sz (.slice (some ⟨g, off, none⟩) n 1) n xs) : Own w e sz (.slice (some ⟨g, off, none⟩) 0 0) 0 [] := by
  refine ⟨by simp, ?_⟩
  rcases h.2 with ⟨h', _⟩ | ⟨g, off, cap, A, R, hv, hk, hA, hn, hc, hs⟩
  · cases h'
  · cases hv
    refine .inr ⟨g, off, 0, A, xs ++ R, rfl, ?_, hA, by omega, by omega, by omega⟩
    simpa using hk

set_option maxRecDepth 100000 in
set_option maxHeartbeats 800000 in
theorem change_pop (hn : s.vals ≠ []) : Calls Tryd.prog 38 #[.pointer (some ⟨g, 0, none⟩), .agg #[.int .i64 2, .int .i64 key, .int .i64 val, .int .i64 tall], .agg #[.int .i64 1, .int .i64 av]] w (RetU w g (.slice A s.vals.length c) (.slice A' s.pairs.length c') { s with vals := s.vals.dropLast }) := by
  obtain ⟨c0, c1, c2⟩ := h.cells
  have hg := h.k.lt
  obtain ⟨b, off, rfl, hbb, hq0⟩ := h.v.sl.pick (i := 0) (List.length_pos_iff.2 hn)
  clear hq0
  have hl := hok.lv
  obtain ⟨m, hm⟩ : ∃ m, s.vals.length = m + 1 := ⟨s.vals.length - 1, by have := List.length_pos_iff.2 hn; omega⟩
  have h1 := ((h.alloc (.cells #[.int .i64 2, .int .i64 key, .int .i64 val, .int .i64 tall] 34)).alloc (.cells #[.int .i64 1, .int .i64 av] 36)).drew
  have hB : Below w.heap.size w (((w.alloc (.cells #[.int .i64 2, .int .i64 key, .int .i64 val, .int .i64 tall] 34)).alloc (.cells #[.int .i64 1, .int .i64 av] 36)).drew) := by (repeat' (first | (with_reducible exact Below.refl _ _) | (with_reducible assumption) | (with_reducible refine Below.alloc ?_ ?_ _) | (with_reducible refine Below.drew ?_) | (with_reducible refine below_drewN ?_ _) | (with_reducible refine Below.setCell ?_ ?_ _) | go_size))
  have hd : s.vals.dropLast.length = m := by rw [List.length_dropLast]; omega
  have hsplit : icells s.vals = icells s.vals.dropLast ++ [.int .i64 (s.vals.getLast hn)] :=
    (congrArg icells (List.dropLast_concat_getLast hn)).symm.trans (icells_snoc _ _)
  have ho := h1.v
  rw [hsplit, hm] at ho
  have ho2 := own_cut ho (by rw [icells_length, hd]; omega)
  have hR : RetS w g (.slice (some ⟨b, off, none⟩) s.vals.length c) (.slice A' s.pairs.length c') { s with vals := s.vals.dropLast } ((((w.alloc (.cells #[.int .i64 2, .int .i64 key, .int .i64 val, .int .i64 tall] 34)).alloc (.cells #[.int .i64 1, .int .i64 av] 36)).drew).setCell ⟨g, 1, none⟩ (.slice (some ⟨b, off, none⟩) m c)) :=
    h.setV (fun b hb _ => hB.block b hb) hB.os hB.tape hB.output hB.size _ (.slice (some ⟨b, off, none⟩) m c) (by rw [hd]; exact ho2) (fun b e => Or.inl e)
  have d1 := h1.cells.2.1
  have q1 := h1.k.free 1
  have hcap := (h.v.form)
  have hle : m + 1 ≤ c := by
    obtain ⟨A3, c3, e, h3, _⟩ := hcap
    cases e
    omega
  have hlen := h.v.form
  have hc63 : c ≤ 9223372036854775807 := by
    obtain ⟨A3, c3, e, _, h3⟩ := hlen
    cases e
    exact h3
  have HR := Lib.hid hR; clear hR hsplit ho ho2 hB hcap hlen hn
  have HD := Lib.hid hd; clear hd
  rw [hm] at c1 d1 hl HR ⊢
  have HM := Lib.hid hm; clear hm
  go_enter Tryd.func38, Tryd.ntmps38
  go_wp2_with fail
  have hmm : IntKind.i64.wrap (m : Int) = (m : Int) := IntWalk.i64_in _ (by omega)
  have hb0 : (0 : Int) ≤ (m : Int) := by omega
  have hb1 : (m : Int) ≤ (c : Int) := by omega
  refine wp_region_T (fun w' => w'.cell? ⟨g, 1, none⟩ = some (.slice (some ⟨b, off, none⟩) (m + 1) c)) 14 (by kernel_rfl) d1 (fun hS => ?_)
  generalize (((w.alloc (.cells #[.int .i64 2, .int .i64 key, .int .i64 val, .int .i64 tall] 34)).alloc (.cells #[.int .i64 1, .int .i64 av] 36)).drew) = w1 at d1 q1 HR hS ⊢
  ((try simp only [Act.put, List.setIfInBounds_toArray, List.set_cons_succ, List.set_cons_zero]); refine wpT_batch (fuel := 4) (by kernel_rfl) (by kernel_rfl) (fun d => by cases d <;> exact fun _ _ _ _ h => h) hS [0, 1, 2, 3, 4, 5, 6, 7, 8, 9, 10, 11, 12, 13] _ _ (by kernel_rfl) ?_; simp only [pickOps, nthOp, List.toList_toArray]; (repeat (first | go_big_quiet_skip | (go_big_quiet_want; first | (go_big_quiet_op; go_big_quiet_on) | (apply Exists.intro; refine ⟨fun w' hS' => ?_, ?_⟩; (· (skip; go_simp; first | done | rfl | exact ⟨rfl, rfl⟩)); go_big_quiet_on; simp only [Act.put, List.setIfInBounds_toArray, List.set_cons_succ, List.set_cons_zero])))); refine wpQuiet_nil ?_; (try dsimp only))
  ((refine wpT_loudN 14 (by kernel_rfl) (fun K hK => ?_); simp only [nthOp, List.toList_toArray]); go_wp2_with fail; refine hK.out _ _ (fun h => absurd h (by omega)) ?_; clear hK)
  ((refine wpT_loudN 15 (by kernel_rfl) (fun K hK => ?_); simp only [nthOp, List.toList_toArray]); go_wp2_with fail; refine hK.out _ _ (fun h => absurd h (by omega)) ?_; clear hK)
  ((refine wpT_loudN 16 (by kernel_rfl) (fun K hK => ?_); simp only [nthOp, List.toList_toArray]); go_wp2_with fail; refine hK.out _ _ (fun h => absurd h (by omega)) ?_; clear hK)
  ((refine wpT_loudN 17 (by kernel_rfl) (fun K hK => ?_); simp only [nthOp, List.toList_toArray]); go_wp2_with fail; refine hK.out _ _ (fun h => absurd h (by omega)) ?_; clear hK)
  refine wpT_done (by kernel_rfl) ?_ _
  go_wp2_with fail
  go_end0
  exact ⟨rfl, HR.out⟩

set_option maxRecDepth 100000 in
set_option maxHeartbeats 800000 in
theorem change_deq (hn : s.vals ≠ []) : Calls Tryd.prog 38 #[.pointer (some ⟨g, 0, none⟩), .agg #[.int .i64 5, .int .i64 key, .int .i64 val, .int .i64 tall], .agg #[.int .i64 1, .int .i64 av]] w (RetU w g (.slice A s.vals.length c) (.slice A' s.pairs.length c') { s with vals := s.vals.tail }) := by
  obtain ⟨c0, c1, c2⟩ := h.cells
  have hg := h.k.lt
  obtain ⟨b, off, rfl, hbb, hq0⟩ := h.v.sl.pick (i := 0) (List.length_pos_iff.2 hn)
  clear hq0
  have hl := hok.lv
  obtain ⟨m, hm⟩ : ∃ m, s.vals.length = m + 1 := ⟨s.vals.length - 1, by have := List.length_pos_iff.2 hn; omega⟩
  have h1 := ((h.alloc (.cells #[.int .i64 5, .int .i64 key, .int .i64 val, .int .i64 tall] 34)).alloc (.cells #[.int .i64 1, .int .i64 av] 36))
  have hB : Below w.heap.size w (((w.alloc (.cells #[.int .i64 5, .int .i64 key, .int .i64 val, .int .i64 tall] 34)).alloc (.cells #[.int .i64 1, .int .i64 av] 36))) := by (repeat' (first | (with_reducible exact Below.refl _ _) | (with_reducible assumption) | (with_reducible refine Below.alloc ?_ ?_ _) | (with_reducible refine Below.drew ?_) | (with_reducible refine below_drewN ?_ _) | (with_reducible refine Below.setCell ?_ ?_ _) | go_size))
  have hd : s.vals.tail.length = m := by rw [List.length_tail]; omega
  have hsplit : icells s.vals = [.int .i64 (s.vals.head hn)] ++ icells s.vals.tail := by
    obtain ⟨x, l, e⟩ := List.exists_cons_of_ne_nil hn
    simp [e, icells]
  have ho := h1.v
  rw [hsplit, hm] at ho
  have hle : m + 1 ≤ c ∧ c ≤ 9223372036854775807 := by
    obtain ⟨A3, c3, e, h3, h4⟩ := h.v.form
    cases e
    omega
  obtain ⟨hle, hc63⟩ := hle
  have hfin : ∀ off2 c2, Own (((w.alloc (.cells #[.int .i64 5, .int .i64 key, .int .i64 val, .int .i64 tall] 34)).alloc (.cells #[.int .i64 1, .int .i64 av] 36))) 3 1 (.slice (some ⟨b, off2, none⟩) m c2) m (icells s.vals.tail) →
      RetS w g (.slice (some ⟨b, off, none⟩) s.vals.length c) (.slice A' s.pairs.length c') { s with vals := s.vals.tail } ((((w.alloc (.cells #[.int .i64 5, .int .i64 key, .int .i64 val, .int .i64 tall] 34)).alloc (.cells #[.int .i64 1, .int .i64 av] 36))).setCell ⟨g, 1, none⟩ (.slice (some ⟨b, off2, none⟩) m c2)) :=
    fun off2 c2 ho2 => h.setV (fun b hb _ => hB.block b hb) hB.os hB.tape hB.output hB.size _ (.slice (some ⟨b, off2, none⟩) m c2) (by rw [hd]; exact ho2) (fun b e => Or.inl e)
  have d1 := h1.cells.2.1
  have q1 := h1.k.free 1
  have HD := Lib.hid hd; clear hd
  have hb0 : (0 : Int) ≤ (1 : Int) := by omega
  by_cases hc1 : c = 1
  · obtain rfl : m = 0 := by omega
    subst hc1
    have hnil : icells s.vals.tail = [] := List.eq_nil_of_length_eq_zero (by rw [icells_length, HD.out])
    have HR := Lib.hid (hfin off 0 (by rw [hnil]; exact own_none ho))
    clear hfin hnil hsplit ho hn
    rw [hm] at c1 d1 hl HR ⊢
    have HM := Lib.hid hm; clear hm
    go_enter Tryd.func38, Tryd.ntmps38
    go_wp2_with fail
    go_end0
    refine ⟨rfl, ?_⟩
    have hr := HR.out
    rw [World.setCell_alloc_past _ _ _ _ (by simp; omega), World.setCell_alloc_past _ _ _ _ hg] at hr
    exact hr
  · have HR := Lib.hid (hfin (off + 1) (c - 1) (own_tail ho rfl hc1))
    clear hfin hsplit ho hn
    rw [hm] at c1 d1 hl HR ⊢
    have HM := Lib.hid hm; clear hm
    go_enter Tryd.func38, Tryd.ntmps38
    go_wp2_with fail
    go_end0
    refine ⟨rfl, ?_⟩
    have hr := HR.out
    rw [World.setCell_alloc_past _ _ _ _ (by simp; omega), World.setCell_alloc_past _ _ _ _ hg] at hr
    exact hr

set_option maxHeartbeats 400000 in
theorem change_none (hk : kind = 3 ∨ kind = 8) : Calls Tryd.prog 38 #[.pointer (some ⟨g, 0, none⟩), .agg #[.int .i64 kind, .int .i64 key, .int .i64 val, .int .i64 tall], .agg #[.int .i64 1, .int .i64 av]] w (RetU w g (.slice A s.vals.length c) (.slice A' s.pairs.length c') s) := by
  rcases hk with rfl | rfl
  all_goals
    go_enter Tryd.func38, Tryd.ntmps38
    go_wp2_with fail
    go_end0
    exact ⟨rfl, _, _, _, _, (h.alloc _).alloc _, OnlyC.of_below (by (repeat' (first | (with_reducible exact Below.refl _ _) | (with_reducible assumption) | (with_reducible refine Below.alloc ?_ ?_ _) | (with_reducible refine Below.drew ?_) | (with_reducible refine below_drewN ?_ _) | (with_reducible refine Below.setCell ?_ ?_ _) | go_size))) _ _ _⟩

set_option maxRecDepth 100000 in
set_option maxHeartbeats 1600000 in
theorem change_ins (hk0 : 0 ≤ key) (hk1 : key ≤ 255) : Calls Tryd.prog 38 #[.pointer (some ⟨g, 0, none⟩), .agg #[.int .i64 6, .int .i64 key, .int .i64 val, .int .i64 tall], .agg #[.int .i64 1, .int .i64 av]] w (RetU w g (.slice A s.vals.length c) (.slice A' s.pairs.length c') { s with pairs := s.pairs.take (pos key s.pairs) ++ (key, val) :: s.pairs.drop (pos key s.pairs) }) := by
  obtain ⟨c0, c1, c2⟩ := h.cells
  have hg := h.k.lt
  have hl := hok.lp
  have hple := pos_le key s.pairs
  have h1 := ((h.alloc (.cells #[.int .i64 6, .int .i64 key, .int .i64 val, .int .i64 tall] 34)).alloc (.cells #[.int .i64 1, .int .i64 av] 36)).drew
  have KB : Bk (((w.alloc (.cells #[.int .i64 6, .int .i64 key, .int .i64 val, .int .i64 tall] 34)).alloc (.cells #[.int .i64 1, .int .i64 av] 36)).drew) w.heap.size 34 #[.int .i64 6, .int .i64 key, .int .i64 val, .int .i64 tall] := ((Bk.at_ rfl).alloc _).drew
  have hB : Below w.heap.size w (((w.alloc (.cells #[.int .i64 6, .int .i64 key, .int .i64 val, .int .i64 tall] 34)).alloc (.cells #[.int .i64 1, .int .i64 av] 36)).drew) := by (repeat' (first | (with_reducible exact Below.refl _ _) | (with_reducible assumption) | (with_reducible refine Below.alloc ?_ ?_ _) | (with_reducible refine Below.drew ?_) | (with_reducible refine below_drewN ?_ _) | (with_reducible refine Below.setCell ?_ ?_ _) | go_size))
  go_enter Tryd.func38, Tryd.ntmps38
  go_wp2_with fail
  refine wp_region_T (fun w' => w'.cell? ⟨w.heap.size, 1, none⟩ = some (.int .i64 key)) 11 (by kernel_rfl) (KB.cell 1) (fun hS => ?_)
  generalize (((w.alloc (.cells #[.int .i64 6, .int .i64 key, .int .i64 val, .int .i64 tall] 34)).alloc (.cells #[.int .i64 1, .int .i64 av] 36)).drew) = w0 at h1 KB hB hS ⊢
  ((try simp only [Act.put, List.setIfInBounds_toArray, List.set_cons_succ, List.set_cons_zero]); refine wpT_batch (fuel := 6) (by kernel_rfl) (by kernel_rfl) (fun d => by cases d <;> exact fun _ _ _ _ h => h) hS [0, 1, 2, 3, 4] _ _ (by kernel_rfl) ?_; simp only [pickOps, nthOp, List.toList_toArray]; (repeat (first | go_big_quiet_skip | (go_big_quiet_want; first | (go_big_quiet_op; go_big_quiet_on) | (apply Exists.intro; refine ⟨fun w' hS' => ?_, ?_⟩; (· (skip; go_simp; first | done | rfl | exact ⟨rfl, rfl⟩)); go_big_quiet_on; simp only [Act.put, List.setIfInBounds_toArray, List.set_cons_succ, List.set_cons_zero])))); refine wpQuiet_nil ?_; (try dsimp only))
  (refine wpT_loudN 5 (by kernel_rfl) (fun K hK => ?_); simp only [nthOp, List.toList_toArray])
  go_wp2_with fail
  refine (find_any _ g A' c' s.pairs h1.cells.2.2 h1.p.sl hok.rises (by omega) key hk0 hk1).mono ?_
  rintro e w1 ⟨rfl, hb1⟩
  go_wp2_with fail
  refine hK.out _ _ (fun _ => cell_below hS hb1) ?_
  clear hK
  have hS := cell_below hS hb1
  ((try simp only [Act.put, List.setIfInBounds_toArray, List.set_cons_succ, List.set_cons_zero]); refine wpT_batch (fuel := 0) (by kernel_rfl) (by kernel_rfl) (fun d => by cases d <;> exact fun _ _ _ _ h => h) hS [6, 7, 8, 9, 10] _ _ (by kernel_rfl) ?_; simp only [pickOps, nthOp, List.toList_toArray]; (repeat (first | go_big_quiet_skip | (go_big_quiet_want; first | (go_big_quiet_op; go_big_quiet_on) | (apply Exists.intro; refine ⟨fun w' hS' => ?_, ?_⟩; (· (skip; go_simp; first | done | rfl | exact ⟨rfl, rfl⟩)); go_big_quiet_on; simp only [Act.put, List.setIfInBounds_toArray, List.set_cons_succ, List.set_cons_zero])))); refine wpQuiet_nil ?_; (try dsimp only))
  clear hS
  refine wpT_done (by kernel_rfl) ?_ _
  have h2 := (h1.below hb1).drew
  have KB2 := (KB.belowAll hb1).drew
  have hB2 : Below w.heap.size w w1.drew := (hB.trans (hb1.mono hB.size)).drew
  go_wp2_with fail
  refine wp_region_T (fun w' => w'.cell? ⟨g, 2, none⟩ = some (.slice A' s.pairs.length c') ∧ w'.cell? ⟨w.heap.size, 1, none⟩ = some (.int .i64 key) ∧ w'.cell? ⟨w.heap.size, 2, none⟩ = some (.int .i64 val)) 14 (by kernel_rfl) ⟨h2.cells.2.2, KB2.cell 1, KB2.cell 2⟩ (fun hS => ?_)
  generalize w1.drew = w2 at h2 KB2 hB2 hS ⊢
  ((try simp only [Act.put, List.setIfInBounds_toArray, List.set_cons_succ, List.set_cons_zero]); refine wpT_batch (fuel := 6) (by kernel_rfl) (by kernel_rfl) (fun d => by cases d <;> exact fun _ _ _ _ h => h) hS [0, 1, 2, 3, 4, 5, 6, 7, 8, 9, 10, 11] _ _ (by kernel_rfl) ?_; simp only [pickOps, nthOp, List.toList_toArray]; (repeat (first | go_big_quiet_skip | (go_big_quiet_want; first | (go_big_quiet_op; go_big_quiet_on) | (apply Exists.intro; refine ⟨fun w' hS' => ?_, ?_⟩; (· (obtain ⟨f1, f2, f3⟩ := hS'; go_simp; first | done | rfl | exact ⟨rfl, rfl⟩)); go_big_quiet_on; simp only [Act.put, List.setIfInBounds_toArray, List.set_cons_succ, List.set_cons_zero])))); refine wpQuiet_nil ?_; (try dsimp only))
  have h3 := h2.alloc (.cells #[.int .i64 key, .int .i64 val] 94)
  have KB3 := KB2.alloc (.cells #[.int .i64 key, .int .i64 val] 94)
  have hB3 : Below w.heap.size w (w2.alloc (.cells #[.int .i64 key, .int .i64 val] 94)) := hB2.alloc hB2.size _
  (refine wpT_loudN 12 (by kernel_rfl) (fun K hK => ?_); simp only [nthOp, List.toList_toArray])
  go_wp2_with fail
  refine hK.out _ _ (fun _ => ⟨h3.cells.2.2, KB3.cell 1, KB3.cell 2⟩) ?_
  clear hK
  (refine wpT_loudN 13 (by kernel_rfl) (fun K hK => ?_); simp only [nthOp, List.toList_toArray])
  go_wp2_with fail
  refine (insert_any _ _ s.pairs h3.p (by omega) (pos key s.pairs) hple (key, val) w2.heap.size (Bk.at_ rfl) (fun e => by have := h2.p.lt e; omega)).mono ?_
  rintro e w4 ⟨v', rfl, ho, hgr, hf⟩
  obtain ⟨A2, c3, rfl, _, _⟩ := ho.form
  have K4 := h3.k.grown hgr (fun e => h2.pg e.symm)
  have KB4 := KB3.grown hgr (fun e => by have := h.p.lt e.symm; omega)
  have d2 := K4.cell 2; have q2 := K4.free 2; simp at d2
  have hR := h.setP (w4 := w4) (fun b hb hv => (hgr.block b (Nat.lt_of_lt_of_le hb hB3.size) (fun e => hv e.symm)).trans (hB3.block b hb)) (hgr.os.trans hB3.os) (hgr.tape.trans hB3.tape) (hgr.output.trans hB3.output) (Nat.le_trans hB3.size hgr.size) _ _ ho (hf.mono hB3.size)
  have HR := Lib.hid hR; clear hR hgr ho hf hB3 hB2 hB h3 h2 h1
  go_wp2_with fail
  refine hK.out _ _ (fun _ => ⟨K4.cell 2, KB4.cell 1, KB4.cell 2⟩) ?_
  clear hK
  ((refine wpT_loudN 14 (by kernel_rfl) (fun K hK => ?_); simp only [nthOp, List.toList_toArray]); go_wp2_with fail; refine hK.out _ _ (fun h => absurd h (by omega)) ?_; clear hK)
  ((refine wpT_loudN 15 (by kernel_rfl) (fun K hK => ?_); simp only [nthOp, List.toList_toArray]); go_wp2_with fail; refine hK.out _ _ (fun h => absurd h (by omega)) ?_; clear hK)
  ((refine wpT_loudN 16 (by kernel_rfl) (fun K hK => ?_); simp only [nthOp, List.toList_toArray]); go_wp2_with fail; refine hK.out _ _ (fun h => absurd h (by omega)) ?_; clear hK)
  ((refine wpT_loudN 17 (by kernel_rfl) (fun K hK => ?_); simp only [nthOp, List.toList_toArray]); go_wp2_with fail; refine hK.out _ _ (fun h => absurd h (by omega)) ?_; clear hK)
  refine wpT_done (by kernel_rfl) ?_ _
  go_wp2_with fail
  go_end0
  refine ⟨rfl, ?_⟩
  have hr := HR.out
  rw [ins_len _ _ hple] at hr
  rw [show pos key s.pairs + (s.pairs.length - pos key s.pairs + 1) = s.pairs.length + 1 from by omega]
  exact hr

set_option maxRecDepth 100000 in
set_option maxHeartbeats 1600000 in
theorem change_del (hk0 : 0 ≤ key) (hk1 : key ≤ 255) (hp : pos key s.pairs < s.pairs.length) : Calls Tryd.prog 38 #[.pointer (some ⟨g, 0, none⟩), .agg #[.int .i64 7, .int .i64 key, .int .i64 val, .int .i64 tall], .agg #[.int .i64 1, .int .i64 av]] w (RetU w g (.slice A s.vals.length c) (.slice A' s.pairs.length c') { s with pairs := s.pairs.take (pos key s.pairs) ++ s.pairs.drop (pos key s.pairs + 1) }) := by
  obtain ⟨c0, c1, c2⟩ := h.cells
  have hg := h.k.lt
  have hl := hok.lp
  have hple := pos_le key s.pairs
  have h1 := ((h.alloc (.cells #[.int .i64 7, .int .i64 key, .int .i64 val, .int .i64 tall] 34)).alloc (.cells #[.int .i64 1, .int .i64 av] 36)).drew
  have KB : Bk (((w.alloc (.cells #[.int .i64 7, .int .i64 key, .int .i64 val, .int .i64 tall] 34)).alloc (.cells #[.int .i64 1, .int .i64 av] 36)).drew) w.heap.size 34 #[.int .i64 7, .int .i64 key, .int .i64 val, .int .i64 tall] := ((Bk.at_ rfl).alloc _).drew
  have hB : Below w.heap.size w (((w.alloc (.cells #[.int .i64 7, .int .i64 key, .int .i64 val, .int .i64 tall] 34)).alloc (.cells #[.int .i64 1, .int .i64 av] 36)).drew) := by (repeat' (first | (with_reducible exact Below.refl _ _) | (with_reducible assumption) | (with_reducible refine Below.alloc ?_ ?_ _) | (with_reducible refine Below.drew ?_) | (with_reducible refine below_drewN ?_ _) | (with_reducible refine Below.setCell ?_ ?_ _) | go_size))
  go_enter Tryd.func38, Tryd.ntmps38
  go_wp2_with fail
  refine wp_region_T (fun w' => w'.cell? ⟨w.heap.size, 1, none⟩ = some (.int .i64 key)) 11 (by kernel_rfl) (KB.cell 1) (fun hS => ?_)
  generalize (((w.alloc (.cells #[.int .i64 7, .int .i64 key, .int .i64 val, .int .i64 tall] 34)).alloc (.cells #[.int .i64 1, .int .i64 av] 36)).drew) = w0 at h1 KB hB hS ⊢
  ((try simp only [Act.put, List.setIfInBounds_toArray, List.set_cons_succ, List.set_cons_zero]); refine wpT_batch (fuel := 6) (by kernel_rfl) (by kernel_rfl) (fun d => by cases d <;> exact fun _ _ _ _ h => h) hS [0, 1, 2, 3, 4] _ _ (by kernel_rfl) ?_; simp only [pickOps, nthOp, List.toList_toArray]; (repeat (first | go_big_quiet_skip | (go_big_quiet_want; first | (go_big_quiet_op; go_big_quiet_on) | (apply Exists.intro; refine ⟨fun w' hS' => ?_, ?_⟩; (· (skip; go_simp; first | done | rfl | exact ⟨rfl, rfl⟩)); go_big_quiet_on; simp only [Act.put, List.setIfInBounds_toArray, List.set_cons_succ, List.set_cons_zero])))); refine wpQuiet_nil ?_; (try dsimp only))
  (refine wpT_loudN 5 (by kernel_rfl) (fun K hK => ?_); simp only [nthOp, List.toList_toArray])
  go_wp2_with fail
  refine (find_any _ g A' c' s.pairs h1.cells.2.2 h1.p.sl hok.rises (by omega) key hk0 hk1).mono ?_
  rintro e w1 ⟨rfl, hb1⟩
  go_wp2_with fail
  refine hK.out _ _ (fun _ => cell_below hS hb1) ?_
  clear hK
  have hS := cell_below hS hb1
  ((try simp only [Act.put, List.setIfInBounds_toArray, List.set_cons_succ, List.set_cons_zero]); refine wpT_batch (fuel := 0) (by kernel_rfl) (by kernel_rfl) (fun d => by cases d <;> exact fun _ _ _ _ h => h) hS [6, 7, 8, 9, 10] _ _ (by kernel_rfl) ?_; simp only [pickOps, nthOp, List.toList_toArray]; (repeat (first | go_big_quiet_skip | (go_big_quiet_want; first | (go_big_quiet_op; go_big_quiet_on) | (apply Exists.intro; refine ⟨fun w' hS' => ?_, ?_⟩; (· (skip; go_simp; first | done | rfl | exact ⟨rfl, rfl⟩)); go_big_quiet_on; simp only [Act.put, List.setIfInBounds_toArray, List.set_cons_succ, List.set_cons_zero])))); refine wpQuiet_nil ?_; (try dsimp only))
  clear hS
  refine wpT_done (by kernel_rfl) ?_ _
  have h2 := (h1.below hb1)
  have hB2 : Below w.heap.size w w1 := (hB.trans (hb1.mono hB.size))
  have d2 := h2.cells.2.2
  go_wp2_with fail
  refine (delete_any _ _ s.pairs h2.p (by omega) (pos key s.pairs) hp).mono ?_
  rintro e w4 ⟨v', rfl, ho, hgr, hf⟩
  obtain ⟨A2, c3, rfl, _, _⟩ := ho.form
  have K4 := h2.k.grown hgr (fun e => h2.pg e.symm)
  clear d2
  have d2 := K4.cell 2; have q2 := K4.free 2; simp at d2
  have hR := h.setP (w4 := w4) (fun b hb hv => (hgr.block b (Nat.lt_of_lt_of_le hb hB2.size) (fun e => hv e.symm)).trans (hB2.block b hb)) (hgr.os.trans hB2.os) (hgr.tape.trans hB2.tape) (hgr.output.trans hB2.output) (Nat.le_trans hB2.size hgr.size) _ _ ho (hf.mono hB2.size)
  have HR := Lib.hid hR; clear hR hgr ho hf hB2 hB h2 h1
  go_wp2_with fail
  go_end0
  refine ⟨rfl, ?_⟩
  have hr := HR.out
  rw [show (s.pairs.take (pos key s.pairs) ++ s.pairs.drop (pos key s.pairs + 1)).length = pos key s.pairs + (s.pairs.length - (pos key s.pairs + 1)) from by rw [List.length_append, List.length_take, List.length_drop]; omega] at hr
  exact hr
end
end Go.Proofs.YtlfbgpncdahglaaDoor
