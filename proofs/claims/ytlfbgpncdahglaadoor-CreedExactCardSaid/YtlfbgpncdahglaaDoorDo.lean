/- Creed.Do: an operation is done. -/
import Derived.Test.YtlfbgpncdahglaaDoorChange
namespace Go.Proofs.YtlfbgpncdahglaaDoor
open Go Go.RowKit
set_option linter.unusedSimpArgs false
set_option linter.unusedVariables false
set_option linter.unusedSectionVars false

theorem fits_kind {st : Int} {o : POp} (h : fitsB st o = true) : 1 ≤ o.kind ∧ o.kind ≤ 8 ∧ (6 ≤ o.kind → 0 ≤ o.key ∧ o.key ≤ 255) := by
  rw [fitsB_true, FitsP] at h
  omega

section
variable (w : World) (g : Nat) (s : PC) (A : Option Addr) (c : Nat) (A' : Option Addr) (c' : Nat) (h : CR w g s A c A' c') (hok : POk s) (o : POp) (hf : fitsB s.st o = true)
include h hok hf
theorem answer_any : Calls Tryd.prog 37 #[.pointer (some ⟨g, 0, none⟩), o.v] w (RetA (ansOf s o) w) := by
  obtain ⟨k1, k2, k3⟩ := fits_kind hf
  obtain ⟨kind, key, val, tall⟩ := o
  simp only [POp.v, ansOf] at *
  have hk : kind = 1 ∨ kind = 4 ∨ (kind = 2 ∨ kind = 3) ∨ kind = 5 ∨ kind = 6 ∨ (kind = 7 ∨ kind = 8) := by omega
  rcases hk with rfl | rfl | hk | rfl | rfl | hk
  · exact answer_put w g s A c A' c' h hok 1 key val tall (Or.inl rfl)
  · exact answer_put w g s A c A' c' h hok 4 key val tall (Or.inr rfl)
  · rw [if_pos hk]
    exact answer_last w g s A c A' c' h hok kind key val tall hk
  · exact answer_first w g s A c A' c' h hok key val tall
  · obtain ⟨q1, q2⟩ := k3 (by omega)
    have := answer_insert w g s A c A' c' h hok key val tall q1 q2 _ rfl
    simpa using this
  · obtain ⟨q1, q2⟩ := k3 (by omega)
    rw [if_neg (by omega), if_neg (by omega), if_neg (by omega), if_pos hk]
    cases hr : has key s.pairs
    · have := answer_no w g s A c A' c' h hok kind key val tall q1 q2 hk hr
      simpa using this
    · obtain ⟨hp, _⟩ := has_some hr
      have := answer_yes w g s A c A' c' h hok kind key val tall q1 q2 hk hr hp
      rw [List.getElem?_eq_getElem hp]
      simpa using this

theorem change_any : Calls Tryd.prog 38 #[.pointer (some ⟨g, 0, none⟩), o.v, .agg #[.int .i64 (ansOf s o).1, .int .i64 (ansOf s o).2]] w (RetU w g (.slice A s.vals.length c) (.slice A' s.pairs.length c') (chgOf s o (ansOf s o).1)) := by
  obtain ⟨k1, k2, k3⟩ := fits_kind hf
  by_cases hc : (ansOf s o).1 = 1
  · generalize hav : (ansOf s o).2 = av
    have hc' := hc
    rw [hc]
    obtain ⟨kind, key, val, tall⟩ := o
    simp only [POp.v, chgOf, ansOf] at *
    have hk : kind = 1 ∨ kind = 4 ∨ kind = 2 ∨ (kind = 3 ∨ kind = 8) ∨ kind = 5 ∨ kind = 6 ∨ kind = 7 := by omega
    rcases hk with rfl | rfl | rfl | hk | rfl | rfl | rfl
    · simpa using change_put w g s A c A' c' h hok 1 key val tall av (Or.inl rfl)
    · simpa using change_put w g s A c A' c' h hok 4 key val tall av (Or.inr rfl)
    · have hn : s.vals ≠ [] := by
        intro e
        rw [e] at hc
        simp at hc
      simpa using change_pop w g s A c A' c' h hok key val tall av hn
    · have := change_none w g s A c A' c' h hok kind key val tall av hk
      rcases hk with rfl | rfl <;> simpa using this
    · have hn : s.vals ≠ [] := by
        intro e
        rw [e] at hc
        simp at hc
      simpa using change_deq w g s A c A' c' h hok key val tall av hn
    · obtain ⟨q1, q2⟩ := k3 (by omega)
      simpa using change_ins w g s A c A' c' h hok key val tall av q1 q2
    · obtain ⟨q1, q2⟩ := k3 (by omega)
      have hp : pos key s.pairs < s.pairs.length := by
        cases hr : has key s.pairs
        · rw [hr] at hc; simp at hc
        · exact (has_some hr).1
      simpa using change_del w g s A c A' c' h hok key val tall av q1 q2 hp
  · have : chgOf s o (ansOf s o).1 = s := by unfold chgOf; rw [if_pos hc]
    rw [this]
    obtain ⟨kind, key, val, tall⟩ := o
    exact change_not w g s A c A' c' h kind key val tall (ansOf s ⟨kind, key, val, tall⟩).2 _ hc
end

theorem fits_is {r : Bool} (st : Int) (o : POp) (w : World) (T : TypeId) (u : Value) (hE : w.cell? ⟨0, 0, none⟩ = some (.iface T u)) (h : fitsB st o = r) :
    Calls Tryd.prog 12 #[.int .i64 st, o.v] w (RetB r w) := h ▸ fits_any st o w T u hE

theorem CR.same {w w' : World} {g : Nat} {s : PC} {A : Option Addr} {c : Nat} {A' : Option Addr} {c' : Nat} (h : CR w g s A c A' c') (hg : w'.heap[g]? = w.heap[g]?)
    (hv : ∀ b, (Value.slice A s.vals.length c).ownBlock = some b → w'.heap[b]? = w.heap[b]?) (hp : ∀ b, (Value.slice A' s.pairs.length c').ownBlock = some b → w'.heap[b]? = w.heap[b]?) : CR w' g s A c A' c' :=
  ⟨h.k.same hg, h.v.kept hv, h.p.kept hp, h.vg, h.pg, h.vp⟩
theorem CR.lt {w : World} {g : Nat} {s : PC} {A : Option Addr} {c : Nat} {A' : Option Addr} {c' : Nat} (h : CR w g s A c A' c') : g < w.heap.size ∧ (∀ b, (Value.slice A s.vals.length c).ownBlock = some b → b < w.heap.size) ∧ (∀ b, (Value.slice A' s.pairs.length c').ownBlock = some b → b < w.heap.size) :=
  ⟨h.k.lt, fun _ e => h.v.lt e, fun _ e => h.p.lt e⟩
theorem OnlyC.set {w w4 : World} {g : Nat} {v p v' p' : Value} (h : OnlyC w w4 g v p v' p') {b i : Nat} (hb : w.heap.size ≤ b) (x : Value) : OnlyC w (w4.setCell ⟨b, i, none⟩ x) g v p v' p' :=
  ⟨h.os, h.tape, h.output, by simpa [World.setCell] using h.size, fun k hk h1 h2 h3 => (Below.heap_setCell w4 ⟨b, i, none⟩ x k (by show k ≠ b; omega)).trans (h.block k hk h1 h2 h3), h.fv, h.fp⟩
/-- From a later world w3 on, a block between w and w3 being written to: said from w on. -/
theorem RetS.set {w w3 w4 : World} {g : Nat} {s0 s : PC} {A : Option Addr} {c : Nat} {A' : Option Addr} {c' : Nat} (h0 : CR w g s0 A c A' c') (hb : Below w.heap.size w w3) (h : RetS w3 g (.slice A s0.vals.length c) (.slice A' s0.pairs.length c') s w4) {b : Nat} (hb0 : w.heap.size ≤ b) (hb1 : b < w3.heap.size) (i j : Nat) (x y : Value) :
    RetS w g (.slice A s0.vals.length c) (.slice A' s0.pairs.length c') s ((w4.setCell ⟨b, i, none⟩ x).setCell ⟨b, j, none⟩ y) := by
  obtain ⟨A1, c1, A2, c2, hc, ho⟩ := h
  obtain ⟨l1, l2, l3⟩ := h0.lt
  have hk : ∀ k, k ≠ b → ((w4.setCell ⟨b, i, none⟩ x).setCell ⟨b, j, none⟩ y).heap[k]? = w4.heap[k]? := fun k hk => (Below.heap_setCell (w4.setCell ⟨b, i, none⟩ x) ⟨b, j, none⟩ y k hk).trans (Below.heap_setCell w4 ⟨b, i, none⟩ x k hk)
  refine ⟨A1, c1, A2, c2, hc.same (hk g (by omega)) (fun k e => hk k ?_) (fun k e => hk k ?_), (((OnlyC.of_below hb g _ _).trans ho).set hb0 x).set hb0 y⟩
  · rcases ho.fv k e with h1 | h1
    · have := l2 k h1; omega
    · omega
  · rcases ho.fp k e with h1 | h1
    · have := l3 k h1; omega
    · omega

theorem cell_other {w : World} {b i b' i' : Nat} {v : Value} (h : b' ≠ b) : (w.setCell ⟨b, i, none⟩ v).cell? ⟨b', i', none⟩ = w.cell? ⟨b', i', none⟩ :=
  World.cell?_of_block (Below.heap_setCell w ⟨b, i, none⟩ v b' h)

def Done (w : World) (g : Nat) (v p : Value) (s' : PC) (a : Int × Int) (e : Ending) (w' : World) : Prop :=
  e = .returned (.tuple #[.agg #[.int .i64 a.1, .int .i64 a.2], .nilIface]) ∧ RetS w g v p s' w'

section
variable (w : World) (g : Nat) (s : PC) (A : Option Addr) (c : Nat) (A' : Option Addr) (c' : Nat) (h : CR w g s A c A' c') (o : POp) (T : TypeId) (u : Value) (hE : w.cell? ⟨0, 0, none⟩ = some (.iface T u))
include h hE
set_option maxRecDepth 100000 in
set_option maxHeartbeats 800000 in
theorem do_no (hf : fitsB s.st o = false) : Calls Tryd.prog 13 #[.pointer (some ⟨g, 0, none⟩), o.v] w fun e w' => e = .returned (.tuple #[.agg #[.int .i64 0, .int .i64 0], .iface T u]) ∧ Below w.heap.size w w' := by
  have HF := Lib.hid hf; clear hf
  obtain ⟨c0, c1, c2⟩ := h.cells
  have hg := h.k.lt
  have hlt0 := World.block_lt_of_cell? w _ hE
  simp at hlt0
  obtain ⟨kind, key, val, tall⟩ := o
  simp only [POp.v] at *
  have h1 := ((h.alloc (.cells #[.int .i64 kind, .int .i64 key, .int .i64 val, .int .i64 tall] 34)).alloc (.cells #[.int .i64 0, .int .i64 0] 36)).drew
  have KB : Bk (((w.alloc (.cells #[.int .i64 kind, .int .i64 key, .int .i64 val, .int .i64 tall] 34)).alloc (.cells #[.int .i64 0, .int .i64 0] 36)).drew) w.heap.size 34 #[.int .i64 kind, .int .i64 key, .int .i64 val, .int .i64 tall] := ((Bk.at_ rfl).alloc _).drew
  have KR : Bk (((w.alloc (.cells #[.int .i64 kind, .int .i64 key, .int .i64 val, .int .i64 tall] 34)).alloc (.cells #[.int .i64 0, .int .i64 0] 36)).drew) (w.heap.size + 1) 36 #[.int .i64 0, .int .i64 0] := (Bk.at_ (by simp)).drew
  have hB : Below w.heap.size w (((w.alloc (.cells #[.int .i64 kind, .int .i64 key, .int .i64 val, .int .i64 tall] 34)).alloc (.cells #[.int .i64 0, .int .i64 0] 36)).drew) := by (repeat' (first | (with_reducible exact Below.refl _ _) | (with_reducible assumption) | (with_reducible refine Below.alloc ?_ ?_ _) | (with_reducible refine Below.drew ?_) | (with_reducible refine below_drewN ?_ _) | (with_reducible refine Below.setCell ?_ ?_ _) | go_size))
  have hE1 := cell_below hE hB
  go_enter Tryd.func13, Tryd.ntmps13
  go_wp2_with fail
  refine wp_region_T (fun w' => w'.cell? ⟨g, 0, none⟩ = some (.int .i64 s.st) ∧ w'.cell? ⟨w.heap.size, 0, none⟩ = some (.int .i64 kind) ∧ w'.cell? ⟨w.heap.size, 1, none⟩ = some (.int .i64 key) ∧ w'.cell? ⟨w.heap.size, 2, none⟩ = some (.int .i64 val) ∧ w'.cell? ⟨w.heap.size, 3, none⟩ = some (.int .i64 tall)) 7 (by kernel_rfl) ⟨h1.cells.1, KB.cell 0, KB.cell 1, KB.cell 2, KB.cell 3⟩ (fun hS => ?_)
  generalize (((w.alloc (.cells #[.int .i64 kind, .int .i64 key, .int .i64 val, .int .i64 tall] 34)).alloc (.cells #[.int .i64 0, .int .i64 0] 36)).drew) = w0 at h1 KB KR hB hE1 hS ⊢
  ((try simp only [Act.put, List.setIfInBounds_toArray, List.set_cons_succ, List.set_cons_zero]); refine wpT_batch (fuel := 2) (by kernel_rfl) (by kernel_rfl) (fun d => by cases d <;> exact fun _ _ _ _ h => h) hS [0, 1, 2, 3, 4] _ _ (by kernel_rfl) ?_; simp only [pickOps, nthOp, List.toList_toArray]; (repeat (first | go_big_quiet_skip | (go_big_quiet_want; first | (go_big_quiet_op; go_big_quiet_on) | (apply Exists.intro; refine ⟨fun w' hS' => ?_, ?_⟩; (· (obtain ⟨f1, f2, f3, f4, f5⟩ := hS'; go_simp; first | done | rfl | exact ⟨rfl, rfl⟩)); go_big_quiet_on; simp only [Act.put, List.setIfInBounds_toArray, List.set_cons_succ, List.set_cons_zero])))); refine wpQuiet_nil ?_; (try dsimp only))
  (refine wpT_loudN 5 (by kernel_rfl) (fun K hK => ?_); simp only [nthOp, List.toList_toArray])
  go_wp2_with fail
  refine (fits_is s.st ⟨kind, key, val, tall⟩ _ T u hE1 HF.out).mono ?_
  rintro e w1 ⟨rfl, hb1⟩
  have h2 := h1.below hb1
  have KB2 := KB.belowAll hb1
  have KR2 := KR.belowAll hb1
  have hE2 := cell_below hE1 hb1
  have hB2 := hB.trans (hb1.mono hB.size)
  go_wp2_with fail
  refine hK.out _ _ (fun _ => ⟨h2.cells.1, KB2.cell 0, KB2.cell 1, KB2.cell 2, KB2.cell 3⟩) ?_
  clear hK hS
  have hS : (fun w' : World => w'.cell? ⟨g, 0, none⟩ = some (.int .i64 s.st) ∧ w'.cell? ⟨w.heap.size, 0, none⟩ = some (.int .i64 kind) ∧ w'.cell? ⟨w.heap.size, 1, none⟩ = some (.int .i64 key) ∧ w'.cell? ⟨w.heap.size, 2, none⟩ = some (.int .i64 val) ∧ w'.cell? ⟨w.heap.size, 3, none⟩ = some (.int .i64 tall)) w1 := ⟨h2.cells.1, KB2.cell 0, KB2.cell 1, KB2.cell 2, KB2.cell 3⟩
  ((try simp only [Act.put, List.setIfInBounds_toArray, List.set_cons_succ, List.set_cons_zero]); refine wpT_batch (fuel := 0) (by kernel_rfl) (by kernel_rfl) (fun d => by cases d <;> exact fun _ _ _ _ h => h) hS [6] _ _ (by kernel_rfl) ?_; simp only [pickOps, nthOp, List.toList_toArray]; (repeat (first | go_big_quiet_skip | (go_big_quiet_want; first | (go_big_quiet_op; go_big_quiet_on) | (apply Exists.intro; refine ⟨fun w' hS' => ?_, ?_⟩; (· (skip; go_simp; first | done | rfl | exact ⟨rfl, rfl⟩)); go_big_quiet_on; simp only [Act.put, List.setIfInBounds_toArray, List.set_cons_succ, List.set_cons_zero])))); refine wpQuiet_nil ?_; (try dsimp only))
  clear hS
  refine wpT_done (by kernel_rfl) ?_ _
  go_wp2_with fail
  have KR3 := KR2.drew
  have hE3 : w1.drew.cell? ⟨0, 0, none⟩ = some (.iface T u) := hE2
  have hB3 : Below w.heap.size w w1.drew := hB2.drew
  have hne : 0 ≠ w.heap.size + 1 := by omega
  refine wp_region_T (fun w' => w'.cell? ⟨0, 0, none⟩ = some (.iface T u)) 3 (by kernel_rfl) hE3 (fun hS => ?_)
  generalize w1.drew = w2 at KR3 hE3 hB3 hS ⊢
  have s0 := fun v => (KR3.set_ 0 v).cell 0
  have s1 := fun v v' => ((KR3.set_ 0 v).set_ 1 v').cell 1
  have r0 := KR3.cell 0; have r1 := KR3.cell 1; have q0 := KR3.free 0; have q1 := KR3.free 1
  have s2 := fun v => (KR3.set_ 0 v).cell 1
  have s3 := fun v => (KR3.set_ 0 v).free 1
  simp at s0 s1 r0 r1 s2
  ((try simp only [Act.put, List.setIfInBounds_toArray, List.set_cons_succ, List.set_cons_zero]); refine wpT_batch (fuel := 2) (by kernel_rfl) (by kernel_rfl) (fun d => by cases d <;> exact fun _ _ _ _ h => h) hS [0, 1] _ _ (by kernel_rfl) ?_; simp only [pickOps, nthOp, List.toList_toArray]; (repeat (first | go_big_quiet_skip | (go_big_quiet_want; first | (go_big_quiet_op; go_big_quiet_on) | (apply Exists.intro; refine ⟨fun w' hS' => ?_, ?_⟩; (· (skip; go_simp; first | done | rfl | exact ⟨rfl, rfl⟩)); go_big_quiet_on; simp only [Act.put, List.setIfInBounds_toArray, List.set_cons_succ, List.set_cons_zero])))); refine wpQuiet_nil ?_; (try dsimp only))
  (refine wpT_loudN 2 (by kernel_rfl) (fun K hK => ?_); simp only [nthOp, List.toList_toArray])
  go_wp2_with fail
  refine hK.out _ _ (fun _ => (cell_other hne).trans ((cell_other hne).trans hE3)) ?_
  clear hK
  ((refine wpT_loudN 3 (by kernel_rfl) (fun K hK => ?_); simp only [nthOp, List.toList_toArray]); go_wp2_with fail; refine hK.out _ _ (fun h => absurd h (by omega)) ?_; clear hK)
  refine wpT_done (by kernel_rfl) ?_ _
  go_wp2_with fail
  refine bodyPost_ret (v := .tuple #[.agg #[.int .i64 0, .int .i64 0], .iface T u]) (by simp [results, Tryd.results13, go_sem, s0, s1]) rfl ⟨rfl, by (repeat' (first | (with_reducible exact Below.refl _ _) | (with_reducible assumption) | (with_reducible refine Below.alloc ?_ ?_ _) | (with_reducible refine Below.drew ?_) | (with_reducible refine below_drewN ?_ _) | (with_reducible refine Below.setCell ?_ ?_ _) | go_size))⟩


set_option maxRecDepth 100000 in
set_option maxHeartbeats 800000 in
theorem do_yes (hok : POk s) (hf : fitsB s.st o = true) : Calls Tryd.prog 13 #[.pointer (some ⟨g, 0, none⟩), o.v] w (Done w g (.slice A s.vals.length c) (.slice A' s.pairs.length c') (chgOf s o (ansOf s o).1) (ansOf s o)) := by
  have HF := Lib.hid hf; clear hf
  obtain ⟨c0, c1, c2⟩ := h.cells
  have hg := h.k.lt
  have hlt0 := World.block_lt_of_cell? w _ hE
  simp at hlt0
  obtain ⟨kind, key, val, tall⟩ := o
  simp only [POp.v] at *
  have h1 := ((h.alloc (.cells #[.int .i64 kind, .int .i64 key, .int .i64 val, .int .i64 tall] 34)).alloc (.cells #[.int .i64 0, .int .i64 0] 36)).drew
  have KB : Bk (((w.alloc (.cells #[.int .i64 kind, .int .i64 key, .int .i64 val, .int .i64 tall] 34)).alloc (.cells #[.int .i64 0, .int .i64 0] 36)).drew) w.heap.size 34 #[.int .i64 kind, .int .i64 key, .int .i64 val, .int .i64 tall] := ((Bk.at_ rfl).alloc _).drew
  have KR : Bk (((w.alloc (.cells #[.int .i64 kind, .int .i64 key, .int .i64 val, .int .i64 tall] 34)).alloc (.cells #[.int .i64 0, .int .i64 0] 36)).drew) (w.heap.size + 1) 36 #[.int .i64 0, .int .i64 0] := (Bk.at_ (by simp)).drew
  have hB : Below w.heap.size w (((w.alloc (.cells #[.int .i64 kind, .int .i64 key, .int .i64 val, .int .i64 tall] 34)).alloc (.cells #[.int .i64 0, .int .i64 0] 36)).drew) := by (repeat' (first | (with_reducible exact Below.refl _ _) | (with_reducible assumption) | (with_reducible refine Below.alloc ?_ ?_ _) | (with_reducible refine Below.drew ?_) | (with_reducible refine below_drewN ?_ _) | (with_reducible refine Below.setCell ?_ ?_ _) | go_size))
  have hE1 := cell_below hE hB
  go_enter Tryd.func13, Tryd.ntmps13
  go_wp2_with fail
  refine wp_region_T (fun w' => w'.cell? ⟨g, 0, none⟩ = some (.int .i64 s.st) ∧ w'.cell? ⟨w.heap.size, 0, none⟩ = some (.int .i64 kind) ∧ w'.cell? ⟨w.heap.size, 1, none⟩ = some (.int .i64 key) ∧ w'.cell? ⟨w.heap.size, 2, none⟩ = some (.int .i64 val) ∧ w'.cell? ⟨w.heap.size, 3, none⟩ = some (.int .i64 tall)) 7 (by kernel_rfl) ⟨h1.cells.1, KB.cell 0, KB.cell 1, KB.cell 2, KB.cell 3⟩ (fun hS => ?_)
  generalize (((w.alloc (.cells #[.int .i64 kind, .int .i64 key, .int .i64 val, .int .i64 tall] 34)).alloc (.cells #[.int .i64 0, .int .i64 0] 36)).drew) = w0 at h1 KB KR hB hE1 hS ⊢
  ((try simp only [Act.put, List.setIfInBounds_toArray, List.set_cons_succ, List.set_cons_zero]); refine wpT_batch (fuel := 2) (by kernel_rfl) (by kernel_rfl) (fun d => by cases d <;> exact fun _ _ _ _ h => h) hS [0, 1, 2, 3, 4] _ _ (by kernel_rfl) ?_; simp only [pickOps, nthOp, List.toList_toArray]; (repeat (first | go_big_quiet_skip | (go_big_quiet_want; first | (go_big_quiet_op; go_big_quiet_on) | (apply Exists.intro; refine ⟨fun w' hS' => ?_, ?_⟩; (· (obtain ⟨f1, f2, f3, f4, f5⟩ := hS'; go_simp; first | done | rfl | exact ⟨rfl, rfl⟩)); go_big_quiet_on; simp only [Act.put, List.setIfInBounds_toArray, List.set_cons_succ, List.set_cons_zero])))); refine wpQuiet_nil ?_; (try dsimp only))
  (refine wpT_loudN 5 (by kernel_rfl) (fun K hK => ?_); simp only [nthOp, List.toList_toArray])
  go_wp2_with fail
  refine (fits_is s.st ⟨kind, key, val, tall⟩ _ T u hE1 HF.out).mono ?_
  rintro e w1 ⟨rfl, hb1⟩
  have h2 := h1.below hb1
  have KB2 := KB.belowAll hb1
  have KR2 := KR.belowAll hb1
  have hE2 := cell_below hE1 hb1
  have hB2 := hB.trans (hb1.mono hB.size)
  go_wp2_with fail
  refine hK.out _ _ (fun _ => ⟨h2.cells.1, KB2.cell 0, KB2.cell 1, KB2.cell 2, KB2.cell 3⟩) ?_
  clear hK hS
  have hS : (fun w' : World => w'.cell? ⟨g, 0, none⟩ = some (.int .i64 s.st) ∧ w'.cell? ⟨w.heap.size, 0, none⟩ = some (.int .i64 kind) ∧ w'.cell? ⟨w.heap.size, 1, none⟩ = some (.int .i64 key) ∧ w'.cell? ⟨w.heap.size, 2, none⟩ = some (.int .i64 val) ∧ w'.cell? ⟨w.heap.size, 3, none⟩ = some (.int .i64 tall)) w1 := ⟨h2.cells.1, KB2.cell 0, KB2.cell 1, KB2.cell 2, KB2.cell 3⟩
  ((try simp only [Act.put, List.setIfInBounds_toArray, List.set_cons_succ, List.set_cons_zero]); refine wpT_batch (fuel := 0) (by kernel_rfl) (by kernel_rfl) (fun d => by cases d <;> exact fun _ _ _ _ h => h) hS [6] _ _ (by kernel_rfl) ?_; simp only [pickOps, nthOp, List.toList_toArray]; (repeat (first | go_big_quiet_skip | (go_big_quiet_want; first | (go_big_quiet_op; go_big_quiet_on) | (apply Exists.intro; refine ⟨fun w' hS' => ?_, ?_⟩; (· (skip; go_simp; first | done | rfl | exact ⟨rfl, rfl⟩)); go_big_quiet_on; simp only [Act.put, List.setIfInBounds_toArray, List.set_cons_succ, List.set_cons_zero])))); refine wpQuiet_nil ?_; (try dsimp only))
  clear hS
  refine wpT_done (by kernel_rfl) ?_ _
  have d0 := KB2.cell 0; have d1 := KB2.cell 1; have d2 := KB2.cell 2; have d3 := KB2.cell 3
  simp at d0 d1 d2 d3
  have hz1 := hB2.size
  have hzz := KR2.lt
  go_wp2_with fail
  refine (answer_any w1 g s A c A' c' h2 hok ⟨kind, key, val, tall⟩ HF.out).mono ?_
  rintro e w2 ⟨rfl, hb2⟩
  have h3 := (h2.below hb2).alloc (.cells #[.int .i64 (ansOf s ⟨kind, key, val, tall⟩).1, .int .i64 (ansOf s ⟨kind, key, val, tall⟩).2] 36)
  have KB3 := (KB2.belowAll hb2).alloc (.cells #[.int .i64 (ansOf s ⟨kind, key, val, tall⟩).1, .int .i64 (ansOf s ⟨kind, key, val, tall⟩).2] 36)
  have KR3 := (KR2.belowAll hb2).alloc (.cells #[.int .i64 (ansOf s ⟨kind, key, val, tall⟩).1, .int .i64 (ansOf s ⟨kind, key, val, tall⟩).2] 36)
  have KA3 : Bk (w2.alloc (.cells #[.int .i64 (ansOf s ⟨kind, key, val, tall⟩).1, .int .i64 (ansOf s ⟨kind, key, val, tall⟩).2] 36)) w2.heap.size 36 #[.int .i64 (ansOf s ⟨kind, key, val, tall⟩).1, .int .i64 (ansOf s ⟨kind, key, val, tall⟩).2] := Bk.at_ rfl
  have hz2 := hb2.size
  have hB3 : Below w.heap.size w (w2.alloc (.cells #[.int .i64 (ansOf s ⟨kind, key, val, tall⟩).1, .int .i64 (ansOf s ⟨kind, key, val, tall⟩).2] 36)) := (hB2.trans (hb2.mono hz1)).alloc (by omega) _
  clear d0 d1 d2 d3
  have d0 := (KB2.belowAll hb2).cell 0; have d1 := (KB2.belowAll hb2).cell 1; have d2 := (KB2.belowAll hb2).cell 2; have d3 := (KB2.belowAll hb2).cell 3
  simp at d0 d1 d2 d3
  have hzb : w.heap.size < w2.heap.size := by omega
  go_wp2_with fail
  refine (change_any _ g s A c A' c' h3 hok ⟨kind, key, val, tall⟩ HF.out).mono ?_
  rintro e w4 ⟨rfl, hr⟩
  have hr' := hr
  obtain ⟨A1, q1, A2, q2, hc4, ho4⟩ := hr'
  obtain ⟨l1, l2, l3⟩ := h.lt
  have hkeep : ∀ k, w.heap.size ≤ k → k < (w2.alloc (.cells #[.int .i64 (ansOf s ⟨kind, key, val, tall⟩).1, .int .i64 (ansOf s ⟨kind, key, val, tall⟩).2] 36)).heap.size → w4.heap[k]? = (w2.alloc (.cells #[.int .i64 (ansOf s ⟨kind, key, val, tall⟩).1, .int .i64 (ansOf s ⟨kind, key, val, tall⟩).2] 36)).heap[k]? :=
    fun k h1 h2 => ho4.block k h2 (by omega) (fun e => by have := l2 k e; omega) (fun e => by have := l3 k e; omega)
  have KA4 := KA3.same (hkeep _ (by omega) KA3.lt)
  have KR4 := KR3.same (hkeep _ (by omega) KR3.lt)
  have hfin := RetS.set h hB3 hr (b := w.heap.size + 1) (by omega) KR3.lt 0 1 (.int .i64 (ansOf s ⟨kind, key, val, tall⟩).1) (.int .i64 (ansOf s ⟨kind, key, val, tall⟩).2)
  have HR := Lib.hid hfin
  clear hfin hr hkeep hc4 ho4 l1 l2 l3 h3 h2 h1 KB3 KR3 KA3 hB3
  have t0 := KA4.cell 0; have t1 := KA4.cell 1
  have s0 := fun v => (KR4.set_ 0 v).cell 0
  have s1 := fun v v' => ((KR4.set_ 0 v).set_ 1 v').cell 1
  have s2 := fun v => (KR4.set_ 0 v).cell 1
  have s3 := fun v => (KR4.set_ 0 v).free 1
  have r0 := KR4.cell 0; have r1 := KR4.cell 1; have u0 := KR4.free 0; have u1 := KR4.free 1
  simp at t0 t1 s0 s1 s2 r0 r1
  go_wp2_with fail
  refine bodyPost_ret (v := .tuple #[.agg #[.int .i64 (ansOf s ⟨kind, key, val, tall⟩).1, .int .i64 (ansOf s ⟨kind, key, val, tall⟩).2], .nilIface]) (by simp [results, Tryd.results13, go_sem, s0, s1]) rfl ⟨rfl, HR.out⟩
end
end Go.Proofs.YtlfbgpncdahglaaDoor
