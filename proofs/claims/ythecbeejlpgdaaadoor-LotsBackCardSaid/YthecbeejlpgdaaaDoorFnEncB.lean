/- Writing a script: plain facts. -/
import Derived.Test.YthecbeejlpgdaaaDoorFnEncA
import Derived.Test.YthecbeejlpgdaaaDoorFnGood
namespace Go.Proofs.YthecbeejlpgdaaaDoor
open Go Go.RowKit
set_option linter.unusedSimpArgs false
set_option linter.unusedVariables false
set_option linter.unusedSectionVars false

theorem encB_bad {x : PScr} (h : goodB x = false ∨ ¬ x.sl ≤ 255 ∨ ∃ k, ∃ h : k < x.ops.length, encOk x.st x.ops[k] = false) : encB x = false := by
  rcases h with h | h | ⟨k, hk, h⟩
  · simp [encB, h]
  · simp [encB, h]
  · simp only [encB, all_bad hk h, Bool.and_false]
theorem encB_yes {x : PScr} (h1 : goodB x = true) (h2 : x.sl ≤ 255) (h3 : x.ops.all (encOk x.st) = true) : encB x = true := by
  simp [encB, h1, h2, h3]

def EncPost (x : PScr) (T : TypeId) (u : Value) (w : World) (e : Ending) (w' : World) : Prop :=
  (if encB x then e = .returned (.tuple #[.string (strOfNums (encNums x)), .nilIface]) else e = .returned (.tuple #[.string ⟨#[]⟩, .iface T u])) ∧ Below w.heap.size w w'
theorem encPost_no {x : PScr} {T : TypeId} {u : Value} {w w' : World} (h : encB x = false) (hb : Below w.heap.size w w') : EncPost x T u w (.returned (.tuple #[.string ⟨#[]⟩, .iface T u])) w' :=
  ⟨by rw [h]; rfl, hb⟩
theorem encPost_yes {x : PScr} {T : TypeId} {u : Value} {w w' : World} (h : encB x = true) (hb : Below w.heap.size w w') : EncPost x T u w (.returned (.tuple #[.string (strOfNums (encNums x)), .nilIface])) w' :=
  ⟨by rw [h]; rfl, hb⟩

/-- What a script that can be run gives. -/
theorem good_cfg {x : PScr} (h : goodB x = true) : 1 ≤ x.st ∧ x.st ≤ 5 ∧ 1 ≤ x.en ∧ x.en ≤ 5 ∧ 1 ≤ x.th ∧ x.th ≤ 6 ∧ 0 ≤ x.sl ∧ x.sl ≤ 1024 ∧ 1 ≤ x.no ∧ x.no ≤ 64 ∧ x.ops.length ≤ 64 ∧ x.picks.length ≤ 4096 := by
  simp only [goodB, Bool.and_eq_true, goodCfg_true, decide_eq_true_iff] at h
  omega
theorem good_task {x : PScr} (h : goodB x = true) {k : Nat} (hk : k < x.ops.length) : 0 ≤ (x.ops[k]).thread ∧ (x.ops[k]).thread < x.th ∧ fitsB x.st (x.ops[k]).op = true := by
  simp only [goodB, Bool.and_eq_true, List.all_eq_true] at h
  have := h.1.2 _ (List.getElem_mem hk)
  simpa [taskOk, and_assoc] using this
theorem good_pick {x : PScr} (h : goodB x = true) {k : Nat} (hk : k < x.picks.length) : 0 ≤ x.picks[k] ∧ x.picks[k] < x.th := by
  simp only [goodB, Bool.and_eq_true, List.all_eq_true] at h
  have := h.2 _ (List.getElem_mem hk)
  simpa [pickOk] using this
theorem fits_bounds {st : Int} {o : POp} (h : fitsB st o = true) : 0 ≤ o.key ∧ o.key ≤ 255 ∧ 0 ≤ o.val ∧ o.val ≤ 1073741824 ∧ 0 ≤ o.tall ∧ o.tall ≤ 3 ∧ 1 ≤ o.kind ∧ o.kind ≤ 8 := by
  rw [fitsB_true, FitsP] at h
  omega
theorem fits_kind {st : Int} {o : POp} (h : fitsB st o = true) : o.kind ∈ kindsOf st := by
  rw [fitsB_true, FitsP] at h
  have : st = 1 ∨ st = 2 ∨ st = 3 ∨ st = 4 ∨ st = 5 := by omega
  rcases this with e | e | e | e | e <;> rw [e] at h ⊢ <;> simp [kindsOf] <;> omega
theorem parts_bounds {st : Int} {o : POp} (h : fitsB st o = true) : 0 ≤ partsA o ∧ partsA o ≤ 4194304 ∧ 0 ≤ partsB o ∧ partsB o ≤ 1073741824 := by
  have := fits_bounds h
  unfold partsA partsB
  split <;> omega
theorem place_bounds {st : Int} {n d : Int} (h : n ∈ kindsOf st) : 0 ≤ placeOf (kindsOf st) n d ∧ placeOf (kindsOf st) n d ≤ 2 := by
  unfold placeOf
  rw [if_pos h]
  have h1 := List.idxOf_lt_length_iff.2 h
  have h2 : (kindsOf st).length ≤ 3 := by unfold kindsOf; (repeat' split) <;> simp
  omega
theorem place_same {st : Int} {n d d' : Int} (h : n ∈ kindsOf st) : placeOf (kindsOf st) n d = placeOf (kindsOf st) n d' := by
  unfold placeOf
  rw [if_pos h, if_pos h]

theorem good_is {b : Bool} (x : PScr) (A A' : Option Addr) (c c' : Nat) (w : World) (T : TypeId) (u : Value) (hE : w.cell? ⟨0, 0, none⟩ = some (.iface T u))
    (ho : Sl w w.heap.size 5 A x.ops.length (tcells x.ops)) (hp : Sl w w.heap.size 1 A' x.picks.length (icells x.picks))
    (lo : x.ops.length ≤ 9223372036854775807) (lp : x.picks.length ≤ 9223372036854775807) (h : goodB x = b) :
    Calls Tryd.prog 17 #[x.v A c A' c'] w (RetB b w) := h ▸ good_any x A A' c c' w T u hE ho hp lo lp

theorem Sl.alloc {w : World} {sz n : Nat} {A : Option Addr} {xs : List Value} (h : Sl w w.heap.size sz A n xs) (o : Obj) : Sl (w.alloc o) (w.alloc o).heap.size sz A n xs :=
  (h.below ((Below.refl _ _).alloc (Nat.le_refl _) o)).more (by simp)
theorem cell_alloc {w : World} {b i : Nat} {u : Value} (h : w.cell? ⟨b, i, none⟩ = some u) (o : Obj) : (w.alloc o).cell? ⟨b, i, none⟩ = some u :=
  (World.cell?_alloc_lt w o _ (World.block_lt_of_cell? w _ h)).trans h

@[go_sem] theorem cell_alloc2_past {w : World} {o1 o2 : Obj} {n i : Nat} (hn : n < w.heap.size) : ((w.alloc o1).alloc o2).cell? ⟨n, i, none⟩ = w.cell? ⟨n, i, none⟩ :=
  (World.cell?_alloc_lt _ _ _ (by simp; omega)).trans (World.cell?_alloc_lt _ _ _ (by simpa using hn))
@[go_sem] theorem cell_alloc3_past {w : World} {o1 o2 o3 : Obj} {n i : Nat} (hn : n < w.heap.size) : (((w.alloc o1).alloc o2).alloc o3).cell? ⟨n, i, none⟩ = w.cell? ⟨n, i, none⟩ :=
  (World.cell?_alloc_lt _ _ _ (by simp; omega)).trans (cell_alloc2_past hn)
@[go_sem] theorem frozen_alloc2_past {w : World} {o1 o2 : Obj} {n i : Nat} (hn : n < w.heap.size) : ((w.alloc o1).alloc o2).frozen? ⟨n, i, none⟩ = w.frozen? ⟨n, i, none⟩ := by
  rw [World.frozen?_of_block (Below.heap_alloc (w.alloc o1) o2 n (by simp; omega)), World.frozen?_of_block (Below.heap_alloc w o1 n hn)]

theorem form_is {st x y : Int} (o : POp) (w : World) (hx0 : 0 ≤ x) (hx1 : x ≤ 255) (hy0 : 0 ≤ y) (hy1 : y ≤ 255) (h : formOp st o.kind x y = o) :
    Calls Tryd.prog 25 #[.int .i64 st, .int .i64 o.kind, .int .i64 x, .int .i64 y] w
      (RetV (.agg #[.int .i64 o.kind, .int .i64 o.key, .int .i64 o.val, .int .i64 o.tall]) w) := by
  have := form_any st o.kind x y w hx0 hx1 hy0 hy1
  rw [h] at this
  exact this
theorem form_eq {st kind x y : Int} {fo : POp} (w : World) (hx0 : 0 ≤ x) (hx1 : x ≤ 255) (hy0 : 0 ≤ y) (hy1 : y ≤ 255) (h : formOp st kind x y = fo) :
    Calls Tryd.prog 25 #[.int .i64 st, .int .i64 kind, .int .i64 x, .int .i64 y] w
      (RetV (.agg #[.int .i64 fo.kind, .int .i64 fo.key, .int .i64 fo.val, .int .i64 fo.tall]) w) := by
  have := form_any st kind x y w hx0 hx1 hy0 hy1
  rw [h] at this
  exact this
theorem op_ne {t u : POp} (h : t ≠ u) : ¬ t.kind = u.kind ∨ (t.kind = u.kind ∧ ¬ t.key = u.key) ∨ (t.kind = u.kind ∧ t.key = u.key ∧ ¬ t.val = u.val) ∨ (t.kind = u.kind ∧ t.key = u.key ∧ t.val = u.val ∧ ¬ t.tall = u.tall) := by
  obtain ⟨b, c, d, e⟩ := t
  obtain ⟨b', c', d', e'⟩ := u
  simp only [ne_eq, POp.mk.injEq] at h ⊢
  by_cases h2 : b = b' <;> by_cases h3 : c = c' <;> by_cases h4 : d = d' <;> by_cases h5 : e = e' <;> simp_all
theorem formOp_kind (st kind x y : Int) : (formOp st kind x y).kind = kind := by unfold formOp; (repeat' split) <;> rfl
theorem encOk_no {st : Int} {t : PTask} (h : encOk st t = false) : ¬ partsA t.op ≤ 255 ∨ (partsA t.op ≤ 255 ∧ ¬ partsB t.op ≤ 255) ∨ (partsA t.op ≤ 255 ∧ partsB t.op ≤ 255 ∧ formOp st t.op.kind (partsA t.op) (partsB t.op) ≠ t.op) := by
  by_cases h1 : partsA t.op ≤ 255
  · by_cases h2 : partsB t.op ≤ 255
    · refine .inr (.inr ⟨h1, h2, fun h3 => ?_⟩)
      simp [encOk, h1, h2, h3] at h
    · exact .inr (.inl ⟨h1, h2⟩)
  · exact .inl h1
theorem encOk_yes {st : Int} {t : PTask} (h : encOk st t = true) : partsA t.op ≤ 255 ∧ partsB t.op ≤ 255 ∧ formOp st t.op.kind (partsA t.op) (partsB t.op) = t.op := by
  simpa [encOk, and_assoc] using h
theorem enc_step {st : Int} {ops : List PTask} {k : Nat} (hk : k < ops.length) (l : List Int) : l ++ (ops.take k).flatMap (opNums st) ++ opNums st ops[k] = l ++ (ops.take (k + 1)).flatMap (opNums st) := by
  rw [List.take_succ_eq_append_getElem hk, List.flatMap_append, List.append_assoc]
  simp
theorem pick_step {ps : List Int} {k : Nat} (hk : k < ps.length) (l : List Int) : l ++ ps.take k ++ [ps[k]] = l ++ ps.take (k + 1) := by
  rw [List.take_succ_eq_append_getElem hk, List.append_assoc]
theorem bk_task {w : World} {g : Nat} {t : PTask} (h : Bk w g 41 t.cells.toArray) : w.cell? ⟨g, 0, none⟩ = some (.int .i64 t.thread) ∧ w.cell? ⟨g, 1, none⟩ = some (.int .i64 t.op.kind) ∧ w.cell? ⟨g, 2, none⟩ = some (.int .i64 t.op.key) ∧
    w.cell? ⟨g, 3, none⟩ = some (.int .i64 t.op.val) ∧ w.cell? ⟨g, 4, none⟩ = some (.int .i64 t.op.tall) := by
  refine ⟨?_, ?_, ?_, ?_, ?_⟩ <;> rw [h.cell] <;> rfl
theorem infoByte : (Tryd.prog.info? 5).map (fun i => (i.zero, i.size, i.bytes)) = some (some (.int .u8 0), 1, 1) := by kernel_rfl
theorem Sl.of_bk {w : World} {g : Nat} {t : TypeId} {l : List Int} (h : Bk w g t (l.map (Value.int .i64)).toArray) : Sl w w.heap.size 1 (some ⟨g, 0, none⟩) l.length (icells l) :=
  ⟨by simp [icells], fun _ => ⟨g, 0, rfl, h.lt, fun j u hu => by rw [Nat.zero_add, h.cell]; simpa [icells] using hu⟩⟩

end Go.Proofs.YthecbeejlpgdaaaDoor
