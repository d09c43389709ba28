/- A structure's contents as plain data, and how they lie in memory. -/
import Derived.Test.YtlfbgpncdahglaaDoorFnFind
import Derived.Test.YtlfbgpncdahglaaDoorFnFits
namespace Go.Proofs.YtlfbgpncdahglaaDoor
open Go Go.RowKit
set_option linter.unusedSimpArgs false
set_option linter.unusedVariables false
set_option linter.unusedSectionVars false

structure PC where
  st : Int
  vals : List Int
  pairs : List (Int × Int)
  deriving DecidableEq

/-- The answer to an operation that fits: code and value. -/
def ansOf (s : PC) (o : POp) : Int × Int :=
  if o.kind = 2 ∨ o.kind = 3 then (match s.vals.getLast? with | some x => (1, x) | none => (2, 0))
  else if o.kind = 5 then (match s.vals.head? with | some x => (1, x) | none => (2, 0))
  else if o.kind = 6 then (if has o.key s.pairs then (3, 0) else (1, 0))
  else if o.kind = 7 ∨ o.kind = 8 then (match has o.key s.pairs, s.pairs[pos o.key s.pairs]? with | true, some p => (1, p.2) | _, _ => (2, 0))
  else (1, 0)

/-- What is there behind an operation with such a code. -/
def chgOf (s : PC) (o : POp) (code : Int) : PC :=
  if code ≠ 1 then s
  else if o.kind = 1 ∨ o.kind = 4 then { s with vals := s.vals ++ [o.val] }
  else if o.kind = 2 then { s with vals := s.vals.dropLast }
  else if o.kind = 5 then { s with vals := s.vals.tail }
  else if o.kind = 6 then { s with pairs := s.pairs.take (pos o.key s.pairs) ++ (o.key, o.val) :: s.pairs.drop (pos o.key s.pairs) }
  else if o.kind = 7 then { s with pairs := s.pairs.take (pos o.key s.pairs) ++ s.pairs.drop (pos o.key s.pairs + 1) }
  else s

/-- The structure s lies in block g, its slices in blocks of their own. -/
structure CR (w : World) (g : Nat) (s : PC) (A : Option Addr) (c : Nat) (A' : Option Addr) (c' : Nat) : Prop where
  k : Bk w g 66 #[.int .i64 s.st, .slice A s.vals.length c, .slice A' s.pairs.length c']
  v : Own w 3 1 (.slice A s.vals.length c) s.vals.length (icells s.vals)
  p : Own w 94 2 (.slice A' s.pairs.length c') s.pairs.length (pcells s.pairs)
  vg : (Value.slice A s.vals.length c).ownBlock ≠ some g
  pg : (Value.slice A' s.pairs.length c').ownBlock ≠ some g
  vp : ∀ b, (Value.slice A s.vals.length c).ownBlock = some b → (Value.slice A' s.pairs.length c').ownBlock ≠ some b

/-- A structure that can be: a map's keys rise. -/
structure POk (s : PC) : Prop where
  st : 1 ≤ s.st ∧ s.st ≤ 5
  rises : Rises s.pairs
  lv : s.vals.length ≤ 10000
  lp : s.pairs.length ≤ 10000

theorem cell_below {w w' : World} {b i : Nat} {u : Value} (h : w.cell? ⟨b, i, none⟩ = some u) (hb : Below w.heap.size w w') : w'.cell? ⟨b, i, none⟩ = some u :=
  (hb.cell (p := ⟨b, i, none⟩) (World.block_lt_of_cell? w _ h)).trans h
theorem Own.sl {w : World} {e : TypeId} {sz n c : Nat} {A : Option Addr} {xs : List Value} (h : Own w e sz (.slice A n c) n xs) : Sl w w.heap.size sz A n xs := by
  have h0 := h
  refine ⟨h.1, fun hn => ?_⟩
  rcases h.2 with ⟨_, h'⟩ | ⟨g, off, cap, A, R, hv, hk, _⟩
  · omega
  · cases hv
    exact ⟨g, off, rfl, hk.lt, own_cells h0⟩

section
variable {w w' : World} {g : Nat} {s : PC} {A : Option Addr} {c : Nat} {A' : Option Addr} {c' : Nat}
theorem CR.cells (h : CR w g s A c A' c') : w.cell? ⟨g, 0, none⟩ = some (.int .i64 s.st) ∧ w.cell? ⟨g, 1, none⟩ = some (.slice A s.vals.length c) ∧ w.cell? ⟨g, 2, none⟩ = some (.slice A' s.pairs.length c') :=
  ⟨h.k.cell 0, h.k.cell 1, h.k.cell 2⟩
theorem CR.below (h : CR w g s A c A' c') (hb : Below w.heap.size w w') : CR w' g s A c A' c' := ⟨h.k.belowAll hb, h.v.below hb, h.p.below hb, h.vg, h.pg, h.vp⟩
theorem CR.alloc (h : CR w g s A c A' c') (o : Obj) : CR (w.alloc o) g s A c A' c' := h.below ((Below.refl _ _).alloc (Nat.le_refl _) _)
theorem CR.drew (h : CR w g s A c A' c') : CR w.drew g s A c A' c' := h.below (Below.refl _ _).drew
theorem CR.drewN (h : CR w g s A c A' c') (n : Nat) : CR (w.drewN n) g s A c A' c' := h.below (below_drewN (Below.refl _ _) n)
end

def RetA (a : Int × Int) (w : World) (e : Ending) (w' : World) : Prop := e = .returned (.agg #[.int .i64 a.1, .int .i64 a.2]) ∧ Below w.heap.size w w'

section
variable (w : World) (g : Nat) (s : PC) (A : Option Addr) (c : Nat) (A' : Option Addr) (c' : Nat) (h : CR w g s A c A' c') (hok : POk s) (kind key val tall : Int)
include h hok
set_option maxHeartbeats 400000 in
theorem answer_put (hk : kind = 1 ∨ kind = 4) : Calls Tryd.prog 37 #[.pointer (some ⟨g, 0, none⟩), .agg #[.int .i64 kind, .int .i64 key, .int .i64 val, .int .i64 tall]] w (RetA (1, 0) w) := by
  obtain ⟨c0, c1, c2⟩ := h.cells
  have hg := h.k.lt
  rcases hk with rfl | rfl
  all_goals
    go_enter Tryd.func37, Tryd.ntmps37
    go_wp2_with fail
    go_returns
    exact ⟨rfl, by (repeat' (first | (with_reducible exact Below.refl _ _) | (with_reducible assumption) | (with_reducible refine Below.alloc ?_ ?_ _) | (with_reducible refine Below.drew ?_) | (with_reducible refine below_drewN ?_ _) | (with_reducible refine Below.setCell ?_ ?_ _) | go_size))⟩

set_option maxHeartbeats 400000 in
theorem answer_last (hk : kind = 2 ∨ kind = 3) : Calls Tryd.prog 37 #[.pointer (some ⟨g, 0, none⟩), .agg #[.int .i64 kind, .int .i64 key, .int .i64 val, .int .i64 tall]] w (RetA (match s.vals.getLast? with | some x => (1, x) | none => (2, 0)) w) := by
  obtain ⟨c0, c1, c2⟩ := h.cells
  have hg := h.k.lt
  have hl := hok.lv
  by_cases hn : s.vals.length = 0
  · have hv : s.vals = [] := List.eq_nil_of_length_eq_zero hn
    rw [hv] at c1 ⊢
    simp only [List.length_nil, List.getLast?_nil] at c1 ⊢
    clear hn hv
    rcases hk with rfl | rfl
    all_goals
      go_enter Tryd.func37, Tryd.ntmps37
      go_wp2_with fail
      go_returns
      exact ⟨rfl, by (repeat' (first | (with_reducible exact Below.refl _ _) | (with_reducible assumption) | (with_reducible refine Below.alloc ?_ ?_ _) | (with_reducible refine Below.drew ?_) | (with_reducible refine below_drewN ?_ _) | (with_reducible refine Below.setCell ?_ ?_ _) | go_size))⟩
  · obtain ⟨m, hm⟩ : ∃ m, s.vals.length = m + 1 := ⟨s.vals.length - 1, by omega⟩
    have hx : s.vals.getLast? = some (s.vals[m]) := by rw [List.getLast?_eq_getElem?, show s.vals.length - 1 = m from by omega]; exact List.getElem?_eq_getElem (by omega)
    rw [hx]
    obtain ⟨b, off, rfl, hb, q⟩ := h.v.sl.pick (i := m) (by omega)
    simp only []
    generalize s.vals[m] = x at *
    have HX := Lib.hid hx; clear hx hn
    rw [hm] at c1 hl
    have HM := Lib.hid hm; clear hm
    rcases hk with rfl | rfl
    all_goals
      go_enter Tryd.func37, Tryd.ntmps37
      go_wp2_with fail
      go_returns
      exact ⟨rfl, by (repeat' (first | (with_reducible exact Below.refl _ _) | (with_reducible assumption) | (with_reducible refine Below.alloc ?_ ?_ _) | (with_reducible refine Below.drew ?_) | (with_reducible refine below_drewN ?_ _) | (with_reducible refine Below.setCell ?_ ?_ _) | go_size))⟩

set_option maxHeartbeats 400000 in
theorem answer_first : Calls Tryd.prog 37 #[.pointer (some ⟨g, 0, none⟩), .agg #[.int .i64 5, .int .i64 key, .int .i64 val, .int .i64 tall]] w (RetA (match s.vals.head? with | some x => (1, x) | none => (2, 0)) w) := by
  obtain ⟨c0, c1, c2⟩ := h.cells
  have hg := h.k.lt
  have hl := hok.lv
  by_cases hn : s.vals.length = 0
  · have hv : s.vals = [] := List.eq_nil_of_length_eq_zero hn
    rw [hv] at c1 ⊢
    simp only [List.length_nil, List.head?_nil] at c1 ⊢
    clear hn hv
    go_enter Tryd.func37, Tryd.ntmps37
    go_wp2_with fail
    go_returns
    exact ⟨rfl, by (repeat' (first | (with_reducible exact Below.refl _ _) | (with_reducible assumption) | (with_reducible refine Below.alloc ?_ ?_ _) | (with_reducible refine Below.drew ?_) | (with_reducible refine below_drewN ?_ _) | (with_reducible refine Below.setCell ?_ ?_ _) | go_size))⟩
  · have hx : s.vals.head? = some (s.vals[0]'(by omega)) := by rw [List.head?_eq_getElem?]; exact List.getElem?_eq_getElem (by omega)
    rw [hx]
    obtain ⟨b, off, rfl, hb, q⟩ := h.v.sl.pick (i := 0) (by omega)
    simp only [Nat.add_zero] at q ⊢
    generalize s.vals[0] = x at *
    have HX := Lib.hid hx; clear hx
    obtain ⟨m, hm⟩ : ∃ m, s.vals.length = m + 1 := ⟨s.vals.length - 1, by omega⟩
    rw [hm] at c1 hl
    have HM := Lib.hid hm; clear hm hn
    go_enter Tryd.func37, Tryd.ntmps37
    go_wp2_with fail
    go_returns
    exact ⟨rfl, by (repeat' (first | (with_reducible exact Below.refl _ _) | (with_reducible assumption) | (with_reducible refine Below.alloc ?_ ?_ _) | (with_reducible refine Below.drew ?_) | (with_reducible refine below_drewN ?_ _) | (with_reducible refine Below.setCell ?_ ?_ _) | go_size))⟩

set_option maxRecDepth 100000 in
set_option maxHeartbeats 800000 in
theorem answer_insert (hk0 : 0 ≤ key) (hk1 : key ≤ 255) (r : Bool) (hr : has key s.pairs = r) : Calls Tryd.prog 37 #[.pointer (some ⟨g, 0, none⟩), .agg #[.int .i64 6, .int .i64 key, .int .i64 val, .int .i64 tall]] w (RetA (if r then (3, 0) else (1, 0)) w) := by
  obtain ⟨c0, c1, c2⟩ := h.cells
  have hg := h.k.lt
  have hlp := hok.lp
  cases r
  all_goals
    have HR := Lib.hid hr; clear hr
    simp only [if_true, Bool.false_eq_true, if_false]
    go_enter Tryd.func37, Tryd.ntmps37
    go_wp2_with fail
    (refine wp_region_T (fun w' => w'.cell? ⟨w.heap.size, 1, none⟩ = some (.int .i64 key)) 11 (by kernel_rfl) (by simp) (fun hS => ?_); ((try simp only [Act.put, List.setIfInBounds_toArray, List.set_cons_succ, List.set_cons_zero]); refine wpT_batch (fuel := 6) (by kernel_rfl) (by kernel_rfl) (fun d => by cases d <;> exact fun _ _ _ _ h => h) hS [0, 1, 2, 3, 4] _ _ (by kernel_rfl) ?_; simp only [pickOps, nthOp, List.toList_toArray]; (repeat (first | go_big_quiet_skip | (go_big_quiet_want; first | (go_big_quiet_op; go_big_quiet_on) | (apply Exists.intro; refine ⟨fun w' hS' => ?_, ?_⟩; (· (skip; go_simp; first | done | rfl | exact ⟨rfl, rfl⟩)); go_big_quiet_on; simp only [Act.put, List.setIfInBounds_toArray, List.set_cons_succ, List.set_cons_zero])))); refine wpQuiet_nil ?_; (try dsimp only)); (refine wpT_loudN 5 (by kernel_rfl) (fun K hK => ?_); simp only [nthOp, List.toList_toArray]); have HC := ((h.alloc (.cells #[.int .i64 6, .int .i64 key, .int .i64 val, .int .i64 tall] 34)).alloc (.cells #[.int .i64 0, .int .i64 0] 36)).drew; go_wp2_with fail; refine (find_any _ g A' c' s.pairs HC.cells.2.2 HC.p.sl hok.rises (by omega) key hk0 hk1).mono ?_; rintro e w1 ⟨rfl, hb1⟩; obtain ⟨hc1, hf1⟩ := bcell hb1; have hB : Below w.heap.size w w1 := ((((Below.refl w.heap.size w).alloc (Nat.le_refl _) _).alloc (by simp) _).drew).trans (hb1.mono (by simp; try omega)); have KR : Bk w1 (w.heap.size + 1) 36 #[.int .i64 0, .int .i64 0] := Bk.belowAll (Bk.drew (Bk.at_ (by simp))) hb1; have r0 := KR.cell 0; have r1 := KR.cell 1; simp at r0 r1; have q0 := KR.free 0; have q1 := KR.free 1; have s0 := fun v => (KR.set_ 0 v).cell 0; have s1 := fun v v' => ((KR.set_ 0 v).set_ 1 v').cell 1; simp at s0 s1; clear KR; rw [HR.out]; go_wp2_with fail; refine hK.out _ _ (fun _ => cell_below hS hb1) ?_; clear hK; have hS := cell_below hS hb1; ((try simp only [Act.put, List.setIfInBounds_toArray, List.set_cons_succ, List.set_cons_zero]); refine wpT_batch (fuel := 0) (by kernel_rfl) (by kernel_rfl) (fun d => by cases d <;> exact fun _ _ _ _ h => h) hS [6, 7, 8, 9, 10] _ _ (by kernel_rfl) ?_; simp only [pickOps, nthOp, List.toList_toArray]; (repeat (first | go_big_quiet_skip | (go_big_quiet_want; first | (go_big_quiet_op; go_big_quiet_on) | (apply Exists.intro; refine ⟨fun w' hS' => ?_, ?_⟩; (· (skip; go_simp; first | done | rfl | exact ⟨rfl, rfl⟩)); go_big_quiet_on; simp only [Act.put, List.setIfInBounds_toArray, List.set_cons_succ, List.set_cons_zero])))); refine wpQuiet_nil ?_; (try dsimp only)); refine wpT_done (by kernel_rfl) ?_ _)
    go_wp2_with fail
    refine bodyPost_ret (v := .agg #[.int .i64 _, .int .i64 0]) (by simp [results, Tryd.results37, go_sem, s0, s1]) rfl ⟨rfl, by (repeat' (first | (with_reducible exact Below.refl _ _) | (with_reducible assumption) | (with_reducible refine Below.alloc ?_ ?_ _) | (with_reducible refine Below.drew ?_) | (with_reducible refine below_drewN ?_ _) | (with_reducible refine Below.setCell ?_ ?_ _) | go_size))⟩

omit h hok in
theorem Sl.pairAt {w : World} {B b off : Nat} {l : List (Int × Int)} (h : Sl w B 2 (some ⟨b, off, none⟩) l.length (pcells l)) {i : Nat} (hi : i < l.length) :
    w.cell? ⟨b, off + i * 2, none⟩ = some (.int .i64 l[i].1) ∧ w.cell? ⟨b, off + i * 2 + 1, none⟩ = some (.int .i64 l[i].2) := by
  obtain ⟨b', off', e, hb, hc⟩ := h.pair hi
  cases e
  exact hc

omit h hok in
theorem has_some {key : Int} {l : List (Int × Int)} (h : has key l = true) : ∃ hp : pos key l < l.length, l[pos key l].1 = key := by
  unfold has at h
  rcases Nat.lt_or_ge (pos key l) l.length with h1 | h1
  · rw [List.getElem?_eq_getElem h1] at h
    exact ⟨h1, by simpa using h⟩
  · rw [List.getElem?_eq_none h1] at h; cases h

set_option maxRecDepth 100000 in
set_option maxHeartbeats 1600000 in
theorem answer_no (hk0 : 0 ≤ key) (hk1 : key ≤ 255) (hk : kind = 7 ∨ kind = 8) (hr : has key s.pairs = false) : Calls Tryd.prog 37 #[.pointer (some ⟨g, 0, none⟩), .agg #[.int .i64 kind, .int .i64 key, .int .i64 val, .int .i64 tall]] w (RetA (2, 0) w) := by
  obtain ⟨c0, c1, c2⟩ := h.cells
  have hg := h.k.lt
  have hlp := hok.lp
  have HR := Lib.hid hr; clear hr
  rcases hk with rfl | rfl
  · go_enter Tryd.func37, Tryd.ntmps37
    go_wp2_with fail
    (refine wp_region_T (fun w' => w'.cell? ⟨w.heap.size, 1, none⟩ = some (.int .i64 key)) 11 (by kernel_rfl) (by simp) (fun hS => ?_); ((try simp only [Act.put, List.setIfInBounds_toArray, List.set_cons_succ, List.set_cons_zero]); refine wpT_batch (fuel := 6) (by kernel_rfl) (by kernel_rfl) (fun d => by cases d <;> exact fun _ _ _ _ h => h) hS [0, 1, 2, 3, 4] _ _ (by kernel_rfl) ?_; simp only [pickOps, nthOp, List.toList_toArray]; (repeat (first | go_big_quiet_skip | (go_big_quiet_want; first | (go_big_quiet_op; go_big_quiet_on) | (apply Exists.intro; refine ⟨fun w' hS' => ?_, ?_⟩; (· (skip; go_simp; first | done | rfl | exact ⟨rfl, rfl⟩)); go_big_quiet_on; simp only [Act.put, List.setIfInBounds_toArray, List.set_cons_succ, List.set_cons_zero])))); refine wpQuiet_nil ?_; (try dsimp only)); (refine wpT_loudN 5 (by kernel_rfl) (fun K hK => ?_); simp only [nthOp, List.toList_toArray]); have HC := ((h.alloc (.cells #[.int .i64 7, .int .i64 key, .int .i64 val, .int .i64 tall] 34)).alloc (.cells #[.int .i64 0, .int .i64 0] 36)).drew; go_wp2_with fail; refine (find_any _ g A' c' s.pairs HC.cells.2.2 HC.p.sl hok.rises (by omega) key hk0 hk1).mono ?_; rintro e w1 ⟨rfl, hb1⟩; obtain ⟨hc1, hf1⟩ := bcell hb1; have hB : Below w.heap.size w w1 := ((((Below.refl w.heap.size w).alloc (Nat.le_refl _) _).alloc (by simp) _).drew).trans (hb1.mono (by simp; try omega)); have KR : Bk w1 (w.heap.size + 1) 36 #[.int .i64 0, .int .i64 0] := Bk.belowAll (Bk.drew (Bk.at_ (by simp))) hb1; have r0 := KR.cell 0; have r1 := KR.cell 1; simp at r0 r1; have q0 := KR.free 0; have q1 := KR.free 1; have s0 := fun v => (KR.set_ 0 v).cell 0; have s1 := fun v v' => ((KR.set_ 0 v).set_ 1 v').cell 1; simp at s0 s1; clear KR; rw [HR.out]; go_wp2_with fail; refine hK.out _ _ (fun _ => cell_below hS hb1) ?_; clear hK; have hS := cell_below hS hb1; ((try simp only [Act.put, List.setIfInBounds_toArray, List.set_cons_succ, List.set_cons_zero]); refine wpT_batch (fuel := 0) (by kernel_rfl) (by kernel_rfl) (fun d => by cases d <;> exact fun _ _ _ _ h => h) hS [6, 7, 8, 9, 10] _ _ (by kernel_rfl) ?_; simp only [pickOps, nthOp, List.toList_toArray]; (repeat (first | go_big_quiet_skip | (go_big_quiet_want; first | (go_big_quiet_op; go_big_quiet_on) | (apply Exists.intro; refine ⟨fun w' hS' => ?_, ?_⟩; (· (skip; go_simp; first | done | rfl | exact ⟨rfl, rfl⟩)); go_big_quiet_on; simp only [Act.put, List.setIfInBounds_toArray, List.set_cons_succ, List.set_cons_zero])))); refine wpQuiet_nil ?_; (try dsimp only)); refine wpT_done (by kernel_rfl) ?_ _)
    go_wp2_with fail
    refine bodyPost_ret (v := .agg #[.int .i64 _, .int .i64 0]) (by simp [results, Tryd.results37, go_sem, s0, s1]) rfl ⟨rfl, by (repeat' (first | (with_reducible exact Below.refl _ _) | (with_reducible assumption) | (with_reducible refine Below.alloc ?_ ?_ _) | (with_reducible refine Below.drew ?_) | (with_reducible refine below_drewN ?_ _) | (with_reducible refine Below.setCell ?_ ?_ _) | go_size))⟩
  · go_enter Tryd.func37, Tryd.ntmps37
    go_wp2_with fail
    (refine wp_region_T (fun w' => w'.cell? ⟨w.heap.size, 1, none⟩ = some (.int .i64 key)) 11 (by kernel_rfl) (by simp) (fun hS => ?_); ((try simp only [Act.put, List.setIfInBounds_toArray, List.set_cons_succ, List.set_cons_zero]); refine wpT_batch (fuel := 6) (by kernel_rfl) (by kernel_rfl) (fun d => by cases d <;> exact fun _ _ _ _ h => h) hS [0, 1, 2, 3, 4] _ _ (by kernel_rfl) ?_; simp only [pickOps, nthOp, List.toList_toArray]; (repeat (first | go_big_quiet_skip | (go_big_quiet_want; first | (go_big_quiet_op; go_big_quiet_on) | (apply Exists.intro; refine ⟨fun w' hS' => ?_, ?_⟩; (· (skip; go_simp; first | done | rfl | exact ⟨rfl, rfl⟩)); go_big_quiet_on; simp only [Act.put, List.setIfInBounds_toArray, List.set_cons_succ, List.set_cons_zero])))); refine wpQuiet_nil ?_; (try dsimp only)); (refine wpT_loudN 5 (by kernel_rfl) (fun K hK => ?_); simp only [nthOp, List.toList_toArray]); have HC := ((h.alloc (.cells #[.int .i64 8, .int .i64 key, .int .i64 val, .int .i64 tall] 34)).alloc (.cells #[.int .i64 0, .int .i64 0] 36)).drew; go_wp2_with fail; refine (find_any _ g A' c' s.pairs HC.cells.2.2 HC.p.sl hok.rises (by omega) key hk0 hk1).mono ?_; rintro e w1 ⟨rfl, hb1⟩; obtain ⟨hc1, hf1⟩ := bcell hb1; have hB : Below w.heap.size w w1 := ((((Below.refl w.heap.size w).alloc (Nat.le_refl _) _).alloc (by simp) _).drew).trans (hb1.mono (by simp; try omega)); have KR : Bk w1 (w.heap.size + 1) 36 #[.int .i64 0, .int .i64 0] := Bk.belowAll (Bk.drew (Bk.at_ (by simp))) hb1; have r0 := KR.cell 0; have r1 := KR.cell 1; simp at r0 r1; have q0 := KR.free 0; have q1 := KR.free 1; have s0 := fun v => (KR.set_ 0 v).cell 0; have s1 := fun v v' => ((KR.set_ 0 v).set_ 1 v').cell 1; simp at s0 s1; clear KR; rw [HR.out]; go_wp2_with fail; refine hK.out _ _ (fun _ => cell_below hS hb1) ?_; clear hK; have hS := cell_below hS hb1; ((try simp only [Act.put, List.setIfInBounds_toArray, List.set_cons_succ, List.set_cons_zero]); refine wpT_batch (fuel := 0) (by kernel_rfl) (by kernel_rfl) (fun d => by cases d <;> exact fun _ _ _ _ h => h) hS [6, 7, 8, 9, 10] _ _ (by kernel_rfl) ?_; simp only [pickOps, nthOp, List.toList_toArray]; (repeat (first | go_big_quiet_skip | (go_big_quiet_want; first | (go_big_quiet_op; go_big_quiet_on) | (apply Exists.intro; refine ⟨fun w' hS' => ?_, ?_⟩; (· (skip; go_simp; first | done | rfl | exact ⟨rfl, rfl⟩)); go_big_quiet_on; simp only [Act.put, List.setIfInBounds_toArray, List.set_cons_succ, List.set_cons_zero])))); refine wpQuiet_nil ?_; (try dsimp only)); refine wpT_done (by kernel_rfl) ?_ _)
    go_wp2_with fail
    refine bodyPost_ret (v := .agg #[.int .i64 _, .int .i64 0]) (by simp [results, Tryd.results37, go_sem, s0, s1]) rfl ⟨rfl, by (repeat' (first | (with_reducible exact Below.refl _ _) | (with_reducible assumption) | (with_reducible refine Below.alloc ?_ ?_ _) | (with_reducible refine Below.drew ?_) | (with_reducible refine below_drewN ?_ _) | (with_reducible refine Below.setCell ?_ ?_ _) | go_size))⟩

set_option maxRecDepth 100000 in
set_option maxHeartbeats 1600000 in
theorem answer_yes (hk0 : 0 ≤ key) (hk1 : key ≤ 255) (hk : kind = 7 ∨ kind = 8) (hr : has key s.pairs = true) (hp : pos key s.pairs < s.pairs.length) : Calls Tryd.prog 37 #[.pointer (some ⟨g, 0, none⟩), .agg #[.int .i64 kind, .int .i64 key, .int .i64 val, .int .i64 tall]] w (RetA (1, s.pairs[pos key s.pairs].2) w) := by
  obtain ⟨c0, c1, c2⟩ := h.cells
  have hg := h.k.lt
  have hlp := hok.lp
  have HR := Lib.hid hr; clear hr
  obtain ⟨pb, off, rfl, hpb, p0, p1⟩ := h.p.sl.pair hp
  rcases hk with rfl | rfl
  · go_enter Tryd.func37, Tryd.ntmps37
    go_wp2_with fail
    (refine wp_region_T (fun w' => w'.cell? ⟨w.heap.size, 1, none⟩ = some (.int .i64 key)) 11 (by kernel_rfl) (by simp) (fun hS => ?_); ((try simp only [Act.put, List.setIfInBounds_toArray, List.set_cons_succ, List.set_cons_zero]); refine wpT_batch (fuel := 6) (by kernel_rfl) (by kernel_rfl) (fun d => by cases d <;> exact fun _ _ _ _ h => h) hS [0, 1, 2, 3, 4] _ _ (by kernel_rfl) ?_; simp only [pickOps, nthOp, List.toList_toArray]; (repeat (first | go_big_quiet_skip | (go_big_quiet_want; first | (go_big_quiet_op; go_big_quiet_on) | (apply Exists.intro; refine ⟨fun w' hS' => ?_, ?_⟩; (· (skip; go_simp; first | done | rfl | exact ⟨rfl, rfl⟩)); go_big_quiet_on; simp only [Act.put, List.setIfInBounds_toArray, List.set_cons_succ, List.set_cons_zero])))); refine wpQuiet_nil ?_; (try dsimp only)); (refine wpT_loudN 5 (by kernel_rfl) (fun K hK => ?_); simp only [nthOp, List.toList_toArray]); have HC := ((h.alloc (.cells #[.int .i64 7, .int .i64 key, .int .i64 val, .int .i64 tall] 34)).alloc (.cells #[.int .i64 0, .int .i64 0] 36)).drew; go_wp2_with fail; refine (find_any _ g (some ⟨pb, off, none⟩) c' s.pairs HC.cells.2.2 HC.p.sl hok.rises (by omega) key hk0 hk1).mono ?_; rintro e w1 ⟨rfl, hb1⟩; obtain ⟨hc1, hf1⟩ := bcell hb1; have hB : Below w.heap.size w w1 := ((((Below.refl w.heap.size w).alloc (Nat.le_refl _) _).alloc (by simp) _).drew).trans (hb1.mono (by simp; try omega)); have KR : Bk w1 (w.heap.size + 1) 36 #[.int .i64 0, .int .i64 0] := Bk.belowAll (Bk.drew (Bk.at_ (by simp))) hb1; have r0 := KR.cell 0; have r1 := KR.cell 1; simp at r0 r1; have q0 := KR.free 0; have q1 := KR.free 1; have s0 := fun v => (KR.set_ 0 v).cell 0; have s1 := fun v v' => ((KR.set_ 0 v).set_ 1 v').cell 1; simp at s0 s1; clear KR; rw [HR.out]; go_wp2_with fail; refine hK.out _ _ (fun _ => cell_below hS hb1) ?_; clear hK; have hS := cell_below hS hb1; ((try simp only [Act.put, List.setIfInBounds_toArray, List.set_cons_succ, List.set_cons_zero]); refine wpT_batch (fuel := 0) (by kernel_rfl) (by kernel_rfl) (fun d => by cases d <;> exact fun _ _ _ _ h => h) hS [6, 7, 8, 9, 10] _ _ (by kernel_rfl) ?_; simp only [pickOps, nthOp, List.toList_toArray]; (repeat (first | go_big_quiet_skip | (go_big_quiet_want; first | (go_big_quiet_op; go_big_quiet_on) | (apply Exists.intro; refine ⟨fun w' hS' => ?_, ?_⟩; (· (skip; go_simp; first | done | rfl | exact ⟨rfl, rfl⟩)); go_big_quiet_on; simp only [Act.put, List.setIfInBounds_toArray, List.set_cons_succ, List.set_cons_zero])))); refine wpQuiet_nil ?_; (try dsimp only)); refine wpT_done (by kernel_rfl) ?_ _)
    have HC2 := HC.below hb1; have d2 := HC2.cells.2.2; obtain ⟨d3, d4⟩ := HC2.p.sl.pairAt hp
    go_wp2_with fail
    refine bodyPost_ret (v := .agg #[.int .i64 _, .int .i64 s.pairs[pos key s.pairs].2]) (by simp [results, Tryd.results37, go_sem, s0, s1]) rfl ⟨rfl, by (repeat' (first | (with_reducible exact Below.refl _ _) | (with_reducible assumption) | (with_reducible refine Below.alloc ?_ ?_ _) | (with_reducible refine Below.drew ?_) | (with_reducible refine below_drewN ?_ _) | (with_reducible refine Below.setCell ?_ ?_ _) | go_size))⟩
  · go_enter Tryd.func37, Tryd.ntmps37
    go_wp2_with fail
    (refine wp_region_T (fun w' => w'.cell? ⟨w.heap.size, 1, none⟩ = some (.int .i64 key)) 11 (by kernel_rfl) (by simp) (fun hS => ?_); ((try simp only [Act.put, List.setIfInBounds_toArray, List.set_cons_succ, List.set_cons_zero]); refine wpT_batch (fuel := 6) (by kernel_rfl) (by kernel_rfl) (fun d => by cases d <;> exact fun _ _ _ _ h => h) hS [0, 1, 2, 3, 4] _ _ (by kernel_rfl) ?_; simp only [pickOps, nthOp, List.toList_toArray]; (repeat (first | go_big_quiet_skip | (go_big_quiet_want; first | (go_big_quiet_op; go_big_quiet_on) | (apply Exists.intro; refine ⟨fun w' hS' => ?_, ?_⟩; (· (skip; go_simp; first | done | rfl | exact ⟨rfl, rfl⟩)); go_big_quiet_on; simp only [Act.put, List.setIfInBounds_toArray, List.set_cons_succ, List.set_cons_zero])))); refine wpQuiet_nil ?_; (try dsimp only)); (refine wpT_loudN 5 (by kernel_rfl) (fun K hK => ?_); simp only [nthOp, List.toList_toArray]); have HC := ((h.alloc (.cells #[.int .i64 8, .int .i64 key, .int .i64 val, .int .i64 tall] 34)).alloc (.cells #[.int .i64 0, .int .i64 0] 36)).drew; go_wp2_with fail; refine (find_any _ g (some ⟨pb, off, none⟩) c' s.pairs HC.cells.2.2 HC.p.sl hok.rises (by omega) key hk0 hk1).mono ?_; rintro e w1 ⟨rfl, hb1⟩; obtain ⟨hc1, hf1⟩ := bcell hb1; have hB : Below w.heap.size w w1 := ((((Below.refl w.heap.size w).alloc (Nat.le_refl _) _).alloc (by simp) _).drew).trans (hb1.mono (by simp; try omega)); have KR : Bk w1 (w.heap.size + 1) 36 #[.int .i64 0, .int .i64 0] := Bk.belowAll (Bk.drew (Bk.at_ (by simp))) hb1; have r0 := KR.cell 0; have r1 := KR.cell 1; simp at r0 r1; have q0 := KR.free 0; have q1 := KR.free 1; have s0 := fun v => (KR.set_ 0 v).cell 0; have s1 := fun v v' => ((KR.set_ 0 v).set_ 1 v').cell 1; simp at s0 s1; clear KR; rw [HR.out]; go_wp2_with fail; refine hK.out _ _ (fun _ => cell_below hS hb1) ?_; clear hK; have hS := cell_below hS hb1; ((try simp only [Act.put, List.setIfInBounds_toArray, List.set_cons_succ, List.set_cons_zero]); refine wpT_batch (fuel := 0) (by kernel_rfl) (by kernel_rfl) (fun d => by cases d <;> exact fun _ _ _ _ h => h) hS [6, 7, 8, 9, 10] _ _ (by kernel_rfl) ?_; simp only [pickOps, nthOp, List.toList_toArray]; (repeat (first | go_big_quiet_skip | (go_big_quiet_want; first | (go_big_quiet_op; go_big_quiet_on) | (apply Exists.intro; refine ⟨fun w' hS' => ?_, ?_⟩; (· (skip; go_simp; first | done | rfl | exact ⟨rfl, rfl⟩)); go_big_quiet_on; simp only [Act.put, List.setIfInBounds_toArray, List.set_cons_succ, List.set_cons_zero])))); refine wpQuiet_nil ?_; (try dsimp only)); refine wpT_done (by kernel_rfl) ?_ _)
    have HC2 := HC.below hb1; have d2 := HC2.cells.2.2; obtain ⟨d3, d4⟩ := HC2.p.sl.pairAt hp
    go_wp2_with fail
    refine bodyPost_ret (v := .agg #[.int .i64 _, .int .i64 s.pairs[pos key s.pairs].2]) (by simp [results, Tryd.results37, go_sem, s0, s1]) rfl ⟨rfl, by (repeat' (first | (with_reducible exact Below.refl _ _) | (with_reducible assumption) | (with_reducible refine Below.alloc ?_ ?_ _) | (with_reducible refine Below.drew ?_) | (with_reducible refine below_drewN ?_ _) | (with_reducible refine Below.setCell ?_ ?_ _) | go_size))⟩
end
end Go.Proofs.YtlfbgpncdahglaaDoor
