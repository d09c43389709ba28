/- slices.Clone at ints and at pairs. -/
import Derived.Test.YtlfbgpncdahglaaDoorDo
import Derived.Lib.SliceRun
namespace Go.Proofs.YtlfbgpncdahglaaDoor
open Go Go.RowKit
set_option linter.unusedSimpArgs false
set_option linter.unusedVariables false
set_option linter.unusedSectionVars false

/-- A slice of its own comes back, in memory that is new. -/
def NewOwn (w : World) (e : TypeId) (sz n : Nat) (xs : List Value) (en : Ending) (w' : World) : Prop :=
  ∃ v, en = .returned v ∧ Own w' e sz v n xs ∧ Below w.heap.size w w' ∧ (∀ b, v.ownBlock = some b → w.heap.size ≤ b)

theorem append_all (w : World) (t e : TypeId) (i : TypeInfo) (z : Value) (sz bytes : Nat) (ht : Tryd.prog.underlying t = some (.slice e)) (hi : Tryd.prog.info? e = some i) (hz : i.zero = some z)
    (hsize : i.size = sz) (hby : i.bytes = bytes) (hzs : z.cells.size = sz) (hsz : 0 < sz) (g : Nat) (hg : Bk w g e #[]) (a : Addr) (m c : Nat) (news : List Value) (hl : news.length = m * sz) (hnews : ∀ j u, news[j]? = some u → w.cell? (a.add j) = some u) (h1 : ∀ u ∈ news, u.oneCell' = true)
    (b1 : m ≤ maxLen) (b2 : m * bytes ≤ 140737488355328) :
    ∃ v' w', (Builtin.append_ #[t, t] t #[.slice (some ⟨g, 0, none⟩) 0 0, .slice (some a) m c]).run Tryd.prog w = .ok v' w' ∧ Own w' e sz v' m news ∧ w.grownBy w' none ∧ Fresh w (.slice (some ⟨g, 0, none⟩) 0 0) v' := by
  have ho : Own w e sz (.slice (some ⟨g, 0, none⟩) 0 0) 0 [] := ⟨by simp, .inr ⟨g, 0, 0, [], [], rfl, by simpa using hg, rfl, Nat.le_refl _, by decide, by simp⟩⟩
  by_cases hm : m = 0
  · subst hm
    obtain rfl : news = [] := List.eq_nil_of_length_eq_zero (by simpa using hl)
    refine ⟨_, w, ?_, ho, grownBy_refl _ _, Fresh.refl _ _⟩
    simp [Builtin.append_, run_underlying ht, sizeOf, typeInfo, hi, Builtin.lenOf, Builtin.firstCells, loadCells, loadCellsFrom, storeCells]
  · obtain ⟨v', w', hr, hw⟩ := run_append_arg_grows (P := Tryd.prog) w t t e i z sz bytes ht hi hz hsize hby hzs hsz ⟨g, 0, none⟩ 0 0 [] (by simp) (fun j u hj => by simp at hj) a m c news hl hnews (by omega) (by omega) (by simpa using b2)
    simp only [Nat.zero_add, List.nil_append] at hw
    refine ⟨v', w', hr, Own.of_row hw.1, hw.2, fun k hk => Or.inr ?_⟩
    rcases hw.1.2 with ⟨rfl, _⟩ | ⟨g', cap, cur, rfl, hb, _⟩
    · cases hk
    · cases hk; exact hb

set_option maxRecDepth 100000 in
set_option maxHeartbeats 400000 in
theorem cloneInts_any (w : World) (A : Option Addr) (c : Nat) (l : List Int) (h : Own w 3 1 (.slice A l.length c) l.length (icells l)) (hl : l.length ≤ 100000) :
    Calls Tryd.prog 40 #[.slice A l.length c] w (NewOwn w 3 1 l.length (icells l)) := by
  cases A with
  | none =>
    have hn : l.length = 0 ∧ c = 0 := by
      rcases h.2 with ⟨h', h0⟩ | ⟨g, off, cap, A, R, hv, _⟩
      · injection h' with e1 e2 e3; exact ⟨h0, e3⟩
      · cases hv
    obtain ⟨hn, rfl⟩ := hn
    have hnil : icells l = [] := List.eq_nil_of_length_eq_zero (by rw [icells_length, hn])
    rw [hnil, hn]
    have hq : ∀ w, (binOp .eql 48 (.slice none 0 0) (.slice none 0 0)).run Tryd.prog w = .ok (.bool true) w := fun w => Lib.run_eql_slice_nil (P := Tryd.prog) w 48 3 none 0 0 0 0 Tryd.underlying48
    go_enter Tryd.func40, Tryd.ntmps40
    go_wp2_with fail
    go_ret
    exact ⟨_, rfl, Own.nil, Below.refl _ _, fun b e => by cases e⟩
  | some a =>
    obtain ⟨g, off, ha⟩ : ∃ g off, a = ⟨g, off, none⟩ := by
      rcases h.2 with ⟨h', h0⟩ | ⟨g, off, cap, A, R, hv, _⟩
      · cases h'
      · cases hv; exact ⟨_, _, rfl⟩
    subst ha
    have hq : ∀ w, (binOp .eql 48 (.slice (some ⟨g, off, none⟩) l.length c) (.slice none 0 0)).run Tryd.prog w = .ok (.bool false) w := fun w => Lib.run_eql_slice_nil (P := Tryd.prog) w 48 3 (some ⟨g, off, none⟩) l.length c 0 0 Tryd.underlying48
    obtain ⟨inf, hi, hz, hz1, hz2⟩ := info_parts infoInt
    obtain ⟨v', w', hrun, ho, hgr, hf⟩ := append_all (w.alloc (.cells #[] 3)) 48 3 inf _ 1 8 Tryd.underlying48 hi hz hz1 hz2 rfl (by omega) w.heap.size (Bk.at_ rfl) ⟨g, off, none⟩ l.length c (icells l) (by rw [icells_length, Nat.mul_one])
      (fun j u hu => by rw [Addr.add_lit]; exact own_cells (h.alloc _) j u hu) (by intro u hu; simp [icells] at hu; obtain ⟨x, _, rfl⟩ := hu; rfl) (by simp only [maxLen]; omega) (by omega)
    have hB : Below w.heap.size w w' := ((Below.refl _ _).alloc (Nat.le_refl _) _).trans (below_of_grown hgr (by simp) (by intro b e; cases e))
    have hF : ∀ b, v'.ownBlock = some b → w.heap.size ≤ b := fun b e => by
      rcases hf b e with h1 | h1
      · cases h1; exact Nat.le_refl _
      · simp at h1; omega
    have HE := Lib.hid (And.intro ho (And.intro hB hF)); clear ho hB hF hgr hf h
    go_enter Tryd.func40, Tryd.ntmps40
    go_wp2_with (at_builtin; refine wpList_append_run (by rfl) _ _ _ _ _ _ _ (by rfl) (by rfl) (by rfl) hrun ?_)
    go_ret
    exact ⟨_, rfl, HE.out⟩
set_option maxRecDepth 100000 in
set_option maxHeartbeats 400000 in
theorem clonePairs_any (w : World) (A : Option Addr) (c : Nat) (l : List (Int × Int)) (h : Own w 94 2 (.slice A l.length c) l.length (pcells l)) (hl : l.length ≤ 100000) :
    Calls Tryd.prog 42 #[.slice A l.length c] w (NewOwn w 94 2 l.length (pcells l)) := by
  cases A with
  | none =>
    have hn : l.length = 0 ∧ c = 0 := by
      rcases h.2 with ⟨h', h0⟩ | ⟨g, off, cap, A, R, hv, _⟩
      · injection h' with e1 e2 e3; exact ⟨h0, e3⟩
      · cases hv
    obtain ⟨hn, rfl⟩ := hn
    have hnil : pcells l = [] := List.eq_nil_of_length_eq_zero (by rw [pcells_length, hn])
    rw [hnil, hn]
    have hq : ∀ w, (binOp .eql 30 (.slice none 0 0) (.slice none 0 0)).run Tryd.prog w = .ok (.bool true) w := fun w => Lib.run_eql_slice_nil (P := Tryd.prog) w 30 94 none 0 0 0 0 Tryd.underlying30
    go_enter Tryd.func42, Tryd.ntmps42
    go_wp2_with fail
    go_ret
    exact ⟨_, rfl, Own.nil, Below.refl _ _, fun b e => by cases e⟩
  | some a =>
    obtain ⟨g, off, ha⟩ : ∃ g off, a = ⟨g, off, none⟩ := by
      rcases h.2 with ⟨h', h0⟩ | ⟨g, off, cap, A, R, hv, _⟩
      · cases h'
      · cases hv; exact ⟨_, _, rfl⟩
    subst ha
    have hq : ∀ w, (binOp .eql 30 (.slice (some ⟨g, off, none⟩) l.length c) (.slice none 0 0)).run Tryd.prog w = .ok (.bool false) w := fun w => Lib.run_eql_slice_nil (P := Tryd.prog) w 30 94 (some ⟨g, off, none⟩) l.length c 0 0 Tryd.underlying30
    obtain ⟨inf, hi, hz, hz1, hz2⟩ := info_parts infoPair
    obtain ⟨v', w', hrun, ho, hgr, hf⟩ := append_all (w.alloc (.cells #[] 94)) 30 94 inf _ 2 16 Tryd.underlying30 hi hz hz1 hz2 rfl (by omega) w.heap.size (Bk.at_ rfl) ⟨g, off, none⟩ l.length c (pcells l) (by rw [pcells_length])
      (fun j u hu => by rw [Addr.add_lit]; exact own_cells (h.alloc _) j u hu) (pcells_one l) (by simp only [maxLen]; omega) (by omega)
    have hB : Below w.heap.size w w' := ((Below.refl _ _).alloc (Nat.le_refl _) _).trans (below_of_grown hgr (by simp) (by intro b e; cases e))
    have hF : ∀ b, v'.ownBlock = some b → w.heap.size ≤ b := fun b e => by
      rcases hf b e with h1 | h1
      · cases h1; exact Nat.le_refl _
      · simp at h1; omega
    have HE := Lib.hid (And.intro ho (And.intro hB hF)); clear ho hB hF hgr hf h
    go_enter Tryd.func42, Tryd.ntmps42
    go_wp2_with (at_builtin; refine wpList_append_run (by rfl) _ _ _ _ _ _ _ (by rfl) (by rfl) (by rfl) hrun ?_)
    go_ret
    exact ⟨_, rfl, HE.out⟩
end Go.Proofs.YtlfbgpncdahglaaDoor
