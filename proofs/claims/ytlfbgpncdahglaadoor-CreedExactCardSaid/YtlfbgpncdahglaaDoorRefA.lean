/- The reference's structure: at, Vals, Pairs; append of any row to a row of its own. -/
import Derived.Test.YtlfbgpncdahglaaDoorBack
namespace Go.Proofs.YtlfbgpncdahglaaDoor
open Go Go.RowKit
set_option linter.unusedSimpArgs false
set_option linter.unusedVariables false
set_option linter.unusedSectionVars false

theorem Own.some_ {w : World} {e : TypeId} {sz n : Nat} {v : Value} {xs : List Value} (h : Own w e sz v n xs) (hn : 0 < n) : v.ownBlock ≠ none := by
  rcases h.2 with ⟨_, h0⟩ | ⟨g, off, cap, A, R, rfl, _⟩
  · omega
  · simp [Value.ownBlock]

theorem pairs_append_sl (w : World) (v : Value) (l : List (Int × Int)) (h : Own w 94 2 v l.length (pcells l)) (hnn : v.ownBlock ≠ none) (hl : l.length ≤ 100000) (ms : List (Int × Int)) (hm : ms.length ≤ 100000) (A : Option Addr) (c B : Nat) (hs : Sl w B 2 A ms.length (pcells ms)) (t : TypeId) :
    ∃ v' w', (Builtin.append_ #[30, 30] t #[v, .slice A ms.length c]).run Tryd.prog w = .ok v' w' ∧
      Own w' 94 2 v' (l ++ ms).length (pcells (l ++ ms)) ∧ w.grownBy w' v.ownBlock ∧ Fresh w v v' ∧ v'.ownBlock ≠ none := by
  obtain ⟨i, hi, hz, hz1, hz2⟩ := info_parts infoPair
  by_cases h0 : ms.length = 0
  · obtain rfl : ms = [] := List.eq_nil_of_length_eq_zero h0
    rcases h.2 with ⟨rfl, _⟩ | ⟨g, off, cap, A', R, rfl, hk, hA, hn, hc, hR⟩
    · exact absurd rfl hnn
    · have h' : Own w 94 2 (.slice (some ⟨g, off, none⟩) l.length cap) (l ++ []).length (pcells (l ++ [])) := by simpa using h
      refine ⟨_, w, ?_, h', grownBy_refl _ _, Fresh.refl _ _, hnn⟩
      cases A <;> simp [Builtin.append_, run_underlying Tryd.underlying30, sizeOf, typeInfo, hi, Builtin.lenOf, Builtin.firstCells, loadCells, loadCellsFrom, storeCells, hn]
  · obtain ⟨b, off, rfl, _, hc⟩ := hs.2 (by omega)
    have h0' := own_append (P := Tryd.prog) w 30 t 94 i _ 2 16 Tryd.underlying30 hi hz hz1 hz2 rfl (by omega) v l.length (pcells l) h ⟨b, off, none⟩ ms.length c (pcells ms) (by rw [pcells_length]) (fun j u hu => by rw [Addr.add_lit]; exact hc j u hu) (pcells_one ms) (by omega) (by simp only [maxLen]; omega) (by omega)
    obtain ⟨v', w', h1, h2, h3, h4⟩ := h0'
    refine ⟨v', w', h1, ?_, h3, h4, h2.some_ (by omega)⟩
    rw [List.length_append, pcells_append]
    exact h2

theorem pos_stop {key : Int} {L : List (Int × Int)} {k : Nat} (hk : k < L.length) (hle : k ≤ pos key L) (h : key ≤ L[k].1) : pos key L = k := by
  rcases Nat.lt_or_ge k (pos key L) with h' | h'
  · have := pos_lt hk h'; omega
  · omega
theorem pos_step {key : Int} {L : List (Int × Int)} {k : Nat} (hk : k < L.length) (hle : k ≤ pos key L) (h : L[k].1 < key) : k + 1 ≤ pos key L := by
  rcases Nat.eq_or_lt_of_le hle with e | e
  · exfalso
    have hp : pos key L < L.length := by omega
    have := List.findIdx_getElem (xs := L) (p := fun p : Int × Int => decide (key ≤ p.1)) (w := hp)
    have h2 : key ≤ L[pos key L].1 := of_decide_eq_true this
    have e2 : L[pos key L].1 = L[k].1 := by simp [← e]
    omega
  · omega

set_option maxRecDepth 100000 in
set_option maxHeartbeats 400000 in
theorem refAt_any (K : Int) (L : List (Int × Int)) (A : Option Addr) (c : Nat) (key : Int) (w : World) (hs : Sl w w.heap.size 2 A L.length (pcells L)) (hl : L.length ≤ 10000) :
    Calls Tryd.prog 39 #[.agg #[.int .i64 K, .slice A L.length c], .int .i64 key] w fun e w' => e = .returned (.tuple #[.int .i64 (pos key L), .bool (has key L)]) ∧ Below w.heap.size w w' := by
  have hpl := pos_le key L
  have hb : Below w.heap.size w (w.alloc (.cells #[.int .i64 K, .slice A L.length c] 32)) := (Below.refl _ _).alloc (Nat.le_refl _) _
  have KB : Bk (w.alloc (.cells #[.int .i64 K, .slice A L.length c] 32)) w.heap.size 32 #[.int .i64 K, .slice A L.length c] := Bk.at_ rfl
  have hs1 := hs.alloc (.cells #[.int .i64 K, .slice A L.length c] 32)
  go_enter Tryd.func39, Tryd.ntmps39
  go_wp2_with fail
  generalize (w.alloc (.cells #[.int .i64 K, .slice A L.length c] 32)) = w1 at *
  have c0 := KB.cell 0; have c1 := KB.cell 1
  simp at c0 c1
  go_loop [6] (fun i => ∃ k : Nat, k ≤ L.length ∧ i = .int .i64 k ∧ k ≤ pos key L) (fun i => L.length - (intOf i).toNat)
  case atStart => exact ⟨0, Nat.zero_le _, rfl, Nat.zero_le _⟩
  case round =>
    obtain ⟨k, hk, rfl, hkp⟩ := hrel
    by_cases hlt : k < L.length
    · obtain ⟨pb, off, rfl, hpb, q0, q1⟩ := hs1.pair hlt
      by_cases hge : key ≤ L[k].1
      · have hp := pos_stop hlt hkp hge
        have hh : has key L = (L[k].1 == key) := by unfold has; rw [hp, List.getElem?_eq_getElem hlt]
        have hd : decide (key ≤ L[k].1) = true := by simpa using hge
        have HP := Lib.hid (And.intro hp hh); clear hp hh hge
        go_wp2_with fail
        go_quiet (fail)
        go_wp2_with fail
        go_ret2
        refine ⟨?_, below_drewN hb _⟩
        rw [HP.out.1, HP.out.2]
        rfl
      · have hp := pos_step hlt hkp (by omega)
        have hd : decide (key ≤ L[k].1) = false := by simp; omega
        go_wp2_with fail
        go_round
        case rel => exact ⟨k + 1, by omega, by go_num, hp⟩
        case measure => simp [intOf]; omega
    · have hp : pos key L = L.length := by omega
      have hh : has key L = false := by unfold has; rw [hp, List.getElem?_eq_none (Nat.le_refl _)]
      have HP := Lib.hid (And.intro hp hh); clear hp hh
      go_wp2_with fail
      go_ret2
      refine ⟨?_, hb⟩
      rw [HP.out.1, HP.out.2]
      rfl

set_option maxRecDepth 100000 in
set_option maxHeartbeats 400000 in
theorem refPairs_lo (K : Int) (v : Value) (w : World) (hK : K ≤ 2) :
    Calls Tryd.prog 22 #[.agg #[.int .i64 K, v]] w fun e w' => e = .returned (.slice none 0 0) ∧ Below w.heap.size w w' := by
  have hd : decide (K ≤ 2) = true := by simpa using hK
  go_enter Tryd.func22, Tryd.ntmps22
  go_wp2_with fail
  go_ret
  exact ⟨rfl, (Below.refl _ _).alloc (Nat.le_refl _) _⟩
set_option maxRecDepth 100000 in
set_option maxHeartbeats 400000 in
theorem refPairs_hi (K : Int) (v : Value) (w : World) (hK : ¬ K ≤ 2) :
    Calls Tryd.prog 22 #[.agg #[.int .i64 K, v]] w fun e w' => e = .returned v ∧ Below w.heap.size w w' := by
  have hd : decide (K ≤ 2) = false := by simpa using hK
  go_enter Tryd.func22, Tryd.ntmps22
  go_wp2_with fail
  go_ret
  exact ⟨rfl, (Below.refl _ _).alloc (Nat.le_refl _) _⟩

set_option maxRecDepth 100000 in
set_option maxHeartbeats 400000 in
theorem refVals_hi (K : Int) (L : List (Int × Int)) (A : Option Addr) (c : Nat) (w : World) (hK : ¬ K ≤ 2) (hl : L.length ≤ 10000) :
    Calls Tryd.prog 19 #[.agg #[.int .i64 K, .slice A L.length c]] w (NewOwn w 3 1 0 []) := by
  have hd : decide (K ≤ 2) = false := by simpa using hK
  have hb : Below w.heap.size w ((w.alloc (.cells #[.int .i64 K, .slice A L.length c] 32)).alloc (.cells #[] 3)) := ((Below.refl _ _).alloc (Nat.le_refl _) _).alloc (by simp) _
  have ho : Own ((w.alloc (.cells #[.int .i64 K, .slice A L.length c] 32)).alloc (.cells #[] 3)) 3 1 (.slice (some ⟨w.heap.size + 1, 0, none⟩) 0 0) 0 [] := Own.empty (Bk.at_ (by simp))
  by_cases h0 : 0 < L.length
  · go_enter Tryd.func19, Tryd.ntmps19
    go_wp2_with fail
    refine wp_loop_rounds 1 ?_
    rw [rounds_succ]
    go_wp2_with fail
    go_ret
    exact ⟨_, rfl, ho, hb, fun b e => by cases e; exact Nat.le_succ _⟩
  · have h0 : L.length = 0 := by omega
    generalize L.length = n at *
    subst h0
    go_enter Tryd.func19, Tryd.ntmps19
    go_wp2_with fail
    refine wp_loop_rounds 1 ?_
    rw [rounds_succ]
    go_wp2_with fail
    go_ret
    exact ⟨_, rfl, ho, hb, fun b e => by cases e; exact Nat.le_succ _⟩

set_option maxRecDepth 100000 in
set_option maxHeartbeats 800000 in
theorem refVals_lo (K : Int) (L : List (Int × Int)) (A : Option Addr) (c : Nat) (w : World) (hs : Sl w w.heap.size 2 A L.length (pcells L)) (hK : K ≤ 2) (hl : L.length ≤ 10000) :
    Calls Tryd.prog 19 #[.agg #[.int .i64 K, .slice A L.length c]] w (NewOwn w 3 1 (L.map (·.2)).length (icells (L.map (·.2)))) := by
  have hd : decide (K ≤ 2) = true := by simpa using hK
  have o0 : Own ((w.alloc (.cells #[.int .i64 K, .slice A L.length c] 32)).alloc (.cells #[] 3)) 3 1 (.slice (some ⟨w.heap.size + 1, 0, none⟩) 0 0) 0 [] := Own.empty (Bk.at_ (by simp))
  have b0 : Below w.heap.size w ((w.alloc (.cells #[.int .i64 K, .slice A L.length c] 32)).alloc (.cells #[] 3)) := ((Below.refl _ _).alloc (Nat.le_refl _) _).alloc (by simp) _
  have k0 : Bk ((w.alloc (.cells #[.int .i64 K, .slice A L.length c] 32)).alloc (.cells #[] 3)) w.heap.size 32 #[.int .i64 K, .slice A L.length c] := (Bk.at_ rfl).alloc _
  go_enter Tryd.func19, Tryd.ntmps19
  go_wp2_with fail
  go_loopw [3, 4] (fun v i wr => ∃ (k : Nat) (ys : List Int), k ≤ L.length ∧ i = .int .i64 k ∧ Hid (ys = (L.take k).map (·.2)) ∧ Own wr 3 1 v ys.length (icells ys) ∧ Below w.heap.size w wr ∧ (∀ b, v.ownBlock = some b → w.heap.size + 1 ≤ b) ∧ Bk wr w.heap.size 32 #[.int .i64 K, .slice A L.length c]) (fun _ i _ => L.length - (intOf i).toNat)
  case atStart => exact ⟨0, [], Nat.zero_le _, rfl, rfl, o0, b0, fun b e => by cases e; exact Nat.le_refl _, k0⟩
  case round =>
    obtain ⟨k, ys, hk, rfl, HY, ho, hb, hf, KB⟩ := hrel
    clear o0 b0 k0
    have c0 := KB.cell 0; have c1 := KB.cell 1
    simp at c0 c1
    by_cases hlt : k < L.length
    · obtain ⟨pb, off, rfl, hpb, q0, q1⟩ := (hs.below hb).pair hlt
      have hyl : ys.length ≤ 100000 := by rw [HY.out]; simp; omega
      have o1 := ho.alloc (.cells #[.int .i64 L[k].2] 3)
      have K1 : Bk (wr.alloc (.cells #[.int .i64 L[k].2] 3)) wr.heap.size 3 #[.int .i64 L[k].2] := Bk.at_ rfl
      obtain ⟨v', w4, hrun, h4, hg4, hf4⟩ := own_ints_append _ _ _ o1 hyl L[k].2 wr.heap.size K1 48
      have HR := Lib.hid hrun; clear hrun
      have hz := hb.size
      have hb4 := (hb.alloc hb.size (.cells #[.int .i64 L[k].2] 3)).grown hg4 (by simp; omega) (fun b e => by have := hf b e; omega)
      have hk4 := (KB.alloc (.cells #[.int .i64 L[k].2] 3)).grown hg4 (fun e => by have := hf _ e.symm; omega)
      have hkl := KB.lt
      have hf5 : ∀ b, v'.ownBlock = some b → w.heap.size + 1 ≤ b := fun b e => by
        rcases hf4 b e with h' | h'
        · exact hf b h'
        · simp at h'; omega
      clear K1 o1 hg4 hf4 KB
      go_wp2_with (at_builtin; refine wpList_append_run (by rfl) _ _ _ _ _ _ _ (by rfl) (by rfl) (by rfl) HR.out ?_)
      go_roundw
      case rel =>
        refine ⟨k + 1, _, by omega, by go_num, ?_, h4, hb4, hf5, hk4⟩
        unfold Hid
        rw [HY.out, List.take_succ_eq_append_getElem hlt, List.map_append]; rfl
      case measure => simp [intOf]; omega
    · go_wp2_with fail
      go_ret
      have e : ys = L.map (·.2) := by rw [HY.out, List.take_of_length_le (by omega)]
      exact ⟨_, rfl, e ▸ ho, hb, fun b e => by have := hf b e; omega⟩
end Go.Proofs.YtlfbgpncdahglaaDoor
