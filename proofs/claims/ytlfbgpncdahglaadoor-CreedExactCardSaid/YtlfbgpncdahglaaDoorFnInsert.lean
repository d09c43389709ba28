/- slices.Insert at pairs: one pair more at its place. -/
import Derived.Test.YtlfbgpncdahglaaDoorPair
namespace Go.Proofs.YtlfbgpncdahglaaDoor
open Go Go.RowKit
set_option linter.unusedSimpArgs false
set_option linter.unusedVariables false
set_option linter.unusedSectionVars false

/-- A slice of pairs of its own comes back; nothing older has changed but where the old one lay. -/
def RetP2 (w : World) (v : Value) (l : List (Int × Int)) (e : Ending) (w' : World) : Prop :=
  ∃ v', e = .returned v' ∧ Own w' 94 2 v' l.length (pcells l) ∧ w.grownBy w' v.ownBlock ∧ Fresh w v v'

theorem own_pairs_append (w : World) (v : Value) (l : List (Int × Int)) (h : Own w 94 2 v l.length (pcells l)) (hl : l.length ≤ 100000) (p : Int × Int) (b : Nat) (hb : Bk w b 94 (pcell p).toArray) (t : TypeId) :
    ∃ v' w', (Builtin.append_ #[30, 30] t #[v, .slice (some ⟨b, 0, none⟩) 1 1]).run Tryd.prog w = .ok v' w' ∧
      Own w' 94 2 v' (l ++ [p]).length (pcells (l ++ [p])) ∧ w.grownBy w' v.ownBlock ∧ Fresh w v v' := by
  obtain ⟨i, hi, hz, hz1, hz2⟩ := info_parts infoPair
  have h0 := own_append (P := Tryd.prog) w 30 t 94 i _ 2 16 Tryd.underlying30 hi hz hz1 hz2 rfl (by omega) v l.length (pcells l) h ⟨b, 0, none⟩ 1 1 (pcell p) rfl (bk_cells hb) (by intro u hu; exact pcells_one [p] u (by simpa [pcells] using hu)) (by omega) (by simp only [maxLen]; omega) (by omega)
  simpa [pcells_append, pcells] using h0

set_option maxRecDepth 100000 in
set_option maxHeartbeats 800000 in
theorem insert_end (w : World) (v : Value) (l : List (Int × Int)) (h : Own w 94 2 v l.length (pcells l)) (hl : l.length ≤ 100000) (p : Int × Int) (b : Nat) (hb : Bk w b 94 (pcell p).toArray) :
    Calls Tryd.prog 50 #[v, .int .i64 l.length, .slice (some ⟨b, 0, none⟩) 1 1] w (RetP2 w v (l ++ [p])) := by
  obtain ⟨v', w', hrun, ho, hg, hf⟩ := own_pairs_append w v l h hl p b hb 30
  have hc : ∃ A n cap, v = .slice A n cap ∧ n = l.length ∧ n ≤ cap ∧ cap ≤ maxLen := by
    rcases h.2 with ⟨rfl, h0⟩ | ⟨g, off, cap, A, R, rfl, hk, rfl, hn, hc, hs⟩
    · exact ⟨_, _, _, rfl, h0.symm, Nat.le_refl _, by decide⟩
    · exact ⟨_, _, _, rfl, rfl, hn, hc⟩
  obtain ⟨A, n, cap, rfl, hn, hcap, hmax⟩ := hc
  clear h
  simp only [maxLen] at hmax
  have HE := Lib.hid (And.intro ho (And.intro hg hf)); clear ho hg hf
  rw [← hn] at *
  clear hn
  by_cases hcn : cap = n
  · subst hcn
    go_enter Tryd.func50, Tryd.ntmps50
    go_wp2_with (at_builtin; refine wpList_append_run (by rfl) _ _ _ _ _ _ _ (by rfl) (by rfl) (by rfl) hrun ?_)
    go_ret
    exact ⟨_, rfl, HE.out⟩
  · go_enter Tryd.func50, Tryd.ntmps50
    go_wp2_with (at_builtin; refine wpList_append_run (by rfl) _ _ _ _ _ _ _ (by rfl) (by rfl) (by rfl) hrun ?_)
    go_ret
    exact ⟨_, rfl, HE.out⟩

theorem ins_len (l : List (Int × Int)) (i : Nat) (hi : i ≤ l.length) (p : Int × Int) : (l.take i ++ p :: l.drop i).length = l.length + 1 := by
  rw [List.length_append, List.length_cons, List.length_take, List.length_drop]; omega
theorem ins_cells (l : List (Int × Int)) (i : Nat) (p : Int × Int) : pcells (l.take i ++ p :: l.drop i) = pcells (l.take i) ++ (pcell p ++ pcells (l.drop i)) := by
  rw [pcells_append, pcells_cons]

/-- There is no room: a new row. -/
theorem made_row (w : World) (l : List (Int × Int)) (g off cap : Nat) (h : Own w 94 2 (.slice (some ⟨g, off, none⟩) l.length cap) l.length (pcells l)) (hl : l.length ≤ 100000) (i : Nat) (hi : i < l.length) (hc : cap < l.length + 1) (x : Int) (hx : x = (l.length : Int) + 1 - (i : Int)) (t : TypeId) :
    ∃ c w' R, (Builtin.append_ #[30, 3] t #[.slice (some ⟨g, off, none⟩) i cap, .int .i64 x]).run Tryd.prog w = .ok (.slice (some ⟨w.heap.size, 0, none⟩) (l.length + 1) c) w' ∧
      Bk w' w.heap.size 94 (pcells (l.take i) ++ R).toArray ∧ l.length + 1 ≤ c ∧ c ≤ maxLen ∧ c * 2 ≤ i * 2 + R.length ∧ w.grownBy w' none := by
  obtain ⟨inf, hi0, hz, hz1, hz2⟩ := info_parts infoPair
  have hlt : (l.take i).length = i := by rw [List.length_take]; omega
  obtain ⟨k, hk⟩ : ∃ k : Nat, k = l.length + 1 - i := ⟨_, rfl⟩
  have hge := grownCap_ge w (i + k) cap 94
  have hcm := grownCap_le_maxLen w (i + k) cap 94 (by simp only [maxLen]; omega)
  have hr := run_append_made (P := Tryd.prog) w 30 3 t 94 inf _ Tryd.underlying30 Tryd.underlying3 hi0 hz ⟨g, off, none⟩ i cap k (pcells (l.take i)) (by rw [pcells_length, hlt, hz1])
    (fun j u hu => by
      rw [Addr.add_lit]
      refine own_cells h j u ?_
      rw [pcells_split l i]
      rw [List.getElem?_append_left]
      · exact hu
      · rcases Nat.lt_or_ge j (pcells (l.take i)).length with h' | h'
        · exact h'
        · rw [List.getElem?_eq_none h'] at hu; cases hu)
    (by omega) (by omega) (by omega) (by omega) (by omega) (growslice_fits (by omega) (by rw [hz2]; omega))
  obtain rfl : x = (k : Int) := by omega
  have e : i + k = l.length + 1 := by omega
  rw [e] at hr hge hcm
  refine ⟨_, _, (Builtin.zeroCells (Value.agg #[.int .i64 0, .int .i64 0]).cells k).toList ++ (Builtin.zeroCells (Value.agg #[.int .i64 0, .int .i64 0]).cells (grownCap w (l.length + 1) cap 94 - (l.length + 1))).toList, hr, ?_, hge, hcm, ?_, ⟨rfl, rfl, rfl, by simp, fun k hk _ => Below.heap_alloc w.drew _ k hk⟩⟩
  · have hn := Bk.at_ (w := w.drew) (t := 94) (cs := ((pcells (l.take i)).toArray ++ Builtin.zeroCells (Value.agg #[.int .i64 0, .int .i64 0]).cells k ++ Builtin.zeroCells (Value.agg #[.int .i64 0, .int .i64 0]).cells (grownCap w (l.length + 1) cap 94 - (l.length + 1)))) (g := w.heap.size) rfl
    have e2 : (pcells (l.take i)).toArray ++ Builtin.zeroCells (Value.agg #[.int .i64 0, .int .i64 0]).cells k ++ Builtin.zeroCells (Value.agg #[.int .i64 0, .int .i64 0]).cells (grownCap w (l.length + 1) cap 94 - (l.length + 1)) = (pcells (l.take i) ++ ((Builtin.zeroCells (Value.agg #[.int .i64 0, .int .i64 0]).cells k).toList ++ (Builtin.zeroCells (Value.agg #[.int .i64 0, .int .i64 0]).cells (grownCap w (l.length + 1) cap 94 - (l.length + 1))).toList)).toArray := by
      apply Array.ext'
      simp
    rw [e2] at hn ⊢
    exact hn
  · have zl : ∀ n, (Builtin.zeroCells (Value.agg #[.int .i64 0, .int .i64 0]).cells n).toList.length = n * 2 := fun n => by rw [Array.length_toList, size_zeroCells]; rfl
    rw [List.length_append, zl, zl]
    omega

/-- A copy into a block that is known whole. -/
theorem copy_at (w : World) (g o : Nat) (A cs R : List Value) (hb : Bk w g 94 (A ++ R).toArray) (ho : A.length = o) (hR : cs.length ≤ R.length) (a : Addr) (k sLen sCap dLen dCap : Nat) (hk : Nat.min sLen dLen = k) (hn : cs.length = k * 2)
    (hsrc : ∀ j u, cs[j]? = some u → w.cell? (a.add j) = some u) (h1 : ∀ u ∈ cs, u.oneCell' = true) (t : TypeId) :
    ∃ w', (Builtin.copy_ #[30, 30] t #[.slice (some ⟨g, o, none⟩) dLen dCap, .slice (some a) sLen sCap]).run Tryd.prog w = .ok (goInt k) w' ∧
      Bk w' g 94 (A ++ (cs ++ R.drop cs.length)).toArray ∧ w.grownBy w' (some g) := by
  subst ho
  obtain ⟨inf, hi0, hz, hz1, hz2⟩ := info_parts infoPair
  have hr := run_copy_blk (P := Tryd.prog) w 30 30 t 94 inf g A.length dLen dCap a sLen sCap k _ _ cs Tryd.underlying30 hi0 hk hb (by rw [hn, hz1]) hsrc (by simp; omega) h1
  refine ⟨_, hr, ?_, grownBy_setRow _ _ _⟩
  have e : (A ++ R).toArray.toList.take A.length ++ cs ++ (A ++ R).toArray.toList.drop (A.length + cs.length) = A ++ (cs ++ R.drop cs.length) := by
    show (A ++ R).take A.length ++ cs ++ (A ++ R).drop (A.length + cs.length) = _
    rw [drop_add, List.take_left', List.append_assoc]
    rfl
  rw [e]
  exact hb.row

set_option maxRecDepth 100000 in
set_option maxHeartbeats 400000 in
theorem insert_grow (w : World) (l : List (Int × Int)) (g off cap : Nat) (h : Own w 94 2 (.slice (some ⟨g, off, none⟩) l.length cap) l.length (pcells l)) (hl : l.length ≤ 100000) (i : Nat) (hi : i < l.length) (hc0 : l.length ≤ cap) (hc : cap < l.length + 1)
    (p : Int × Int) (b : Nat) (hb : Bk w b 94 (pcell p).toArray) (hbg : b ≠ g) :
    Calls Tryd.prog 50 #[.slice (some ⟨g, off, none⟩) l.length cap, .int .i64 i, .slice (some ⟨b, 0, none⟩) 1 1] w (RetP2 w (.slice (some ⟨g, off, none⟩) l.length cap) (l.take i ++ p :: l.drop i)) := by
  obtain ⟨c, w1, R, hr1, hb1, hc1, hc2, hc3, hg1⟩ := made_row w l g off cap h hl i hi hc _ rfl 30
  have hlt : (l.take i).length = i := by rw [List.length_take]; omega
  have hld : (l.drop i).length = l.length - i := List.length_drop
  have hz := hb.lt
  have hgz := h.lt (g := g) rfl
  obtain ⟨w2, hr2, hb2, hg2⟩ := copy_at w1 w.heap.size (i * 2) (pcells (l.take i)) (pcell p) R hb1 (by rw [pcells_length, hlt]) (by simp [pcell]; omega) ⟨b, 0, none⟩ 1 1 1 (l.length + 1 - i) (c - i) (Nat.min_eq_left (by omega)) rfl (bk_cells (hb.grown hg1 (by simp))) (by intro u hu; exact pcells_one [p] u (by simpa [pcells] using hu)) 3
  rw [← List.append_assoc] at hb2
  have h2 := (h.grown hg1 (Or.inr (by simp [Value.ownBlock]))).grown hg2 (Or.inr (by simp [Value.ownBlock]; omega))
  obtain ⟨w3, hr3, hb3, hg3⟩ := copy_at w2.drew w.heap.size ((i + 1) * 2) (pcells (l.take i) ++ pcell p) (pcells (l.drop i)) (R.drop (pcell p).length) hb2.drew (by rw [List.length_append, pcells_length, hlt]; simp [pcell]; omega) (by rw [pcells_length, hld, List.length_drop]; simp [pcell]; omega) ⟨g, off + i * 2, none⟩ (l.length - i) (l.length - i) (cap - i) (l.length - i) (c - (i + 1)) (Nat.min_self _) (by rw [pcells_length, hld])
    (fun j u hu => by
      rw [Addr.add_lit, Nat.add_assoc]
      refine own_cells h2.drew (i * 2 + j) u ?_
      rw [pcells_split l i, List.getElem?_append_right (by rw [pcells_length, hlt]; omega), pcells_length, hlt, Nat.add_sub_cancel_left]
      exact hu) (pcells_one _) 3
  simp only [maxLen] at hc2
  have H2 := Lib.hid (And.intro hb3 (And.intro hg1 (And.intro hg2 hg3)))
  clear hb3 hg1 hg2 hg3 h2 hb2 hb1 hld hb h
  have HL := Lib.hid hlt; clear hlt
  have R1 := Lib.hid hr1; have R2 := Lib.hid hr2; have R3 := Lib.hid hr3; clear hr1 hr2 hr3
  obtain ⟨n, hn⟩ : ∃ n, l.length = n := ⟨_, rfl⟩
  have HN := Lib.hid hn
  rw [hn] at R1 R2 R3 hl hi hc0 hc hc1 ⊢
  clear hn
  obtain rfl : cap = n := by omega
  clear hc hc0
  go_enter Tryd.func50, Tryd.ntmps50
  go_wp2_with (first | (at_builtin; refine wpList_append_run (by rfl) _ _ _ _ _ _ _ (by rfl) (by rfl) (by rfl) R1.out ?_) | (refine wpList_copy_run (by rfl) _ _ _ _ _ _ _ (by rfl) (by rfl) (by rfl) R2.out ?_))
  simp only [Act.put, List.setIfInBounds_toArray, List.set_cons_succ, List.set_cons_zero]
  refine wp_region_T (fun _ => True) 9 (by kernel_rfl) trivial (fun hS => ?_)
  ((try simp only [Act.put, List.setIfInBounds_toArray, List.set_cons_succ, List.set_cons_zero]); refine wpT_batch (fuel := 1) (by kernel_rfl) (by kernel_rfl) (fun d => by cases d <;> exact fun _ _ _ _ h => h) hS [0, 1, 2, 3, 4, 5, 6, 7] _ _ (by kernel_rfl) ?_; simp only [pickOps, nthOp, List.toList_toArray]; (repeat (first | go_big_quiet_skip | (go_big_quiet_want; first | (go_big_quiet_op; go_big_quiet_on) | (apply Exists.intro; refine ⟨fun w' hS' => ?_, ?_⟩; (· (skip; go_simp; first | done | rfl | exact ⟨rfl, rfl⟩)); go_big_quiet_on; simp only [Act.put, List.setIfInBounds_toArray, List.set_cons_succ, List.set_cons_zero])))); refine wpQuiet_nil ?_; (try dsimp only))
  (refine wpT_loudN 8 (by kernel_rfl) (fun K hK => ?_); simp only [nthOp, List.toList_toArray])
  refine wpList_copy_run (by rfl) _ _ _ _ _ _ _ (by rfl) (by rfl) (by rfl) R3.out ?_
  go_wp2_with fail
  refine hK.out _ _ (fun _ => trivial) ?_
  refine wpT_done (by kernel_rfl) ?_ _
  go_wp2_with fail
  go_ret
  have hn := HN.out
  obtain ⟨h1, h2, h3, h4⟩ := H2.out
  have hll := ins_len l i (by omega) p
  have hR : (pcell p).length = 2 := rfl
  refine ⟨_, rfl, ⟨pcells_length _, .inr ⟨w.heap.size, 0, c, [], (R.drop (pcell p).length).drop (pcells (l.drop i)).length, ?_, ?_, rfl, by omega, by simp only [maxLen]; omega, ?_⟩⟩, ?_, ?_⟩
  · rw [hll, hn]
    rfl
  · rw [ins_cells, List.nil_append, List.append_assoc, List.append_assoc]
    rw [List.append_assoc] at h1
    exact h1
  · rw [pcells_length, hll, List.length_drop, List.length_drop, pcells_length, List.length_drop]
    omega
  · exact grownBy_any (grownBy_new (grownBy_new h2 h3 (fun k e => by cases e; exact Nat.le_refl _)) (grownBy_drew h4) (fun k e => by cases e; exact Nat.le_refl _)) _
  · intro g' hg'
    exact Or.inr (by cases hg'; exact Nat.le_refl _)

set_option maxRecDepth 100000 in
set_option maxHeartbeats 400000 in
/-- There is room: in place. -/
theorem insert_room (w : World) (l : List (Int × Int)) (g off cap : Nat) (h : Own w 94 2 (.slice (some ⟨g, off, none⟩) l.length cap) l.length (pcells l)) (hl : l.length ≤ 100000) (i : Nat) (hi : i < l.length) (hc : l.length + 1 ≤ cap)
    (p : Int × Int) (b : Nat) (hb : Bk w b 94 (pcell p).toArray) (hbg : b ≠ g) :
    Calls Tryd.prog 50 #[.slice (some ⟨g, off, none⟩) l.length cap, .int .i64 i, .slice (some ⟨b, 0, none⟩) 1 1] w (RetP2 w (.slice (some ⟨g, off, none⟩) l.length cap) (l.take i ++ p :: l.drop i)) := by
  have hlt : (l.take i).length = i := by rw [List.length_take]; omega
  have hld : (l.drop i).length = l.length - i := List.length_drop
  have h0 := h
  rcases h.2 with ⟨h', _⟩ | ⟨g', off', cap', A, R, hv, hk, hA, hn, hmax, hs⟩
  · cases h'
  cases hv
  rw [pcells_length] at hs
  rw [pcells_split l i] at hk
  have hov := overlaps_no b g (off + (i + 1) * 2) 1 1 (l.length - i) (cap - (i + 1)) _ _ _ _ w hb hk hbg
  have hkd : Bk w.drew g 94 ((A ++ (pcells (l.take i) ++ (pcells (l.drop i) ++ R).take 2)) ++ (pcells (l.drop i) ++ R).drop 2).toArray := by
    have e : (A ++ (pcells (l.take i) ++ (pcells (l.drop i) ++ R).take 2)) ++ (pcells (l.drop i) ++ R).drop 2 = A ++ (pcells (l.take i) ++ pcells (l.drop i) ++ R) := by
      rw [List.append_assoc, List.append_assoc, List.take_append_drop, List.append_assoc]
    rw [e]
    exact hk.drew
  have hY : (pcells (l.drop i)).length = (l.length - i) * 2 := by rw [pcells_length, hld]
  obtain ⟨w1, hr1, hb1, hg1⟩ := copy_at w.drew g (off + (i + 1) * 2) _ (pcells (l.drop i)) _ hkd (by simp only [List.length_append, pcells_length, hlt, List.length_take, hA]; omega) (by rw [List.length_drop, List.length_append, hY]; omega) ⟨g, off + i * 2, none⟩ (l.length - i) (l.length + 1 - i) (cap - i) (l.length - i) (cap - (i + 1)) (Nat.min_eq_right (by omega)) hY
    (fun j u hu => by
      rw [Addr.add_lit, Nat.add_assoc]
      refine own_cells h0.drew (i * 2 + j) u ?_
      rw [pcells_split l i, List.getElem?_append_right (by rw [pcells_length, hlt]; omega), pcells_length, hlt, Nat.add_sub_cancel_left]
      exact hu) (pcells_one _) 3
  have hb1' : Bk w1 g 94 ((A ++ pcells (l.take i)) ++ ((pcells (l.drop i) ++ R).take 2 ++ (pcells (l.drop i) ++ ((pcells (l.drop i) ++ R).drop 2).drop (pcells (l.drop i)).length))).toArray := by
    rw [List.append_assoc, List.append_assoc] at hb1
    rw [List.append_assoc]
    exact hb1
  have h2l : ((pcells (l.drop i) ++ R).take 2).length = 2 := by rw [List.length_take, List.length_append, hY]; omega
  obtain ⟨w2, hr2, hb2, hg2⟩ := copy_at w1 g (off + i * 2) (A ++ pcells (l.take i)) (pcell p) _ hb1' (by rw [List.length_append, pcells_length, hlt, hA]) (by rw [List.length_append, h2l]; simp [pcell]) ⟨b, 0, none⟩ 1 1 1 (l.length + 1 - i) (cap - i) (Nat.min_eq_left (by omega)) rfl (bk_cells (hb.drew.grown hg1 (by simpa using hbg))) (by intro u hu; exact pcells_one [p] u (by simpa [pcells] using hu)) 3
  have hfin : Bk w2 g 94 (A ++ (pcells (l.take i ++ p :: l.drop i) ++ ((pcells (l.drop i) ++ R).drop 2).drop (pcells (l.drop i)).length)).toArray := by
    have e : (A ++ pcells (l.take i)) ++ (pcell p ++ ((pcells (l.drop i) ++ R).take 2 ++ (pcells (l.drop i) ++ ((pcells (l.drop i) ++ R).drop 2).drop (pcells (l.drop i)).length)).drop (pcell p).length) = A ++ (pcells (l.take i ++ p :: l.drop i) ++ ((pcells (l.drop i) ++ R).drop 2).drop (pcells (l.drop i)).length) := by
      rw [ins_cells, List.drop_left' (by rw [h2l]; rfl)]
      simp only [List.append_assoc]
    rw [← e]
    exact hb2
  have hRl : (((pcells (l.drop i) ++ R).drop 2).drop (pcells (l.drop i)).length).length = R.length - 2 := by
    rw [List.length_drop, List.length_drop, List.length_append]; omega
  have hgrow : w.grownBy w2 (some g) := grownBy_trans (grownBy_drew hg1) hg2
  have HF := Lib.hid (And.intro hfin (And.intro hRl (And.intro hgrow (And.intro hA hs))))
  clear hfin hRl hgrow hg1 hg2 hb1 hb1' hb2 hkd hk h h0 hY h2l hld hb hs hA
  have HL := Lib.hid hlt; clear hlt
  have R1 := Lib.hid hr1; have R2 := Lib.hid hr2; clear hr1 hr2
  simp only [maxLen] at hmax
  obtain ⟨n, hn'⟩ : ∃ n, l.length = n := ⟨_, rfl⟩
  have HN := Lib.hid hn'
  rw [hn'] at R1 R2 hl hi hc hn hov ⊢
  clear hn'
  go_enter Tryd.func50, Tryd.ntmps50
  go_wp2_with fail
  refine wp_region_T (fun _ => True) 9 (by kernel_rfl) trivial (fun hS => ?_)
  ((try simp only [Act.put, List.setIfInBounds_toArray, List.set_cons_succ, List.set_cons_zero]); refine wpT_batch (fuel := 1) (by kernel_rfl) (by kernel_rfl) (fun d => by cases d <;> exact fun _ _ _ _ h => h) hS [0, 1, 2, 3, 4, 5, 6, 7] _ _ (by kernel_rfl) ?_; simp only [pickOps, nthOp, List.toList_toArray]; (repeat (first | go_big_quiet_skip | (go_big_quiet_want; first | (go_big_quiet_op; go_big_quiet_on) | (apply Exists.intro; refine ⟨fun w' hS' => ?_, ?_⟩; (· (skip; go_simp; first | done | rfl | exact ⟨rfl, rfl⟩)); go_big_quiet_on; simp only [Act.put, List.setIfInBounds_toArray, List.set_cons_succ, List.set_cons_zero])))); refine wpQuiet_nil ?_; (try dsimp only))
  (refine wpT_loudN 8 (by kernel_rfl) (fun K hK => ?_); simp only [nthOp, List.toList_toArray])
  refine wpList_copy_run (by rfl) _ _ _ _ _ _ _ (by rfl) (by rfl) (by rfl) R1.out ?_
  go_wp2_with fail
  refine hK.out _ _ (fun _ => trivial) ?_
  refine wpT_done (by kernel_rfl) ?_ _
  go_wp2_with (refine wpList_copy_run (by rfl) _ _ _ _ _ _ _ (by rfl) (by rfl) (by rfl) R2.out ?_)
  go_ret
  have hn' := HN.out
  obtain ⟨h1, h2, h3, h4, h5⟩ := HF.out
  have hll := ins_len l i (by omega) p
  refine ⟨_, rfl, ⟨pcells_length _, .inr ⟨g, off, cap, A, _, ?_, h1, h4, by omega, by simp only [maxLen]; omega, ?_⟩⟩, ?_, ?_⟩
  · rw [hll, hn']
    rfl
  · rw [pcells_length, hll, h2]
    omega
  · exact h3
  · intro g' hg'
    exact Or.inl hg'

/-- One pair more at its place. -/
theorem insert_any (w : World) (v : Value) (l : List (Int × Int)) (h : Own w 94 2 v l.length (pcells l)) (hl : l.length ≤ 100000) (i : Nat) (hi : i ≤ l.length) (p : Int × Int) (b : Nat) (hb : Bk w b 94 (pcell p).toArray) (hbg : v.ownBlock ≠ some b) :
    Calls Tryd.prog 50 #[v, .int .i64 i, .slice (some ⟨b, 0, none⟩) 1 1] w (RetP2 w v (l.take i ++ p :: l.drop i)) := by
  by_cases hil : i = l.length
  · subst hil
    rw [List.take_length, List.drop_length]
    exact insert_end w v l h hl p b hb
  · have h0 := h
    rcases h.2 with ⟨rfl, h0⟩ | ⟨g, off, cap, A, R, rfl, hk, rfl, hn, hc, hs⟩
    · omega
    · have hne : b ≠ g := fun e => hbg (by rw [e]; rfl)
      by_cases hc' : l.length + 1 ≤ cap
      · exact insert_room w l g _ cap h0 hl i (by omega) hc' p b hb hne
      · exact insert_grow w l g _ cap h0 hl i (by omega) hn (by omega) p b hb hne
end Go.Proofs.YtlfbgpncdahglaaDoor
