/- slices.Delete at pairs: one pair less. -/
import Derived.Test.YtlfbgpncdahglaaDoorFnInsert
namespace Go.Proofs.YtlfbgpncdahglaaDoor
open Go Go.RowKit
set_option linter.unusedSimpArgs false
set_option linter.unusedVariables false
set_option linter.unusedSectionVars false

/-- What is appended where there is room, in a block that is known whole. -/
theorem append_at (w : World) (g off i cap : Nat) (A cs R : List Value) (hb : Bk w g 94 (A ++ R).toArray) (ho : A.length = off + i * 2) (hR : cs.length ≤ R.length) (a : Addr) (k c : Nat) (hn : cs.length = k * 2) (hroom : i + k ≤ cap)
    (hsrc : ∀ j u, cs[j]? = some u → w.cell? (a.add j) = some u) (h1 : ∀ u ∈ cs, u.oneCell' = true) (t : TypeId) :
    ∃ w', (Builtin.append_ #[30, 30] t #[.slice (some ⟨g, off, none⟩) i cap, .slice (some a) k c]).run Tryd.prog w = .ok (.slice (some ⟨g, off, none⟩) (i + k) cap) w' ∧
      Bk w' g 94 (A ++ (cs ++ R.drop cs.length)).toArray ∧ w.grownBy w' (some g) := by
  obtain ⟨inf, hi0, hz, hz1, hz2⟩ := info_parts infoPair
  have hr := run_append_room_blk (P := Tryd.prog) w 30 t 94 inf Tryd.underlying30 hi0 g off i cap _ _ hb a k c cs (by rw [hn, hz1]) hsrc h1 hroom (by rw [hz1]; simp; omega)
  rw [hz1, ← ho] at hr
  refine ⟨_, hr, ?_, grownBy_setRow _ _ _⟩
  have e : (A ++ R).toArray.toList.take A.length ++ cs ++ (A ++ R).toArray.toList.drop (A.length + cs.length) = A ++ (cs ++ R.drop cs.length) := by
    show (A ++ R).take A.length ++ cs ++ (A ++ R).drop (A.length + cs.length) = _
    rw [drop_add, List.take_left', List.append_assoc]
    rfl
  rw [e]
  exact hb.row

/-- One element is cleared, in a block that is known whole. -/
theorem clear_at (w : World) (g o c : Nat) (A R : List Value) (hb : Bk w g 94 (A ++ R).toArray) (ho : A.length = o) (hR : 2 ≤ R.length) (t : TypeId) :
    ∃ w' Z, (Builtin.clear_ #[30] t #[.slice (some ⟨g, o, none⟩) 1 c]).run Tryd.prog w = .ok (.tuple #[]) w' ∧
      Bk w' g 94 (A ++ Z).toArray ∧ Z.length = R.length ∧ w.grownBy w' (some g) := by
  subst ho
  obtain ⟨inf, hi0, hz, hz1, hz2⟩ := info_parts infoPair
  have zl : (Builtin.zeroCells (Value.agg #[.int .i64 0, .int .i64 0]).cells 1).toList.length = 2 := by rw [Array.length_toList, size_zeroCells]; rfl
  have zc : (Builtin.zeroCells (Value.agg #[.int .i64 0, .int .i64 0]).cells 1).toList = [Value.int .i64 0, .int .i64 0] := by kernel_rfl
  have hr := run_clear_blk (P := Tryd.prog) w 30 94 t (.agg #[.int .i64 0, .int .i64 0]) Tryd.underlying30 (fun w => by simp [zeroValue, typeInfo, hi0, hz])
    (by intro u hu; rw [zc] at hu; simp at hu; rw [hu]; rfl) g A.length c _ _ hb (by show _ + 2 ≤ _; simp; omega)
  refine ⟨_, (Builtin.zeroCells (Value.agg #[.int .i64 0, .int .i64 0]).cells 1).toList ++ R.drop 2, hr, ?_, ?_, grownBy_setRow _ _ _⟩
  · have e : (A ++ R).toArray.toList.take A.length ++ (Builtin.zeroCells (Value.agg #[.int .i64 0, .int .i64 0]).cells 1).toList ++ (A ++ R).toArray.toList.drop (A.length + (Value.agg #[.int .i64 0, .int .i64 0]).cells.size) = A ++ ((Builtin.zeroCells (Value.agg #[.int .i64 0, .int .i64 0]).cells 1).toList ++ R.drop 2) := by
      show (A ++ R).take A.length ++ _ ++ (A ++ R).drop (A.length + 2) = _
      rw [drop_add, List.take_left', List.append_assoc]
      rfl
    rw [e]
    exact hb.row
  · rw [List.length_append, zl, List.length_drop]; omega

set_option maxRecDepth 100000 in
set_option maxHeartbeats 400000 in
theorem delete_any (w : World) (v : Value) (l : List (Int × Int)) (h : Own w 94 2 v l.length (pcells l)) (hl : l.length ≤ 100000) (i : Nat) (hi : i < l.length) :
    Calls Tryd.prog 51 #[v, .int .i64 i, .int .i64 (i + 1)] w (RetP2 w v (l.take i ++ l.drop (i + 1))) := by
  have hlt : (l.take i).length = i := by rw [List.length_take]; omega
  have hld : (l.drop (i + 1)).length = l.length - (i + 1) := List.length_drop
  have h0 := h
  rcases h.2 with ⟨_, h'⟩ | ⟨g, off, cap, A, R, rfl, hk, hA, hn, hmax, hs⟩
  · omega
  rw [pcells_length] at hs
  have hsp : pcells l = pcells (l.take i) ++ (pcell l[i] ++ pcells (l.drop (i + 1))) := by
    rw [← pcells_cons, ← pcells_append, List.getElem_cons_drop, List.take_append_drop]
  rw [hsp] at hk
  have hY : (pcells (l.drop (i + 1))).length = (l.length - (i + 1)) * 2 := by rw [pcells_length, hld]
  have hkd : Bk w.drew g 94 ((A ++ pcells (l.take i)) ++ ((pcell l[i] ++ pcells (l.drop (i + 1))) ++ R)).toArray := by
    have e : (A ++ pcells (l.take i)) ++ ((pcell l[i] ++ pcells (l.drop (i + 1))) ++ R) = A ++ (pcells (l.take i) ++ (pcell l[i] ++ pcells (l.drop (i + 1))) ++ R) := by simp only [List.append_assoc]
    rw [e]
    exact hk.drew
  have hp2 : (pcell l[i]).length = 2 := rfl
  have hsrc : ∀ j u, (pcells (l.drop (i + 1)))[j]? = some u → w.drew.cell? ((⟨g, off + (i + 1) * 2, none⟩ : Addr).add j) = some u := fun j u hu => by
    rw [Addr.add_lit, Nat.add_assoc]
    refine own_cells h0.drew ((i + 1) * 2 + j) u ?_
    rw [hsp, List.getElem?_append_right (by rw [pcells_length, hlt]; omega), List.getElem?_append_right (by rw [pcells_length, hlt, hp2]; omega), pcells_length, hlt, hp2, show (i + 1) * 2 + j - i * 2 - 2 = j from by omega]
    exact hu
  have hfirst : ∀ (a : Addr) (c : Nat), (a = ⟨g, off + (i + 1) * 2, none⟩ ∨ l.length = i + 1) → ∃ w1, (Builtin.append_ #[30, 30] 30 #[.slice (some ⟨g, off, none⟩) i cap, .slice (some a) (l.length - (i + 1)) c]).run Tryd.prog w.drew = .ok (.slice (some ⟨g, off, none⟩) (i + (l.length - (i + 1))) cap) w1 ∧
      Bk w1 g 94 ((A ++ pcells (l.take i)) ++ (pcells (l.drop (i + 1)) ++ ((pcell l[i] ++ pcells (l.drop (i + 1))) ++ R).drop (pcells (l.drop (i + 1))).length)).toArray ∧ w.drew.grownBy w1 (some g) := fun a c ha => by
    refine append_at w.drew g off i cap _ (pcells (l.drop (i + 1))) _ hkd (by rw [List.length_append, hA, pcells_length, hlt]) (by simp only [List.length_append]; omega) a (l.length - (i + 1)) c hY (by omega) ?_ (pcells_one _) 30
    rcases ha with rfl | ha
    · exact hsrc
    · intro j u hu
      have : pcells (l.drop (i + 1)) = [] := List.eq_nil_of_length_eq_zero (by omega)
      rw [this] at hu
      cases hu
  have hRl : (((pcell l[i] ++ pcells (l.drop (i + 1))) ++ R).drop (pcells (l.drop (i + 1))).length).length = R.length + 2 := by
    rw [List.length_drop, List.length_append, List.length_append]; omega
  have hsecond : ∀ w1 c, Bk w1 g 94 ((A ++ pcells (l.take i)) ++ (pcells (l.drop (i + 1)) ++ ((pcell l[i] ++ pcells (l.drop (i + 1))) ++ R).drop (pcells (l.drop (i + 1))).length)).toArray → ∃ w2 Z, (Builtin.clear_ #[30] 3 #[.slice (some ⟨g, off + (l.length - 1) * 2, none⟩) 1 c]).run Tryd.prog w1 = .ok (.tuple #[]) w2 ∧
      Bk w2 g 94 (A ++ (pcells (l.take i ++ l.drop (i + 1)) ++ Z)).toArray ∧ Z.length = R.length + 2 ∧ w1.grownBy w2 (some g) := fun w1 c h1 => by
    rw [← List.append_assoc] at h1
    obtain ⟨w2, Z, a1, a2, a3, a4⟩ := clear_at w1 g (off + (l.length - 1) * 2) c _ _ h1 (by simp only [List.length_append, pcells_length, hlt, hld, hA]; omega) (by omega) 3
    refine ⟨w2, Z, a1, ?_, a3.trans hRl, a4⟩
    rw [pcells_append]
    simp only [List.append_assoc] at a2 ⊢
    exact a2
  obtain ⟨w1, hr1, hb1, hg1⟩ := hfirst (if cap = i + 1 then ⟨g, off, none⟩ else ⟨g, off + (i + 1) * 2, none⟩) (cap - (i + 1)) (by by_cases h : cap = i + 1; exact Or.inr (by omega); rw [if_neg h]; exact Or.inl rfl)
  obtain ⟨w2, Z, hr2, hb2, hZ, hg2⟩ := hsecond w1 (cap - (l.length - 1)) hb1
  have hlen : (l.take i ++ l.drop (i + 1)).length = l.length - 1 := by rw [List.length_append, hlt, hld]; omega
  have HF := Lib.hid (And.intro hb2 (And.intro hZ (And.intro (grownBy_trans (grownBy_drew hg1) hg2) (And.intro hA (And.intro hlen hs)))))
  clear hfirst hsecond hb1 hb2 hZ hg1 hg2 hsrc hkd hk hY h h0 hsp hld hRl hA hs hlen
  have HL := Lib.hid hlt; clear hlt
  have R1 := Lib.hid hr1; have R2 := Lib.hid hr2; clear hr1 hr2
  simp only [maxLen] at hmax
  obtain ⟨n, hn'⟩ : ∃ n, l.length = n := ⟨_, rfl⟩
  have HN := Lib.hid hn'
  rw [hn'] at R1 R2 hl hi hn ⊢
  clear hn' hp2
  obtain ⟨m, rfl⟩ : ∃ m, n = m + 1 := ⟨n - 1, by omega⟩
  rw [show i + (m + 1 - (i + 1)) = m from by omega, show m + 1 - (i + 1) = m - i from by omega] at R1
  rw [show m + 1 - 1 = m from rfl] at R2
  by_cases hic : cap = i + 1
  · obtain rfl : m = i := by omega
    subst hic
    rw [if_pos rfl, Nat.sub_self, Nat.sub_self] at R1
    rw [show m + 1 - m = 1 from by omega] at R2
    go_enter Tryd.func51, Tryd.ntmps51
    go_wp2_with fail
    (refine wp_region_T (fun _ => True) 8 (by kernel_rfl) trivial (fun hS => ?_); ((try simp only [Act.put, List.setIfInBounds_toArray, List.set_cons_succ, List.set_cons_zero]); refine wpT_batch (fuel := 2) (by kernel_rfl) (by kernel_rfl) (fun d => by cases d <;> exact fun _ _ _ _ h => h) hS [0, 1, 2, 3, 4, 5] _ _ (by kernel_rfl) ?_; simp only [pickOps, nthOp, List.toList_toArray]; (repeat (first | go_big_quiet_skip | (go_big_quiet_want; first | (go_big_quiet_op; go_big_quiet_on) | (apply Exists.intro; refine ⟨fun w' hS' => ?_, ?_⟩; (· (skip; go_simp; first | done | rfl | exact ⟨rfl, rfl⟩)); go_big_quiet_on; simp only [Act.put, List.setIfInBounds_toArray, List.set_cons_succ, List.set_cons_zero])))); refine wpQuiet_nil ?_; (try dsimp only)); (refine wpT_loudN 6 (by kernel_rfl) (fun K hK => ?_); simp only [nthOp, List.toList_toArray]); refine wpList_append_run (by rfl) _ _ _ _ _ _ _ (by rfl) (by rfl) (by rfl) R1.out ?_; go_wp2_with fail; refine hK.out _ _ (fun _ => trivial) ?_; ((try simp only [Act.put, List.setIfInBounds_toArray, List.set_cons_succ, List.set_cons_zero]); refine wpT_batch (fuel := 0) (by kernel_rfl) (by kernel_rfl) (fun d => by cases d <;> exact fun _ _ _ _ h => h) hS [7] _ _ (by kernel_rfl) ?_; simp only [pickOps, nthOp, List.toList_toArray]; (repeat (first | go_big_quiet_skip | (go_big_quiet_want; first | (go_big_quiet_op; go_big_quiet_on) | (apply Exists.intro; refine ⟨fun w' hS' => ?_, ?_⟩; (· (skip; go_simp; first | done | rfl | exact ⟨rfl, rfl⟩)); go_big_quiet_on; simp only [Act.put, List.setIfInBounds_toArray, List.set_cons_succ, List.set_cons_zero])))); refine wpQuiet_nil ?_; (try dsimp only)); refine wpT_done (by kernel_rfl) ?_ _; go_wp2_with (refine wpList_clear_run (by rfl) _ _ _ _ (by rfl) (by rfl) R2.out ?_); go_ret; have hn' := HN.out; obtain ⟨h1, h2, h3, h4, h5, h6⟩ := HF.out; refine ⟨_, rfl, ⟨pcells_length _, .inr ⟨g, off, m + 1, A, Z, ?_, h1, h4, ?_, ?_, ?_⟩⟩, h3, fun g' hg' => Or.inl hg'⟩; (· rw [h5, hn']; rfl); (· omega); (· simp only [maxLen]; omega); (· rw [pcells_length, h5, h2]; omega))
  · rw [if_neg hic] at R1
    go_enter Tryd.func51, Tryd.ntmps51
    go_wp2_with fail
    (refine wp_region_T (fun _ => True) 8 (by kernel_rfl) trivial (fun hS => ?_); ((try simp only [Act.put, List.setIfInBounds_toArray, List.set_cons_succ, List.set_cons_zero]); refine wpT_batch (fuel := 2) (by kernel_rfl) (by kernel_rfl) (fun d => by cases d <;> exact fun _ _ _ _ h => h) hS [0, 1, 2, 3, 4, 5] _ _ (by kernel_rfl) ?_; simp only [pickOps, nthOp, List.toList_toArray]; (repeat (first | go_big_quiet_skip | (go_big_quiet_want; first | (go_big_quiet_op; go_big_quiet_on) | (apply Exists.intro; refine ⟨fun w' hS' => ?_, ?_⟩; (· (skip; go_simp; first | done | rfl | exact ⟨rfl, rfl⟩)); go_big_quiet_on; simp only [Act.put, List.setIfInBounds_toArray, List.set_cons_succ, List.set_cons_zero])))); refine wpQuiet_nil ?_; (try dsimp only)); (refine wpT_loudN 6 (by kernel_rfl) (fun K hK => ?_); simp only [nthOp, List.toList_toArray]); refine wpList_append_run (by rfl) _ _ _ _ _ _ _ (by rfl) (by rfl) (by rfl) R1.out ?_; go_wp2_with fail; refine hK.out _ _ (fun _ => trivial) ?_; ((try simp only [Act.put, List.setIfInBounds_toArray, List.set_cons_succ, List.set_cons_zero]); refine wpT_batch (fuel := 0) (by kernel_rfl) (by kernel_rfl) (fun d => by cases d <;> exact fun _ _ _ _ h => h) hS [7] _ _ (by kernel_rfl) ?_; simp only [pickOps, nthOp, List.toList_toArray]; (repeat (first | go_big_quiet_skip | (go_big_quiet_want; first | (go_big_quiet_op; go_big_quiet_on) | (apply Exists.intro; refine ⟨fun w' hS' => ?_, ?_⟩; (· (skip; go_simp; first | done | rfl | exact ⟨rfl, rfl⟩)); go_big_quiet_on; simp only [Act.put, List.setIfInBounds_toArray, List.set_cons_succ, List.set_cons_zero])))); refine wpQuiet_nil ?_; (try dsimp only)); refine wpT_done (by kernel_rfl) ?_ _; go_wp2_with (refine wpList_clear_run (by rfl) _ _ _ _ (by rfl) (by rfl) R2.out ?_); go_ret; have hn' := HN.out; obtain ⟨h1, h2, h3, h4, h5, h6⟩ := HF.out; refine ⟨_, rfl, ⟨pcells_length _, .inr ⟨g, off, cap, A, Z, ?_, h1, h4, ?_, ?_, ?_⟩⟩, h3, fun g' hg' => Or.inl hg'⟩; (· rw [h5, hn']; rfl); (· omega); (· simp only [maxLen]; omega); (· rw [pcells_length, h5, h2]; omega))
end Go.Proofs.YtlfbgpncdahglaaDoor
