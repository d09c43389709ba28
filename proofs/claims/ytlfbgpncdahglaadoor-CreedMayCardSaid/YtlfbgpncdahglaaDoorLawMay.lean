/- CreedMay, walked: what may be answered is what is. -/
import Derived.Test.YtlfbgpncdahglaaDoorLaws
namespace Go.Proofs.YtlfbgpncdahglaaDoor
open Go Go.RowKit
set_option linter.unusedSimpArgs false
set_option linter.unusedVariables false
set_option linter.unusedSectionVars false

theorem may_cases {s t t7 : PC} {o : POp} {a1 a2 e1 e2 : Int} {r : Bool} (hf : fitsB s.st o = true) (he : ansOf s o = (e1, e2)) (ht : chgOf s o e1 = t) (hr : mayOf s o (a1, a2) = (r, t7)) :
    (r = true ∧ t7 = s ∧ a1 = 4 ∧ a2 = 0 ∧ putsB o = true ∧ e1 ≠ 4) ∨ (r = true ∧ t7 = t ∧ a1 = e1 ∧ a2 = e2 ∧ a1 ≠ 4) ∨ (r = false ∧ t7 = s ∧ ¬ (a1 = e1 ∧ a2 = e2) ∧ ¬ ((a1 = 4 ∧ a2 = 0) ∧ putsB o = true)) := by
  have hc := ans_code s o
  rw [he] at hc
  simp only [] at hc
  unfold mayOf at hr
  rw [if_pos hf, he] at hr
  split at hr
  · rename_i h
    obtain ⟨h1, h2⟩ := h
    cases h1
    cases hr
    exact Or.inl ⟨rfl, rfl, rfl, rfl, h2, by omega⟩
  · rename_i hq
    split at hr
    · rename_i h
      cases h
      cases hr
      exact Or.inr (Or.inl ⟨rfl, ht, rfl, rfl, by omega⟩)
    · rename_i h
      cases hr
      refine Or.inr (Or.inr ⟨rfl, rfl, fun h2 => h ?_, fun h2 => hq ?_⟩)
      · rw [h2.1, h2.2]
      · rw [h2.1.1, h2.1.2]; exact ⟨rfl, h2.2⟩

theorem kinds_split (o : POp) : ((o.kind == 1) = true ∧ putsB o = true) ∨ ((o.kind == 1) = false ∧ (o.kind == 4) = true ∧ putsB o = true) ∨ ((o.kind == 1) = false ∧ (o.kind == 4) = false ∧ (o.kind == 6) = true ∧ putsB o = true) ∨ ((o.kind == 1) = false ∧ (o.kind == 4) = false ∧ (o.kind == 6) = false ∧ putsB o = false) := by
  simp [putsB]; omega
theorem puts_split {o : POp} (h : putsB o = true) : ((o.kind == 1) = true) ∨ ((o.kind == 1) = false ∧ (o.kind == 4) = true) ∨ ((o.kind == 1) = false ∧ (o.kind == 4) = false ∧ (o.kind == 6) = true) := by
  rcases kinds_split o with ⟨h1, _⟩ | ⟨h1, h2, _⟩ | ⟨h1, h2, h3, _⟩ | ⟨_, _, _, h4⟩
  · exact Or.inl h1
  · exact Or.inr (Or.inl ⟨h1, h2⟩)
  · exact Or.inr (Or.inr ⟨h1, h2, h3⟩)
  · rw [h] at h4; cases h4
theorem full_split {a1 a2 : Int} {b : Bool} (h : ¬ ((a1 = 4 ∧ a2 = 0) ∧ b = true)) (hb : b = true) : (a1 == (4 : Int)) = false ∨ (a1 == (4 : Int)) = true ∧ (a2 == (0 : Int)) = false := by
  by_cases h1 : a1 = 4
  · by_cases h2 : a2 = 0
    · exact absurd ⟨⟨h1, h2⟩, hb⟩ h
    · exact Or.inr ⟨by simp [h1], by simp [h2]⟩
  · exact Or.inl (by simp [h1])

set_option maxRecDepth 100000 in
set_option maxHeartbeats 6400000 in
theorem creedMay_any (st : Int) (ops : List POp) (A : Option Addr) (c : Nat) (a1 a2 : Int) (w : World) (a : Addr) (hE : w.cell? ⟨0, 0, none⟩ = some (.iface 156 (.pointer (some a))))
    (so : Sl w w.heap.size 4 A ops.length (ocells ops)) (hl : ops.length ≤ 100) :
    Calls Tryd.prog 5 #[.int .i64 st, .slice A ops.length c, .agg #[.int .i64 a1, .int .i64 a2]] w (RetB true w) := by
  have g1 : decide ((100 : Int) < (ops.length : Int)) = false := by simp; omega
  obtain ⟨s0, hs0, hs1, hs5⟩ := stOf_in st
  have hE0 := cell_alloc hE (.cells #[.int .i64 a1, .int .i64 a2] 36)
  have so0 := so.alloc (.cells #[.int .i64 a1, .int .i64 a2] 36)
  have KA0 : Bk (w.alloc (.cells #[.int .i64 a1, .int .i64 a2] 36)) w.heap.size 36 #[.int .i64 a1, .int .i64 a2] := Bk.at_ rfl
  have hlt0 := World.block_lt_of_cell? _ _ hE0
  have hw0 : Below w.heap.size w (w.alloc (.cells #[.int .i64 a1, .int .i64 a2] 36)) := (Below.refl _ _).alloc (Nat.le_refl _) _
  have hws := hw0.size
  go_enter Tryd.func5, Tryd.ntmps5
  go_wp2_with fail
  generalize (w.alloc (.cells #[.int .i64 a1, .int .i64 a2] 36)) = w0 at *
  generalize hwa : w.heap.size = wa at *
  refine (awake_any _ a hE0).mono ?_
  rintro e w1 ⟨rfl, hb1⟩
  go_wp2_with fail
  rw [hs0]
  refine (new_any s0 _ hs1 hs5).mono ?_
  rintro e w2 ⟨g, A1, c1, A1', c1', rfl, hn⟩
  have L0 := LW.new hb1 (cell_below hE0 hb1) hlt0 hn (pok_vals s0 [] ⟨hs1, hs5⟩ (by decide))
  clear hn hs0 hE hE0 hb1
  go_wp2_with fail
  go_loopw [7, 9] (fun cv i wr => ∃ (k g : Nat) (s : PC) (A : Option Addr) (c : Nat) (A' : Option Addr) (c' : Nat), k ≤ ops.length ∧ cv = .pointer (some ⟨g, 0, none⟩) ∧ i = .int .i64 k ∧ LW w0 wr 156 (.pointer (some a)) g s A c A' c' ∧ s.size ≤ k) (fun _ i _ => ops.length - (intOf i).toNat)
  case atStart => exact ⟨0, g, _, A1, c1, A1', c1', Nat.zero_le _, rfl, rfl, L0, by simp [PC.size]⟩
  case round =>
    clear L0
    obtain ⟨k, g, s, A1, c1, A1', c1', hk, rfl, rfl, L, hsz⟩ := hrel
    by_cases hlt : k < ops.length
    · obtain ⟨ob, off, rfl, hob, q0, q1, q2, q3⟩ := (so0.below L.below).op hlt
      clear q0 q1 q2 q3
      have x0 := (KA0.below L.below KA0.lt).cell 0; have x1 := (KA0.below L.below KA0.lt).cell 1
      simp at x0 x1
      go_wp2_with fail
      refine (clone_any _ g s A1 c1 A1' c1' L.r L.ok).mono ?_
      rintro e w3 ⟨d, A2, c2, A2', c2', rfl, hn⟩
      have LD := LW.new L.below L.err L.lt hn L.ok
      have hap := hn.apart L.r
      have LC := L.more hn.2.1
      obtain ⟨q0, q1, q2, q3⟩ := (so0.below LC.below).opAt hlt
      clear hn L x0 x1
      have hSS : ∀ w', Below w0.heap.size w0 w' → (fun w' => w'.cell? ⟨ob, off + k * 4, none⟩ = some (.int .i64 ops[k].kind) ∧ w'.cell? ⟨ob, off + k * 4 + 1, none⟩ = some (.int .i64 ops[k].key) ∧ w'.cell? ⟨ob, off + k * 4 + 2, none⟩ = some (.int .i64 ops[k].val) ∧ w'.cell? ⟨ob, off + k * 4 + 3, none⟩ = some (.int .i64 ops[k].tall) ∧ w'.cell? ⟨wa, 0, none⟩ = some (.int .i64 a1) ∧ w'.cell? ⟨wa, 1, none⟩ = some (.int .i64 a2)) w' := fun w' hb => by
        obtain ⟨z0, z1, z2, z3⟩ := (so0.below hb).opAt hlt
        have y0 := (KA0.below hb KA0.lt).cell 0; have y1 := (KA0.below hb KA0.lt).cell 1
        simp at y0 y1
        exact ⟨z0, z1, z2, z3, y0, y1⟩
      cases hf : fitsB s.st ops[k]
      · go_wp2_with fail
        refine (do_no _ d s A2 c2 A2' c2' LD.r ops[k] _ _ LD.err hf).mono ?_
        rintro e w4 ⟨rfl, hb4⟩
        have L4 := (LC.more hb4).alloc (.cells #[.int .i64 0, .int .i64 0] 36)
        clear q0 q1 q2 q3 LD LC hap hb4
        go_wp2_with fail
        refine (clone_any _ g s A1 c1 A1' c1' L4.r L4.ok).mono ?_
        rintro e w5 ⟨p, A3, c3, A3', c3', rfl, hn⟩
        have LP := (LW.new L4.below L4.err L4.lt hn L4.ok).drew
        have hap := hn.apart L4.r
        have L5 := (L4.more hn.2.1).drew
        clear hn L4
        go_wp2_with fail
        refine wp_region_T (fun w' => w'.cell? ⟨ob, off + k * 4, none⟩ = some (.int .i64 ops[k].kind) ∧ w'.cell? ⟨ob, off + k * 4 + 1, none⟩ = some (.int .i64 ops[k].key) ∧ w'.cell? ⟨ob, off + k * 4 + 2, none⟩ = some (.int .i64 ops[k].val) ∧ w'.cell? ⟨ob, off + k * 4 + 3, none⟩ = some (.int .i64 ops[k].tall) ∧ w'.cell? ⟨wa, 0, none⟩ = some (.int .i64 a1) ∧ w'.cell? ⟨wa, 1, none⟩ = some (.int .i64 a2)) 8 (by kernel_rfl) (hSS _ L5.below) (fun hS => ?_)
        generalize w5.drew = w6 at *
        ((try simp only [Act.put, List.setIfInBounds_toArray, List.set_cons_succ, List.set_cons_zero]); refine wpT_batch (fuel := 2) (by kernel_rfl) (by kernel_rfl) (fun d => by cases d <;> exact fun _ _ _ _ h => h) hS [0, 1, 2, 3, 4, 5] _ _ (by kernel_rfl) ?_; simp only [pickOps, nthOp, List.toList_toArray]; (repeat (first | go_big_quiet_skip | (go_big_quiet_want; first | (go_big_quiet_op; go_big_quiet_on) | (apply Exists.intro; refine ⟨fun w' hS' => ?_, ?_⟩; (· (obtain ⟨f0, f1, f2, f3, f4, f5⟩ := hS'; go_simp; first | done | rfl | exact ⟨rfl, rfl⟩)); go_big_quiet_on; simp only [Act.put, List.setIfInBounds_toArray, List.set_cons_succ, List.set_cons_zero])))); refine wpQuiet_nil ?_; (try dsimp only))
        (refine wpT_loudN 6 (by kernel_rfl) (fun K hK => ?_); simp only [nthOp, List.toList_toArray])
        go_wp2_with fail
        refine (may_is _ g s A1 c1 A1' c1' L5.r ops[k] _ _ L5.err (r := false) (s' := s) L5.ok (by simp [mayOf, hf])).mono ?_
        rintro e w7 ⟨rfl, A7, c7, A7', c7', h7, o7⟩
        have L7 := L5.done h7 o7 L5.ok
        obtain ⟨LP7, hap7⟩ := L5.keep LP hap o7
        clear h7 o7 LP hap L5
        go_wp2_with fail
        refine hK.out _ _ (fun _ => hSS _ L7.below) ?_
        clear hK hS
        have hS := hSS _ L7.below
        ((try simp only [Act.put, List.setIfInBounds_toArray, List.set_cons_succ, List.set_cons_zero]); refine wpT_batch (fuel := 0) (by kernel_rfl) (by kernel_rfl) (fun d => by cases d <;> exact fun _ _ _ _ h => h) hS [7] _ _ (by kernel_rfl) ?_; simp only [pickOps, nthOp, List.toList_toArray]; (repeat (first | go_big_quiet_skip | (go_big_quiet_want; first | (go_big_quiet_op; go_big_quiet_on) | (apply Exists.intro; refine ⟨fun w' hS' => ?_, ?_⟩; (· (skip; go_simp; first | done | rfl | exact ⟨rfl, rfl⟩)); go_big_quiet_on; simp only [Act.put, List.setIfInBounds_toArray, List.set_cons_succ, List.set_cons_zero])))); refine wpQuiet_nil ?_; (try dsimp only))
        clear hS
        refine wpT_done (by kernel_rfl) ?_ _
        go_wp2_with fail
        refine (sameC_is (b := true) _ g s A7 c7 A7' c7' L7.r L7.ok p s A3 c3 A3' c3' LP7.r LP7.ok (by simp)).mono ?_
        rintro e w8 ⟨rfl, kq, rfl⟩
        go_wp2_with fail
        go_roundw
        case rel => exact ⟨k + 1, g, s, _, _, _, _, by omega, rfl, by go_num, L7.drewN kq, by omega⟩
        case measure => simp [intOf]; omega
      · obtain ⟨e1, e2, he⟩ : ∃ e1 e2, ansOf s ops[k] = (e1, e2) := ⟨_, _, rfl⟩
        obtain ⟨t, ht⟩ : ∃ t, chgOf s ops[k] e1 = t := ⟨_, rfl⟩
        have tok : POk t := by rw [← ht]; have := pok_chg LD.ok hf (by omega); rwa [he] at this
        have tsz : t.size ≤ k + 1 := by rw [← ht]; have := (chg_size s ops[k] e1).1; omega
        obtain ⟨r, t7, hr⟩ : ∃ r t7, mayOf s ops[k] (a1, a2) = (r, t7) := ⟨_, _, rfl⟩
        have hcs : (r = true ∧ t7 = s ∧ a1 = 4 ∧ a2 = 0 ∧ putsB ops[k] = true ∧ e1 ≠ 4) ∨ (r = true ∧ t7 = t ∧ a1 = e1 ∧ a2 = e2 ∧ a1 ≠ 4) ∨ (r = false ∧ t7 = s ∧ ¬ (a1 = e1 ∧ a2 = e2) ∧ ¬ ((a1 = 4 ∧ a2 = 0) ∧ putsB ops[k] = true)) := may_cases hf he ht hr
        have tok7 : POk t7 := by rcases hcs with ⟨_, h, _⟩ | ⟨_, h, _⟩ | ⟨_, h, _⟩ <;> rw [h] <;> first | exact LD.ok | exact tok
        have HR := Lib.hid (And.intro hr hcs); clear hr hcs
        go_wp2_with fail
        refine (do_is _ d s A2 c2 A2' c2' LD.r ops[k] _ _ LD.err (s' := t) (a := (e1, e2)) LD.ok hf he (by exact ht)).mono ?_
        rintro e w4 ⟨rfl, A4, c4, A4', c4', h4, o4⟩
        have LD4 := (LD.done h4 o4 tok).alloc (.cells #[.int .i64 e1, .int .i64 e2] 36)
        obtain ⟨LC4', had⟩ := LD.keep LC hap.symm o4
        have LC4 := LC4'.alloc (.cells #[.int .i64 e1, .int .i64 e2] 36)
        have WB : Bk (w4.alloc (.cells #[.int .i64 e1, .int .i64 e2] 36)) w4.heap.size 36 #[.int .i64 e1, .int .i64 e2] := Bk.at_ rfl
        have FB := LC4'.r.far (Nat.le_refl _)
        clear q0 q1 q2 q3 LD LC hap h4 o4 LC4' he ht
        go_wp2_with fail
        generalize (w4.alloc (.cells #[.int .i64 e1, .int .i64 e2] 36)) = w4a at *
        generalize w4.heap.size = wb at *
        refine (clone_any _ g s A1 c1 A1' c1' LC4.r LC4.ok).mono ?_
        rintro e w5 ⟨p, A3, c3, A3', c3', rfl, hn⟩
        have LP := (LW.new LC4.below LC4.err LC4.lt hn LC4.ok).drew
        have hap := hn.apart LC4.r
        have L5 := (LC4.more hn.2.1).drew
        have LD5 := (LD4.more hn.2.1).drew
        have WB5 := (WB.belowAll hn.2.1).drew
        clear hn LC4 LD4 WB
        go_wp2_with fail
        refine wp_region_T (fun w' => w'.cell? ⟨ob, off + k * 4, none⟩ = some (.int .i64 ops[k].kind) ∧ w'.cell? ⟨ob, off + k * 4 + 1, none⟩ = some (.int .i64 ops[k].key) ∧ w'.cell? ⟨ob, off + k * 4 + 2, none⟩ = some (.int .i64 ops[k].val) ∧ w'.cell? ⟨ob, off + k * 4 + 3, none⟩ = some (.int .i64 ops[k].tall) ∧ w'.cell? ⟨wa, 0, none⟩ = some (.int .i64 a1) ∧ w'.cell? ⟨wa, 1, none⟩ = some (.int .i64 a2)) 8 (by kernel_rfl) (hSS _ L5.below) (fun hS => ?_)
        generalize w5.drew = w6 at *
        ((try simp only [Act.put, List.setIfInBounds_toArray, List.set_cons_succ, List.set_cons_zero]); refine wpT_batch (fuel := 2) (by kernel_rfl) (by kernel_rfl) (fun d => by cases d <;> exact fun _ _ _ _ h => h) hS [0, 1, 2, 3, 4, 5] _ _ (by kernel_rfl) ?_; simp only [pickOps, nthOp, List.toList_toArray]; (repeat (first | go_big_quiet_skip | (go_big_quiet_want; first | (go_big_quiet_op; go_big_quiet_on) | (apply Exists.intro; refine ⟨fun w' hS' => ?_, ?_⟩; (· (obtain ⟨f0, f1, f2, f3, f4, f5⟩ := hS'; go_simp; first | done | rfl | exact ⟨rfl, rfl⟩)); go_big_quiet_on; simp only [Act.put, List.setIfInBounds_toArray, List.set_cons_succ, List.set_cons_zero])))); refine wpQuiet_nil ?_; (try dsimp only))
        (refine wpT_loudN 6 (by kernel_rfl) (fun K hK => ?_); simp only [nthOp, List.toList_toArray])
        go_wp2_with fail
        refine (may_is _ g s A1 c1 A1' c1' L5.r ops[k] _ _ L5.err (r := r) (s' := t7) L5.ok HR.out.1).mono ?_
        rintro e w7 ⟨rfl, A7, c7, A7', c7', h7, o7⟩
        have L7 := L5.done h7 o7 tok7
        obtain ⟨LP7, hap7⟩ := L5.keep LP hap o7
        obtain ⟨LD7, had7⟩ := L5.keep LD5 had.symm o7
        obtain ⟨FB7, kb⟩ := o7.far WB5.lt FB
        have WB7 := WB5.same kb
        clear h7 o7 LP hap L5 LD5 had kb WB5 FB
        go_wp2_with fail
        refine hK.out _ _ (fun _ => hSS _ L7.below) ?_
        clear hK hS
        have hS := hSS _ L7.below
        ((try simp only [Act.put, List.setIfInBounds_toArray, List.set_cons_succ, List.set_cons_zero]); refine wpT_batch (fuel := 0) (by kernel_rfl) (by kernel_rfl) (fun d => by cases d <;> exact fun _ _ _ _ h => h) hS [7] _ _ (by kernel_rfl) ?_; simp only [pickOps, nthOp, List.toList_toArray]; (repeat (first | go_big_quiet_skip | (go_big_quiet_want; first | (go_big_quiet_op; go_big_quiet_on) | (apply Exists.intro; refine ⟨fun w' hS' => ?_, ?_⟩; (· (skip; go_simp; first | done | rfl | exact ⟨rfl, rfl⟩)); go_big_quiet_on; simp only [Act.put, List.setIfInBounds_toArray, List.set_cons_succ, List.set_cons_zero])))); refine wpQuiet_nil ?_; (try dsimp only))
        clear hS
        refine wpT_done (by kernel_rfl) ?_ _
        obtain ⟨q0, q1, q2, q3, x0, x1⟩ := hSS _ L7.below
        have y0 := WB7.cell 0; have y1 := WB7.cell 1
        simp at y0 y1
        rcases HR.out.2 with ⟨rfl, rfl, rfl, rfl, hp, h4⟩ | ⟨rfl, rfl, rfl, rfl, h4⟩ | ⟨rfl, rfl, hne, hnf⟩
        · clear HR
          have b1 : ((4 : Int) == e1) = false := by simp; omega
          clear h4
          rcases puts_split hp with k1 | ⟨k1, k4⟩ | ⟨k1, k4, k6⟩
          all_goals
            clear hp
            go_wp2_with fail
            (refine (sameC_is (b := true) _ g t7 A7 c7 A7' c7' L7.r L7.ok p t7 A3 c3 A3' c3' LP7.r LP7.ok (by simp)).mono ?_; rintro e w8 ⟨rfl, kq, rfl⟩; go_wp2_with fail; go_roundw; (case rel => exact ⟨k + 1, d, t, _, _, _, _, by omega, rfl, by go_num, LD7.drewN kq, tsz⟩); (case measure => simp [intOf]; omega))
        · clear HR
          have b1 : (a1 == (4 : Int)) = false := by simp; omega
          clear h4
          rcases kinds_split ops[k] with ⟨k1, _⟩ | ⟨k1, k4, _⟩ | ⟨k1, k4, k6, _⟩ | ⟨k1, k4, k6, _⟩
          all_goals
            go_wp2_with fail
            (refine (sameC_is (b := true) _ g t7 A7 c7 A7' c7' L7.r L7.ok d t7 A4 c4 A4' c4' LD7.r LD7.ok (by simp)).mono ?_; rintro e w8 ⟨rfl, kq, rfl⟩; go_wp2_with fail; go_roundw; (case rel => exact ⟨k + 1, d, t7, _, _, _, _, by omega, rfl, by go_num, LD7.drewN kq, tsz⟩); (case measure => simp [intOf]; omega))
        · clear HR
          have b1 : (a1 == e1) = false ∨ (a1 == e1) = true ∧ (a2 == e2) = false := by simp; omega
          rcases kinds_split ops[k] with ⟨k1, hp⟩ | ⟨k1, k4, hp⟩ | ⟨k1, k4, k6, hp⟩ | ⟨k1, k4, k6, hp⟩
          · have b3 := full_split hnf hp
            clear hnf hp hne
            rcases b1 with b1 | ⟨b1, b2⟩ <;> rcases b3 with b3 | ⟨b3, b4⟩
            all_goals
              go_wp2_with fail
              (refine (sameC_is (b := true) _ g t7 A7 c7 A7' c7' L7.r L7.ok p t7 A3 c3 A3' c3' LP7.r LP7.ok (by simp)).mono ?_; rintro e w8 ⟨rfl, kq, rfl⟩; go_wp2_with fail; go_roundw; (case rel => exact ⟨k + 1, d, t, _, _, _, _, by omega, rfl, by go_num, LD7.drewN kq, tsz⟩); (case measure => simp [intOf]; omega))
          · have b3 := full_split hnf hp
            clear hnf hp hne
            rcases b1 with b1 | ⟨b1, b2⟩ <;> rcases b3 with b3 | ⟨b3, b4⟩
            all_goals
              go_wp2_with fail
              (refine (sameC_is (b := true) _ g t7 A7 c7 A7' c7' L7.r L7.ok p t7 A3 c3 A3' c3' LP7.r LP7.ok (by simp)).mono ?_; rintro e w8 ⟨rfl, kq, rfl⟩; go_wp2_with fail; go_roundw; (case rel => exact ⟨k + 1, d, t, _, _, _, _, by omega, rfl, by go_num, LD7.drewN kq, tsz⟩); (case measure => simp [intOf]; omega))
          · have b3 := full_split hnf hp
            clear hnf hp hne
            rcases b1 with b1 | ⟨b1, b2⟩ <;> rcases b3 with b3 | ⟨b3, b4⟩
            all_goals
              go_wp2_with fail
              (refine (sameC_is (b := true) _ g t7 A7 c7 A7' c7' L7.r L7.ok p t7 A3 c3 A3' c3' LP7.r LP7.ok (by simp)).mono ?_; rintro e w8 ⟨rfl, kq, rfl⟩; go_wp2_with fail; go_roundw; (case rel => exact ⟨k + 1, d, t, _, _, _, _, by omega, rfl, by go_num, LD7.drewN kq, tsz⟩); (case measure => simp [intOf]; omega))
          · clear hnf hp hne
            by_cases h40 : a1 = 4 ∧ a2 = 0
            · obtain ⟨rfl, rfl⟩ := h40
              rcases b1 with b1 | ⟨b1, b2⟩
              all_goals
                go_wp2_with fail
                (refine (sameC_is (b := true) _ g t7 A7 c7 A7' c7' L7.r L7.ok p t7 A3 c3 A3' c3' LP7.r LP7.ok (by simp)).mono ?_; rintro e w8 ⟨rfl, kq, rfl⟩; go_wp2_with fail; go_roundw; (case rel => exact ⟨k + 1, d, t, _, _, _, _, by omega, rfl, by go_num, LD7.drewN kq, tsz⟩); (case measure => simp [intOf]; omega))
            · have b3 := full_split (b := true) (fun h => h40 h.1) rfl
              clear h40
              rcases b1 with b1 | ⟨b1, b2⟩ <;> rcases b3 with b3 | ⟨b3, b4⟩
              all_goals
                go_wp2_with fail
                (refine (sameC_is (b := true) _ g t7 A7 c7 A7' c7' L7.r L7.ok p t7 A3 c3 A3' c3' LP7.r LP7.ok (by simp)).mono ?_; rintro e w8 ⟨rfl, kq, rfl⟩; go_wp2_with fail; go_roundw; (case rel => exact ⟨k + 1, d, t, _, _, _, _, by omega, rfl, by go_num, LD7.drewN kq, tsz⟩); (case measure => simp [intOf]; omega))
    · go_wp2_with fail
      go_ret
      exact ⟨rfl, by rw [hwa]; exact hw0.trans (L.below.mono hws)⟩
end Go.Proofs.YtlfbgpncdahglaaDoor
