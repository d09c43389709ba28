/- Writing a script: the walk of lots.Encode. -/
import Derived.Test.YthecbeejlpgdaaaDoorFnEncB
import Derived.Test.YthecbeejlpgdaaaDoorReg
import Derived.Deep.QuietTactic
import Derived.BigQuiet
import Derived.Deep.RegionHeld3
namespace Go.Proofs.YthecbeejlpgdaaaDoor
open Go Go.RowKit
set_option linter.unusedSimpArgs false
set_option linter.unusedVariables false
set_option linter.unusedSectionVars false

set_option maxRecDepth 100000 in
set_option maxHeartbeats 1000000 in
theorem encode_no (x : PScr) (A A' : Option Addr) (c c' : Nat) (w : World) (T : TypeId) (u : Value) (hE : w.cell? ⟨0, 0, none⟩ = some (.iface T u))
    (ho : Sl w w.heap.size 5 A x.ops.length (tcells x.ops)) (hp : Sl w w.heap.size 1 A' x.picks.length (icells x.picks))
    (lo : x.ops.length ≤ 9223372036854775807) (lp : x.picks.length ≤ 9223372036854775807) (hbad : goodB x = false ∨ ¬ x.sl ≤ 255) :
    Calls Tryd.prog 16 #[x.v A c A' c'] w (EncPost x T u w) := by
  have hn : encB x = false := encB_bad (hbad.elim (fun h => .inl h) (fun h => .inr (.inl h)))
  have HN := Lib.hid hn; clear hn
  have hlt0 := World.block_lt_of_cell? w _ hE
  simp at hlt0
  cases hg : goodB x
  · have HG := Lib.hid hg; clear hg hbad
    obtain ⟨st, en, th, sl, no, ops, picks⟩ := x
    simp only [PScr.v] at *
    have ho1 := fun o : Obj => ho.alloc o
    have hp1 := fun o : Obj => hp.alloc o
    have hE1 := fun o : Obj => cell_alloc hE o
    clear ho hp
    go_enter Tryd.func16, Tryd.ntmps16
    go_wp2_with (go_at_call 17; refine (good_is ⟨st, en, th, sl, no, ops, picks⟩ A A' c c' _ T u (hE1 _) (ho1 _) (hp1 _) lo lp HG.out).mono ?_; rintro e w1 ⟨rfl, hb1⟩; obtain ⟨hc1, hf1⟩ := bcell hb1)
    have hB : Below w.heap.size w w1 := ((Below.refl _ _).alloc (Nat.le_refl _) _).trans (hb1.mono (by simp))
    have hE2 : w1.cell? ⟨0, 0, none⟩ = some (.iface T u) := (hB.cell (p := ⟨0, 0, none⟩) hlt0).trans hE
    clear hE hE1 hc1 hf1 ho1 hp1
    go_quiet (fail)
    go_wp2_with fail
    go_ret2
    exact encPost_no HN.out (below_drewN hB _)
  · have hs : ¬ x.sl ≤ 255 := hbad.elim (fun h => by rw [hg] at h; cases h) id
    have HG := Lib.hid hg; clear hg hbad
    obtain ⟨st, en, th, sl, no, ops, picks⟩ := x
    simp only [PScr.v] at *
    have ho1 := fun o : Obj => ho.alloc o
    have hp1 := fun o : Obj => hp.alloc o
    have hE1 := fun o : Obj => cell_alloc hE o
    clear ho hp
    have hs' : 255 < sl := by omega
    clear hs
    go_enter Tryd.func16, Tryd.ntmps16
    go_wp2_with (go_at_call 17; refine (good_is ⟨st, en, th, sl, no, ops, picks⟩ A A' c c' _ T u (hE1 _) (ho1 _) (hp1 _) lo lp HG.out).mono ?_; rintro e w1 ⟨rfl, hb1⟩; obtain ⟨hc1, hf1⟩ := bcell hb1)
    have hB : Below w.heap.size w w1 := ((Below.refl _ _).alloc (Nat.le_refl _) _).trans (hb1.mono (by simp))
    have hE2 : w1.cell? ⟨0, 0, none⟩ = some (.iface T u) := (hB.cell (p := ⟨0, 0, none⟩) hlt0).trans hE
    clear hE hE1 hc1 hf1 ho1 hp1
    go_quiet (fail)
    go_wp2_with fail
    go_ret2
    exact encPost_no HN.out (below_drewN hB _)

set_option maxRecDepth 100000 in
set_option maxHeartbeats 1000000 in
theorem encode_good (x : PScr) (A A' : Option Addr) (c c' : Nat) (w : World) (T : TypeId) (u : Value) (hE : w.cell? ⟨0, 0, none⟩ = some (.iface T u))
    (ho : Sl w w.heap.size 5 A x.ops.length (tcells x.ops)) (hp : Sl w w.heap.size 1 A' x.picks.length (icells x.picks))
    (lo : x.ops.length ≤ 9223372036854775807) (lp : x.picks.length ≤ 9223372036854775807) (hg : goodB x = true) (hs : x.sl ≤ 255) :
    Calls Tryd.prog 16 #[x.v A c A' c'] w (EncPost x T u w) := by
  have hcfg := good_cfg hg
  have htask : ∀ k (hk : k < x.ops.length), _ := fun k hk => good_task hg (k := k) hk
  have hpick : ∀ k (hk : k < x.picks.length), _ := fun k hk => good_pick hg (k := k) hk
  have HT := Lib.hid htask; clear htask
  have HP := Lib.hid hpick; clear hpick
  have hlt0 := World.block_lt_of_cell? w _ hE
  simp at hlt0
  have HG := Lib.hid hg; clear hg
  obtain ⟨st, en, th, sl, no, ops, picks⟩ := x
  simp only [PScr.v] at *
  obtain ⟨g1, g2, g3, g4, g5, g6, g7, g8, g9, g10, g11, g12⟩ := hcfg
  have ho1 := fun o : Obj => ho.alloc o
  have hp1 := fun o : Obj => hp.alloc o
  have hE1 := fun o : Obj => cell_alloc hE o
  go_enter Tryd.func16, Tryd.ntmps16
  go_wp2_with (go_at_call 17; refine (good_is ⟨st, en, th, sl, no, ops, picks⟩ A A' c c' _ T u (hE1 _) (ho1 _) (hp1 _) lo lp HG.out).mono ?_; rintro e w1 ⟨rfl, hb1⟩; obtain ⟨hc1, hf1⟩ := bcell hb1; have hz1 : w.heap.size < w1.heap.size := (by have h := hb1.size; simp at h; omega))
  have hB : Below w.heap.size w w1 := ((Below.refl _ _).alloc (Nat.le_refl _) _).trans (hb1.mono (by simp))
  have hO : Bk w1 w.heap.size 29 #[.int .i64 st, .int .i64 en, .int .i64 th, .int .i64 sl, .int .i64 no, .slice A ops.length c, .slice A' picks.length c'] := (Bk.at_ rfl).belowAll hb1
  have q5 : w1.cell? ⟨w.heap.size, 5, none⟩ = some (.slice A ops.length c) := by have := hO.cell 5; simpa using this
  refine (kinds_any st _ (by omega) (by omega)).mono ?_
  rintro e w2 ⟨rfl, rfl⟩
  have E0 : EW w _ ⟨st, en, th, sl, no, ops, picks⟩ A A' c c' w1.heap.size (.slice (some ⟨w1.heap.size + 1, 0, none⟩) 6 6) 6 (headNums ⟨st, en, th, sl, no, ops, picks⟩) :=
    ⟨((hO.alloc (.cells #[.int .i64 st, .int .i64 en, .int .i64 th, .int .i64 sl, .int .i64 no] 25)).alloc (.cells (ucells (headNums ⟨st, en, th, sl, no, ops, picks⟩)).toArray 60)).alloc (.cells ((kindsOf st).map (Value.int .i64)).toArray 3),
     ((Bk.at_ rfl).alloc _).alloc _, Bk.at_ (by simp), .inr ⟨rfl, rfl, _, (Bk.at_ (by simp)).alloc _⟩, hz1, ((hB.alloc (by omega) _).alloc (by simp; omega) _).alloc (by simp; omega) _⟩
  have hEW := hB.cell (p := ⟨0, 0, none⟩) hlt0
  clear hc1 hf1 hb1 hO
  go_wp2_with fail
  clear q5 hB
  generalize w1.heap.size = C at *
  go_loopw [6, 58] (fun v i wr => ∃ (k : Nat) (v' : Value), k ≤ ops.length ∧ i = .int .i64 k ∧ v = v' ∧ EW w wr ⟨st, en, th, sl, no, ops, picks⟩ A A' c c' C v' (6 + 4 * k) (headNums ⟨st, en, th, sl, no, ops, picks⟩ ++ (ops.take k).flatMap (opNums st)) ∧ Hid ((ops.take k).all (encOk st) = true)) (fun _ i _ => ops.length - (intOf i).toNat)
  case atStart => exact ⟨0, _, Nat.zero_le _, rfl, rfl, by rw [List.take_zero, List.flatMap_nil, List.append_nil]; exact E0, rfl⟩
  case round =>
    obtain ⟨k, v', hk, rfl, rfl, E, hall⟩ := hrel
    clear E0
    have hBr := E.below
    have eE : wr.cell? ⟨0, 0, none⟩ = some (.iface T u) := (hBr.cell (p := ⟨0, 0, none⟩) hlt0).trans hE
    by_cases hlt : k < ops.length
    · obtain ⟨ob, off, rfl, hob, c0, c1, c2, c3, c4⟩ := (ho.below hBr).task hlt
      obtain ⟨t1, t2, t3⟩ := HT.out k hlt
      obtain ⟨p1, p2, p3, p4⟩ := parts_bounds t3
      obtain ⟨f1, f2, f3, f4, f5, f6, f7, f8⟩ := fits_bounds t3
      obtain ⟨i1, i2⟩ := place_bounds (d := -1) (fits_kind t3)
      have hl3 : (kindsOf st).length ≤ 3 := by unfold kindsOf; (repeat' split) <;> simp
      have FK := Lib.hid t3; clear t3
      have e0 := E.st
      simp only at e0
      have hzr := E.lt
      clear ho1 hp1 hE1
      cases hok : encOk st ops[k]
      · have hn : encB ⟨st, en, th, sl, no, ops, picks⟩ = false := encB_bad (.inr (.inr ⟨k, hlt, hok⟩))
        have HN := Lib.hid hn; clear hn
        rcases encOk_no hok with q1 | ⟨q1, q2⟩ | ⟨q1, q2, q3⟩
        · have d1 : decide (255 < partsA (ops[k]).op) = true := by simp; omega
          go_wp2_with (go_at_call 28; refine (parts_any (ops[k]).op _ f3 f4).mono ?_; rintro e w3 ⟨rfl, hb3⟩; have E3 := (E.alloc (.cells (ops[k]).cells.toArray 41)).more hb3; have K3 : Bk w3 wr.heap.size 41 (ops[k]).cells.toArray := (Bk.at_ rfl).belowAll hb3; (obtain ⟨k0, k1, k2, k3, k4⟩ := bk_task K3); have e3 := E3.st; simp only at e3; have z3 : w3.cell? ⟨0, 0, none⟩ = some (.iface T u) := (E3.below.cell (p := ⟨0, 0, none⟩) hlt0).trans hE)
          clear hb3 eE
          go_quiet (fail)
          go_wp2_with fail
          go_quiet (fail)
          go_wp2_with fail
          go_ret2
          exact encPost_no HN.out (below_drewN (below_drewN E3.below _) _)
        · have d1 : decide (255 < partsA (ops[k]).op) = false := by simp; omega
          have d2 : decide (255 < partsB (ops[k]).op) = true := by simp; omega
          go_wp2_with (go_at_call 28; refine (parts_any (ops[k]).op _ f3 f4).mono ?_; rintro e w3 ⟨rfl, hb3⟩; have E3 := (E.alloc (.cells (ops[k]).cells.toArray 41)).more hb3; have K3 : Bk w3 wr.heap.size 41 (ops[k]).cells.toArray := (Bk.at_ rfl).belowAll hb3; (obtain ⟨k0, k1, k2, k3, k4⟩ := bk_task K3); have e3 := E3.st; simp only at e3; have z3 : w3.cell? ⟨0, 0, none⟩ = some (.iface T u) := (E3.below.cell (p := ⟨0, 0, none⟩) hlt0).trans hE)
          clear hb3 eE
          go_quiet (fail)
          go_wp2_with fail
          go_quiet (fail)
          go_wp2_with fail
          go_ret2
          exact encPost_no HN.out (below_drewN (below_drewN E3.below _) _)
        · obtain ⟨fo, hfo⟩ : ∃ fo, formOp st (ops[k]).op.kind (partsA (ops[k]).op) (partsB (ops[k]).op) = fo := ⟨_, rfl⟩
          rw [hfo] at q3
          have HF := Lib.hid hfo; clear hfo
          have hn := op_ne q3
          clear q3 hok
          have d1 : decide (255 < partsA (ops[k]).op) = false := by simp; omega
          have d2 : decide (255 < partsB (ops[k]).op) = false := by simp; omega
          go_wp2_with (go_at_call 28; refine (parts_any (ops[k]).op _ f3 f4).mono ?_; rintro e w3 ⟨rfl, hb3⟩; have E3 := (E.alloc (.cells (ops[k]).cells.toArray 41)).more hb3; have K3 : Bk w3 wr.heap.size 41 (ops[k]).cells.toArray := (Bk.at_ rfl).belowAll hb3; (obtain ⟨k0, k1, k2, k3, k4⟩ := bk_task K3); have e3 := E3.st; simp only at e3; have z3 : w3.cell? ⟨0, 0, none⟩ = some (.iface T u) := (E3.below.cell (p := ⟨0, 0, none⟩) hlt0).trans hE)
          clear eE
          have hSS : ∀ wx, Bk wx C 25 #[.int .i64 st, .int .i64 en, .int .i64 th, .int .i64 sl, .int .i64 no] → Bk wx wr.heap.size 41 (ops[k]).cells.toArray → (fun w' => w'.cell? ⟨C, 0, none⟩ = some (.int .i64 st) ∧ w'.cell? ⟨wr.heap.size, 0, none⟩ = some (.int .i64 (ops[k]).thread) ∧ w'.cell? ⟨wr.heap.size, 1, none⟩ = some (.int .i64 (ops[k]).op.kind) ∧ w'.cell? ⟨wr.heap.size, 2, none⟩ = some (.int .i64 (ops[k]).op.key) ∧ w'.cell? ⟨wr.heap.size, 3, none⟩ = some (.int .i64 (ops[k]).op.val) ∧ w'.cell? ⟨wr.heap.size, 4, none⟩ = some (.int .i64 (ops[k]).op.tall)) wx := fun wx h1 h2 => ⟨(by have := h1.cell 0; simpa using this), bk_task h2⟩
          rcases hn with n1 | ⟨n1, n2⟩ | ⟨n1, n2, n3⟩ | ⟨n1, n2, n3, n4⟩
          all_goals
            go_region_held3 (fun w' => w'.cell? ⟨C, 0, none⟩ = some (.int .i64 st) ∧ w'.cell? ⟨wr.heap.size, 0, none⟩ = some (.int .i64 (ops[k]).thread) ∧ w'.cell? ⟨wr.heap.size, 1, none⟩ = some (.int .i64 (ops[k]).op.kind) ∧ w'.cell? ⟨wr.heap.size, 2, none⟩ = some (.int .i64 (ops[k]).op.key) ∧ w'.cell? ⟨wr.heap.size, 3, none⟩ = some (.int .i64 (ops[k]).op.val) ∧ w'.cell? ⟨wr.heap.size, 4, none⟩ = some (.int .i64 (ops[k]).op.tall)) (first | go_keep | exact hSS _ E4.c K4 | exact hSS _ E3.c.drew K3.drew)
              ((go_at_call 25; refine (form_eq _ (by omega) (by omega) (by omega) (by omega) HF.out).mono ?_; rintro e w4 ⟨rfl, hb4⟩; have E4 := E3.drew.more hb4; have K4 := K3.drew.belowAll hb4))
            have z4 : w4.cell? ⟨0, 0, none⟩ = some (.iface T u) := (E4.below.cell (p := ⟨0, 0, none⟩) hlt0).trans hE
            clear z3 k0 k1 k2 k3 k4 e3 hb3 hb4 hSS
            go_wp2_with fail
            go_quiet (fail)
            go_wp2_with fail
            go_ret2
            exact encPost_no HN.out (below_drewN E4.below _)
      · obtain ⟨q1, q2, q3⟩ := encOk_yes hok
        have Q3 := Lib.hid q3; clear q3
        have HOK := all_step hlt hall.out hok
        clear hok
        go_wp2_with (go_at_call 28; refine (parts_any (ops[k]).op _ f3 f4).mono ?_; rintro e w3 ⟨rfl, hb3⟩; have E3 := (E.alloc (.cells (ops[k]).cells.toArray 41)).more hb3; have K3 : Bk w3 wr.heap.size 41 (ops[k]).cells.toArray := (Bk.at_ rfl).belowAll hb3; (obtain ⟨k0, k1, k2, k3, k4⟩ := bk_task K3); have e3 := E3.st; simp only at e3)
        have hSS : ∀ wx, Bk wx C 25 #[.int .i64 st, .int .i64 en, .int .i64 th, .int .i64 sl, .int .i64 no] → Bk wx wr.heap.size 41 (ops[k]).cells.toArray → (fun w' => w'.cell? ⟨C, 0, none⟩ = some (.int .i64 st) ∧ w'.cell? ⟨wr.heap.size, 0, none⟩ = some (.int .i64 (ops[k]).thread) ∧ w'.cell? ⟨wr.heap.size, 1, none⟩ = some (.int .i64 (ops[k]).op.kind) ∧ w'.cell? ⟨wr.heap.size, 2, none⟩ = some (.int .i64 (ops[k]).op.key) ∧ w'.cell? ⟨wr.heap.size, 3, none⟩ = some (.int .i64 (ops[k]).op.val) ∧ w'.cell? ⟨wr.heap.size, 4, none⟩ = some (.int .i64 (ops[k]).op.tall)) wx := fun wx h1 h2 => ⟨(by have := h1.cell 0; simpa using this), bk_task h2⟩
        have d1 : decide (255 < partsA (ops[k]).op) = false := by simp; omega
        have d2 : decide (255 < partsB (ops[k]).op) = false := by simp; omega
        go_region_held3 (fun w' => w'.cell? ⟨C, 0, none⟩ = some (.int .i64 st) ∧ w'.cell? ⟨wr.heap.size, 0, none⟩ = some (.int .i64 (ops[k]).thread) ∧ w'.cell? ⟨wr.heap.size, 1, none⟩ = some (.int .i64 (ops[k]).op.kind) ∧ w'.cell? ⟨wr.heap.size, 2, none⟩ = some (.int .i64 (ops[k]).op.key) ∧ w'.cell? ⟨wr.heap.size, 3, none⟩ = some (.int .i64 (ops[k]).op.val) ∧ w'.cell? ⟨wr.heap.size, 4, none⟩ = some (.int .i64 (ops[k]).op.tall)) (first | go_keep | exact hSS _ E4.c K4 | exact hSS _ E3.c.drew K3.drew)
          ((go_at_call 25; refine (form_is (ops[k]).op _ (by omega) (by omega) (by omega) (by omega) Q3.out).mono ?_; rintro e w4 ⟨rfl, hb4⟩; have E4 := E3.drew.more hb4; have K4 := K3.drew.belowAll hb4))
        clear hb3 hb4
        have hlK := E4.lt
        have hzK := K4.lt
        obtain ⟨k0', k1', k2', k3', k4'⟩ := bk_task K4
        have e4 := E4.st
        simp only at e4
        clear k0 k1 k2 k3 k4 K3 e3 e0 eE d1 d2
        go_wp2_with fail
        go_region_held3 (fun w' => w'.cell? ⟨C, 0, none⟩ = some (.int .i64 st) ∧ w'.cell? ⟨wr.heap.size, 0, none⟩ = some (.int .i64 (ops[k]).thread) ∧ w'.cell? ⟨wr.heap.size, 1, none⟩ = some (.int .i64 (ops[k]).op.kind) ∧ w'.cell? ⟨wr.heap.size, 2, none⟩ = some (.int .i64 (ops[k]).op.key) ∧ w'.cell? ⟨wr.heap.size, 3, none⟩ = some (.int .i64 (ops[k]).op.val) ∧ w'.cell? ⟨wr.heap.size, 4, none⟩ = some (.int .i64 (ops[k]).op.tall)) (first | go_keep | exact hSS _ E4.c.drew K4.drew)
          ((go_at_call 29; (first | refine (index_any (kindsOf st) (ops[k]).op.kind _ _ _ _ (Sl.of_bk E4.kk.drew) (by omega)).mono ?_ | refine (index_any (kindsOf st) (ops[k]).op.kind _ _ _ _ (Sl.of_bk (E4.kk.drew.alloc _)) (by omega)).mono ?_); rintro e w' ⟨rfl, rfl⟩))
        all_goals
          have E5 := E4.drew.alloc (.cells (ucells (opNums st ops[k])).toArray 64)
          obtain ⟨i0, hi0, hz0, hz1, hz2⟩ := info_parts infoByte
          go_wp2_with (at_builtin; refine wpList_append_out (by rfl) _ _ _ (by rfl) (C + 1) (C + 3) i0 _ Tryd.underlying44 hi0 hz0 hz1 hz2 rfl _ (6 + 4 * k) (ucells (headNums ⟨st, en, th, sl, no, ops, picks⟩ ++ (ops.take k).flatMap (opNums st))) (by rfl) E5.out ⟨w4.heap.size, 0, none⟩ 4 4 (ucells (opNums st ops[k])) (by rfl) (by rfl) (World.news_of_block (cs := (ucells (opNums st ops[k])).toArray) (t := 64) (fr := (0, 0)) (heap_alloc_new _ _)) (by simp [ucells, opNums, Value.oneCell']) (by omega) (by omega) (by simp; omega) ?_; intro v5 w5 hown5 hg5)
          have E6 := E5.push hown5 hg5
          go_roundw
          case rel => exact ⟨k + 1, _, by omega, by go_num, rfl, by rw [enc_step hlt] at E6; exact E6, HOK⟩
          case measure => simp [intOf]; omega
    · have hke : k = ops.length := by omega
      subst hke
      rw [List.take_length] at E hall
      have HE := Lib.hid hall.out; clear hall
      have q6 := E.picks
      simp only at q6
      clear ho1 hp1 hE1 eE
      go_wp2_with fail
      go_loopw [6, 109] (fun v i wq => ∃ (j : Nat) (v' : Value), j ≤ picks.length ∧ i = .int .i64 j ∧ v = v' ∧ EW w wq ⟨st, en, th, sl, no, ops, picks⟩ A A' c c' C v' (6 + 4 * ops.length + j) (headNums ⟨st, en, th, sl, no, ops, picks⟩ ++ ops.flatMap (opNums st) ++ picks.take j)) (fun _ i _ => picks.length - (intOf i).toNat)
      case atStart => exact ⟨0, _, Nat.zero_le _, rfl, rfl, by rw [List.take_zero, List.append_nil]; exact E⟩
      case round =>
        obtain ⟨j, v', hj, rfl, rfl, F⟩ := hrel
        clear E q6
        have hlF := F.lt
        by_cases hlt : j < picks.length
        · obtain ⟨pb, off, rfl, hob, c0⟩ := (hp.below F.below).pick hlt
          obtain ⟨p1, p2⟩ := HP.out j hlt
          have F5 := F.alloc (.cells (ucells [picks[j]]).toArray 5)
          obtain ⟨i0, hi0, hz0, hz1, hz2⟩ := info_parts infoByte
          go_wp2_with (at_builtin; refine wpList_append_out (by rfl) _ _ _ (by rfl) (C + 1) (C + 3) i0 _ Tryd.underlying44 hi0 hz0 hz1 hz2 rfl _ (6 + 4 * ops.length + j) (ucells (headNums ⟨st, en, th, sl, no, ops, picks⟩ ++ ops.flatMap (opNums st) ++ picks.take j)) (by rfl) F5.out ⟨_, 0, none⟩ 1 1 (ucells [picks[j]]) (by rfl) (by rfl) (World.news_of_block (cs := (ucells [picks[j]]).toArray) (t := 5) (fr := (0, 0)) (heap_alloc_new _ _)) (by simp [ucells, Value.oneCell']) (by omega) (by omega) (by simp; omega) ?_; intro v5 w5 hown5 hg5)
          have F6 := F5.push hown5 hg5
          go_roundw
          case rel => exact ⟨j + 1, _, by omega, by go_num, rfl, by rw [pick_step hlt] at F6; exact F6⟩
          case measure => simp [intOf]; omega
        · have hje : j = picks.length := by omega
          subst hje
          rw [List.take_length] at F
          obtain ⟨A9, c9, rfl⟩ := F.out.slice
          have hcv := F.out.conv (by omega) 44 9 Tryd.underlying44 Tryd.underlying9 Tryd.underlying5
          go_wp2_with fail
          go_ret2
          exact encPost_yes (encB_yes HG.out hs HE.out) F.below

theorem encode_any (x : PScr) (A A' : Option Addr) (c c' : Nat) (w : World) (T : TypeId) (u : Value) (hE : w.cell? ⟨0, 0, none⟩ = some (.iface T u))
    (ho : Sl w w.heap.size 5 A x.ops.length (tcells x.ops)) (hp : Sl w w.heap.size 1 A' x.picks.length (icells x.picks))
    (lo : x.ops.length ≤ 9223372036854775807) (lp : x.picks.length ≤ 9223372036854775807) :
    Calls Tryd.prog 16 #[x.v A c A' c'] w (EncPost x T u w) := by
  cases hg : goodB x
  · exact encode_no x A A' c c' w T u hE ho hp lo lp (.inl hg)
  · by_cases hs : x.sl ≤ 255
    · exact encode_good x A A' c c' w T u hE ho hp lo lp hg hs
    · exact encode_no x A A' c c' w T u hE ho hp lo lp (.inr hs)

end Go.Proofs.YthecbeejlpgdaaaDoor
