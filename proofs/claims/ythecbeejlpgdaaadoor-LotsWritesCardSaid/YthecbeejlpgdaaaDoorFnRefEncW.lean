/- Writing a script, by the reference: the walk. -/
import Derived.Test.YthecbeejlpgdaaaDoorFnRefEncA
import Derived.Test.YthecbeejlpgdaaaDoorReg
import Derived.Deep.DeepMust
import Derived.Deep.DeepCutAuto
namespace Go.Proofs.YthecbeejlpgdaaaDoor
open Go Go.RowKit
set_option linter.unusedSimpArgs false
set_option linter.unusedVariables false
set_option linter.unusedSectionVars false

theorem OutRel.blockLt {w : World} {h base : Nat} {v : Value} {n : Nat} {xs : List Value} (H : OutRel w h base v n xs) : ∀ g, v.ownBlock = some g → g < w.heap.size := by
  intro g hg
  rcases H with H | ⟨rfl, _, t, hk⟩
  · exact (H.lt g hg).2
  · have : g = h := by simpa [Value.ownBlock] using hg.symm
    subst this
    exact hk.lt
theorem bk_op {w : World} {g : Nat} {o : POp} (h : Bk w g 39 o.cells.toArray) : w.cell? ⟨g, 0, none⟩ = some (.int .i64 o.kind) ∧ w.cell? ⟨g, 1, none⟩ = some (.int .i64 o.key) ∧ w.cell? ⟨g, 2, none⟩ = some (.int .i64 o.val) ∧ w.cell? ⟨g, 3, none⟩ = some (.int .i64 o.tall) := by
  refine ⟨?_, ?_, ?_, ?_⟩ <;> rw [h.cell] <;> rfl

set_option maxRecDepth 100000 in
set_option maxHeartbeats 1000000 in
theorem refEncode_no (x : PScr) (A A' : Option Addr) (c c' : Nat) (w : World)
    (ho : Sl w w.heap.size 5 A x.ops.length (tcells x.ops)) (hp : Sl w w.heap.size 1 A' x.picks.length (icells x.picks))
    (lo : x.ops.length ≤ 9223372036854775807) (lp : x.picks.length ≤ 9223372036854775807) (hbad : goodB x = false ∨ ¬ x.sl ≤ 255) :
    Calls Tryd.prog 21 #[x.v A c A' c'] w (REncPost x w) := by
  have hn : encB x = false := encB_bad (hbad.elim (fun h => .inl h) (fun h => .inr (.inl h)))
  have HN := Lib.hid hn; clear hn
  cases hg : goodB x
  · have HG := Lib.hid hg; clear hg hbad
    obtain ⟨st, en, th, sl, no, ops, picks⟩ := x
    simp only [PScr.v] at *
    have ho1 := fun o : Obj => ho.alloc o
    have hp1 := fun o : Obj => hp.alloc o
    clear ho hp
    go_enter Tryd.func21, Tryd.ntmps21
    go_wp2_with (go_at_call 23; refine (refGood_is ⟨st, en, th, sl, no, ops, picks⟩ A A' c c' _ (ho1 _) (hp1 _) lo lp HG.out).mono ?_; rintro e w1 ⟨rfl, hb1⟩; obtain ⟨hc1, hf1⟩ := bcell hb1)
    have hB : Below w.heap.size w w1 := ((Below.refl _ _).alloc (Nat.le_refl _) _).trans (hb1.mono (by simp))
    go_ret2
    exact rencPost_no HN.out hB
  · have hs : ¬ x.sl ≤ 255 := hbad.elim (fun h => by rw [hg] at h; cases h) id
    have HG := Lib.hid hg; clear hg hbad
    obtain ⟨st, en, th, sl, no, ops, picks⟩ := x
    simp only [PScr.v] at *
    have ho1 := fun o : Obj => ho.alloc o
    have hp1 := fun o : Obj => hp.alloc o
    clear ho hp
    have hs' : 255 < sl := by omega
    clear hs
    go_enter Tryd.func21, Tryd.ntmps21
    go_wp2_with (go_at_call 23; refine (refGood_is ⟨st, en, th, sl, no, ops, picks⟩ A A' c c' _ (ho1 _) (hp1 _) lo lp HG.out).mono ?_; rintro e w1 ⟨rfl, hb1⟩; obtain ⟨hc1, hf1⟩ := bcell hb1)
    have hB : Below w.heap.size w w1 := ((Below.refl _ _).alloc (Nat.le_refl _) _).trans (hb1.mono (by simp))
    go_ret2
    exact rencPost_no HN.out hB

set_option maxRecDepth 100000 in
set_option maxHeartbeats 1600000 in
theorem refEncode_good (x : PScr) (A A' : Option Addr) (c c' : Nat) (w : World)
    (ho : Sl w w.heap.size 5 A x.ops.length (tcells x.ops)) (hp : Sl w w.heap.size 1 A' x.picks.length (icells x.picks))
    (lo : x.ops.length ≤ 9223372036854775807) (lp : x.picks.length ≤ 9223372036854775807) (hg : goodB x = true) (hs : x.sl ≤ 255) :
    Calls Tryd.prog 21 #[x.v A c A' c'] w (REncPost x w) := by
  have hcfg := good_cfg hg
  have htask : ∀ k (hk : k < x.ops.length), _ := fun k hk => good_task hg (k := k) hk
  have hpick : ∀ k (hk : k < x.picks.length), _ := fun k hk => good_pick hg (k := k) hk
  have HT := Lib.hid htask; clear htask
  have HP := Lib.hid hpick; clear hpick
  have HG := Lib.hid hg; clear hg
  obtain ⟨st, en, th, sl, no, ops, picks⟩ := x
  simp only [PScr.v] at *
  obtain ⟨g1, g2, g3, g4, g5, g6, g7, g8, g9, g10, g11, g12⟩ := hcfg
  have ho1 := fun o : Obj => ho.alloc o
  have hp1 := fun o : Obj => hp.alloc o
  go_enter Tryd.func21, Tryd.ntmps21
  go_wp2_with (go_at_call 23; refine (refGood_is ⟨st, en, th, sl, no, ops, picks⟩ A A' c c' _ (ho1 _) (hp1 _) lo lp HG.out).mono ?_; rintro e w1 ⟨rfl, hb1⟩; obtain ⟨hc1, hf1⟩ := bcell hb1; have hz1 : w.heap.size < w1.heap.size := (by have h := hb1.size; simp at h; omega))
  have hB : Below w.heap.size w w1 := ((Below.refl _ _).alloc (Nat.le_refl _) _).trans (hb1.mono (by simp))
  have hO : Bk w1 w.heap.size 29 #[.int .i64 st, .int .i64 en, .int .i64 th, .int .i64 sl, .int .i64 no, .slice A ops.length c, .slice A' picks.length c'] := (Bk.at_ rfl).belowAll hb1
  have E0 : RW w ((w1.alloc (.cells #[.int .i64 st, .int .i64 en, .int .i64 th, .int .i64 sl, .int .i64 no] 25)).alloc (.cells (ucells (headNums ⟨st, en, th, sl, no, ops, picks⟩)).toArray 5)) ⟨st, en, th, sl, no, ops, picks⟩ A A' c c' w1.heap.size (.slice (some ⟨w1.heap.size + 1, 0, none⟩) 6 6) 6 (headNums ⟨st, en, th, sl, no, ops, picks⟩) :=
    ⟨(hO.alloc _).alloc _, (Bk.at_ rfl).alloc _, .inr ⟨rfl, rfl, _, Bk.at_ (by simp)⟩, hz1, (hB.alloc (by omega) _).alloc (by simp; omega) _⟩
  clear hc1 hf1 hb1 hO hB
  generalize w1.heap.size = C at *
  go_loopw [5, 6] (fun v i wr => ∃ (k : Nat) (v' : Value), k ≤ ops.length ∧ i = .int .i64 k ∧ v = v' ∧ RW w wr ⟨st, en, th, sl, no, ops, picks⟩ A A' c c' C v' (6 + 4 * k) (headNums ⟨st, en, th, sl, no, ops, picks⟩ ++ (ops.take k).flatMap (opNums st)) ∧ Hid ((ops.take k).all (encOk st) = true)) (fun _ i _ => ops.length - (intOf i).toNat)
  case atStart => exact ⟨0, _, Nat.zero_le _, rfl, rfl, by rw [List.take_zero, List.flatMap_nil, List.append_nil]; exact E0, rfl⟩
  case round =>
    obtain ⟨k, v', hk, rfl, rfl, E, hall⟩ := hrel
    clear E0
    have q5 := E.ops
    simp only at q5
    by_cases hlt : k < ops.length
    · obtain ⟨ob, off, rfl, hob, c0, c1, c2, c3, c4⟩ := ho.task hlt
      have hBr := E.below
      have b0 := (hBr.cell (p := ⟨ob, off + k * 5, none⟩) hob).trans c0
      have b1 := (hBr.cell (p := ⟨ob, off + k * 5 + 1, none⟩) hob).trans c1
      have b2 := (hBr.cell (p := ⟨ob, off + k * 5 + 2, none⟩) hob).trans c2
      have b3 := (hBr.cell (p := ⟨ob, off + k * 5 + 3, none⟩) hob).trans c3
      have b4 := (hBr.cell (p := ⟨ob, off + k * 5 + 4, none⟩) hob).trans c4
      obtain ⟨t1, t2, t3⟩ := HT.out k hlt
      obtain ⟨f1, f2, f3, f4, f5, f6, f7, f8⟩ := fits_bounds t3
      obtain ⟨i1, i2⟩ := place_bounds (d := 0) (fits_kind t3)
      have hl3 : (kindsOf st).length ≤ 3 := by unfold kindsOf; (repeat' split) <;> simp
      have FK := Lib.hid t3; clear t3
      have e0 := E.st
      simp only at e0
      have hzr := E.lt
      have s1 : ob < wr.heap.size := by have := hBr.size; omega
      have s2 : w.heap.size < wr.heap.size := by have := E.hC; omega
      have s3 : C < wr.heap.size := by omega
      clear ho1 hp1
      have HC := Lib.hid (And.intro c0 hob)
      clear c0 c1 c2 c3 c4
      obtain ⟨p1, p2, p3, p4⟩ := parts_bounds FK.out
      go_upto_region 11 with fail
      go_cut [70] (fun cc wx => cc = .bool (is14 (ops[k]).op.kind) ∧ wx = wr.alloc (.cells (ops[k]).op.cells.toArray 39))
      case first =>
        rcases kind14 (ops[k]).op.kind with ⟨n1, n2⟩ | ⟨n1, n2, n3⟩ | ⟨n1, n2, n3⟩
        · have N := Lib.hid n2; clear n2
          go_wp2_with fail
          go_meet
          exact ⟨by rw [N.out], rfl⟩
        · have N := Lib.hid n3; clear n3
          go_wp2_with fail
          go_meet
          exact ⟨by rw [N.out], rfl⟩
        · have N := Lib.hid n3; clear n3
          go_wp2_with fail
          go_meet
          exact ⟨by rw [N.out], rfl⟩
      case rest =>
        obtain ⟨rfl, rfl⟩ := hcut
        go_upto_if 70 with fail
        go_cut [8, 9] (fun uu vv wx => uu = .int .i64 (partsA (ops[k]).op) ∧ vv = .int .i64 (partsB (ops[k]).op) ∧ wx = wr.alloc (.cells (ops[k]).op.cells.toArray 39))
        case first =>
          have kk0 := bk_op (w := wr.alloc (.cells (ops[k]).op.cells.toArray 39)) (g := wr.heap.size) (o := (ops[k]).op) (Bk.at_ rfl)
          obtain ⟨kk1, kk2, kk3, kk4⟩ := kk0
          cases hd : is14 (ops[k]).op.kind
          · have hpp := Lib.hid (parts_no hd)
            go_wp2_with fail
            go_meet
            exact ⟨by rw [hpp.out.1], by rw [hpp.out.2], rfl⟩
          · have hpp := Lib.hid (parts_14 hd)
            go_wp2_with fail
            go_meet
            exact ⟨by rw [hpp.out.1], by rw [hpp.out.2], rfl⟩
        case rest =>
          obtain ⟨rfl, rfl, rfl⟩ := hcut
          have kk0 := bk_op (w := wr.alloc (.cells (ops[k]).op.cells.toArray 39)) (g := wr.heap.size) (o := (ops[k]).op) (Bk.at_ rfl)
          obtain ⟨kk1, kk2, kk3, kk4⟩ := kk0
          go_upto_region 14 with fail
          go_cut [100] (fun cc wx => cc = .bool (!encOk st ops[k]) ∧ wx = wr.alloc (.cells (ops[k]).op.cells.toArray 39))
          case first =>
            by_cases x1 : 255 < partsA (ops[k]).op
            · have d1 : decide (255 < partsA (ops[k]).op) = true := by simpa using x1
              go_wp2_with fail
              go_meet
              exact ⟨encNot_t FK.out (fun h => by omega), rfl⟩
            · have d1 : decide (255 < partsA (ops[k]).op) = false := by simpa using x1
              by_cases x2 : 255 < partsB (ops[k]).op
              · have d2 : decide (255 < partsB (ops[k]).op) = true := by simpa using x2
                go_wp2_with fail
                go_meet
                exact ⟨encNot_t FK.out (fun h => by omega), rfl⟩
              · have d2 : decide (255 < partsB (ops[k]).op) = false := by simpa using x2
                cases d3 : ((ops[k]).op.kind == 6)
                · have X3 := Lib.hid (kb_f d3)
                  go_wp2_with fail
                  go_meet
                  exact ⟨encNot_f FK.out ⟨by omega, by omega, fun h => absurd h X3.out⟩, rfl⟩
                · have X3 := Lib.hid (kb_t d3)
                  cases d4 : (st == 5)
                  · have X4 := Lib.hid (kb_f d4)
                    go_wp2_with fail
                    go_meet
                    exact ⟨encNot_f FK.out ⟨by omega, by omega, fun _ h => absurd h X4.out⟩, rfl⟩
                  · have X4 := Lib.hid (kb_t d4)
                    cases d5 : ((ops[k]).op.tall != partsB (ops[k]).op % 3 + 1)
                    · have X5 := Lib.hid (show (ops[k]).op.tall = partsB (ops[k]).op % 3 + 1 by simpa using d5)
                      go_wp2_with fail
                      go_meet
                      exact ⟨encNot_f FK.out ⟨by omega, by omega, fun _ _ => X5.out⟩, rfl⟩
                    · have X5 := Lib.hid (show ¬ (ops[k]).op.tall = partsB (ops[k]).op % 3 + 1 by simpa using d5)
                      go_wp2_with fail
                      go_meet
                      exact ⟨encNot_t FK.out (fun h => X5.out (h.2.2 X3.out X4.out)), rfl⟩
          case rest =>
            obtain ⟨rfl, rfl⟩ := hcut
            cases hok : encOk st ops[k]
            · have hn : encB ⟨st, en, th, sl, no, ops, picks⟩ = false := encB_bad (.inr (.inr ⟨k, hlt, hok⟩))
              have HN := Lib.hid hn; clear hn
              go_wp2_with fail
              go_ret2
              exact rencPost_no HN.out (E.below.alloc E.below.size _)
            · have HOK := all_step hlt hall.out hok
              have q1 := ((encOk_ab FK.out).1 hok).1
              have q2 := ((encOk_ab FK.out).1 hok).2.1
              have hnum := Lib.hid (opNums_ab FK.out)
              (go_wp2_with fail; have E2 := E.alloc (.cells (ops[k]).op.cells.toArray 39); have D2 : Bk (wr.alloc (.cells (ops[k]).op.cells.toArray 39)) wr.heap.size 39 (ops[k]).op.cells.toArray := Bk.at_ rfl; have hSS : ∀ wx v9 n9 bs9, RW w wx ⟨st, en, th, sl, no, ops, picks⟩ (some ⟨ob, off, none⟩) A' c c' C v9 n9 bs9 → Bk wx wr.heap.size 39 (ops[k]).op.cells.toArray → (fun w' => w'.cell? ⟨w.heap.size, 5, none⟩ = some (.slice (some ⟨ob, off, none⟩) ops.length c) ∧ w'.cell? ⟨ob, off + k * 5, none⟩ = some (.int .i64 (ops[k]).thread) ∧ w'.cell? ⟨C, 0, none⟩ = some (.int .i64 st) ∧ w'.cell? ⟨wr.heap.size, 0, none⟩ = some (.int .i64 (ops[k]).op.kind)) wx := (fun wx v9 n9 bs9 h1 h2 => ⟨h1.ops, (h1.below.cell (p := ⟨ob, off + k * 5, none⟩) HC.out.2).trans HC.out.1, h1.st, (bk_op h2).1⟩); (refine wp_region_T (fun w' => w'.cell? ⟨w.heap.size, 5, none⟩ = some (.slice (some ⟨ob, off, none⟩) ops.length c) ∧ w'.cell? ⟨ob, off + k * 5, none⟩ = some (.int .i64 (ops[k]).thread) ∧ w'.cell? ⟨C, 0, none⟩ = some (.int .i64 st) ∧ w'.cell? ⟨wr.heap.size, 0, none⟩ = some (.int .i64 (ops[k]).op.kind)) 22 (by kernel_rfl) (hSS _ _ _ _ E2.drew D2.drew) (fun hS => ?_)); (refine wpT_more (i := 0) (by kernel_rfl) (by omega) rfl (by kernel_rfl) (by kernel_rfl) (by kernel_rfl) (fun _ _ _ _ h => h) hS ?_; apply Exists.intro; apply And.intro; (refine Or.inl ⟨by rfl, ?_⟩; intro w' hS'; obtain ⟨h1, h2, h3, h4⟩ := hS'; go_simp; rfl); simp only [Act.put, List.setIfInBounds_toArray, List.set_cons_succ, List.set_cons_zero]); (refine wpT_more (i := 1) (by kernel_rfl) (by omega) rfl (by kernel_rfl) (by kernel_rfl) (by kernel_rfl) (fun _ _ _ _ h => h) hS ?_; apply Exists.intro; apply And.intro; (refine Or.inl ⟨by rfl, ?_⟩; intro w' hS'; obtain ⟨h1, h2, h3, h4⟩ := hS'; go_simp; rfl); simp only [Act.put, List.setIfInBounds_toArray, List.set_cons_succ, List.set_cons_zero]); (refine wpT_more (i := 2) (by kernel_rfl) (by omega) rfl (by kernel_rfl) (by kernel_rfl) (by kernel_rfl) (fun _ _ _ _ h => h) hS ?_; apply Exists.intro; apply And.intro; (refine Or.inl ⟨by rfl, ?_⟩; intro w' hS'; obtain ⟨h1, h2, h3, h4⟩ := hS'; go_simp; rfl); simp only [Act.put, List.setIfInBounds_toArray, List.set_cons_succ, List.set_cons_zero]); (refine wpT_more (i := 3) (by kernel_rfl) (by omega) rfl (by kernel_rfl) (by kernel_rfl) (by kernel_rfl) (fun _ _ _ _ h => h) hS ?_; apply Exists.intro; apply And.intro; (refine Or.inl ⟨by rfl, ?_⟩; intro w' hS'; obtain ⟨h1, h2, h3, h4⟩ := hS'; go_simp; rfl); simp only [Act.put, List.setIfInBounds_toArray, List.set_cons_succ, List.set_cons_zero]); (refine wpT_more (i := 4) (by kernel_rfl) (by omega) rfl (by kernel_rfl) (by kernel_rfl) (by kernel_rfl) (fun _ _ _ _ h => h) hS ?_; apply Exists.intro; apply And.intro; (refine Or.inl ⟨by rfl, ?_⟩; intro w' hS'; obtain ⟨h1, h2, h3, h4⟩ := hS'; go_simp; rfl); simp only [Act.put, List.setIfInBounds_toArray, List.set_cons_succ, List.set_cons_zero]); (refine wpT_more (i := 5) (by kernel_rfl) (by omega) rfl (by kernel_rfl) (by kernel_rfl) (by kernel_rfl) (fun _ _ _ _ h => h) hS ?_; apply Exists.intro; apply And.intro; (refine Or.inl ⟨by rfl, ?_⟩; intro w' hS'; obtain ⟨h1, h2, h3, h4⟩ := hS'; go_simp; rfl); simp only [Act.put, List.setIfInBounds_toArray, List.set_cons_succ, List.set_cons_zero]); (refine wpT_more (i := 6) (by kernel_rfl) (by omega) rfl (by kernel_rfl) (by kernel_rfl) (by kernel_rfl) (fun _ _ _ _ h => h) hS ?_; apply Exists.intro; apply And.intro; (refine Or.inl ⟨by rfl, ?_⟩; intro w' hS'; obtain ⟨h1, h2, h3, h4⟩ := hS'; go_simp; rfl); simp only [Act.put, List.setIfInBounds_toArray, List.set_cons_succ, List.set_cons_zero]); (refine wpT_more (i := 7) (by kernel_rfl) (by omega) rfl (by kernel_rfl) (by kernel_rfl) (by kernel_rfl) (fun _ _ _ _ h => h) hS ?_; apply Exists.intro; apply And.intro; (refine Or.inl ⟨by rfl, ?_⟩; intro w' hS'; obtain ⟨h1, h2, h3, h4⟩ := hS'; go_simp; rfl); simp only [Act.put, List.setIfInBounds_toArray, List.set_cons_succ, List.set_cons_zero]); (refine wpT_more (i := 8) (by kernel_rfl) (by omega) rfl (by kernel_rfl) (by kernel_rfl) (by kernel_rfl) (fun _ _ _ _ h => h) hS ?_; apply Exists.intro; apply And.intro; (refine Or.inl ⟨by rfl, ?_⟩; intro w' hS'; obtain ⟨h1, h2, h3, h4⟩ := hS'; go_simp; rfl); simp only [Act.put, List.setIfInBounds_toArray, List.set_cons_succ, List.set_cons_zero]); (refine wpT_more (i := 9) (by kernel_rfl) (by omega) rfl (by kernel_rfl) (by kernel_rfl) (by kernel_rfl) (fun _ _ _ _ h => h) hS ?_; apply Exists.intro; apply And.intro; (refine Or.inl ⟨by rfl, ?_⟩; intro w' hS'; obtain ⟨h1, h2, h3, h4⟩ := hS'; go_simp; rfl); simp only [Act.put, List.setIfInBounds_toArray, List.set_cons_succ, List.set_cons_zero]); (refine wpT_more (i := 11) (by kernel_rfl) (by omega) rfl (by kernel_rfl) (by kernel_rfl) (by kernel_rfl) (fun _ _ _ _ h => h) hS ?_; apply Exists.intro; apply And.intro; (refine Or.inl ⟨by rfl, ?_⟩; intro w' hS'; obtain ⟨h1, h2, h3, h4⟩ := hS'; go_simp; rfl); simp only [Act.put, List.setIfInBounds_toArray, List.set_cons_succ, List.set_cons_zero]); (refine wpT_more (i := 12) (by kernel_rfl) (by omega) rfl (by kernel_rfl) (by kernel_rfl) (by kernel_rfl) (fun _ _ _ _ h => h) hS ?_; apply Exists.intro; apply And.intro; (refine Or.inl ⟨by rfl, ?_⟩; intro w' hS'; obtain ⟨h1, h2, h3, h4⟩ := hS'; go_simp; rfl); simp only [Act.put, List.setIfInBounds_toArray, List.set_cons_succ, List.set_cons_zero]); (refine wpT_more (i := 15) (by kernel_rfl) (by omega) rfl (by kernel_rfl) (by kernel_rfl) (by kernel_rfl) (fun _ _ _ _ h => h) hS ?_; apply Exists.intro; apply And.intro; (refine Or.inl ⟨by rfl, ?_⟩; intro w' hS'; obtain ⟨h1, h2, h3, h4⟩ := hS'; go_simp; rfl); simp only [Act.put, List.setIfInBounds_toArray, List.set_cons_succ, List.set_cons_zero]); (refine wpT_more (i := 16) (by kernel_rfl) (by omega) rfl (by kernel_rfl) (by kernel_rfl) (by kernel_rfl) (fun _ _ _ _ h => h) hS ?_; apply Exists.intro; apply And.intro; (refine Or.inl ⟨by rfl, ?_⟩; intro w' hS'; obtain ⟨h1, h2, h3, h4⟩ := hS'; go_simp; rfl); simp only [Act.put, List.setIfInBounds_toArray, List.set_cons_succ, List.set_cons_zero]); (refine wpT_more (i := 17) (by kernel_rfl) (by omega) rfl (by kernel_rfl) (by kernel_rfl) (by kernel_rfl) (fun _ _ _ _ h => h) hS ?_; apply Exists.intro; apply And.intro; (refine Or.inl ⟨by rfl, ?_⟩; intro w' hS'; obtain ⟨h1, h2, h3, h4⟩ := hS'; go_simp; rfl); simp only [Act.put, List.setIfInBounds_toArray, List.set_cons_succ, List.set_cons_zero]); (refine wpT_more (i := 18) (by kernel_rfl) (by omega) rfl (by kernel_rfl) (by kernel_rfl) (by kernel_rfl) (fun _ _ _ _ h => h) hS ?_; apply Exists.intro; apply And.intro; (refine Or.inl ⟨by rfl, ?_⟩; intro w' hS'; obtain ⟨h1, h2, h3, h4⟩ := hS'; go_simp; rfl); simp only [Act.put, List.setIfInBounds_toArray, List.set_cons_succ, List.set_cons_zero]); (refine wpT_loud (i := 10) rfl (by kernel_rfl) (fun K hK => ?_)); go_wp2_with (go_at_call 15; refine (refKinds_any st _ g1 g2).mono ?_; rintro e w' ⟨rfl, rfl⟩); have E3 := (E2.alloc (.cells ((kindsOf st).map (Value.int .i64)).toArray 3)).drew; have D3 := (D2.alloc (.cells ((kindsOf st).map (Value.int .i64)).toArray 3)).drew; refine hK.out _ _ (fun _ => hSS _ _ _ _ E3 D3) ?_; clear hK hS; have hS := hSS _ _ _ _ E3 D3; (refine wpT_loud (i := 13) rfl (by kernel_rfl) (fun K hK => ?_)); go_wp2_with (go_at_call 37; refine (place_any (kindsOf st) (ops[k]).op.kind _ _ _ _ (Sl.of_bk (Bk.drew (Bk.at_ (by simp)))) (by omega)).mono ?_; rintro e w' ⟨rfl, rfl⟩); refine hK.out _ _ (fun _ => hS) ?_; clear hK; (refine wpT_more (i := 14) (by kernel_rfl) (by omega) rfl (by kernel_rfl) (by kernel_rfl) (by kernel_rfl) (fun _ _ _ _ h => h) hS ?_; apply Exists.intro; apply And.intro; (refine Or.inl ⟨by rfl, ?_⟩; intro w' hS'; obtain ⟨h1, h2, h3, h4⟩ := hS'; go_simp; rfl); simp only [Act.put, List.setIfInBounds_toArray, List.set_cons_succ, List.set_cons_zero]); (refine wpT_loud (i := 19) rfl (by kernel_rfl) (fun K hK => ?_)); go_wp2; have E4 := ((E2.alloc (.cells ((kindsOf st).map (Value.int .i64)).toArray 3)).alloc (.cells (ucells [(ops[k]).thread, placeOf (kindsOf st) (ops[k]).op.kind 0, partsA (ops[k]).op, partsB (ops[k]).op]).toArray 5)).drew; have D4 := ((D2.alloc (.cells ((kindsOf st).map (Value.int .i64)).toArray 3)).alloc (.cells (ucells [(ops[k]).thread, placeOf (kindsOf st) (ops[k]).op.kind 0, partsA (ops[k]).op, partsB (ops[k]).op]).toArray 5)).drew; refine hK.out _ _ (fun _ => hSS _ _ _ _ E4 D4) ?_; clear hK hS E3 D3; (obtain ⟨i0, hi0, hz0, hz1, hz2⟩ := info_parts infoByte); (refine wpT_loud (i := 20) rfl (by kernel_rfl) (fun K hK => ?_)); (refine wpList_append_out (by rfl) _ _ _ (by rfl) (C + 1) (C + 2) i0 _ Tryd.underlying44 hi0 hz0 hz1 hz2 rfl _ (6 + 4 * k) (ucells (headNums ⟨st, en, th, sl, no, ops, picks⟩ ++ (ops.take k).flatMap (opNums st))) (by rfl) E4.out ⟨wr.heap.size + 1 + 1, 0, none⟩ 4 4 (ucells [(ops[k]).thread, placeOf (kindsOf st) (ops[k]).op.kind 0, partsA (ops[k]).op, partsB (ops[k]).op]) (by rfl) (by rfl) (World.news_of_block (cs := (ucells [(ops[k]).thread, placeOf (kindsOf st) (ops[k]).op.kind 0, partsA (ops[k]).op, partsB (ops[k]).op]).toArray) (t := 5) (fr := (0, 0)) (Bk.drew (Bk.at_ (by simp)))) (by simp [ucells, Value.oneCell']) (by omega) (by omega) (by simp; omega) ?_); intro v5 w5 hown5 hg5; have E5 := E4.push hown5 hg5; have D5 := D4.grown hg5 (fun e => by have := E.out.blockLt _ e.symm; omega); go_wp2; refine hK.out _ _ (fun _ => hSS _ _ _ _ E5 D5) ?_; clear hK; have hS := hSS _ _ _ _ E5 D5; (refine wpT_more (i := 21) (by kernel_rfl) (by omega) rfl (by kernel_rfl) (by kernel_rfl) (by kernel_rfl) (fun _ _ _ _ h => h) hS ?_; apply Exists.intro; apply And.intro; (refine Or.inl ⟨by rfl, ?_⟩; intro w' hS'; obtain ⟨h1, h2, h3, h4⟩ := hS'; go_simp; rfl); simp only [Act.put, List.setIfInBounds_toArray, List.set_cons_succ, List.set_cons_zero]); (refine wpT_done (by kernel_rfl) ?_ _); rw [← hnum.out, enc_step hlt] at E5; clear hS hSS E4 D4 E2 D2 D5 kk1 kk2 kk3 kk4 b0 b1 b2 b3 b4 q5 e0; go_wp2; go_roundw)
              case rel => exact ⟨k + 1, _, by omega, by go_num, rfl, E5, HOK⟩
              case measure => simp [intOf]; omega
    · have hke : k = ops.length := by omega
      subst hke
      rw [List.take_length] at E hall
      have HE := Lib.hid hall.out; clear hall
      clear ho1 hp1
      go_wp2_with fail
      go_loopw [5, 10] (fun v i wq => ∃ (j : Nat) (v' : Value), j ≤ picks.length ∧ i = .int .i64 j ∧ v = v' ∧ RW w wq ⟨st, en, th, sl, no, ops, picks⟩ A A' c c' C v' (6 + 4 * ops.length + j) (headNums ⟨st, en, th, sl, no, ops, picks⟩ ++ ops.flatMap (opNums st) ++ picks.take j)) (fun _ i _ => picks.length - (intOf i).toNat)
      case atStart => exact ⟨0, _, Nat.zero_le _, rfl, rfl, by rw [List.take_zero, List.append_nil]; exact E⟩
      case round =>
        obtain ⟨j, v', hj, rfl, rfl, F⟩ := hrel
        clear E q5
        have hlF := F.lt
        have q6 := F.picks
        simp only at q6
        by_cases hlt : j < picks.length
        · obtain ⟨pb, off, rfl, hob, c0⟩ := (hp.below F.below).pick hlt
          obtain ⟨p1, p2⟩ := HP.out j hlt
          have F5 := F.alloc (.cells (ucells [picks[j]]).toArray 5)
          obtain ⟨i0, hi0, hz0, hz1, hz2⟩ := info_parts infoByte
          go_wp2_with (at_builtin; refine wpList_append_out (by rfl) _ _ _ (by rfl) (C + 1) (C + 2) i0 _ Tryd.underlying44 hi0 hz0 hz1 hz2 rfl _ (6 + 4 * ops.length + j) (ucells (headNums ⟨st, en, th, sl, no, ops, picks⟩ ++ ops.flatMap (opNums st) ++ picks.take j)) (by rfl) F5.out ⟨_, 0, none⟩ 1 1 (ucells [picks[j]]) (by rfl) (by rfl) (World.news_of_block (cs := (ucells [picks[j]]).toArray) (t := 5) (fr := (0, 0)) (heap_alloc_new _ _)) (by simp [ucells, Value.oneCell']) (by omega) (by omega) (by simp; omega) ?_; intro v5 w5 hown5 hg5)
          have F6 := F5.push hown5 hg5
          go_roundw
          case rel => exact ⟨j + 1, _, by omega, by go_num, rfl, by rw [pick_step hlt] at F6; exact F6⟩
          case measure => simp [intOf]; omega
        · have hje : j = picks.length := by omega
          subst hje
          rw [List.take_length] at F
          obtain ⟨A9, c9, rfl⟩ := F.out.slice
          have hcv := F.out.conv (by omega) 44 9 Tryd.underlying44 Tryd.underlying9 Tryd.underlying5
          go_wp2_with fail
          go_ret2
          exact rencPost_yes (encB_yes HG.out hs HE.out) F.below

theorem refEncode_any (x : PScr) (A A' : Option Addr) (c c' : Nat) (w : World)
    (ho : Sl w w.heap.size 5 A x.ops.length (tcells x.ops)) (hp : Sl w w.heap.size 1 A' x.picks.length (icells x.picks))
    (lo : x.ops.length ≤ 9223372036854775807) (lp : x.picks.length ≤ 9223372036854775807) :
    Calls Tryd.prog 21 #[x.v A c A' c'] w (REncPost x w) := by
  cases hg : goodB x
  · exact refEncode_no x A A' c c' w ho hp lo lp (.inl hg)
  · by_cases hs : x.sl ≤ 255
    · exact refEncode_good x A A' c c' w ho hp lo lp hg hs
    · exact refEncode_no x A A' c c' w ho hp lo lp (.inr hs)

end Go.Proofs.YthecbeejlpgdaaaDoor
