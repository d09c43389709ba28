/- Unpack, walked. -/
import Derived.Test.YtfkfleojdheffaaDoorUnpack0
namespace Go.Proofs.YtfkfleojdheffaaDoor
open Go Go.RowKit
set_option linter.unusedSimpArgs false
set_option linter.unusedVariables false
set_option linter.unusedSectionVars false

set_option maxRecDepth 100000 in
set_option maxHeartbeats 1600000 in
theorem unpack_any {w : World} {a b : Addr} {tS : TypeId} {pS : Value} {tR : TypeId} {pR : Value} {m : Int} (G : GW w a b tS pS tR pR m) (s : ByteArray) (hs : s.size ≤ 1024) :
    Calls Tryd.prog 11 #[.string s] w (RetUn s b w) := by
  have hb0 : Below w.heap.size w (w.alloc (.cells #[.int .i64 0, .int .i64 0, .int .i64 0, .int .i64 0, .bool false] 23)) := (Below.refl _ _).alloc (Nat.le_refl _) _
  have G0 := G.more hb0
  have R0 : Bk (w.alloc (.cells #[.int .i64 0, .int .i64 0, .int .i64 0, .int .i64 0, .bool false] 23)) w.heap.size 23 #[.int .i64 0, .int .i64 0, .int .i64 0, .int .i64 0, .bool false] := Bk.at_ rfl
  obtain ⟨P, hP⟩ : ∃ P, Lib.splitB ⟨#[46]⟩ 0 (min 6 (s.size + 1) - 1) s = P := ⟨_, rfl⟩
  have hsz := split_sizes s P _ hP
  have hlen : P.length ≤ min 6 (s.size + 1) := by have := Lib.splitB_length_le ⟨#[46]⟩ 0 (min 6 (s.size + 1) - 1) s; rw [hP] at this; omega
  obtain ⟨q, hq⟩ : ∃ q, min 6 (s.size + 1) = q := ⟨_, rfl⟩
  rw [hq] at hlen
  have HP := Lib.hid (And.intro hP hq); clear hP hq
  go_enter Tryd.func11, Tryd.ntmps11
  go_wp2_with fail
  generalize (w.alloc (.cells #[.int .i64 0, .int .i64 0, .int .i64 0, .int .i64 0, .bool false] 23)) = w1 at *
  refine (Tryd.strings_SplitN s ⟨#[46]⟩ 6 m _ (by omega) G0.mx (by decide) (by decide) (by decide)).mono ?_
  rintro e w2 ⟨rfl, rfl⟩
  rw [HP.out.1, HP.out.2]
  have G2 := G0.alloc (.cells (Lib.cellsOf P q) 9)
  have R2 := R0.alloc (.cells (Lib.cellsOf P q) 9)
  have X2 : Bk (w1.alloc (.cells (Lib.cellsOf P q) 9)) w1.heap.size 9 (Lib.cellsOf P q) := Bk.at_ rfl
  have hb2 := hb0.alloc hb0.size (.cells (Lib.cellsOf P q) 9)
  have hX := hb0.size
  have hX2 := R0.lt
  clear G0 R0 hb0
  generalize (w1.alloc (.cells (Lib.cellsOf P q) 9)) = w2 at *
  generalize w1.heap.size = X at *
  by_cases h5 : P.length = 5
  · obtain ⟨p0, p1, p2, p3, p4, rfl⟩ : ∃ p0 p1 p2 p3 p4, P = [p0, p1, p2, p3, p4] := by
      match P, h5 with
      | [p0, p1, p2, p3, p4], _ => exact ⟨p0, p1, p2, p3, p4, rfl⟩
    have hq5 : 5 ≤ q := by simpa using hlen
    clear hlen h5
    have G3 := G2.alloc (.cells #[.int .i64 0, .int .i64 0, .int .i64 0, .int .i64 0] 52)
    have RL := R2.alloc (.cells #[.int .i64 0, .int .i64 0, .int .i64 0, .int .i64 0] 52)
    have XL := X2.alloc (.cells #[.int .i64 0, .int .i64 0, .int .i64 0, .int .i64 0] 52)
    have NL : Bk (w2.alloc (.cells #[.int .i64 0, .int .i64 0, .int .i64 0, .int .i64 0] 52)) w2.heap.size 52 #[.int .i64 0, .int .i64 0, .int .i64 0, .int .i64 0] := Bk.at_ rfl
    have hbl := hb2.alloc hb2.size (.cells #[.int .i64 0, .int .i64 0, .int .i64 0, .int .i64 0] 52)
    have hN : X < w2.heap.size := X2.lt
    clear G2 R2 X2 hb2 G3
    go_upto_region 5 with (fail)
    generalize (w2.alloc (.cells #[.int .i64 0, .int .i64 0, .int .i64 0, .int .i64 0] 52)) = wl at *
    generalize w2.heap.size = NB at *
    go_wp2_with fail
    refine wp_loop_rounds 5 ?_
    rw [rounds_succ]
    (have xc := (XL.cell (0 + 1)).trans (cellsOf_at [p0, p1, p2, p3, p4] q (0 + 1) (by simp)); simp only [List.getElem_cons_succ, List.getElem_cons_zero] at xc; have hp := hsz p1 (by simp); go_wp2_with fail; refine Or.elim (Classical.em (∃ v, Lib.atoiAll (p1).data.toList = .ok v)) (fun hv => ?_) (fun hv => ?_); rotate_left; (· have hnv : ∀ v, Lib.atoiAll (p1).data.toList ≠ .ok v := (fun v e => hv ⟨v, e⟩); clear hv; have HNW := Lib.hid (noword_1 HP.out.1 hnv); refine (atoi_bad (G.more hbl) p1 (by omega) hnv).mono ?_; rintro e wb ⟨v, NE, rfl, hb⟩; have hbB := hbl.trans (hb.mono hbl.size); have GB := G.more hbB; have RB := RL.belowAll hb; clear hnv hb xc NL XL RL; (have hew := GB.ew; go_wp2_with fail; refine (woeAt_any 2 _ _ _).mono ?_; rintro e wz ⟨rfl, rfl⟩; have RZ := RB.alloc (.cells #[.int .i64 2, .iface 107 (.pointer (some b))] 62); have WZ : WoeAt (wb.alloc (.cells #[.int .i64 2, .iface 107 (.pointer (some b))] 62)) wb.heap.size 2 b := Bk.at_ rfl; have hbz := hbB.alloc hbB.size (.cells #[.int .i64 2, .iface 107 (.pointer (some b))] 62); have hlz := RB.lt; obtain ⟨a0, f0, a1, f1, a2, f2, a3, f3, a4, f4, r0, r1, r2, r3, r4⟩ := w5_of RZ; generalize (wb.alloc (.cells #[.int .i64 2, .iface 107 (.pointer (some b))] 62)) = wq at *; go_wp2_with fail; refine bodyPost_ret (v := .tuple #[.agg #[.int .i64 0, .int .i64 0, .int .i64 0, .int .i64 0, .bool false], .iface 60 (.pointer (some ⟨wb.heap.size, 0, none⟩))]) (by simp [results, Tryd.results11, go_sem, r0, r1, r2, r3, r4]) rfl ?_; exact Or.inr ⟨HNW.out, _, rfl, ((((WZ.far (p := ⟨w.heap.size, 0, none⟩) (by simp; omega) _).far (p := ⟨w.heap.size, 1, none⟩) (by simp; omega) _).far (p := ⟨w.heap.size, 2, none⟩) (by simp; omega) _).far (p := ⟨w.heap.size, 3, none⟩) (by simp; omega) _).far (p := ⟨w.heap.size, 4, none⟩) (by simp; omega) _, by (repeat' (first | (with_reducible exact Below.refl _ _) | (with_reducible assumption) | (with_reducible refine Below.alloc ?_ ?_ _) | (with_reducible refine Below.drew ?_) | (with_reducible refine below_drewN ?_ _) | (with_reducible refine Below.setCell ?_ ?_ _) | go_size))⟩)); obtain ⟨v1, hv⟩ := hv; have Hv1 := Lib.hid hv; clear hv; refine (atoi_ok p1 (by omega) v1 Hv1.out _).mono ?_; rintro e wa ⟨rfl, hb⟩; have hbA := hbl.trans (hb.mono hbl.size); have RA := RL.belowAll hb; have XA := XL.belowAll hb; have NA := NL.belowAll hb; have nc := NA.cell 0; have nf := NA.free 0; simp at nc; clear xc hb hbl RL XL NL; go_upto_region 12 with (fail); have RL := RA.far (p := ⟨NB, 0, none⟩) (by simp; omega) (.int .i64 v1); have XL := XA.far (p := ⟨NB, 0, none⟩) (by simp; omega) (.int .i64 v1); have NL := NA.set_ 0 (.int .i64 v1); have hbl := Below.setCell (p := ⟨NB, 0, none⟩) hbA (by simp; omega) (.int .i64 v1); clear hbA RA XA NA nc nf; generalize (wa.setCell ⟨NB, 0, none⟩ (.int .i64 v1)) = wl at *; simp at NL; go_wp2_with fail; rw [rounds_succ])
    (have xc := (XL.cell (1 + 1)).trans (cellsOf_at [p0, p1, p2, p3, p4] q (1 + 1) (by simp)); simp only [List.getElem_cons_succ, List.getElem_cons_zero] at xc; have hp := hsz p2 (by simp); go_wp2_with fail; refine Or.elim (Classical.em (∃ v, Lib.atoiAll (p2).data.toList = .ok v)) (fun hv => ?_) (fun hv => ?_); rotate_left; (· have hnv : ∀ v, Lib.atoiAll (p2).data.toList ≠ .ok v := (fun v e => hv ⟨v, e⟩); clear hv; have HNW := Lib.hid (noword_2 HP.out.1 hnv); refine (atoi_bad (G.more hbl) p2 (by omega) hnv).mono ?_; rintro e wb ⟨v, NE, rfl, hb⟩; have hbB := hbl.trans (hb.mono hbl.size); have GB := G.more hbB; have RB := RL.belowAll hb; clear hnv hb xc NL XL RL; (have hew := GB.ew; go_wp2_with fail; refine (woeAt_any 2 _ _ _).mono ?_; rintro e wz ⟨rfl, rfl⟩; have RZ := RB.alloc (.cells #[.int .i64 2, .iface 107 (.pointer (some b))] 62); have WZ : WoeAt (wb.alloc (.cells #[.int .i64 2, .iface 107 (.pointer (some b))] 62)) wb.heap.size 2 b := Bk.at_ rfl; have hbz := hbB.alloc hbB.size (.cells #[.int .i64 2, .iface 107 (.pointer (some b))] 62); have hlz := RB.lt; obtain ⟨a0, f0, a1, f1, a2, f2, a3, f3, a4, f4, r0, r1, r2, r3, r4⟩ := w5_of RZ; generalize (wb.alloc (.cells #[.int .i64 2, .iface 107 (.pointer (some b))] 62)) = wq at *; go_wp2_with fail; refine bodyPost_ret (v := .tuple #[.agg #[.int .i64 0, .int .i64 0, .int .i64 0, .int .i64 0, .bool false], .iface 60 (.pointer (some ⟨wb.heap.size, 0, none⟩))]) (by simp [results, Tryd.results11, go_sem, r0, r1, r2, r3, r4]) rfl ?_; exact Or.inr ⟨HNW.out, _, rfl, ((((WZ.far (p := ⟨w.heap.size, 0, none⟩) (by simp; omega) _).far (p := ⟨w.heap.size, 1, none⟩) (by simp; omega) _).far (p := ⟨w.heap.size, 2, none⟩) (by simp; omega) _).far (p := ⟨w.heap.size, 3, none⟩) (by simp; omega) _).far (p := ⟨w.heap.size, 4, none⟩) (by simp; omega) _, by (repeat' (first | (with_reducible exact Below.refl _ _) | (with_reducible assumption) | (with_reducible refine Below.alloc ?_ ?_ _) | (with_reducible refine Below.drew ?_) | (with_reducible refine below_drewN ?_ _) | (with_reducible refine Below.setCell ?_ ?_ _) | go_size))⟩)); obtain ⟨v2, hv⟩ := hv; have Hv2 := Lib.hid hv; clear hv; refine (atoi_ok p2 (by omega) v2 Hv2.out _).mono ?_; rintro e wa ⟨rfl, hb⟩; have hbA := hbl.trans (hb.mono hbl.size); have RA := RL.belowAll hb; have XA := XL.belowAll hb; have NA := NL.belowAll hb; have nc := NA.cell 1; have nf := NA.free 1; simp at nc; clear xc hb hbl RL XL NL; go_upto_region 12 with (fail); have RL := RA.far (p := ⟨NB, 1, none⟩) (by simp; omega) (.int .i64 v2); have XL := XA.far (p := ⟨NB, 1, none⟩) (by simp; omega) (.int .i64 v2); have NL := NA.set_ 1 (.int .i64 v2); have hbl := Below.setCell (p := ⟨NB, 1, none⟩) hbA (by simp; omega) (.int .i64 v2); clear hbA RA XA NA nc nf; generalize (wa.setCell ⟨NB, 1, none⟩ (.int .i64 v2)) = wl at *; simp at NL; go_wp2_with fail; rw [rounds_succ])
    (have xc := (XL.cell (2 + 1)).trans (cellsOf_at [p0, p1, p2, p3, p4] q (2 + 1) (by simp)); simp only [List.getElem_cons_succ, List.getElem_cons_zero] at xc; have hp := hsz p3 (by simp); go_wp2_with fail; refine Or.elim (Classical.em (∃ v, Lib.atoiAll (p3).data.toList = .ok v)) (fun hv => ?_) (fun hv => ?_); rotate_left; (· have hnv : ∀ v, Lib.atoiAll (p3).data.toList ≠ .ok v := (fun v e => hv ⟨v, e⟩); clear hv; have HNW := Lib.hid (noword_3 HP.out.1 hnv); refine (atoi_bad (G.more hbl) p3 (by omega) hnv).mono ?_; rintro e wb ⟨v, NE, rfl, hb⟩; have hbB := hbl.trans (hb.mono hbl.size); have GB := G.more hbB; have RB := RL.belowAll hb; clear hnv hb xc NL XL RL; (have hew := GB.ew; go_wp2_with fail; refine (woeAt_any 2 _ _ _).mono ?_; rintro e wz ⟨rfl, rfl⟩; have RZ := RB.alloc (.cells #[.int .i64 2, .iface 107 (.pointer (some b))] 62); have WZ : WoeAt (wb.alloc (.cells #[.int .i64 2, .iface 107 (.pointer (some b))] 62)) wb.heap.size 2 b := Bk.at_ rfl; have hbz := hbB.alloc hbB.size (.cells #[.int .i64 2, .iface 107 (.pointer (some b))] 62); have hlz := RB.lt; obtain ⟨a0, f0, a1, f1, a2, f2, a3, f3, a4, f4, r0, r1, r2, r3, r4⟩ := w5_of RZ; generalize (wb.alloc (.cells #[.int .i64 2, .iface 107 (.pointer (some b))] 62)) = wq at *; go_wp2_with fail; refine bodyPost_ret (v := .tuple #[.agg #[.int .i64 0, .int .i64 0, .int .i64 0, .int .i64 0, .bool false], .iface 60 (.pointer (some ⟨wb.heap.size, 0, none⟩))]) (by simp [results, Tryd.results11, go_sem, r0, r1, r2, r3, r4]) rfl ?_; exact Or.inr ⟨HNW.out, _, rfl, ((((WZ.far (p := ⟨w.heap.size, 0, none⟩) (by simp; omega) _).far (p := ⟨w.heap.size, 1, none⟩) (by simp; omega) _).far (p := ⟨w.heap.size, 2, none⟩) (by simp; omega) _).far (p := ⟨w.heap.size, 3, none⟩) (by simp; omega) _).far (p := ⟨w.heap.size, 4, none⟩) (by simp; omega) _, by (repeat' (first | (with_reducible exact Below.refl _ _) | (with_reducible assumption) | (with_reducible refine Below.alloc ?_ ?_ _) | (with_reducible refine Below.drew ?_) | (with_reducible refine below_drewN ?_ _) | (with_reducible refine Below.setCell ?_ ?_ _) | go_size))⟩)); obtain ⟨v3, hv⟩ := hv; have Hv3 := Lib.hid hv; clear hv; refine (atoi_ok p3 (by omega) v3 Hv3.out _).mono ?_; rintro e wa ⟨rfl, hb⟩; have hbA := hbl.trans (hb.mono hbl.size); have RA := RL.belowAll hb; have XA := XL.belowAll hb; have NA := NL.belowAll hb; have nc := NA.cell 2; have nf := NA.free 2; simp at nc; clear xc hb hbl RL XL NL; go_upto_region 12 with (fail); have RL := RA.far (p := ⟨NB, 2, none⟩) (by simp; omega) (.int .i64 v3); have XL := XA.far (p := ⟨NB, 2, none⟩) (by simp; omega) (.int .i64 v3); have NL := NA.set_ 2 (.int .i64 v3); have hbl := Below.setCell (p := ⟨NB, 2, none⟩) hbA (by simp; omega) (.int .i64 v3); clear hbA RA XA NA nc nf; generalize (wa.setCell ⟨NB, 2, none⟩ (.int .i64 v3)) = wl at *; simp at NL; go_wp2_with fail; rw [rounds_succ])
    (have xc := (XL.cell (3 + 1)).trans (cellsOf_at [p0, p1, p2, p3, p4] q (3 + 1) (by simp)); simp only [List.getElem_cons_succ, List.getElem_cons_zero] at xc; have hp := hsz p4 (by simp); go_wp2_with fail; refine Or.elim (Classical.em (∃ v, Lib.atoiAll (p4).data.toList = .ok v)) (fun hv => ?_) (fun hv => ?_); rotate_left; (· have hnv : ∀ v, Lib.atoiAll (p4).data.toList ≠ .ok v := (fun v e => hv ⟨v, e⟩); clear hv; have HNW := Lib.hid (noword_4 HP.out.1 hnv); refine (atoi_bad (G.more hbl) p4 (by omega) hnv).mono ?_; rintro e wb ⟨v, NE, rfl, hb⟩; have hbB := hbl.trans (hb.mono hbl.size); have GB := G.more hbB; have RB := RL.belowAll hb; clear hnv hb xc NL XL RL; (have hew := GB.ew; go_wp2_with fail; refine (woeAt_any 2 _ _ _).mono ?_; rintro e wz ⟨rfl, rfl⟩; have RZ := RB.alloc (.cells #[.int .i64 2, .iface 107 (.pointer (some b))] 62); have WZ : WoeAt (wb.alloc (.cells #[.int .i64 2, .iface 107 (.pointer (some b))] 62)) wb.heap.size 2 b := Bk.at_ rfl; have hbz := hbB.alloc hbB.size (.cells #[.int .i64 2, .iface 107 (.pointer (some b))] 62); have hlz := RB.lt; obtain ⟨a0, f0, a1, f1, a2, f2, a3, f3, a4, f4, r0, r1, r2, r3, r4⟩ := w5_of RZ; generalize (wb.alloc (.cells #[.int .i64 2, .iface 107 (.pointer (some b))] 62)) = wq at *; go_wp2_with fail; refine bodyPost_ret (v := .tuple #[.agg #[.int .i64 0, .int .i64 0, .int .i64 0, .int .i64 0, .bool false], .iface 60 (.pointer (some ⟨wb.heap.size, 0, none⟩))]) (by simp [results, Tryd.results11, go_sem, r0, r1, r2, r3, r4]) rfl ?_; exact Or.inr ⟨HNW.out, _, rfl, ((((WZ.far (p := ⟨w.heap.size, 0, none⟩) (by simp; omega) _).far (p := ⟨w.heap.size, 1, none⟩) (by simp; omega) _).far (p := ⟨w.heap.size, 2, none⟩) (by simp; omega) _).far (p := ⟨w.heap.size, 3, none⟩) (by simp; omega) _).far (p := ⟨w.heap.size, 4, none⟩) (by simp; omega) _, by (repeat' (first | (with_reducible exact Below.refl _ _) | (with_reducible assumption) | (with_reducible refine Below.alloc ?_ ?_ _) | (with_reducible refine Below.drew ?_) | (with_reducible refine below_drewN ?_ _) | (with_reducible refine Below.setCell ?_ ?_ _) | go_size))⟩)); obtain ⟨v4, hv⟩ := hv; have Hv4 := Lib.hid hv; clear hv; refine (atoi_ok p4 (by omega) v4 Hv4.out _).mono ?_; rintro e wa ⟨rfl, hb⟩; have hbA := hbl.trans (hb.mono hbl.size); have RA := RL.belowAll hb; have XA := XL.belowAll hb; have NA := NL.belowAll hb; have nc := NA.cell 3; have nf := NA.free 3; simp at nc; clear xc hb hbl RL XL NL; go_upto_region 12 with (fail); have RL := RA.far (p := ⟨NB, 3, none⟩) (by simp; omega) (.int .i64 v4); have XL := XA.far (p := ⟨NB, 3, none⟩) (by simp; omega) (.int .i64 v4); have NL := NA.set_ 3 (.int .i64 v4); have hbl := Below.setCell (p := ⟨NB, 3, none⟩) hbA (by simp; omega) (.int .i64 v4); clear hbA RA XA NA nc nf; generalize (wa.setCell ⟨NB, 3, none⟩ (.int .i64 v4)) = wl at *; simp at NL; go_wp2_with fail; rw [rounds_succ])
    go_wp2_with fail
    have hS0 : ∀ w', Bk w' NB 52 #[.int .i64 v1, .int .i64 v2, .int .i64 v3, .int .i64 v4] → Bk w' X 9 (Lib.cellsOf [p0, p1, p2, p3, p4] q) → (fun w' : World => w'.cell? ⟨NB, 0, none⟩ = some (.int .i64 v1) ∧ w'.cell? ⟨NB, 1, none⟩ = some (.int .i64 v2) ∧ w'.cell? ⟨NB, 2, none⟩ = some (.int .i64 v3) ∧ w'.cell? ⟨NB, 3, none⟩ = some (.int .i64 v4) ∧ w'.cell? ⟨X, 0, none⟩ = some (.string p0)) w' := fun w' hn hx =>
      ⟨hn.cell 0, hn.cell 1, hn.cell 2, hn.cell 3, (hx.cell 0).trans (cellsOf_at [p0, p1, p2, p3, p4] q 0 (by simp))⟩
    have RD := RL.drew
    have ND := NL.drew
    have XD := XL.drew
    have hbd : Below w.heap.size w wl.drew := hbl.drew
    refine wp_region_T (fun w' : World => w'.cell? ⟨NB, 0, none⟩ = some (.int .i64 v1) ∧ w'.cell? ⟨NB, 1, none⟩ = some (.int .i64 v2) ∧ w'.cell? ⟨NB, 2, none⟩ = some (.int .i64 v3) ∧ w'.cell? ⟨NB, 3, none⟩ = some (.int .i64 v4) ∧ w'.cell? ⟨X, 0, none⟩ = some (.string p0)) 14 (by kernel_rfl) (hS0 _ ND XD) (fun hS => ?_)
    generalize wl.drew = wd at *
    clear RL NL XL hbl
    ((try simp only [Act.put, List.setIfInBounds_toArray, List.set_cons_succ, List.set_cons_zero]); refine wpT_batch (fuel := 2) (by kernel_rfl) (by kernel_rfl) (fun d => by cases d <;> exact fun _ _ _ _ h => h) hS [0, 1, 2, 3, 4, 5, 6, 7, 8, 9, 10, 11, 12] _ _ (by kernel_rfl) ?_; simp only [pickOps, nthOp, List.toList_toArray]; (repeat (first | go_big_quiet_skip | (go_big_quiet_want; first | (go_big_quiet_op; go_big_quiet_on) | (apply Exists.intro; refine ⟨fun w' hS' => ?_, ?_⟩; (· (obtain ⟨f1, f2, f3, f4, f5⟩ := hS'; go_simp; first | done | rfl | exact ⟨rfl, rfl⟩)); go_big_quiet_on; simp only [Act.put, List.setIfInBounds_toArray, List.set_cons_succ, List.set_cons_zero])))); refine wpQuiet_nil ?_; (try dsimp only))
    generalize hmk : (p0.toList == [109]) = mk
    have HMK := Lib.hid hmk; clear hmk
    (refine wpT_loudN 13 (by kernel_rfl) (fun K hK => ?_); simp only [nthOp, List.toList_toArray])
    go_wp2_with fail
    refine hK.out _ _ (fun _ => hS0 _ (ND.alloc _) (XD.alloc _)) ?_
    clear hK hS
    ((refine wpT_loudN 14 (by kernel_rfl) (fun K hK => ?_); simp only [nthOp, List.toList_toArray]); go_wp2_with fail; refine hK.out _ _ (fun h => absurd h (by omega)) ?_; clear hK)
    refine wpT_done (by kernel_rfl) ?_ _
    have R6 := RD.alloc (.cells #[.int .i64 v1, .int .i64 v2, .int .i64 v3, .int .i64 v4, .bool mk] 23)
    have W6 : Bk (wd.alloc (.cells #[.int .i64 v1, .int .i64 v2, .int .i64 v3, .int .i64 v4, .bool mk] 23)) wd.heap.size 23 #[.int .i64 v1, .int .i64 v2, .int .i64 v3, .int .i64 v4, .bool mk] := Bk.at_ rfl
    have hb6 := hbd.alloc hbd.size (.cells #[.int .i64 v1, .int .i64 v2, .int .i64 v3, .int .i64 v4, .bool mk] 23)
    have hlt6 : w.heap.size < wd.heap.size := RD.lt
    clear RD ND XD hbd hS0
    generalize (wd.alloc (.cells #[.int .i64 v1, .int .i64 v2, .int .i64 v3, .int .i64 v4, .bool mk] 23)) = w6 at *
    generalize wd.heap.size = WX at *
    have HW : ∀ x, GoodP x → bs (txt x) = s → (⟨v1, v2, v3, v4, mk⟩ : PW) = x := fun x hx hs => by rw [← HMK.out]; exact word_is HP.out.1 Hv1.out Hv2.out Hv3.out Hv4.out x hx hs
    have HWW := Lib.hid HW; clear HW
    (have c0 := W6.cell 0; have c1 := W6.cell 1; have c2 := W6.cell 2; have c3 := W6.cell 3; have c4 := W6.cell 4; simp at c0 c1 c2 c3 c4)
    go_wp2_with fail
    refine (good_any ⟨v1, v2, v3, v4, mk⟩ _).mono ?_
    rintro e w7 ⟨rfl, hb7⟩
    have R7 := R6.belowAll hb7
    have W7 := W6.belowAll hb7
    have hbl := hb6.trans (hb7.mono hb6.size)
    clear R6 W6 hb6 hb7 c0 c1 c2 c3 c4
    by_cases hgd : GoodP ⟨v1, v2, v3, v4, mk⟩
    · rw [(goodB_true _).2 hgd]
      have HG := Lib.hid hgd; clear hgd
      have G7 := G.more hbl
      (have c0 := W7.cell 0; have c1 := W7.cell 1; have c2 := W7.cell 2; have c3 := W7.cell 3; have c4 := W7.cell 4; simp at c0 c1 c2 c3 c4)
      go_wp2_with fail
      refine (text_any ⟨v1, v2, v3, v4, mk⟩ HG.out _ G7.tab).mono ?_
      rintro e w8 ⟨rfl, hb8⟩
      have R8 := R7.belowAll hb8
      have W8 := W7.belowAll hb8
      have hb9 := hbl.trans (hb8.mono hbl.size)
      clear R7 W7 hbl hb8 c0 c1 c2 c3 c4 G7
      by_cases he : bs (txt ⟨v1, v2, v3, v4, mk⟩) = s
      · have hq : ((bs (txt ⟨v1, v2, v3, v4, mk⟩)).toList == s.toList) = true := by rw [he]; simp
        have HE := Lib.hid he; clear he
        (have c0 := W8.cell 0; have c1 := W8.cell 1; have c2 := W8.cell 2; have c3 := W8.cell 3; have c4 := W8.cell 4; simp at c0 c1 c2 c3 c4)
        obtain ⟨a0, f0, a1, f1, a2, f2, a3, f3, a4, f4, r0, r1, r2, r3, r4⟩ := w5_of R8
        go_wp2_with fail
        refine bodyPost_ret (v := .tuple #[.agg #[.int .i64 v1, .int .i64 v2, .int .i64 v3, .int .i64 v4, .bool mk], .nilIface]) (by simp [results, Tryd.results11, go_sem, r0, r1, r2, r3, r4]) rfl ?_
        exact Or.inl ⟨⟨v1, v2, v3, v4, mk⟩, HG.out, HE.out, rfl, by (repeat' (first | (with_reducible exact Below.refl _ _) | (with_reducible assumption) | (with_reducible refine Below.alloc ?_ ?_ _) | (with_reducible refine Below.drew ?_) | (with_reducible refine below_drewN ?_ _) | (with_reducible refine Below.setCell ?_ ?_ _) | go_size))⟩
      · have hq : ((bs (txt ⟨v1, v2, v3, v4, mk⟩)).toList == s.toList) = false := by
          simp only [beq_eq_false_iff_ne, ne_eq, Go.ByteArray.toList_eq]
          intro h
          exact he (ByteArray.ext (by simpa using congrArg List.toArray h))
        have HN : Hid (NoWord s) := fun x hx hs => he (by rw [HWW.out x hx hs]; exact hs)
        clear he
        have GB := G.more hb9
        clear W8
        (have hew := GB.ew; go_wp2_with fail; refine (woeAt_any 2 _ _ _).mono ?_; rintro e wz ⟨rfl, rfl⟩; have RZ := R8.alloc (.cells #[.int .i64 2, .iface 107 (.pointer (some b))] 62); have WZ : WoeAt (w8.alloc (.cells #[.int .i64 2, .iface 107 (.pointer (some b))] 62)) w8.heap.size 2 b := Bk.at_ rfl; have hbz := hb9.alloc hb9.size (.cells #[.int .i64 2, .iface 107 (.pointer (some b))] 62); have hlz := R8.lt; obtain ⟨a0, f0, a1, f1, a2, f2, a3, f3, a4, f4, r0, r1, r2, r3, r4⟩ := w5_of RZ; generalize (w8.alloc (.cells #[.int .i64 2, .iface 107 (.pointer (some b))] 62)) = wq at *; go_wp2_with fail; refine bodyPost_ret (v := .tuple #[.agg #[.int .i64 0, .int .i64 0, .int .i64 0, .int .i64 0, .bool false], .iface 60 (.pointer (some ⟨w8.heap.size, 0, none⟩))]) (by simp [results, Tryd.results11, go_sem, r0, r1, r2, r3, r4]) rfl ?_; exact Or.inr ⟨HN.out, _, rfl, ((((WZ.far (p := ⟨w.heap.size, 0, none⟩) (by simp; omega) _).far (p := ⟨w.heap.size, 1, none⟩) (by simp; omega) _).far (p := ⟨w.heap.size, 2, none⟩) (by simp; omega) _).far (p := ⟨w.heap.size, 3, none⟩) (by simp; omega) _).far (p := ⟨w.heap.size, 4, none⟩) (by simp; omega) _, by (repeat' (first | (with_reducible exact Below.refl _ _) | (with_reducible assumption) | (with_reducible refine Below.alloc ?_ ?_ _) | (with_reducible refine Below.drew ?_) | (with_reducible refine below_drewN ?_ _) | (with_reducible refine Below.setCell ?_ ?_ _) | go_size))⟩)
    · rw [(goodB_false _).2 hgd]
      have HN : Hid (NoWord s) := fun x hx hs => hgd (by rw [HWW.out x hx hs]; exact hx)
      clear hgd
      have GB := G.more hbl
      clear W7
      (have hew := GB.ew; go_wp2_with fail; refine (woeAt_any 2 _ _ _).mono ?_; rintro e wz ⟨rfl, rfl⟩; have RZ := R7.alloc (.cells #[.int .i64 2, .iface 107 (.pointer (some b))] 62); have WZ : WoeAt (w7.alloc (.cells #[.int .i64 2, .iface 107 (.pointer (some b))] 62)) w7.heap.size 2 b := Bk.at_ rfl; have hbz := hbl.alloc hbl.size (.cells #[.int .i64 2, .iface 107 (.pointer (some b))] 62); have hlz := R7.lt; obtain ⟨a0, f0, a1, f1, a2, f2, a3, f3, a4, f4, r0, r1, r2, r3, r4⟩ := w5_of RZ; generalize (w7.alloc (.cells #[.int .i64 2, .iface 107 (.pointer (some b))] 62)) = wq at *; go_wp2_with fail; refine bodyPost_ret (v := .tuple #[.agg #[.int .i64 0, .int .i64 0, .int .i64 0, .int .i64 0, .bool false], .iface 60 (.pointer (some ⟨w7.heap.size, 0, none⟩))]) (by simp [results, Tryd.results11, go_sem, r0, r1, r2, r3, r4]) rfl ?_; exact Or.inr ⟨HN.out, _, rfl, ((((WZ.far (p := ⟨w.heap.size, 0, none⟩) (by simp; omega) _).far (p := ⟨w.heap.size, 1, none⟩) (by simp; omega) _).far (p := ⟨w.heap.size, 2, none⟩) (by simp; omega) _).far (p := ⟨w.heap.size, 3, none⟩) (by simp; omega) _).far (p := ⟨w.heap.size, 4, none⟩) (by simp; omega) _, by (repeat' (first | (with_reducible exact Below.refl _ _) | (with_reducible assumption) | (with_reducible refine Below.alloc ?_ ?_ _) | (with_reducible refine Below.drew ?_) | (with_reducible refine below_drewN ?_ _) | (with_reducible refine Below.setCell ?_ ?_ _) | go_size))⟩)
  · have hne : ((P.length : Int) != 5) = true := by simp; omega
    have hnw : NoWord s := noword_len (by rw [HP.out.1]; exact h5)
    have HN := Lib.hid hnw; clear hnw h5
    (have hew := G2.ew; go_wp2_with fail; refine (woeAt_any 2 _ _ _).mono ?_; rintro e wz ⟨rfl, rfl⟩; have RZ := R2.alloc (.cells #[.int .i64 2, .iface 107 (.pointer (some b))] 62); have WZ : WoeAt (w2.alloc (.cells #[.int .i64 2, .iface 107 (.pointer (some b))] 62)) w2.heap.size 2 b := Bk.at_ rfl; have hbz := hb2.alloc hb2.size (.cells #[.int .i64 2, .iface 107 (.pointer (some b))] 62); have hlz := R2.lt; obtain ⟨a0, f0, a1, f1, a2, f2, a3, f3, a4, f4, r0, r1, r2, r3, r4⟩ := w5_of RZ; generalize (w2.alloc (.cells #[.int .i64 2, .iface 107 (.pointer (some b))] 62)) = wq at *; go_wp2_with fail; refine bodyPost_ret (v := .tuple #[.agg #[.int .i64 0, .int .i64 0, .int .i64 0, .int .i64 0, .bool false], .iface 60 (.pointer (some ⟨w2.heap.size, 0, none⟩))]) (by simp [results, Tryd.results11, go_sem, r0, r1, r2, r3, r4]) rfl ?_; exact Or.inr ⟨HN.out, _, rfl, ((((WZ.far (p := ⟨w.heap.size, 0, none⟩) (by simp; omega) _).far (p := ⟨w.heap.size, 1, none⟩) (by simp; omega) _).far (p := ⟨w.heap.size, 2, none⟩) (by simp; omega) _).far (p := ⟨w.heap.size, 3, none⟩) (by simp; omega) _).far (p := ⟨w.heap.size, 4, none⟩) (by simp; omega) _, by (repeat' (first | (with_reducible exact Below.refl _ _) | (with_reducible assumption) | (with_reducible refine Below.alloc ?_ ?_ _) | (with_reducible refine Below.drew ?_) | (with_reducible refine below_drewN ?_ _) | (with_reducible refine Below.setCell ?_ ?_ _) | go_size))⟩)
end Go.Proofs.YtfkfleojdheffaaDoor
