/- CreedOrders, walked: a stack gives the youngest, a queue the eldest, a map each key's. -/
import Derived.Test.YtlfbgpncdahglaaDoorTri
import Derived.Test.YtlfbgpncdahglaaDoorBack
import Derived.Test.YtlfbgpncdahglaaDoorPlainOrders
import Derived.IntWalk
namespace Go.Proofs.YtlfbgpncdahglaaDoor
open Go Go.RowKit
set_option linter.unusedSimpArgs false
set_option linter.unusedVariables false
set_option linter.unusedSectionVars false

theorem conv_in (n : Int) : 0 ≤ wrap64 ((IntKind.u64.wrap n).tmod 1073741825) ∧ wrap64 ((IntKind.u64.wrap n).tmod 1073741825) ≤ 1073741824 := by
  have h0 : 0 ≤ IntKind.u64.wrap n := by
    have : IntKind.u64.wrap n = n % 18446744073709551616 := by unfold IntKind.wrap; simp [IntKind.signed, IntKind.bits]
    omega
  rw [Int.tmod_eq_emod_of_nonneg h0]
  unfold wrap64
  omega
theorem pok_is {s s' : PC} {o : POp} {a : Int × Int} (hok : POk s) (hf : fitsB s.st o = true) (hs : s.size < 10000) (ha : ansOf s o = a) (hc : chgOf s o a.1 = s') : POk s' := by
  subst ha hc; exact pok_chg hok hf hs

set_option maxRecDepth 100000 in
set_option maxHeartbeats 6400000 in
theorem creedOrders_any (vals : List Int) (V : Option Addr) (vc : Nat) (w : World) (a : Addr) (hE : w.cell? ⟨0, 0, none⟩ = some (.iface 156 (.pointer (some a))))
    (so : Sl w w.heap.size 1 V vals.length (icells vals)) (hl : vals.length ≤ 100) :
    Calls Tryd.prog 4 #[.slice V vals.length vc] w (RetB true w) := by
  have g1 : decide ((100 : Int) < (vals.length : Int)) = false := by simp; omega
  have hlt0 := World.block_lt_of_cell? _ _ hE
  simp at hlt0
  go_enter Tryd.func4, Tryd.ntmps4
  go_wp2_with fail
  refine (awake_any _ a hE).mono ?_
  rintro e w1 ⟨rfl, hb1⟩
  go_wp2_with fail
  refine (new_any 1 _ (by decide) (by decide)).mono ?_
  rintro e w2 ⟨p1, A1, c1, B1, d1, rfl, hn1⟩
  have L1 := LW.new hb1 (cell_below hE hb1) hlt0 hn1 (pok_vals 1 [] (by decide) (by decide))
  clear hb1 hn1
  go_wp2_with fail
  refine (new_any 2 _ (by decide) (by decide)).mono ?_
  rintro e w3 ⟨p2, A2, c2, B2, d2, rfl, hn2⟩
  have L2 := LW.new L1.below L1.err hlt0 hn2 (pok_vals 2 [] (by decide) (by decide))
  have a12 := hn2.apart L1.r
  have L1' := L1.more hn2.2.1
  clear hn2 L1
  go_wp2_with fail
  refine (new_any 3 _ (by decide) (by decide)).mono ?_
  rintro e w4 ⟨p3, A3, c3, B3, d3, rfl, hn3⟩
  have L3' := LW.new L1'.below L1'.err hlt0 hn3 (pok_vals 3 [] (by decide) (by decide))
  have a13 := hn3.apart L1'.r
  have a23 := hn3.apart L2.r
  have L1 := L1'.more hn3.2.1
  have L2' := L2.more hn3.2.1
  clear hn3 L1' L2
  have o0 : Own (w4.alloc (.cells #[] 3)) 3 1 (.slice (some ⟨w4.heap.size, 0, none⟩) 0 0) ([] : List Int).length (icells []) := Own.empty (Bk.at_ rfl)
  have f0 : ∀ b, (Value.slice (some ⟨w4.heap.size, 0, none⟩) 0 0).ownBlock = some b → w4.heap.size ≤ b := fun b e => by cases e; exact Nat.le_refl _
  have X0 : Tri w (w4.alloc (.cells #[] 3)) 156 (.pointer (some a)) (.slice (some ⟨w4.heap.size, 0, none⟩) 0 0) [] p1 ⟨1, [], []⟩ A1 c1 B1 d1 p2 ⟨2, [], []⟩ A2 c2 B2 d2 p3 ⟨3, [], []⟩ A3 c3 B3 d3 :=
    ⟨L1.alloc _, L2'.alloc _, L3'.alloc _, a12, a13, a23, o0, fun b e => Nat.le_trans L1.below.size (f0 b e), Off.new L1.r f0, Off.new L2'.r f0, Off.new L3'.r f0⟩
  clear L1 L2' L3' a12 a13 a23 o0 f0
  go_wp2_with fail
  go_loopw [9, 10] (fun lv i wr => ∃ (k : Nat) (L : List Int) (M : List (Int × Int)) (A1 : Option Addr) (c1 : Nat) (B1 : Option Addr) (d1 : Nat) (A2 : Option Addr) (c2 : Nat) (B2 : Option Addr) (d2 : Nat) (A3 : Option Addr) (c3 : Nat) (B3 : Option Addr) (d3 : Nat), k ≤ vals.length ∧ i = .int .i64 k ∧ Hid (L.length = k) ∧ Hid (M = en 0 L) ∧
    Tri w wr 156 (.pointer (some a)) lv L p1 ⟨1, L, []⟩ A1 c1 B1 d1 p2 ⟨2, L, []⟩ A2 c2 B2 d2 p3 ⟨3, [], M⟩ A3 c3 B3 d3) (fun _ i _ => vals.length - (intOf i).toNat)
  case atStart => exact ⟨0, [], [], A1, c1, B1, d1, A2, c2, B2, d2, A3, c3, B3, d3, Nat.zero_le _, rfl, rfl, rfl, X0⟩
  case round =>
    clear X0
    obtain ⟨k, L, M, A1, c1, B1, d1, A2, c2, B2, d2, A3, c3, B3, d3, hk, rfl, HL, HM, X⟩ := hrel
    by_cases hlt : k < vals.length
    · obtain ⟨vb, off, rfl, hvb, q⟩ := (so.below X.x.below).pick hlt
      have hLl : L.length ≤ 99 := by have := HL.out; omega
      have hc := conv_in vals[k]
      have o1 := X.own.alloc (.cells #[.int .i64 (wrap64 ((IntKind.u64.wrap vals[k]).tmod 1073741825))] 3)
      have K1 : Bk (wr.alloc (.cells #[.int .i64 (wrap64 ((IntKind.u64.wrap vals[k]).tmod 1073741825))] 3)) wr.heap.size 3 #[.int .i64 (wrap64 ((IntKind.u64.wrap vals[k]).tmod 1073741825))] := Bk.at_ rfl
      obtain ⟨v', w5, hrun, h5, hg5, hf5⟩ := own_ints_append _ _ _ o1 (by omega) (wrap64 ((IntKind.u64.wrap vals[k]).tmod 1073741825)) wr.heap.size K1 48
      have X5 := (X.alloc (.cells #[.int .i64 (wrap64 ((IntKind.u64.wrap vals[k]).tmod 1073741825))] 3)).push hg5 h5 hf5
      have HR := Lib.hid hrun; clear hrun
      clear o1 K1 h5 hg5 hf5 X
      have HC := Lib.hid hc; clear hc
      go_wp2_with (at_builtin; refine wpList_append_run (by rfl) _ _ _ _ _ _ _ (by rfl) (by rfl) (by rfl) HR.out ?_)
      clear HR q
      generalize wrap64 ((IntKind.u64.wrap vals[k]).tmod 1073741825) = v at *
      have P1 := Lib.hid (ord_push L v HC.out.1 HC.out.2)
      have P2 := Lib.hid (ord_enq L v HC.out.1 HC.out.2)
      have P3 := Lib.hid (ord_ins L v k HL.out (by omega) HC.out.1 HC.out.2)
      rw [← HM.out] at P3
      have ok1 := pok_is X5.x.ok P1.out.1 (by simp [PC.size]; omega) P1.out.2.1 P1.out.2.2
      have ok2 := pok_is X5.y.ok P2.out.1 (by simp [PC.size]; omega) P2.out.2.1 P2.out.2.2
      have ok3 := pok_is X5.z.ok P3.out.1 (by simp [PC.size]; have := X5.z.ok.lp; rw [HM.out, en_length]; omega) P3.out.2.1 P3.out.2.2
      refine (do_is _ p1 ⟨1, L, []⟩ A1 c1 B1 d1 X5.x.r ⟨1, 0, v, 0⟩ _ _ X5.x.err (s' := ⟨1, L ++ [v], []⟩) (a := (1, 0)) X5.x.ok P1.out.1 P1.out.2.1 P1.out.2.2).mono ?_
      rintro e w6 ⟨rfl, A1, c1, B1, d1, h6, o6⟩
      have X6' := X5.doX h6 o6 ok1
      have X6 := X6'.alloc (.cells #[.int .i64 1, .int .i64 0] 36)
      have K6 : Bk (w6.alloc (.cells #[.int .i64 1, .int .i64 0] 36)) w6.heap.size 36 #[.int .i64 1, .int .i64 0] := Bk.at_ rfl
      have F6y := X6'.y.r.far (Nat.le_refl _)
      have F6z := X6'.z.r.far (Nat.le_refl _)
      clear h6 o6 X6' X5
      go_wp2_with fail
      generalize (w6.alloc (.cells #[.int .i64 1, .int .i64 0] 36)) = w6a at *
      generalize w6.heap.size = b6 at *
      refine (do_is _ p2 ⟨2, L, []⟩ A2 c2 B2 d2 X6.y.r ⟨4, 0, v, 0⟩ _ _ X6.y.err (s' := ⟨2, L ++ [v], []⟩) (a := (1, 0)) X6.y.ok P2.out.1 P2.out.2.1 P2.out.2.2).mono ?_
      rintro e w7 ⟨rfl, A2, c2, B2, d2, h7, o7⟩
      have X7' := X6.doY h7 o7 ok2
      have X7 := X7'.alloc (.cells #[.int .i64 1, .int .i64 0] 36)
      have K7 : Bk (w7.alloc (.cells #[.int .i64 1, .int .i64 0] 36)) w7.heap.size 36 #[.int .i64 1, .int .i64 0] := Bk.at_ rfl
      have F7z := X7'.z.r.far (Nat.le_refl _)
      obtain ⟨_, k6⟩ := o7.far K6.lt F6y
      have K6 := (K6.same k6).alloc (.cells #[.int .i64 1, .int .i64 0] 36)
      clear h7 o7 X7' X6 F6y k6
      go_wp2_with fail
      generalize (w7.alloc (.cells #[.int .i64 1, .int .i64 0] 36)) = w7a at *
      generalize w7.heap.size = b7 at *
      refine (do_is _ p3 ⟨3, [], M⟩ A3 c3 B3 d3 X7.z.r ⟨6, k, v, 0⟩ _ _ X7.z.err (s' := ⟨3, [], en 0 (L ++ [v])⟩) (a := (1, 0)) X7.z.ok P3.out.1 P3.out.2.1 P3.out.2.2).mono ?_
      rintro e w8 ⟨rfl, A3, c3, B3, d3, h8, o8⟩
      have X8' := X7.doZ h8 o8 ok3
      have X8 := X8'.alloc (.cells #[.int .i64 1, .int .i64 0] 36)
      have K8 : Bk (w8.alloc (.cells #[.int .i64 1, .int .i64 0] 36)) w8.heap.size 36 #[.int .i64 1, .int .i64 0] := Bk.at_ rfl
      obtain ⟨_, k6⟩ := o8.far K6.lt F6z
      have K6 := (K6.same k6).alloc (.cells #[.int .i64 1, .int .i64 0] 36)
      obtain ⟨_, k7⟩ := o8.far K7.lt F7z
      have K7 := (K7.same k7).alloc (.cells #[.int .i64 1, .int .i64 0] 36)
      clear h8 o8 X8' X7 F6z F7z k6 k7 P1 P2 P3 ok1 ok2 ok3
      have X9 := X8.alloc (.cells #[.int .i64 1, .int .i64 0] 36)
      have K6 := K6.alloc (.cells #[.int .i64 1, .int .i64 0] 36)
      have K7 := K7.alloc (.cells #[.int .i64 1, .int .i64 0] 36)
      have K8 := K8.alloc (.cells #[.int .i64 1, .int .i64 0] 36)
      have z0 := K6.cell 0; have z1 := K6.cell 1; have z2 := K7.cell 0; have z3 := K7.cell 1; have z4 := K8.cell 0; have z5 := K8.cell 1
      have l6 := K6.lt; have l7 := K7.lt; have l8 := K8.lt
      simp at z0 z1 z2 z3 z4 z5 l6 l7 l8
      go_wp2_with fail
      go_roundw
      case rel => exact ⟨k + 1, L ++ [v], en 0 (L ++ [v]), A1, c1, B1, d1, A2, c2, B2, d2, A3, c3, B3, d3, by omega, by go_num, by have := HL.out; simp [Hid, this], rfl, X9⟩
      case measure => simp [intOf]; omega
    · have hLl : L.length ≤ 100 := by have := HL.out; omega
      obtain ⟨LA, lc, rfl, _, _⟩ := X.own.form
      have hM2 : M.length = L.length := by rw [HM.out, en_length]
      have HM2 := Lib.hid hM2; clear hM2
      go_wp2_with fail
      obtain ⟨R, hR⟩ : ∃ R, L.reverse = R := ⟨_, rfl⟩
      have hRl : R.length ≤ 100 := by rw [← hR]; simp; omega
      have HR := Lib.hid hR; clear hR
      refine (vals_is (l := R) _ p1 ⟨1, L, []⟩ A1 c1 B1 d1 X.x.r X.x.ok HR.out).mono ?_
      rintro e w5 ⟨y1, rfl, oy1, hb5, _⟩
      have X5 := X.more hb5
      clear X hb5
      obtain ⟨Y1, yc1, rfl, _, _⟩ := oy1.form
      go_wp2_with fail
      have hbk := back_any L LA lc _ X5.own.sl (by omega)
      rw [HR.out] at hbk
      refine hbk.mono ?_
      rintro e w6 ⟨y2, rfl, oy2, hb6, _⟩
      have X6 := X5.more hb6
      have oy1' := oy1.below hb6
      clear X5 hb6 oy1 hbk
      obtain ⟨Y2, yc2, rfl, _, _⟩ := oy2.form
      go_wp2_with fail
      refine (ints_is (b := true) R R Y1 Y2 yc1 yc2 _ _ _ oy1'.sl oy2.sl (by omega) (by omega) (by simp)).mono ?_
      rintro e w7 ⟨rfl, k7, rfl⟩
      have X7 := X6.drewN k7
      clear X6 oy1' oy2
      generalize w6.drewN k7 = w7 at *
      go_wp2_with fail
      refine (vals_is (l := L) _ p2 ⟨2, L, []⟩ A2 c2 B2 d2 X7.y.r X7.y.ok rfl).mono ?_
      rintro e w8 ⟨y1, rfl, oy1, hb8, _⟩
      have X8 := X7.more hb8
      clear X7 hb8
      obtain ⟨Y1, yc1, rfl, _, _⟩ := oy1.form
      go_wp2_with fail
      refine (ints_is (b := true) L L Y1 LA yc1 lc _ _ _ oy1.sl X8.own.sl (by omega) (by omega) (by simp)).mono ?_
      rintro e w9 ⟨rfl, k9, rfl⟩
      have X9 := X8.drewN k9
      clear X8 oy1
      generalize w8.drewN k9 = w9 at *
      go_wp2_with fail
      refine (pairs_any _ p3 ⟨3, [], M⟩ A3 c3 B3 d3 X9.z.r X9.z.ok).mono ?_
      rintro e w10 ⟨y1, rfl, oy1, hb10, _⟩
      have X10 := X9.more hb10
      clear X9 hb10
      obtain ⟨Y1, yc1, rfl, _, _⟩ := oy1.form
      clear oy1
      simp only [HM2.out]
      go_wp2_with fail
      have HL0 := HL; clear HL hlt
      go_loopw [19] (fun i wr => ∃ (j : Nat) (S Q : List Int) (M : List (Int × Int)) (A1 : Option Addr) (c1 : Nat) (B1 : Option Addr) (d1 : Nat) (A2 : Option Addr) (c2 : Nat) (B2 : Option Addr) (d2 : Nat) (A3 : Option Addr) (c3 : Nat) (B3 : Option Addr) (d3 : Nat), j ≤ L.length ∧ i = .int .i64 j ∧ Hid (S = L.take (L.length - j)) ∧ Hid (Q = L.drop j) ∧ Hid (M = en j Q) ∧
        Tri w wr 156 (.pointer (some a)) (.slice LA L.length lc) L p1 ⟨1, S, []⟩ A1 c1 B1 d1 p2 ⟨2, Q, []⟩ A2 c2 B2 d2 p3 ⟨3, [], M⟩ A3 c3 B3 d3) (fun i _ => L.length - (intOf i).toNat)
      case atStart => exact ⟨0, L, L, M, A1, c1, B1, d1, A2, c2, B2, d2, A3, c3, B3, d3, Nat.zero_le _, rfl, by simp [Hid], rfl, HM, X10⟩
      case round =>
        clear X10 HM HM2
        obtain ⟨j, S, Q, M, A1, c1, B1, d1, A2, c2, B2, d2, A3, c3, B3, d3, hj, rfl, HS, HQ, HM, X⟩ := hrel
        by_cases hlt : j < L.length
        · obtain ⟨p, hp⟩ : ∃ p, L.length = p + 1 := ⟨L.length - 1, by omega⟩
          obtain ⟨m, hm⟩ : ∃ m, p = m + j := ⟨p - j, by omega⟩
          have hmlt : m < L.length := by omega
          have hSl : S.length = m + 1 := by rw [HS.out]; simp; omega
          have hQ : Q = L[j] :: L.drop (j + 1) := by rw [HQ.out]; exact List.drop_eq_getElem_cons hlt
          have P1 := ord_pop S m hSl
          have hSm : S[m] = L[m] := by simp only [HS.out, List.getElem_take]
          have hSt : S.take m = L.take (L.length - (j + 1)) := by rw [HS.out, List.take_take]; congr 1; omega
          rw [hSm] at P1
          have P2 := ord_deq L[j] (L.drop (j + 1))
          have P3 := ord_del L[j] (L.drop (j + 1)) j (by omega)
          rw [← hQ] at P2 P3
          rw [← HM.out] at P3
          obtain ⟨lb, lo, hLA, hlb, qm⟩ := (X.own.sl).pick hmlt
          obtain ⟨lb', lo', hLA', _, qj⟩ := (X.own.sl).pick hlt
          rw [hLA] at hLA'
          cases hLA'
          subst hLA
          have P1 := Lib.hid P1
          have P2 := Lib.hid P2
          have P3 := Lib.hid P3
          have ok1 := pok_is X.x.ok P1.out.1 (by simp [PC.size]; omega) P1.out.2.1 P1.out.2.2
          have ok2 := pok_is X.y.ok P2.out.1 (by simp [PC.size]; have := X.y.ok.lv; rw [HQ.out]; simp; omega) P2.out.2.1 P2.out.2.2
          have ok3 := pok_is X.z.ok P3.out.1 (by simp [PC.size]; rw [HM.out, en_length, HQ.out]; simp; omega) P3.out.2.1 P3.out.2.2
          have hw1 : IntKind.i64.wrap ((L.length : Int) - 1) = (p : Int) := by rw [IntWalk.i64_in _ (by omega)]; omega
          have hw2 : IntKind.i64.wrap ((p : Int) - (j : Int)) = (m : Int) := by rw [IntWalk.i64_in _ (by omega)]; omega
          have HW := Lib.hid (And.intro hw1 hw2)
          have HT := Lib.hid (And.intro hSt hQ)
          clear hp hm hSl hQ hSm hSt hw1 hw2 qm qj
          generalize hx : L[m] = x at *
          generalize hy : L[j] = y at *
          have HX := Lib.hid (And.intro hx hy); clear hx hy
          go_wp2_with fail
          refine (do_is _ p1 ⟨1, S, []⟩ A1 c1 B1 d1 X.x.r ⟨2, 0, 0, 0⟩ _ _ X.x.err (s' := ⟨1, S.take m, []⟩) (a := (1, x)) X.x.ok P1.out.1 P1.out.2.1 P1.out.2.2).mono ?_
          rintro e w12 ⟨rfl, A1, c1, B1, d1, h6, o6⟩
          have X6' := X.doX h6 o6 ok1
          have X6 := X6'.alloc (.cells #[.int .i64 1, .int .i64 x] 36)
          have K6 : Bk (w12.alloc (.cells #[.int .i64 1, .int .i64 x] 36)) w12.heap.size 36 #[.int .i64 1, .int .i64 x] := Bk.at_ rfl
          have F6y := X6'.y.r.far (Nat.le_refl _)
          have F6z := X6'.z.r.far (Nat.le_refl _)
          clear h6 o6 X6' X
          go_wp2_with fail
          generalize (w12.alloc (.cells #[.int .i64 1, .int .i64 x] 36)) = w12a at *
          generalize w12.heap.size = b6 at *
          refine (do_is _ p2 ⟨2, Q, []⟩ A2 c2 B2 d2 X6.y.r ⟨5, 0, 0, 0⟩ _ _ X6.y.err (s' := ⟨2, L.drop (j + 1), []⟩) (a := (1, y)) X6.y.ok P2.out.1 P2.out.2.1 P2.out.2.2).mono ?_
          rintro e w13 ⟨rfl, A2, c2, B2, d2, h7, o7⟩
          have X7' := X6.doY h7 o7 ok2
          have X7 := X7'.alloc (.cells #[.int .i64 1, .int .i64 y] 36)
          have K7 : Bk (w13.alloc (.cells #[.int .i64 1, .int .i64 y] 36)) w13.heap.size 36 #[.int .i64 1, .int .i64 y] := Bk.at_ rfl
          have F7z := X7'.z.r.far (Nat.le_refl _)
          obtain ⟨_, k6⟩ := o7.far K6.lt F6y
          have K6 := (K6.same k6).alloc (.cells #[.int .i64 1, .int .i64 y] 36)
          clear h7 o7 X7' X6 F6y k6
          go_wp2_with fail
          generalize (w13.alloc (.cells #[.int .i64 1, .int .i64 y] 36)) = w13a at *
          generalize w13.heap.size = b7 at *
          refine (do_is _ p3 ⟨3, [], M⟩ A3 c3 B3 d3 X7.z.r ⟨7, j, 0, 0⟩ _ _ X7.z.err (s' := ⟨3, [], en (j + 1 : Nat) (L.drop (j + 1))⟩) (a := (1, y)) X7.z.ok P3.out.1 P3.out.2.1 P3.out.2.2).mono ?_
          rintro e w14 ⟨rfl, A3, c3, B3, d3, h8, o8⟩
          have X8' := X7.doZ h8 o8 ok3
          have X8 := X8'.alloc (.cells #[.int .i64 1, .int .i64 y] 36)
          have K8 : Bk (w14.alloc (.cells #[.int .i64 1, .int .i64 y] 36)) w14.heap.size 36 #[.int .i64 1, .int .i64 y] := Bk.at_ rfl
          obtain ⟨_, k6⟩ := o8.far K6.lt F6z
          have K6 := (K6.same k6).alloc (.cells #[.int .i64 1, .int .i64 y] 36)
          obtain ⟨_, k7⟩ := o8.far K7.lt F7z
          have K7 := (K7.same k7).alloc (.cells #[.int .i64 1, .int .i64 y] 36)
          clear h8 o8 X8' X7 F6z F7z k6 k7 P1 P2 P3 ok1 ok2 ok3
          have z0 := K6.cell 0; have z1 := K6.cell 1; have z2 := K7.cell 0; have z3 := K7.cell 1; have z4 := K8.cell 0; have z5 := K8.cell 1
          simp at z0 z1 z2 z3 z4 z5
          obtain ⟨lb', lo', hLA', _, qm⟩ := (X8.own.sl).pick hmlt
          cases hLA'
          obtain ⟨lb', lo', hLA', _, qj⟩ := (X8.own.sl).pick hlt
          cases hLA'
          rw [HX.out.1] at qm
          rw [HX.out.2] at qj
          obtain ⟨hw1, hw2⟩ := HW.out
          go_wp2_with fail
          go_quiet (fail)
          clear hw1 hw2
          go_wp2_with fail
          go_roundw
          case rel => exact ⟨j + 1, S.take m, L.drop (j + 1), _, A1, c1, B1, d1, A2, c2, B2, d2, A3, c3, B3, d3, by omega, by go_num, HT.out.1, rfl, rfl, X8.drewN _⟩
          case measure => simp [intOf]; omega
        · have hS : S = [] := by rw [HS.out, show L.length - j = 0 from by omega]; rfl
          have hQ : Q = [] := by rw [HQ.out]; exact List.drop_eq_nil_of_le (by omega)
          have hM : M = [] := by rw [HM.out, hQ]; rfl
          subst hS hQ hM
          clear HS HQ HM
          go_wp2_with fail
          refine (do_is _ p1 ⟨1, [], []⟩ A1 c1 B1 d1 X.x.r ⟨2, 0, 0, 0⟩ _ _ X.x.err (s' := ⟨1, [], []⟩) (a := (2, 0)) X.x.ok (by decide) (by decide) (by decide)).mono ?_
          rintro e w12 ⟨rfl, A1, c1, B1, d1, h6, o6⟩
          have X6' := X.doX h6 o6 X.x.ok
          have X6 := X6'.alloc (.cells #[.int .i64 2, .int .i64 0] 36)
          have K6 : Bk (w12.alloc (.cells #[.int .i64 2, .int .i64 0] 36)) w12.heap.size 36 #[.int .i64 2, .int .i64 0] := Bk.at_ rfl
          have F6y := X6'.y.r.far (Nat.le_refl _)
          clear h6 o6 X6' X
          go_wp2_with fail
          generalize (w12.alloc (.cells #[.int .i64 2, .int .i64 0] 36)) = w12a at *
          generalize w12.heap.size = b6 at *
          refine (do_is _ p2 ⟨2, [], []⟩ A2 c2 B2 d2 X6.y.r ⟨5, 0, 0, 0⟩ _ _ X6.y.err (s' := ⟨2, [], []⟩) (a := (2, 0)) X6.y.ok (by decide) (by decide) (by decide)).mono ?_
          rintro e w13 ⟨rfl, A2, c2, B2, d2, h7, o7⟩
          have X7' := X6.doY h7 o7 X6.y.ok
          have X7 := X7'.alloc (.cells #[.int .i64 2, .int .i64 0] 36)
          have K7 : Bk (w13.alloc (.cells #[.int .i64 2, .int .i64 0] 36)) w13.heap.size 36 #[.int .i64 2, .int .i64 0] := Bk.at_ rfl
          obtain ⟨_, k6⟩ := o7.far K6.lt F6y
          have K6 := (K6.same k6).alloc (.cells #[.int .i64 2, .int .i64 0] 36)
          have z0 := K6.cell 0; have z1 := K6.cell 1; have z2 := K7.cell 0; have z3 := K7.cell 1
          have l6 := K6.lt
          simp at z0 z1 z2 z3 l6
          clear h7 o7 X7' X6 F6y k6
          go_wp2_with fail
          refine (vals_is (l := []) _ p1 ⟨1, [], []⟩ A1 c1 B1 d1 X7.x.r X7.x.ok (by decide)).mono ?_
          rintro e w14 ⟨y1, rfl, oy1, hb14, _⟩
          have X14 := X7.more hb14
          obtain ⟨Y1, yc1, rfl, _, _⟩ := oy1.form
          clear oy1 hb14
          go_wp2_with fail
          refine (vals_is (l := []) _ p2 ⟨2, [], []⟩ A2 c2 B2 d2 X14.y.r X14.y.ok (by decide)).mono ?_
          rintro e w15 ⟨y1, rfl, oy1, hb15, _⟩
          have X15 := X14.more hb15
          obtain ⟨Y2, yc2, rfl, _, _⟩ := oy1.form
          clear oy1 hb15
          go_wp2_with fail
          refine (pairs_any _ p3 ⟨3, [], []⟩ A3 c3 B3 d3 X15.z.r X15.z.ok).mono ?_
          rintro e w16 ⟨y1, rfl, oy1, hb16, _⟩
          have X16 := X15.more hb16
          obtain ⟨Y3, yc3, rfl, _, _⟩ := oy1.form
          clear oy1 hb16
          go_wp2_with fail
          go_ret
          exact ⟨rfl, X16.x.below⟩
end Go.Proofs.YtlfbgpncdahglaaDoor
