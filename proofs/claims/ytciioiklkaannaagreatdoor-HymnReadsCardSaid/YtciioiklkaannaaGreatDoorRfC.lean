/- The reference's text of a script. -/
import Derived.Test.YtciioiklkaannaaGreatDoorRfB
import Derived.Test.YtciioiklkaannaaGreatDoorParseF
namespace Go.Proofs.YtciioiklkaannaaGreatDoor
open Go Go.RowKit
set_option linter.unusedSimpArgs false
set_option linter.unusedVariables false
set_option linter.unusedSectionVars false

/-- The text behind i picks. -/
def PK (x : PScr) (i : Nat) : List UInt8 := if i % 16 = 0 ∨ i = x.picks.length then picksK x (List.range ((i + 15) / 16)) else rowK x (List.range (i / 16)) (i / 16) (i % 16)
theorem pk_start (x : PScr) : PK x 0 = opsK x x.ops.length := by simp [PK, picksK]
theorem pk_fin (x : PScr) : PK x x.picks.length = textL x := by rw [text_picks]; simp [PK]
theorem pk_new (x : PScr) (i : Nat) (h : i % 16 = 0) : PK x i ++ [112, 105, 99, 107] = rowK x (List.range (i / 16)) (i / 16) (i % 16) := by
  have e : (i + 15) / 16 = i / 16 := by omega
  rw [h, row_start, PK, if_pos (Or.inl h), e]
theorem pk_old (x : PScr) (i : Nat) (h : i % 16 ≠ 0) (hi : i < x.picks.length) : PK x i = rowK x (List.range (i / 16)) (i / 16) (i % 16) := by
  rw [PK, if_neg (by omega)]
theorem cAt_length (l : List Int) (k : Nat) : (cAt l k).length = min 16 (l.length - 16 * k) := by simp [cAt]
theorem pk_pick (x : PScr) (i : Nat) (hi : i < x.picks.length) : rowK x (List.range (i / 16)) (i / 16) (i % 16 + 1) = rowK x (List.range (i / 16)) (i / 16) (i % 16) ++ ([32] ++ Lib.decDigits (x.picks[i]).toNat) := by
  have h := cAt_length x.picks (i / 16)
  have hj : i % 16 < (cAt x.picks (i / 16)).length := by omega
  rw [row_step x _ _ _ hj]
  have e : (cAt x.picks (i / 16))[i % 16] = x.picks[i] := by
    simp only [cAt, List.getElem_take, List.getElem_drop]
    congr 1
    omega
  rw [e]
theorem pk_end (x : PScr) (i : Nat) (hi : i < x.picks.length) (h : i % 16 = 15 ∨ i = x.picks.length - 1) : rowK x (List.range (i / 16)) (i / 16) (i % 16 + 1) ++ [10] = PK x (i + 1) := by
  have hc := cAt_length x.picks (i / 16)
  have e : i % 16 + 1 = (cAt x.picks (i / 16)).length := by omega
  have e2 : (i + 1 + 15) / 16 = i / 16 + 1 := by omega
  rw [e, row_fin, PK, if_pos (by omega), e2, List.range_succ]
theorem pk_on (x : PScr) (i : Nat) (h : i % 16 ≠ 15) (h' : i ≠ x.picks.length - 1) (hi : i < x.picks.length) : rowK x (List.range (i / 16)) (i / 16) (i % 16 + 1) = PK x (i + 1) := by
  have e1 : (i + 1) / 16 = i / 16 := by omega
  have e2 : (i + 1) % 16 = i % 16 + 1 := by omega
  rw [PK, if_neg (by omega), e1, e2]
theorem pk_len (x : PScr) (hx : Canon x) (hn : x.ops.length ≤ 64) (i : Nat) : (PK x i).length ≤ 4200 + 200 * ((i + 15) / 16) := by
  unfold PK
  split
  · have := picks_len x hx hn (List.range ((i + 15) / 16))
    rw [List.length_range] at this; omega
  · have := row_len x hx hn (List.range (i / 16)) (i / 16) (i % 16)
    rw [List.length_range] at this; omega

theorem below_refl_alloc {B : Nat} {w : World} (h : B ≤ w.heap.size) (o : Obj) : Below B w (w.alloc o) := (Below.refl B w).alloc h o
/-- A script and its configuration, boxed. -/
structure RP (w : World) (x : PScr) (A : Option Addr) (k : Nat) (A' : Option Addr) (k' : Nat) (wr : World) : Prop where
  bx : Bk wr w.heap.size 27 #[.int .i64 x.st, .int .i64 x.en, .int .i64 x.th, .int .i64 x.sl, .int .i64 x.no, .slice A x.ops.length k, .slice A' x.picks.length k']
  bc : Bk wr (w.heap.size + 1) 23 #[.int .i64 x.st, .int .i64 x.en, .int .i64 x.th, .int .i64 x.sl, .int .i64 x.no]
  so : Sl wr wr.heap.size 5 A x.ops.length (tcells x.ops)
  sp : Sl wr wr.heap.size 1 A' x.picks.length (icells x.picks)
  below : Below w.heap.size w wr
theorem RP.more {w : World} {x : PScr} {A : Option Addr} {k : Nat} {A' : Option Addr} {k' : Nat} {wr w1 : World} (h : RP w x A k A' k' wr) (hb : Below wr.heap.size wr w1) : RP w x A k A' k' w1 :=
  ⟨h.bx.belowAll hb, h.bc.belowAll hb, (h.so.below hb).more hb.size, (h.sp.below hb).more hb.size, h.below.trans (hb.mono h.below.size)⟩

set_option maxRecDepth 100000 in
set_option maxHeartbeats 6400000 in
theorem refPrint_any (x : PScr) (A A' : Option Addr) (k k' : Nat) (w : World) (S : SA w x A k A' k') (hg : goodB x = true) :
    Calls Tryz.prog 9 #[x.v A k A' k'] w fun e w' => e = .returned (.string (bs (textL x))) ∧ Below w.heap.size w w' := by
  have HC := Lib.hid (canon_of_good hg)
  have hlen : x.ops.length ≤ 64 ∧ x.picks.length ≤ 4096 := by
    simp only [goodB, Bool.and_eq_true, decide_eq_true_eq] at hg
    exact ⟨hg.1.1.1.2, hg.1.1.2⟩
  obtain ⟨lo, lp⟩ := hlen
  have HT := Lib.hid (pk_fin x)
  clear hg
  have X0 : Bk (w.alloc (.cells #[.int .i64 x.st, .int .i64 x.en, .int .i64 x.th, .int .i64 x.sl, .int .i64 x.no, .slice A x.ops.length k, .slice A' x.picks.length k'] 27)) w.heap.size 27 #[.int .i64 x.st, .int .i64 x.en, .int .i64 x.th, .int .i64 x.sl, .int .i64 x.no, .slice A x.ops.length k, .slice A' x.picks.length k'] := Bk.at_ rfl
  have hb0 : Below w.heap.size w (w.alloc (.cells #[.int .i64 x.st, .int .i64 x.en, .int .i64 x.th, .int .i64 x.sl, .int .i64 x.no, .slice A x.ops.length k, .slice A' x.picks.length k'] 27)) := (Below.refl _ _).alloc (Nat.le_refl _) _
  have S0 := S.more hb0
  have hz0 : (w.alloc (.cells #[.int .i64 x.st, .int .i64 x.en, .int .i64 x.th, .int .i64 x.sl, .int .i64 x.no, .slice A x.ops.length k, .slice A' x.picks.length k'] 27)).heap.size = w.heap.size + 1 := by simp
  simp only [PScr.v]
  go_enter Tryz.func9, Tryz.ntmps9
  have x0 := X0.cell 0; have x1 := X0.cell 1; have x2 := X0.cell 2; have x3 := X0.cell 3; have x4 := X0.cell 4
  simp only [List.getElem?_toArray, List.getElem?_cons_zero, List.getElem?_cons_succ] at x0 x1 x2 x3 x4
  have C0 : Bk ((w.alloc (.cells #[.int .i64 x.st, .int .i64 x.en, .int .i64 x.th, .int .i64 x.sl, .int .i64 x.no, .slice A x.ops.length k, .slice A' x.picks.length k'] 27)).alloc (.cells #[.int .i64 0, .int .i64 0, .int .i64 0, .int .i64 0, .int .i64 0] 23)) (w.heap.size + 1) 23 #[.int .i64 0, .int .i64 0, .int .i64 0, .int .i64 0, .int .i64 0] := Bk.at_ hz0.symm
  go_wp2_with (refine wpList_store_bk (by rfl) _ _ _ (by rfl) (w.heap.size + 1) _ (by rfl) (by rfl) _ _ C0 (by rfl) (by kernel_rfl) (by rfl) ?_; intro w1 hst)
  have hb1 : Below (w.heap.size + 1) (w.alloc (.cells #[.int .i64 x.st, .int .i64 x.en, .int .i64 x.th, .int .i64 x.sl, .int .i64 x.no, .slice A x.ops.length k, .slice A' x.picks.length k'] 27)) w1 := hst.below (below_refl_alloc (Nat.le_of_eq hz0.symm) _) (Nat.le_refl _)
  have S1 := S0.more (hz0.symm ▸ hb1)
  have R1 : RP w x A k A' k' w1 := ⟨X0.belowAll (hz0.symm ▸ hb1), hst.bk, S1.so, S1.sp, hb0.trans (hb1.mono (by omega))⟩
  clear C0 x0 x1 x2 x3 x4 hst hb1 S1 S0 hz0 X0 hb0
  have lst := stWord_len HC.out.st.1 HC.out.st.2
  have len' := enWord_len HC.out.en.1 HC.out.en.2
  have sS : (bs (stWord x.st)).size ≤ 7 := by rw [bs_size]; omega
  have sE : (bs (enWord x.en)).size ≤ 8 := by rw [bs_size]; omega
  obtain ⟨d1, hd1, l1⟩ := dec_size x.th HC.out.th.1 HC.out.th.2
  obtain ⟨d2, hd2, l2⟩ := dec_size x.sl HC.out.sl.1 HC.out.sl.2
  obtain ⟨d3, hd3, l3⟩ := dec_size x.no HC.out.no.1 HC.out.no.2
  have HS1 := Lib.hid (structure_any x.st HC.out.st.1 HC.out.st.2)
  have HS2 := Lib.hid (engine_any x.en HC.out.en.1 HC.out.en.2)
  have HD1 := Lib.hid (fun w0 => digs_is x.th HC.out.th.1 HC.out.th.2 w0 d1 hd1)
  have HD2 := Lib.hid (fun w0 => digs_is x.sl HC.out.sl.1 HC.out.sl.2 w0 d2 hd2)
  have HD3 := Lib.hid (fun w0 => digs_is x.no HC.out.no.1 HC.out.no.2 w0 d3 hd3)
  obtain ⟨sw, hsw⟩ : ∃ sw, bs (stWord x.st) = sw := ⟨_, rfl⟩
  obtain ⟨ew, hew⟩ : ∃ ew, bs (enWord x.en) = ew := ⟨_, rfl⟩
  rw [hsw] at sS HS1
  rw [hew] at sE HS2
  have HE : Hid ((⟨#[121, 97, 114, 100, 32]⟩ : ByteArray) ++ sw ++ ⟨#[32]⟩ ++ ew ++ ⟨#[32]⟩ ++ d1 ++ ⟨#[32]⟩ ++ d2 ++ ⟨#[32]⟩ ++ d3 ++ ⟨#[10]⟩ = bs (opsK x 0)) := by
    show _ = _
    rw [← hsw, ← hew, ← hd1.out, ← hd2.out, ← hd3.out, ← head_fin]
    rw [show (⟨#[121, 97, 114, 100, 32]⟩ : ByteArray) = bs [121, 97, 114, 100, 32] from rfl, show (⟨#[32]⟩ : ByteArray) = bs [32] from rfl, show (⟨#[10]⟩ : ByteArray) = bs [10] from rfl]
    simp only [bs_append]
    congr 1
    simp [headK, headW, jn, yard]
  clear hsw hew lst len'
  have y1 : ¬ (9223372036854775807 < 5 + sw.size) := by omega
  have y2 : ¬ (9223372036854775807 < 5 + sw.size + 1) := by omega
  have y3 : ¬ (9223372036854775807 < 5 + sw.size + 1 + ew.size) := by omega
  have y4 : ¬ (9223372036854775807 < 5 + sw.size + 1 + ew.size + 1) := by omega
  have y5 : ¬ (9223372036854775807 < 5 + sw.size + 1 + ew.size + 1 + d1.size) := by omega
  have y6 : ¬ (9223372036854775807 < 5 + sw.size + 1 + ew.size + 1 + d1.size + 1) := by omega
  have y7 : ¬ (9223372036854775807 < 5 + sw.size + 1 + ew.size + 1 + d1.size + 1 + d2.size) := by omega
  have y8 : ¬ (9223372036854775807 < 5 + sw.size + 1 + ew.size + 1 + d1.size + 1 + d2.size + 1) := by omega
  have y9 : ¬ (9223372036854775807 < 5 + sw.size + 1 + ew.size + 1 + d1.size + 1 + d2.size + 1 + d3.size) := by omega
  have y10 : ¬ (9223372036854775807 < 5 + sw.size + 1 + ew.size + 1 + d1.size + 1 + d2.size + 1 + d3.size + 1) := by omega
  (try simp only [Act.put, List.setIfInBounds_toArray, List.set_cons_succ, List.set_cons_zero])
  (refine wp_region_class ((fun w' : World => RP w x A k A' k' w')) (by kernel_rfl) (by kernel_rfl) ((R1.more (Below.refl _ _).drew)) ?_; (repeat (first | go_big_quiet_skip | (go_big_quiet_want; first | (go_big_quiet_op; go_big_quiet_on) | (apply Exists.intro; refine ⟨fun w' hC => ?_, ?_⟩; (· ((have q0 := hC.bc.cell 0; have q1 := hC.bc.cell 1; have q2 := hC.bc.cell 2; have q3 := hC.bc.cell 3; have q4 := hC.bc.cell 4; simp only [List.getElem?_toArray, List.getElem?_cons_zero, List.getElem?_cons_succ] at q0 q1 q2 q3 q4); go_simp; first | done | rfl | exact ⟨rfl, rfl⟩ | ((first | (go_at_call 27; (with_reducible refine (HS1.out _).mono ?_); rintro e w'' ⟨rfl, rfl⟩; exact ⟨rfl, hC⟩) | (go_at_call 28; (with_reducible refine (HS2.out _).mono ?_); rintro e w'' ⟨rfl, rfl⟩; exact ⟨rfl, hC⟩) | (go_at_call 29; first | ((with_reducible refine (HD1.out _).mono ?_); rintro e w'' ⟨rfl, hb⟩; exact ⟨rfl, hC.more hb⟩) | ((with_reducible refine (HD2.out _).mono ?_); rintro e w'' ⟨rfl, hb⟩; exact ⟨rfl, hC.more hb⟩) | ((with_reducible refine (HD3.out _).mono ?_); rintro e w'' ⟨rfl, hb⟩; exact ⟨rfl, hC.more hb⟩)))))); go_big_quiet_on; simp only [Act.put, List.setIfInBounds_toArray, List.set_cons_succ, List.set_cons_zero])))); refine wpQuiet_nil ?_; intro w' hC)
  (try dsimp only)
  rw [HE.out]
  have hC' := Lib.hid hC
  clear hC R1 HE HS1 HS2 HD1 HD2 HD3 y1 y2 y3 y4 y5 y6 y7 y8 y9 y10
  go_wp2_with fail
  go_loopw [4, 5] (fun t4 t5 wr => ∃ i : Nat, t5 = .int .i64 i ∧ t4 = .string (bs (opsK x i)) ∧ i ≤ x.ops.length ∧ RP w x A k A' k' wr) (fun _ t5 _ => x.ops.length - (intOf t5).toNat)
  case atStart => exact ⟨0, rfl, rfl, Nat.zero_le _, hC'.out⟩
  case round =>
    obtain ⟨i, rfl, rfl, hi, R'⟩ := hrel
    have R := Lib.hid R'; clear R' hC'
    have x5 := R.out.bx.cell 5; have x6 := R.out.bx.cell 6
    simp only [List.getElem?_toArray, List.getElem?_cons_zero, List.getElem?_cons_succ] at x5 x6
    by_cases hlt : i < x.ops.length
    · obtain ⟨ob, off, rfl, _⟩ := R.out.so.task hlt
      obtain ⟨t1, t2, t3⟩ := HC.out.ops _ (List.getElem_mem hlt)
      have hl0 := ops_len x HC.out i hi
      have hl1 := lineL_len t3
      obtain ⟨d, hd, ld⟩ := dec_size _ t1 t2
      obtain ⟨L, hL⟩ : ∃ L, bs (lineL x.st x.ops[i].op) = L := ⟨_, rfl⟩
      have sL : L.size ≤ 40 := by rw [← hL, bs_size]; exact hl1
      obtain ⟨O, hO⟩ : ∃ O, bs (opsK x i) = O := ⟨_, rfl⟩
      have sO : O.size ≤ 5000 := by rw [← hO, bs_size]; omega
      have HE : Hid (O ++ (⟨#[100, 111, 32]⟩ : ByteArray) ++ d ++ ⟨#[32]⟩ ++ L ++ ⟨#[10]⟩ = bs (opsK x (i + 1))) := by
        show _ = _
        rw [← hO, ← hd.out, ← hL, ops_step x i hlt]
        rw [show (⟨#[100, 111, 32]⟩ : ByteArray) = bs [100, 111, 32] from rfl, show (⟨#[32]⟩ : ByteArray) = bs [32] from rfl, show (⟨#[10]⟩ : ByteArray) = bs [10] from rfl]
        simp only [bs_append]
        congr 1
        simp
      have HLn := Lib.hid (fun w0 => refLine_any x.st x.ops[i].op t3 w0 L hL)
      have HDg := Lib.hid (fun w0 => digs_is x.ops[i].thread t1 t2 w0 d hd)
      simp only [POp.v] at HLn
      rw [hO]
      clear hO hL hl0 hl1 t3
      have i1 : (0 : Int) ≤ (i : Int) := by omega
      have i2 : (i : Int) < (x.ops.length : Int) := by omega
      have y1 : ¬ (9223372036854775807 < O.size + 3) := by omega
      have y2 : ¬ (9223372036854775807 < O.size + 3 + d.size) := by omega
      have y3 : ¬ (9223372036854775807 < O.size + 3 + d.size + 1) := by omega
      have y4 : ¬ (9223372036854775807 < O.size + 3 + d.size + 1 + L.size) := by omega
      have y5 : ¬ (9223372036854775807 < O.size + 3 + d.size + 1 + L.size + 1) := by omega
      go_wp2_with fail
      (refine wp_region_class ((fun w' : World => RP w x (some ⟨ob, off, none⟩) k A' k' w')) (by kernel_rfl) (by kernel_rfl) ((R.out.more (Below.refl _ _).drew)) ?_; (repeat (first | go_big_quiet_skip | (go_big_quiet_want; first | (go_big_quiet_op; go_big_quiet_on) | (apply Exists.intro; refine ⟨fun w' hC => ?_, ?_⟩; (· ((have q0 := hC.bc.cell 0; have x5 := hC.bx.cell 5; simp only [List.getElem?_toArray, List.getElem?_cons_zero, List.getElem?_cons_succ] at q0 x5; obtain ⟨_, _, he, _, c0, c1, c2, c3, c4⟩ := hC.so.task hlt; cases he); go_simp; first | done | rfl | exact ⟨rfl, rfl⟩ | ((first | (go_at_call 12; (with_reducible refine (HLn.out _).mono ?_); rintro e w'' ⟨rfl, hb⟩; exact ⟨rfl, hC.more hb⟩) | (go_at_call 29; (with_reducible refine (HDg.out _).mono ?_); rintro e w'' ⟨rfl, hb⟩; exact ⟨rfl, hC.more hb⟩))))); go_big_quiet_on; simp only [Act.put, List.setIfInBounds_toArray, List.set_cons_succ, List.set_cons_zero])))); refine wpQuiet_nil ?_; intro w' hC)
      (try dsimp only)
      rw [HE.out]
      have hC' := Lib.hid hC
      clear hC R HE HLn HDg y1 y2 y3 y4 y5
      go_wp2_with fail
      go_roundw
      case rel => exact ⟨i + 1, by go_num, rfl, hlt, hC'.out⟩
      case measure => simp [intOf]; omega
    · obtain rfl : i = x.ops.length := by omega
      go_wp2_with fail
      rw [← pk_start]
      clear x5 x6
      go_loopw [4, 6] (fun t4 t6 wr => ∃ i : Nat, t6 = .int .i64 i ∧ t4 = .string (bs (PK x i)) ∧ i ≤ x.picks.length ∧ RP w x A k A' k' wr) (fun _ t6 _ => x.picks.length - (intOf t6).toNat)
      case atStart => exact ⟨0, rfl, rfl, Nat.zero_le _, R.out⟩
      case round =>
        obtain ⟨i, rfl, rfl, hi, R'⟩ := hrel
        have R := Lib.hid R'; clear R'
        have x6 := R.out.bx.cell 6
        simp only [List.getElem?_toArray, List.getElem?_cons_zero, List.getElem?_cons_succ] at x6
        by_cases hlt : i < x.picks.length
        · obtain ⟨ob, off, rfl, _, c0⟩ := R.out.sp.pick hlt
          obtain ⟨v0, v1⟩ := HC.out.picks _ (List.getElem_mem hlt)
          obtain ⟨d, hd, ld⟩ := dec_size _ v0 v1
          have hp0 := pk_len x HC.out lo i
          have hr0 := row_len x HC.out lo (List.range (i / 16)) (i / 16) (i % 16)
          rw [List.length_range] at hr0
          have HP := Lib.hid (pk_pick x i hlt)
          have i1 : (0 : Int) ≤ (i : Int) := by omega
          have i2 : (i : Int) < (x.picks.length : Int) := by omega
          have tm : (i : Int).tmod 16 = (i : Int) % 16 := Int.tmod_eq_emod_of_nonneg i1
          obtain ⟨R1, hR1⟩ : ∃ R1, bs (rowK x (List.range (i / 16)) (i / 16) (i % 16)) = R1 := ⟨_, rfl⟩
          obtain ⟨R2, hR2⟩ : ∃ R2, bs (rowK x (List.range (i / 16)) (i / 16) (i % 16 + 1)) = R2 := ⟨_, rfl⟩
          have s1 : R1.size ≤ 100000 := by rw [← hR1, bs_size]; omega
          have HE : Hid (R1 ++ (⟨#[32]⟩ : ByteArray) ++ d = R2) := by
            show _ = _
            rw [← hR1, ← hR2, HP.out, ← hd.out, show (⟨#[32]⟩ : ByteArray) = bs [32] from rfl]
            simp only [bs_append]
            congr 1
            simp
          have s2 : R2.size ≤ 100011 := by rw [← HE.out]; simp [ByteArray.size_append]; have : (⟨#[32]⟩ : ByteArray).size = 1 := rfl; omega
          have y1 : ¬ (9223372036854775807 < R1.size + 1) := by omega
          have y2 : ¬ (9223372036854775807 < R1.size + 1 + d.size) := by omega
          have y3 : ¬ (9223372036854775807 < R1.size + 1 + d.size + 1) := by omega
          have HR2 := Lib.hid hR2
          have hlast : Hid (i % 16 = 15 ∨ i = x.picks.length - 1 → R2 ++ (⟨#[10]⟩ : ByteArray) = bs (PK x (i + 1))) := fun h => by
            rw [← pk_end x i hlt h, ← bs_append, HR2.out]; rfl
          have hon : Hid (i % 16 ≠ 15 → i ≠ x.picks.length - 1 → R2 = bs (PK x (i + 1))) := fun h h' => by
            rw [← pk_on x i h h' hlt, HR2.out]
          have hcase : (((i : Int) % 16 == 15) = true ∧ Hid (i % 16 = 15)) ∨ (((i : Int) % 16 == 15) = false ∧ ((i : Int) == (x.picks.length : Int) - 1) = true ∧ Hid (i = x.picks.length - 1)) ∨ (((i : Int) % 16 == 15) = false ∧ ((i : Int) == (x.picks.length : Int) - 1) = false ∧ Hid (i % 16 ≠ 15 ∧ i ≠ x.picks.length - 1)) := by
            by_cases g1 : i % 16 = 15
            · exact Or.inl ⟨by simp; omega, g1⟩
            · by_cases g2 : i = x.picks.length - 1
              · exact Or.inr (Or.inl ⟨by simp; omega, by simp; omega, g2⟩)
              · exact Or.inr (Or.inr ⟨by simp; omega, by simp; omega, g1, g2⟩)
          by_cases h0 : i % 16 = 0
          · have m0 : (i : Int) % 16 = 0 := by omega
            obtain ⟨O, hO⟩ : ∃ O, bs (PK x i) = O := ⟨_, rfl⟩
            have sO : O.size ≤ 100000 := by rw [← hO, bs_size]; omega
            have HO : Hid (O ++ (⟨#[112, 105, 99, 107]⟩ : ByteArray) = R1) := by
              show _ = _
              rw [← hO, ← hR1, ← pk_new x i h0, ← bs_append]; rfl
            rw [hO]
            have y0 : ¬ (9223372036854775807 < O.size + 4) := by omega
            clear hp0 hr0 hR1 hR2 hO
            go_wp2_with fail
            rw [HO.out]
            (refine (digs_is x.picks[i] v0 v1 _ d hd).mono ?_; rintro e w2 ⟨rfl, hb2⟩; have R2 := Lib.hid (R.out.more hb2); have x6 := R2.out.bx.cell 6; simp only [List.getElem?_toArray, List.getElem?_cons_zero, List.getElem?_cons_succ] at x6; clear R hb2)
            (rcases hcase with ⟨f1, g1⟩ | ⟨f1, f2, g2⟩ | ⟨f1, f2, g⟩; (· go_wp2_with fail; (try (go_roundw; (case rel => exact ⟨i + 1, by go_num, by rw [HE.out, hlast.out (Or.inl g1.out)], hlt, R2.out⟩); (case measure => simp [intOf]; omega)))); (· go_wp2_with fail; go_roundw; (case rel => exact ⟨i + 1, by go_num, by rw [HE.out, hlast.out (Or.inr g2.out)], hlt, R2.out⟩); (case measure => simp [intOf]; omega)); (· go_wp2_with fail; go_roundw; (case rel => exact ⟨i + 1, by go_num, by rw [HE.out, hon.out g.out.1 g.out.2], hlt, R2.out⟩); (case measure => simp [intOf]; omega)))
          · have m0 : ¬ ((i : Int) % 16 = 0) := by omega
            have hO : bs (PK x i) = R1 := by rw [pk_old x i h0 hlt, hR1]
            rw [hO]
            clear hp0 hr0 hR1 hR2 hO
            go_wp2_with fail
            (refine (digs_is x.picks[i] v0 v1 _ d hd).mono ?_; rintro e w2 ⟨rfl, hb2⟩; have R2 := Lib.hid (R.out.more hb2); have x6 := R2.out.bx.cell 6; simp only [List.getElem?_toArray, List.getElem?_cons_zero, List.getElem?_cons_succ] at x6; clear R hb2)
            (rcases hcase with ⟨f1, g1⟩ | ⟨f1, f2, g2⟩ | ⟨f1, f2, g⟩; (· go_wp2_with fail; (try (go_roundw; (case rel => exact ⟨i + 1, by go_num, by rw [HE.out, hlast.out (Or.inl g1.out)], hlt, R2.out⟩); (case measure => simp [intOf]; omega)))); (· go_wp2_with fail; go_roundw; (case rel => exact ⟨i + 1, by go_num, by rw [HE.out, hlast.out (Or.inr g2.out)], hlt, R2.out⟩); (case measure => simp [intOf]; omega)); (· go_wp2_with fail; go_roundw; (case rel => exact ⟨i + 1, by go_num, by rw [HE.out, hon.out g.out.1 g.out.2], hlt, R2.out⟩); (case measure => simp [intOf]; omega)))
        · obtain rfl : i = x.picks.length := by omega
          go_wp2_with fail
          go_ret
          exact ⟨by rw [HT.out]; rfl, R.out.below⟩
end Go.Proofs.YtciioiklkaannaaGreatDoor
