/- CreedKeys, walked: unlike keys know nothing of each other. -/
import Derived.Test.YtlfbgpncdahglaaDoorStep
namespace Go.Proofs.YtlfbgpncdahglaaDoor
open Go Go.RowKit
set_option linter.unusedSimpArgs false
set_option linter.unusedVariables false
set_option linter.unusedSectionVars false

set_option maxRecDepth 100000 in
set_option maxHeartbeats 3200000 in
theorem creedKeys_any (st : Int) (ops : List POp) (A : Option Addr) (c : Nat) (o1 o2 : POp) (w : World) (a : Addr) (hE : w.cell? ⟨0, 0, none⟩ = some (.iface 156 (.pointer (some a))))
    (so : Sl w w.heap.size 4 A ops.length (ocells ops)) (hl : ops.length ≤ 40) :
    Calls Tryd.prog 6 #[.int .i64 st, .slice A ops.length c, .agg #[.int .i64 o1.kind, .int .i64 o1.key, .int .i64 o1.val, .int .i64 o1.tall, .int .i64 o2.kind, .int .i64 o2.key, .int .i64 o2.val, .int .i64 o2.tall]] w (RetB true w) := by
  have g1 : decide ((40 : Int) < (ops.length : Int)) = false := by simp; omega
  obtain ⟨s0, hs0, hs1, hs5⟩ := stOf3_in st
  have hE0 := cell_alloc hE (.cells #[.int .i64 o1.kind, .int .i64 o1.key, .int .i64 o1.val, .int .i64 o1.tall, .int .i64 o2.kind, .int .i64 o2.key, .int .i64 o2.val, .int .i64 o2.tall] 60)
  have so0 := so.alloc (.cells #[.int .i64 o1.kind, .int .i64 o1.key, .int .i64 o1.val, .int .i64 o1.tall, .int .i64 o2.kind, .int .i64 o2.key, .int .i64 o2.val, .int .i64 o2.tall] 60)
  have KA0 : Bk (w.alloc (.cells #[.int .i64 o1.kind, .int .i64 o1.key, .int .i64 o1.val, .int .i64 o1.tall, .int .i64 o2.kind, .int .i64 o2.key, .int .i64 o2.val, .int .i64 o2.tall] 60)) w.heap.size 60 #[.int .i64 o1.kind, .int .i64 o1.key, .int .i64 o1.val, .int .i64 o1.tall, .int .i64 o2.kind, .int .i64 o2.key, .int .i64 o2.val, .int .i64 o2.tall] := Bk.at_ rfl
  have hlt0 := World.block_lt_of_cell? _ _ hE0
  have hw0 : Below w.heap.size w (w.alloc (.cells #[.int .i64 o1.kind, .int .i64 o1.key, .int .i64 o1.val, .int .i64 o1.tall, .int .i64 o2.kind, .int .i64 o2.key, .int .i64 o2.val, .int .i64 o2.tall] 60)) := (Below.refl _ _).alloc (Nat.le_refl _) _
  have hws := hw0.size
  go_enter Tryd.func6, Tryd.ntmps6
  go_wp2_with fail
  generalize (w.alloc (.cells #[.int .i64 o1.kind, .int .i64 o1.key, .int .i64 o1.val, .int .i64 o1.tall, .int .i64 o2.kind, .int .i64 o2.key, .int .i64 o2.val, .int .i64 o2.tall] 60)) = w0 at *
  generalize hwa : w.heap.size = wa at *
  refine (awake_any _ a hE0).mono ?_
  rintro e w1 ⟨rfl, hb1⟩
  go_wp2_with fail
  rw [hs0]
  refine (new_any s0 _ (by omega) hs5).mono ?_
  rintro e w2 ⟨g, A1, c1, A1', c1', rfl, hn⟩
  have L0 := LW.new hb1 (cell_below hE0 hb1) hlt0 hn (pok_vals s0 [] ⟨by omega, hs5⟩ (by decide))
  clear hn hs0 hE hE0 hb1
  go_wp2_with fail
  go_loopw [9] (fun i wr => ∃ (k : Nat) (s : PC) (A : Option Addr) (c : Nat) (A' : Option Addr) (c' : Nat), k ≤ ops.length ∧ i = .int .i64 k ∧ LW w0 wr 156 (.pointer (some a)) g s A c A' c' ∧ s.size ≤ k ∧ 3 ≤ s.st) (fun i _ => ops.length - (intOf i).toNat)
  case atStart => exact ⟨0, _, A1, c1, A1', c1', Nat.zero_le _, rfl, L0, by simp [PC.size], hs1⟩
  case round =>
    clear L0
    obtain ⟨k, s, A1, c1, A1', c1', hk, rfl, L, hsz, hst⟩ := hrel
    by_cases hlt : k < ops.length
    · obtain ⟨ob, off, rfl, hob, q0, q1, q2, q3⟩ := (so0.below L.below).op hlt
      go_wp2_with fail
      refine (do_step _ g s A1 c1 A1' c1' L.r ops[k] _ _ L.err L.ok).mono ?_
      rintro e w3 ⟨rfl, A2, c2, A2', c2', h3, o3⟩
      have L3 := L.done h3 o3 (step_ok _ L.ok (by omega))
      have z3 := step_size s ops[k]
      have t3 := step_st s ops[k]
      go_wp2_with fail
      go_roundw
      case rel => exact ⟨k + 1, _, _, _, _, _, by omega, by go_num, L3, by omega, by omega⟩
      case measure => simp [intOf]; omega
    · have K1 := KA0.below L.below KA0.lt
      have x0 := K1.cell 0; have x1 := K1.cell 1; have x2 := K1.cell 2; have x3 := K1.cell 3; have x4 := K1.cell 4; have x5 := K1.cell 5; have x6 := K1.cell 6; have x7 := K1.cell 7
      simp at x0 x1 x2 x3 x4 x5 x6 x7
      by_cases hke : o1.key = o2.key
      · have hb : (o1.key == o2.key) = true := by simp [hke]
        clear hke
        go_wp2_with fail
        go_ret
        exact ⟨rfl, by rw [hwa]; exact hw0.trans (L.below.mono hws)⟩
      · have hb : (o1.key == o2.key) = false := by simp [hke]
        obtain ⟨r1, r2, r3⟩ := keys_commute L.ok hst (by omega) o1 o2 hke
        have HR := Lib.hid (And.intro r1 (And.intro r2 r3)); clear r1 r2 r3 hke
        have t1 := step_ok o1 L.ok (by omega); have t2 := step_ok o2 L.ok (by omega)
        have t3 := step_size s o1; have t4 := step_size s o2
        have t5 := step_ok o2 t1 (by omega); have t6 := step_ok o1 t2 (by omega)
        have e1 := step_st s o1; have e2 := step_st s o2
        go_wp2_with fail
        refine (clone_any _ g s A1 c1 A1' c1' L.r L.ok).mono ?_
        rintro e w3 ⟨d, B1, d1, B1', d1', rfl, hn⟩
        have D3 := LW.new L.below L.err L.lt hn L.ok
        have ap3 := hn.apart L.r
        have C3 := L.more hn.2.1
        clear hn L K1 x0 x1 x2 x3 x4 x5 x6 x7
        (have K1 := KA0.below C3.below KA0.lt; have x0 := K1.cell 0; have x1 := K1.cell 1; have x2 := K1.cell 2; have x3 := K1.cell 3; have x4 := K1.cell 4; have x5 := K1.cell 5; have x6 := K1.cell 6; have x7 := K1.cell 7; simp at x0 x1 x2 x3 x4 x5 x6 x7; clear K1)
        go_wp2_with fail
        refine (do_step _ g s A1 c1 A1' c1' C3.r o1 _ _ C3.err C3.ok).mono ?_
        rintro e w4 ⟨rfl, A2, c2, A2', c2', h4, o4⟩
        have C4' := C3.done h4 o4 t1
        obtain ⟨D4', ap4⟩ := C3.keep D3 ap3 o4
        clear x0 x1 x2 x3 x4 x5 x6 x7 h4 o4 C3 D3 ap3
        obtain ⟨y1, hy1⟩ : ∃ y, outOf s o1 = y := ⟨_, rfl⟩
        obtain ⟨v1, hv1⟩ : ∃ v, errOf s o1 156 (.pointer (some a)) = v := ⟨_, rfl⟩
        rw [hy1, hv1]
        have HY1 := Lib.hid (And.intro hy1 hv1); clear hy1 hv1
        have C4 := C4'.alloc (.cells #[.int .i64 y1.1, .int .i64 y1.2] 36)
        have D4 := D4'.alloc (.cells #[.int .i64 y1.1, .int .i64 y1.2] 36)
        have W1 : Bk (w4.alloc (.cells #[.int .i64 y1.1, .int .i64 y1.2] 36)) w4.heap.size 36 #[.int .i64 y1.1, .int .i64 y1.2] := Bk.at_ rfl
        have F1 := C4'.r.far (Nat.le_refl _)
        have G1 := D4'.r.far (Nat.le_refl _)
        clear C4' D4'
        (have K1 := KA0.below C4.below KA0.lt; have x0 := K1.cell 0; have x1 := K1.cell 1; have x2 := K1.cell 2; have x3 := K1.cell 3; have x4 := K1.cell 4; have x5 := K1.cell 5; have x6 := K1.cell 6; have x7 := K1.cell 7; simp at x0 x1 x2 x3 x4 x5 x6 x7; clear K1)
        go_wp2_with fail
        generalize (w4.alloc (.cells #[.int .i64 y1.1, .int .i64 y1.2] 36)) = w4a at *
        generalize w4.heap.size = b1 at *
        refine (do_step _ g (stepOf s o1) A2 c2 A2' c2' C4.r o2 _ _ C4.err C4.ok).mono ?_
        rintro e w5 ⟨rfl, A3, c3, A3', c3', h5, o5⟩
        have C5' := C4.done h5 o5 t5
        obtain ⟨D5', ap5⟩ := C4.keep D4 ap4 o5
        obtain ⟨F1, k1⟩ := o5.far W1.lt F1
        have W1 := W1.same k1
        clear k1
        clear h5 o5 C4 D4 ap4
        clear x0 x1 x2 x3 x4 x5 x6 x7
        obtain ⟨y2, hy2⟩ : ∃ y, outOf (stepOf s o1) o2 = y := ⟨_, rfl⟩
        obtain ⟨v2, hv2⟩ : ∃ v, errOf (stepOf s o1) o2 156 (.pointer (some a)) = v := ⟨_, rfl⟩
        rw [hy2, hv2]
        have HY2 := Lib.hid (And.intro hy2 hv2); clear hy2 hv2
        have C5 := C5'.alloc (.cells #[.int .i64 y2.1, .int .i64 y2.2] 36)
        have D5 := D5'.alloc (.cells #[.int .i64 y2.1, .int .i64 y2.2] 36)
        have W2 : Bk (w5.alloc (.cells #[.int .i64 y2.1, .int .i64 y2.2] 36)) w5.heap.size 36 #[.int .i64 y2.1, .int .i64 y2.2] := Bk.at_ rfl
        have F2 := C5'.r.far (Nat.le_refl _)
        have G2 := D5'.r.far (Nat.le_refl _)
        have W1 := W1.alloc (.cells #[.int .i64 y2.1, .int .i64 y2.2] 36)
        clear C5' D5'
        (have K1 := KA0.below C5.below KA0.lt; have x0 := K1.cell 0; have x1 := K1.cell 1; have x2 := K1.cell 2; have x3 := K1.cell 3; have x4 := K1.cell 4; have x5 := K1.cell 5; have x6 := K1.cell 6; have x7 := K1.cell 7; simp at x0 x1 x2 x3 x4 x5 x6 x7; clear K1)
        go_wp2_with fail
        generalize (w5.alloc (.cells #[.int .i64 y2.1, .int .i64 y2.2] 36)) = w5a at *
        generalize w5.heap.size = b2 at *
        refine (do_step _ d s B1 d1 B1' d1' D5.r o2 _ _ D5.err D5.ok).mono ?_
        rintro e w6 ⟨rfl, B2, d2, B2', d2', h6, o6⟩
        have D6' := D5.done h6 o6 t2
        obtain ⟨C6', ap6⟩ := D5.keep C5 ap5.symm o6
        obtain ⟨G1, k1⟩ := o6.far W1.lt G1
        have W1 := W1.same k1
        clear k1
        obtain ⟨G2, k2⟩ := o6.far W2.lt G2
        have W2 := W2.same k2
        clear k2
        clear h6 o6 C5 D5 ap5
        clear x0 x1 x2 x3 x4 x5 x6 x7
        obtain ⟨y3, hy3⟩ : ∃ y, outOf s o2 = y := ⟨_, rfl⟩
        obtain ⟨v3, hv3⟩ : ∃ v, errOf s o2 156 (.pointer (some a)) = v := ⟨_, rfl⟩
        rw [hy3, hv3]
        have HY3 := Lib.hid (And.intro hy3 hv3); clear hy3 hv3
        have C6 := C6'.alloc (.cells #[.int .i64 y3.1, .int .i64 y3.2] 36)
        have D6 := D6'.alloc (.cells #[.int .i64 y3.1, .int .i64 y3.2] 36)
        have W3 : Bk (w6.alloc (.cells #[.int .i64 y3.1, .int .i64 y3.2] 36)) w6.heap.size 36 #[.int .i64 y3.1, .int .i64 y3.2] := Bk.at_ rfl
        have F3 := C6'.r.far (Nat.le_refl _)
        have G3 := D6'.r.far (Nat.le_refl _)
        have W1 := W1.alloc (.cells #[.int .i64 y3.1, .int .i64 y3.2] 36)
        have W2 := W2.alloc (.cells #[.int .i64 y3.1, .int .i64 y3.2] 36)
        clear C6' D6'
        (have K1 := KA0.below C6.below KA0.lt; have x0 := K1.cell 0; have x1 := K1.cell 1; have x2 := K1.cell 2; have x3 := K1.cell 3; have x4 := K1.cell 4; have x5 := K1.cell 5; have x6 := K1.cell 6; have x7 := K1.cell 7; simp at x0 x1 x2 x3 x4 x5 x6 x7; clear K1)
        go_wp2_with fail
        generalize (w6.alloc (.cells #[.int .i64 y3.1, .int .i64 y3.2] 36)) = w6a at *
        generalize w6.heap.size = b3 at *
        refine (do_step _ d (stepOf s o2) B2 d2 B2' d2' D6.r o1 _ _ D6.err D6.ok).mono ?_
        rintro e w7 ⟨rfl, B3, d3, B3', d3', h7, o7⟩
        have D7' := D6.done h7 o7 t6
        obtain ⟨C7', ap7⟩ := D6.keep C6 ap6 o7
        obtain ⟨G1, k1⟩ := o7.far W1.lt G1
        have W1 := W1.same k1
        clear k1
        obtain ⟨G2, k2⟩ := o7.far W2.lt G2
        have W2 := W2.same k2
        clear k2
        obtain ⟨G3, k3⟩ := o7.far W3.lt G3
        have W3 := W3.same k3
        clear k3
        clear h7 o7 C6 D6 ap6
        clear x0 x1 x2 x3 x4 x5 x6 x7
        obtain ⟨y4, hy4⟩ : ∃ y, outOf (stepOf s o2) o1 = y := ⟨_, rfl⟩
        obtain ⟨v4, hv4⟩ : ∃ v, errOf (stepOf s o2) o1 156 (.pointer (some a)) = v := ⟨_, rfl⟩
        rw [hy4, hv4]
        have HY4 := Lib.hid (And.intro hy4 hv4); clear hy4 hv4
        have C7 := C7'.alloc (.cells #[.int .i64 y4.1, .int .i64 y4.2] 36)
        have D7 := D7'.alloc (.cells #[.int .i64 y4.1, .int .i64 y4.2] 36)
        have W4 : Bk (w7.alloc (.cells #[.int .i64 y4.1, .int .i64 y4.2] 36)) w7.heap.size 36 #[.int .i64 y4.1, .int .i64 y4.2] := Bk.at_ rfl
        have F4 := C7'.r.far (Nat.le_refl _)
        have G4 := D7'.r.far (Nat.le_refl _)
        have W1 := W1.alloc (.cells #[.int .i64 y4.1, .int .i64 y4.2] 36)
        have W2 := W2.alloc (.cells #[.int .i64 y4.1, .int .i64 y4.2] 36)
        have W3 := W3.alloc (.cells #[.int .i64 y4.1, .int .i64 y4.2] 36)
        have ey : y4 = y1 ∧ v4 = v1 := by
          refine ⟨?_, ?_⟩
          · rw [← HY4.out.1, ← HY1.out.1]; unfold outOf; rw [step_st]; split
            · rename_i h; exact HR.out.1 h
            · rfl
          · rw [← HY4.out.2, ← HY1.out.2]; unfold errOf; rw [step_st]
        have ez : y2 = y3 ∧ v2 = v3 := by
          refine ⟨?_, ?_⟩
          · rw [← HY2.out.1, ← HY3.out.1]; unfold outOf; rw [step_st]; split
            · rename_i h; exact HR.out.2.1 h
            · rfl
          · rw [← HY2.out.2, ← HY3.out.2]; unfold errOf; rw [step_st]
        have ev1 : v1 = .nilIface ∨ v1 = .iface 156 (.pointer (some a)) := by
          rw [← HY1.out.2]; unfold errOf; split
          · exact Or.inl rfl
          · exact Or.inr rfl
        have ev2 : v2 = .nilIface ∨ v2 = .iface 156 (.pointer (some a)) := by
          rw [← HY2.out.2]; unfold errOf; split
          · exact Or.inl rfl
          · exact Or.inr rfl
        obtain ⟨rfl, rfl⟩ := ey
        obtain ⟨rfl, rfl⟩ := ez
        have HS := HR.out.2.2
        clear HY1 HY2 HY3 HY4 HR C7' D7'
        go_wp2_with fail
        generalize (w7.alloc (.cells #[.int .i64 y4.1, .int .i64 y4.2] 36)) = w7a at *
        generalize w7.heap.size = b4 at *
        have z0 := W1.cell 0; have z1 := W1.cell 1; have z2 := W2.cell 0; have z3 := W2.cell 1; have z4 := W3.cell 0; have z5 := W3.cell 1; have z6 := W4.cell 0; have z7 := W4.cell 1
        simp at z0 z1 z2 z3 z4 z5 z6 z7
        have HSS := Lib.hid HS; clear HS
        rcases ev1 with rfl | rfl <;> rcases ev2 with rfl | rfl
        all_goals
          (refine wp_region_class ((fun w' => (w'.cell? ⟨b1, 0, none⟩ = some (.int .i64 y4.1) ∧ w'.cell? ⟨b1, 1, none⟩ = some (.int .i64 y4.2) ∧ w'.cell? ⟨b2, 0, none⟩ = some (.int .i64 y2.1) ∧ w'.cell? ⟨b2, 1, none⟩ = some (.int .i64 y2.2) ∧ w'.cell? ⟨b3, 0, none⟩ = some (.int .i64 y2.1) ∧ w'.cell? ⟨b3, 1, none⟩ = some (.int .i64 y2.2) ∧ w'.cell? ⟨b4, 0, none⟩ = some (.int .i64 y4.1) ∧ w'.cell? ⟨b4, 1, none⟩ = some (.int .i64 y4.2)) ∧ LW w0 w' 156 (.pointer (some a)) g (stepOf (stepOf s o1) o2) A3 c3 A3' c3' ∧ LW w0 w' 156 (.pointer (some a)) d (stepOf (stepOf s o2) o1) B3 d3 B3' d3')) (by kernel_rfl) (by kernel_rfl) (⟨⟨z0, z1, z2, z3, z4, z5, z6, z7⟩, C7.drew, D7.drew⟩) ?_; (repeat (first | go_big_quiet_skip | (go_big_quiet_want; first | (go_big_quiet_op; go_big_quiet_on) | (apply Exists.intro; refine ⟨fun w' hC => ?_, ?_⟩; (· (obtain ⟨⟨f0, f1, f2, f3, f4, f5, f6, f7⟩, CC, DD⟩ := hC; go_simp; first | done | rfl | exact ⟨rfl, rfl⟩ | ((go_at_call 25; refine (sameC_is (b := true) _ g _ A3 c3 A3' c3' CC.r CC.ok d _ B3 d3 B3' d3' DD.r DD.ok (by simp [HSS.out])).mono ?_; rintro e w'' ⟨rfl, kq, rfl⟩; exact ⟨rfl, ⟨f0, f1, f2, f3, f4, f5, f6, f7⟩, CC.drewN kq, DD.drewN kq⟩)))); go_big_quiet_on; simp only [Act.put, List.setIfInBounds_toArray, List.set_cons_succ, List.set_cons_zero])))); refine wpQuiet_nil ?_; intro w' hC)
          obtain ⟨_, CC, DD⟩ := hC
          go_wp2_with fail
          go_ret
          exact ⟨rfl, by rw [hwa]; exact hw0.trans (CC.below.mono hws)⟩
end Go.Proofs.YtlfbgpncdahglaaDoor
