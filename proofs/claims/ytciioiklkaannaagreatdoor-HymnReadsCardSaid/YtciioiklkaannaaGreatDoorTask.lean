/- hymn.readTask: the line of an operation. -/
import Derived.Test.YtciioiklkaannaaGreatDoorRead
namespace Go.Proofs.YtciioiklkaannaaGreatDoor
open Go Go.RowKit
set_option linter.unusedSimpArgs false
set_option linter.unusedVariables false
set_option linter.unusedSectionVars false

/-- The line is a word, a number's word, an operation's words. -/
def TaskIs (st : Int) (s : ByteArray) (n : Nat) (op : POp) : Prop :=
  ∃ a : List UInt8, (∀ b ∈ a, b ≠ 32) ∧ n ≤ 1073741824 ∧ FitsP st op ∧ s.data.toList = a ++ 32 :: (Lib.decDigits n ++ 32 :: lineL st op)
def taskV (n : Int) (op : POp) : Value := .agg #[.int .i64 n, .int .i64 op.kind, .int .i64 op.key, .int .i64 op.val, .int .i64 op.tall]
def RetTask (st : Int) (s : ByteArray) (w : World) (e : Ending) (w' : World) : Prop :=
  (∃ (n : Nat) (op : POp), TaskIs st s n op ∧ e = .returned (.tuple #[taskV n op, .bool true]) ∧ Below w.heap.size w w') ∨
  ((∀ n op, ¬ TaskIs st s n op) ∧ ∃ (n : Int) (op : POp), e = .returned (.tuple #[taskV n op, .bool false]) ∧ Below w.heap.size w w')

/-- A text cut in three at most. -/
theorem cut3 (s : ByteArray) : (∃ a b r : List UInt8, s.data.toList = a ++ 32 :: (b ++ 32 :: r) ∧ (∀ x ∈ a, x ≠ 32) ∧ (∀ x ∈ b, x ≠ 32) ∧ Lib.splitB ⟨#[32]⟩ 0 (min 3 (s.size + 1) - 1) s = [bs a, bs b, bs r]) ∨
    ((∀ a b r : List UInt8, (∀ x ∈ a, x ≠ 32) → (∀ x ∈ b, x ≠ 32) → s.data.toList ≠ a ++ 32 :: (b ++ 32 :: r)) ∧ (Lib.splitB ⟨#[32]⟩ 0 (min 3 (s.size + 1) - 1) s).length ≤ 2) := by
  have hd := Lib.splitB_data ⟨#[32]⟩ 0 (min 3 (s.size + 1) - 1) s
  have hlen := s_len s
  rcases sp_cases 32 s.data.toList with h1 | ⟨a, r, h1, ha⟩
  · right
    refine ⟨fun a b r _ _ e => h1 32 (by rw [e]; simp) rfl, ?_⟩
    have := congrArg List.length hd
    rw [show (⟨#[32]⟩ : ByteArray).data.toList = [32] from rfl, split_miss 32 _ _ h1] at this
    simp at this; omega
  · rcases sp_cases 32 r with h2 | ⟨b, r', h2, hb⟩
    · right
      refine ⟨fun a' b' r' ha' hb' e => ?_, ?_⟩
      · rw [h1] at e
        have e1 := congrArg (sp 32) e
        rw [sp_hit 32 a r ha, sp_hit 32 a' _ ha', sp_hit 32 b' _ hb', sp_free 32 r h2] at e1
        have := congrArg List.length e1
        have h3 := sp_ne 32 r'
        simp at this
        exact h3 this
      · have := congrArg List.length hd
        have hk : min 3 (s.size + 1) - 1 = 1 ∨ min 3 (s.size + 1) - 1 = 2 := by
          have : 1 ≤ s.size := by rw [← hlen, h1]; simp; omega
          omega
        rw [show (⟨#[32]⟩ : ByteArray).data.toList = [32] from rfl, h1] at this
        rcases hk with hk | hk
        · rw [hk, split_hit 32 0 a r ha, split_miss 32 0 r h2] at this
          rw [hk]; simp at this; omega
        · rw [hk, split_hit 32 1 a r ha, split_miss 32 1 r h2] at this
          rw [hk]; simp at this; omega
    · left
      refine ⟨a, b, r', by rw [h1, h2], ha, hb, ?_⟩
      have hk : min 3 (s.size + 1) - 1 = 2 := by
        have : 2 ≤ s.size := by rw [← hlen, h1, h2]; simp; omega
        omega
      rw [hk] at hd ⊢
      rw [show (⟨#[32]⟩ : ByteArray).data.toList = [32] from rfl, h1, h2, split_hit 32 1 a _ ha, split_hit 32 0 b r' hb] at hd
      exact map_bs hd
theorem task_parts {st : Int} {s : ByteArray} {a b r : List UInt8} (hs : s.data.toList = a ++ 32 :: (b ++ 32 :: r)) (ha : ∀ x ∈ a, x ≠ 32) (hb : ∀ x ∈ b, x ≠ 32) {n : Nat} {op : POp} (h : TaskIs st s n op) :
    NumIs (bs b) n ∧ bs (lineL st op) = bs r ∧ FitsP st op := by
  obtain ⟨a', ha', hn, hf, e⟩ := h
  rw [hs] at e
  have key : ∀ (l m l' m' : List UInt8), (∀ x ∈ l, x ≠ 32) → (∀ x ∈ l', x ≠ 32) → l ++ 32 :: m = l' ++ 32 :: m' → l = l' ∧ m = m' := by
    intro l
    induction l with
    | nil =>
      intro m l' m' _ hl' e
      cases l' with
      | nil => exact ⟨rfl, by simpa using e⟩
      | cons y l' => simp at e; exact absurd e.1.symm (hl' y (by simp))
    | cons x l ih =>
      intro m l' m' hl hl' e
      cases l' with
      | nil => simp at e; exact absurd e.1 (hl x (by simp))
      | cons y l' =>
        simp only [List.cons_append, List.cons.injEq] at e
        obtain ⟨h1, h2⟩ := ih m l' m' (fun z hz => hl z (by simp [hz])) (fun z hz => hl' z (by simp [hz])) e.2
        exact ⟨by rw [e.1, h1], h2⟩
  obtain ⟨_, e1⟩ := key _ _ _ _ ha ha' e
  obtain ⟨e2, e3⟩ := key _ _ _ _ hb (dec_no 32 (by decide) n) e1
  exact ⟨⟨hn, by rw [e2]⟩, by rw [e3], hf⟩

set_option maxRecDepth 100000 in
set_option maxHeartbeats 3200000 in
theorem task_any {w : World} {a b c : Addr} {m : Int} (G : GH w a b c m) (st : Int) (s : ByteArray) (hs : s.size ≤ 1000000) :
    Calls Tryz.prog 54 #[.int .i64 st, .string s] w (RetTask st s w) := by
  have G0 := G.alloc (.cells #[.int .i64 0, .int .i64 0, .int .i64 0, .int .i64 0, .int .i64 0] 53)
  have HS := Lib.hid (Tryz.strings_SplitN s ⟨#[32]⟩ 3 m (w.alloc (.cells #[.int .i64 0, .int .i64 0, .int .i64 0, .int .i64 0, .int .i64 0] 53)) (by omega) G0.mx (by decide) (by omega) (by omega))
  have HC := Lib.hid (cut3 s)
  obtain ⟨P, hP⟩ : ∃ P, Lib.splitB ⟨#[32]⟩ 0 (min 3 (s.size + 1) - 1) s = P := ⟨_, rfl⟩
  obtain ⟨q, hq⟩ : ∃ q, min 3 (s.size + 1) = q := ⟨_, rfl⟩
  have HP := Lib.hid hP
  go_enter Tryz.func54, Tryz.ntmps54
  go_wp2_with fail
  refine HS.out.mono ?_
  rintro e w1 ⟨rfl, rfl⟩
  rw [hP, hq]
  clear hP hq HS
  have e1 : (w.alloc (.cells #[.int .i64 0, .int .i64 0, .int .i64 0, .int .i64 0, .int .i64 0] 53)).heap.size = w.heap.size + 1 := by simp
  rw [e1]
  have B0 : Bk ((w.alloc (.cells #[.int .i64 0, .int .i64 0, .int .i64 0, .int .i64 0, .int .i64 0] 53)).alloc (.cells (Lib.cellsOf P q) 9)) w.heap.size 53 #[.int .i64 0, .int .i64 0, .int .i64 0, .int .i64 0, .int .i64 0] := (Bk.at_ rfl).alloc _
  have B1 : Bk ((w.alloc (.cells #[.int .i64 0, .int .i64 0, .int .i64 0, .int .i64 0, .int .i64 0] 53)).alloc (.cells (Lib.cellsOf P q) 9)) (w.heap.size + 1) 9 (Lib.cellsOf P q) := Bk.at_ (by simp)
  have hb1 : Below w.heap.size w ((w.alloc (.cells #[.int .i64 0, .int .i64 0, .int .i64 0, .int .i64 0, .int .i64 0] 53)).alloc (.cells (Lib.cellsOf P q) 9)) := by (repeat' (first | (with_reducible exact Below.refl _ _) | (with_reducible assumption) | (with_reducible refine Below.alloc ?_ ?_ _) | (with_reducible refine Below.drew ?_) | (with_reducible refine below_drewN ?_ _) | (with_reducible refine Below.setCell ?_ ?_ _) | go_size))
  generalize ((w.alloc (.cells #[.int .i64 0, .int .i64 0, .int .i64 0, .int .i64 0, .int .i64 0] 53)).alloc (.cells (Lib.cellsOf P q) 9)) = w1 at *
  clear e1 G0
  rcases HC.out with ⟨a3, b3, r3, h3, ha3, hb3, hl3⟩ | ⟨hno, hl2⟩
  · rw [HP.out] at hl3
    subst hl3
    have c1 := B1.cell 1
    have c2 := B1.cell 2
    simp [Lib.cellsOf] at c1 c2
    have HT := Lib.hid (And.intro h3 (And.intro ha3 hb3))
    have lb : b3.length ≤ 1000000 := by have := s_len s; rw [h3] at this; simp at this; omega
    have lr : r3.length ≤ 1000000 := by have := s_len s; rw [h3] at this; simp at this; omega
    clear h3 ha3 hb3 HC
    go_wp2_with fail
    refine (number_any (bs b3) _ (by rw [bs_size]; omega)).mono ?_
    rintro e w2 (⟨n, hn, rfl, rfl⟩ | ⟨hn, k, rfl, rfl⟩)
    · have HN := Lib.hid hn; clear hn
      go_wp2_with fail
      refine (read_any (G.more hb1) st (bs r3) (by rw [bs_size]; omega)).mono ?_
      rintro e w3 hr
      rcases hr with ⟨op, hf, hy, rfl, hb3⟩ | ⟨hno, rfl, hb3⟩
      · have HY : Hid (TaskIs st s n op) := ⟨a3, HT.out.2.1, HN.out.1, hf, by rw [HT.out.1, bs_inj hy]; rw [bs_inj HN.out.2]⟩
        clear hf hy
        obtain ⟨ok, oe, ov, ot⟩ := op
        simp only [POp.v]
        (have B3 := (B0.belowAll hb3).alloc (.cells #[.int .i64 (ok), .int .i64 (oe), .int .i64 (ov), .int .i64 (ot)] 29); have O3 : Bk (w3.alloc (.cells #[.int .i64 (ok), .int .i64 (oe), .int .i64 (ov), .int .i64 (ot)] 29)) w3.heap.size 29 #[.int .i64 (ok), .int .i64 (oe), .int .i64 (ov), .int .i64 (ot)] := Bk.at_ rfl; have hb3' := hb1.trans (hb3.mono hb1.size); have hb4 := hb3'.alloc hb3'.size (.cells #[.int .i64 (ok), .int .i64 (oe), .int .i64 (ov), .int .i64 (ot)] 29); have hne : w3.heap.size ≠ w.heap.size := (by have h1 := (B0.belowAll hb3).lt; omega); clear c1 c2 B0 B1 hb1 hb3 hb3'; go_upto_region 8 with (fail); have B3 := B3.drew; have O3 := O3.drew; have hb4 := hb4.drew; generalize w3.heap.size = OB at *; generalize (w3.alloc (.cells #[.int .i64 (ok), .int .i64 (oe), .int .i64 (ov), .int .i64 (ot)] 29)) = w4 at *; refine wp_region_T (fun w' => Bk w' OB 29 #[.int .i64 (ok), .int .i64 (oe), .int .i64 (ov), .int .i64 (ot)]) 7 (by kernel_rfl) O3 (fun hS => ?_); generalize w4.drew = w5 at *; ((try simp only [Act.put, List.setIfInBounds_toArray, List.set_cons_succ, List.set_cons_zero]); refine wpT_batch (fuel := 2) (by kernel_rfl) (by kernel_rfl) (fun d => by cases d <;> exact fun _ _ _ _ h => h) hS [0, 1, 2, 3, 4] _ _ (by kernel_rfl) ?_; simp only [pickOps, nthOp, List.toList_toArray]; (repeat (first | go_big_quiet_skip | (go_big_quiet_want; first | (go_big_quiet_op; go_big_quiet_on) | (apply Exists.intro; refine ⟨fun w' hS' => ?_, ?_⟩; (· (obtain ⟨f0, f1, f2, f3⟩ := bk4 hS'; go_simp; first | done | rfl | exact ⟨rfl, rfl⟩)); go_big_quiet_on; simp only [Act.put, List.setIfInBounds_toArray, List.set_cons_succ, List.set_cons_zero])))); refine wpQuiet_nil ?_; (try dsimp only)); (refine wpT_loudN 5 (by kernel_rfl) (fun K hK => ?_); simp only [nthOp, List.toList_toArray]); go_wp2_with (refine wpList_store_bk (by rfl) _ _ _ (by rfl) w.heap.size _ (by rfl) (by rfl) _ _ B3 (by rfl) (by kernel_rfl) (by rfl) ?_; intro wy hst); have hS2 := hst.far O3 hne; refine hK.out _ _ (fun _ => hS2) ?_; clear hK hS; have hS := hS2; ((try simp only [Act.put, List.setIfInBounds_toArray, List.set_cons_succ, List.set_cons_zero]); refine wpT_batch (fuel := 0) (by kernel_rfl) (by kernel_rfl) (fun d => by cases d <;> exact fun _ _ _ _ h => h) hS [6] _ _ (by kernel_rfl) ?_; simp only [pickOps, nthOp, List.toList_toArray]; (repeat (first | go_big_quiet_skip | (go_big_quiet_want; first | (go_big_quiet_op; go_big_quiet_on) | (apply Exists.intro; refine ⟨fun w' hS' => ?_, ?_⟩; (· (skip; go_simp; first | done | rfl | exact ⟨rfl, rfl⟩)); go_big_quiet_on; simp only [Act.put, List.setIfInBounds_toArray, List.set_cons_succ, List.set_cons_zero])))); refine wpQuiet_nil ?_; (try dsimp only)); clear hS; refine wpT_done (by kernel_rfl) ?_ _; go_wp2_with fail; have r0 := hst.bk.cell 0; have r1 := hst.bk.cell 1; have r2 := hst.bk.cell 2; have r3 := hst.bk.cell 3; have r4 := hst.bk.cell 4; simp at r0 r1 r2 r3 r4; refine bodyPost_ret (v := .tuple #[.agg #[.int .i64 n, .int .i64 (ok), .int .i64 (oe), .int .i64 (ov), .int .i64 (ot)], .bool true]) (by simp [results, Tryz.results54, go_sem, r0, r1, r2, r3, r4]) rfl ?_)
        exact Or.inl ⟨n, ⟨ok, oe, ov, ot⟩, HY.out, rfl, hst.below hb4 (Nat.le_refl _)⟩
      · have HY : Hid (∀ n op, ¬ TaskIs st s n op) := fun n op h => by
          obtain ⟨_, h2, h3⟩ := task_parts HT.out.1 HT.out.2.1 HT.out.2.2 h
          exact hno op h3 h2
        clear hno
        (have B3 := (B0.belowAll hb3).alloc (.cells #[.int .i64 (0), .int .i64 (0), .int .i64 (0), .int .i64 (0)] 29); have O3 : Bk (w3.alloc (.cells #[.int .i64 (0), .int .i64 (0), .int .i64 (0), .int .i64 (0)] 29)) w3.heap.size 29 #[.int .i64 (0), .int .i64 (0), .int .i64 (0), .int .i64 (0)] := Bk.at_ rfl; have hb3' := hb1.trans (hb3.mono hb1.size); have hb4 := hb3'.alloc hb3'.size (.cells #[.int .i64 (0), .int .i64 (0), .int .i64 (0), .int .i64 (0)] 29); have hne : w3.heap.size ≠ w.heap.size := (by have h1 := (B0.belowAll hb3).lt; omega); clear c1 c2 B0 B1 hb1 hb3 hb3'; go_upto_region 8 with (fail); have B3 := B3.drew; have O3 := O3.drew; have hb4 := hb4.drew; generalize w3.heap.size = OB at *; generalize (w3.alloc (.cells #[.int .i64 (0), .int .i64 (0), .int .i64 (0), .int .i64 (0)] 29)) = w4 at *; refine wp_region_T (fun w' => Bk w' OB 29 #[.int .i64 (0), .int .i64 (0), .int .i64 (0), .int .i64 (0)]) 7 (by kernel_rfl) O3 (fun hS => ?_); generalize w4.drew = w5 at *; ((try simp only [Act.put, List.setIfInBounds_toArray, List.set_cons_succ, List.set_cons_zero]); refine wpT_batch (fuel := 2) (by kernel_rfl) (by kernel_rfl) (fun d => by cases d <;> exact fun _ _ _ _ h => h) hS [0, 1, 2, 3, 4] _ _ (by kernel_rfl) ?_; simp only [pickOps, nthOp, List.toList_toArray]; (repeat (first | go_big_quiet_skip | (go_big_quiet_want; first | (go_big_quiet_op; go_big_quiet_on) | (apply Exists.intro; refine ⟨fun w' hS' => ?_, ?_⟩; (· (obtain ⟨f0, f1, f2, f3⟩ := bk4 hS'; go_simp; first | done | rfl | exact ⟨rfl, rfl⟩)); go_big_quiet_on; simp only [Act.put, List.setIfInBounds_toArray, List.set_cons_succ, List.set_cons_zero])))); refine wpQuiet_nil ?_; (try dsimp only)); (refine wpT_loudN 5 (by kernel_rfl) (fun K hK => ?_); simp only [nthOp, List.toList_toArray]); go_wp2_with (refine wpList_store_bk (by rfl) _ _ _ (by rfl) w.heap.size _ (by rfl) (by rfl) _ _ B3 (by rfl) (by kernel_rfl) (by rfl) ?_; intro wy hst); have hS2 := hst.far O3 hne; refine hK.out _ _ (fun _ => hS2) ?_; clear hK hS; have hS := hS2; ((try simp only [Act.put, List.setIfInBounds_toArray, List.set_cons_succ, List.set_cons_zero]); refine wpT_batch (fuel := 0) (by kernel_rfl) (by kernel_rfl) (fun d => by cases d <;> exact fun _ _ _ _ h => h) hS [6] _ _ (by kernel_rfl) ?_; simp only [pickOps, nthOp, List.toList_toArray]; (repeat (first | go_big_quiet_skip | (go_big_quiet_want; first | (go_big_quiet_op; go_big_quiet_on) | (apply Exists.intro; refine ⟨fun w' hS' => ?_, ?_⟩; (· (skip; go_simp; first | done | rfl | exact ⟨rfl, rfl⟩)); go_big_quiet_on; simp only [Act.put, List.setIfInBounds_toArray, List.set_cons_succ, List.set_cons_zero])))); refine wpQuiet_nil ?_; (try dsimp only)); clear hS; refine wpT_done (by kernel_rfl) ?_ _; go_wp2_with fail; have r0 := hst.bk.cell 0; have r1 := hst.bk.cell 1; have r2 := hst.bk.cell 2; have r3 := hst.bk.cell 3; have r4 := hst.bk.cell 4; simp at r0 r1 r2 r3 r4; refine bodyPost_ret (v := .tuple #[.agg #[.int .i64 n, .int .i64 (0), .int .i64 (0), .int .i64 (0), .int .i64 (0)], .bool false]) (by simp [results, Tryz.results54, go_sem, r0, r1, r2, r3, r4]) rfl ?_)
        exact Or.inr ⟨HY.out, n, ⟨0, 0, 0, 0⟩, rfl, hst.below hb4 (Nat.le_refl _)⟩
    · have HN : Hid (∀ n op, ¬ TaskIs st s n op) := fun n op h => hn n (task_parts HT.out.1 HT.out.2.1 HT.out.2.2 h).1
      clear hn
      (go_wp2_with (refine wpList_store_bk (by rfl) _ _ _ (by rfl) w.heap.size _ (by rfl) (by rfl) _ _ B0 (by rfl) (by kernel_rfl) (by rfl) ?_; intro wy hst); have r0 := hst.bk.cell 0; have r1 := hst.bk.cell 1; have r2 := hst.bk.cell 2; have r3 := hst.bk.cell 3; have r4 := hst.bk.cell 4; simp at r0 r1 r2 r3 r4; refine bodyPost_ret (v := .tuple #[.agg #[.int .i64 0, .int .i64 0, .int .i64 0, .int .i64 0, .int .i64 0], .bool false]) (by simp [results, Tryz.results54, go_sem, r0, r1, r2, r3, r4]) rfl ?_; exact Or.inr ⟨HN.out, 0, ⟨0, 0, 0, 0⟩, rfl, hst.below hb1 (Nat.le_refl _)⟩)
  · have hl : ((P.length : Int) != 3) = true := by rw [HP.out] at hl2; simp; omega
    have HN : Hid (∀ n op, ¬ TaskIs st s n op) := fun n op h => by
      obtain ⟨a', ha', _, _, e⟩ := h
      exact hno a' _ _ ha' (dec_no 32 (by decide) n) e
    clear hno hl2 HC
    (go_wp2_with (refine wpList_store_bk (by rfl) _ _ _ (by rfl) w.heap.size _ (by rfl) (by rfl) _ _ B0 (by rfl) (by kernel_rfl) (by rfl) ?_; intro wy hst); have r0 := hst.bk.cell 0; have r1 := hst.bk.cell 1; have r2 := hst.bk.cell 2; have r3 := hst.bk.cell 3; have r4 := hst.bk.cell 4; simp at r0 r1 r2 r3 r4; refine bodyPost_ret (v := .tuple #[.agg #[.int .i64 0, .int .i64 0, .int .i64 0, .int .i64 0, .int .i64 0], .bool false]) (by simp [results, Tryz.results54, go_sem, r0, r1, r2, r3, r4]) rfl ?_; exact Or.inr ⟨HN.out, 0, ⟨0, 0, 0, 0⟩, rfl, hst.below hb1 (Nat.le_refl _)⟩)
end Go.Proofs.YtciioiklkaannaaGreatDoor
