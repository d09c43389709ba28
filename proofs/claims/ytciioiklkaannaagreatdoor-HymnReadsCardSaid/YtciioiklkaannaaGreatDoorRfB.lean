/- The reference's words of an operation. -/
import Derived.Test.YtciioiklkaannaaGreatDoorRfA
namespace Go.Proofs.YtciioiklkaannaaGreatDoor
open Go Go.RowKit
set_option linter.unusedSimpArgs false
set_option linter.unusedVariables false
set_option linter.unusedSectionVars false

/-- An operation by what it bears. -/
theorem fits_ways {st : Int} {o : POp} (h : FitsP st o) :
    ((o.kind = 1 ∨ o.kind = 4) ∧ lineL st o = opWord o.kind ++ [32] ++ Lib.decDigits o.val.toNat) ∨ ((o.kind = 2 ∨ o.kind = 3 ∨ o.kind = 5) ∧ lineL st o = opWord o.kind) ∨
    ((o.kind = 7 ∨ o.kind = 8) ∧ lineL st o = opWord o.kind ++ [32] ++ Lib.decDigits o.key.toNat) ∨
    (o.kind = 6 ∧ st ≠ 5 ∧ lineL st o = opWord 6 ++ [32] ++ Lib.decDigits o.key.toNat ++ [32] ++ Lib.decDigits o.val.toNat) ∨
    (o.kind = 6 ∧ st = 5 ∧ lineL st o = opWord 6 ++ [32] ++ Lib.decDigits o.key.toNat ++ [32] ++ Lib.decDigits o.val.toNat ++ [32] ++ Lib.decDigits o.tall.toNat) := by
  obtain ⟨h1, h8⟩ := fits_kind h
  have hk : o.kind = 1 ∨ o.kind = 4 ∨ o.kind = 2 ∨ o.kind = 3 ∨ o.kind = 5 ∨ o.kind = 7 ∨ o.kind = 8 ∨ o.kind = 6 := by omega
  have hl : lineL st o = jn 32 (opWord o.kind :: (offs st o.kind).map (fldWord o)) := rfl
  rw [hl]
  rcases hk with e | e | e | e | e | e | e | e
  · exact Or.inl ⟨Or.inl e, by simp [offs, e, jn, fldWord, fldVal]⟩
  · exact Or.inl ⟨Or.inr e, by simp [offs, e, jn, fldWord, fldVal]⟩
  · exact Or.inr (Or.inl ⟨Or.inl e, by simp [offs, e, jn]⟩)
  · exact Or.inr (Or.inl ⟨Or.inr (Or.inl e), by simp [offs, e, jn]⟩)
  · exact Or.inr (Or.inl ⟨Or.inr (Or.inr e), by simp [offs, e, jn]⟩)
  · exact Or.inr (Or.inr (Or.inl ⟨Or.inl e, by simp [offs, e, jn, fldWord, fldVal]⟩))
  · exact Or.inr (Or.inr (Or.inl ⟨Or.inr e, by simp [offs, e, jn, fldWord, fldVal]⟩))
  · by_cases h5 : st = 5
    · exact Or.inr (Or.inr (Or.inr (Or.inr ⟨e, h5, by simp [offs, e, h5, jn, fldWord, fldVal]⟩)))
    · exact Or.inr (Or.inr (Or.inr (Or.inl ⟨e, h5, by simp [offs, e, h5, jn, fldWord, fldVal]⟩)))
def OpAt (w : World) (B : Nat) (o : POp) (wr : World) : Prop := Bk wr B 29 #[.int .i64 o.kind, .int .i64 o.key, .int .i64 o.val, .int .i64 o.tall] ∧ Below w.heap.size w wr
theorem OpAt.more {w : World} {B : Nat} {o : POp} {wr w1 : World} (h : OpAt w B o wr) (hb : Below wr.heap.size wr w1) : OpAt w B o w1 := ⟨h.1.belowAll hb, h.2.trans (hb.mono h.2.size)⟩

set_option maxRecDepth 100000 in
set_option maxHeartbeats 3200000 in
theorem refLine_any (st : Int) (o : POp) (hf : FitsP st o) (w : World) (L : ByteArray) (hL : bs (lineL st o) = L) :
    Calls Tryz.prog 12 #[.int .i64 st, o.v] w fun e w' => e = .returned (.string L) ∧ Below w.heap.size w w' := by
  obtain ⟨h1, h8⟩ := fits_kind hf
  have hv : (0 ≤ o.val ∧ o.val ≤ 1073741824) ∧ (0 ≤ o.key ∧ o.key ≤ 1073741824) ∧ 0 ≤ o.tall ∧ o.tall ≤ 1073741824 := ⟨fits_fld hf 2, fits_fld hf 1, fits_fld hf 3⟩
  have hw := fits_ways hf
  have HW := Lib.hid hL
  clear hf hL
  obtain ⟨kind, key, val, tall⟩ := o
  simp only [POp.v] at *
  obtain ⟨⟨v0, v1⟩, ⟨k0, k1⟩, t0, t1⟩ := hv
  have D0 : OpAt w w.heap.size ⟨kind, key, val, tall⟩ (w.alloc (.cells #[.int .i64 kind, .int .i64 key, .int .i64 val, .int .i64 tall] 29)) := ⟨Bk.at_ rfl, (Below.refl _ _).alloc (Nat.le_refl _) _⟩
  have q0 := D0.1.cell 0; have q1 := D0.1.cell 1; have q2 := D0.1.cell 2; have q3 := D0.1.cell 3
  simp only [List.getElem?_toArray, List.getElem?_cons_zero, List.getElem?_cons_succ] at q0 q1 q2 q3
  have hB0 := D0.2
  have l0 := opWord_len h1 h8
  have z0 : (bs (opWord kind)).size ≤ 7 := by rw [bs_size]; exact l0
  go_enter Tryz.func12, Tryz.ntmps12
  go_wp2_with fail
  generalize (w.alloc (.cells #[.int .i64 kind, .int .i64 key, .int .i64 val, .int .i64 tall] 29)) = w0 at *
  refine (kind_any kind h1 h8 w0).mono ?_
  rintro e w1 ⟨rfl, rfl⟩
  obtain ⟨K, hK⟩ : ∃ K, bs (opWord kind) = K := ⟨_, rfl⟩
  rw [hK] at z0 ⊢
  have HK := Lib.hid hK
  clear hK h1 h8 l0
  have y1 : ¬ (9223372036854775807 < K.size + 1) := by omega
  rcases hw with ⟨rfl | rfl, hl⟩ | ⟨rfl | rfl | rfl, hl⟩ | ⟨rfl | rfl, hl⟩ | ⟨rfl, h5, hl⟩ | ⟨rfl, rfl, hl⟩
  · obtain ⟨d, hd, ld⟩ := dec_size val v0 v1
    have HE : Hid (K ++ ⟨#[32]⟩ ++ d = L) := by show _ = _; rw [← HW.out, hl, ← HK.out, ← hd.out, ← bs_append, ← bs_append]; rfl
    clear hl
    have y2 : ¬ (9223372036854775807 < K.size + 1 + d.size) := by omega
    go_wp2_with fail
    refine (digs_is val v0 v1 _ d hd).mono ?_
    rintro e w2 ⟨rfl, hb⟩
    go_wp2_with fail
    go_ret
    exact ⟨by rw [← HE.out]; rfl, hB0.trans (hb.mono hB0.size)⟩
  · obtain ⟨d, hd, ld⟩ := dec_size val v0 v1
    have HE : Hid (K ++ ⟨#[32]⟩ ++ d = L) := by show _ = _; rw [← HW.out, hl, ← HK.out, ← hd.out, ← bs_append, ← bs_append]; rfl
    clear hl
    have y2 : ¬ (9223372036854775807 < K.size + 1 + d.size) := by omega
    go_wp2_with fail
    refine (digs_is val v0 v1 _ d hd).mono ?_
    rintro e w2 ⟨rfl, hb⟩
    go_wp2_with fail
    go_ret
    exact ⟨by rw [← HE.out]; rfl, hB0.trans (hb.mono hB0.size)⟩
  · have HE : Hid (K = L) := by show _ = _; rw [← HW.out, hl, ← HK.out]
    clear hl
    go_wp2_with fail
    go_ret
    exact ⟨by rw [← HE.out]; rfl, hB0⟩
  · have HE : Hid (K = L) := by show _ = _; rw [← HW.out, hl, ← HK.out]
    clear hl
    go_wp2_with fail
    go_ret
    exact ⟨by rw [← HE.out]; rfl, hB0⟩
  · have HE : Hid (K = L) := by show _ = _; rw [← HW.out, hl, ← HK.out]
    clear hl
    go_wp2_with fail
    go_ret
    exact ⟨by rw [← HE.out]; rfl, hB0⟩
  · obtain ⟨d, hd, ld⟩ := dec_size key k0 k1
    have HE : Hid (K ++ ⟨#[32]⟩ ++ d = L) := by show _ = _; rw [← HW.out, hl, ← HK.out, ← hd.out, ← bs_append, ← bs_append]; rfl
    clear hl
    have y2 : ¬ (9223372036854775807 < K.size + 1 + d.size) := by omega
    go_wp2_with fail
    refine (digs_is key k0 k1 _ d hd).mono ?_
    rintro e w2 ⟨rfl, hb⟩
    go_wp2_with fail
    go_ret
    exact ⟨by rw [← HE.out]; rfl, hB0.trans (hb.mono hB0.size)⟩
  · obtain ⟨d, hd, ld⟩ := dec_size key k0 k1
    have HE : Hid (K ++ ⟨#[32]⟩ ++ d = L) := by show _ = _; rw [← HW.out, hl, ← HK.out, ← hd.out, ← bs_append, ← bs_append]; rfl
    clear hl
    have y2 : ¬ (9223372036854775807 < K.size + 1 + d.size) := by omega
    go_wp2_with fail
    refine (digs_is key k0 k1 _ d hd).mono ?_
    rintro e w2 ⟨rfl, hb⟩
    go_wp2_with fail
    go_ret
    exact ⟨by rw [← HE.out]; rfl, hB0.trans (hb.mono hB0.size)⟩
  · obtain ⟨d, hd, ld⟩ := dec_size key k0 k1
    obtain ⟨d', hd', ld'⟩ := dec_size val v0 v1
    have HE : Hid (K ++ ⟨#[32]⟩ ++ d ++ ⟨#[32]⟩ ++ d' = L) := by show _ = _; rw [← HW.out, hl, ← HK.out, ← hd.out, ← hd'.out, ← bs_append, ← bs_append, ← bs_append, ← bs_append]; rfl
    clear hl
    have y2 : ¬ (9223372036854775807 < K.size + 1 + d.size) := by omega
    have y3 : ¬ (9223372036854775807 < K.size + 1 + d.size + 1) := by omega
    have y4 : ¬ (9223372036854775807 < K.size + 1 + d.size + 1 + d'.size) := by omega
    have HD1 := Lib.hid (fun w0 => digs_is key k0 k1 w0 d hd)
    have HD2 := Lib.hid (fun w0 => digs_is val v0 v1 w0 d' hd')
    go_wp2_with fail
    (refine wp_region_class ((fun w' : World => OpAt w w.heap.size ⟨6, key, val, tall⟩ w')) (by kernel_rfl) (by kernel_rfl) ((D0.more (Below.refl _ _).drew)) ?_; (repeat (first | go_big_quiet_skip | (go_big_quiet_want; first | (go_big_quiet_op; go_big_quiet_on) | (apply Exists.intro; refine ⟨fun w' hC => ?_, ?_⟩; (· ((have q0 := hC.1.cell 0; have q1 := hC.1.cell 1; have q2 := hC.1.cell 2; have q3 := hC.1.cell 3; simp only [List.getElem?_toArray, List.getElem?_cons_zero, List.getElem?_cons_succ] at q0 q1 q2 q3); go_simp; first | done | rfl | exact ⟨rfl, rfl⟩ | ((go_at_call 29; first | ((with_reducible refine (HD1.out _).mono ?_); rintro e w'' ⟨rfl, hb⟩; exact ⟨rfl, hC.more hb⟩) | ((with_reducible refine (HD2.out _).mono ?_); rintro e w'' ⟨rfl, hb⟩; exact ⟨rfl, hC.more hb⟩))))); go_big_quiet_on; simp only [Act.put, List.setIfInBounds_toArray, List.set_cons_succ, List.set_cons_zero])))); refine wpQuiet_nil ?_; intro w' hC)
    (try dsimp only)
    have q0 := hC.1.cell 0; have q1 := hC.1.cell 1; have q2 := hC.1.cell 2; have q3 := hC.1.cell 3
    simp only [List.getElem?_toArray, List.getElem?_cons_zero, List.getElem?_cons_succ] at q0 q1 q2 q3
    go_wp2_with fail
    go_ret
    exact ⟨by rw [← HE.out]; rfl, hC.2⟩
  · obtain ⟨d, hd, ld⟩ := dec_size key k0 k1
    obtain ⟨d', hd', ld'⟩ := dec_size val v0 v1
    obtain ⟨d2, hd2, ld2⟩ := dec_size tall t0 t1
    have HE : Hid (K ++ ⟨#[32]⟩ ++ d ++ ⟨#[32]⟩ ++ d' ++ ⟨#[32]⟩ ++ d2 = L) := by show _ = _; rw [← HW.out, hl, ← HK.out, ← hd.out, ← hd'.out, ← hd2.out, ← bs_append, ← bs_append, ← bs_append, ← bs_append, ← bs_append, ← bs_append]; rfl
    clear hl
    have y2 : ¬ (9223372036854775807 < K.size + 1 + d.size) := by omega
    have y3 : ¬ (9223372036854775807 < K.size + 1 + d.size + 1) := by omega
    have y4 : ¬ (9223372036854775807 < K.size + 1 + d.size + 1 + d'.size) := by omega
    have y5 : ¬ (9223372036854775807 < K.size + 1 + d.size + 1 + d'.size + 1) := by omega
    have y6 : ¬ (9223372036854775807 < K.size + 1 + d.size + 1 + d'.size + 1 + d2.size) := by omega
    have HD1 := Lib.hid (fun w0 => digs_is key k0 k1 w0 d hd)
    have HD2 := Lib.hid (fun w0 => digs_is val v0 v1 w0 d' hd')
    go_wp2_with fail
    (refine wp_region_class ((fun w' : World => OpAt w w.heap.size ⟨6, key, val, tall⟩ w')) (by kernel_rfl) (by kernel_rfl) ((D0.more (Below.refl _ _).drew)) ?_; (repeat (first | go_big_quiet_skip | (go_big_quiet_want; first | (go_big_quiet_op; go_big_quiet_on) | (apply Exists.intro; refine ⟨fun w' hC => ?_, ?_⟩; (· ((have q0 := hC.1.cell 0; have q1 := hC.1.cell 1; have q2 := hC.1.cell 2; have q3 := hC.1.cell 3; simp only [List.getElem?_toArray, List.getElem?_cons_zero, List.getElem?_cons_succ] at q0 q1 q2 q3); go_simp; first | done | rfl | exact ⟨rfl, rfl⟩ | ((go_at_call 29; first | ((with_reducible refine (HD1.out _).mono ?_); rintro e w'' ⟨rfl, hb⟩; exact ⟨rfl, hC.more hb⟩) | ((with_reducible refine (HD2.out _).mono ?_); rintro e w'' ⟨rfl, hb⟩; exact ⟨rfl, hC.more hb⟩))))); go_big_quiet_on; simp only [Act.put, List.setIfInBounds_toArray, List.set_cons_succ, List.set_cons_zero])))); refine wpQuiet_nil ?_; intro w' hC)
    (try dsimp only)
    have q0 := hC.1.cell 0; have q1 := hC.1.cell 1; have q2 := hC.1.cell 2; have q3 := hC.1.cell 3
    simp only [List.getElem?_toArray, List.getElem?_cons_zero, List.getElem?_cons_succ] at q0 q1 q2 q3
    go_wp2_with fail
    refine (digs_is tall t0 t1 _ d2 hd2).mono ?_
    rintro e w2 ⟨rfl, hb⟩
    go_wp2_with fail
    go_ret
    exact ⟨by rw [← HE.out]; rfl, hC.2.trans (hb.mono hC.2.size)⟩
end Go.Proofs.YtciioiklkaannaaGreatDoor
