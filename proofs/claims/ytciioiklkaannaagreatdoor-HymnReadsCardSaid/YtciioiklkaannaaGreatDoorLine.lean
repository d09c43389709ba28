/- hymn.Line: the words of an operation. -/
import Derived.Test.YtciioiklkaannaaGreatDoorGw
import Derived.Test.YtciioiklkaannaaGreatDoorFnFits
import Derived.Deep.CutBlock
import Derived.RegionTactic
namespace Go.Proofs.YtciioiklkaannaaGreatDoor
open Go Go.RowKit
set_option linter.unusedSimpArgs false
set_option linter.unusedVariables false
set_option linter.unusedSectionVars false

def fldVal (op : POp) (o : Nat) : Int := if o = 1 then op.key else if o = 2 then op.val else op.tall
def opWord (k : Int) : List UInt8 := opWords.getD (k - 1).toNat []
def fldWord (op : POp) (o : Nat) : List UInt8 := Lib.decDigits (fldVal op o).toNat
def lineW (st : Int) (op : POp) : List (List UInt8) := opWord op.kind :: (offs st op.kind).map (fldWord op)
def lineL (st : Int) (op : POp) : List UInt8 := jn 32 (lineW st op)

theorem fits_kind {st : Int} {op : POp} (h : FitsP st op) : 1 ≤ op.kind ∧ op.kind ≤ 8 := by
  unfold FitsP at h; omega
theorem fits_fld {st : Int} {op : POp} (h : FitsP st op) (o : Nat) : 0 ≤ fldVal op o ∧ fldVal op o ≤ 1073741824 := by
  unfold FitsP at h; unfold fldVal
  split
  · omega
  · split <;> omega
theorem offs_mem {st k : Int} {o : Nat} (h : o ∈ offs st k) : o = 1 ∨ o = 2 ∨ o = 3 := by
  unfold offs at h
  split at h
  · simp at h; omega
  · split at h
    · split at h <;> simp at h <;> omega
    · split at h
      · simp at h; omega
      · simp at h
theorem offs_len (st k : Int) : (offs st k).length ≤ 3 := by
  unfold offs
  split
  · simp
  · split
    · split <;> simp
    · split <;> simp
theorem op_cell (op : POp) (o : Nat) (h : o = 1 ∨ o = 2 ∨ o = 3) : (#[.int .i64 op.kind, .int .i64 op.key, .int .i64 op.val, .int .i64 op.tall] : Array Value)[o]? = some (.int .i64 (fldVal op o)) := by
  rcases h with rfl | rfl | rfl <;> rfl
theorem opWord_get {k : Int} (h1 : 1 ≤ k) (h8 : k ≤ 8) : (wordCells opWords)[(k - 1).toNat]? = some (.string (bs (opWord k))) := by
  have : k = 1 ∨ k = 2 ∨ k = 3 ∨ k = 4 ∨ k = 5 ∨ k = 6 ∨ k = 7 ∨ k = 8 := by omega
  rcases this with rfl | rfl | rfl | rfl | rfl | rfl | rfl | rfl <;> rfl
theorem opWord_len {k : Int} (h1 : 1 ≤ k) (h8 : k ≤ 8) : (opWord k).length ≤ 7 := by
  have : k = 1 ∨ k = 2 ∨ k = 3 ∨ k = 4 ∨ k = 5 ∨ k = 6 ∨ k = 7 ∨ k = 8 := by omega
  rcases this with rfl | rfl | rfl | rfl | rfl | rfl | rfl | rfl <;> decide
theorem jn_snoc (c : UInt8) (x : List UInt8) (xs : List (List UInt8)) (y : List UInt8) : jn c (x :: (xs ++ [y])) = jn c (x :: xs) ++ c :: y := by
  simp [jn]

/-- Behind k words of numbers. -/
structure LS (st : Int) (op : POp) (k : Nat) (d : ByteArray) : Prop where
  hk : k ≤ (offs st op.kind).length
  tx : d = bs (jn 32 (opWord op.kind :: ((offs st op.kind).take k).map (fldWord op)))
  sz : d.size ≤ 7 + 11 * k
theorem LS.step {st : Int} {op : POp} {k : Nat} {d e : ByteArray} (L : LS st op k d) (h : k < (offs st op.kind).length) (he : bs (fldWord op (offs st op.kind)[k]) = e) (hs : e.size ≤ 10) : LS st op (k + 1) (d ++ ((⟨#[32]⟩ : ByteArray) ++ e)) where
  hk := h
  tx := by
    rw [L.tx, ← he, show (⟨#[32]⟩ : ByteArray) = bs [32] from rfl, bs_append, bs_append, List.take_succ_eq_append_getElem h, List.map_append, List.map_singleton, jn_snoc]
    simp
  sz := by
    have := L.sz
    have h1 : (d ++ ((⟨#[32]⟩ : ByteArray) ++ e)).size = d.size + (1 + e.size) := by simp [ByteArray.size_append]; rfl
    rw [h1]; omega

section
variable {w : World} {a b c : Addr} {m : Int} (G : GH w a b c m)
include G
set_option maxRecDepth 100000 in
set_option maxHeartbeats 1600000 in
theorem line_no (st : Int) (op : POp) (h : ¬ FitsP st op) : Calls Tryz.prog 7 #[.int .i64 st, op.v] w fun e w' => e = .returned (.tuple #[.string ⟨#[]⟩, .iface 203 (.pointer (some a))]) ∧ Below w.heap.size w w' := by
  have hf : fitsB st op = false := by rw [Bool.eq_false_iff, Ne, fitsB_true]; exact h
  have HF := Lib.hid hf; clear hf h
  obtain ⟨kind, key, val, tall⟩ := op
  simp only [POp.v]
  have G0 := G.alloc (.cells #[.int .i64 kind, .int .i64 key, .int .i64 val, .int .i64 tall] 29)
  have hb0 : Below w.heap.size w (w.alloc (.cells #[.int .i64 kind, .int .i64 key, .int .i64 val, .int .i64 tall] 29)) := (Below.refl _ _).alloc (Nat.le_refl _) _
  go_enter Tryz.func7, Tryz.ntmps7
  go_wp2_with fail
  refine (fits_any st ⟨kind, key, val, tall⟩ _ _ _ G0.ea).mono ?_
  rintro e w1 ⟨rfl, hb1'⟩
  rw [HF.out]
  have hb1 := hb0.trans (hb1'.mono hb0.size)
  have hea := (G.more hb1).ea
  clear G0 hb0 hb1'
  go_wp2_with fail
  go_quiet (fail)
  go_wp2_with fail
  go_ret2
  exact ⟨rfl, by (repeat' (first | (with_reducible exact Below.refl _ _) | (with_reducible assumption) | (with_reducible refine Below.alloc ?_ ?_ _) | (with_reducible refine Below.drew ?_) | (with_reducible refine below_drewN ?_ _) | (with_reducible refine Below.setCell ?_ ?_ _) | go_size))⟩

set_option maxRecDepth 100000 in
set_option maxHeartbeats 1600000 in
theorem line_yes (st : Int) (op : POp) (h : FitsP st op) : Calls Tryz.prog 7 #[.int .i64 st, op.v] w fun e w' => e = .returned (.tuple #[.string (bs (lineL st op)), .nilIface]) ∧ Below w.heap.size w w' := by
  have HF := Lib.hid ((fitsB_true st op).2 h)
  obtain ⟨k1, k8⟩ := fits_kind h
  have HW := Lib.hid (fits_fld h)
  clear h
  obtain ⟨kind, key, val, tall⟩ := op
  simp only [POp.v] at *
  have B0 : Bk (w.alloc (.cells #[.int .i64 kind, .int .i64 key, .int .i64 val, .int .i64 tall] 29)) w.heap.size 29 #[.int .i64 kind, .int .i64 key, .int .i64 val, .int .i64 tall] := Bk.at_ rfl
  have G0 := G.alloc (.cells #[.int .i64 kind, .int .i64 key, .int .i64 val, .int .i64 tall] 29)
  have hb0 : Below w.heap.size w (w.alloc (.cells #[.int .i64 kind, .int .i64 key, .int .i64 val, .int .i64 tall] 29)) := (Below.refl _ _).alloc (Nat.le_refl _) _
  go_enter Tryz.func7, Tryz.ntmps7
  go_wp2_with fail
  refine (fits_any st ⟨kind, key, val, tall⟩ _ _ _ G0.ea).mono ?_
  rintro e w1 ⟨rfl, hb1'⟩
  rw [HF.out]
  have hb1 := hb0.trans (hb1'.mono hb0.size)
  have G1 := G.more hb1
  have B1 := B0.belowAll hb1'
  clear G0 hb0 hb1' B0
  have c0 := B1.cell 0
  simp at c0
  have ho := G1.ops _ _ (opWord_get k1 k8)
  obtain ⟨j, hj⟩ : ∃ j : Nat, (kind - 1).toNat = j := ⟨_, rfl⟩
  have hj8 : j < 8 := by omega
  have hkj : kind - 1 = (j : Int) := by omega
  rw [hj] at ho
  have hi1 : (0 : Int) ≤ (j : Int) := by omega
  have hi2 : (j : Int) < 8 := by omega
  clear hj
  go_wp2_with fail
  refine (fields_any st kind w.heap.size _ c0).mono ?_
  rintro e w2 ⟨A, rfl, hA, hb2', _⟩
  have hb2 := hb1.trans (hb2'.mono hb1.size)
  have B2 := B1.belowAll hb2'
  clear c0 ho hi1 hi2 hkj hb1 hb2' B1 G1
  have L0 : LS st ⟨kind, key, val, tall⟩ 0 (bs (opWord kind)) := ⟨Nat.zero_le _, by simp [jn], by rw [bs_size]; exact opWord_len k1 k8⟩
  have LH := Lib.hid L0; clear L0
  generalize bs (opWord kind) = dk at *
  have hl3 := offs_len st kind
  go_wp2_with fail
  go_loopw [6, 22] (fun t6 t22 wr => ∃ k d, t6 = .string d ∧ t22 = .int .i64 (k : Nat) ∧ LS st ⟨kind, key, val, tall⟩ k d ∧ Below w2.heap.size w2 wr) (fun _ t22 _ => (offs st kind).length - (intOf t22).toNat)
  case atStart => exact ⟨0, dk, rfl, rfl, LH.out, Below.refl _ _⟩
  case round =>
    obtain ⟨k, d, rfl, rfl, L', hbr⟩ := hrel
    have L := Lib.hid L'; clear L' LH
    have hk := L.out.hk
    have hd := L.out.sz
    simp only at hk
    have hbw := hb2.trans (hbr.mono hb2.size)
    by_cases hlt : k < (offs st kind).length
    · obtain ⟨pb, po, rfl, hpb, q1⟩ := (hA.below hbr).at_ hlt (ptrs_get w.heap.size (offs st kind) k hlt)
      have hm := offs_mem (List.getElem_mem hlt)
      have q2 := (B2.belowAll hbr).cell (offs st kind)[k]
      rw [op_cell ⟨kind, key, val, tall⟩ _ hm] at q2
      obtain ⟨v0, v1⟩ := HW.out (offs st kind)[k]
      obtain ⟨dd, hdd, ldd⟩ := dec_size _ v0 v1
      have hst := L.out.step hlt hdd.out ldd
      have HST := Lib.hid hst; clear hst
      have T := Lib.hid (G.more hbw).tab
      have hsum : ¬ (9223372036854775807 < d.size + (1 + dd.size)) := by omega
      clear hm
      generalize fldVal ⟨kind, key, val, tall⟩ (offs st kind)[k] = v at *
      go_wp2_with fail
      refine (dec_is v v0 v1 _ T dd hdd).mono ?_
      rintro e w3 ⟨rfl, hb3⟩
      go_wp2_with fail
      go_roundw
      case rel => exact ⟨k + 1, _, rfl, by go_num, HST.out, hbr.trans (hb3.mono hbr.size)⟩
      case measure => simp [intOf]; omega
    · obtain rfl : k = (offs st kind).length := by omega
      go_wp2_with fail
      go_ret2
      refine ⟨?_, hbw⟩
      have := L.out.tx
      simp only [List.take_length] at this
      rw [this]; rfl
end
end Go.Proofs.YtciioiklkaannaaGreatDoor
