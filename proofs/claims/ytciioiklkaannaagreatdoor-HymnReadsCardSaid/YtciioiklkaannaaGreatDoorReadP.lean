/- The words of an operation, read: plain laws. hymn.find. -/
import Derived.Test.YtciioiklkaannaaGreatDoorLine
namespace Go.Proofs.YtciioiklkaannaaGreatDoor
open Go Go.RowKit
set_option linter.unusedSimpArgs false
set_option linter.unusedVariables false
set_option linter.unusedSectionVars false

def mkOp (st kind : Int) (ns : List Nat) : POp :=
  if kind = 1 ∨ kind = 4 then ⟨kind, 0, ns.getD 0 0, 0⟩ else if kind = 6 then (if st = 5 then ⟨kind, ns.getD 0 0, ns.getD 1 0, ns.getD 2 0⟩ else ⟨kind, ns.getD 0 0, ns.getD 1 0, 0⟩)
  else if kind = 7 ∨ kind = 8 then ⟨kind, ns.getD 0 0, 0, 0⟩ else ⟨kind, 0, 0, 0⟩
def opCells (op : POp) : Array Value := #[.int .i64 op.kind, .int .i64 op.key, .int .i64 op.val, .int .i64 op.tall]
theorem mk_kind (st kind : Int) (ns : List Nat) : (mkOp st kind ns).kind = kind := by
  unfold mkOp
  split
  · rfl
  · split
    · split <;> rfl
    · split <;> rfl
theorem mk_cells (st kind : Int) (ns : List Nat) (h : ns.length = (offs st kind).length) : setAll #[.int .i64 kind, .int .i64 0, .int .i64 0, .int .i64 0] (offs st kind) ns = opCells (mkOp st kind ns) := by
  unfold offs mkOp at *
  split at h
  · rename_i h1; simp only [if_pos h1]
    match ns, h with
    | [v], _ => rfl
  · rename_i h1; simp only [if_neg h1]
    split at h
    · rename_i h2; simp only [if_pos h2]
      split at h
      · rename_i h3; simp only [if_pos h3]
        match ns, h with
        | [k, v, t], _ => rfl
      · rename_i h3; simp only [if_neg h3]
        match ns, h with
        | [k, v], _ => rfl
    · rename_i h2; simp only [if_neg h2]
      split at h
      · rename_i h3; simp only [if_pos h3]
        match ns, h with
        | [v], _ => rfl
      · rename_i h3; simp only [if_neg h3]
        match ns, h with
        | [], _ => rfl
theorem mk_words (st kind : Int) (ns : List Nat) (h : ns.length = (offs st kind).length) : (offs st kind).map (fldWord (mkOp st kind ns)) = ns.map Lib.decDigits := by
  unfold offs mkOp at *
  split at h
  · rename_i h1; simp only [if_pos h1]
    match ns, h with
    | [v], _ => simp [fldWord, fldVal]
  · rename_i h1; simp only [if_neg h1]
    split at h
    · rename_i h2; simp only [if_pos h2]
      split at h
      · rename_i h3; simp only [if_pos h3]
        match ns, h with
        | [k, v, t], _ => simp [fldWord, fldVal]
      · rename_i h3; simp only [if_neg h3]
        match ns, h with
        | [k, v], _ => simp [fldWord, fldVal]
    · rename_i h2; simp only [if_neg h2]
      split at h
      · rename_i h3; simp only [if_pos h3]
        match ns, h with
        | [v], _ => simp [fldWord, fldVal]
      · rename_i h3; simp only [if_neg h3]
        match ns, h with
        | [], _ => rfl
theorem dec_inj {n m : Nat} (h : Lib.decDigits n = Lib.decDigits m) : n = m := by
  have := congrArg dval h
  rw [dval_dec, dval_dec] at this
  omega
theorem dec_int {v : Int} {n : Nat} (h0 : 0 ≤ v) (h : Lib.decDigits v.toNat = Lib.decDigits n) : (n : Int) = v := by
  have := dec_inj h; omega
theorem mk_fits {st : Int} {op : POp} (hf : FitsP st op) (ns : List Nat) (h : (offs st op.kind).map (fldWord op) = ns.map Lib.decDigits) : mkOp st op.kind ns = op := by
  have hv := fun o => (fits_fld hf o).1
  obtain ⟨kind, key, val, tall⟩ := op
  unfold FitsP at hf
  simp only at hf
  unfold offs at h
  unfold mkOp
  simp only at h ⊢
  split at h
  · rename_i h1; rw [if_pos h1]
    have hl : ns.length = 1 := by have := congrArg List.length h; simpa using this.symm
    match ns, hl, h with
    | [v], _, h =>
      simp only [List.map_cons, List.map_nil, List.cons.injEq, and_true, fldWord] at h
      have e := dec_int (hv 2) h
      simp only [fldVal] at e
      simp at e ⊢
      omega
  · rename_i h1; rw [if_neg h1]
    split at h
    · rename_i h2; rw [if_pos h2]
      split at h
      · rename_i h3; rw [if_pos h3]
        have hl : ns.length = 3 := by have := congrArg List.length h; simpa using this.symm
        match ns, hl, h with
        | [k, v, t], _, h =>
          simp only [List.map_cons, List.map_nil, List.cons.injEq, and_true, fldWord] at h
          have e1 := dec_int (hv 1) h.1
          have e2 := dec_int (hv 2) h.2.1
          have e3 := dec_int (hv 3) h.2.2
          simp only [fldVal] at e1 e2 e3
          simp at e1 e2 e3 ⊢
          omega
      · rename_i h3; rw [if_neg h3]
        have hl : ns.length = 2 := by have := congrArg List.length h; simpa using this.symm
        match ns, hl, h with
        | [k, v], _, h =>
          simp only [List.map_cons, List.map_nil, List.cons.injEq, and_true, fldWord] at h
          have e1 := dec_int (hv 1) h.1
          have e2 := dec_int (hv 2) h.2
          simp only [fldVal] at e1 e2
          simp at e1 e2 ⊢
          omega
    · rename_i h2; rw [if_neg h2]
      split at h
      · rename_i h3; rw [if_pos h3]
        have hl : ns.length = 1 := by have := congrArg List.length h; simpa using this.symm
        match ns, hl, h with
        | [v], _, h =>
          simp only [List.map_cons, List.map_nil, List.cons.injEq, and_true, fldWord] at h
          have e := dec_int (hv 1) h
          simp only [fldVal] at e
          simp at e ⊢
          omega
      · rename_i h3; rw [if_neg h3]
        simp
        omega

def opW : List ByteArray := opWords.map bs
/-- Which operation a word is. -/
def kindOf (x : ByteArray) : Int := Lib.idxOfS opW x + 1
theorem kindOf_hit {k : Int} (h1 : 1 ≤ k) (h8 : k ≤ 8) : kindOf (bs (opWord k)) = k := by
  have : k = 1 ∨ k = 2 ∨ k = 3 ∨ k = 4 ∨ k = 5 ∨ k = 6 ∨ k = 7 ∨ k = 8 := by omega
  rcases this with rfl | rfl | rfl | rfl | rfl | rfl | rfl | rfl <;> decide
theorem kindOf_word {x : ByteArray} (h1 : 1 ≤ kindOf x) : x = bs (opWord (kindOf x)) := by
  have hm : x ∈ opW := (Lib.idxOfS_nonneg_iff opW x).1 (by unfold kindOf at h1; omega)
  obtain ⟨l, hl, rfl⟩ := List.mem_map.1 hm
  simp only [opWords, List.mem_cons, List.mem_nil_iff, or_false] at hl
  rcases hl with rfl | rfl | rfl | rfl | rfl | rfl | rfl | rfl <;> decide
theorem opWord_no32 {k : Int} (h1 : 1 ≤ k) (h8 : k ≤ 8) : ∀ b ∈ opWord k, b ≠ 32 := by
  have : k = 1 ∨ k = 2 ∨ k = 3 ∨ k = 4 ∨ k = 5 ∨ k = 6 ∨ k = 7 ∨ k = 8 := by omega
  rcases this with rfl | rfl | rfl | rfl | rfl | rfl | rfl | rfl <;> decide
theorem dec_no (c : UInt8) (hc : c.toNat < 48) (n : Nat) : ∀ b ∈ Lib.decDigits n, b ≠ c := fun b hb e => by
  have := dec_dig n b hb
  unfold isDig at this
  rw [e] at this
  omega
theorem lineW_no32 {st : Int} {op : POp} (h : FitsP st op) : ∀ x ∈ lineW st op, ∀ b ∈ x, b ≠ 32 := by
  intro x hx
  obtain ⟨h1, h8⟩ := fits_kind h
  rcases List.mem_cons.1 hx with rfl | hx
  · exact opWord_no32 h1 h8
  · obtain ⟨o, _, rfl⟩ := List.mem_map.1 hx
    exact dec_no 32 (by decide) _
/-- The words of a text that is an operation's. -/
theorem line_words {st : Int} {op : POp} (h : FitsP st op) {s : ByteArray} (hs : bs (lineL st op) = s) : sp 32 s.data.toList = lineW st op := by
  rw [← hs, bs_data]
  exact sp_jn 32 _ (by simp [lineW]) (lineW_no32 h)
theorem map_bs_inj {l m : List (List UInt8)} (h : l.map bs = m.map bs) : l = m := by
  have := congrArg (List.map fun s : ByteArray => s.data.toList) h
  simpa [Function.comp_def, bs_data] using this
theorem numB_map (ns : List Nat) : ns.map numB = (ns.map Lib.decDigits).map bs := by simp [numB]
/-- Read: yes. -/
theorem read_yes {st : Int} {s : ByteArray} {x : List UInt8} {xs : List (List UInt8)} (hW : sp 32 s.data.toList = x :: xs) {ns : List Nat} (hn : FillIs (offs st (kindOf (bs x))).length (xs.map bs) ns)
    (hf : FitsP st (mkOp st (kindOf (bs x)) ns)) : bs (lineL st (mkOp st (kindOf (bs x)) ns)) = s := by
  have hk := fits_kind hf
  rw [mk_kind] at hk
  have hx := bs_inj (kindOf_word hk.1)
  have h2 := hn.2.1
  rw [numB_map] at h2
  have h3 := map_bs_inj h2
  unfold lineL lineW
  rw [mk_kind, ← hx, mk_words st _ ns hn.1, ← h3, ← hW, jn_sp, s_bs]
/-- Read: what is an operation's text is read as it. -/
theorem read_back {st : Int} {s : ByteArray} {x : List UInt8} {xs : List (List UInt8)} (hW : sp 32 s.data.toList = x :: xs) {op : POp} (hf : FitsP st op) (hs : bs (lineL st op) = s) :
    kindOf (bs x) = op.kind ∧ (∃ ns, FillIs (offs st (kindOf (bs x))).length (xs.map bs) ns) ∧ ∀ ns, FillIs (offs st (kindOf (bs x))).length (xs.map bs) ns → mkOp st (kindOf (bs x)) ns = op := by
  have hk := fits_kind hf
  have h1 := line_words hf hs
  rw [hW] at h1
  unfold lineW at h1
  obtain ⟨rfl, rfl⟩ := List.cons.inj h1
  rw [kindOf_hit hk.1 hk.2]
  refine ⟨rfl, ⟨(offs st op.kind).map (fun o => (fldVal op o).toNat), by simp, ?_, ?_⟩, fun ns hn => mk_fits hf ns ?_⟩
  · simp [numB, fldWord]
  · intro n hn
    obtain ⟨o, _, rfl⟩ := List.mem_map.1 hn
    have := fits_fld hf o
    omega
  · have h2 := hn.2.1
    rw [numB_map] at h2
    exact map_bs_inj h2

theorem idx_bd : ∀ (zs : List ByteArray) (x : ByteArray) (i : Nat), -1 ≤ Lib.idxFromS zs x i ∧ Lib.idxFromS zs x i < (i + zs.length : Nat) ∨ Lib.idxFromS zs x i = -1
  | [], x, i => Or.inr rfl
  | z :: zs, x, i => by
    unfold Lib.idxFromS
    split
    · exact Or.inl ⟨by omega, by simp; omega⟩
    · rcases idx_bd zs x (i + 1) with ⟨h1, h2⟩ | h
      · exact Or.inl ⟨h1, by simp; omega⟩
      · exact Or.inr h
set_option maxHeartbeats 400000 in
theorem find_any (zs : List ByteArray) (b n c : Nat) (x : ByteArray) (w : World) (T : TypeId) (hn : zs.length = n) (hz : n ≤ 8) (hB : Bk w b T (strs zs).toArray) :
    Calls Tryz.prog 39 #[.string x, .slice (some ⟨b, 0, none⟩) n c] w fun e w' => e = .returned (.int .i64 (Lib.idxOfS zs x + 1)) ∧ w = w' := by
  have hc : ∀ j, j < zs.length → w.cell? ⟨b, 0 + j, none⟩ = some (.string (zs.getD j ByteArray.empty)) := fun j hj => by
    rw [Nat.zero_add, hB.cell]
    simp [strs, hj]
  have hl : Lib.idxOfS zs x ≤ 8 ∧ -1 ≤ Lib.idxOfS zs x := by
    have h1 := idx_bd zs x 0
    unfold Lib.idxOfS; omega
  have ht : zs.take n = zs := by rw [← hn, List.take_length]
  have H := Tryz.slices_Index_string b 0 n c zs x w (by omega) (by omega) hc
  rw [ht] at H
  have HH := Lib.hid H; clear H ht hc
  generalize Lib.idxOfS zs x = v at *
  go_enter Tryz.func39, Tryz.ntmps39
  go_wp2_with fail
  refine HH.out.mono ?_
  rintro e w' ⟨rfl, rfl⟩
  go_wp2_with fail
  go_ret
  exact ⟨rfl, rfl⟩
end Go.Proofs.YtciioiklkaannaaGreatDoor
