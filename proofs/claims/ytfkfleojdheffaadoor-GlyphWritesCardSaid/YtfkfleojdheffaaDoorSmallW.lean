/- What GlyphSame and GlyphMoves share. -/
import Derived.Test.YtfkfleojdheffaaDoorAwakeW
namespace Go.Proofs.YtfkfleojdheffaaDoor
open Go Go.RowKit
set_option linter.unusedSimpArgs false
set_option linter.unusedVariables false
set_option linter.unusedSectionVars false

section
variable {P : Program}
/-- A load of a whole struct, in every world of a class. -/
theorem quiet_load_row {o : Oper} {a : Act} {C : World → Prop} {K : Act → Prop} (ty : TypeId) (x : Operand) (ho : o.op = .load ty x)
    (g : Nat) (hx : a.eval x = .pointer (some ⟨g, 0, none⟩)) (cs : Array Value) (d : TypeDesc) (hg : ∀ w, C w → Bk w g ty cs)
    (hu : P.underlying ty = some d) (hd : (match d with | .struct _ | .array _ _ => true | _ => false) = true) (hi : (P.info? ty).map (·.size) = some cs.size)
    (h : K (a.put o.dst (.agg cs))) : o.quiet P a C K := by
  refine ⟨_, fun w hw => ?_, h⟩
  unfold Oper.quietAt execOp
  simp only [ho, hx, Instr.loadAt, Instr.sureAddr, Sem.run_bind, Sem.run_pure, Result.andThen_ok, run_loadVar_row w g ty ty cs _ d (hg w hw) hu hd hi]
  exact ⟨rfl, rfl⟩
/-- A choice between bools. -/
theorem quiet_pick_t {o : Oper} {a : Act} {C : World → Prop} {K : Act → Prop} (c x y : Operand) (b : Bool) (h : o.op = .pick c x y) (hc : a.eval c = .bool true) (hv : a.eval x = .bool b) (hk : K (a.put o.dst (.bool b))) : o.quiet P a C K := by
  refine ⟨_, fun w _ => ?_, hk⟩
  unfold Oper.quietAt execOp
  simp [h, hc, hv, asBool, Oper.quietUpon]
theorem quiet_pick_f {o : Oper} {a : Act} {C : World → Prop} {K : Act → Prop} (c x y : Operand) (b : Bool) (h : o.op = .pick c x y) (hc : a.eval c = .bool false) (hv : a.eval y = .bool b) (hk : K (a.put o.dst (.bool b))) : o.quiet P a C K := by
  refine ⟨_, fun w _ => ?_, hk⟩
  unfold Oper.quietAt execOp
  simp [h, hc, hv, asBool, Oper.quietUpon]
end
theorem infoWord : (Tryd.prog.info? 23).map (·.size) = some 5 := by kernel_rfl
theorem bk5 {w : World} {g : Nat} {t : TypeId} {p0 p1 p2 p3 : Int} {p4 : Bool} (h : Bk w g t #[.int .i64 p0, .int .i64 p1, .int .i64 p2, .int .i64 p3, .bool p4]) :
    w.cell? ⟨g, 0, none⟩ = some (.int .i64 p0) ∧ w.cell? ⟨g, 1, none⟩ = some (.int .i64 p1) ∧ w.cell? ⟨g, 2, none⟩ = some (.int .i64 p2) ∧ w.cell? ⟨g, 3, none⟩ = some (.int .i64 p3) ∧ w.cell? ⟨g, 4, none⟩ = some (.bool p4) :=
  ⟨h.cell 0, h.cell 1, h.cell 2, h.cell 3, h.cell 4⟩
theorem same_is {x y : PW} {b : Bool} (h : sameB x y = b) (w : World) : Calls Tryd.prog 15 #[.agg #[.int .i64 x.slot, .int .i64 x.gen, .int .i64 x.tag, .int .i64 x.num, .bool x.mark], .agg #[.int .i64 y.slot, .int .i64 y.gen, .int .i64 y.tag, .int .i64 y.num, .bool y.mark]] w (RetB b w) := h ▸ same_any x y w
theorem same_self (x : PW) : sameB x x = true := by simp [sameB]
theorem same_comm (x y : PW) : sameB y x = sameB x y := by simp only [sameB]; rw [decide_eq_decide]; constructor <;> (rintro ⟨h1, h2, h3, h4⟩; exact ⟨h1.symm, h2.symm, h3.symm, h4.symm⟩)
theorem same_trans {x y z : PW} (h : sameB x y = true) (h' : sameB y z = true) : sameB x z = true := by simp only [sameB, decide_eq_true_eq] at *; exact ⟨h.1.trans h'.1, h.2.1.trans h'.2.1, h.2.2.1.trans h'.2.2.1, h.2.2.2.trans h'.2.2.2⟩
theorem xor_ne (n : Int) : n ≠ bits .xor .i64 n 1 := by
  intro h
  have e : BitVec.ofInt 64 (bits .xor .i64 n 1) = BitVec.ofInt 64 n ^^^ 1#64 := by
    rw [show bits .xor .i64 n 1 = IntKind.i64.wrap ((BitVec.ofInt 64 n ^^^ 1#64).toNat : Int) from rfl]
    generalize BitVec.ofInt 64 n ^^^ 1#64 = v
    apply BitVec.eq_of_toNat_eq
    rw [BitVec.toNat_ofInt]
    have hb := v.isLt
    simp [IntKind.wrap, IntKind.bits, IntKind.signed]
    first | omega | (split <;> omega)
  rw [← h] at e
  have e2 : BitVec.ofInt 64 n ^^^ BitVec.ofInt 64 n = BitVec.ofInt 64 n ^^^ (BitVec.ofInt 64 n ^^^ 1#64) := congrArg _ e
  rw [← BitVec.xor_assoc, BitVec.xor_self, BitVec.zero_xor] at e2
  exact absurd e2 (by decide)
theorem wrap_ne (n : Int) : wrap64 (n + 1) ≠ n := by
  intro h
  have := congrArg (· % 18446744073709551616) h
  simp only [wrap64] at this
  omega
theorem to_is {x y : PW} {t : Int} (h : wrap64 (x.tag + 1) = t) (w : World) : Calls Tryd.prog 16 #[.agg #[.int .i64 x.slot, .int .i64 x.gen, .int .i64 x.tag, .int .i64 x.num, .bool x.mark], .agg #[.int .i64 y.slot, .int .i64 y.gen, .int .i64 y.tag, .int .i64 y.num, .bool y.mark]] w
    (fun e w' => e = .returned (.agg #[.int .i64 y.slot, .int .i64 y.gen, .int .i64 t, .int .i64 0, .bool false]) ∧ Below w.heap.size w w') := by subst h; exact to_any x y w
theorem marked_is {x : PW} {t : Int} (h : wrap64 (x.tag + 1) = t) (w : World) : Calls Tryd.prog 17 #[.agg #[.int .i64 x.slot, .int .i64 x.gen, .int .i64 x.tag, .int .i64 x.num, .bool x.mark]] w
    (fun e w' => e = .returned (.agg #[.int .i64 x.slot, .int .i64 x.gen, .int .i64 t, .int .i64 x.num, .bool true]) ∧ Below w.heap.size w w') := by subst h; exact marked_any x w
theorem count_is {x : PW} {n t u : Int} (h : wrap64 (x.tag + 1) = t) (hu : wrap64 (x.num + n) = u) (w : World) : Calls Tryd.prog 18 #[.agg #[.int .i64 x.slot, .int .i64 x.gen, .int .i64 x.tag, .int .i64 x.num, .bool x.mark], .int .i64 n] w
    (fun e w' => e = .returned (.agg #[.int .i64 0, .int .i64 0, .int .i64 t, .int .i64 u, .bool false]) ∧ Below w.heap.size w w') := by subst h hu; exact count_any x n w
theorem ref_is (x : PW) (w : World) : Calls Tryd.prog 19 #[.agg #[.int .i64 x.slot, .int .i64 x.gen, .int .i64 x.tag, .int .i64 x.num, .bool x.mark]] w
    (fun e w' => e = .returned (.agg #[.int .i64 x.slot, .int .i64 x.gen, .int .i64 0, .int .i64 0, .bool false]) ∧ Below w.heap.size w w') := ref_any x w
theorem same_no {x y : PW} (h : x.tag ≠ y.tag) : sameB x y = false := by simp [sameB, h]
end Go.Proofs.YtfkfleojdheffaaDoor
