/- The small functions of lots and of its reference, each by a contract. -/
import Derived.Test.YthecbeejlpgdaaaDoorRows
import Derived.Test.YthecbeejlpgdaaaDoorBase
import Derived.Deep.QuietTactic
import Derived.BigQuiet
import Derived.Deep.RegionHeld3
import Derived.Handy
namespace Go.Proofs.YthecbeejlpgdaaaDoor
open Go Go.RowKit
set_option linter.unusedSimpArgs false
set_option linter.unusedVariables false
set_option linter.unusedSectionVars false

theorem w64_byte (b : UInt8) : wrap64 (b.toNat : Int) = b.toNat := by
  have := UInt8.toNat_lt b
  exact IntWalk.wrap64_in _ (by omega)

theorem ret_bool {a b : Bool} (h : a = b) : Ending.returned (.bool a) = .returned (.bool b) := by rw [h]
theorem ret_int {k : IntKind} {a b : Int} (h : a = b) : Ending.returned (.int k a) = .returned (.int k b) := by rw [h]

theorem at_any (s : ByteArray) (n : Nat) (w : World) (hs : s.size ≤ 9223372036854775807) (hn : n ≤ 9223372036854775807) :
    Calls Tryd.prog 26 #[.string s, .int .i64 n] w fun e w' => e = .returned (.int .i64 (bat s n)) ∧ w = w' := by
  unfold bat
  by_cases h : n < s.size
  · rw [dif_pos h]
    go_enter Tryd.func26, Tryd.ntmps26
    go_wp2
    go_ret
    exact ⟨ret_int (w64_byte _), rfl⟩
  · rw [dif_neg h]
    go_enter Tryd.func26, Tryd.ntmps26
    go_wp2
    go_ret
    exact ⟨rfl, rfl⟩

theorem rest_empty (s : ByteArray) (k : Nat) (h : s.size ≤ k) : rest s k = ⟨#[]⟩ := by
  apply ByteArray.ext
  simp [rest, ByteArray.data_extract]
  omega

theorem isEmpty_of_size {r : ByteArray} (h : 0 < r.size) : r.toList.isEmpty = false := by
  rw [Go.ByteArray.toList_eq]
  cases hd : r.data.toList with
  | nil =>
    have : r.data.size = 0 := by rw [← Array.length_toList, hd]; rfl
    rw [ByteArray.size_data] at this
    omega
  | cons a l => rfl

theorem next_any (s : ByteArray) (k : Nat) (p : Addr) (w : World) (hc : w.cell? p = some (.string (rest s k))) (hf : w.frozen? p = false) :
    Calls Tryd.prog 24 #[.pointer (some p)] w fun e w' => e = .returned (.int .i64 (bat s k)) ∧ w.setCell p (.string (rest s (k + 1))) = w' := by
  by_cases h : k < s.size
  · have h1 : 0 < (rest s k).size := by rw [rest_size]; omega
    have hh := rest_head s k h h1
    have hst := rest_step s k
    generalize hr : rest s k = r at *
    generalize hr' : rest s (k + 1) = r' at *
    have hne : r.toList.isEmpty = false := isEmpty_of_size h1
    have H1 := Lib.hid hh; clear hh
    have H2 := Lib.hid hst; clear hst
    clear hr hr'
    go_enter Tryd.func24, Tryd.ntmps24
    go_wp2
    go_ret
    exact ⟨ret_int (by rw [← H1.out]; exact w64_byte _), by rw [H2.out]⟩
  · have hb : bat s k = 0 := by unfold bat; rw [dif_neg h]
    have he : rest s (k + 1) = rest s k := by rw [rest_empty s k (by omega), rest_empty s (k + 1) (by omega)]
    rw [he, setCell_same hc, hb]
    have h0 := rest_empty s k (by omega)
    rw [h0] at hc
    clear he hb h0
    go_enter Tryd.func24, Tryd.ntmps24
    go_wp2
    go_ret
    exact ⟨rfl, rfl⟩

def goodCfg (a b c d e : Int) : Bool := decide (1 ≤ a ∧ a ≤ 5 ∧ 1 ≤ b ∧ b ≤ 5 ∧ 1 ≤ c ∧ c ≤ 6 ∧ 0 ≤ d ∧ d ≤ 1024 ∧ 1 ≤ e ∧ e ≤ 64)

theorem goodCfg_true (a b c d e : Int) : goodCfg a b c d e = true ↔ 1 ≤ a ∧ a ≤ 5 ∧ 1 ≤ b ∧ b ≤ 5 ∧ 1 ≤ c ∧ c ≤ 6 ∧ 0 ≤ d ∧ d ≤ 1024 ∧ 1 ≤ e ∧ e ≤ 64 := by
  simp [goodCfg]
theorem goodCfg_false (a b c d e : Int) : goodCfg a b c d e = false ↔ ¬ (1 ≤ a ∧ a ≤ 5 ∧ 1 ≤ b ∧ b ≤ 5 ∧ 1 ≤ c ∧ c ≤ 6 ∧ 0 ≤ d ∧ d ≤ 1024 ∧ 1 ≤ e ∧ e ≤ 64) := by
  rw [← goodCfg_true, Bool.not_eq_true]

def RetB (b : Bool) (w : World) (e : Ending) (w' : World) : Prop := e = .returned (.bool b) ∧ Below w.heap.size w w'

theorem parishGood_any (a b c d e : Int) (w : World) :
    Calls Tryd.prog 19 #[.agg #[.int .i64 a, .int .i64 b, .int .i64 c, .int .i64 d, .int .i64 e]] w (RetB (goodCfg a b c d e) w) := by
  go_enter Tryd.func19, Tryd.ntmps19
  go_wp2
  all_goals
    go_ret
    refine ⟨ret_bool (Eq.symm ?_), by go_grown⟩
    rw [Bool.eq_iff_iff, goodCfg_true]
    simp
    omega

/-- An operation, and a task, as plain data. -/
structure POp where
  kind : Int
  key : Int
  val : Int
  tall : Int
  deriving DecidableEq

def POp.cells (o : POp) : List Value := [.int .i64 o.kind, .int .i64 o.key, .int .i64 o.val, .int .i64 o.tall]
def POp.v (o : POp) : Value := .agg #[.int .i64 o.kind, .int .i64 o.key, .int .i64 o.val, .int .i64 o.tall]

def formOp (st kind x y : Int) : POp :=
  if kind = 1 ∨ kind = 4 then ⟨kind, 0, 256 * x + y, 0⟩
  else if kind = 6 then ⟨kind, x, y, if st = 5 then y % 3 + 1 else 0⟩
  else if kind = 7 ∨ kind = 8 then ⟨kind, x, 0, 0⟩
  else ⟨kind, 0, 0, 0⟩

def RetV (v : Value) (w : World) (e : Ending) (w' : World) : Prop := e = .returned v ∧ Below w.heap.size w w'

theorem kb_t {a b : Int} (h : (a == b) = true) : a = b := by simpa using h
theorem kb_f {a b : Int} (h : (a == b) = false) : a ≠ b := by simpa using h

set_option maxHeartbeats 400000 in
theorem form_any (st kind x y : Int) (w : World) (hx0 : 0 ≤ x) (hx1 : x ≤ 255) (hy0 : 0 ≤ y) (hy1 : y ≤ 255) :
    Calls Tryd.prog 25 #[.int .i64 st, .int .i64 kind, .int .i64 x, .int .i64 y] w (RetV (formOp st kind x y).v w) := by
  go_enter Tryd.func25, Tryd.ntmps25
  go_wp2
  all_goals
    go_returns
    refine ⟨?_, by go_grown⟩
    simp_all [formOp, POp.v]

end Go.Proofs.YthecbeejlpgdaaaDoor
