/- The small functions of lots and of its reference, each by a contract. -/
import Derived.Test.YtciioiklkaannaaGreatDoorRows
import Derived.Test.YtciioiklkaannaaGreatDoorBase
import Derived.Test.YtciioiklkaannaaGreatDoorSize
import Derived.Test.YtciioiklkaannaaGreatDoorSize
import Derived.Deep.QuietTactic
import Derived.BigQuiet
import Derived.Deep.RegionHeld3
import Derived.Handy
namespace Go.Proofs.YtciioiklkaannaaGreatDoor
open Go Go.RowKit
set_option linter.unusedSimpArgs false
set_option linter.unusedVariables false
set_option linter.unusedSectionVars false

theorem w64_byte (b : UInt8) : wrap64 (b.toNat : Int) = b.toNat := by
  have := UInt8.toNat_lt b
  exact IntWalk.wrap64_in _ (by omega)

theorem ret_bool {a b : Bool} (h : a = b) : Ending.returned (.bool a) = .returned (.bool b) := by rw [h]
theorem ret_int {k : IntKind} {a b : Int} (h : a = b) : Ending.returned (.int k a) = .returned (.int k b) := by rw [h]

theorem rest_empty (s : ByteArray) (k : Nat) (h : s.size ≤ k) : rest s k = ⟨#[]⟩ := by
  apply ByteArray.ext
  simp [rest, ByteArray.data_extract]
  omega

theorem isEmpty_of_size {r : ByteArray} (h : 0 < r.size) : r.toList.isEmpty = false := by
  rw [Go.ByteArray.toList_eq]
  cases hd : r.data.toList with
  | nil =>
    have : r.data.size = 0 := by rw [← Array.length_toList, hd]; rfl
    rw [ByteArray.size_data] at this
    omega
  | cons a l => rfl

def RetB (b : Bool) (w : World) (e : Ending) (w' : World) : Prop := e = .returned (.bool b) ∧ Below w.heap.size w w'

def goodCfg (a b c d e : Int) : Bool := decide (1 ≤ a ∧ a ≤ 5 ∧ 1 ≤ b ∧ b ≤ 5 ∧ 1 ≤ c ∧ c ≤ 6 ∧ 0 ≤ d ∧ d ≤ 1024 ∧ 1 ≤ e ∧ e ≤ 64)

theorem goodCfg_true (a b c d e : Int) : goodCfg a b c d e = true ↔ 1 ≤ a ∧ a ≤ 5 ∧ 1 ≤ b ∧ b ≤ 5 ∧ 1 ≤ c ∧ c ≤ 6 ∧ 0 ≤ d ∧ d ≤ 1024 ∧ 1 ≤ e ∧ e ≤ 64 := by
  simp [goodCfg]
theorem goodCfg_false (a b c d e : Int) : goodCfg a b c d e = false ↔ ¬ (1 ≤ a ∧ a ≤ 5 ∧ 1 ≤ b ∧ b ≤ 5 ∧ 1 ≤ c ∧ c ≤ 6 ∧ 0 ≤ d ∧ d ≤ 1024 ∧ 1 ≤ e ∧ e ≤ 64) := by
  rw [← goodCfg_true, Bool.not_eq_true]

theorem parishGood_any (a b c d e : Int) (w : World) :
    Calls Tryz.prog 43 #[.agg #[.int .i64 a, .int .i64 b, .int .i64 c, .int .i64 d, .int .i64 e]] w (RetB (goodCfg a b c d e) w) := by
  go_enter Tryz.func43, Tryz.ntmps43
  go_wp2
  all_goals
    go_ret
    refine ⟨ret_bool (Eq.symm ?_), by go_grown⟩
    rw [Bool.eq_iff_iff, goodCfg_true]
    simp
    omega


/-- An operation, and a task, as plain data. -/
structure POp where
  kind : Int
  key : Int
  val : Int
  tall : Int
  deriving DecidableEq

def POp.cells (o : POp) : List Value := [.int .i64 o.kind, .int .i64 o.key, .int .i64 o.val, .int .i64 o.tall]
def POp.v (o : POp) : Value := .agg #[.int .i64 o.kind, .int .i64 o.key, .int .i64 o.val, .int .i64 o.tall]

def RetV (v : Value) (w : World) (e : Ending) (w' : World) : Prop := e = .returned v ∧ Below w.heap.size w w'

theorem kb_t {a b : Int} (h : (a == b) = true) : a = b := by simpa using h
theorem kb_f {a b : Int} (h : (a == b) = false) : a ≠ b := by simpa using h

end Go.Proofs.YtciioiklkaannaaGreatDoor
