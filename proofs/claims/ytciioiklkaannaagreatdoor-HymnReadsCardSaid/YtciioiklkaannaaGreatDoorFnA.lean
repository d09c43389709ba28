/- Small plain facts on bytes, worlds and slices that the walks of this seat share; no program in sight. Sizes that the walk compares: two rules for its simp. The small functions of lots and of its reference, each by a contract. -/
import Derived.WalkKit
import Derived.WalkSpells
import Derived.WalkLawsBesides
import Derived.Lib.Hide
import Derived.Deep.Draws
import Derived.Laws.OwnMore
import Derived.Deep.AppendLies
import Derived.Laws.Rows
import Derived.Test.YtciioiklkaannaaGreatDoorRows
import Derived.Deep.QuietTactic
import Derived.BigQuiet
import Derived.Deep.RegionHeld3
import Derived.Handy
namespace Go.Proofs.YtciioiklkaannaaGreatDoor
open Go Go.RowKit
set_option linter.unusedSimpArgs false
set_option linter.unusedVariables false
set_option linter.unusedSectionVars false

/-- The byte at a place, and 0 behind the last one. -/
def bat (s : ByteArray) (n : Nat) : Nat := if h : n < s.size then s[n].toNat else 0

theorem bat_lt (s : ByteArray) (n : Nat) : bat s n < 256 := by
  unfold bat; split
  · exact UInt8.toNat_lt _
  · omega

/-- What is left of a text from a place on. -/
def rest (s : ByteArray) (k : Nat) : ByteArray := s.extract k s.size

theorem rest_size (s : ByteArray) (k : Nat) : (rest s k).size = s.size - k := by
  simp [rest]

theorem below_drewN {B : Nat} {a w : World} (h : Below B a w) (n : Nat) : Below B a (w.drewN n) := ⟨h.os, h.tape, h.output, h.size, h.block⟩

theorem bcell {W w1 : World} (hb : Below W.heap.size W w1) : (∀ b o, b < W.heap.size → w1.cell? ⟨b, o, none⟩ = W.cell? ⟨b, o, none⟩) ∧ (∀ b o, b < W.heap.size → w1.frozen? ⟨b, o, none⟩ = W.frozen? ⟨b, o, none⟩) :=
  ⟨fun b o h => hb.cell (p := ⟨b, o, none⟩) h, fun b o h => hb.frozen (p := ⟨b, o, none⟩) h⟩

theorem setCell_same {w : World} {p : Addr} {v : Value} (h : w.cell? p = some v) : w.setCell p v = w := by
  have hh : (w.setCell p v).heap = w.heap := by
    apply Array.ext_getElem?
    intro i
    simp only [World.setCell, Array.getElem?_modify]
    by_cases hi : p.block = i
    · subst hi
      unfold World.cell? at h
      cases hb : w.heap[p.block]? with
      | none => simp [hb] at h
      | some o =>
        cases o <;> simp [hb] at h
        rename_i c e f
        obtain ⟨h1, h2⟩ := h
        simp [h1]
        apply Array.ext_getElem?
        intro j
        rw [Array.getElem?_setIfInBounds]
        split
        · rename_i hj; subst hj
          split
          · exact h2.symm
          · rename_i hlt; rw [Array.getElem?_eq_none (by omega)] at h2; cases h2
        · rfl
    · simp [hi]
  cases w
  simp only [World.setCell] at hh ⊢
  rw [hh]

theorem rest_zero (s : ByteArray) : rest s 0 = s := by
  simp [rest]

theorem rest_step (s : ByteArray) (k : Nat) : (rest s k).extract 1 (rest s k).size = rest s (k + 1) := by
  apply ByteArray.ext
  simp [rest, ByteArray.data_extract, Array.extract_extract]
  congr 1
  omega

theorem rest_head (s : ByteArray) (k : Nat) (h : k < s.size) (h' : 0 < (rest s k).size) : (rest s k)[0].toNat = bat s k := by
  unfold bat
  rw [dif_pos h]
  simp [rest, ByteArray.getElem_extract]

end Go.Proofs.YtciioiklkaannaaGreatDoor
namespace Go.Proofs.YtciioiklkaannaaGreatDoor
open Go Go.RowKit
@[go_sem] theorem size_le {n m : Nat} (h : n < m) : n ≤ m := Nat.le_of_lt h
@[go_sem] theorem size_lt_add {n m k : Nat} (h : n < m) : n < m + k := Nat.lt_of_lt_of_le h (Nat.le_add_right _ _)
@[go_sem] theorem size_le_add {n m k : Nat} (h : n ≤ m) : n ≤ m + k := Nat.le_trans h (Nat.le_add_right _ _)
end Go.Proofs.YtciioiklkaannaaGreatDoor
namespace Go.Proofs.YtciioiklkaannaaGreatDoor
open Go Go.RowKit

theorem w64_byte (b : UInt8) : wrap64 (b.toNat : Int) = b.toNat := by
  have := UInt8.toNat_lt b
  exact IntWalk.wrap64_in _ (by omega)

theorem ret_bool {a b : Bool} (h : a = b) : Ending.returned (.bool a) = .returned (.bool b) := by rw [h]
theorem ret_int {k : IntKind} {a b : Int} (h : a = b) : Ending.returned (.int k a) = .returned (.int k b) := by rw [h]

theorem rest_empty (s : ByteArray) (k : Nat) (h : s.size ≤ k) : rest s k = ⟨#[]⟩ := by
  apply ByteArray.ext
  simp [rest, ByteArray.data_extract]
  omega

theorem isEmpty_of_size {r : ByteArray} (h : 0 < r.size) : r.toList.isEmpty = false := by
  rw [Go.ByteArray.toList_eq]
  cases hd : r.data.toList with
  | nil =>
    have : r.data.size = 0 := by rw [← Array.length_toList, hd]; rfl
    rw [ByteArray.size_data] at this
    omega
  | cons a l => rfl

def RetB (b : Bool) (w : World) (e : Ending) (w' : World) : Prop := e = .returned (.bool b) ∧ Below w.heap.size w w'

def goodCfg (a b c d e : Int) : Bool := decide (1 ≤ a ∧ a ≤ 5 ∧ 1 ≤ b ∧ b ≤ 5 ∧ 1 ≤ c ∧ c ≤ 6 ∧ 0 ≤ d ∧ d ≤ 1024 ∧ 1 ≤ e ∧ e ≤ 64)

theorem goodCfg_true (a b c d e : Int) : goodCfg a b c d e = true ↔ 1 ≤ a ∧ a ≤ 5 ∧ 1 ≤ b ∧ b ≤ 5 ∧ 1 ≤ c ∧ c ≤ 6 ∧ 0 ≤ d ∧ d ≤ 1024 ∧ 1 ≤ e ∧ e ≤ 64 := by
  simp [goodCfg]
theorem goodCfg_false (a b c d e : Int) : goodCfg a b c d e = false ↔ ¬ (1 ≤ a ∧ a ≤ 5 ∧ 1 ≤ b ∧ b ≤ 5 ∧ 1 ≤ c ∧ c ≤ 6 ∧ 0 ≤ d ∧ d ≤ 1024 ∧ 1 ≤ e ∧ e ≤ 64) := by
  rw [← goodCfg_true, Bool.not_eq_true]

theorem parishGood_any (a b c d e : Int) (w : World) :
    Calls Tryz.prog 43 #[.agg #[.int .i64 a, .int .i64 b, .int .i64 c, .int .i64 d, .int .i64 e]] w (RetB (goodCfg a b c d e) w) := by
  go_enter Tryz.func43, Tryz.ntmps43
  go_wp2
  all_goals
    go_ret
    refine ⟨ret_bool (Eq.symm ?_), by go_grown⟩
    rw [Bool.eq_iff_iff, goodCfg_true]
    simp
    omega


/-- An operation, and a task, as plain data. -/
structure POp where
  kind : Int
  key : Int
  val : Int
  tall : Int
  deriving DecidableEq

def POp.cells (o : POp) : List Value := [.int .i64 o.kind, .int .i64 o.key, .int .i64 o.val, .int .i64 o.tall]
def POp.v (o : POp) : Value := .agg #[.int .i64 o.kind, .int .i64 o.key, .int .i64 o.val, .int .i64 o.tall]

def RetV (v : Value) (w : World) (e : Ending) (w' : World) : Prop := e = .returned v ∧ Below w.heap.size w w'

theorem kb_t {a b : Int} (h : (a == b) = true) : a = b := by simpa using h
theorem kb_f {a b : Int} (h : (a == b) = false) : a ≠ b := by simpa using h

end Go.Proofs.YtciioiklkaannaaGreatDoor
