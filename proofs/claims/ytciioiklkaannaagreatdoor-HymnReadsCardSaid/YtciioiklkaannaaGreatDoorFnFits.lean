/- The cell of a root; the beginning of an operation on a list. Whether an operation fits a structure: litany.Start. Whether an operation fits a structure: sexton/vault.Start. Whether an operation fits a structure: creed.Fits. -/
import Derived.Test.YtciioiklkaannaaGreatDoorFnSteeplestart
import Derived.Test.YtciioiklkaannaaGreatDoorFnA
namespace Go.Proofs.YtciioiklkaannaaGreatDoor
open Go Go.RowKit
set_option linter.unusedSimpArgs false
set_option linter.unusedVariables false
set_option linter.unusedSectionVars false

theorem boardRoot_any (n : Int) (w : World) (h0 : 0 ≤ n) (h1 : n < 24) :
    Calls Tryz.prog 64 #[.int .i64 n] w fun e w' => e = .returned (.tuple #[.agg #[.int .i64 0, .int .i64 0, .int .i64 n], .nilIface]) ∧
      w.alloc (.cells #[.int .i64 0, .int .i64 0, .int .i64 n] 120) = w' := by
  go_enter Tryz.func64, Tryz.ntmps64
  go_wp2
  go_returns
  exact ⟨by simp, rfl⟩

def RetP (w : World) (e : Ending) (w' : World) : Prop := (∃ p, e = .returned (.pointer p)) ∧ Below w.heap.size w w'

theorem litanyFrom_any (a b c k : Int) (o : POp) (w : World) :
    Calls Tryz.prog 65 #[.agg #[.int .i64 a, .int .i64 b, .int .i64 c], .int .i64 k, o.v] w (RetP w) := by
  obtain ⟨kind, key, val, tall⟩ := o
  simp only [POp.v]
  go_enter Tryz.func65, Tryz.ntmps65
  go_wp2
  all_goals
    go_ret
    exact ⟨⟨_, rfl⟩, by (repeat' (first | (with_reducible exact Below.refl _ _) | (with_reducible assumption) | (with_reducible refine Below.alloc ?_ ?_ _) | (with_reducible refine Below.drew ?_) | (with_reducible refine below_drewN ?_ _) | (with_reducible refine Below.setCell ?_ ?_ _) | go_size))⟩

end Go.Proofs.YtciioiklkaannaaGreatDoor
namespace Go.Proofs.YtciioiklkaannaaGreatDoor
open Go Go.RowKit

set_option maxHeartbeats 400000 in
theorem litanyStart_any (o : POp) (w : World) (T : TypeId) (u : Value) (hE : w.cell? ⟨0, 0, none⟩ = some (.iface T u)) :
    Calls Tryz.prog 49 #[o.v] w (RetErr (fitsB 3 o) w) := by
  obtain ⟨kind, key, val, tall⟩ := o
  simp only [POp.v]
  have hlt := World.block_lt_of_cell? w _ hE
  simp at hlt
  have hlt0 : 0 < w.heap.size := by omega
  cases hg : goodLB ⟨kind, key, val, tall⟩
  all_goals
    have hg' := hg
    first | rw [Bool.eq_false_iff, Ne, goodLB_true, goodL] at hg' | rw [goodLB_true, goodL] at hg'
    simp at hg'
    have HG := Lib.hid hg'; clear hg'
    go_enter Tryz.func49, Tryz.ntmps49
    go_wp2_with (first | (go_at_call 63; refine (litanyGood_any ⟨kind, key, val, tall⟩ _).mono ?_; rintro e w1 ⟨rfl, hb1⟩; obtain ⟨hc1, hf1⟩ := bcell hb1; have hz1 : w.heap.size < w1.heap.size := (by have h := hb1.size; simp at h; omega)) | (go_at_call 62; refine (woeAt_any _ _ _ _).mono ?_; rintro e w' ⟨rfl, rfl⟩) | (go_at_call 64; refine (boardRoot_any _ _ (by omega) (by omega)).mono ?_; rintro e w' ⟨rfl, rfl⟩) | (go_at_call 65; refine (litanyFrom_any _ _ _ _ ⟨kind, key, val, tall⟩ _).mono ?_; rintro e w2 ⟨⟨p2, rfl⟩, hb2⟩))
    all_goals
      go_ret2
      have hg' := HG.out
      have hB : Below w.heap.size w w1 := ((Below.refl _ _).alloc (Nat.le_refl _) _).trans (hb1.mono (by simp))
      have hsz : w.heap.size ≤ w1.heap.size := by omega
      try (have hB2 : Below w.heap.size w w2 := ((hB.alloc hsz _).alloc (by simp; omega) _).trans (hb2.mono (by simp; omega)))
      try clear hb2
      clear hc1 hf1 hb1
      first
        | (refine retErr_yes ?_ (by (repeat' (first | (with_reducible exact Below.refl _ _) | (with_reducible assumption) | (with_reducible refine Below.alloc ?_ ?_ _) | (with_reducible refine Below.drew ?_) | (with_reducible refine below_drewN ?_ _) | (with_reducible refine Below.setCell ?_ ?_ _) | go_size))); clear hB; (try clear hB2); (try simp at *); rw [fitsB_true, FitsP]; simp; omega)
        | (refine retErr_no ?_ (by (repeat' (first | (with_reducible exact Below.refl _ _) | (with_reducible assumption) | (with_reducible refine Below.alloc ?_ ?_ _) | (with_reducible refine Below.drew ?_) | (with_reducible refine below_drewN ?_ _) | (with_reducible refine Below.setCell ?_ ?_ _) | go_size))); clear hB; (try simp at *); rw [Bool.eq_false_iff, Ne, fitsB_true, FitsP]; simp; omega)

end Go.Proofs.YtciioiklkaannaaGreatDoor
namespace Go.Proofs.YtciioiklkaannaaGreatDoor
open Go Go.RowKit

set_option maxHeartbeats 400000 in
theorem vaultStart_any (o : POp) (w : World) (T : TypeId) (u : Value) (hE : w.cell? ⟨0, 0, none⟩ = some (.iface T u)) :
    Calls Tryz.prog 50 #[o.v] w (RetErr (fitsB 4 o) w) := by
  obtain ⟨kind, key, val, tall⟩ := o
  simp only [POp.v]
  have hlt := World.block_lt_of_cell? w _ hE
  simp at hlt
  have hlt0 : 0 < w.heap.size := by omega
  cases hg : goodLB ⟨kind, key, val, tall⟩
  all_goals
    have hg' := hg
    first | rw [Bool.eq_false_iff, Ne, goodLB_true, goodL] at hg' | rw [goodLB_true, goodL] at hg'
    simp at hg'
    have HG := Lib.hid hg'; clear hg'
    go_enter Tryz.func50, Tryz.ntmps50
    go_wp2_with (first | (go_at_call 63; refine (litanyGood_any ⟨kind, key, val, tall⟩ _).mono ?_; rintro e w1 ⟨rfl, hb1⟩; obtain ⟨hc1, hf1⟩ := bcell hb1; have hz1 : w.heap.size < w1.heap.size := (by have h := hb1.size; simp at h; omega)) | (go_at_call 62; refine (woeAt_any _ _ _ _).mono ?_; rintro e w' ⟨rfl, rfl⟩))
    all_goals
      go_ret2
      have hg' := HG.out
      have hB : Below w.heap.size w w1 := ((Below.refl _ _).alloc (Nat.le_refl _) _).trans (hb1.mono (by simp))
      have hsz : w.heap.size ≤ w1.heap.size := by omega
      clear hc1 hf1 hb1
      first
        | (refine retErr_yes ?_ (by (repeat' (first | (with_reducible exact Below.refl _ _) | (with_reducible assumption) | (with_reducible refine Below.alloc ?_ ?_ _) | (with_reducible refine Below.drew ?_) | (with_reducible refine below_drewN ?_ _) | (with_reducible refine Below.setCell ?_ ?_ _) | go_size))); clear hB; (try simp at *); rw [fitsB_true, FitsP]; simp; omega)
        | (refine retErr_no ?_ (by (repeat' (first | (with_reducible exact Below.refl _ _) | (with_reducible assumption) | (with_reducible refine Below.alloc ?_ ?_ _) | (with_reducible refine Below.drew ?_) | (with_reducible refine below_drewN ?_ _) | (with_reducible refine Below.setCell ?_ ?_ _) | go_size))); clear hB; (try simp at *); rw [Bool.eq_false_iff, Ne, fitsB_true, FitsP]; simp; omega)

end Go.Proofs.YtciioiklkaannaaGreatDoor
namespace Go.Proofs.YtciioiklkaannaaGreatDoor
open Go Go.RowKit

theorem eql_err {ok : Bool} {er : Value} (h : if ok then er = .nilIface else ∃ T p, er = .iface T (.pointer (some p))) (w : World) :
    (binOp .eql 32 er .nilIface).run Tryz.prog w = .ok (.bool ok) w := by
  cases ok
  · obtain ⟨T, p, rfl⟩ := (by simpa using h : ∃ T p, er = .iface T (.pointer (some p)))
    simp [go_sem]
  · obtain rfl : er = .nilIface := by simpa using h
    simp [go_sem]

theorem eqg_err {ok : Bool} {er : Value} (h : if ok then er = .nilIface else ∃ T p, er = .iface T (.pointer (some p))) (x : Operand) (w : World) :
    (eqGuard .eql 32 x (.const .nilIface) er .nilIface).run Tryz.prog w = .ok () w := by
  cases ok
  · obtain ⟨T, p, rfl⟩ := (by simpa using h : ∃ T p, er = .iface T (.pointer (some p)))
    simp [go_sem]
  · obtain rfl : er = .nilIface := by simpa using h
    simp [go_sem]

set_option maxHeartbeats 400000 in
theorem fits_any (st : Int) (o : POp) (w : World) (T : TypeId) (u : Value) (hE : w.cell? ⟨0, 0, none⟩ = some (.iface T u)) :
    Calls Tryz.prog 24 #[.int .i64 st, o.v] w (RetB (fitsB st o) w) := by
  have hlt := World.block_lt_of_cell? w _ hE
  simp at hlt
  have hlt0 : 0 < w.heap.size := by omega
  obtain ⟨kind, key, val, tall⟩ := o
  simp only [POp.v]
  have hE1 : ∀ o : Obj, (w.alloc o).cell? ⟨0, 0, none⟩ = some (.iface T u) := fun o => (World.cell?_alloc_lt w o _ hlt).trans hE
  go_enter Tryz.func24, Tryz.ntmps24
  go_wp2_with (first | (go_at_call 47; refine (pileStart_any ⟨kind, key, val, tall⟩ _ T u (hE1 _)).mono ?_; rintro e w1 ⟨⟨v1, er, rfl, her⟩, hb1⟩; have hq := eql_err her; have hqg := eqg_err her) | (go_at_call 48; refine (cortegeStart_any ⟨kind, key, val, tall⟩ _ T u (hE1 _)).mono ?_; rintro e w1 ⟨⟨v1, er, rfl, her⟩, hb1⟩; have hq := eql_err her; have hqg := eqg_err her) | (go_at_call 49; refine (litanyStart_any ⟨kind, key, val, tall⟩ _ T u (hE1 _)).mono ?_; rintro e w1 ⟨⟨v1, er, rfl, her⟩, hb1⟩; have hq := eql_err her; have hqg := eqg_err her) | (go_at_call 50; refine (vaultStart_any ⟨kind, key, val, tall⟩ _ T u (hE1 _)).mono ?_; rintro e w1 ⟨⟨v1, er, rfl, her⟩, hb1⟩; have hq := eql_err her; have hqg := eqg_err her) | (go_at_call 51; refine (steepleStart_any ⟨kind, key, val, tall⟩ _ T u (hE1 _)).mono ?_; rintro e w1 ⟨⟨v1, er, rfl, her⟩, hb1⟩; have hq := eql_err her; have hqg := eqg_err her))
  all_goals try go_ret
  rotate_right
  · have hf : fitsB st ⟨kind, key, val, tall⟩ = false := by rw [Bool.eq_false_iff, Ne, fitsB_true, FitsP]; simp at *; omega
    exact ⟨by rw [hf]; rfl, by (repeat' (first | (with_reducible exact Below.refl _ _) | (with_reducible assumption) | (with_reducible refine Below.alloc ?_ ?_ _) | (with_reducible refine Below.drew ?_) | (with_reducible refine below_drewN ?_ _) | (with_reducible refine Below.setCell ?_ ?_ _) | go_size))⟩
  all_goals
    have hst : st = 1 ∨ st = 2 ∨ st = 3 ∨ st = 4 ∨ st = 5 := by simp at *; omega
    rcases hst with rfl | rfl | rfl | rfl | rfl
    all_goals first
      | (exfalso; clear hb1 her hq hqg hE hE1; simp at *; done)
      | exact ⟨rfl, ((Below.refl _ _).alloc (Nat.le_refl _) _).trans (hb1.mono (by simp))⟩

end Go.Proofs.YtciioiklkaannaaGreatDoor
