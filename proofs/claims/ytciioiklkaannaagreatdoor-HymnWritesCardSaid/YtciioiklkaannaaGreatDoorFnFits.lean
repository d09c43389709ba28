/- Whether an operation fits a structure: creed.Fits. -/
import Derived.Test.YtciioiklkaannaaGreatDoorFnLitanystart
import Derived.Test.YtciioiklkaannaaGreatDoorFnVaultstart
import Derived.Test.YtciioiklkaannaaGreatDoorFnSteeplestart
namespace Go.Proofs.YtciioiklkaannaaGreatDoor
open Go Go.RowKit
set_option linter.unusedSimpArgs false
set_option linter.unusedVariables false
set_option linter.unusedSectionVars false

theorem eql_err {ok : Bool} {er : Value} (h : if ok then er = .nilIface else ∃ T p, er = .iface T (.pointer (some p))) (w : World) :
    (binOp .eql 32 er .nilIface).run Tryz.prog w = .ok (.bool ok) w := by
  cases ok
  · obtain ⟨T, p, rfl⟩ := (by simpa using h : ∃ T p, er = .iface T (.pointer (some p)))
    simp [go_sem]
  · obtain rfl : er = .nilIface := by simpa using h
    simp [go_sem]

theorem eqg_err {ok : Bool} {er : Value} (h : if ok then er = .nilIface else ∃ T p, er = .iface T (.pointer (some p))) (x : Operand) (w : World) :
    (eqGuard .eql 32 x (.const .nilIface) er .nilIface).run Tryz.prog w = .ok () w := by
  cases ok
  · obtain ⟨T, p, rfl⟩ := (by simpa using h : ∃ T p, er = .iface T (.pointer (some p)))
    simp [go_sem]
  · obtain rfl : er = .nilIface := by simpa using h
    simp [go_sem]

set_option maxHeartbeats 400000 in
theorem fits_any (st : Int) (o : POp) (w : World) (T : TypeId) (u : Value) (hE : w.cell? ⟨0, 0, none⟩ = some (.iface T u)) :
    Calls Tryz.prog 24 #[.int .i64 st, o.v] w (RetB (fitsB st o) w) := by
  have hlt := World.block_lt_of_cell? w _ hE
  simp at hlt
  have hlt0 : 0 < w.heap.size := by omega
  obtain ⟨kind, key, val, tall⟩ := o
  simp only [POp.v]
  have hE1 : ∀ o : Obj, (w.alloc o).cell? ⟨0, 0, none⟩ = some (.iface T u) := fun o => (World.cell?_alloc_lt w o _ hlt).trans hE
  go_enter Tryz.func24, Tryz.ntmps24
  go_wp2_with (first | (go_at_call 47; refine (pileStart_any ⟨kind, key, val, tall⟩ _ T u (hE1 _)).mono ?_; rintro e w1 ⟨⟨v1, er, rfl, her⟩, hb1⟩; have hq := eql_err her; have hqg := eqg_err her) | (go_at_call 48; refine (cortegeStart_any ⟨kind, key, val, tall⟩ _ T u (hE1 _)).mono ?_; rintro e w1 ⟨⟨v1, er, rfl, her⟩, hb1⟩; have hq := eql_err her; have hqg := eqg_err her) | (go_at_call 49; refine (litanyStart_any ⟨kind, key, val, tall⟩ _ T u (hE1 _)).mono ?_; rintro e w1 ⟨⟨v1, er, rfl, her⟩, hb1⟩; have hq := eql_err her; have hqg := eqg_err her) | (go_at_call 50; refine (vaultStart_any ⟨kind, key, val, tall⟩ _ T u (hE1 _)).mono ?_; rintro e w1 ⟨⟨v1, er, rfl, her⟩, hb1⟩; have hq := eql_err her; have hqg := eqg_err her) | (go_at_call 51; refine (steepleStart_any ⟨kind, key, val, tall⟩ _ T u (hE1 _)).mono ?_; rintro e w1 ⟨⟨v1, er, rfl, her⟩, hb1⟩; have hq := eql_err her; have hqg := eqg_err her))
  all_goals try go_ret
  rotate_right
  · have hf : fitsB st ⟨kind, key, val, tall⟩ = false := by rw [Bool.eq_false_iff, Ne, fitsB_true, FitsP]; simp at *; omega
    exact ⟨by rw [hf]; rfl, by (repeat' (first | (with_reducible exact Below.refl _ _) | (with_reducible assumption) | (with_reducible refine Below.alloc ?_ ?_ _) | (with_reducible refine Below.drew ?_) | (with_reducible refine below_drewN ?_ _) | (with_reducible refine Below.setCell ?_ ?_ _) | go_size))⟩
  all_goals
    have hst : st = 1 ∨ st = 2 ∨ st = 3 ∨ st = 4 ∨ st = 5 := by simp at *; omega
    rcases hst with rfl | rfl | rfl | rfl | rfl
    all_goals first
      | (exfalso; clear hb1 her hq hqg hE hE1; simp at *; done)
      | exact ⟨rfl, ((Below.refl _ _).alloc (Nat.le_refl _) _).trans (hb1.mono (by simp))⟩

end Go.Proofs.YtciioiklkaannaaGreatDoor
