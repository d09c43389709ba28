/- Whether an operation fits a structure: litany.Start. -/
import Derived.Test.YtciioiklkaannaaGreatDoorFnRoot
import Derived.Test.YtciioiklkaannaaGreatDoorSize
namespace Go.Proofs.YtciioiklkaannaaGreatDoor
open Go Go.RowKit
set_option linter.unusedSimpArgs false
set_option linter.unusedVariables false
set_option linter.unusedSectionVars false

set_option maxHeartbeats 400000 in
theorem litanyStart_any (o : POp) (w : World) (T : TypeId) (u : Value) (hE : w.cell? ⟨0, 0, none⟩ = some (.iface T u)) :
    Calls Tryz.prog 49 #[o.v] w (RetErr (fitsB 3 o) w) := by
  obtain ⟨kind, key, val, tall⟩ := o
  simp only [POp.v]
  have hlt := World.block_lt_of_cell? w _ hE
  simp at hlt
  have hlt0 : 0 < w.heap.size := by omega
  cases hg : goodLB ⟨kind, key, val, tall⟩
  all_goals
    have hg' := hg
    first | rw [Bool.eq_false_iff, Ne, goodLB_true, goodL] at hg' | rw [goodLB_true, goodL] at hg'
    simp at hg'
    have HG := Lib.hid hg'; clear hg'
    go_enter Tryz.func49, Tryz.ntmps49
    go_wp2_with (first | (go_at_call 63; refine (litanyGood_any ⟨kind, key, val, tall⟩ _).mono ?_; rintro e w1 ⟨rfl, hb1⟩; obtain ⟨hc1, hf1⟩ := bcell hb1; have hz1 : w.heap.size < w1.heap.size := (by have h := hb1.size; simp at h; omega)) | (go_at_call 62; refine (woeAt_any _ _ _ _).mono ?_; rintro e w' ⟨rfl, rfl⟩) | (go_at_call 64; refine (boardRoot_any _ _ (by omega) (by omega)).mono ?_; rintro e w' ⟨rfl, rfl⟩) | (go_at_call 65; refine (litanyFrom_any _ _ _ _ ⟨kind, key, val, tall⟩ _).mono ?_; rintro e w2 ⟨⟨p2, rfl⟩, hb2⟩))
    all_goals
      go_ret2
      have hg' := HG.out
      have hB : Below w.heap.size w w1 := ((Below.refl _ _).alloc (Nat.le_refl _) _).trans (hb1.mono (by simp))
      have hsz : w.heap.size ≤ w1.heap.size := by omega
      try (have hB2 : Below w.heap.size w w2 := ((hB.alloc hsz _).alloc (by simp; omega) _).trans (hb2.mono (by simp; omega)))
      try clear hb2
      clear hc1 hf1 hb1
      first
        | (refine retErr_yes ?_ (by (repeat' (first | (with_reducible exact Below.refl _ _) | (with_reducible assumption) | (with_reducible refine Below.alloc ?_ ?_ _) | (with_reducible refine Below.drew ?_) | (with_reducible refine below_drewN ?_ _) | (with_reducible refine Below.setCell ?_ ?_ _) | go_size))); clear hB; (try clear hB2); (try simp at *); rw [fitsB_true, FitsP]; simp; omega)
        | (refine retErr_no ?_ (by (repeat' (first | (with_reducible exact Below.refl _ _) | (with_reducible assumption) | (with_reducible refine Below.alloc ?_ ?_ _) | (with_reducible refine Below.drew ?_) | (with_reducible refine below_drewN ?_ _) | (with_reducible refine Below.setCell ?_ ?_ _) | go_size))); clear hB; (try simp at *); rw [Bool.eq_false_iff, Ne, fitsB_true, FitsP]; simp; omega)

end Go.Proofs.YtciioiklkaannaaGreatDoor
