/- hymn.readPicks: the numbers of a line of picks. -/
import Derived.Test.YtciioiklkaannaaGreatDoorFill
import Derived.Test.YtciioiklkaannaaGreatDoorRun
namespace Go.Proofs.YtciioiklkaannaaGreatDoor
open Go Go.RowKit
set_option linter.unusedSimpArgs false
set_option linter.unusedVariables false
set_option linter.unusedSectionVars false

def nats (ns : List Nat) : List Int := ns.map (fun (n : Nat) => (n : Int))
def PicksIs (words : List ByteArray) (ns : List Nat) : Prop := 1 ≤ words.length ∧ words.length ≤ 16 ∧ FillIs words.length words ns
def RetPicks (words : List ByteArray) (w : World) (e : Ending) (w' : World) : Prop :=
  (∃ ns N, PicksIs words ns ∧ e = .returned (.tuple #[.slice (some ⟨N, 0, none⟩) ns.length ns.length, .bool true]) ∧ Own w' 3 1 (.slice (some ⟨N, 0, none⟩) ns.length ns.length) ns.length (icells (nats ns)) ∧ w.heap.size ≤ N ∧ Below w.heap.size w w') ∨
  ((∀ ns, ¬ PicksIs words ns) ∧ e = .returned (.tuple #[.slice none 0 0, .bool false]) ∧ Below w.heap.size w w')
theorem infoInt : (Tryz.prog.info? 3).map (fun i => (i.zero, i.size, i.bytes)) = some (some (.int .i64 0), 1, 8) := by kernel_rfl

/-- Behind k numbers: the row Z in block N. -/
structure PS (words : List ByteArray) (w : World) (N k : Nat) (ns : List Nat) (Z : List Value) (wr : World) : Prop where
  hk : k ≤ words.length
  hn : ns.length = k
  ws : words.take k = ns.map numB
  le : ∀ n ∈ ns, n ≤ 1073741824
  bk : Bk wr N 3 Z.toArray
  zl : words.length ≤ Z.length
  zs : Z.take k = icells (nats ns)
  below : Below w.heap.size w wr
theorem PS.step {words : List ByteArray} {w : World} {N k : Nat} {ns : List Nat} {Z : List Value} {wr : World} (F : PS words w N k ns Z wr) (hw : k < words.length) (n : Nat) (hn : NumIs words[k] n) (hN : w.heap.size ≤ N) :
    PS words w N (k + 1) (ns ++ [n]) (Z.set k (.int .i64 n)) (wr.setCell ⟨N, k, none⟩ (.int .i64 n)) where
  hk := hw
  hn := by simp [F.hn]
  ws := by rw [List.take_succ_eq_append_getElem hw, F.ws, ← hn.2]; simp [numB]
  le := fun m hm => by
    rcases List.mem_append.1 hm with hm | hm
    · exact F.le m hm
    · obtain rfl := List.mem_singleton.1 hm; exact hn.1
  bk := by have := F.bk.set_ k (.int .i64 n); simpa using this
  zl := by simpa using F.zl
  zs := by
    have hz := F.zl
    rw [List.take_succ_eq_append_getElem (by simp; omega), List.take_set_of_le (Nat.le_refl _), F.zs]
    simp [icells, nats]
  below := F.below.setCell hN _
theorem pick_bad {words : List ByteArray} {k : Nat} (hw : k < words.length) (h : ∀ n, ¬ NumIs words[k] n) : ∀ ns, ¬ PicksIs words ns := fun ns hp => by
  have hw' : k < (List.replicate words.length 0).length := by simpa using hw
  have := fill_bad (os := List.replicate words.length 0) hw h ns
  simp only [List.length_replicate] at this
  exact this hp.2.2

set_option maxRecDepth 100000 in
set_option maxHeartbeats 1600000 in
theorem picks_any (words : List ByteArray) (A' : Option Addr) (c' : Nat) (w : World) (hA' : Sl w w.heap.size 1 A' words.length (strs words)) (lw : words.length ≤ 9223372036854775807)
    (hs : ∀ s ∈ words, s.size ≤ 9223372036854775807) :
    Calls Tryz.prog 55 #[.slice A' words.length c'] w (RetPicks words w) := by
  by_cases hl : 1 ≤ words.length ∧ words.length ≤ 16
  · obtain ⟨l1, l2⟩ := hl
    have d1 : decide ((words.length : Int) < 1) = false := decide_eq_false (by omega)
    have d2 : decide ((16 : Int) < (words.length : Int)) = false := decide_eq_false (by omega)
    obtain ⟨inf, hi, hz, hz1, hz2⟩ := info_parts infoInt
    go_enter Tryz.func55, Tryz.ntmps55
    go_wp2_with (refine wpList_make_full _ (by rfl) _ _ _ (by rfl) w.heap.size _ inf _ 1 Tryz.underlying25 hi hz hz1 _ _ _ _ words.length (by rfl) (by rfl) rfl rfl (by rw [hz2]; omega) (by unfold maxLen; omega) (Nat.le_refl _) ?_; intro w1 hown hgr)
    have hO := Own.of_row hown
    have hb0 := below_of_grown hgr (B := w.heap.size) (Nat.le_refl _) (by simp)
    obtain ⟨Z, hZ, hZl⟩ : ∃ Z : List Value, Bk w1 w.heap.size 3 Z.toArray ∧ words.length ≤ Z.length := by
      rcases hO.2 with ⟨h, _⟩ | ⟨g, off, cap, A, R, hv, hk, hoff, _, _, _⟩
      · cases h
      · cases hv
        refine ⟨_, hk, ?_⟩
        have := hO.1
        simp at this ⊢
        omega
    have FH := Lib.hid (show PS words w w.heap.size 0 [] Z w1 from ⟨Nat.zero_le _, rfl, rfl, by simp, hZ, hZl, rfl, hb0⟩)
    clear hO hown hgr hb0 hZ hZl hi hz hz1 hz2 d1 d2
    go_loopw [22] (fun t22 wr => ∃ k ns Z, t22 = .int .i64 (k : Nat) ∧ PS words w w.heap.size k ns Z wr) (fun t22 _ => words.length - (intOf t22).toNat)
    case atStart => exact ⟨0, [], Z, rfl, FH.out⟩
    case round =>
      obtain ⟨k, ns, Z1, rfl, F'⟩ := hrel
      have F := Lib.hid F'; clear F' FH
      have hk := F.out.hk
      by_cases hlt : k < words.length
      · obtain ⟨b2, o2, rfl, hb2, q2⟩ := (hA'.below F.out.below).at_ hlt (strs_get words k hlt)
        have hzk : k < Z1.length := by have := F.out.zl; omega
        have q3 := F.out.bk.cell k
        rw [List.getElem?_toArray, List.getElem?_eq_getElem hzk] at q3
        have f3 := F.out.bk.free k
        generalize Z1[k] = v3 at q3
        have hi1 : (0 : Int) ≤ (k : Int) := by omega
        have hi2 : (k : Int) < (words.length : Int) := by omega
        go_wp2_with fail
        refine (number_any words[k] _ (hs _ (List.getElem_mem hlt))).mono ?_
        rintro e w2 (⟨n, hn, rfl, rfl⟩ | ⟨hn, m, rfl, rfl⟩)
        · have HN := Lib.hid hn; clear hn
          go_wp2_with fail
          go_roundw
          case rel => exact ⟨k + 1, ns ++ [n], Z1.set k (.int .i64 n), by go_num, F.out.step hlt n HN.out (Nat.le_refl _)⟩
          case measure => simp [intOf]; omega
        · have HN := Lib.hid (pick_bad hlt hn); clear hn
          go_wp2_with fail
          go_ret2
          exact Or.inr ⟨HN.out, rfl, F.out.below⟩
      · obtain rfl : k = words.length := by omega
        go_wp2_with fail
        go_ret2
        have hn := F.out.hn
        refine Or.inl ⟨ns, w.heap.size, ⟨l1, l2, hn, ?_, F.out.le⟩, by rw [hn]; rfl, ?_, Nat.le_refl _, F.out.below⟩
        · have := F.out.ws
          rwa [List.take_length] at this
        · have hz := F.out.zl
          have e : Z1 = icells (nats ns) ++ Z1.drop words.length := by rw [← F.out.zs, List.take_append_drop]
          refine ⟨by simp [icells, nats], .inr ⟨_, 0, ns.length, [], Z1.drop words.length, rfl, ?_, rfl, Nat.le_refl _, by rw [hn]; unfold maxLen; omega, by simp [icells, nats]⟩⟩
          rw [List.nil_append, ← e]
          exact F.out.bk
  · have HN : Hid (∀ ns, ¬ PicksIs words ns) := fun ns hp => hl ⟨hp.1, hp.2.1⟩
    have hd : decide ((words.length : Int) < 1) = true ∨ (decide ((words.length : Int) < 1) = false ∧ decide ((16 : Int) < (words.length : Int)) = true) := by
      simp only [decide_eq_true_eq, decide_eq_false_iff_not]; omega
    clear hl
    rcases hd with d1 | ⟨d1, d2⟩
    all_goals
      go_enter Tryz.func55, Tryz.ntmps55
      go_wp2_with fail
      go_ret2
      exact Or.inr ⟨HN.out, rfl, Below.refl _ _⟩
end Go.Proofs.YtciioiklkaannaaGreatDoor
