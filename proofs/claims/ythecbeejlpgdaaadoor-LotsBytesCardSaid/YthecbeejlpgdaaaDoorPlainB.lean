/- A text of which one byte is changed; bytes in a block of cells. -/
import Derived.Test.YthecbeejlpgdaaaDoorLawB
import Derived.Laws.IdiomStrings
namespace Go.Proofs.YthecbeejlpgdaaaDoor
open Go Go.RowKit
set_option linter.unusedSimpArgs false
set_option linter.unusedVariables false
set_option linter.unusedSectionVars false

/-- The text s with the byte v at k. -/
def putB (s : ByteArray) (k : Nat) (v : UInt8) : ByteArray := ⟨s.data.setIfInBounds k v⟩
theorem putB_size (s : ByteArray) (k : Nat) (v : UInt8) : (putB s k v).size = s.size := by
  unfold putB ByteArray.size
  simp
theorem bat_putB (s : ByteArray) (k : Nat) (v : UInt8) (i : Nat) : bat (putB s k v) i = if i = k ∧ k < s.size then v.toNat else bat s i := by
  rw [bat_getD, bat_getD]
  unfold putB
  simp only [Array.toList_setIfInBounds, List.getD_eq_getElem?_getD, List.getElem?_set]
  have e : s.data.toList.length = s.size := by simp
  by_cases h : k = i
  · subst h
    by_cases h2 : k < s.size
    · rw [if_pos rfl, if_pos (by omega), if_pos ⟨rfl, h2⟩]; rfl
    · rw [if_pos rfl, if_neg (by omega), if_neg (by omega), List.getElem?_eq_none (by omega)]
  · rw [if_neg h, if_neg (by omega)]

/-- Block g begins with the bytes of t; none of them is frozen. -/
structure Bys (w : World) (g : Nat) (t : ByteArray) : Prop where
  cell : ∀ i, i < t.size → w.cell? ⟨g, i, none⟩ = some (.int .u8 (bat t i))
  free : ∀ i, i < t.size → w.frozen? ⟨g, i, none⟩ = false

theorem bytesRow_cell (s : ByteArray) (cap : Nat) {i : Nat} (h : i < s.size) : (bytesRow s cap)[i]? = some (.int .u8 (bat s i)) := by
  unfold bytesRow
  have h' : i < s.data.size := h
  rw [Array.getElem?_append_left (by simpa using h')]
  simp only [Array.getElem?_map, Array.getElem?_eq_getElem h', Option.map_some]
  rw [bat_getD]
  simp only [List.getD_eq_getElem?_getD, Array.getElem?_toList, Array.getElem?_eq_getElem h', Option.getD_some]

theorem bytes_new (w : World) (s : ByteArray) : ∃ w' cap, (convert 9 44 (.string s)).run Tryd.prog w = .ok (.slice (some ⟨w.heap.size, 0, none⟩) s.size cap) w' ∧ Bys w' w.heap.size s ∧ Below w.heap.size w w' ∧ w'.heap.size = w.heap.size + 1 := by
  refine ⟨_, _, run_bytes_of_string (P := Tryd.prog) w 9 44 5 s Tryd.underlying9 Tryd.underlying44 Tryd.underlying5, ⟨fun i hi => ?_, fun i hi => ?_⟩, ?_, by simp⟩
  · have := World.cell?_alloc_mark w.drew (bytesRow s (grownCap w s.size 0 5)) 5 ((bytesRow s (grownCap w s.size 0 5)).size, (bytesRow s (grownCap w s.size 0 5)).size + 1) i
    exact this.trans (bytesRow_cell s _ hi)
  · have := World.frozen?_alloc_mark w.drew (bytesRow s (grownCap w s.size 0 5)) 5 (bytesRow s (grownCap w s.size 0 5)).size ((bytesRow s (grownCap w s.size 0 5)).size + 1) i
    refine this.trans ?_
    have hz : s.size ≤ (bytesRow s (grownCap w s.size 0 5)).size := by
      unfold bytesRow
      simp
    simp
    omega
  · exact ((Below.refl _ _).drew).alloc (Nat.le_refl _) _

theorem Bys.back {w : World} {g : Nat} {t : ByteArray} (h : Bys w g t) (cap n : Nat) (hn : n = t.size) : (convert 44 9 (.slice (some ⟨g, 0, none⟩) n cap)).run Tryd.prog w = .ok (.string t) w := by
  subst hn
  have := run_convert_bytes_back (P := Tryd.prog) w 44 9 5 ⟨g, 0, none⟩ cap t.data.toList Tryd.underlying44 Tryd.underlying5 Tryd.underlying9 (fun j hj => by
    have hj' : j < t.size := by simpa using hj
    rw [show (⟨g, 0, none⟩ : Addr).add j = ⟨g, j, none⟩ from by simp [Addr.add]; omega, h.cell j hj', bat_getD, List.getD_eq_getElem?_getD, List.getElem?_eq_getElem hj, Option.getD_some])
  simpa using this
theorem Bys.set_ {w : World} {g : Nat} {t : ByteArray} (h : Bys w g t) {k : Nat} (hk : k < t.size) (v : UInt8) : Bys (w.setCell ⟨g, k, none⟩ (.int .u8 v.toNat)) g (putB t k v) := by
  refine ⟨fun i hi => ?_, fun i hi => ?_⟩
  · rw [putB_size] at hi
    rw [bat_putB]
    by_cases e : i = k
    · subst e
      rw [if_pos ⟨rfl, hk⟩]
      exact World.cell?_setCell_same _ _ _ (h.cell i hk)
    · rw [if_neg (by omega), World.cell?_setCell_other _ _ _ _ (by simp)]
      exact h.cell i hi
  · rw [putB_size] at hi
    rw [World.frozen?_setCell]
    exact h.free i hi
theorem Bys.below {w w' : World} {g : Nat} {t : ByteArray} (h : Bys w g t) (hg : g < w.heap.size) (hb : Below w.heap.size w w') : Bys w' g t :=
  ⟨fun i hi => (hb.cell (p := ⟨g, i, none⟩) hg).trans (h.cell i hi), fun i hi => (hb.frozen (p := ⟨g, i, none⟩) hg).trans (h.free i hi)⟩

theorem bytes_new_at (w : World) (s : ByteArray) {g : Nat} (hg : w.heap.size = g) : ∃ w' cap, (convert 9 44 (.string s)).run Tryd.prog w = .ok (.slice (some ⟨g, 0, none⟩) s.size cap) w' ∧ Bys w' g s ∧ Below w.heap.size w w' ∧ w'.heap.size = g + 1 := hg ▸ bytes_new w s

theorem bat_putB_other {s : ByteArray} {k : Nat} {v : UInt8} {i : Nat} (h : i ≠ k) : bat (putB s k v) i = bat s i := by
  rw [bat_putB, if_neg (by omega)]
theorem dec_put (s : ByteArray) (k : Nat) (v : UInt8) (hk : k < s.size) :
    (k ≠ 0 → (dec (putB s k v)).st = (dec s).st) ∧ (k ≠ 1 → (dec (putB s k v)).en = (dec s).en) ∧ (k ≠ 2 → (dec (putB s k v)).th = (dec s).th) ∧ (k ≠ 3 → (dec (putB s k v)).sl = (dec s).sl) ∧ (k ≠ 4 → (dec (putB s k v)).no = (dec s).no) ∧
    (k = 3 → (dec (putB s k v)).sl = v.toNat) ∧ (6 + 4 * (dec s).ops.length ≤ k → (dec (putB s k v)).ops.length = (dec s).ops.length ∧ (dec (putB s k v)).picks.length = (dec s).picks.length ∧
      ∀ i, i < (dec s).picks.length → i ≠ k - (6 + 4 * (dec s).ops.length) → (dec (putB s k v)).picks[i]? = (dec s).picks[i]?) := by
  refine ⟨fun h => ?_, fun h => ?_, fun h => ?_, fun h => ?_, fun h => ?_, fun h => ?_, fun h => ?_⟩
  · show dSt _ = dSt _
    unfold dSt; rw [bat_putB_other (by omega)]
  · show dEn _ = dEn _
    unfold dEn; rw [bat_putB_other (by omega)]
  · show dTh _ = dTh _
    unfold dTh; rw [bat_putB_other (by omega)]
  · show dSl _ = dSl _
    unfold dSl; rw [bat_putB_other (by omega)]
  · show dNo _ = dNo _
    unfold dNo; rw [bat_putB_other (by omega)]
  · show dSl _ = _
    unfold dSl; rw [bat_putB, if_pos ⟨h.symm, hk⟩]
  · have eo : (dec s).ops.length = dN s := by simp [dec, decOps]
    rw [eo] at h ⊢
    have eN : dN (putB s k v) = dN s := by unfold dN; rw [bat_putB_other (by omega)]
    have eT : dTh (putB s k v) = dTh s := by unfold dTh; rw [bat_putB_other (by omega)]
    have eP : dP (putB s k v) = dP s := by unfold dP; rw [eN, putB_size]
    refine ⟨by simp [dec, decOps, eN], by simp [dec, decPicks, eP], fun i hi hne => ?_⟩
    have hi' : i < dP s := by simpa [dec, decPicks] using hi
    simp only [dec, decPicks, eP, eN, eT, List.getElem?_map, List.getElem?_range hi', Option.map_some]
    unfold pickAt
    rw [bat_putB_other (by omega)]
theorem u8_of (n : Int) : ∃ v : UInt8, n % 256 = ((v.toNat : Nat) : Int) := by
  refine ⟨UInt8.ofNat (n % 256).toNat, ?_⟩
  rw [UInt8.toNat_ofNat']
  omega
theorem idx_of (n : Int) {m : Nat} (h : 0 < m) (h2 : m ≤ 4096) : ∃ k : Nat, k < m ∧ wrap64 ((IntKind.u64.wrap n).tmod (m : Int)) = (k : Int) := by
  have e : IntKind.u64.wrap n = n % 18446744073709551616 := by simp [IntKind.wrap, IntKind.bits, IntKind.signed]
  rw [e, Int.tmod_eq_emod_of_nonneg (by omega)]
  have h3 := Int.emod_nonneg (n % 18446744073709551616) (show (m : Int) ≠ 0 by omega)
  have h4 := Int.emod_lt_of_pos (n % 18446744073709551616) (show (0 : Int) < m by omega)
  refine ⟨(n % 18446744073709551616 % (m : Int)).toNat, by omega, ?_⟩
  unfold wrap64
  omega

end Go.Proofs.YthecbeejlpgdaaaDoor
