/- hymn.fill: numbers of words, into the fields. -/
import Derived.Test.YtciioiklkaannaaGreatDoorFlds
import Derived.Test.YtciioiklkaannaaGreatDoorNumW
import Derived.LoopTactic
namespace Go.Proofs.YtciioiklkaannaaGreatDoor
open Go Go.RowKit
set_option linter.unusedSimpArgs false
set_option linter.unusedVariables false
set_option linter.unusedSectionVars false

def numB (n : Nat) : ByteArray := bs (Lib.decDigits n)
def strs (l : List ByteArray) : List Value := l.map Value.string
def setAll : Array Value → List Nat → List Nat → Array Value
  | cs, o :: os, n :: ns => setAll (cs.setIfInBounds o (.int .i64 n)) os ns
  | cs, _, _ => cs
theorem setAll_size : ∀ (os ns : List Nat) (cs : Array Value), (setAll cs os ns).size = cs.size
  | [], ns, cs => by cases ns <;> rfl
  | o :: os, [], cs => rfl
  | o :: os, n :: ns, cs => by rw [setAll, setAll_size os ns]; simp
theorem setAll_snoc : ∀ (os ns : List Nat) (cs : Array Value) (n : Nat) (h : ns.length < os.length), setAll cs os (ns ++ [n]) = (setAll cs os ns).setIfInBounds os[ns.length] (.int .i64 n)
  | [], _, _, _, h => by simp at h
  | o :: os, [], cs, n, _ => by cases os <;> rfl
  | o :: os, m :: ns, cs, n, h => by
    show setAll (cs.setIfInBounds o (.int .i64 m)) os (ns ++ [n]) = _
    rw [setAll_snoc os ns _ n (by simpa using h)]
    rfl
/-- The words are these numbers', as many as fields. -/
def FillIs (k : Nat) (words : List ByteArray) (ns : List Nat) : Prop := ns.length = k ∧ words = ns.map numB ∧ ∀ n ∈ ns, n ≤ 1073741824
def RetFill (g : Nat) (T : TypeId) (cs : Array Value) (os : List Nat) (words : List ByteArray) (w : World) (e : Ending) (w' : World) : Prop :=
  ∃ ns, Bk w' g T (setAll cs os ns) ∧ w.grownBy w' (some g) ∧ w'.heap.size = w.heap.size ∧
    ((e = .returned (.bool true) ∧ FillIs os.length words ns) ∨ (e = .returned (.bool false) ∧ ∀ ns', ¬ FillIs os.length words ns'))
theorem strs_get (l : List ByteArray) (i : Nat) (h : i < l.length) : (strs l)[i]? = some (.string l[i]) := by simp [strs, h]
theorem ptrs_get (g : Nat) (l : List Nat) (i : Nat) (h : i < l.length) : (ptrs g l)[i]? = some (.pointer (some ⟨g, l[i], none⟩)) := by simp [ptrs, h]
theorem Sl.at_ {w : World} {B : Nat} {A : Option Addr} {n : Nat} {xs : List Value} (h : Sl w B 1 A n xs) {i : Nat} {u : Value} (hi : i < n) (hu : xs[i]? = some u) :
    ∃ b off, A = some ⟨b, off, none⟩ ∧ b < B ∧ w.cell? ⟨b, off + i, none⟩ = some u := by
  obtain ⟨b, off, e, hb, hc⟩ := h.2 (by omega)
  exact ⟨b, off, e, hb, hc i _ hu⟩

/-- Behind k fields. -/
structure FillS (g : Nat) (T : TypeId) (cs : Array Value) (os : List Nat) (words : List ByteArray) (w : World) (k : Nat) (ns : List Nat) (wr : World) : Prop where
  hk : k ≤ os.length
  hn : ns.length = k
  ws : words.take k = ns.map numB
  le : ∀ n ∈ ns, n ≤ 1073741824
  bk : Bk wr g T (setAll cs os ns)
  grown : w.grownBy wr (some g)
  size : wr.heap.size = w.heap.size
theorem FillS.step {g : Nat} {T : TypeId} {cs : Array Value} {os : List Nat} {words : List ByteArray} {w : World} {k : Nat} {ns : List Nat} {wr : World} (F : FillS g T cs os words w k ns wr)
    (h : k < os.length) (hw : k < words.length) (n : Nat) (hn : NumIs words[k] n) : FillS g T cs os words w (k + 1) (ns ++ [n]) (wr.setCell ⟨g, os[k], none⟩ (.int .i64 n)) where
  hk := h
  hn := by simp [F.hn]
  ws := by rw [List.take_succ_eq_append_getElem hw, F.ws, ← hn.2]; simp [numB]
  le := fun m hm => by
    rcases List.mem_append.1 hm with hm | hm
    · exact F.le m hm
    · obtain rfl := List.mem_singleton.1 hm; exact hn.1
  bk := by
    obtain ⟨_, rfl, _, _, _, _, _⟩ := F
    rw [setAll_snoc os ns cs n h]
    exact ‹Bk wr g T _›.set_ _ _
  grown := ⟨F.grown.os, F.grown.tape, F.grown.output, by simp [World.setCell]; exact F.grown.size, fun b hb hne => (Below.heap_setCell wr ⟨g, os[k], none⟩ _ b (fun e => hne (by simp [e]))).trans (F.grown.block b hb hne)⟩
  size := by simpa [World.setCell] using F.size

theorem fill_bad {os : List Nat} {words : List ByteArray} {k : Nat} (hw : k < words.length) (h : ∀ n, ¬ NumIs words[k] n) : ∀ ns', ¬ FillIs os.length words ns' := fun ns' hf => by
  obtain ⟨h1, h2, h3⟩ := hf
  have hk : k < ns'.length := by rw [h2] at hw; simpa using hw
  refine h ns'[k] ⟨h3 _ (List.getElem_mem hk), ?_⟩
  have : words[k]? = (ns'.map numB)[k]? := by rw [← h2]
  rw [List.getElem?_eq_getElem hw, List.getElem?_map, List.getElem?_eq_getElem hk] at this
  simpa [numB] using (Option.some.inj this).symm

set_option maxRecDepth 100000 in
set_option maxHeartbeats 1600000 in
theorem fill_any (g : Nat) (T : TypeId) (cs : Array Value) (os : List Nat) (words : List ByteArray) (A A' : Option Addr) (c c' : Nat) (w : World)
    (hB : Bk w g T cs) (hos : ∀ o ∈ os, o < cs.size) (hA : Sl w w.heap.size 1 A os.length (ptrs g os)) (hA' : Sl w w.heap.size 1 A' words.length (strs words))
    (ha : ∀ b o, A = some ⟨b, o, none⟩ → b ≠ g) (ha' : ∀ b o, A' = some ⟨b, o, none⟩ → b ≠ g) (lo : os.length ≤ 10) (lw : words.length ≤ 9223372036854775807)
    (hs : ∀ s ∈ words, s.size ≤ 9223372036854775807) :
    Calls Tryz.prog 40 #[.slice A os.length c, .slice A' words.length c'] w (RetFill g T cs os words w) := by
  have F0 : FillS g T cs os words w 0 [] w := ⟨Nat.zero_le _, rfl, rfl, by simp, by cases os <;> exact hB, ⟨rfl, rfl, rfl, Nat.le_refl _, fun _ _ _ => rfl⟩, rfl⟩
  by_cases hl : words.length = os.length
  · have hl1 : ((os.length : Int) != (words.length : Int)) = false := by simp; omega
    have HL := Lib.hid hl
    have hle : words.length ≤ os.length := by omega
    have hge : os.length ≤ words.length := by omega
    clear hl
    go_enter Tryz.func40, Tryz.ntmps40
    go_wp2_with fail
    have FH := Lib.hid F0; clear F0
    go_loopw [16] (fun t16 wr => ∃ k ns, t16 = .int .i64 (k : Nat) ∧ FillS g T cs os words w k ns wr) (fun t16 _ => os.length - (intOf t16).toNat)
    case atStart => exact ⟨0, [], rfl, FH.out⟩
    case round =>
      obtain ⟨k, ns, rfl, F'⟩ := hrel
      have F := Lib.hid F'; clear F' FH
      have hk := F.out.hk
      by_cases hlt : k < os.length
      · have hwk : k < words.length := by omega
        obtain ⟨b1, o1, rfl, hb1, q1⟩ := hA.at_ hlt (ptrs_get g os k hlt)
        obtain ⟨b2, o2, rfl, hb2, q2⟩ := hA'.at_ hwk (strs_get words k hwk)
        have q1' := (cell_grown F.out.grown hb1 (ha b1 o1 rfl)).trans q1
        have q2' := (cell_grown F.out.grown hb2 (ha' b2 o2 rfl)).trans q2
        have hox := hos os[k] (List.getElem_mem hlt)
        have hv : (setAll cs os ns)[os[k]]? = some ((setAll cs os ns)[os[k]]'(by rw [setAll_size]; exact hox)) := Array.getElem?_eq_getElem _
        have q3 := F.out.bk.cell os[k]
        rw [hv] at q3
        have f3 := F.out.bk.free os[k]
        generalize (setAll cs os ns)[os[k]]'(by rw [setAll_size]; exact hox) = v3 at q3
        clear hv q1 q2
        go_wp2_with fail
        refine (number_any words[k] _ (hs _ (List.getElem_mem hwk))).mono ?_
        rintro e w1 (⟨n, hn, rfl, rfl⟩ | ⟨hn, m, rfl, rfl⟩)
        · have HN := Lib.hid hn; clear hn
          go_wp2_with fail
          go_roundw
          case rel => exact ⟨k + 1, ns ++ [n], by go_num, F.out.step hlt hwk n HN.out⟩
          case measure => simp [intOf]; omega
        · have HN := Lib.hid (fill_bad (os := os) hwk hn); clear hn
          go_wp2_with fail
          go_ret
          exact ⟨ns, F.out.bk, F.out.grown, F.out.size, Or.inr ⟨rfl, HN.out⟩⟩
      · obtain rfl : k = os.length := by omega
        go_wp2_with fail
        go_ret
        refine ⟨ns, F.out.bk, F.out.grown, F.out.size, Or.inl ⟨rfl, F.out.hn, ?_, F.out.le⟩⟩
        have := F.out.ws
        rwa [← HL.out, List.take_length] at this
  · have hl1 : ((os.length : Int) != (words.length : Int)) = true := by simp; omega
    have HN : Hid (∀ ns', ¬ FillIs os.length words ns') := fun ns' hf => hl (by have := hf.1; rw [hf.2.1]; simpa using this)
    have FH := Lib.hid F0; clear F0 hl
    go_enter Tryz.func40, Tryz.ntmps40
    go_wp2_with fail
    go_ret
    exact ⟨[], FH.out.bk, FH.out.grown, FH.out.size, Or.inr ⟨rfl, HN.out⟩⟩
end Go.Proofs.YtciioiklkaannaaGreatDoor
