/- Slices of pairs: their cells; what slices.overlaps says of two blocks. -/
import Derived.Test.YtlfbgpncdahglaaDoorRun
import Derived.Test.YtlfbgpncdahglaaDoorFnA
import Derived.Test.YtlfbgpncdahglaaDoorReg2
import Derived.Test.YtlfbgpncdahglaaDoorSize
namespace Go.Proofs.YtlfbgpncdahglaaDoor
open Go Go.RowKit
set_option linter.unusedSimpArgs false
set_option linter.unusedVariables false
set_option linter.unusedSectionVars false

theorem infoInt : (Tryd.prog.info? 3).map (fun i => (i.zero, i.size, i.bytes)) = some (some (.int .i64 0), 1, 8) := by kernel_rfl
theorem infoPair : (Tryd.prog.info? 94).map (fun i => (i.zero, i.size, i.bytes)) = some (some (.agg #[.int .i64 0, .int .i64 0]), 2, 16) := by kernel_rfl

def pcell (p : Int × Int) : List Value := [.int .i64 p.1, .int .i64 p.2]
def pcells (l : List (Int × Int)) : List Value := l.flatMap pcell
theorem pcells_nil : pcells [] = [] := rfl
theorem pcells_cons (p : Int × Int) (l : List (Int × Int)) : pcells (p :: l) = pcell p ++ pcells l := rfl
theorem pcells_append (l m : List (Int × Int)) : pcells (l ++ m) = pcells l ++ pcells m := by simp [pcells]
theorem pcells_length (l : List (Int × Int)) : (pcells l).length = l.length * 2 := by
  induction l with
  | nil => rfl
  | cons p l ih => rw [pcells_cons, List.length_append, ih]; simp [pcell]; omega
theorem pcells_split (l : List (Int × Int)) (i : Nat) : pcells l = pcells (l.take i) ++ pcells (l.drop i) := by rw [← pcells_append, List.take_append_drop]
theorem pcells_one (l : List (Int × Int)) : ∀ u ∈ pcells l, u.oneCell' = true := by
  intro u hu
  obtain ⟨p, _, hp⟩ := List.mem_flatMap.1 hu
  simp [pcell] at hp
  rcases hp with rfl | rfl <;> rfl
theorem pcells_get (l : List (Int × Int)) : ∀ (i : Nat) (_ : i < l.length), (pcells l)[i * 2]? = some (.int .i64 l[i].1) ∧ (pcells l)[i * 2 + 1]? = some (.int .i64 l[i].2) := by
  induction l with
  | nil => intro i h; simp at h
  | cons p l ih =>
    intro i h
    cases i with
    | zero => simp [pcells_cons, pcell]
    | succ i =>
      obtain ⟨h1, h2⟩ := ih i (by simpa using h)
      rw [pcells_cons]
      constructor
      · rw [List.getElem?_append_right (by simp [pcell]; omega), show (i + 1) * 2 - (pcell p).length = i * 2 from by simp [pcell]; omega]
        simpa using h1
      · rw [List.getElem?_append_right (by simp [pcell]; omega), show (i + 1) * 2 + 1 - (pcell p).length = i * 2 + 1 from by simp [pcell]; omega]
        simpa using h2

theorem bk_cells {w : World} {g : Nat} {t : TypeId} {cs : List Value} (h : Bk w g t cs.toArray) : ∀ j u, cs[j]? = some u → w.cell? ((⟨g, 0, none⟩ : Addr).add j) = some u := by
  intro j u hu
  rw [Addr.add_lit, Nat.zero_add, h.cell]
  simpa using hu

theorem overlaps_call (args : Array Value) (w : World) : (callFunc 54 args).run Tryd.prog w =
    ((do pure (.value (← Extern.SlicesOverlaps.overlaps #[30, 30] #[4] args)) : Sem Next)).run Tryd.prog w := by kernel_rfl

theorem overlaps_no (b g o lb la lc c : Nat) (cs ds : Array Value) (t t' : TypeId) (w : World) (hb : Bk w b t cs) (hg : Bk w g t' ds) (hne : b ≠ g) :
    (callFunc 54 #[.slice (some ⟨b, 0, none⟩) lb la, .slice (some ⟨g, o, none⟩) lc c]).run Tryd.prog w = .ok (.value (.bool false)) w := by
  rw [overlaps_call]
  obtain ⟨i, hi, _, hz, _⟩ := info_parts infoPair
  have h1 : ∀ i, w.frozen? ⟨b, i, none⟩ = false := fun i => hb.free i
  have h2 : ∀ i, w.frozen? ⟨g, i, none⟩ = false := fun i => hg.free i
  unfold Bk at hb hg
  delta Extern.SlicesOverlaps.overlaps
  rw [show ∀ (m : Array Value → Type) (x1 x2 : Option Addr) (n1 n2 k1 k2 : Nat) h1 h2, Extern.SlicesOverlaps.overlaps.match_4 m #[.slice x1 n1 k1, .slice x2 n2 k2] h1 h2 = h1 x1 n1 k1 x2 n2 k2 from fun _ _ _ _ _ _ _ _ _ => rfl]
  have hbe : (b == g) = false := by simpa using hne
  have hbn : (b != g) = true := by simpa using hne
  simp [run_underlying Tryd.underlying30, sizeOf, typeInfo, hi, hz, h1, h2, hbe, hbn, noView, viewAt, mayBeOne, stringish, World.shape?, hb, hg]
end Go.Proofs.YtlfbgpncdahglaaDoor
