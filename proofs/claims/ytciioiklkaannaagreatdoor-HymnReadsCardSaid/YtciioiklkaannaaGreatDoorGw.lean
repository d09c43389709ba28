/- What the listed variables hold; numbers as bytes. -/
import Derived.Test.YtciioiklkaannaaGreatDoorFill
import Derived.Test.YtciioiklkaannaaGreatDoorSplit
import Derived.Test.YtciioiklkaannaaGreatDoorShelf
import Derived.Lib.AppendIntMem
namespace Go.Proofs.YtciioiklkaannaaGreatDoor
open Go Go.RowKit
set_option linter.unusedSimpArgs false
set_option linter.unusedVariables false
set_option linter.unusedSectionVars false

theorem var_more {P : Program} {w w' : World} {n : String} {cs : Array Value} (h : w.var? P n = some cs) (hb : Below w.heap.size w w') : w'.var? P n = some cs := by
  unfold World.var? at *
  cases hg : P.globalNamed n with
  | none => rw [hg] at h; cases h
  | some g =>
    rw [hg] at h
    simp only [Option.bind_some] at h ⊢
    have hlt : g < w.heap.size := by
      rcases Nat.lt_or_ge g w.heap.size with h' | h'
      · exact h'
      · rw [Array.getElem?_eq_none h'] at h; cases h
    rw [hb.block g hlt]
    exact h
theorem cell_more {w w' : World} {b i : Nat} {u : Value} (h : w.cell? ⟨b, i, none⟩ = some u) (hb : Below w.heap.size w w') : w'.cell? ⟨b, i, none⟩ = some u :=
  (hb.cell (p := ⟨b, i, none⟩) (World.block_lt_of_cell? w _ h)).trans h

def opWords : List (List UInt8) := [[112, 117, 115, 104], [112, 111, 112], [112, 101, 101, 107], [101, 110, 113, 117, 101, 117, 101], [100, 101, 113, 117, 101, 117, 101], [105, 110, 115, 101, 114, 116], [100, 101, 108, 101, 116, 101], [103, 101, 116]]
def stWords : List (List UInt8) := [[112, 105, 108, 101], [99, 111, 114, 116, 101, 103, 101], [108, 105, 116, 97, 110, 121], [118, 97, 117, 108, 116], [115, 116, 101, 101, 112, 108, 101]]
def enWords : List (List UInt8) := [[110, 101, 118, 101, 114], [104, 97, 122, 97, 114, 100], [101, 114, 97, 115], [101, 112, 111, 99, 104, 115], [105, 110, 116, 101, 114, 118, 97, 108]]
def wordCells (l : List (List UInt8)) : List Value := l.map fun x => .string (bs x)

/-- What the listed variables hold. -/
structure GH (w : World) (a b c : Addr) (m : Int) : Prop where
  ea : w.cell? ⟨0, 0, none⟩ = some (.iface 203 (.pointer (some a)))
  ew : w.cell? ⟨1, 0, none⟩ = some (.iface 203 (.pointer (some b)))
  el : w.cell? ⟨2, 0, none⟩ = some (.iface 203 (.pointer (some c)))
  tab : Lib.TabIs Tryz.prog w "internal/strconv.uint64pow10" .u64 Lib.pow10Tab
  ops : ∀ j u, (wordCells opWords)[j]? = some u → w.cell? ⟨5, j, none⟩ = some u
  sts : ∀ j u, (wordCells stWords)[j]? = some u → w.cell? ⟨3, j, none⟩ = some u
  ens : ∀ j u, (wordCells enWords)[j]? = some u → w.cell? ⟨4, j, none⟩ = some u
  mx : w.cell? ⟨7, 0, none⟩ = some (.int .i64 m)
section
variable {w w' : World} {a b c : Addr} {m : Int}
theorem GH.more (h : GH w a b c m) (hb : Below w.heap.size w w') : GH w' a b c m :=
  ⟨cell_more h.ea hb, cell_more h.ew hb, cell_more h.el hb, var_more h.tab hb, fun j u hu => cell_more (h.ops j u hu) hb, fun j u hu => cell_more (h.sts j u hu) hb, fun j u hu => cell_more (h.ens j u hu) hb, cell_more h.mx hb⟩
theorem GH.alloc (h : GH w a b c m) (o : Obj) : GH (w.alloc o) a b c m := h.more ((Below.refl _ _).alloc (Nat.le_refl _) _)
theorem GH.drew (h : GH w a b c m) : GH w.drew a b c m := h.more ((Below.refl _ _).drew)
end

/-- A number's word, as bytes. -/
theorem dec_is (n : Int) (h0 : 0 ≤ n) (h1 : n ≤ 1073741824) (w : World) (htab : Hid (Lib.TabIs Tryz.prog w "internal/strconv.uint64pow10" .u64 Lib.pow10Tab)) (d : ByteArray) (hd : Hid (bs (Lib.decDigits n.toNat) = d)) :
    Calls Tryz.prog 21 #[.int .i64 n] w fun e w' => e = .returned (.string d) ∧ Below w.heap.size w w' := by
  refine (Tryz.strconv_Itoa n (by omega) (by omega) w htab.out).mono ?_
  rintro e w' ⟨rfl, k, os, rfl⟩
  refine ⟨?_, Lib.below_grow _ _ (Nat.le_refl _) _ _⟩
  rw [← hd.out]
  unfold Lib.itoa
  rw [if_neg (by omega)]
  rfl
theorem dec_size (n : Int) (h0 : 0 ≤ n) (h1 : n ≤ 1073741824) : ∃ d, Hid (bs (Lib.decDigits n.toNat) = d) ∧ d.size ≤ 10 :=
  ⟨_, rfl, by rw [bs_size]; exact dec_len 9 _ (by omega)⟩
end Go.Proofs.YtciioiklkaannaaGreatDoor
