/- The text of a word. -/
import Derived.Test.YtfkfleojdheffaaDoorWord
import Derived.Test.YtfkfleojdheffaaDoorShelf
import Derived.Lib.ItoaLen
import Derived.Lib.AppendIntMem
import Derived.Deep.DeepCutAuto
import Derived.Deep.CutBlock
namespace Go.Proofs.YtfkfleojdheffaaDoor
open Go Go.RowKit
set_option linter.unusedSimpArgs false
set_option linter.unusedVariables false
set_option linter.unusedSectionVars false

theorem var_more {P : Program} {w w' : World} {n : String} {cs : Array Value} (h : w.var? P n = some cs) (hb : Below w.heap.size w w') : w'.var? P n = some cs := by
  unfold World.var? at *
  cases hg : P.globalNamed n with
  | none => rw [hg] at h; cases h
  | some g =>
    rw [hg] at h
    simp only [Option.bind_some] at h ⊢
    have hlt : g < w.heap.size := by
      rcases Nat.lt_or_ge g w.heap.size with h' | h'
      · exact h'
      · rw [Array.getElem?_eq_none h'] at h; cases h
    rw [hb.block g hlt]
    exact h
theorem cell_more {w w' : World} {b i : Nat} {u : Value} (h : w.cell? ⟨b, i, none⟩ = some u) (hb : Below w.heap.size w w') : w'.cell? ⟨b, i, none⟩ = some u :=
  (hb.cell (p := ⟨b, i, none⟩) (World.block_lt_of_cell? w _ h)).trans h

/-- What the listed variables hold. -/
structure GW (w : World) (a b : Addr) (tS : TypeId) (pS : Value) (tR : TypeId) (pR : Value) (m : Int) : Prop where
  ea : w.cell? ⟨0, 0, none⟩ = some (.iface 107 (.pointer (some a)))
  ew : w.cell? ⟨1, 0, none⟩ = some (.iface 107 (.pointer (some b)))
  tab : Lib.TabIs Tryd.prog w "internal/strconv.uint64pow10" .u64 Lib.pow10Tab
  sy : w.var? Tryd.prog "strconv.ErrSyntax" = some #[.iface tS pS]
  ra : w.var? Tryd.prog "strconv.ErrRange" = some #[.iface tR pR]
  mx : w.cell? ⟨4, 0, none⟩ = some (.int .i64 m)
section
variable {w w' : World} {a b : Addr} {tS : TypeId} {pS : Value} {tR : TypeId} {pR : Value} {m : Int}
theorem GW.more (h : GW w a b tS pS tR pR m) (hb : Below w.heap.size w w') : GW w' a b tS pS tR pR m :=
  ⟨cell_more h.ea hb, cell_more h.ew hb, var_more h.tab hb, var_more h.sy hb, var_more h.ra hb, cell_more h.mx hb⟩
theorem GW.alloc (h : GW w a b tS pS tR pR m) (o : Obj) : GW (w.alloc o) a b tS pS tR pR m := h.more ((Below.refl _ _).alloc (Nat.le_refl _) _)
end

def letter (x : PW) : UInt8 := if x.mark then 109 else 110
def txt (x : PW) : List UInt8 := [letter x] ++ ([46] ++ Lib.itoa x.slot) ++ ([46] ++ Lib.itoa x.gen) ++ ([46] ++ Lib.itoa x.tag) ++ ([46] ++ Lib.itoa x.num)
def bs (l : List UInt8) : ByteArray := ⟨l.toArray⟩
def RetS (l : List UInt8) (w : World) (e : Ending) (w' : World) : Prop := e = .returned (.string (bs l)) ∧ Below w.heap.size w w'

/-- A number's digits, as bytes. -/
theorem itoa_is (n : Int) (h0 : -9223372036854775808 ≤ n) (h1 : n ≤ 9223372036854775807) (w : World) (htab : Hid (Lib.TabIs Tryd.prog w "internal/strconv.uint64pow10" .u64 Lib.pow10Tab)) (d : ByteArray) (hd : Hid (bs (Lib.itoa n) = d)) :
    Calls Tryd.prog 29 #[.int .i64 n] w fun e w' => e = .returned (.string d) ∧ Below w.heap.size w w' := by
  refine (Tryd.strconv_Itoa n h0 h1 w htab.out).mono ?_
  rintro e w' ⟨rfl, k, os, rfl⟩
  exact ⟨by rw [← hd.out]; rfl, Lib.below_grow _ _ (Nat.le_refl _) _ _⟩
theorem itoa_size (n : Int) (h0 : -9223372036854775808 ≤ n) (h1 : n ≤ 9223372036854775807) : ∃ d, Hid (bs (Lib.itoa n) = d) ∧ d.size ≤ 21 :=
  ⟨_, rfl, by have := Lib.itoa_length_le n h0 h1; simpa [bs, ByteArray.size] using this⟩

theorem bs_txt (slot gen tag num : Int) (mark : Bool) (d0 d1 d2 d3 : ByteArray) (c : UInt8) (hc : letter ⟨slot, gen, tag, num, mark⟩ = c) (h0 : bs (Lib.itoa slot) = d0) (h1 : bs (Lib.itoa gen) = d1) (h2 : bs (Lib.itoa tag) = d2) (h3 : bs (Lib.itoa num) = d3) :
    (((((⟨#[c]⟩ : ByteArray) ++ ((⟨#[46]⟩ : ByteArray) ++ d0)) ++ ((⟨#[46]⟩ : ByteArray) ++ d1)) ++ ((⟨#[46]⟩ : ByteArray) ++ d2)) ++ ((⟨#[46]⟩ : ByteArray) ++ d3)) = bs (txt ⟨slot, gen, tag, num, mark⟩) := by
  subst h0 h1 h2 h3 hc
  apply ByteArray.ext
  simp [bs, txt, ByteArray.data_append]

set_option maxRecDepth 100000 in
set_option maxHeartbeats 800000 in
theorem text_any (x : PW) (hx : GoodP x) (w : World) (htab : Lib.TabIs Tryd.prog w "internal/strconv.uint64pow10" .u64 Lib.pow10Tab) : Calls Tryd.prog 22 #[x.v] w (RetS (txt x) w) := by
  obtain ⟨slot, gen, tag, num, mark⟩ := x
  unfold GoodP at hx
  simp only at hx
  obtain ⟨_, s0, s1, g0, g1, t0, t1, n0, n1⟩ := hx
  obtain ⟨d0, D0, l0⟩ := itoa_size slot (by omega) (by omega)
  obtain ⟨d1, D1, l1⟩ := itoa_size gen (by omega) (by omega)
  obtain ⟨d2, D2, l2⟩ := itoa_size tag (by omega) (by omega)
  obtain ⟨d3, D3, l3⟩ := itoa_size num (by omega) (by omega)
  simp only [PW.v]
  have T0 := Lib.hid htab; clear htab
  have hb0 : Below w.heap.size w (w.alloc (.cells #[.int .i64 slot, .int .i64 gen, .int .i64 tag, .int .i64 num, .bool mark] 23)) := (Below.refl _ _).alloc (Nat.le_refl _) _
  have T1 : Hid (Lib.TabIs Tryd.prog (w.alloc (.cells #[.int .i64 slot, .int .i64 gen, .int .i64 tag, .int .i64 num, .bool mark] 23)) "internal/strconv.uint64pow10" .u64 Lib.pow10Tab) := var_more T0.out hb0
  have i0 : ∀ w, (Instr.index 52 (.agg #[.int .i64 slot, .int .i64 gen, .int .i64 tag, .int .i64 num]) (.int .i64 0)).run Tryd.prog w = .ok (.int .i64 slot) w := fun _ => by kernel_rfl
  have i1 : ∀ w, (Instr.index 52 (.agg #[.int .i64 slot, .int .i64 gen, .int .i64 tag, .int .i64 num]) (.int .i64 1)).run Tryd.prog w = .ok (.int .i64 gen) w := fun _ => by kernel_rfl
  have i2 : ∀ w, (Instr.index 52 (.agg #[.int .i64 slot, .int .i64 gen, .int .i64 tag, .int .i64 num]) (.int .i64 2)).run Tryd.prog w = .ok (.int .i64 tag) w := fun _ => by kernel_rfl
  have i3 : ∀ w, (Instr.index 52 (.agg #[.int .i64 slot, .int .i64 gen, .int .i64 tag, .int .i64 num]) (.int .i64 3)).run Tryd.prog w = .ok (.int .i64 num) w := fun _ => by kernel_rfl
  cases mark
  · (go_enter Tryd.func22, Tryd.ntmps22; go_wp2_with fail; refine wp_loop_rounds 5 ?_; rw [rounds_succ]; go_wp2_with fail; refine (itoa_is slot (by omega) (by omega) _ T1 d0 D0).mono ?_; rintro e w1 ⟨rfl, hb1'⟩; have hb1 := hb0.trans (hb1'.mono hb0.size); have T2 : Hid (Lib.TabIs Tryd.prog w1 "internal/strconv.uint64pow10" .u64 Lib.pow10Tab) := var_more T0.out hb1; clear hb0 hb1' T1; go_wp2_with fail; rw [rounds_succ]; go_wp2_with fail; refine (itoa_is gen (by omega) (by omega) _ T2 d1 D1).mono ?_; rintro e w2 ⟨rfl, hb2'⟩; have hb2 := hb1.trans (hb2'.mono hb1.size); have T3 : Hid (Lib.TabIs Tryd.prog w2 "internal/strconv.uint64pow10" .u64 Lib.pow10Tab) := var_more T0.out hb2; clear hb1 hb2' T2; go_wp2_with fail; rw [rounds_succ]; go_wp2_with fail; refine (itoa_is tag (by omega) (by omega) _ T3 d2 D2).mono ?_; rintro e w3 ⟨rfl, hb3'⟩; have hb3 := hb2.trans (hb3'.mono hb2.size); have T4 : Hid (Lib.TabIs Tryd.prog w3 "internal/strconv.uint64pow10" .u64 Lib.pow10Tab) := var_more T0.out hb3; clear hb2 hb3' T3; go_wp2_with fail; rw [rounds_succ]; go_wp2_with fail; refine (itoa_is num (by omega) (by omega) _ T4 d3 D3).mono ?_; rintro e w4 ⟨rfl, hb4'⟩; have hb4 := hb3.trans (hb4'.mono hb3.size); clear hb3 hb4' T4; go_wp2_with fail; rw [rounds_succ]; go_wp2_with fail; go_ret)
    exact ⟨congrArg (fun z => Ending.returned (.string z)) (bs_txt slot gen tag num false d0 d1 d2 d3 110 rfl D0.out D1.out D2.out D3.out), hb4⟩
  · (go_enter Tryd.func22, Tryd.ntmps22; go_wp2_with fail; refine wp_loop_rounds 5 ?_; rw [rounds_succ]; go_wp2_with fail; refine (itoa_is slot (by omega) (by omega) _ T1 d0 D0).mono ?_; rintro e w1 ⟨rfl, hb1'⟩; have hb1 := hb0.trans (hb1'.mono hb0.size); have T2 : Hid (Lib.TabIs Tryd.prog w1 "internal/strconv.uint64pow10" .u64 Lib.pow10Tab) := var_more T0.out hb1; clear hb0 hb1' T1; go_wp2_with fail; rw [rounds_succ]; go_wp2_with fail; refine (itoa_is gen (by omega) (by omega) _ T2 d1 D1).mono ?_; rintro e w2 ⟨rfl, hb2'⟩; have hb2 := hb1.trans (hb2'.mono hb1.size); have T3 : Hid (Lib.TabIs Tryd.prog w2 "internal/strconv.uint64pow10" .u64 Lib.pow10Tab) := var_more T0.out hb2; clear hb1 hb2' T2; go_wp2_with fail; rw [rounds_succ]; go_wp2_with fail; refine (itoa_is tag (by omega) (by omega) _ T3 d2 D2).mono ?_; rintro e w3 ⟨rfl, hb3'⟩; have hb3 := hb2.trans (hb3'.mono hb2.size); have T4 : Hid (Lib.TabIs Tryd.prog w3 "internal/strconv.uint64pow10" .u64 Lib.pow10Tab) := var_more T0.out hb3; clear hb2 hb3' T3; go_wp2_with fail; rw [rounds_succ]; go_wp2_with fail; refine (itoa_is num (by omega) (by omega) _ T4 d3 D3).mono ?_; rintro e w4 ⟨rfl, hb4'⟩; have hb4 := hb3.trans (hb4'.mono hb3.size); clear hb3 hb4' T4; go_wp2_with fail; rw [rounds_succ]; go_wp2_with fail; go_ret)
    exact ⟨congrArg (fun z => Ending.returned (.string z)) (bs_txt slot gen tag num true d0 d1 d2 d3 109 rfl D0.out D1.out D2.out D3.out), hb4⟩
end Go.Proofs.YtfkfleojdheffaaDoor
