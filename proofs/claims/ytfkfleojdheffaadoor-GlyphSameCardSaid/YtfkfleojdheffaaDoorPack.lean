/- Pack; strconv.Atoi by its outcome. -/
import Derived.Test.YtfkfleojdheffaaDoorIsW
import Derived.Lib.AtoiTie
namespace Go.Proofs.YtfkfleojdheffaaDoor
open Go Go.RowKit
set_option linter.unusedSimpArgs false
set_option linter.unusedVariables false
set_option linter.unusedSectionVars false

def RetP (l : List UInt8) (w : World) (e : Ending) (w' : World) : Prop := e = .returned (.tuple #[.string (bs l), .nilIface]) ∧ Below w.heap.size w w'
/-- An error at a place that an error has caused. -/
def WoeAt (w' : World) (N : Nat) (n : Int) (a : Addr) : Prop := Bk w' N 62 #[.int .i64 n, .iface 107 (.pointer (some a))]
def RetPN (a : Addr) (w : World) (e : Ending) (w' : World) : Prop := ∃ N, e = .returned (.tuple #[.string ⟨#[]⟩, .iface 60 (.pointer (some ⟨N, 0, none⟩))]) ∧ WoeAt w' N 2 a ∧ Below w.heap.size w w'

section
variable {w : World} {a b : Addr} {tS : TypeId} {pS : Value} {tR : TypeId} {pR : Value} {m : Int} (G : GW w a b tS pS tR pR m)
include G
set_option maxRecDepth 100000 in
set_option maxHeartbeats 800000 in
theorem pack_yes (x : PW) (hx : GoodP x) : Calls Tryd.prog 9 #[x.v] w (RetP (txt x) w) := by
  have hg : goodB x = true := (goodB_true x).2 hx
  have hb0 : Below w.heap.size w (w.alloc (.cells x.cells 23)) := (Below.refl _ _).alloc (Nat.le_refl _) _
  have G0 := G.more hb0
  have HX := Lib.hid hx; clear hx
  have HG := Lib.hid hg; clear hg
  obtain ⟨slot, gen, tag, num, mark⟩ := x
  have B0 : Bk (w.alloc (.cells #[.int .i64 slot, .int .i64 gen, .int .i64 tag, .int .i64 num, .bool mark] 23)) w.heap.size 23 #[.int .i64 slot, .int .i64 gen, .int .i64 tag, .int .i64 num, .bool mark] := Bk.at_ rfl
  simp only [PW.v, PW.cells] at *
  go_enter Tryd.func9, Tryd.ntmps9
  go_wp2_with fail
  refine (good_any ⟨slot, gen, tag, num, mark⟩ _).mono ?_
  rintro e w1 ⟨rfl, hb1⟩
  have B1 := B0.belowAll hb1
  have G1 := G0.more hb1
  have hbb := hb0.trans (hb1.mono hb0.size)
  rw [HG.out]
  have c0 := B1.cell 0; have c1 := B1.cell 1; have c2 := B1.cell 2; have c3 := B1.cell 3; have c4 := B1.cell 4
  simp at c0 c1 c2 c3 c4
  clear G0 hb0 hb1 B0
  go_wp2_with fail
  refine (text_any ⟨slot, gen, tag, num, mark⟩ HX.out _ G1.tab).mono ?_
  rintro e w2 ⟨rfl, hb2⟩
  go_wp2_with fail
  go_ret2
  exact ⟨rfl, hbb.trans (hb2.mono hbb.size)⟩

set_option maxRecDepth 100000 in
set_option maxHeartbeats 800000 in
theorem pack_no (x : PW) (hx : ¬ GoodP x) : Calls Tryd.prog 9 #[x.v] w (RetPN a w) := by
  have hg : goodB x = false := (goodB_false x).2 hx
  have hb0 : Below w.heap.size w (w.alloc (.cells x.cells 23)) := (Below.refl _ _).alloc (Nat.le_refl _) _
  have G0 := G.more hb0
  clear hx
  have HG := Lib.hid hg; clear hg
  obtain ⟨slot, gen, tag, num, mark⟩ := x
  simp only [PW.v, PW.cells] at *
  go_enter Tryd.func9, Tryd.ntmps9
  go_wp2_with fail
  refine (good_any ⟨slot, gen, tag, num, mark⟩ _).mono ?_
  rintro e w1 ⟨rfl, hb1⟩
  have G1 := G0.more hb1
  have hbb := hb0.trans (hb1.mono hb0.size)
  rw [HG.out]
  have c0 := G1.ea
  clear G0 hb0 hb1
  go_wp2_with fail
  refine (woeAt_any 2 _ _ _).mono ?_
  rintro e w2 ⟨rfl, rfl⟩
  go_wp2_with fail
  go_ret2
  exact ⟨_, rfl, Bk.at_ rfl, hbb.alloc hbb.size _⟩
end

/-- Where strconv.Atoi succeeds, where not. -/
theorem atoi_ok (s : ByteArray) (hs : s.size ≤ 1024) (v : Int) (h : Lib.atoiAll s.data.toList = .ok v) (w : World) :
    Calls Tryd.prog 26 #[.string s] w fun e w' => e = .returned (.tuple #[.int .i64 v, .nilIface]) ∧ Below w.heap.size w w' := by
  refine (Tryd.strconv_Atoi_ok s (by omega) v h w).mono ?_
  rintro e w' ⟨rfl, hw⟩
  refine ⟨rfl, ?_⟩
  rcases hw with rfl | ⟨t, rfl⟩
  · exact Below.refl _ _
  · exact Lib.bytesWorld_below _ _ _
theorem atoi_bad {w : World} {a b : Addr} {tS : TypeId} {pS : Value} {tR : TypeId} {pR : Value} {m : Int} (G : GW w a b tS pS tR pR m) (s : ByteArray) (hs : s.size ≤ 1024) (h : ∀ v, Lib.atoiAll s.data.toList ≠ .ok v) :
    Calls Tryd.prog 26 #[.string s] w fun e w' => ∃ (v : Int) (N : Nat), e = .returned (.tuple #[.int .i64 v, .iface 83 (.pointer (some ⟨N, 0, none⟩))]) ∧ Below w.heap.size w w' := by
  cases hc : Lib.atoiAll s.data.toList with
  | ok v => exact absurd hc (h v)
  | range =>
    refine (Tryd.strconv_Atoi_range_var s (by omega) hc tR pR w G.ra).mono ?_
    rintro e w' ⟨N, rfl, _, _, hb⟩
    exact ⟨_, N, rfl, hb⟩
  | _ =>
    refine (Tryd.strconv_Atoi_syntax_var s (by omega) ⟨h, by rw [hc]; exact fun q => by cases q⟩ tS pS w G.sy).mono ?_
    rintro e w' ⟨N, rfl, _, _, hb⟩
    exact ⟨_, N, rfl, hb⟩
end Go.Proofs.YtfkfleojdheffaaDoor
