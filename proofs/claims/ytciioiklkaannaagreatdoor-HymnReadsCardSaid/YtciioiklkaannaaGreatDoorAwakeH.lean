/- errors.Is of a sentinel and itself. Print, Parse by their outcomes; awake. -/
import Derived.Test.YtciioiklkaannaaGreatDoorRows
import Derived.WalkKit
import Derived.LaidEql
import Derived.Stop.Asserts
import Derived.RowKitTokens
import Derived.Test.YtciioiklkaannaaGreatDoorPrint
import Derived.Test.YtciioiklkaannaaGreatDoorParseF
namespace Go.Proofs.YtciioiklkaannaaGreatDoor
open Go.RowKit Go.Extern.Stop Go.Stop Go.Extern
set_option linter.unusedSimpArgs false
set_option linter.unusedVariables false
set_option linter.unusedSectionVars false

/-- What 'reflectlite.TypeOf(target).Comparable()' comes to at a sentinel. -/
theorem isType : ∃ b : Nat, (∀ (v : Value) (w : World), (callFunc 30 #[.iface 203 v]).run Tryz.prog w = .ok (.value (.iface 107 (.agg #[.pointer (some ⟨b, 203, none⟩)]))) w) ∧
    (∀ w : World, (callFunc 120 #[.agg #[.pointer (some ⟨b, 203, none⟩)]]).run Tryz.prog w = .ok (.value (.bool true)) w) ∧
    (∀ (n : Nat) (v : Value) (w : World), (Go.method (n + 1) 107 v "Comparable").run Tryz.prog w = .ok (120, v) w) :=
  ⟨Tryz.prog.globals.size, fun _ _ => by kernel_rfl, fun _ => by kernel_rfl, fun _ _ _ => by kernel_rfl⟩
theorem isComp : (Tryz.prog.info? 203).map (·.comparable) = some true := by kernel_rfl
theorem isSize : (Tryz.prog.info? 238).map (·.size) = some 1 := by kernel_rfl

set_option maxRecDepth 100000 in
set_option maxHeartbeats 400000 in
theorem is_same (a : Addr) (w : World) :
    Calls Tryz.prog 10 #[.iface 203 (.pointer (some a)), .iface 203 (.pointer (some a))] w fun e w' => e = .returned (.bool true) ∧ w = w' := by
  obtain ⟨i, hi, hcmp⟩ := Option.map_eq_some_iff.1 isComp
  obtain ⟨j, hj, hjs⟩ := Option.map_eq_some_iff.1 isSize
  obtain ⟨b, tT, cT, mR⟩ := isType
  have heq := run_eql_iface_ptr_same (P := Tryz.prog) w a Tryz.underlying32 Tryz.underlying203 hi hcmp hj
  go_enter Tryz.func10, Tryz.ntmps10
  go_wp2
  refine wp_loop_rounds 1 ?_
  rw [rounds_succ]
  go_wp2
  go_ret
  exact ⟨rfl, rfl⟩

end Go.Proofs.YtciioiklkaannaaGreatDoor
namespace Go.Proofs.YtciioiklkaannaaGreatDoor
open Go Go.RowKit

section
variable {w : World} {a b c : Addr} {m : Int} (G : GH w a b c m)
include G
theorem print_good (x : PScr) (A A' : Option Addr) (k k' : Nat) (S : SA w x A k A' k') (hg : goodB x = true) :
    Calls Tryz.prog 6 #[x.v A k A' k'] w fun e w' => e = .returned (.tuple #[.string (bs (textL x)), .nilIface]) ∧ Below w.heap.size w w' :=
  print_yes G x A A' k k' S.so S.sp hg S.lp S.lc
theorem print_bad (x : PScr) (A A' : Option Addr) (k k' : Nat) (S : SA w x A k A' k') (hg : goodB x = false) :
    Calls Tryz.prog 6 #[x.v A k A' k'] w fun e w' => e = .returned (.tuple #[.string ⟨#[]⟩, .iface 203 (.pointer (some a))]) ∧ Below w.heap.size w w' :=
  print_no G x A A' k k' S.so S.sp S.lo (Nat.le_trans S.lp S.lc) hg
theorem parse_is (x : PScr) (hg : goodB x = true) (s : ByteArray) (hs : s.size ≤ 32768) (h : bs (textL x) = s) :
    Calls Tryz.prog 13 #[.string s] w fun e w' => ∃ A k A' k', e = .returned (.tuple #[x.v A k A' k', .nilIface]) ∧ SA w' x A k A' k' ∧ Below w.heap.size w w' := by
  refine (Parse_any G s).mono ?_
  rintro e w' ⟨hb, ⟨y, A, k, A', k', he, hS, hy⟩ | ⟨_, _, hn⟩ | ⟨_, hz⟩⟩
  · obtain rfl := hy.one x (canon_of_good hg) h
    exact ⟨A, k, A', k', he, hS, hb⟩
  · exact absurd h (hn x hg)
  · omega
theorem parse_none (s : ByteArray) (h : ∀ x, goodB x = true → bs (textL x) ≠ s) :
    Calls Tryz.prog 13 #[.string s] w fun e w' => ∃ d, e = .returned (.tuple #[zScr.v none 0 none 0, .iface 203 (.pointer (some d))]) ∧ (s.size ≤ 32768 → d = b) ∧ Below w.heap.size w w' := by
  refine (Parse_any G s).mono ?_
  rintro e w' ⟨hb, ⟨y, A, k, A', k', he, hS, hy⟩ | ⟨he, _, hn⟩ | ⟨he, hz⟩⟩
  · exact absurd hy.text (h y hy.good)
  · exact ⟨b, he, fun _ => rfl, hb⟩
  · exact ⟨c, he, fun h => by omega, hb⟩
end

def y0 : PScr := ⟨1, 2, 2, 9, 2, [⟨0, ⟨1, 0, 4, 0⟩⟩, ⟨1, ⟨2, 0, 0, 0⟩⟩], [0, 1, 1]⟩
theorem y0_good : goodB y0 = true := by decide
theorem d0 : Lib.decDigits 0 = [48] := Lib.decDigits_one (by omega)
theorem d1 : Lib.decDigits 1 = [49] := Lib.decDigits_one (by omega)
theorem d2 : Lib.decDigits 2 = [50] := Lib.decDigits_one (by omega)
theorem d3 : Lib.decDigits 3 = [51] := Lib.decDigits_one (by omega)
theorem d4 : Lib.decDigits 4 = [52] := Lib.decDigits_one (by omega)
theorem d9 : Lib.decDigits 9 = [57] := Lib.decDigits_one (by omega)
theorem y0_text : bs (textL y0) = ⟨#[121, 97, 114, 100, 32, 112, 105, 108, 101, 32, 104, 97, 122, 97, 114, 100, 32, 50, 32, 57, 32, 50, 10, 100, 111, 32, 48, 32, 112, 117, 115, 104, 32, 52, 10, 100, 111, 32, 49, 32, 112, 111, 112, 10, 112, 105, 99, 107, 32, 48, 32, 49, 32, 49, 10]⟩ := by
  rw [text_picks]
  simp only [picksK, opsK, headL, headW, taskL, lineL, lineW, offs, fldWord, fldVal, pickL, cAt, y0, intW]
  simp [fldWord, fldVal, intW, d0, d1, d2, d4, d9, List.range_succ, jn, wDo, wPick, yard, opWord, opWords, stWord, stWords, enWord, enWords, bs]
theorem no_end (x : PScr) : bs (textL x) ≠ ⟨#[121, 97, 114, 100, 32, 112, 105, 108, 101, 32, 104, 97, 122, 97, 114, 100, 32, 50, 32, 57, 32, 50]⟩ := fun e => by
  have h := congrArg (fun s : ByteArray => s.data.toList.getLast?) e
  simp [bs, textL] at h
theorem line_ex : bs (lineL 5 ⟨6, 1, 2, 3⟩) = ⟨#[105, 110, 115, 101, 114, 116, 32, 49, 32, 50, 32, 51]⟩ := by
  simp only [lineL, lineW, offs, fldWord, fldVal]
  simp [fldWord, fldVal, d1, d2, d3, jn, opWord, opWords, bs]

set_option maxRecDepth 100000 in
set_option maxHeartbeats 3200000 in
theorem awake_any {w : World} {a b c : Addr} {m : Int} (G : GH w a b c m) : Calls Tryz.prog 5 #[] w (RetB true w) := by
  go_enter Tryz.func5, Tryz.ntmps5
  go_wp2_with fail
  refine (parse_is G y0 y0_good _ (by decide) y0_text).mono ?_
  rintro e w1 ⟨A, k, A', k', rfl, S1, hb1⟩
  simp only [PScr.v, y0, List.length_cons, List.length_nil, Nat.reduceAdd]
  have X1 : Bk (w1.alloc (.cells #[.int .i64 0, .int .i64 0, .int .i64 0, .int .i64 0, .int .i64 0, .slice none 0 0, .slice none 0 0] 27)) w1.heap.size 27 #[.int .i64 0, .int .i64 0, .int .i64 0, .int .i64 0, .int .i64 0, .slice none 0 0, .slice none 0 0] := Bk.at_ rfl
  have hb1' := hb1.alloc hb1.size (.cells #[.int .i64 0, .int .i64 0, .int .i64 0, .int .i64 0, .int .i64 0, .slice none 0 0, .slice none 0 0] 27)
  have hz := hb1.size
  go_wp2_with (refine wpList_store_bk (by rfl) _ _ _ (by rfl) w1.heap.size _ (by rfl) (by rfl) _ _ X1 (by rfl) (by kernel_rfl) (by rfl) ?_; intro w2 hst; have z0 := hst.bk.cell 0; have z1 := hst.bk.cell 1; have z2 := hst.bk.cell 2; have z3 := hst.bk.cell 3; have z4 := hst.bk.cell 4; have z5 := hst.bk.cell 5; have z6 := hst.bk.cell 6; simp only [List.getElem?_toArray, List.getElem?_cons_zero, List.getElem?_cons_succ] at z0 z1 z2 z3 z4 z5 z6)
  have hB2 := hst.below hb1' hz
  have hb2 : Below w1.heap.size w1 w2 := hst.below ((Below.refl _ w1).alloc (Nat.le_refl _) _) (Nat.le_refl _)
  have X2 := hst.bk
  have S2 := S1.more hb2
  have G2 := G.more hB2
  clear S1 hb1 hb1' X1 hst hb2 z0 z1 z2 z3 z4 z5 z6
  generalize w1.heap.size = X at *
  refine (print_good G2 y0 A A' k k' S2 y0_good).mono ?_
  rintro e w3 ⟨rfl, hb3⟩
  rw [y0_text]
  have X3 := X2.belowAll hb3
  have S3 := S2.more hb3
  have hB3 := hB2.trans (hb3.mono hB2.size)
  have G3 := G.more hB3
  clear X2 S2 G2 hB2 hb3
  go_wp2_with fail
  refine (parse_none G3 _ (fun x _ => no_end x)).mono ?_
  rintro e w4 ⟨d, rfl, hd, hb4⟩
  obtain rfl := hd (by decide)
  simp only [PScr.v, zScr, List.length_nil]
  have X4 := X3.belowAll hb4
  have S4 := S3.more hb4
  have hB4 := hB3.trans (hb4.mono hB3.size)
  have Y4 : Bk (w4.alloc (.cells #[.int .i64 0, .int .i64 0, .int .i64 0, .int .i64 0, .int .i64 0, .slice none 0 0, .slice none 0 0] 27)) w4.heap.size 27 #[.int .i64 0, .int .i64 0, .int .i64 0, .int .i64 0, .int .i64 0, .slice none 0 0, .slice none 0 0] := Bk.at_ rfl
  have hz4 := hB4.size
  clear X3 S3 hB3 G3 hb4
  go_wp2_with (refine wpList_store_bk (by rfl) _ _ _ (by rfl) w4.heap.size _ (by rfl) (by rfl) _ _ Y4 (by rfl) (by kernel_rfl) (by rfl) ?_; intro w5 hst)
  have hb5 : Below w4.heap.size w4 w5 := hst.below ((Below.refl _ w4).alloc (Nat.le_refl _) _) (Nat.le_refl _)
  have X5 := X4.belowAll hb5
  have S5 := S4.more hb5
  have hB5 := hB4.trans (hb5.mono hz4)
  have G5 := G.more hB5
  clear X4 S4 hB4 Y4 hst hb5
  generalize w4.heap.size = Y at *
  refine (line_yes G5 5 ⟨6, 1, 2, 3⟩ (by unfold FitsP; simp)).mono ?_
  rintro e w6 ⟨rfl, hb6⟩
  rw [line_ex]
  have X6 := X5.belowAll hb6
  have S6 := S5.more hb6
  have hB6 := hB5.trans (hb6.mono hB5.size)
  have G6 := G.more hB6
  have he := G6.ew
  clear X5 S5 hB5 G5 hb6
  obtain ⟨ob, off, rfl, hob, hc⟩ := S6.so.2 (by simp [y0])
  have c0 : w6.cell? ⟨ob, off, none⟩ = some (.int .i64 0) := hc 0 _ rfl
  have c1 : w6.cell? ⟨ob, off + 1, none⟩ = some (.int .i64 1) := hc 1 _ rfl
  have c2 : w6.cell? ⟨ob, off + 2, none⟩ = some (.int .i64 0) := hc 2 _ rfl
  have c3 : w6.cell? ⟨ob, off + 3, none⟩ = some (.int .i64 4) := hc 3 _ rfl
  have c4 : w6.cell? ⟨ob, off + 4, none⟩ = some (.int .i64 0) := hc 4 _ rfl
  have x5 := X6.cell 5; have x6 := X6.cell 6
  simp at x5 x6
  clear S6 hc X6 G6
  go_wp2_with fail
  refine (is_same d _).mono ?_
  rintro e w7 ⟨rfl, rfl⟩
  go_wp2_with fail
  go_ret
  exact ⟨rfl, hB6⟩
end Go.Proofs.YtciioiklkaannaaGreatDoor
