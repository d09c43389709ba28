/- Contracts of functions of Go's library at this dump, laid by the shelf. -/
import Derived.Shelf.Strings.Builder1
import Derived.Shelf.Small.Wraps
import Derived.Shelf.Strings.BuilderF
import Derived.Shelf.Strings.BuilderK
import Derived.Shelf.Utf8.RuneCount
import Derived.Shelf.Strconv.Itoa0
import Derived.Shelf.Strconv.Itoa1
import Derived.Shelf.LaysM
import Derived.Shelf.Strconv.Itoa2
import Derived.Shelf.Strconv.Itoa3
import Derived.Shelf.Strings.Search1
import Derived.Shelf.Strings.Search2
import Derived.Shelf.Strings.Search3
import Derived.Shelf.Strings.Count
import Derived.Shelf.Strings.Shaped
import Derived.Shelf.Strings.Prefix
import Derived.Shelf.Strings.Split
import Derived.Shelf.Strings.SplitShaped
import Derived.Shelf.Unicode.Decode
import Derived.Shelf.Strings.RuneCount
import Derived.Shelf.Strings.Explode
import Derived.Shelf.Unicode.DecodeSlow
import Derived.Shelf.Unicode.DecodeAny
import Derived.Shelf.Slices.Turned
import Derived.Shelf.Slices.Equal
import Derived.Test.YtciioiklkaannaaDoorProg
namespace Go.Proofs
open Go.Shelf
set_option linter.unusedSimpArgs false
set_option linter.unusedVariables false
set_option linter.unusedSectionVars false
def Tryd.lays169_ren : Go.Shelf.Ren := ⟨fun | 169 => 24 | n => n, fun | 70 => 61 | 9 => 9 | 0 => 0 | 72 => 64 | 37 => 62 | 127 => 103 | 3 => 3 | 5 => 5 | n => n, fun | n => n⟩
theorem Tryd.lays169 : Go.Proofs.Lays.n169 Tryd.prog Tryd.lays169_ren := {
  mixed := by kernel_rfl
  f169 := Tryd.func24.trans (congrArg some (by kernel_rfl))
  t0 := Tryd.underlying0
  a0 := Tryd.isAgg0
  z0 := Tryd.sizeOf0
  v0 := Tryd.zeroValue0
  t3 := Tryd.underlying3
  a3 := Tryd.isAgg3
  z3 := Tryd.sizeOf3
  v3 := Tryd.zeroValue3
  t9 := Tryd.underlying9
  a9 := Tryd.isAgg9
  z9 := Tryd.sizeOf9
  v9 := Tryd.zeroValue9
  t37 := Tryd.underlying62
  a37 := Tryd.isAgg62
  z37 := Tryd.sizeOf62
  v37 := Tryd.zeroValue62
  t70 := Tryd.underlying61
  a70 := Tryd.isAgg61
  z70 := Tryd.sizeOf61
  v70 := Tryd.zeroValue61
  t72 := Tryd.underlying64
  a72 := Tryd.isAgg64
  z72 := Tryd.sizeOf64
  v72 := Tryd.zeroValue64
  t127 := Tryd.underlying103
  a127 := Tryd.isAgg103
  z127 := Tryd.sizeOf103
  v127 := Tryd.zeroValue103 }
theorem Tryd.Builder_Extra_169 : Builder.Extra Tryd.prog Tryd.lays169_ren := {
  sizeBuilder := by kernel_rfl
  liesBuilder := by kernel_rfl
  t5 := Tryd.underlying5
  a5 := Tryd.isAgg5
  z5 := Tryd.sizeOf5
  v5 := Tryd.zeroValue5
  infoByte := by kernel_rfl
  cellsByte := by kernel_rfl
  sizeByte := by kernel_rfl
  neB5 := by decide }
def Tryd.lays104_ren : Go.Shelf.Ren := ⟨fun | 104 => 42 | 211 => 55 | 207 => 65 | n => n, fun | 9 => 9 | 4 => 4 | 24 => 104 | 3 => 3 | n => n, fun | n => n⟩
theorem Tryd.lays104 : Go.Proofs.Lays.n104 Tryd.prog Tryd.lays104_ren := {
  mixed := by kernel_rfl
  f104 := Tryd.func42.trans (congrArg some (by kernel_rfl))
  f207 := Tryd.func65.trans (congrArg some (by kernel_rfl))
  f211 := Tryd.func55.trans (congrArg some (by kernel_rfl))
  t3 := Tryd.underlying3
  a3 := Tryd.isAgg3
  z3 := Tryd.sizeOf3
  v3 := Tryd.zeroValue3
  t4 := Tryd.underlying4
  a4 := Tryd.isAgg4
  z4 := Tryd.sizeOf4
  v4 := Tryd.zeroValue4
  t9 := Tryd.underlying9
  a9 := Tryd.isAgg9
  z9 := Tryd.sizeOf9
  v9 := Tryd.zeroValue9
  t24 := Tryd.underlying104
  a24 := Tryd.isAgg104
  z24 := Tryd.sizeOf104
  v24 := Tryd.zeroValue104 }
open Go.RowKit in
theorem Tryd.strings_CutSuffix (s p : ByteArray) (w : World) (hs : s.size ≤ 9223372036854775807) :
    Calls Tryd.prog 42 #[.string s, .string p] w fun e w' => e = .returned (.tuple #[.string ⟨(Lib.trimSuffix s.data.toList p.data.toList).toArray⟩, .bool (Lib.hasSuffix s.data.toList p.data.toList)]) ∧ w' = w := Any.strings_CutSuffix Tryd.lays104 s p w hs
open Go.RowKit in
theorem Tryd.Builder_String_any_k (B b : Nat) (l : List UInt8) (w : World) (h : Lib.IsBuilderF 64 5 B b (Lib.byteCells l) w) (hBw : B ≤ w.heap.size) :
    Calls Tryd.prog 24 #[.pointer (some ⟨b, 0, none⟩)] w fun e w' => e = .returned (.string ⟨l.toArray⟩) ∧ (Lib.IsBuilderF 64 5 B b (Lib.byteCells l) w' ∧ Below B w w' ∧ Lib.OthersKept 5 (some b) w w') := Any.Builder_String_any_k Tryd.lays169 Tryd.Builder_Extra_169 B b l w h hBw
def Tryd.laysM171_ren : Go.Shelf.Ren := ⟨fun | 171 => 17 | 243 => 36 | 246 => 50 | 283 => 57 | 284 => 58 | 285 => 59 | 286 => 60 | 129 => 67 | 317 => 66 | 318 => 68 | 319 => 69 | 320 => 70 | 337 => 76 | 338 => 77 | n => n, fun | 3 => 3 | 9 => 9 | 2 => 2 | 4 => 4 | 171 => 166 | 0 => 0 | 53 => 167 | 37 => 62 | 5 => 5 | 173 => 170 | 212 => 179 | 51 => 180 | 20 => 20 | 213 => 181 | 46 => 40 | 232 => 191 | 233 => 192 | n => n, fun | 17 => 6 | 18 => 10 | 19 => 11 | n => n⟩
theorem Tryd.laysM171 : Go.Proofs.LaysM.n171 Tryd.prog Tryd.laysM171_ren := {
  mixed := by kernel_rfl
  f129 := Tryd.func67.trans (congrArg some (by kernel_rfl))
  f171 := Tryd.func17.trans (congrArg some (by kernel_rfl))
  f243 := Tryd.func36.trans (congrArg some (by kernel_rfl))
  f246 := Tryd.func50.trans (congrArg some (by kernel_rfl))
  f283 := Tryd.func57.trans (congrArg some (by kernel_rfl))
  f284 := Tryd.func58.trans (congrArg some (by kernel_rfl))
  f285 := Tryd.func59.trans (congrArg some (by kernel_rfl))
  f286 := Tryd.func60.trans (congrArg some (by kernel_rfl))
  f317 := Tryd.func66.trans (congrArg some (by kernel_rfl))
  f318 := Tryd.func68.trans (congrArg some (by kernel_rfl))
  f319 := Tryd.func69.trans (congrArg some (by kernel_rfl))
  f320 := Tryd.func70.trans (congrArg some (by kernel_rfl))
  f337 := Tryd.func76.trans (congrArg some (by kernel_rfl))
  f338 := Tryd.func77.trans (congrArg some (by kernel_rfl))
  t0 := Tryd.underlying0
  a0 := Tryd.isAgg0
  z0 := Tryd.sizeOf0
  v0 := Tryd.zeroValue0
  t2 := Tryd.underlying2
  a2 := Tryd.isAgg2
  z2 := Tryd.sizeOf2
  v2 := Tryd.zeroValue2
  t3 := Tryd.underlying3
  a3 := Tryd.isAgg3
  z3 := Tryd.sizeOf3
  v3 := Tryd.zeroValue3
  t4 := Tryd.underlying4
  a4 := Tryd.isAgg4
  z4 := Tryd.sizeOf4
  v4 := Tryd.zeroValue4
  t5 := Tryd.underlying5
  a5 := Tryd.isAgg5
  z5 := Tryd.sizeOf5
  v5 := Tryd.zeroValue5
  t9 := Tryd.underlying9
  a9 := Tryd.isAgg9
  z9 := Tryd.sizeOf9
  v9 := Tryd.zeroValue9
  t20 := Tryd.underlying20
  a20 := Tryd.isAgg20
  z20 := Tryd.sizeOf20
  v20 := Tryd.zeroValue20
  t37 := Tryd.underlying62
  a37 := Tryd.isAgg62
  z37 := Tryd.sizeOf62
  v37 := Tryd.zeroValue62
  t46 := Tryd.underlying40
  a46 := Tryd.isAgg40
  z46 := Tryd.sizeOf40
  v46 := Tryd.zeroValue40
  t51 := Tryd.underlying180
  a51 := Tryd.isAgg180
  z51 := Tryd.sizeOf180
  v51 := Tryd.zeroValue180
  t53 := Tryd.underlying167
  a53 := Tryd.isAgg167
  z53 := Tryd.sizeOf167
  v53 := Tryd.zeroValue167
  t171 := Tryd.underlying166
  a171 := Tryd.isAgg166
  z171 := Tryd.sizeOf166
  v171 := Tryd.zeroValue166
  t173 := Tryd.underlying170
  a173 := Tryd.isAgg170
  z173 := Tryd.sizeOf170
  v173 := Tryd.zeroValue170
  t212 := Tryd.underlying179
  a212 := Tryd.isAgg179
  z212 := Tryd.sizeOf179
  v212 := Tryd.zeroValue179
  t213 := Tryd.underlying181
  a213 := Tryd.isAgg181
  z213 := Tryd.sizeOf181
  t232 := Tryd.underlying191
  a232 := Tryd.isAgg191
  z232 := Tryd.sizeOf191
  v232 := Tryd.zeroValue191
  t233 := Tryd.underlying192
  a233 := Tryd.isAgg192
  z233 := Tryd.sizeOf192
  v233 := Tryd.zeroValue192
  g17 := by kernel_rfl
  g18 := by kernel_rfl
  g19 := by kernel_rfl
  i0 := by kernel_rfl
  i2 := by kernel_rfl
  i3 := by kernel_rfl
  i4 := by kernel_rfl
  i5 := by kernel_rfl
  i9 := by kernel_rfl
  i20 := by kernel_rfl
  i37 := by kernel_rfl
  i46 := by kernel_rfl
  i51 := by kernel_rfl
  i53 := by kernel_rfl
  i171 := by kernel_rfl
  i173 := by kernel_rfl
  i212 := by kernel_rfl
  i232 := by kernel_rfl
  i233 := by kernel_rfl
  m17 := by kernel_rfl
  m18 := by kernel_rfl
  m19 := by kernel_rfl }
open Go.RowKit Go.Sort Go.Lib in
theorem Tryd.strconv_Itoa (n : Int) (h0 : -9223372036854775808 ≤ n) (h1 : n ≤ 9223372036854775807) (w : World) (htab : Lib.TabIs Tryd.prog w "internal/strconv.uint64pow10" .u64 Lib.pow10Tab) :
    Calls Tryd.prog 17 #[.int .i64 n] w fun e w' => e = .returned (.string ⟨(Lib.itoa n).toArray⟩) ∧ ∃ k os, w' = grow (w.drewN k) os := Any.strconv_Itoa Tryd.laysM171 n h0 h1 w htab
def Tryd.lays146_ren : Go.Shelf.Ren := ⟨fun | 146 => 18 | 221 => 37 | 268 => 51 | 138 => 52 | 143 => 53 | 195 => 61 | 197 => 62 | 218 => 63 | 219 => 64 | 260 => 71 | 217 => 72 | 225 => 73 | 224 => 74 | 267 => 75 | 266 => 78 | 314 => 79 | n => n, fun | 9 => 9 | 31 => 57 | 3 => 3 | 4 => 4 | 0 => 0 | 105 => 173 | 21 => 21 | 5 => 5 | 46 => 40 | 119 => 185 | 139 => 188 | 138 => 187 | 146 => 189 | 51 => 180 | n => n, fun | 1 => 7 | 3 => 8 | 4 => 9 | n => n⟩
theorem Tryd.lays146 : Go.Proofs.Lays.n146 Tryd.prog Tryd.lays146_ren := {
  mixed := by kernel_rfl
  f138 := Tryd.func52.trans (congrArg some (by kernel_rfl))
  f143 := Tryd.func53.trans (congrArg some (by kernel_rfl))
  f146 := Tryd.func18.trans (congrArg some (by kernel_rfl))
  f195 := Tryd.func61.trans (congrArg some (by kernel_rfl))
  f197 := Tryd.func62.trans (congrArg some (by kernel_rfl))
  f217 := Tryd.func72.trans (congrArg some (by kernel_rfl))
  f218 := Tryd.func63.trans (congrArg some (by kernel_rfl))
  f219 := Tryd.func64.trans (congrArg some (by kernel_rfl))
  f221 := Tryd.func37.trans (congrArg some (by kernel_rfl))
  f224 := Tryd.func74.trans (congrArg some (by kernel_rfl))
  f225 := Tryd.func73.trans (congrArg some (by kernel_rfl))
  f260 := Tryd.func71.trans (congrArg some (by kernel_rfl))
  f266 := Tryd.func78.trans (congrArg some (by kernel_rfl))
  f267 := Tryd.func75.trans (congrArg some (by kernel_rfl))
  f268 := Tryd.func51.trans (congrArg some (by kernel_rfl))
  f314 := Tryd.func79.trans (congrArg some (by kernel_rfl))
  t0 := Tryd.underlying0
  a0 := Tryd.isAgg0
  z0 := Tryd.sizeOf0
  v0 := Tryd.zeroValue0
  t3 := Tryd.underlying3
  a3 := Tryd.isAgg3
  z3 := Tryd.sizeOf3
  v3 := Tryd.zeroValue3
  t4 := Tryd.underlying4
  a4 := Tryd.isAgg4
  z4 := Tryd.sizeOf4
  v4 := Tryd.zeroValue4
  t5 := Tryd.underlying5
  a5 := Tryd.isAgg5
  z5 := Tryd.sizeOf5
  v5 := Tryd.zeroValue5
  t9 := Tryd.underlying9
  a9 := Tryd.isAgg9
  z9 := Tryd.sizeOf9
  v9 := Tryd.zeroValue9
  t21 := Tryd.underlying21
  a21 := Tryd.isAgg21
  z21 := Tryd.sizeOf21
  v21 := Tryd.zeroValue21
  t31 := Tryd.underlying57
  a31 := Tryd.isAgg57
  z31 := Tryd.sizeOf57
  v31 := Tryd.zeroValue57
  t46 := Tryd.underlying40
  a46 := Tryd.isAgg40
  z46 := Tryd.sizeOf40
  v46 := Tryd.zeroValue40
  t51 := Tryd.underlying180
  a51 := Tryd.isAgg180
  z51 := Tryd.sizeOf180
  v51 := Tryd.zeroValue180
  t105 := Tryd.underlying173
  a105 := Tryd.isAgg173
  z105 := Tryd.sizeOf173
  v105 := Tryd.zeroValue173
  t119 := Tryd.underlying185
  a119 := Tryd.isAgg185
  z119 := Tryd.sizeOf185
  t138 := Tryd.underlying187
  a138 := Tryd.isAgg187
  z138 := Tryd.sizeOf187
  v138 := Tryd.zeroValue187
  t139 := Tryd.underlying188
  a139 := Tryd.isAgg188
  z139 := Tryd.sizeOf188
  v139 := Tryd.zeroValue188
  t146 := Tryd.underlying189
  a146 := Tryd.isAgg189
  z146 := Tryd.sizeOf189
  v146 := Tryd.zeroValue189
  g1 := by kernel_rfl
  g3 := by kernel_rfl
  g4 := by kernel_rfl }
open Go.RowKit Go.Lib in
theorem Tryd.strings_Split (s sep : ByteArray) (m : Int) (w : World) (hs : s.size < 4294967281) (hm : w.cell? ⟨7, 0, none⟩ = some (.int .i64 m)) (h1 : 1 ≤ sep.size) :
    Calls Tryd.prog 18 #[.string s, .string sep] w fun e w' =>
      e = .returned (.slice (some ⟨w.heap.size, 0, none⟩) (Lib.countB s sep + 1) (Lib.countB s sep + 1)) ∧ w' = w.alloc (.cells ((Lib.splitB sep 0 (Lib.countB s sep) s).map Value.string).toArray 9) := Any.strings_Split Tryd.lays146 (by kernel_rfl) s sep m w hs hm h1
def Tryd.lays147_ren : Go.Shelf.Ren := ⟨fun | 147 => 56 | 221 => 37 | 268 => 51 | 138 => 52 | 143 => 53 | 195 => 61 | 197 => 62 | 218 => 63 | 219 => 64 | 260 => 71 | 217 => 72 | 225 => 73 | 224 => 74 | 267 => 75 | 266 => 78 | 314 => 79 | n => n, fun | 9 => 9 | 3 => 3 | 31 => 57 | 4 => 4 | 0 => 0 | 105 => 173 | 21 => 21 | 5 => 5 | 46 => 40 | 119 => 185 | 139 => 188 | 138 => 187 | 146 => 189 | 51 => 180 | n => n, fun | 1 => 7 | 3 => 8 | 4 => 9 | n => n⟩
theorem Tryd.lays147 : Go.Proofs.Lays.n147 Tryd.prog Tryd.lays147_ren := {
  mixed := by kernel_rfl
  f138 := Tryd.func52.trans (congrArg some (by kernel_rfl))
  f143 := Tryd.func53.trans (congrArg some (by kernel_rfl))
  f147 := Tryd.func56.trans (congrArg some (by kernel_rfl))
  f195 := Tryd.func61.trans (congrArg some (by kernel_rfl))
  f197 := Tryd.func62.trans (congrArg some (by kernel_rfl))
  f217 := Tryd.func72.trans (congrArg some (by kernel_rfl))
  f218 := Tryd.func63.trans (congrArg some (by kernel_rfl))
  f219 := Tryd.func64.trans (congrArg some (by kernel_rfl))
  f221 := Tryd.func37.trans (congrArg some (by kernel_rfl))
  f224 := Tryd.func74.trans (congrArg some (by kernel_rfl))
  f225 := Tryd.func73.trans (congrArg some (by kernel_rfl))
  f260 := Tryd.func71.trans (congrArg some (by kernel_rfl))
  f266 := Tryd.func78.trans (congrArg some (by kernel_rfl))
  f267 := Tryd.func75.trans (congrArg some (by kernel_rfl))
  f268 := Tryd.func51.trans (congrArg some (by kernel_rfl))
  f314 := Tryd.func79.trans (congrArg some (by kernel_rfl))
  t0 := Tryd.underlying0
  a0 := Tryd.isAgg0
  z0 := Tryd.sizeOf0
  v0 := Tryd.zeroValue0
  t3 := Tryd.underlying3
  a3 := Tryd.isAgg3
  z3 := Tryd.sizeOf3
  v3 := Tryd.zeroValue3
  t4 := Tryd.underlying4
  a4 := Tryd.isAgg4
  z4 := Tryd.sizeOf4
  v4 := Tryd.zeroValue4
  t5 := Tryd.underlying5
  a5 := Tryd.isAgg5
  z5 := Tryd.sizeOf5
  v5 := Tryd.zeroValue5
  t9 := Tryd.underlying9
  a9 := Tryd.isAgg9
  z9 := Tryd.sizeOf9
  v9 := Tryd.zeroValue9
  t21 := Tryd.underlying21
  a21 := Tryd.isAgg21
  z21 := Tryd.sizeOf21
  v21 := Tryd.zeroValue21
  t31 := Tryd.underlying57
  a31 := Tryd.isAgg57
  z31 := Tryd.sizeOf57
  v31 := Tryd.zeroValue57
  t46 := Tryd.underlying40
  a46 := Tryd.isAgg40
  z46 := Tryd.sizeOf40
  v46 := Tryd.zeroValue40
  t51 := Tryd.underlying180
  a51 := Tryd.isAgg180
  z51 := Tryd.sizeOf180
  v51 := Tryd.zeroValue180
  t105 := Tryd.underlying173
  a105 := Tryd.isAgg173
  z105 := Tryd.sizeOf173
  v105 := Tryd.zeroValue173
  t119 := Tryd.underlying185
  a119 := Tryd.isAgg185
  z119 := Tryd.sizeOf185
  t138 := Tryd.underlying187
  a138 := Tryd.isAgg187
  z138 := Tryd.sizeOf187
  v138 := Tryd.zeroValue187
  t139 := Tryd.underlying188
  a139 := Tryd.isAgg188
  z139 := Tryd.sizeOf188
  v139 := Tryd.zeroValue188
  t146 := Tryd.underlying189
  a146 := Tryd.isAgg189
  z146 := Tryd.sizeOf189
  v146 := Tryd.zeroValue189
  g1 := by kernel_rfl
  g3 := by kernel_rfl
  g4 := by kernel_rfl }
open Go.RowKit Go.Lib in
theorem Tryd.strings_SplitN (s sep : ByteArray) (n : Nat) (m : Int) (w : World) (hs : s.size < 4294967281) (hm : w.cell? ⟨7, 0, none⟩ = some (.int .i64 m)) (h1 : 1 ≤ sep.size) (hn : 1 ≤ n) (hn63 : n ≤ 9223372036854775807) :
    Calls Tryd.prog 56 #[.string s, .string sep, .int .i64 n] w fun e w' =>
      e = .returned (.slice (some ⟨w.heap.size, 0, none⟩) (Lib.splitB sep 0 (min n (s.size + 1) - 1) s).length (min n (s.size + 1))) ∧ w' = w.alloc (.cells (Lib.cellsOf (Lib.splitB sep 0 (min n (s.size + 1) - 1) s) (min n (s.size + 1))) 9) := Any.strings_SplitN Tryd.lays147 (by kernel_rfl) s sep n m w hs hm h1 hn hn63
def Tryd.lays109_ren : Go.Shelf.Ren := ⟨fun | 109 => 38 | n => n, fun | 31 => 57 | 9 => 9 | 3 => 3 | 0 => 0 | 4 => 4 | n => n, fun | n => n⟩
theorem Tryd.lays109 : Go.Proofs.Lays.n109 Tryd.prog Tryd.lays109_ren := {
  mixed := by kernel_rfl
  f109 := Tryd.func38.trans (congrArg some (by kernel_rfl))
  t0 := Tryd.underlying0
  a0 := Tryd.isAgg0
  z0 := Tryd.sizeOf0
  v0 := Tryd.zeroValue0
  t3 := Tryd.underlying3
  a3 := Tryd.isAgg3
  z3 := Tryd.sizeOf3
  v3 := Tryd.zeroValue3
  t4 := Tryd.underlying4
  a4 := Tryd.isAgg4
  z4 := Tryd.sizeOf4
  v4 := Tryd.zeroValue4
  t9 := Tryd.underlying9
  a9 := Tryd.isAgg9
  z9 := Tryd.sizeOf9
  v9 := Tryd.zeroValue9
  t31 := Tryd.underlying57
  a31 := Tryd.isAgg57
  z31 := Tryd.sizeOf57
  v31 := Tryd.zeroValue57 }
open Go.Lib in
theorem Tryd.slices_Index_string (b off n c : Nat) (zs : List ByteArray) (x : ByteArray) (w : World) (hz : n ≤ zs.length) (hbig : n ≤ 9223372036854775807) (hc : ∀ j, j < zs.length → w.cell? ⟨b, off + j, none⟩ = some (.string (zs.getD j ByteArray.empty))) :
    Calls Tryd.prog 38 #[.slice (some ⟨b, off, none⟩) n c, .string x] w fun e w' => e = .returned (.int .i64 (Lib.idxOfS (zs.take n) x)) ∧ w' = w := Any.slices_Index_string Tryd.lays109 b off n c zs x w hz hbig hc
open Go.Lib in
theorem Tryd.slices_Index_string_empty (a : Option Addr) (c : Nat) (x : ByteArray) (w : World) :
    Calls Tryd.prog 38 #[.slice a 0 c, .string x] w fun e w' => e = .returned (.int .i64 (Lib.idxOfS [] x)) ∧ w' = w := Any.slices_Index_string_empty Tryd.lays109 a c x w
end Go.Proofs
