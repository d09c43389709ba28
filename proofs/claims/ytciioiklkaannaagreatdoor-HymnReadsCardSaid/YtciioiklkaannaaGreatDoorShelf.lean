/- Contracts of functions of Go's library at this dump, laid by the shelf. -/
import Derived.Shelf.Strings.Builder1
import Derived.Shelf.Small.Wraps
import Derived.Shelf.Strings.BuilderF
import Derived.Shelf.Strings.BuilderK
import Derived.Shelf.Utf8.RuneCount
import Derived.Shelf.Strconv.Itoa0
import Derived.Shelf.Strconv.Itoa1
import Derived.Shelf.LaysM
import Derived.Shelf.Strconv.Itoa2
import Derived.Shelf.Strconv.Itoa3
import Derived.Shelf.Strings.Search1
import Derived.Shelf.Strings.Search2
import Derived.Shelf.Strings.Search3
import Derived.Shelf.Strings.Count
import Derived.Shelf.Strings.Shaped
import Derived.Shelf.Strings.Prefix
import Derived.Shelf.Strings.Split
import Derived.Shelf.Strings.SplitShaped
import Derived.Shelf.Unicode.Decode
import Derived.Shelf.Strings.RuneCount
import Derived.Shelf.Strings.Explode
import Derived.Shelf.Unicode.DecodeSlow
import Derived.Shelf.Unicode.DecodeAny
import Derived.Shelf.Slices.Turned
import Derived.Test.YtciioiklkaannaaGreatDoorProg
namespace Go.Proofs
open Go.Shelf
set_option linter.unusedSimpArgs false
set_option linter.unusedVariables false
set_option linter.unusedSectionVars false
def Tryz.lays169_ren : Go.Shelf.Ren := ⟨fun | 169 => 23 | n => n, fun | 70 => 54 | 9 => 9 | 0 => 0 | 72 => 57 | 37 => 55 | 127 => 90 | 3 => 3 | 5 => 5 | n => n, fun | n => n⟩
theorem Tryz.lays169 : Go.Proofs.Lays.n169 Tryz.prog Tryz.lays169_ren := {
  mixed := by kernel_rfl
  f169 := Tryz.func23.trans (congrArg some (by kernel_rfl))
  t0 := Tryz.underlying0
  a0 := Tryz.isAgg0
  z0 := Tryz.sizeOf0
  v0 := Tryz.zeroValue0
  t3 := Tryz.underlying3
  a3 := Tryz.isAgg3
  z3 := Tryz.sizeOf3
  v3 := Tryz.zeroValue3
  t9 := Tryz.underlying9
  a9 := Tryz.isAgg9
  z9 := Tryz.sizeOf9
  v9 := Tryz.zeroValue9
  t37 := Tryz.underlying55
  a37 := Tryz.isAgg55
  z37 := Tryz.sizeOf55
  v37 := Tryz.zeroValue55
  t70 := Tryz.underlying54
  a70 := Tryz.isAgg54
  z70 := Tryz.sizeOf54
  v70 := Tryz.zeroValue54
  t72 := Tryz.underlying57
  a72 := Tryz.isAgg57
  z72 := Tryz.sizeOf57
  v72 := Tryz.zeroValue57
  t127 := Tryz.underlying90
  a127 := Tryz.isAgg90
  z127 := Tryz.sizeOf90
  v127 := Tryz.zeroValue90 }
theorem Tryz.Builder_Extra_169 : Builder.Extra Tryz.prog Tryz.lays169_ren := {
  sizeBuilder := by kernel_rfl
  liesBuilder := by kernel_rfl
  t5 := Tryz.underlying5
  a5 := Tryz.isAgg5
  z5 := Tryz.sizeOf5
  v5 := Tryz.zeroValue5
  infoByte := by kernel_rfl
  cellsByte := by kernel_rfl
  sizeByte := by kernel_rfl
  neB5 := by decide }
def Tryz.lays104_ren : Go.Shelf.Ren := ⟨fun | 104 => 52 | 211 => 66 | 207 => 75 | n => n, fun | 9 => 9 | 4 => 4 | 24 => 129 | 3 => 3 | n => n, fun | n => n⟩
theorem Tryz.lays104 : Go.Proofs.Lays.n104 Tryz.prog Tryz.lays104_ren := {
  mixed := by kernel_rfl
  f104 := Tryz.func52.trans (congrArg some (by kernel_rfl))
  f207 := Tryz.func75.trans (congrArg some (by kernel_rfl))
  f211 := Tryz.func66.trans (congrArg some (by kernel_rfl))
  t3 := Tryz.underlying3
  a3 := Tryz.isAgg3
  z3 := Tryz.sizeOf3
  v3 := Tryz.zeroValue3
  t4 := Tryz.underlying4
  a4 := Tryz.isAgg4
  z4 := Tryz.sizeOf4
  v4 := Tryz.zeroValue4
  t9 := Tryz.underlying9
  a9 := Tryz.isAgg9
  z9 := Tryz.sizeOf9
  v9 := Tryz.zeroValue9
  t24 := Tryz.underlying129
  a24 := Tryz.isAgg129
  z24 := Tryz.sizeOf129
  v24 := Tryz.zeroValue129 }
open Go.RowKit in
theorem Tryz.strings_CutSuffix (s p : ByteArray) (w : World) (hs : s.size ≤ 9223372036854775807) :
    Calls Tryz.prog 52 #[.string s, .string p] w fun e w' => e = .returned (.tuple #[.string ⟨(Lib.trimSuffix s.data.toList p.data.toList).toArray⟩, .bool (Lib.hasSuffix s.data.toList p.data.toList)]) ∧ w' = w := Any.strings_CutSuffix Tryz.lays104 s p w hs
open Go.RowKit in
theorem Tryz.Builder_String_any_k (B b : Nat) (l : List UInt8) (w : World) (h : Lib.IsBuilderF 57 5 B b (Lib.byteCells l) w) (hBw : B ≤ w.heap.size) :
    Calls Tryz.prog 23 #[.pointer (some ⟨b, 0, none⟩)] w fun e w' => e = .returned (.string ⟨l.toArray⟩) ∧ (Lib.IsBuilderF 57 5 B b (Lib.byteCells l) w' ∧ Below B w w' ∧ Lib.OthersKept 5 (some b) w w') := Any.Builder_String_any_k Tryz.lays169 Tryz.Builder_Extra_169 B b l w h hBw
def Tryz.laysM171_ren : Go.Shelf.Ren := ⟨fun | 171 => 21 | 243 => 45 | 246 => 61 | 283 => 71 | 284 => 72 | 285 => 73 | 286 => 74 | 129 => 81 | 317 => 80 | 318 => 82 | 319 => 83 | 320 => 84 | 337 => 90 | 338 => 91 | n => n, fun | 3 => 3 | 9 => 9 | 2 => 2 | 4 => 4 | 171 => 169 | 0 => 0 | 53 => 170 | 37 => 55 | 5 => 5 | 173 => 173 | 212 => 188 | 51 => 189 | 20 => 20 | 213 => 190 | 46 => 192 | 232 => 201 | 233 => 202 | n => n, fun | 17 => 6 | 18 => 10 | 19 => 11 | n => n⟩
theorem Tryz.laysM171 : Go.Proofs.LaysM.n171 Tryz.prog Tryz.laysM171_ren := {
  mixed := by kernel_rfl
  f129 := Tryz.func81.trans (congrArg some (by kernel_rfl))
  f171 := Tryz.func21.trans (congrArg some (by kernel_rfl))
  f243 := Tryz.func45.trans (congrArg some (by kernel_rfl))
  f246 := Tryz.func61.trans (congrArg some (by kernel_rfl))
  f283 := Tryz.func71.trans (congrArg some (by kernel_rfl))
  f284 := Tryz.func72.trans (congrArg some (by kernel_rfl))
  f285 := Tryz.func73.trans (congrArg some (by kernel_rfl))
  f286 := Tryz.func74.trans (congrArg some (by kernel_rfl))
  f317 := Tryz.func80.trans (congrArg some (by kernel_rfl))
  f318 := Tryz.func82.trans (congrArg some (by kernel_rfl))
  f319 := Tryz.func83.trans (congrArg some (by kernel_rfl))
  f320 := Tryz.func84.trans (congrArg some (by kernel_rfl))
  f337 := Tryz.func90.trans (congrArg some (by kernel_rfl))
  f338 := Tryz.func91.trans (congrArg some (by kernel_rfl))
  t0 := Tryz.underlying0
  a0 := Tryz.isAgg0
  z0 := Tryz.sizeOf0
  v0 := Tryz.zeroValue0
  t2 := Tryz.underlying2
  a2 := Tryz.isAgg2
  z2 := Tryz.sizeOf2
  v2 := Tryz.zeroValue2
  t3 := Tryz.underlying3
  a3 := Tryz.isAgg3
  z3 := Tryz.sizeOf3
  v3 := Tryz.zeroValue3
  t4 := Tryz.underlying4
  a4 := Tryz.isAgg4
  z4 := Tryz.sizeOf4
  v4 := Tryz.zeroValue4
  t5 := Tryz.underlying5
  a5 := Tryz.isAgg5
  z5 := Tryz.sizeOf5
  v5 := Tryz.zeroValue5
  t9 := Tryz.underlying9
  a9 := Tryz.isAgg9
  z9 := Tryz.sizeOf9
  v9 := Tryz.zeroValue9
  t20 := Tryz.underlying20
  a20 := Tryz.isAgg20
  z20 := Tryz.sizeOf20
  v20 := Tryz.zeroValue20
  t37 := Tryz.underlying55
  a37 := Tryz.isAgg55
  z37 := Tryz.sizeOf55
  v37 := Tryz.zeroValue55
  t46 := Tryz.underlying192
  a46 := Tryz.isAgg192
  z46 := Tryz.sizeOf192
  v46 := Tryz.zeroValue192
  t51 := Tryz.underlying189
  a51 := Tryz.isAgg189
  z51 := Tryz.sizeOf189
  v51 := Tryz.zeroValue189
  t53 := Tryz.underlying170
  a53 := Tryz.isAgg170
  z53 := Tryz.sizeOf170
  v53 := Tryz.zeroValue170
  t171 := Tryz.underlying169
  a171 := Tryz.isAgg169
  z171 := Tryz.sizeOf169
  v171 := Tryz.zeroValue169
  t173 := Tryz.underlying173
  a173 := Tryz.isAgg173
  z173 := Tryz.sizeOf173
  v173 := Tryz.zeroValue173
  t212 := Tryz.underlying188
  a212 := Tryz.isAgg188
  z212 := Tryz.sizeOf188
  v212 := Tryz.zeroValue188
  t213 := Tryz.underlying190
  a213 := Tryz.isAgg190
  z213 := Tryz.sizeOf190
  t232 := Tryz.underlying201
  a232 := Tryz.isAgg201
  z232 := Tryz.sizeOf201
  v232 := Tryz.zeroValue201
  t233 := Tryz.underlying202
  a233 := Tryz.isAgg202
  z233 := Tryz.sizeOf202
  v233 := Tryz.zeroValue202
  g17 := by kernel_rfl
  g18 := by kernel_rfl
  g19 := by kernel_rfl
  i0 := by kernel_rfl
  i2 := by kernel_rfl
  i3 := by kernel_rfl
  i4 := by kernel_rfl
  i5 := by kernel_rfl
  i9 := by kernel_rfl
  i20 := by kernel_rfl
  i37 := by kernel_rfl
  i46 := by kernel_rfl
  i51 := by kernel_rfl
  i53 := by kernel_rfl
  i171 := by kernel_rfl
  i173 := by kernel_rfl
  i212 := by kernel_rfl
  i232 := by kernel_rfl
  i233 := by kernel_rfl
  m17 := by kernel_rfl
  m18 := by kernel_rfl
  m19 := by kernel_rfl }
open Go.RowKit Go.Sort Go.Lib in
theorem Tryz.strconv_Itoa (n : Int) (h0 : -9223372036854775808 ≤ n) (h1 : n ≤ 9223372036854775807) (w : World) (htab : Lib.TabIs Tryz.prog w "internal/strconv.uint64pow10" .u64 Lib.pow10Tab) :
    Calls Tryz.prog 21 #[.int .i64 n] w fun e w' => e = .returned (.string ⟨(Lib.itoa n).toArray⟩) ∧ ∃ k os, w' = grow (w.drewN k) os := Any.strconv_Itoa Tryz.laysM171 n h0 h1 w htab
def Tryz.lays146_ren : Go.Shelf.Ren := ⟨fun | 146 => 38 | 221 => 56 | 268 => 68 | 138 => 69 | 143 => 70 | 195 => 76 | 197 => 77 | 218 => 78 | 219 => 79 | 260 => 85 | 217 => 86 | 225 => 87 | 224 => 88 | 267 => 89 | 266 => 92 | 314 => 93 | n => n, fun | 9 => 9 | 31 => 83 | 3 => 3 | 4 => 4 | 0 => 0 | 105 => 183 | 21 => 21 | 5 => 5 | 46 => 192 | 119 => 195 | 139 => 198 | 138 => 197 | 146 => 199 | 51 => 189 | n => n, fun | 1 => 7 | 3 => 8 | 4 => 9 | n => n⟩
theorem Tryz.lays146 : Go.Proofs.Lays.n146 Tryz.prog Tryz.lays146_ren := {
  mixed := by kernel_rfl
  f138 := Tryz.func69.trans (congrArg some (by kernel_rfl))
  f143 := Tryz.func70.trans (congrArg some (by kernel_rfl))
  f146 := Tryz.func38.trans (congrArg some (by kernel_rfl))
  f195 := Tryz.func76.trans (congrArg some (by kernel_rfl))
  f197 := Tryz.func77.trans (congrArg some (by kernel_rfl))
  f217 := Tryz.func86.trans (congrArg some (by kernel_rfl))
  f218 := Tryz.func78.trans (congrArg some (by kernel_rfl))
  f219 := Tryz.func79.trans (congrArg some (by kernel_rfl))
  f221 := Tryz.func56.trans (congrArg some (by kernel_rfl))
  f224 := Tryz.func88.trans (congrArg some (by kernel_rfl))
  f225 := Tryz.func87.trans (congrArg some (by kernel_rfl))
  f260 := Tryz.func85.trans (congrArg some (by kernel_rfl))
  f266 := Tryz.func92.trans (congrArg some (by kernel_rfl))
  f267 := Tryz.func89.trans (congrArg some (by kernel_rfl))
  f268 := Tryz.func68.trans (congrArg some (by kernel_rfl))
  f314 := Tryz.func93.trans (congrArg some (by kernel_rfl))
  t0 := Tryz.underlying0
  a0 := Tryz.isAgg0
  z0 := Tryz.sizeOf0
  v0 := Tryz.zeroValue0
  t3 := Tryz.underlying3
  a3 := Tryz.isAgg3
  z3 := Tryz.sizeOf3
  v3 := Tryz.zeroValue3
  t4 := Tryz.underlying4
  a4 := Tryz.isAgg4
  z4 := Tryz.sizeOf4
  v4 := Tryz.zeroValue4
  t5 := Tryz.underlying5
  a5 := Tryz.isAgg5
  z5 := Tryz.sizeOf5
  v5 := Tryz.zeroValue5
  t9 := Tryz.underlying9
  a9 := Tryz.isAgg9
  z9 := Tryz.sizeOf9
  v9 := Tryz.zeroValue9
  t21 := Tryz.underlying21
  a21 := Tryz.isAgg21
  z21 := Tryz.sizeOf21
  v21 := Tryz.zeroValue21
  t31 := Tryz.underlying83
  a31 := Tryz.isAgg83
  z31 := Tryz.sizeOf83
  v31 := Tryz.zeroValue83
  t46 := Tryz.underlying192
  a46 := Tryz.isAgg192
  z46 := Tryz.sizeOf192
  v46 := Tryz.zeroValue192
  t51 := Tryz.underlying189
  a51 := Tryz.isAgg189
  z51 := Tryz.sizeOf189
  v51 := Tryz.zeroValue189
  t105 := Tryz.underlying183
  a105 := Tryz.isAgg183
  z105 := Tryz.sizeOf183
  v105 := Tryz.zeroValue183
  t119 := Tryz.underlying195
  a119 := Tryz.isAgg195
  z119 := Tryz.sizeOf195
  t138 := Tryz.underlying197
  a138 := Tryz.isAgg197
  z138 := Tryz.sizeOf197
  v138 := Tryz.zeroValue197
  t139 := Tryz.underlying198
  a139 := Tryz.isAgg198
  z139 := Tryz.sizeOf198
  v139 := Tryz.zeroValue198
  t146 := Tryz.underlying199
  a146 := Tryz.isAgg199
  z146 := Tryz.sizeOf199
  v146 := Tryz.zeroValue199
  g1 := by kernel_rfl
  g3 := by kernel_rfl
  g4 := by kernel_rfl }
open Go.RowKit Go.Lib in
theorem Tryz.strings_Split (s sep : ByteArray) (m : Int) (w : World) (hs : s.size < 4294967281) (hm : w.cell? ⟨7, 0, none⟩ = some (.int .i64 m)) (h1 : 1 ≤ sep.size) :
    Calls Tryz.prog 38 #[.string s, .string sep] w fun e w' =>
      e = .returned (.slice (some ⟨w.heap.size, 0, none⟩) (Lib.countB s sep + 1) (Lib.countB s sep + 1)) ∧ w' = w.alloc (.cells ((Lib.splitB sep 0 (Lib.countB s sep) s).map Value.string).toArray 9) := Any.strings_Split Tryz.lays146 (by kernel_rfl) s sep m w hs hm h1
def Tryz.lays147_ren : Go.Shelf.Ren := ⟨fun | 147 => 67 | 221 => 56 | 268 => 68 | 138 => 69 | 143 => 70 | 195 => 76 | 197 => 77 | 218 => 78 | 219 => 79 | 260 => 85 | 217 => 86 | 225 => 87 | 224 => 88 | 267 => 89 | 266 => 92 | 314 => 93 | n => n, fun | 9 => 9 | 3 => 3 | 31 => 83 | 4 => 4 | 0 => 0 | 105 => 183 | 21 => 21 | 5 => 5 | 46 => 192 | 119 => 195 | 139 => 198 | 138 => 197 | 146 => 199 | 51 => 189 | n => n, fun | 1 => 7 | 3 => 8 | 4 => 9 | n => n⟩
theorem Tryz.lays147 : Go.Proofs.Lays.n147 Tryz.prog Tryz.lays147_ren := {
  mixed := by kernel_rfl
  f138 := Tryz.func69.trans (congrArg some (by kernel_rfl))
  f143 := Tryz.func70.trans (congrArg some (by kernel_rfl))
  f147 := Tryz.func67.trans (congrArg some (by kernel_rfl))
  f195 := Tryz.func76.trans (congrArg some (by kernel_rfl))
  f197 := Tryz.func77.trans (congrArg some (by kernel_rfl))
  f217 := Tryz.func86.trans (congrArg some (by kernel_rfl))
  f218 := Tryz.func78.trans (congrArg some (by kernel_rfl))
  f219 := Tryz.func79.trans (congrArg some (by kernel_rfl))
  f221 := Tryz.func56.trans (congrArg some (by kernel_rfl))
  f224 := Tryz.func88.trans (congrArg some (by kernel_rfl))
  f225 := Tryz.func87.trans (congrArg some (by kernel_rfl))
  f260 := Tryz.func85.trans (congrArg some (by kernel_rfl))
  f266 := Tryz.func92.trans (congrArg some (by kernel_rfl))
  f267 := Tryz.func89.trans (congrArg some (by kernel_rfl))
  f268 := Tryz.func68.trans (congrArg some (by kernel_rfl))
  f314 := Tryz.func93.trans (congrArg some (by kernel_rfl))
  t0 := Tryz.underlying0
  a0 := Tryz.isAgg0
  z0 := Tryz.sizeOf0
  v0 := Tryz.zeroValue0
  t3 := Tryz.underlying3
  a3 := Tryz.isAgg3
  z3 := Tryz.sizeOf3
  v3 := Tryz.zeroValue3
  t4 := Tryz.underlying4
  a4 := Tryz.isAgg4
  z4 := Tryz.sizeOf4
  v4 := Tryz.zeroValue4
  t5 := Tryz.underlying5
  a5 := Tryz.isAgg5
  z5 := Tryz.sizeOf5
  v5 := Tryz.zeroValue5
  t9 := Tryz.underlying9
  a9 := Tryz.isAgg9
  z9 := Tryz.sizeOf9
  v9 := Tryz.zeroValue9
  t21 := Tryz.underlying21
  a21 := Tryz.isAgg21
  z21 := Tryz.sizeOf21
  v21 := Tryz.zeroValue21
  t31 := Tryz.underlying83
  a31 := Tryz.isAgg83
  z31 := Tryz.sizeOf83
  v31 := Tryz.zeroValue83
  t46 := Tryz.underlying192
  a46 := Tryz.isAgg192
  z46 := Tryz.sizeOf192
  v46 := Tryz.zeroValue192
  t51 := Tryz.underlying189
  a51 := Tryz.isAgg189
  z51 := Tryz.sizeOf189
  v51 := Tryz.zeroValue189
  t105 := Tryz.underlying183
  a105 := Tryz.isAgg183
  z105 := Tryz.sizeOf183
  v105 := Tryz.zeroValue183
  t119 := Tryz.underlying195
  a119 := Tryz.isAgg195
  z119 := Tryz.sizeOf195
  t138 := Tryz.underlying197
  a138 := Tryz.isAgg197
  z138 := Tryz.sizeOf197
  v138 := Tryz.zeroValue197
  t139 := Tryz.underlying198
  a139 := Tryz.isAgg198
  z139 := Tryz.sizeOf198
  v139 := Tryz.zeroValue198
  t146 := Tryz.underlying199
  a146 := Tryz.isAgg199
  z146 := Tryz.sizeOf199
  v146 := Tryz.zeroValue199
  g1 := by kernel_rfl
  g3 := by kernel_rfl
  g4 := by kernel_rfl }
open Go.RowKit Go.Lib in
theorem Tryz.strings_SplitN (s sep : ByteArray) (n : Nat) (m : Int) (w : World) (hs : s.size < 4294967281) (hm : w.cell? ⟨7, 0, none⟩ = some (.int .i64 m)) (h1 : 1 ≤ sep.size) (hn : 1 ≤ n) (hn63 : n ≤ 9223372036854775807) :
    Calls Tryz.prog 67 #[.string s, .string sep, .int .i64 n] w fun e w' =>
      e = .returned (.slice (some ⟨w.heap.size, 0, none⟩) (Lib.splitB sep 0 (min n (s.size + 1) - 1) s).length (min n (s.size + 1))) ∧ w' = w.alloc (.cells (Lib.cellsOf (Lib.splitB sep 0 (min n (s.size + 1) - 1) s) (min n (s.size + 1))) 9) := Any.strings_SplitN Tryz.lays147 (by kernel_rfl) s sep n m w hs hm h1 hn hn63
def Tryz.lays109_ren : Go.Shelf.Ren := ⟨fun | 109 => 57 | n => n, fun | 31 => 83 | 9 => 9 | 3 => 3 | 0 => 0 | 4 => 4 | n => n, fun | n => n⟩
theorem Tryz.lays109 : Go.Proofs.Lays.n109 Tryz.prog Tryz.lays109_ren := {
  mixed := by kernel_rfl
  f109 := Tryz.func57.trans (congrArg some (by kernel_rfl))
  t0 := Tryz.underlying0
  a0 := Tryz.isAgg0
  z0 := Tryz.sizeOf0
  v0 := Tryz.zeroValue0
  t3 := Tryz.underlying3
  a3 := Tryz.isAgg3
  z3 := Tryz.sizeOf3
  v3 := Tryz.zeroValue3
  t4 := Tryz.underlying4
  a4 := Tryz.isAgg4
  z4 := Tryz.sizeOf4
  v4 := Tryz.zeroValue4
  t9 := Tryz.underlying9
  a9 := Tryz.isAgg9
  z9 := Tryz.sizeOf9
  v9 := Tryz.zeroValue9
  t31 := Tryz.underlying83
  a31 := Tryz.isAgg83
  z31 := Tryz.sizeOf83
  v31 := Tryz.zeroValue83 }
open Go.Lib in
theorem Tryz.slices_Index_string (b off n c : Nat) (zs : List ByteArray) (x : ByteArray) (w : World) (hz : n ≤ zs.length) (hbig : n ≤ 9223372036854775807) (hc : ∀ j, j < zs.length → w.cell? ⟨b, off + j, none⟩ = some (.string (zs.getD j ByteArray.empty))) :
    Calls Tryz.prog 57 #[.slice (some ⟨b, off, none⟩) n c, .string x] w fun e w' => e = .returned (.int .i64 (Lib.idxOfS (zs.take n) x)) ∧ w' = w := Any.slices_Index_string Tryz.lays109 b off n c zs x w hz hbig hc
open Go.Lib in
theorem Tryz.slices_Index_string_empty (a : Option Addr) (c : Nat) (x : ByteArray) (w : World) :
    Calls Tryz.prog 57 #[.slice a 0 c, .string x] w fun e w' => e = .returned (.int .i64 (Lib.idxOfS [] x)) ∧ w' = w := Any.slices_Index_string_empty Tryz.lays109 a c x w
end Go.Proofs
