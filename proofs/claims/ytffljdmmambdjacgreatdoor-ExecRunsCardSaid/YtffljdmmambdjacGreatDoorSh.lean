/- Contracts of the library at this program, as the kit's plain mode writes them: the conditions stand in each theorem. -/
import Derived.Shelf.Strings.SlTrimAscii
import Derived.Shelf.Strings.Builder1
import Derived.Shelf.Strings.Builder2
import Derived.Shelf.Strings.OnBuilder
import Derived.Shelf.Strings.Trim
import Derived.Shelf.Small.Utf8
import Derived.Shelf.Small.Bits
import Derived.Shelf.Small.Strs
import Derived.Shelf.Strings.BuilderF
import Derived.Shelf.Strings.BuilderK
import Derived.Shelf.Utf8.RuneCount
import Derived.Shelf.Strings.Builder2Cap
import Derived.Shelf.Strconv.Atoi
import Derived.Shelf.Strconv.Itoa0
import Derived.Shelf.Strconv.Itoa1
import Derived.Shelf.LaysM
import Derived.Shelf.Strconv.Itoa2
import Derived.Shelf.Strconv.Itoa3
import Derived.Shelf.Strconv.Itoa4
import Derived.Shelf.Strconv.AtoiErrFast
import Derived.Shelf.Strconv.ParseIntEmpty
import Derived.Shelf.Strconv.AtoiFail
import Derived.Shelf.Strconv.Clone
import Derived.Shelf.Strconv.SyntaxError
import Derived.Shelf.LaysC
import Derived.Shelf.Strconv.ToError
import Derived.Shelf.Strconv.AtoiErr
import Derived.Shelf.Strconv.ErrVar
import Derived.Shelf.Strconv.Lower
import Derived.Shelf.Strconv.ParseUint10
import Derived.Shelf.Strconv.ParseUint10Empty
import Derived.Shelf.Strconv.ParseUint10Any
import Derived.Shelf.Strconv.ParseInt10
import Derived.Shelf.Strconv.AtoiLong
import Derived.Shelf.Strconv.AtoiInnerAll
import Derived.Shelf.Strconv.RangeError
import Derived.Shelf.Strconv.ToErrorRange
import Derived.Shelf.Strconv.AtoiAll
import Derived.Shelf.Strconv.ErrVarAll
import Derived.Shelf.Strconv.ParseUintEmpty
import Derived.Shelf.Strconv.ParseUint10b64
import Derived.Shelf.Strconv.ParseUint10b32
import Derived.Shelf.Strconv.ParseUint10b16
import Derived.Shelf.Strconv.ParseUint10b8
import Derived.Shelf.Strconv.ParseUint10At
import Derived.Shelf.Strconv.ParseInt10At64
import Derived.Shelf.Strconv.ParseInt10At32
import Derived.Shelf.Strconv.ParseInt10At16
import Derived.Shelf.Strconv.ParseInt10At8
import Derived.Shelf.Strconv.ParseInt10All
import Derived.Shelf.Strconv.ParseIntPublic10
import Derived.Shelf.Strconv.ErrVarParseInt
import Derived.Shelf.Strings.Search1
import Derived.Shelf.Strings.Search2
import Derived.Shelf.Strings.Search3
import Derived.Shelf.Strings.Count
import Derived.Shelf.Strings.Shaped
import Derived.Shelf.Sort.Plain
import Derived.Ground.GgsProg
import Derived.Shelf.GgSortFunc.Insertion
import Derived.Shelf.GgSortFunc.Small
import Derived.Shelf.GgSortFunc.InsertionK
import Derived.Shelf.GgSortFunc.SmallK
import Derived.Shelf.GgSortFunc.Tiny
import Derived.Shelf.GgSortFunc.Compose
import Derived.Shelf.Strings.Split
import Derived.Shelf.Strings.Replace
import Derived.Shelf.Strings.SplitShaped
import Derived.Shelf.Unicode.Decode
import Derived.Shelf.Strings.Runes
import Derived.Shelf.Strings.RuneCount
import Derived.Shelf.Strings.AsciiSet
import Derived.Shelf.Strings.Explode
import Derived.Shelf.Unicode.DecodeSlow
import Derived.Shelf.Unicode.DecodeAny
import Derived.Shelf.Unicode.DecodeLast
import Derived.Shelf.Strings.BuilderCap
import Derived.Shelf.Slices.Turned
import Derived.Ground.Names2Prog
import Derived.Shelf.Slices.Clone
import Derived.Shelf.Slices.CompactS
import Derived.Shelf.Slices.Cells
import Derived.Shelf.Slices.In.SortNone
import Derived.Shelf.Slices.In.SortNone2
import Derived.Shelf.Bytes.SlIndexSmall
import Derived.Ground.SlbNamesProg
import Derived.Shelf.Bytes.SlCountOne
import Derived.Shelf.Bytes.SlIndexAt
import Derived.Shelf.Bytes.SlSearch0
import Derived.Shelf.Bytes.SlSearch1
import Derived.Shelf.Bytes.SlSearch2
import Derived.Shelf.Bytes.SlIndexWhole
import Derived.Shelf.Bytes.SlCountWhole
import Derived.Shelf.Bytes.SlSplit
import Derived.Shelf.Bytes.SlSplitNil
import Derived.Shelf.SlSortFunc.Xorshift
import Derived.Shelf.SlSortFuncK.ComposeK
import Derived.Ground.SlgnProg
import Derived.Shelf.SlicesE.Clone
import Derived.Shelf.Bytes.SlEqualAll
import Derived.Ground.SlbtProg
import Derived.Shelf.Bytes.SlCut
import Derived.Shelf.Bytes.Small
import Derived.Shelf.Bytes.IndexByte
import Derived.Test.YtffljdmmambdjacGreatDoorProg
namespace Go.Proofs
open Go.Shelf
def Tryz.lays156_ren:Go.Shelf.Ren := ⟨fun|156 => 146|165 => 198|166 => 199|169 => 200|240 => 231|241 => 232|276 => 259|277 => 260|n => n, fun|31 => 65|9 => 9|3 => 3|4 => 4|0 => 0|20 => 20|72 => 235|76 => 238|70 => 233|37 => 28|75 => 237|127 => 269|164 => 177|5 => 5|80 => 240|n => n, fun|n => n⟩
theorem Tryz.lays156:Go.Proofs.Lays.n156 Tryz.prog Tryz.lays156_ren := {
 mixed := by kernel_rfl
 f156 := Tryz.func146.trans (congrArg some (by kernel_rfl))
 f165 := Tryz.func198.trans (congrArg some (by kernel_rfl))
 f166 := Tryz.func199.trans (congrArg some (by kernel_rfl))
 f169 := Tryz.func200.trans (congrArg some (by kernel_rfl))
 f240 := Tryz.func231.trans (congrArg some (by kernel_rfl))
 f241 := Tryz.func232.trans (congrArg some (by kernel_rfl))
 f276 := Tryz.func259.trans (congrArg some (by kernel_rfl))
 f277 := Tryz.func260.trans (congrArg some (by kernel_rfl))
 t0 := Tryz.underlying0
 a0 := Tryz.isAgg0
 z0 := Tryz.sizeOf0
 v0 := Tryz.zeroValue0
 t3 := Tryz.underlying3
 a3 := Tryz.isAgg3
 z3 := Tryz.sizeOf3
 v3 := Tryz.zeroValue3
 t4 := Tryz.underlying4
 a4 := Tryz.isAgg4
 z4 := Tryz.sizeOf4
 v4 := Tryz.zeroValue4
 t9 := Tryz.underlying9
 a9 := Tryz.isAgg9
 z9 := Tryz.sizeOf9
 v9 := Tryz.zeroValue9
 t20 := Tryz.underlying20
 a20 := Tryz.isAgg20
 z20 := Tryz.sizeOf20
 v20 := Tryz.zeroValue20
 t31 := Tryz.underlying65
 a31 := Tryz.isAgg65
 z31 := Tryz.sizeOf65
 v31 := Tryz.zeroValue65
 t37 := Tryz.underlying28
 a37 := Tryz.isAgg28
 z37 := Tryz.sizeOf28
 v37 := Tryz.zeroValue28
 t70 := Tryz.underlying233
 a70 := Tryz.isAgg233
 z70 := Tryz.sizeOf233
 v70 := Tryz.zeroValue233
 t72 := Tryz.underlying235
 a72 := Tryz.isAgg235
 z72 := Tryz.sizeOf235
 v72 := Tryz.zeroValue235
 t75 := Tryz.underlying237
 a75 := Tryz.isAgg237
 z75 := Tryz.sizeOf237
 v75 := Tryz.zeroValue237
 t76 := Tryz.underlying238
 a76 := Tryz.isAgg238
 z76 := Tryz.sizeOf238
 v76 := Tryz.zeroValue238
 t127 := Tryz.underlying269
 a127 := Tryz.isAgg269
 z127 := Tryz.sizeOf269
 v127 := Tryz.zeroValue269
 t164 := Tryz.underlying177
 a164 := Tryz.isAgg177
 z164 := Tryz.sizeOf177
 v164 := Tryz.zeroValue177 }
theorem Tryz.Builder_Extra_156:Builder.Extra Tryz.prog Tryz.lays156_ren := {
 sizeBuilder := by kernel_rfl
 liesBuilder := by kernel_rfl
 t5 := Tryz.underlying5
 a5 := Tryz.isAgg5
 z5 := Tryz.sizeOf5
 v5 := Tryz.zeroValue5
 infoByte := by kernel_rfl
 cellsByte := by kernel_rfl
 sizeByte := by kernel_rfl
 neB5 := by decide }
open Go.RowKit in
theorem Tryz.strings_Join_none (a:Option Addr) (c:Nat) (sep:ByteArray) (w:World) :
  Calls Tryz.prog 146 #[.slice a 0 c, .string sep] w fun e w' => e=.returned (.string ⟨#[]⟩)∧w'=w := Any.strings_Join_none Tryz.lays156 Tryz.Builder_Extra_156 a c sep w
open Go.RowKit in
theorem Tryz.strings_Join (bk o c:Nat) (xs:List ByteArray) (sep:ByteArray) (w:World) (hcells:∀ (j:Nat) x, xs[j]?=some x→w.cell? ⟨bk, o+j, none⟩=some (.string x)) (hbk:bk < w.heap.size) (hN:xs.length≤140737488355328) (hcap:xs.length≤c) (hlen:(Lib.join (xs.map (·.data.toList)) sep.data.toList).length≤140737488355328) :
  Calls Tryz.prog 146 #[.slice (some ⟨bk, o, none⟩) xs.length c, .string sep] w fun e w' => e=.returned (.string ⟨(Lib.join (xs.map (·.data.toList)) sep.data.toList).toArray⟩)∧Below w.heap.size w w' := Any.strings_Join Tryz.lays156 Tryz.Builder_Extra_156 bk o c xs sep w hcells hbk hN hcap hlen
def Tryz.laysM171_ren:Go.Shelf.Ren := ⟨fun|171 => 150|243 => 203|246 => 236|283 => 267|284 => 268|285 => 269|286 => 270|129 => 189|317 => 290|318 => 291|319 => 292|320 => 293|337 => 301|338 => 302|n => n, fun|3 => 3|9 => 9|2 => 2|4 => 4|171 => 291|0 => 0|53 => 225|37 => 28|5 => 5|173 => 293|212 => 312|51 => 223|20 => 20|213 => 313|46 => 186|232 => 326|233 => 327|n => n, fun|17 => 3|18 => 6|19 => 7|n => n⟩
theorem Tryz.laysM171:Go.Proofs.LaysM.n171 Tryz.prog Tryz.laysM171_ren := {
 mixed := by kernel_rfl
 f129 := Tryz.func189.trans (congrArg some (by kernel_rfl))
 f171 := Tryz.func150.trans (congrArg some (by kernel_rfl))
 f243 := Tryz.func203.trans (congrArg some (by kernel_rfl))
 f246 := Tryz.func236.trans (congrArg some (by kernel_rfl))
 f283 := Tryz.func267.trans (congrArg some (by kernel_rfl))
 f284 := Tryz.func268.trans (congrArg some (by kernel_rfl))
 f285 := Tryz.func269.trans (congrArg some (by kernel_rfl))
 f286 := Tryz.func270.trans (congrArg some (by kernel_rfl))
 f317 := Tryz.func290.trans (congrArg some (by kernel_rfl))
 f318 := Tryz.func291.trans (congrArg some (by kernel_rfl))
 f319 := Tryz.func292.trans (congrArg some (by kernel_rfl))
 f320 := Tryz.func293.trans (congrArg some (by kernel_rfl))
 f337 := Tryz.func301.trans (congrArg some (by kernel_rfl))
 f338 := Tryz.func302.trans (congrArg some (by kernel_rfl))
 t0 := Tryz.underlying0
 a0 := Tryz.isAgg0
 z0 := Tryz.sizeOf0
 v0 := Tryz.zeroValue0
 t2 := Tryz.underlying2
 a2 := Tryz.isAgg2
 z2 := Tryz.sizeOf2
 v2 := Tryz.zeroValue2
 t3 := Tryz.underlying3
 a3 := Tryz.isAgg3
 z3 := Tryz.sizeOf3
 v3 := Tryz.zeroValue3
 t4 := Tryz.underlying4
 a4 := Tryz.isAgg4
 z4 := Tryz.sizeOf4
 v4 := Tryz.zeroValue4
 t5 := Tryz.underlying5
 a5 := Tryz.isAgg5
 z5 := Tryz.sizeOf5
 v5 := Tryz.zeroValue5
 t9 := Tryz.underlying9
 a9 := Tryz.isAgg9
 z9 := Tryz.sizeOf9
 v9 := Tryz.zeroValue9
 t20 := Tryz.underlying20
 a20 := Tryz.isAgg20
 z20 := Tryz.sizeOf20
 v20 := Tryz.zeroValue20
 t37 := Tryz.underlying28
 a37 := Tryz.isAgg28
 z37 := Tryz.sizeOf28
 v37 := Tryz.zeroValue28
 t46 := Tryz.underlying186
 a46 := Tryz.isAgg186
 z46 := Tryz.sizeOf186
 v46 := Tryz.zeroValue186
 t51 := Tryz.underlying223
 a51 := Tryz.isAgg223
 z51 := Tryz.sizeOf223
 v51 := Tryz.zeroValue223
 t53 := Tryz.underlying225
 a53 := Tryz.isAgg225
 z53 := Tryz.sizeOf225
 v53 := Tryz.zeroValue225
 t171 := Tryz.underlying291
 a171 := Tryz.isAgg291
 z171 := Tryz.sizeOf291
 v171 := Tryz.zeroValue291
 t173 := Tryz.underlying293
 a173 := Tryz.isAgg293
 z173 := Tryz.sizeOf293
 v173 := Tryz.zeroValue293
 t212 := Tryz.underlying312
 a212 := Tryz.isAgg312
 z212 := Tryz.sizeOf312
 v212 := Tryz.zeroValue312
 t213 := Tryz.underlying313
 a213 := Tryz.isAgg313
 z213 := Tryz.sizeOf313
 t232 := Tryz.underlying326
 a232 := Tryz.isAgg326
 z232 := Tryz.sizeOf326
 v232 := Tryz.zeroValue326
 t233 := Tryz.underlying327
 a233 := Tryz.isAgg327
 z233 := Tryz.sizeOf327
 v233 := Tryz.zeroValue327
 g17 := by kernel_rfl
 g18 := by kernel_rfl
 g19 := by kernel_rfl
 i0 := by kernel_rfl
 i2 := by kernel_rfl
 i3 := by kernel_rfl
 i4 := by kernel_rfl
 i5 := by kernel_rfl
 i9 := by kernel_rfl
 i20 := by kernel_rfl
 i37 := by kernel_rfl
 i46 := by kernel_rfl
 i51 := by kernel_rfl
 i53 := by kernel_rfl
 i171 := by kernel_rfl
 i173 := by kernel_rfl
 i212 := by kernel_rfl
 i232 := by kernel_rfl
 i233 := by kernel_rfl
 m17 := by kernel_rfl
 m18 := by kernel_rfl
 m19 := by kernel_rfl }
open Go.RowKit Go.Sort Go.Lib in
theorem Tryz.strconv_Itoa (n : Int) (h0 : -9223372036854775808 ≤ n) (h1 : n ≤ 9223372036854775807) (w : World) (htab : Lib.TabIs Tryz.prog w "internal/strconv.uint64pow10" .u64 Lib.pow10Tab) :
  Calls Tryz.prog 150 #[.int .i64 n] w fun e w' => e=.returned (.string ⟨(Lib.itoa n).toArray⟩)∧∃ k os, w'=grow (w.drewN k) os := Any.strconv_Itoa Tryz.laysM171 n h0 h1 w htab
def Tryz.laysM173_ren:Go.Shelf.Ren := ⟨fun|173 => 211|246 => 236|283 => 267|284 => 268|285 => 269|286 => 270|129 => 189|317 => 290|318 => 291|319 => 292|320 => 293|337 => 301|338 => 302|n => n, fun|2 => 2|3 => 3|9 => 9|4 => 4|171 => 291|0 => 0|53 => 225|37 => 28|5 => 5|173 => 293|212 => 312|51 => 223|20 => 20|213 => 313|46 => 186|232 => 326|233 => 327|n => n, fun|17 => 3|18 => 6|19 => 7|n => n⟩
theorem Tryz.laysM173:Go.Proofs.LaysM.n173 Tryz.prog Tryz.laysM173_ren := {
 mixed := by kernel_rfl
 f129 := Tryz.func189.trans (congrArg some (by kernel_rfl))
 f173 := Tryz.func211.trans (congrArg some (by kernel_rfl))
 f246 := Tryz.func236.trans (congrArg some (by kernel_rfl))
 f283 := Tryz.func267.trans (congrArg some (by kernel_rfl))
 f284 := Tryz.func268.trans (congrArg some (by kernel_rfl))
 f285 := Tryz.func269.trans (congrArg some (by kernel_rfl))
 f286 := Tryz.func270.trans (congrArg some (by kernel_rfl))
 f317 := Tryz.func290.trans (congrArg some (by kernel_rfl))
 f318 := Tryz.func291.trans (congrArg some (by kernel_rfl))
 f319 := Tryz.func292.trans (congrArg some (by kernel_rfl))
 f320 := Tryz.func293.trans (congrArg some (by kernel_rfl))
 f337 := Tryz.func301.trans (congrArg some (by kernel_rfl))
 f338 := Tryz.func302.trans (congrArg some (by kernel_rfl))
 t0 := Tryz.underlying0
 a0 := Tryz.isAgg0
 z0 := Tryz.sizeOf0
 v0 := Tryz.zeroValue0
 t2 := Tryz.underlying2
 a2 := Tryz.isAgg2
 z2 := Tryz.sizeOf2
 v2 := Tryz.zeroValue2
 t3 := Tryz.underlying3
 a3 := Tryz.isAgg3
 z3 := Tryz.sizeOf3
 v3 := Tryz.zeroValue3
 t4 := Tryz.underlying4
 a4 := Tryz.isAgg4
 z4 := Tryz.sizeOf4
 v4 := Tryz.zeroValue4
 t5 := Tryz.underlying5
 a5 := Tryz.isAgg5
 z5 := Tryz.sizeOf5
 v5 := Tryz.zeroValue5
 t9 := Tryz.underlying9
 a9 := Tryz.isAgg9
 z9 := Tryz.sizeOf9
 v9 := Tryz.zeroValue9
 t20 := Tryz.underlying20
 a20 := Tryz.isAgg20
 z20 := Tryz.sizeOf20
 v20 := Tryz.zeroValue20
 t37 := Tryz.underlying28
 a37 := Tryz.isAgg28
 z37 := Tryz.sizeOf28
 v37 := Tryz.zeroValue28
 t46 := Tryz.underlying186
 a46 := Tryz.isAgg186
 z46 := Tryz.sizeOf186
 v46 := Tryz.zeroValue186
 t51 := Tryz.underlying223
 a51 := Tryz.isAgg223
 z51 := Tryz.sizeOf223
 v51 := Tryz.zeroValue223
 t53 := Tryz.underlying225
 a53 := Tryz.isAgg225
 z53 := Tryz.sizeOf225
 v53 := Tryz.zeroValue225
 t171 := Tryz.underlying291
 a171 := Tryz.isAgg291
 z171 := Tryz.sizeOf291
 v171 := Tryz.zeroValue291
 t173 := Tryz.underlying293
 a173 := Tryz.isAgg293
 z173 := Tryz.sizeOf293
 v173 := Tryz.zeroValue293
 t212 := Tryz.underlying312
 a212 := Tryz.isAgg312
 z212 := Tryz.sizeOf312
 v212 := Tryz.zeroValue312
 t213 := Tryz.underlying313
 a213 := Tryz.isAgg313
 z213 := Tryz.sizeOf313
 t232 := Tryz.underlying326
 a232 := Tryz.isAgg326
 z232 := Tryz.sizeOf326
 v232 := Tryz.zeroValue326
 t233 := Tryz.underlying327
 a233 := Tryz.isAgg327
 z233 := Tryz.sizeOf327
 v233 := Tryz.zeroValue327
 g17 := by kernel_rfl
 g18 := by kernel_rfl
 g19 := by kernel_rfl
 i0 := by kernel_rfl
 i2 := by kernel_rfl
 i3 := by kernel_rfl
 i4 := by kernel_rfl
 i5 := by kernel_rfl
 i9 := by kernel_rfl
 i20 := by kernel_rfl
 i37 := by kernel_rfl
 i46 := by kernel_rfl
 i51 := by kernel_rfl
 i53 := by kernel_rfl
 i171 := by kernel_rfl
 i173 := by kernel_rfl
 i212 := by kernel_rfl
 i232 := by kernel_rfl
 i233 := by kernel_rfl
 m17 := by kernel_rfl
 m18 := by kernel_rfl
 m19 := by kernel_rfl }
open Go.RowKit Go.Sort Go.Lib in
theorem Tryz.strconv_FormatInt_10 (n : Int) (h0 : -9223372036854775808 ≤ n) (h1 : n ≤ 9223372036854775807) (w : World) (htab : Lib.TabIs Tryz.prog w "internal/strconv.uint64pow10" .u64 Lib.pow10Tab) :
  Calls Tryz.prog 211 #[.int .i64 n, .int .i64 10] w fun e w' => e=.returned (.string ⟨(Lib.itoa n).toArray⟩)∧∃ k os, w'=grow (w.drewN k) os := Any.strconv_FormatInt_10 Tryz.laysM173 n h0 h1 w htab
def Tryz.laysC172_ren:Go.Shelf.Ren := ⟨fun|172 => 219|244 => 254|245 => 249|247 => 248|279 => 282|280 => 283|281 => 284|282 => 285|287 => 281|316 => 299|171 => 150|205 => 300|321 => 297|322 => 298|243 => 203|246 => 236|283 => 267|284 => 268|285 => 269|286 => 270|129 => 189|317 => 290|318 => 291|319 => 292|320 => 293|337 => 301|338 => 302|n => n, fun|9 => 9|3 => 3|75 => 237|76 => 238|4 => 4|5 => 5|167 => 298|37 => 28|0 => 0|85 => 250|2 => 2|168 => 301|53 => 225|175 => 299|46 => 186|210 => 321|127 => 269|145 => 325|143 => 323|21 => 21|171 => 291|173 => 293|212 => 312|51 => 223|20 => 20|213 => 313|232 => 326|233 => 327|80 => 240|n => n, fun|15 => 4|16 => 5|17 => 3|18 => 6|19 => 7|n => n⟩
theorem Tryz.laysC172:Go.Proofs.LaysC.n172 Tryz.prog Tryz.laysC172_ren := {
 mixed := by kernel_rfl
 f129 := Tryz.func189.trans (congrArg some (by kernel_rfl))
 f171 := Tryz.func150.trans (congrArg some (by kernel_rfl))
 f172 := Tryz.func219.trans (congrArg some (by kernel_rfl))
 f205 := Tryz.func300.trans (congrArg some (by kernel_rfl))
 f243 := Tryz.func203.trans (congrArg some (by kernel_rfl))
 f244 := Tryz.func254.trans (congrArg some (by kernel_rfl))
 f245 := Tryz.func249.trans (congrArg some (by kernel_rfl))
 f246 := Tryz.func236.trans (congrArg some (by kernel_rfl))
 f247 := Tryz.func248.trans (congrArg some (by kernel_rfl))
 f279 := Tryz.func282.trans (congrArg some (by kernel_rfl))
 f280 := Tryz.func283.trans (congrArg some (by kernel_rfl))
 f281 := Tryz.func284.trans (congrArg some (by kernel_rfl))
 f282 := Tryz.func285.trans (congrArg some (by kernel_rfl))
 f283 := Tryz.func267.trans (congrArg some (by kernel_rfl))
 f284 := Tryz.func268.trans (congrArg some (by kernel_rfl))
 f285 := Tryz.func269.trans (congrArg some (by kernel_rfl))
 f286 := Tryz.func270.trans (congrArg some (by kernel_rfl))
 f287 := Tryz.func281.trans (congrArg some (by kernel_rfl))
 f316 := Tryz.func299.trans (congrArg some (by kernel_rfl))
 f317 := Tryz.func290.trans (congrArg some (by kernel_rfl))
 f318 := Tryz.func291.trans (congrArg some (by kernel_rfl))
 f319 := Tryz.func292.trans (congrArg some (by kernel_rfl))
 f320 := Tryz.func293.trans (congrArg some (by kernel_rfl))
 f321 := Tryz.func297.trans (congrArg some (by kernel_rfl))
 f322 := Tryz.func298.trans (congrArg some (by kernel_rfl))
 f337 := Tryz.func301.trans (congrArg some (by kernel_rfl))
 f338 := Tryz.func302.trans (congrArg some (by kernel_rfl))
 t0 := Tryz.underlying0
 a0 := Tryz.isAgg0
 z0 := Tryz.sizeOf0
 v0 := Tryz.zeroValue0
 t2 := Tryz.underlying2
 a2 := Tryz.isAgg2
 z2 := Tryz.sizeOf2
 v2 := Tryz.zeroValue2
 t3 := Tryz.underlying3
 a3 := Tryz.isAgg3
 z3 := Tryz.sizeOf3
 v3 := Tryz.zeroValue3
 t4 := Tryz.underlying4
 a4 := Tryz.isAgg4
 z4 := Tryz.sizeOf4
 v4 := Tryz.zeroValue4
 t5 := Tryz.underlying5
 a5 := Tryz.isAgg5
 z5 := Tryz.sizeOf5
 v5 := Tryz.zeroValue5
 t9 := Tryz.underlying9
 a9 := Tryz.isAgg9
 z9 := Tryz.sizeOf9
 v9 := Tryz.zeroValue9
 t20 := Tryz.underlying20
 a20 := Tryz.isAgg20
 z20 := Tryz.sizeOf20
 v20 := Tryz.zeroValue20
 t21 := Tryz.underlying21
 a21 := Tryz.isAgg21
 z21 := Tryz.sizeOf21
 v21 := Tryz.zeroValue21
 t37 := Tryz.underlying28
 a37 := Tryz.isAgg28
 z37 := Tryz.sizeOf28
 v37 := Tryz.zeroValue28
 t46 := Tryz.underlying186
 a46 := Tryz.isAgg186
 z46 := Tryz.sizeOf186
 v46 := Tryz.zeroValue186
 t51 := Tryz.underlying223
 a51 := Tryz.isAgg223
 z51 := Tryz.sizeOf223
 v51 := Tryz.zeroValue223
 t53 := Tryz.underlying225
 a53 := Tryz.isAgg225
 z53 := Tryz.sizeOf225
 v53 := Tryz.zeroValue225
 t75 := Tryz.underlying237
 a75 := Tryz.isAgg237
 z75 := Tryz.sizeOf237
 v75 := Tryz.zeroValue237
 t76 := Tryz.underlying238
 a76 := Tryz.isAgg238
 z76 := Tryz.sizeOf238
 v76 := Tryz.zeroValue238
 t85 := Tryz.underlying250
 a85 := Tryz.isAgg250
 z85 := Tryz.sizeOf250
 v85 := Tryz.zeroValue250
 t127 := Tryz.underlying269
 a127 := Tryz.isAgg269
 z127 := Tryz.sizeOf269
 v127 := Tryz.zeroValue269
 t143 := Tryz.underlying323
 a143 := Tryz.isAgg323
 z143 := Tryz.sizeOf323
 v143 := Tryz.zeroValue323
 t145 := Tryz.underlying325
 a145 := Tryz.isAgg325
 z145 := Tryz.sizeOf325
 v145 := Tryz.zeroValue325
 t167 := Tryz.underlying298
 a167 := Tryz.isAgg298
 z167 := Tryz.sizeOf298
 v167 := Tryz.zeroValue298
 t168 := Tryz.underlying301
 a168 := Tryz.isAgg301
 z168 := Tryz.sizeOf301
 v168 := Tryz.zeroValue301
 t171 := Tryz.underlying291
 a171 := Tryz.isAgg291
 z171 := Tryz.sizeOf291
 v171 := Tryz.zeroValue291
 t173 := Tryz.underlying293
 a173 := Tryz.isAgg293
 z173 := Tryz.sizeOf293
 v173 := Tryz.zeroValue293
 t175 := Tryz.underlying299
 a175 := Tryz.isAgg299
 z175 := Tryz.sizeOf299
 v175 := Tryz.zeroValue299
 t210 := Tryz.underlying321
 a210 := Tryz.isAgg321
 z210 := Tryz.sizeOf321
 v210 := Tryz.zeroValue321
 t212 := Tryz.underlying312
 a212 := Tryz.isAgg312
 z212 := Tryz.sizeOf312
 v212 := Tryz.zeroValue312
 t213 := Tryz.underlying313
 a213 := Tryz.isAgg313
 z213 := Tryz.sizeOf313
 t232 := Tryz.underlying326
 a232 := Tryz.isAgg326
 z232 := Tryz.sizeOf326
 v232 := Tryz.zeroValue326
 t233 := Tryz.underlying327
 a233 := Tryz.isAgg327
 z233 := Tryz.sizeOf327
 v233 := Tryz.zeroValue327
 g15 := by kernel_rfl
 g16 := by kernel_rfl
 g17 := by kernel_rfl
 g18 := by kernel_rfl
 g19 := by kernel_rfl
 t80 := Tryz.underlying240
 a80 := Tryz.isAgg240
 z80 := Tryz.sizeOf240
 v80 := Tryz.zeroValue240
 i0 := by kernel_rfl
 i2 := by kernel_rfl
 i3 := by kernel_rfl
 i4 := by kernel_rfl
 i5 := by kernel_rfl
 i9 := by kernel_rfl
 i20 := by kernel_rfl
 i21 := by kernel_rfl
 i37 := by kernel_rfl
 i46 := by kernel_rfl
 i51 := by kernel_rfl
 i53 := by kernel_rfl
 i75 := by kernel_rfl
 i76 := by kernel_rfl
 i80 := by kernel_rfl
 i85 := by kernel_rfl
 i127 := by kernel_rfl
 i143 := by kernel_rfl
 i145 := by kernel_rfl
 i167 := by kernel_rfl
 i168 := by kernel_rfl
 i171 := by kernel_rfl
 i173 := by kernel_rfl
 i175 := by kernel_rfl
 i210 := by kernel_rfl
 i212 := by kernel_rfl
 i232 := by kernel_rfl
 i233 := by kernel_rfl
 m15 := by kernel_rfl
 m16 := by kernel_rfl
 m17 := by kernel_rfl
 m18 := by kernel_rfl
 m19 := by kernel_rfl
 c0 := by kernel_rfl
 c2 := by kernel_rfl
 c3 := by kernel_rfl
 c4 := by kernel_rfl
 c5 := by kernel_rfl
 c9 := by kernel_rfl
 c20 := by kernel_rfl
 c21 := by kernel_rfl
 c37 := by kernel_rfl
 c46 := by kernel_rfl
 c51 := by kernel_rfl
 c53 := by kernel_rfl
 c75 := by kernel_rfl
 c76 := by kernel_rfl
 c80 := by kernel_rfl
 c85 := by kernel_rfl
 c127 := by kernel_rfl
 c143 := by kernel_rfl
 c145 := by kernel_rfl
 c167 := by kernel_rfl
 c168 := by kernel_rfl
 c171 := by kernel_rfl
 c173 := by kernel_rfl
 c175 := by kernel_rfl
 c210 := by kernel_rfl
 c212 := by kernel_rfl
 c213 := by kernel_rfl
 c232 := by kernel_rfl
 c233 := by kernel_rfl }
open Go.RowKit in
theorem Tryz.strconv_Atoi_ok (s:ByteArray) (hmax:s.size≤9223372036854775806) (v:Int) (h:Lib.atoiAll s.data.toList=.ok v) (w:World) :
  Calls Tryz.prog 219 #[.string s] w fun e w' => e=.returned (.tuple #[.int .i64 v, .nilIface])∧(w'=w∨∃ t, w'=Lib.bytesWorld w 5 t) := Any.strconv_Atoi_ok Tryz.laysC172 s hmax v h w
open Go.RowKit in
theorem Tryz.strconv_Atoi_syntax_var (s : ByteArray) (hlim : s.size ≤ 281474976710656) (h : Lib.atoiAll s.data.toList = Lib.NumEnd.syntax) (tp : TypeId) (p : Value) (w : World) (hvar : w.var? Tryz.prog "strconv.ErrSyntax" = some #[.iface tp p]) :
  Calls Tryz.prog 219 #[.string s] w fun e w' => ∃ N, e=.returned (.tuple #[.int .i64 0, .iface 301 (.pointer (some ⟨N, 0, none⟩))])∧w.heap.size≤N∧w'.heap[N]?=some (.cells #[.string ⟨#[65, 116, 111, 105]⟩, .string s, .iface tp p] 321 (0, 0))∧Below w.heap.size w w' := Any.strconv_Atoi_syntax_var Tryz.laysC172 s hlim h tp p w hvar
open Go.RowKit in
theorem Tryz.strconv_Atoi_range_var (s : ByteArray) (hlim : s.size ≤ 281474976710656) (h : Lib.atoiAll s.data.toList = .range) (tp : TypeId) (p : Value) (w : World) (hvar : w.var? Tryz.prog "strconv.ErrRange" = some #[.iface tp p]) :
  Calls Tryz.prog 219 #[.string s] w fun e w' => ∃ N, e=.returned (.tuple #[.int .i64 (Lib.atoiSat s.data.toList), .iface 301 (.pointer (some ⟨N, 0, none⟩))])∧w.heap.size≤N∧w'.heap[N]?=some (.cells #[.string ⟨#[65, 116, 111, 105]⟩, .string s, .iface tp p] 321 (0, 0))∧Below w.heap.size w w' := Any.strconv_Atoi_range_var Tryz.laysC172 s hlim h tp p w hvar
def Tryz.laysC174_ren:Go.Shelf.Ren := ⟨fun|174 => 210|247 => 248|245 => 249|287 => 281|279 => 282|280 => 283|281 => 284|282 => 285|321 => 297|322 => 298|316 => 299|171 => 150|205 => 300|243 => 203|246 => 236|283 => 267|284 => 268|285 => 269|286 => 270|129 => 189|317 => 290|318 => 291|319 => 292|320 => 293|337 => 301|338 => 302|n => n, fun|9 => 9|3 => 3|2 => 2|75 => 237|85 => 250|4 => 4|167 => 298|5 => 5|53 => 225|175 => 299|46 => 186|168 => 301|37 => 28|0 => 0|210 => 321|21 => 21|127 => 269|145 => 325|143 => 323|171 => 291|173 => 293|212 => 312|51 => 223|20 => 20|213 => 313|232 => 326|233 => 327|80 => 240|n => n, fun|15 => 4|16 => 5|17 => 3|18 => 6|19 => 7|n => n⟩
theorem Tryz.laysC174:Go.Proofs.LaysC.n174 Tryz.prog Tryz.laysC174_ren := {
 mixed := by kernel_rfl
 f129 := Tryz.func189.trans (congrArg some (by kernel_rfl))
 f171 := Tryz.func150.trans (congrArg some (by kernel_rfl))
 f174 := Tryz.func210.trans (congrArg some (by kernel_rfl))
 f205 := Tryz.func300.trans (congrArg some (by kernel_rfl))
 f243 := Tryz.func203.trans (congrArg some (by kernel_rfl))
 f245 := Tryz.func249.trans (congrArg some (by kernel_rfl))
 f246 := Tryz.func236.trans (congrArg some (by kernel_rfl))
 f247 := Tryz.func248.trans (congrArg some (by kernel_rfl))
 f279 := Tryz.func282.trans (congrArg some (by kernel_rfl))
 f280 := Tryz.func283.trans (congrArg some (by kernel_rfl))
 f281 := Tryz.func284.trans (congrArg some (by kernel_rfl))
 f282 := Tryz.func285.trans (congrArg some (by kernel_rfl))
 f283 := Tryz.func267.trans (congrArg some (by kernel_rfl))
 f284 := Tryz.func268.trans (congrArg some (by kernel_rfl))
 f285 := Tryz.func269.trans (congrArg some (by kernel_rfl))
 f286 := Tryz.func270.trans (congrArg some (by kernel_rfl))
 f287 := Tryz.func281.trans (congrArg some (by kernel_rfl))
 f316 := Tryz.func299.trans (congrArg some (by kernel_rfl))
 f317 := Tryz.func290.trans (congrArg some (by kernel_rfl))
 f318 := Tryz.func291.trans (congrArg some (by kernel_rfl))
 f319 := Tryz.func292.trans (congrArg some (by kernel_rfl))
 f320 := Tryz.func293.trans (congrArg some (by kernel_rfl))
 f321 := Tryz.func297.trans (congrArg some (by kernel_rfl))
 f322 := Tryz.func298.trans (congrArg some (by kernel_rfl))
 f337 := Tryz.func301.trans (congrArg some (by kernel_rfl))
 f338 := Tryz.func302.trans (congrArg some (by kernel_rfl))
 t0 := Tryz.underlying0
 a0 := Tryz.isAgg0
 z0 := Tryz.sizeOf0
 v0 := Tryz.zeroValue0
 t2 := Tryz.underlying2
 a2 := Tryz.isAgg2
 z2 := Tryz.sizeOf2
 v2 := Tryz.zeroValue2
 t3 := Tryz.underlying3
 a3 := Tryz.isAgg3
 z3 := Tryz.sizeOf3
 v3 := Tryz.zeroValue3
 t4 := Tryz.underlying4
 a4 := Tryz.isAgg4
 z4 := Tryz.sizeOf4
 v4 := Tryz.zeroValue4
 t5 := Tryz.underlying5
 a5 := Tryz.isAgg5
 z5 := Tryz.sizeOf5
 v5 := Tryz.zeroValue5
 t9 := Tryz.underlying9
 a9 := Tryz.isAgg9
 z9 := Tryz.sizeOf9
 v9 := Tryz.zeroValue9
 t20 := Tryz.underlying20
 a20 := Tryz.isAgg20
 z20 := Tryz.sizeOf20
 v20 := Tryz.zeroValue20
 t21 := Tryz.underlying21
 a21 := Tryz.isAgg21
 z21 := Tryz.sizeOf21
 v21 := Tryz.zeroValue21
 t37 := Tryz.underlying28
 a37 := Tryz.isAgg28
 z37 := Tryz.sizeOf28
 v37 := Tryz.zeroValue28
 t46 := Tryz.underlying186
 a46 := Tryz.isAgg186
 z46 := Tryz.sizeOf186
 v46 := Tryz.zeroValue186
 t51 := Tryz.underlying223
 a51 := Tryz.isAgg223
 z51 := Tryz.sizeOf223
 v51 := Tryz.zeroValue223
 t53 := Tryz.underlying225
 a53 := Tryz.isAgg225
 z53 := Tryz.sizeOf225
 v53 := Tryz.zeroValue225
 t75 := Tryz.underlying237
 a75 := Tryz.isAgg237
 z75 := Tryz.sizeOf237
 v75 := Tryz.zeroValue237
 t85 := Tryz.underlying250
 a85 := Tryz.isAgg250
 z85 := Tryz.sizeOf250
 v85 := Tryz.zeroValue250
 t127 := Tryz.underlying269
 a127 := Tryz.isAgg269
 z127 := Tryz.sizeOf269
 v127 := Tryz.zeroValue269
 t143 := Tryz.underlying323
 a143 := Tryz.isAgg323
 z143 := Tryz.sizeOf323
 v143 := Tryz.zeroValue323
 t145 := Tryz.underlying325
 a145 := Tryz.isAgg325
 z145 := Tryz.sizeOf325
 v145 := Tryz.zeroValue325
 t167 := Tryz.underlying298
 a167 := Tryz.isAgg298
 z167 := Tryz.sizeOf298
 v167 := Tryz.zeroValue298
 t168 := Tryz.underlying301
 a168 := Tryz.isAgg301
 z168 := Tryz.sizeOf301
 v168 := Tryz.zeroValue301
 t171 := Tryz.underlying291
 a171 := Tryz.isAgg291
 z171 := Tryz.sizeOf291
 v171 := Tryz.zeroValue291
 t173 := Tryz.underlying293
 a173 := Tryz.isAgg293
 z173 := Tryz.sizeOf293
 v173 := Tryz.zeroValue293
 t175 := Tryz.underlying299
 a175 := Tryz.isAgg299
 z175 := Tryz.sizeOf299
 v175 := Tryz.zeroValue299
 t210 := Tryz.underlying321
 a210 := Tryz.isAgg321
 z210 := Tryz.sizeOf321
 v210 := Tryz.zeroValue321
 t212 := Tryz.underlying312
 a212 := Tryz.isAgg312
 z212 := Tryz.sizeOf312
 v212 := Tryz.zeroValue312
 t213 := Tryz.underlying313
 a213 := Tryz.isAgg313
 z213 := Tryz.sizeOf313
 t232 := Tryz.underlying326
 a232 := Tryz.isAgg326
 z232 := Tryz.sizeOf326
 v232 := Tryz.zeroValue326
 t233 := Tryz.underlying327
 a233 := Tryz.isAgg327
 z233 := Tryz.sizeOf327
 v233 := Tryz.zeroValue327
 g15 := by kernel_rfl
 g16 := by kernel_rfl
 g17 := by kernel_rfl
 g18 := by kernel_rfl
 g19 := by kernel_rfl
 t80 := Tryz.underlying240
 a80 := Tryz.isAgg240
 z80 := Tryz.sizeOf240
 v80 := Tryz.zeroValue240
 i0 := by kernel_rfl
 i2 := by kernel_rfl
 i3 := by kernel_rfl
 i4 := by kernel_rfl
 i5 := by kernel_rfl
 i9 := by kernel_rfl
 i20 := by kernel_rfl
 i21 := by kernel_rfl
 i37 := by kernel_rfl
 i46 := by kernel_rfl
 i51 := by kernel_rfl
 i53 := by kernel_rfl
 i75 := by kernel_rfl
 i80 := by kernel_rfl
 i85 := by kernel_rfl
 i127 := by kernel_rfl
 i143 := by kernel_rfl
 i145 := by kernel_rfl
 i167 := by kernel_rfl
 i168 := by kernel_rfl
 i171 := by kernel_rfl
 i173 := by kernel_rfl
 i175 := by kernel_rfl
 i210 := by kernel_rfl
 i212 := by kernel_rfl
 i232 := by kernel_rfl
 i233 := by kernel_rfl
 m15 := by kernel_rfl
 m16 := by kernel_rfl
 m17 := by kernel_rfl
 m18 := by kernel_rfl
 m19 := by kernel_rfl
 c0 := by kernel_rfl
 c2 := by kernel_rfl
 c3 := by kernel_rfl
 c4 := by kernel_rfl
 c5 := by kernel_rfl
 c9 := by kernel_rfl
 c20 := by kernel_rfl
 c21 := by kernel_rfl
 c37 := by kernel_rfl
 c46 := by kernel_rfl
 c51 := by kernel_rfl
 c53 := by kernel_rfl
 c75 := by kernel_rfl
 c80 := by kernel_rfl
 c85 := by kernel_rfl
 c127 := by kernel_rfl
 c143 := by kernel_rfl
 c145 := by kernel_rfl
 c167 := by kernel_rfl
 c168 := by kernel_rfl
 c171 := by kernel_rfl
 c173 := by kernel_rfl
 c175 := by kernel_rfl
 c210 := by kernel_rfl
 c212 := by kernel_rfl
 c213 := by kernel_rfl
 c232 := by kernel_rfl
 c233 := by kernel_rfl }
open Go.RowKit in
theorem Tryz.strconv_ParseInt_10_at64_ok (s:ByteArray) (hmax:s.size≤9223372036854775806) (v:Int) (h:Lib.parseIntB 64 s.data.toList=.ok v) (w:World) :
  Calls Tryz.prog 210 #[.string s, .int .i64 10, .int .i64 64] w fun e w' => e=.returned (.tuple #[.int .i64 v, .nilIface])∧(w'=w∨∃ t, w'=Lib.bytesWorld w 5 t) := Any.strconv_ParseInt_10_at64_ok Tryz.laysC174 s hmax v h w
open Go.RowKit in
theorem Tryz.strconv_ParseInt_10_at64_syntax_var (s : ByteArray) (hlim : s.size ≤ 281474976710656) (h : Lib.parseIntB 64 s.data.toList = Lib.NumEnd.syntax) (tp : TypeId) (p : Value) (w : World) (hvar : w.var? Tryz.prog "strconv.ErrSyntax" = some #[.iface tp p]) :
  Calls Tryz.prog 210 #[.string s, .int .i64 10, .int .i64 64] w fun e w' => ∃ N, e=.returned (.tuple #[.int .i64 (0), .iface 301 (.pointer (some ⟨N, 0, none⟩))])∧w.heap.size≤N∧w'.heap[N]?=some (.cells #[.string ⟨#[80, 97, 114, 115, 101, 73, 110, 116]⟩, .string s, .iface tp p] 321 (0, 0))∧Below w.heap.size w w' := Any.strconv_ParseInt_10_at64_syntax_var Tryz.laysC174 s hlim h tp p w hvar
open Go.RowKit in
theorem Tryz.strconv_ParseInt_10_at64_range_var (s : ByteArray) (hlim : s.size ≤ 281474976710656) (h : Lib.parseIntB 64 s.data.toList = .range) (tp : TypeId) (p : Value) (w : World) (hvar : w.var? Tryz.prog "strconv.ErrRange" = some #[.iface tp p]) :
  Calls Tryz.prog 210 #[.string s, .int .i64 10, .int .i64 64] w fun e w' => ∃ N, e=.returned (.tuple #[.int .i64 (Lib.intSat 64 s.data.toList), .iface 301 (.pointer (some ⟨N, 0, none⟩))])∧w.heap.size≤N∧w'.heap[N]?=some (.cells #[.string ⟨#[80, 97, 114, 115, 101, 73, 110, 116]⟩, .string s, .iface tp p] 321 (0, 0))∧Below w.heap.size w w' := Any.strconv_ParseInt_10_at64_range_var Tryz.laysC174 s hlim h tp p w hvar
def Tryz.lays144_ren:Go.Shelf.Ren := ⟨fun|144 => 147|143 => 201|219 => 233|217 => 261|225 => 262|224 => 263|267 => 264|266 => 288|314 => 289|n => n, fun|9 => 9|4 => 4|3 => 3|5 => 5|46 => 186|146 => 309|51 => 223|n => n, fun|1 => 0|n => n⟩
theorem Tryz.lays144:Go.Proofs.Lays.n144 Tryz.prog Tryz.lays144_ren := {
 mixed := by kernel_rfl
 f143 := Tryz.func201.trans (congrArg some (by kernel_rfl))
 f144 := Tryz.func147.trans (congrArg some (by kernel_rfl))
 f217 := Tryz.func261.trans (congrArg some (by kernel_rfl))
 f219 := Tryz.func233.trans (congrArg some (by kernel_rfl))
 f224 := Tryz.func263.trans (congrArg some (by kernel_rfl))
 f225 := Tryz.func262.trans (congrArg some (by kernel_rfl))
 f266 := Tryz.func288.trans (congrArg some (by kernel_rfl))
 f267 := Tryz.func264.trans (congrArg some (by kernel_rfl))
 f314 := Tryz.func289.trans (congrArg some (by kernel_rfl))
 t3 := Tryz.underlying3
 a3 := Tryz.isAgg3
 z3 := Tryz.sizeOf3
 v3 := Tryz.zeroValue3
 t4 := Tryz.underlying4
 a4 := Tryz.isAgg4
 z4 := Tryz.sizeOf4
 v4 := Tryz.zeroValue4
 t5 := Tryz.underlying5
 a5 := Tryz.isAgg5
 z5 := Tryz.sizeOf5
 v5 := Tryz.zeroValue5
 t9 := Tryz.underlying9
 a9 := Tryz.isAgg9
 z9 := Tryz.sizeOf9
 v9 := Tryz.zeroValue9
 t46 := Tryz.underlying186
 a46 := Tryz.isAgg186
 z46 := Tryz.sizeOf186
 v46 := Tryz.zeroValue186
 t51 := Tryz.underlying223
 a51 := Tryz.isAgg223
 z51 := Tryz.sizeOf223
 v51 := Tryz.zeroValue223
 t146 := Tryz.underlying309
 a146 := Tryz.isAgg309
 z146 := Tryz.sizeOf309
 v146 := Tryz.zeroValue309
 g1 := by kernel_rfl }
open Go.RowKit Go.Lib in
theorem Tryz.strings_Contains (s sub:ByteArray) (m:Int) (w:World) (hs:s.size < 4294967281) (hm:w.cell? ⟨0, 0, none⟩=some (.int .i64 m)) :
  Calls Tryz.prog 147 #[.string s, .string sub] w fun e w' => e=.returned (.bool (Lib.contains s.data.toList sub.data.toList))∧w'=w := Any.strings_Contains Tryz.lays144 s sub m w hs hm
def Tryz.lays190_ren:Go.Shelf.Ren := ⟨fun|190 => 152|125 => 144|258 => 205|128 => 188|129 => 189|302 => 238|303 => 239|304 => 240|305 => 241|306 => 242|307 => 243|308 => 244|309 => 245|310 => 246|333 => 275|329 => 276|330 => 277|334 => 278|335 => 279|336 => 280|344 => 296|n => n, fun|31 => 65|9 => 9|3 => 3|46 => 186|0 => 0|51 => 223|53 => 225|4 => 4|183 => 273|182 => 272|131 => 126|5 => 5|218 => 295|222 => 267|228 => 316|229 => 284|n => n, fun|n => n⟩
theorem Tryz.lays190:Go.Proofs.Lays.n190 Tryz.prog Tryz.lays190_ren := {
 mixed := by kernel_rfl
 f125 := Tryz.func144.trans (congrArg some (by kernel_rfl))
 f128 := Tryz.func188.trans (congrArg some (by kernel_rfl))
 f129 := Tryz.func189.trans (congrArg some (by kernel_rfl))
 f190 := Tryz.func152.trans (congrArg some (by kernel_rfl))
 f258 := Tryz.func205.trans (congrArg some (by kernel_rfl))
 f302 := Tryz.func238.trans (congrArg some (by kernel_rfl))
 f303 := Tryz.func239.trans (congrArg some (by kernel_rfl))
 f304 := Tryz.func240.trans (congrArg some (by kernel_rfl))
 f305 := Tryz.func241.trans (congrArg some (by kernel_rfl))
 f306 := Tryz.func242.trans (congrArg some (by kernel_rfl))
 f307 := Tryz.func243.trans (congrArg some (by kernel_rfl))
 f308 := Tryz.func244.trans (congrArg some (by kernel_rfl))
 f309 := Tryz.func245.trans (congrArg some (by kernel_rfl))
 f310 := Tryz.func246.trans (congrArg some (by kernel_rfl))
 f329 := Tryz.func276.trans (congrArg some (by kernel_rfl))
 f330 := Tryz.func277.trans (congrArg some (by kernel_rfl))
 f333 := Tryz.func275.trans (congrArg some (by kernel_rfl))
 f334 := Tryz.func278.trans (congrArg some (by kernel_rfl))
 f335 := Tryz.func279.trans (congrArg some (by kernel_rfl))
 f336 := Tryz.func280.trans (congrArg some (by kernel_rfl))
 f344 := Tryz.func296.trans (congrArg some (by kernel_rfl))
 t0 := Tryz.underlying0
 a0 := Tryz.isAgg0
 z0 := Tryz.sizeOf0
 v0 := Tryz.zeroValue0
 t3 := Tryz.underlying3
 a3 := Tryz.isAgg3
 z3 := Tryz.sizeOf3
 v3 := Tryz.zeroValue3
 t4 := Tryz.underlying4
 a4 := Tryz.isAgg4
 z4 := Tryz.sizeOf4
 v4 := Tryz.zeroValue4
 t5 := Tryz.underlying5
 a5 := Tryz.isAgg5
 z5 := Tryz.sizeOf5
 v5 := Tryz.zeroValue5
 t9 := Tryz.underlying9
 a9 := Tryz.isAgg9
 z9 := Tryz.sizeOf9
 v9 := Tryz.zeroValue9
 t31 := Tryz.underlying65
 a31 := Tryz.isAgg65
 z31 := Tryz.sizeOf65
 v31 := Tryz.zeroValue65
 t46 := Tryz.underlying186
 a46 := Tryz.isAgg186
 z46 := Tryz.sizeOf186
 v46 := Tryz.zeroValue186
 t51 := Tryz.underlying223
 a51 := Tryz.isAgg223
 z51 := Tryz.sizeOf223
 v51 := Tryz.zeroValue223
 t53 := Tryz.underlying225
 a53 := Tryz.isAgg225
 z53 := Tryz.sizeOf225
 v53 := Tryz.zeroValue225
 t131 := Tryz.underlying126
 a131 := Tryz.isAgg126
 z131 := Tryz.sizeOf126
 v131 := Tryz.zeroValue126
 t182 := Tryz.underlying272
 a182 := Tryz.isAgg272
 z182 := Tryz.sizeOf272
 v182 := Tryz.zeroValue272
 t183 := Tryz.underlying273
 a183 := Tryz.isAgg273
 z183 := Tryz.sizeOf273
 v183 := Tryz.zeroValue273
 t218 := Tryz.underlying295
 a218 := Tryz.isAgg295
 z218 := Tryz.sizeOf295
 v218 := Tryz.zeroValue295
 t222 := Tryz.underlying267
 a222 := Tryz.isAgg267
 z222 := Tryz.sizeOf267
 v222 := Tryz.zeroValue267
 t228 := Tryz.underlying316
 a228 := Tryz.isAgg316
 z228 := Tryz.sizeOf316
 v228 := Tryz.zeroValue316
 t229 := Tryz.underlying284
 a229 := Tryz.isAgg284
 z229 := Tryz.sizeOf284
 v229 := Tryz.zeroValue284 }
open Go.Sort Go.RowKit in
theorem Tryz.slices_Sort_string (blk off cap:Nat) (ss:List (List UInt8)) (w:World) (hH:Holds encStr w blk off ss.toArray) (hblk:blk < w.heap.size) (hsz:ss.length < 4611686018427387904) :
  Calls Tryz.prog 152 #[.slice (some ⟨blk, off, none⟩) ss.length cap] w fun e w' =>
   e=.returned (.tuple #[])∧∃ n os, w'=grow (putRow encStr (Sort.ahead w n) blk off (ss.mergeSort fun x y => decide (x≤y)).toArray) os := Any.slices_Sort_string Tryz.lays190 blk off cap ss w hH hblk hsz
def Tryz.lays146_ren:Go.Shelf.Ren := ⟨fun|146 => 148|221 => 202|268 => 234|138 => 235|143 => 201|195 => 265|197 => 223|218 => 266|219 => 233|260 => 255|217 => 261|225 => 262|224 => 263|267 => 264|266 => 288|314 => 289|n => n, fun|9 => 9|31 => 65|3 => 3|4 => 4|0 => 0|105 => 260|21 => 21|5 => 5|46 => 186|119 => 304|139 => 307|138 => 306|146 => 309|51 => 223|n => n, fun|1 => 0|3 => 1|4 => 2|n => n⟩
theorem Tryz.lays146:Go.Proofs.Lays.n146 Tryz.prog Tryz.lays146_ren := {
 mixed := by kernel_rfl
 f138 := Tryz.func235.trans (congrArg some (by kernel_rfl))
 f143 := Tryz.func201.trans (congrArg some (by kernel_rfl))
 f146 := Tryz.func148.trans (congrArg some (by kernel_rfl))
 f195 := Tryz.func265.trans (congrArg some (by kernel_rfl))
 f197 := Tryz.func223.trans (congrArg some (by kernel_rfl))
 f217 := Tryz.func261.trans (congrArg some (by kernel_rfl))
 f218 := Tryz.func266.trans (congrArg some (by kernel_rfl))
 f219 := Tryz.func233.trans (congrArg some (by kernel_rfl))
 f221 := Tryz.func202.trans (congrArg some (by kernel_rfl))
 f224 := Tryz.func263.trans (congrArg some (by kernel_rfl))
 f225 := Tryz.func262.trans (congrArg some (by kernel_rfl))
 f260 := Tryz.func255.trans (congrArg some (by kernel_rfl))
 f266 := Tryz.func288.trans (congrArg some (by kernel_rfl))
 f267 := Tryz.func264.trans (congrArg some (by kernel_rfl))
 f268 := Tryz.func234.trans (congrArg some (by kernel_rfl))
 f314 := Tryz.func289.trans (congrArg some (by kernel_rfl))
 t0 := Tryz.underlying0
 a0 := Tryz.isAgg0
 z0 := Tryz.sizeOf0
 v0 := Tryz.zeroValue0
 t3 := Tryz.underlying3
 a3 := Tryz.isAgg3
 z3 := Tryz.sizeOf3
 v3 := Tryz.zeroValue3
 t4 := Tryz.underlying4
 a4 := Tryz.isAgg4
 z4 := Tryz.sizeOf4
 v4 := Tryz.zeroValue4
 t5 := Tryz.underlying5
 a5 := Tryz.isAgg5
 z5 := Tryz.sizeOf5
 v5 := Tryz.zeroValue5
 t9 := Tryz.underlying9
 a9 := Tryz.isAgg9
 z9 := Tryz.sizeOf9
 v9 := Tryz.zeroValue9
 t21 := Tryz.underlying21
 a21 := Tryz.isAgg21
 z21 := Tryz.sizeOf21
 v21 := Tryz.zeroValue21
 t31 := Tryz.underlying65
 a31 := Tryz.isAgg65
 z31 := Tryz.sizeOf65
 v31 := Tryz.zeroValue65
 t46 := Tryz.underlying186
 a46 := Tryz.isAgg186
 z46 := Tryz.sizeOf186
 v46 := Tryz.zeroValue186
 t51 := Tryz.underlying223
 a51 := Tryz.isAgg223
 z51 := Tryz.sizeOf223
 v51 := Tryz.zeroValue223
 t105 := Tryz.underlying260
 a105 := Tryz.isAgg260
 z105 := Tryz.sizeOf260
 v105 := Tryz.zeroValue260
 t119 := Tryz.underlying304
 a119 := Tryz.isAgg304
 z119 := Tryz.sizeOf304
 t138 := Tryz.underlying306
 a138 := Tryz.isAgg306
 z138 := Tryz.sizeOf306
 v138 := Tryz.zeroValue306
 t139 := Tryz.underlying307
 a139 := Tryz.isAgg307
 z139 := Tryz.sizeOf307
 v139 := Tryz.zeroValue307
 t146 := Tryz.underlying309
 a146 := Tryz.isAgg309
 z146 := Tryz.sizeOf309
 v146 := Tryz.zeroValue309
 g1 := by kernel_rfl
 g3 := by kernel_rfl
 g4 := by kernel_rfl }
open Go.RowKit Go.Lib in
theorem Tryz.strings_Split (s sep:ByteArray) (m:Int) (w:World) (hs:s.size < 4294967281) (hm:w.cell? ⟨0, 0, none⟩=some (.int .i64 m)) (h1:1≤sep.size) :
  Calls Tryz.prog 148 #[.string s, .string sep] w fun e w' =>
   e=.returned (.slice (some ⟨w.heap.size, 0, none⟩) (Lib.countB s sep+1) (Lib.countB s sep+1))∧w'=w.alloc (.cells ((Lib.splitB sep 0 (Lib.countB s sep) s).map Value.string).toArray 9) := Any.strings_Split Tryz.lays146 (by kernel_rfl) s sep m w hs hm h1
def Tryz.lays155_ren:Go.Shelf.Ren := ⟨fun|155 => 206|154 => 247|138 => 235|165 => 198|143 => 201|166 => 199|197 => 223|169 => 200|195 => 265|218 => 266|240 => 231|241 => 232|219 => 233|260 => 255|276 => 259|277 => 260|217 => 261|225 => 262|224 => 263|267 => 264|266 => 288|314 => 289|n => n, fun|9 => 9|3 => 3|4 => 4|72 => 235|0 => 0|76 => 238|105 => 260|21 => 21|5 => 5|70 => 233|20 => 20|37 => 28|75 => 237|127 => 269|164 => 177|46 => 186|119 => 304|139 => 307|138 => 306|146 => 309|51 => 223|80 => 240|n => n, fun|1 => 0|3 => 1|4 => 2|n => n⟩
theorem Tryz.lays155:Go.Proofs.Lays.n155 Tryz.prog Tryz.lays155_ren := {
 mixed := by kernel_rfl
 f138 := Tryz.func235.trans (congrArg some (by kernel_rfl))
 f143 := Tryz.func201.trans (congrArg some (by kernel_rfl))
 f154 := Tryz.func247.trans (congrArg some (by kernel_rfl))
 f155 := Tryz.func206.trans (congrArg some (by kernel_rfl))
 f165 := Tryz.func198.trans (congrArg some (by kernel_rfl))
 f166 := Tryz.func199.trans (congrArg some (by kernel_rfl))
 f169 := Tryz.func200.trans (congrArg some (by kernel_rfl))
 f195 := Tryz.func265.trans (congrArg some (by kernel_rfl))
 f197 := Tryz.func223.trans (congrArg some (by kernel_rfl))
 f217 := Tryz.func261.trans (congrArg some (by kernel_rfl))
 f218 := Tryz.func266.trans (congrArg some (by kernel_rfl))
 f219 := Tryz.func233.trans (congrArg some (by kernel_rfl))
 f224 := Tryz.func263.trans (congrArg some (by kernel_rfl))
 f225 := Tryz.func262.trans (congrArg some (by kernel_rfl))
 f240 := Tryz.func231.trans (congrArg some (by kernel_rfl))
 f241 := Tryz.func232.trans (congrArg some (by kernel_rfl))
 f260 := Tryz.func255.trans (congrArg some (by kernel_rfl))
 f266 := Tryz.func288.trans (congrArg some (by kernel_rfl))
 f267 := Tryz.func264.trans (congrArg some (by kernel_rfl))
 f276 := Tryz.func259.trans (congrArg some (by kernel_rfl))
 f277 := Tryz.func260.trans (congrArg some (by kernel_rfl))
 f314 := Tryz.func289.trans (congrArg some (by kernel_rfl))
 t0 := Tryz.underlying0
 a0 := Tryz.isAgg0
 z0 := Tryz.sizeOf0
 v0 := Tryz.zeroValue0
 t3 := Tryz.underlying3
 a3 := Tryz.isAgg3
 z3 := Tryz.sizeOf3
 v3 := Tryz.zeroValue3
 t4 := Tryz.underlying4
 a4 := Tryz.isAgg4
 z4 := Tryz.sizeOf4
 v4 := Tryz.zeroValue4
 t5 := Tryz.underlying5
 a5 := Tryz.isAgg5
 z5 := Tryz.sizeOf5
 v5 := Tryz.zeroValue5
 t9 := Tryz.underlying9
 a9 := Tryz.isAgg9
 z9 := Tryz.sizeOf9
 v9 := Tryz.zeroValue9
 t20 := Tryz.underlying20
 a20 := Tryz.isAgg20
 z20 := Tryz.sizeOf20
 v20 := Tryz.zeroValue20
 t21 := Tryz.underlying21
 a21 := Tryz.isAgg21
 z21 := Tryz.sizeOf21
 v21 := Tryz.zeroValue21
 t37 := Tryz.underlying28
 a37 := Tryz.isAgg28
 z37 := Tryz.sizeOf28
 v37 := Tryz.zeroValue28
 t46 := Tryz.underlying186
 a46 := Tryz.isAgg186
 z46 := Tryz.sizeOf186
 v46 := Tryz.zeroValue186
 t51 := Tryz.underlying223
 a51 := Tryz.isAgg223
 z51 := Tryz.sizeOf223
 v51 := Tryz.zeroValue223
 t70 := Tryz.underlying233
 a70 := Tryz.isAgg233
 z70 := Tryz.sizeOf233
 v70 := Tryz.zeroValue233
 t72 := Tryz.underlying235
 a72 := Tryz.isAgg235
 z72 := Tryz.sizeOf235
 v72 := Tryz.zeroValue235
 t75 := Tryz.underlying237
 a75 := Tryz.isAgg237
 z75 := Tryz.sizeOf237
 v75 := Tryz.zeroValue237
 t76 := Tryz.underlying238
 a76 := Tryz.isAgg238
 z76 := Tryz.sizeOf238
 v76 := Tryz.zeroValue238
 t105 := Tryz.underlying260
 a105 := Tryz.isAgg260
 z105 := Tryz.sizeOf260
 v105 := Tryz.zeroValue260
 t119 := Tryz.underlying304
 a119 := Tryz.isAgg304
 z119 := Tryz.sizeOf304
 t127 := Tryz.underlying269
 a127 := Tryz.isAgg269
 z127 := Tryz.sizeOf269
 v127 := Tryz.zeroValue269
 t138 := Tryz.underlying306
 a138 := Tryz.isAgg306
 z138 := Tryz.sizeOf306
 v138 := Tryz.zeroValue306
 t139 := Tryz.underlying307
 a139 := Tryz.isAgg307
 z139 := Tryz.sizeOf307
 v139 := Tryz.zeroValue307
 t146 := Tryz.underlying309
 a146 := Tryz.isAgg309
 z146 := Tryz.sizeOf309
 v146 := Tryz.zeroValue309
 t164 := Tryz.underlying177
 a164 := Tryz.isAgg177
 z164 := Tryz.sizeOf177
 v164 := Tryz.zeroValue177
 g1 := by kernel_rfl
 g3 := by kernel_rfl
 g4 := by kernel_rfl }
theorem Tryz.Builder_Extra_155:Builder.Extra Tryz.prog Tryz.lays155_ren := {
 sizeBuilder := by kernel_rfl
 liesBuilder := by kernel_rfl
 t5 := Tryz.underlying5
 a5 := Tryz.isAgg5
 z5 := Tryz.sizeOf5
 v5 := Tryz.zeroValue5
 infoByte := by kernel_rfl
 cellsByte := by kernel_rfl
 sizeByte := by kernel_rfl
 neB5 := by decide }
open Go.RowKit Go.Lib in
theorem Tryz.strings_ReplaceAll (s old new:ByteArray) (m:Int) (w:World) (hs:s.size < 4294967281) (hm:w.cell? ⟨0, 0, none⟩=some (.int .i64 m)) (h1:1≤old.size) (hlen:s.size+Lib.countB s old*new.size≤140737488355328) :
  Calls Tryz.prog 206 #[.string s, .string old, .string new] w fun e w' =>
   e=.returned (.string ⟨(Lib.replaceAll s.data.toList old.data.toList new.data.toList).toArray⟩)∧Below w.heap.size w w' := Any.strings_ReplaceAll Tryz.lays155 Tryz.Builder_Extra_155 s old new m w hs hm h1 hlen
def Tryz.lays194_ren:Go.Shelf.Ren := ⟨fun|194 => 153|n => n, fun|31 => 65|9 => 9|3 => 3|4 => 4|0 => 0|n => n, fun|n => n⟩
theorem Tryz.lays194:Go.Proofs.Lays.n194 Tryz.prog Tryz.lays194_ren := {
 mixed := by kernel_rfl
 f194 := Tryz.func153.trans (congrArg some (by kernel_rfl))
 t0 := Tryz.underlying0
 a0 := Tryz.isAgg0
 z0 := Tryz.sizeOf0
 v0 := Tryz.zeroValue0
 t3 := Tryz.underlying3
 a3 := Tryz.isAgg3
 z3 := Tryz.sizeOf3
 v3 := Tryz.zeroValue3
 t4 := Tryz.underlying4
 a4 := Tryz.isAgg4
 z4 := Tryz.sizeOf4
 v4 := Tryz.zeroValue4
 t9 := Tryz.underlying9
 a9 := Tryz.isAgg9
 z9 := Tryz.sizeOf9
 v9 := Tryz.zeroValue9
 t31 := Tryz.underlying65
 a31 := Tryz.isAgg65
 z31 := Tryz.sizeOf65
 v31 := Tryz.zeroValue65 }
open Go.RowKit Go.Lib Go.Sort in
theorem Tryz.slices_Compact_string (blk off cap:Nat) (zs:List (List UInt8)) (w:World) (hH:Holds encStr w blk off zs.toArray) (hsz:zs.length≤9223372036854775807) (hcap:zs.length≤cap) :
  Calls Tryz.prog 153 #[.slice (some ⟨blk, off, none⟩) zs.length cap] w fun e w' => e=.returned (.slice (some ⟨blk, off, none⟩) (Lib.compact zs).length cap)∧∃ q, w'=putRow encStr (Sort.ahead w q) blk off (Lib.compact zs++List.replicate (zs.length-(Lib.compact zs).length) []).toArray := Any.slices_Compact_string Tryz.lays194 blk off cap zs w hH hsz hcap
open Go.RowKit Go.Lib Go.Sort in
theorem Tryz.slices_Compact_string_empty (a:Option Addr) (cap:Nat) (w:World) :
  Calls Tryz.prog 153 #[.slice a 0 cap] w fun e w' => e=.returned (.slice a 0 cap)∧w'=w := Any.slices_Compact_string_empty Tryz.lays194 a cap w
open Go.RowKit Go.Sort in
theorem Tryz.slices_Sort_string_none (p:Option Addr) (cap:Nat) (w:World) :
  Calls Tryz.prog 152 #[.slice p 0 cap] w fun e w' => e=.returned (.tuple #[])∧w'=w := Any.slices_Sort_string_none Tryz.lays190 p cap w
def Tryz.lays185_ren:Go.Shelf.Ren := ⟨fun|185 => 237|187 => 271|115 => 272|253 => 273|224 => 263|254 => 274|255 => 294|291 => 295|n => n, fun|37 => 28|3 => 3|4 => 4|0 => 0|5 => 5|46 => 186|9 => 9|146 => 309|51 => 223|n => n, fun|1 => 0|n => n⟩
theorem Tryz.lays185:Go.Proofs.Lays.n185 Tryz.prog Tryz.lays185_ren := {
 mixed := by kernel_rfl
 f115 := Tryz.func272.trans (congrArg some (by kernel_rfl))
 f185 := Tryz.func237.trans (congrArg some (by kernel_rfl))
 f187 := Tryz.func271.trans (congrArg some (by kernel_rfl))
 f224 := Tryz.func263.trans (congrArg some (by kernel_rfl))
 f253 := Tryz.func273.trans (congrArg some (by kernel_rfl))
 f254 := Tryz.func274.trans (congrArg some (by kernel_rfl))
 f255 := Tryz.func294.trans (congrArg some (by kernel_rfl))
 f291 := Tryz.func295.trans (congrArg some (by kernel_rfl))
 t0 := Tryz.underlying0
 a0 := Tryz.isAgg0
 z0 := Tryz.sizeOf0
 v0 := Tryz.zeroValue0
 t3 := Tryz.underlying3
 a3 := Tryz.isAgg3
 z3 := Tryz.sizeOf3
 v3 := Tryz.zeroValue3
 t4 := Tryz.underlying4
 a4 := Tryz.isAgg4
 z4 := Tryz.sizeOf4
 v4 := Tryz.zeroValue4
 t5 := Tryz.underlying5
 a5 := Tryz.isAgg5
 z5 := Tryz.sizeOf5
 v5 := Tryz.zeroValue5
 t9 := Tryz.underlying9
 a9 := Tryz.isAgg9
 z9 := Tryz.sizeOf9
 v9 := Tryz.zeroValue9
 t37 := Tryz.underlying28
 a37 := Tryz.isAgg28
 z37 := Tryz.sizeOf28
 v37 := Tryz.zeroValue28
 t46 := Tryz.underlying186
 a46 := Tryz.isAgg186
 z46 := Tryz.sizeOf186
 v46 := Tryz.zeroValue186
 t51 := Tryz.underlying223
 a51 := Tryz.isAgg223
 z51 := Tryz.sizeOf223
 v51 := Tryz.zeroValue223
 t146 := Tryz.underlying309
 a146 := Tryz.isAgg309
 z146 := Tryz.sizeOf309
 v146 := Tryz.zeroValue309
 g1 := by kernel_rfl }
open Go.RowKit Go.Lib in
theorem Tryz.bytes_Index_one_nil (b2 o2 d:Nat) (cv:Int) (w:World) (hc2:w.cell? ⟨b2, o2, none⟩=some (.int .u8 cv)) :
  Calls Tryz.prog 237 #[.slice none 0 0, .slice (some ⟨b2, o2, none⟩) 1 d] w fun e w' => e=.returned (.int .i64 (-1))∧w'=w := Any.bytes_Index_one_nil Tryz.lays185 b2 o2 d cv w hc2
def Tryz.laysSlB13_ren:Go.Shelf.Ren := ⟨fun|13 => 216|24 => 252|25 => 253|12 => 237|31 => 265|19 => 271|20 => 272|21 => 273|22 => 263|23 => 274|29 => 294|30 => 295|n => n, fun|22 => 28|3 => 3|4 => 4|0 => 0|5 => 5|9 => 9|33 => 186|40 => 309|39 => 223|n => n, fun|0 => 0|n => n⟩
theorem Tryz.laysSlB13:Go.Proofs.SlLaysB.n13 Tryz.prog Tryz.laysSlB13_ren := {
 mixed := by kernel_rfl
 f13 := Tryz.func216.trans (congrArg some (by kernel_rfl))
 f25 := Tryz.func253.trans (congrArg some (by kernel_rfl))
 t0 := Tryz.underlying0
 a0 := Tryz.isAgg0
 z0 := Tryz.sizeOf0
 v0 := Tryz.zeroValue0
 t3 := Tryz.underlying3
 a3 := Tryz.isAgg3
 z3 := Tryz.sizeOf3
 v3 := Tryz.zeroValue3
 t4 := Tryz.underlying4
 a4 := Tryz.isAgg4
 z4 := Tryz.sizeOf4
 v4 := Tryz.zeroValue4
 t5 := Tryz.underlying5
 a5 := Tryz.isAgg5
 z5 := Tryz.sizeOf5
 v5 := Tryz.zeroValue5
 t22 := Tryz.underlying28
 a22 := Tryz.isAgg28
 z22 := Tryz.sizeOf28
 v22 := Tryz.zeroValue28 }
open Go.RowKit Go.Lib in
theorem Tryz.bytes_Count_one_at (a:Addr) (n c b2 o2 d:Nat) (xs:List Int) (cv:Int) (w:World) (hx:xs.length=n) (hc:∀ i, i < n→w.cell? (a.add i)=some (.int .u8 (xs.getD i 0))) (hc2:w.cell? ⟨b2, o2, none⟩=some (.int .u8 cv)) :
  Calls Tryz.prog 216 #[.slice (some a) n c, .slice (some ⟨b2, o2, none⟩) 1 d] w fun e w' => e=.returned (.int .i64 (Lib.countByte (Lib.bytesOf xs) cv.toNat.toUInt8))∧w'=w := Any.bytes_Count_one_at Tryz.laysSlB13 a n c b2 o2 d xs cv w hx hc hc2
open Go.RowKit Go.Lib in
theorem Tryz.bytes_Count_one_nil (b2 o2 d:Nat) (cv:Int) (w:World) (hc2:w.cell? ⟨b2, o2, none⟩=some (.int .u8 cv)) :
  Calls Tryz.prog 216 #[.slice none 0 0, .slice (some ⟨b2, o2, none⟩) 1 d] w fun e w' => e=.returned (.int .i64 0)∧w'=w := Any.bytes_Count_one_nil Tryz.laysSlB13 b2 o2 d cv w hc2
open Go.RowKit Go.Lib in
theorem Tryz.bytes_Index_one_at (a:Addr) (n c b2 o2 d:Nat) (xs:List Int) (cv:Int) (w:World) (hx:xs.length=n) (hc:∀ i, i < n→w.cell? (a.add i)=some (.int .u8 (xs.getD i 0))) (hc2:w.cell? ⟨b2, o2, none⟩=some (.int .u8 cv)) :
  Calls Tryz.prog 237 #[.slice (some a) n c, .slice (some ⟨b2, o2, none⟩) 1 d] w fun e w' => e=.returned (.int .i64 (Lib.indexByte (Lib.bytesOf xs) cv.toNat.toUInt8))∧w'=w := Any.bytes_Index_one_at Tryz.lays185 a n c b2 o2 d xs cv w hx hc hc2
def Tryz.laysTrim_ren:Go.Shelf.Ren := ⟨fun|160 => 140|232 => 173|231 => 172|227 => 174|234 => 176|233 => 175|236 => 178|235 => 177|228 => 222|271 => 225|151 => 224|197 => 223|120 => 257|152 => 256|260 => 255|137 => 286|119 => 287|224 => 263|225 => 262|217 => 261|266 => 288|n => n, fun|9 => 9|4 => 4|3 => 3|5 => 5|117 => 215|116 => 214|0 => 0|124 => 218|21 => 21|105 => 260|46 => 186|119 => 304|139 => 307|138 => 306|n => n, fun|3 => 1|4 => 2|n => n⟩
theorem Tryz.laysTrim:Go.Proofs.Lays.n160 Tryz.prog Tryz.laysTrim_ren := {
 mixed := by kernel_rfl
 f119 := Tryz.func287.trans (congrArg some (by kernel_rfl))
 f120 := Tryz.func257.trans (congrArg some (by kernel_rfl))
 f137 := Tryz.func286.trans (congrArg some (by kernel_rfl))
 f151 := Tryz.func224.trans (congrArg some (by kernel_rfl))
 f152 := Tryz.func256.trans (congrArg some (by kernel_rfl))
 f160 := Tryz.func140.trans (congrArg some (by kernel_rfl))
 f197 := Tryz.func223.trans (congrArg some (by kernel_rfl))
 f217 := Tryz.func261.trans (congrArg some (by kernel_rfl))
 f224 := Tryz.func263.trans (congrArg some (by kernel_rfl))
 f225 := Tryz.func262.trans (congrArg some (by kernel_rfl))
 f227 := Tryz.func174.trans (congrArg some (by kernel_rfl))
 f228 := Tryz.func222.trans (congrArg some (by kernel_rfl))
 f231 := Tryz.func172.trans (congrArg some (by kernel_rfl))
 f232 := Tryz.func173.trans (congrArg some (by kernel_rfl))
 f233 := Tryz.func175.trans (congrArg some (by kernel_rfl))
 f234 := Tryz.func176.trans (congrArg some (by kernel_rfl))
 f235 := Tryz.func177.trans (congrArg some (by kernel_rfl))
 f236 := Tryz.func178.trans (congrArg some (by kernel_rfl))
 f260 := Tryz.func255.trans (congrArg some (by kernel_rfl))
 f266 := Tryz.func288.trans (congrArg some (by kernel_rfl))
 f271 := Tryz.func225.trans (congrArg some (by kernel_rfl))
 t0 := Tryz.underlying0
 a0 := Tryz.isAgg0
 z0 := Tryz.sizeOf0
 v0 := Tryz.zeroValue0
 t3 := Tryz.underlying3
 a3 := Tryz.isAgg3
 z3 := Tryz.sizeOf3
 v3 := Tryz.zeroValue3
 t4 := Tryz.underlying4
 a4 := Tryz.isAgg4
 z4 := Tryz.sizeOf4
 v4 := Tryz.zeroValue4
 t5 := Tryz.underlying5
 a5 := Tryz.isAgg5
 z5 := Tryz.sizeOf5
 v5 := Tryz.zeroValue5
 t9 := Tryz.underlying9
 a9 := Tryz.isAgg9
 z9 := Tryz.sizeOf9
 v9 := Tryz.zeroValue9
 t21 := Tryz.underlying21
 a21 := Tryz.isAgg21
 z21 := Tryz.sizeOf21
 v21 := Tryz.zeroValue21
 t46 := Tryz.underlying186
 a46 := Tryz.isAgg186
 z46 := Tryz.sizeOf186
 v46 := Tryz.zeroValue186
 t105 := Tryz.underlying260
 a105 := Tryz.isAgg260
 z105 := Tryz.sizeOf260
 v105 := Tryz.zeroValue260
 t116 := Tryz.underlying214
 a116 := Tryz.isAgg214
 z116 := Tryz.sizeOf214
 t117 := Tryz.underlying215
 a117 := Tryz.isAgg215
 z117 := Tryz.sizeOf215
 v117 := Tryz.zeroValue215
 t119 := Tryz.underlying304
 a119 := Tryz.isAgg304
 z119 := Tryz.sizeOf304
 t124 := Tryz.underlying218
 a124 := Tryz.isAgg218
 z124 := Tryz.sizeOf218
 v124 := Tryz.zeroValue218
 t138 := Tryz.underlying306
 a138 := Tryz.isAgg306
 z138 := Tryz.sizeOf306
 v138 := Tryz.zeroValue306
 t139 := Tryz.underlying307
 a139 := Tryz.isAgg307
 z139 := Tryz.sizeOf307
 v139 := Tryz.zeroValue307
 g3 := by kernel_rfl
 g4 := by kernel_rfl }
end Go.Proofs
