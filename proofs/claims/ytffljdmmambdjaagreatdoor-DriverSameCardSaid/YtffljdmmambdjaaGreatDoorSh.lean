/- Contracts of the library at this program, as the kit's plain mode writes them: the conditions stand in each theorem. -/
import Derived.Shelf.Strings.SlTrimAscii
import Derived.Shelf.Strings.Builder1
import Derived.Shelf.Strings.Builder2
import Derived.Shelf.Small.Bits
import Derived.Shelf.Strings.BuilderF
import Derived.Shelf.Strings.BuilderK
import Derived.Shelf.Strings.Builder2Cap
import Derived.Shelf.Strconv.Atoi
import Derived.Shelf.Strconv.Itoa0
import Derived.Shelf.Strconv.Itoa1
import Derived.Shelf.LaysM
import Derived.Shelf.Strconv.Itoa2
import Derived.Shelf.Strconv.Itoa3
import Derived.Shelf.Strconv.AtoiErrFast
import Derived.Shelf.Strconv.ParseIntEmpty
import Derived.Shelf.Strconv.AtoiFail
import Derived.Shelf.Strconv.Clone
import Derived.Shelf.Strconv.SyntaxError
import Derived.Shelf.LaysC
import Derived.Shelf.Strconv.ToError
import Derived.Shelf.Strconv.AtoiErr
import Derived.Shelf.Strconv.ErrVar
import Derived.Shelf.Strconv.Lower
import Derived.Shelf.Strconv.ParseUint10
import Derived.Shelf.Strconv.ParseUint10Empty
import Derived.Shelf.Strconv.ParseUint10Any
import Derived.Shelf.Strconv.ParseInt10
import Derived.Shelf.Strconv.AtoiLong
import Derived.Shelf.Strconv.AtoiInnerAll
import Derived.Shelf.Strconv.RangeError
import Derived.Shelf.Strconv.ToErrorRange
import Derived.Shelf.Strconv.AtoiAll
import Derived.Shelf.Strconv.ErrVarAll
import Derived.Shelf.Strconv.ParseUintEmpty
import Derived.Shelf.Strconv.ParseUint10b64
import Derived.Shelf.Strconv.ParseUint10b32
import Derived.Shelf.Strconv.ParseUint10b16
import Derived.Shelf.Strconv.ParseUint10b8
import Derived.Shelf.Strconv.ParseUint10At
import Derived.Shelf.Strconv.ParseInt10At64
import Derived.Shelf.Strconv.ParseInt10At32
import Derived.Shelf.Strconv.ParseInt10At16
import Derived.Shelf.Strconv.ParseInt10At8
import Derived.Shelf.Strconv.ParseInt10All
import Derived.Shelf.Strings.Search1
import Derived.Shelf.Strings.Search2
import Derived.Shelf.Strings.Search3
import Derived.Shelf.Strings.Count
import Derived.Shelf.Strings.Shaped
import Derived.Shelf.Sort.Plain
import Derived.Shelf.Strings.Split
import Derived.Shelf.Strings.Replace
import Derived.Shelf.Strings.SplitShaped
import Derived.Shelf.Unicode.Decode
import Derived.Shelf.Strings.RuneCount
import Derived.Shelf.Strings.Explode
import Derived.Shelf.Unicode.DecodeSlow
import Derived.Shelf.Strings.BuilderCap
import Derived.Ground.Names2Prog
import Derived.Shelf.Slices.Clone
import Derived.Shelf.Slices.CompactS
import Derived.Shelf.Slices.In.SortNone
import Derived.Shelf.Bytes.SlIndexSmall
import Derived.Ground.SlbNamesProg
import Derived.Shelf.Bytes.SlCountOne
import Derived.Shelf.Bytes.SlIndexAt
import Derived.Shelf.Bytes.SlSearch0
import Derived.Shelf.Bytes.SlSearch1
import Derived.Shelf.Bytes.SlSearch2
import Derived.Shelf.Bytes.SlIndexWhole
import Derived.Shelf.Bytes.SlCountWhole
import Derived.Shelf.Bytes.SlSplit
import Derived.Shelf.Bytes.SlSplitNil
import Derived.Shelf.Bytes.SlEqualAll
import Derived.Ground.SlbtProg
import Derived.Shelf.Bytes.SlCut
import Derived.Shelf.Bytes.Small
import Derived.Shelf.Bytes.IndexByte
import Derived.Test.YtffljdmmambdjaaGreatDoorProg
namespace Go.Proofs
open Go.Shelf
def Tryz.laysM171_ren : Go.Shelf.Ren := ⟨fun | 171 => 41 | 243 => 64 | 246 => 99 | 283 => 122 | 284 => 123 | 285 => 124 | 286 => 125 | 129 => 98 | 317 => 143 | 318 => 144 | 319 => 145 | 320 => 146 | 337 => 161 | 338 => 162 | n => n, fun | 3 => 3 | 9 => 9 | 2 => 2 | 4 => 4 | 171 => 178 | 0 => 0 | 53 => 156 | 37 => 40 | 5 => 5 | 173 => 180 | 212 => 206 | 51 => 154 | 20 => 20 | 213 => 207 | 46 => 122 | 232 => 228 | 233 => 229 | n => n, fun | 17 => 1 | 18 => 4 | 19 => 5 | n => n⟩
theorem Tryz.laysM171 : Go.Proofs.LaysM.n171 Tryz.prog Tryz.laysM171_ren := {
  mixed := by kernel_rfl
  f129 := Tryz.func98.trans (congrArg some (by kernel_rfl))
  f171 := Tryz.func41.trans (congrArg some (by kernel_rfl))
  f243 := Tryz.func64.trans (congrArg some (by kernel_rfl))
  f246 := Tryz.func99.trans (congrArg some (by kernel_rfl))
  f283 := Tryz.func122.trans (congrArg some (by kernel_rfl))
  f284 := Tryz.func123.trans (congrArg some (by kernel_rfl))
  f285 := Tryz.func124.trans (congrArg some (by kernel_rfl))
  f286 := Tryz.func125.trans (congrArg some (by kernel_rfl))
  f317 := Tryz.func143.trans (congrArg some (by kernel_rfl))
  f318 := Tryz.func144.trans (congrArg some (by kernel_rfl))
  f319 := Tryz.func145.trans (congrArg some (by kernel_rfl))
  f320 := Tryz.func146.trans (congrArg some (by kernel_rfl))
  f337 := Tryz.func161.trans (congrArg some (by kernel_rfl))
  f338 := Tryz.func162.trans (congrArg some (by kernel_rfl))
  t0 := Tryz.underlying0
  a0 := Tryz.isAgg0
  z0 := Tryz.sizeOf0
  v0 := Tryz.zeroValue0
  t2 := Tryz.underlying2
  a2 := Tryz.isAgg2
  z2 := Tryz.sizeOf2
  v2 := Tryz.zeroValue2
  t3 := Tryz.underlying3
  a3 := Tryz.isAgg3
  z3 := Tryz.sizeOf3
  v3 := Tryz.zeroValue3
  t4 := Tryz.underlying4
  a4 := Tryz.isAgg4
  z4 := Tryz.sizeOf4
  v4 := Tryz.zeroValue4
  t5 := Tryz.underlying5
  a5 := Tryz.isAgg5
  z5 := Tryz.sizeOf5
  v5 := Tryz.zeroValue5
  t9 := Tryz.underlying9
  a9 := Tryz.isAgg9
  z9 := Tryz.sizeOf9
  v9 := Tryz.zeroValue9
  t20 := Tryz.underlying20
  a20 := Tryz.isAgg20
  z20 := Tryz.sizeOf20
  v20 := Tryz.zeroValue20
  t37 := Tryz.underlying40
  a37 := Tryz.isAgg40
  z37 := Tryz.sizeOf40
  v37 := Tryz.zeroValue40
  t46 := Tryz.underlying122
  a46 := Tryz.isAgg122
  z46 := Tryz.sizeOf122
  v46 := Tryz.zeroValue122
  t51 := Tryz.underlying154
  a51 := Tryz.isAgg154
  z51 := Tryz.sizeOf154
  v51 := Tryz.zeroValue154
  t53 := Tryz.underlying156
  a53 := Tryz.isAgg156
  z53 := Tryz.sizeOf156
  v53 := Tryz.zeroValue156
  t171 := Tryz.underlying178
  a171 := Tryz.isAgg178
  z171 := Tryz.sizeOf178
  v171 := Tryz.zeroValue178
  t173 := Tryz.underlying180
  a173 := Tryz.isAgg180
  z173 := Tryz.sizeOf180
  v173 := Tryz.zeroValue180
  t212 := Tryz.underlying206
  a212 := Tryz.isAgg206
  z212 := Tryz.sizeOf206
  v212 := Tryz.zeroValue206
  t213 := Tryz.underlying207
  a213 := Tryz.isAgg207
  z213 := Tryz.sizeOf207
  t232 := Tryz.underlying228
  a232 := Tryz.isAgg228
  z232 := Tryz.sizeOf228
  v232 := Tryz.zeroValue228
  t233 := Tryz.underlying229
  a233 := Tryz.isAgg229
  z233 := Tryz.sizeOf229
  v233 := Tryz.zeroValue229
  g17 := by kernel_rfl
  g18 := by kernel_rfl
  g19 := by kernel_rfl
  i0 := by kernel_rfl
  i2 := by kernel_rfl
  i3 := by kernel_rfl
  i4 := by kernel_rfl
  i5 := by kernel_rfl
  i9 := by kernel_rfl
  i20 := by kernel_rfl
  i37 := by kernel_rfl
  i46 := by kernel_rfl
  i51 := by kernel_rfl
  i53 := by kernel_rfl
  i171 := by kernel_rfl
  i173 := by kernel_rfl
  i212 := by kernel_rfl
  i232 := by kernel_rfl
  i233 := by kernel_rfl
  m17 := by kernel_rfl
  m18 := by kernel_rfl
  m19 := by kernel_rfl }
open Go.RowKit Go.Sort Go.Lib in
theorem Tryz.strconv_Itoa (n : Int) (h0 : -9223372036854775808 ≤ n) (h1 : n ≤ 9223372036854775807) (w : World) (htab : Lib.TabIs Tryz.prog w "internal/strconv.uint64pow10" .u64 Lib.pow10Tab) :
    Calls Tryz.prog 41 #[.int .i64 n] w fun e w' => e = .returned (.string ⟨(Lib.itoa n).toArray⟩) ∧ ∃ k os, w' = grow (w.drewN k) os := Any.strconv_Itoa Tryz.laysM171 n h0 h1 w htab
def Tryz.laysC172_ren : Go.Shelf.Ren := ⟨fun | 172 => 171 | 244 => 173 | 245 => 174 | 247 => 175 | 279 => 176 | 280 => 177 | 281 => 178 | 282 => 179 | 287 => 180 | 316 => 181 | 171 => 41 | 205 => 182 | 321 => 183 | 322 => 184 | 243 => 64 | 246 => 99 | 283 => 122 | 284 => 123 | 285 => 124 | 286 => 125 | 129 => 98 | 317 => 143 | 318 => 144 | 319 => 145 | 320 => 146 | 337 => 161 | 338 => 162 | n => n, fun | 9 => 9 | 3 => 3 | 75 => 186 | 76 => 187 | 4 => 4 | 5 => 5 | 167 => 233 | 37 => 40 | 0 => 0 | 85 => 234 | 2 => 2 | 168 => 236 | 53 => 156 | 175 => 239 | 46 => 122 | 210 => 243 | 127 => 211 | 145 => 248 | 143 => 246 | 21 => 21 | 171 => 178 | 173 => 180 | 212 => 206 | 51 => 154 | 20 => 20 | 213 => 207 | 232 => 228 | 233 => 229 | 80 => 191 | n => n, fun | 15 => 6 | 16 => 7 | 17 => 1 | 18 => 4 | 19 => 5 | n => n⟩
theorem Tryz.laysC172 : Go.Proofs.LaysC.n172 Tryz.prog Tryz.laysC172_ren := {
  mixed := by kernel_rfl
  f129 := Tryz.func98.trans (congrArg some (by kernel_rfl))
  f171 := Tryz.func41.trans (congrArg some (by kernel_rfl))
  f172 := Tryz.func171.trans (congrArg some (by kernel_rfl))
  f205 := Tryz.func182.trans (congrArg some (by kernel_rfl))
  f243 := Tryz.func64.trans (congrArg some (by kernel_rfl))
  f244 := Tryz.func173.trans (congrArg some (by kernel_rfl))
  f245 := Tryz.func174.trans (congrArg some (by kernel_rfl))
  f246 := Tryz.func99.trans (congrArg some (by kernel_rfl))
  f247 := Tryz.func175.trans (congrArg some (by kernel_rfl))
  f279 := Tryz.func176.trans (congrArg some (by kernel_rfl))
  f280 := Tryz.func177.trans (congrArg some (by kernel_rfl))
  f281 := Tryz.func178.trans (congrArg some (by kernel_rfl))
  f282 := Tryz.func179.trans (congrArg some (by kernel_rfl))
  f283 := Tryz.func122.trans (congrArg some (by kernel_rfl))
  f284 := Tryz.func123.trans (congrArg some (by kernel_rfl))
  f285 := Tryz.func124.trans (congrArg some (by kernel_rfl))
  f286 := Tryz.func125.trans (congrArg some (by kernel_rfl))
  f287 := Tryz.func180.trans (congrArg some (by kernel_rfl))
  f316 := Tryz.func181.trans (congrArg some (by kernel_rfl))
  f317 := Tryz.func143.trans (congrArg some (by kernel_rfl))
  f318 := Tryz.func144.trans (congrArg some (by kernel_rfl))
  f319 := Tryz.func145.trans (congrArg some (by kernel_rfl))
  f320 := Tryz.func146.trans (congrArg some (by kernel_rfl))
  f321 := Tryz.func183.trans (congrArg some (by kernel_rfl))
  f322 := Tryz.func184.trans (congrArg some (by kernel_rfl))
  f337 := Tryz.func161.trans (congrArg some (by kernel_rfl))
  f338 := Tryz.func162.trans (congrArg some (by kernel_rfl))
  t0 := Tryz.underlying0
  a0 := Tryz.isAgg0
  z0 := Tryz.sizeOf0
  v0 := Tryz.zeroValue0
  t2 := Tryz.underlying2
  a2 := Tryz.isAgg2
  z2 := Tryz.sizeOf2
  v2 := Tryz.zeroValue2
  t3 := Tryz.underlying3
  a3 := Tryz.isAgg3
  z3 := Tryz.sizeOf3
  v3 := Tryz.zeroValue3
  t4 := Tryz.underlying4
  a4 := Tryz.isAgg4
  z4 := Tryz.sizeOf4
  v4 := Tryz.zeroValue4
  t5 := Tryz.underlying5
  a5 := Tryz.isAgg5
  z5 := Tryz.sizeOf5
  v5 := Tryz.zeroValue5
  t9 := Tryz.underlying9
  a9 := Tryz.isAgg9
  z9 := Tryz.sizeOf9
  v9 := Tryz.zeroValue9
  t20 := Tryz.underlying20
  a20 := Tryz.isAgg20
  z20 := Tryz.sizeOf20
  v20 := Tryz.zeroValue20
  t21 := Tryz.underlying21
  a21 := Tryz.isAgg21
  z21 := Tryz.sizeOf21
  v21 := Tryz.zeroValue21
  t37 := Tryz.underlying40
  a37 := Tryz.isAgg40
  z37 := Tryz.sizeOf40
  v37 := Tryz.zeroValue40
  t46 := Tryz.underlying122
  a46 := Tryz.isAgg122
  z46 := Tryz.sizeOf122
  v46 := Tryz.zeroValue122
  t51 := Tryz.underlying154
  a51 := Tryz.isAgg154
  z51 := Tryz.sizeOf154
  v51 := Tryz.zeroValue154
  t53 := Tryz.underlying156
  a53 := Tryz.isAgg156
  z53 := Tryz.sizeOf156
  v53 := Tryz.zeroValue156
  t75 := Tryz.underlying186
  a75 := Tryz.isAgg186
  z75 := Tryz.sizeOf186
  v75 := Tryz.zeroValue186
  t76 := Tryz.underlying187
  a76 := Tryz.isAgg187
  z76 := Tryz.sizeOf187
  v76 := Tryz.zeroValue187
  t85 := Tryz.underlying234
  a85 := Tryz.isAgg234
  z85 := Tryz.sizeOf234
  v85 := Tryz.zeroValue234
  t127 := Tryz.underlying211
  a127 := Tryz.isAgg211
  z127 := Tryz.sizeOf211
  v127 := Tryz.zeroValue211
  t143 := Tryz.underlying246
  a143 := Tryz.isAgg246
  z143 := Tryz.sizeOf246
  v143 := Tryz.zeroValue246
  t145 := Tryz.underlying248
  a145 := Tryz.isAgg248
  z145 := Tryz.sizeOf248
  v145 := Tryz.zeroValue248
  t167 := Tryz.underlying233
  a167 := Tryz.isAgg233
  z167 := Tryz.sizeOf233
  v167 := Tryz.zeroValue233
  t168 := Tryz.underlying236
  a168 := Tryz.isAgg236
  z168 := Tryz.sizeOf236
  v168 := Tryz.zeroValue236
  t171 := Tryz.underlying178
  a171 := Tryz.isAgg178
  z171 := Tryz.sizeOf178
  v171 := Tryz.zeroValue178
  t173 := Tryz.underlying180
  a173 := Tryz.isAgg180
  z173 := Tryz.sizeOf180
  v173 := Tryz.zeroValue180
  t175 := Tryz.underlying239
  a175 := Tryz.isAgg239
  z175 := Tryz.sizeOf239
  v175 := Tryz.zeroValue239
  t210 := Tryz.underlying243
  a210 := Tryz.isAgg243
  z210 := Tryz.sizeOf243
  v210 := Tryz.zeroValue243
  t212 := Tryz.underlying206
  a212 := Tryz.isAgg206
  z212 := Tryz.sizeOf206
  v212 := Tryz.zeroValue206
  t213 := Tryz.underlying207
  a213 := Tryz.isAgg207
  z213 := Tryz.sizeOf207
  t232 := Tryz.underlying228
  a232 := Tryz.isAgg228
  z232 := Tryz.sizeOf228
  v232 := Tryz.zeroValue228
  t233 := Tryz.underlying229
  a233 := Tryz.isAgg229
  z233 := Tryz.sizeOf229
  v233 := Tryz.zeroValue229
  g15 := by kernel_rfl
  g16 := by kernel_rfl
  g17 := by kernel_rfl
  g18 := by kernel_rfl
  g19 := by kernel_rfl
  t80 := Tryz.underlying191
  a80 := Tryz.isAgg191
  z80 := Tryz.sizeOf191
  v80 := Tryz.zeroValue191
  i0 := by kernel_rfl
  i2 := by kernel_rfl
  i3 := by kernel_rfl
  i4 := by kernel_rfl
  i5 := by kernel_rfl
  i9 := by kernel_rfl
  i20 := by kernel_rfl
  i21 := by kernel_rfl
  i37 := by kernel_rfl
  i46 := by kernel_rfl
  i51 := by kernel_rfl
  i53 := by kernel_rfl
  i75 := by kernel_rfl
  i76 := by kernel_rfl
  i80 := by kernel_rfl
  i85 := by kernel_rfl
  i127 := by kernel_rfl
  i143 := by kernel_rfl
  i145 := by kernel_rfl
  i167 := by kernel_rfl
  i168 := by kernel_rfl
  i171 := by kernel_rfl
  i173 := by kernel_rfl
  i175 := by kernel_rfl
  i210 := by kernel_rfl
  i212 := by kernel_rfl
  i232 := by kernel_rfl
  i233 := by kernel_rfl
  m15 := by kernel_rfl
  m16 := by kernel_rfl
  m17 := by kernel_rfl
  m18 := by kernel_rfl
  m19 := by kernel_rfl
  c0 := by kernel_rfl
  c2 := by kernel_rfl
  c3 := by kernel_rfl
  c4 := by kernel_rfl
  c5 := by kernel_rfl
  c9 := by kernel_rfl
  c20 := by kernel_rfl
  c21 := by kernel_rfl
  c37 := by kernel_rfl
  c46 := by kernel_rfl
  c51 := by kernel_rfl
  c53 := by kernel_rfl
  c75 := by kernel_rfl
  c76 := by kernel_rfl
  c80 := by kernel_rfl
  c85 := by kernel_rfl
  c127 := by kernel_rfl
  c143 := by kernel_rfl
  c145 := by kernel_rfl
  c167 := by kernel_rfl
  c168 := by kernel_rfl
  c171 := by kernel_rfl
  c173 := by kernel_rfl
  c175 := by kernel_rfl
  c210 := by kernel_rfl
  c212 := by kernel_rfl
  c213 := by kernel_rfl
  c232 := by kernel_rfl
  c233 := by kernel_rfl }
open Go.RowKit in
theorem Tryz.strconv_Atoi_ok (s : ByteArray) (hmax : s.size ≤ 9223372036854775806) (v : Int) (h : Lib.atoiAll s.data.toList = .ok v) (w : World) :
    Calls Tryz.prog 171 #[.string s] w fun e w' => e = .returned (.tuple #[.int .i64 v, .nilIface]) ∧ (w' = w ∨ ∃ t, w' = Lib.bytesWorld w 5 t) := Any.strconv_Atoi_ok Tryz.laysC172 s hmax v h w
open Go.RowKit in
theorem Tryz.strconv_Atoi_syntax_var (s : ByteArray) (hlim : s.size ≤ 281474976710656) (h : Lib.atoiAll s.data.toList = Lib.NumEnd.syntax) (tp : TypeId) (p : Value) (w : World) (hvar : w.var? Tryz.prog "strconv.ErrSyntax" = some #[.iface tp p]) :
    Calls Tryz.prog 171 #[.string s] w fun e w' => ∃ N, e = .returned (.tuple #[.int .i64 0, .iface 236 (.pointer (some ⟨N, 0, none⟩))]) ∧ w.heap.size ≤ N ∧ w'.heap[N]? = some (.cells #[.string ⟨#[65, 116, 111, 105]⟩, .string s, .iface tp p] 243 (0, 0)) ∧ Below w.heap.size w w' := Any.strconv_Atoi_syntax_var Tryz.laysC172 s hlim h tp p w hvar
open Go.RowKit in
theorem Tryz.strconv_Atoi_range_var (s : ByteArray) (hlim : s.size ≤ 281474976710656) (h : Lib.atoiAll s.data.toList = .range) (tp : TypeId) (p : Value) (w : World) (hvar : w.var? Tryz.prog "strconv.ErrRange" = some #[.iface tp p]) :
    Calls Tryz.prog 171 #[.string s] w fun e w' => ∃ N, e = .returned (.tuple #[.int .i64 (Lib.atoiSat s.data.toList), .iface 236 (.pointer (some ⟨N, 0, none⟩))]) ∧ w.heap.size ≤ N ∧ w'.heap[N]? = some (.cells #[.string ⟨#[65, 116, 111, 105]⟩, .string s, .iface tp p] 243 (0, 0)) ∧ Below w.heap.size w w' := Any.strconv_Atoi_range_var Tryz.laysC172 s hlim h tp p w hvar
def Tryz.lays144_ren : Go.Shelf.Ren := ⟨fun | 144 => 65 | 143 => 100 | 219 => 126 | 217 => 147 | 225 => 148 | 224 => 114 | 267 => 149 | 266 => 163 | 314 => 164 | n => n, fun | 9 => 9 | 4 => 4 | 3 => 3 | 5 => 5 | 46 => 122 | 146 => 200 | 51 => 154 | n => n, fun | 1 => 0 | n => n⟩
theorem Tryz.lays144 : Go.Proofs.Lays.n144 Tryz.prog Tryz.lays144_ren := {
  mixed := by kernel_rfl
  f143 := Tryz.func100.trans (congrArg some (by kernel_rfl))
  f144 := Tryz.func65.trans (congrArg some (by kernel_rfl))
  f217 := Tryz.func147.trans (congrArg some (by kernel_rfl))
  f219 := Tryz.func126.trans (congrArg some (by kernel_rfl))
  f224 := Tryz.func114.trans (congrArg some (by kernel_rfl))
  f225 := Tryz.func148.trans (congrArg some (by kernel_rfl))
  f266 := Tryz.func163.trans (congrArg some (by kernel_rfl))
  f267 := Tryz.func149.trans (congrArg some (by kernel_rfl))
  f314 := Tryz.func164.trans (congrArg some (by kernel_rfl))
  t3 := Tryz.underlying3
  a3 := Tryz.isAgg3
  z3 := Tryz.sizeOf3
  v3 := Tryz.zeroValue3
  t4 := Tryz.underlying4
  a4 := Tryz.isAgg4
  z4 := Tryz.sizeOf4
  v4 := Tryz.zeroValue4
  t5 := Tryz.underlying5
  a5 := Tryz.isAgg5
  z5 := Tryz.sizeOf5
  v5 := Tryz.zeroValue5
  t9 := Tryz.underlying9
  a9 := Tryz.isAgg9
  z9 := Tryz.sizeOf9
  v9 := Tryz.zeroValue9
  t46 := Tryz.underlying122
  a46 := Tryz.isAgg122
  z46 := Tryz.sizeOf122
  v46 := Tryz.zeroValue122
  t51 := Tryz.underlying154
  a51 := Tryz.isAgg154
  z51 := Tryz.sizeOf154
  v51 := Tryz.zeroValue154
  t146 := Tryz.underlying200
  a146 := Tryz.isAgg200
  z146 := Tryz.sizeOf200
  v146 := Tryz.zeroValue200
  g1 := by kernel_rfl }
open Go.RowKit Go.Lib in
theorem Tryz.strings_Contains (s sub : ByteArray) (m : Int) (w : World) (hs : s.size < 4294967281) (hm : w.cell? ⟨0, 0, none⟩ = some (.int .i64 m)) :
    Calls Tryz.prog 65 #[.string s, .string sub] w fun e w' => e = .returned (.bool (Lib.contains s.data.toList sub.data.toList)) ∧ w' = w := Any.strings_Contains Tryz.lays144 s sub m w hs hm
def Tryz.lays190_ren : Go.Shelf.Ren := ⟨fun | 190 => 39 | 125 => 63 | 258 => 62 | 128 => 97 | 129 => 98 | 302 => 88 | 303 => 89 | 304 => 90 | 305 => 91 | 306 => 92 | 307 => 93 | 308 => 94 | 309 => 95 | 310 => 96 | 333 => 116 | 329 => 117 | 330 => 118 | 334 => 119 | 335 => 120 | 336 => 121 | 344 => 142 | n => n, fun | 31 => 36 | 9 => 9 | 3 => 3 | 46 => 122 | 0 => 0 | 51 => 154 | 53 => 156 | 4 => 4 | 183 => 148 | 182 => 147 | 131 => 59 | 5 => 5 | 218 => 172 | 222 => 176 | 228 => 202 | 229 => 203 | n => n, fun | n => n⟩
theorem Tryz.lays190 : Go.Proofs.Lays.n190 Tryz.prog Tryz.lays190_ren := {
  mixed := by kernel_rfl
  f125 := Tryz.func63.trans (congrArg some (by kernel_rfl))
  f128 := Tryz.func97.trans (congrArg some (by kernel_rfl))
  f129 := Tryz.func98.trans (congrArg some (by kernel_rfl))
  f190 := Tryz.func39.trans (congrArg some (by kernel_rfl))
  f258 := Tryz.func62.trans (congrArg some (by kernel_rfl))
  f302 := Tryz.func88.trans (congrArg some (by kernel_rfl))
  f303 := Tryz.func89.trans (congrArg some (by kernel_rfl))
  f304 := Tryz.func90.trans (congrArg some (by kernel_rfl))
  f305 := Tryz.func91.trans (congrArg some (by kernel_rfl))
  f306 := Tryz.func92.trans (congrArg some (by kernel_rfl))
  f307 := Tryz.func93.trans (congrArg some (by kernel_rfl))
  f308 := Tryz.func94.trans (congrArg some (by kernel_rfl))
  f309 := Tryz.func95.trans (congrArg some (by kernel_rfl))
  f310 := Tryz.func96.trans (congrArg some (by kernel_rfl))
  f329 := Tryz.func117.trans (congrArg some (by kernel_rfl))
  f330 := Tryz.func118.trans (congrArg some (by kernel_rfl))
  f333 := Tryz.func116.trans (congrArg some (by kernel_rfl))
  f334 := Tryz.func119.trans (congrArg some (by kernel_rfl))
  f335 := Tryz.func120.trans (congrArg some (by kernel_rfl))
  f336 := Tryz.func121.trans (congrArg some (by kernel_rfl))
  f344 := Tryz.func142.trans (congrArg some (by kernel_rfl))
  t0 := Tryz.underlying0
  a0 := Tryz.isAgg0
  z0 := Tryz.sizeOf0
  v0 := Tryz.zeroValue0
  t3 := Tryz.underlying3
  a3 := Tryz.isAgg3
  z3 := Tryz.sizeOf3
  v3 := Tryz.zeroValue3
  t4 := Tryz.underlying4
  a4 := Tryz.isAgg4
  z4 := Tryz.sizeOf4
  v4 := Tryz.zeroValue4
  t5 := Tryz.underlying5
  a5 := Tryz.isAgg5
  z5 := Tryz.sizeOf5
  v5 := Tryz.zeroValue5
  t9 := Tryz.underlying9
  a9 := Tryz.isAgg9
  z9 := Tryz.sizeOf9
  v9 := Tryz.zeroValue9
  t31 := Tryz.underlying36
  a31 := Tryz.isAgg36
  z31 := Tryz.sizeOf36
  v31 := Tryz.zeroValue36
  t46 := Tryz.underlying122
  a46 := Tryz.isAgg122
  z46 := Tryz.sizeOf122
  v46 := Tryz.zeroValue122
  t51 := Tryz.underlying154
  a51 := Tryz.isAgg154
  z51 := Tryz.sizeOf154
  v51 := Tryz.zeroValue154
  t53 := Tryz.underlying156
  a53 := Tryz.isAgg156
  z53 := Tryz.sizeOf156
  v53 := Tryz.zeroValue156
  t131 := Tryz.underlying59
  a131 := Tryz.isAgg59
  z131 := Tryz.sizeOf59
  v131 := Tryz.zeroValue59
  t182 := Tryz.underlying147
  a182 := Tryz.isAgg147
  z182 := Tryz.sizeOf147
  v182 := Tryz.zeroValue147
  t183 := Tryz.underlying148
  a183 := Tryz.isAgg148
  z183 := Tryz.sizeOf148
  v183 := Tryz.zeroValue148
  t218 := Tryz.underlying172
  a218 := Tryz.isAgg172
  z218 := Tryz.sizeOf172
  v218 := Tryz.zeroValue172
  t222 := Tryz.underlying176
  a222 := Tryz.isAgg176
  z222 := Tryz.sizeOf176
  v222 := Tryz.zeroValue176
  t228 := Tryz.underlying202
  a228 := Tryz.isAgg202
  z228 := Tryz.sizeOf202
  v228 := Tryz.zeroValue202
  t229 := Tryz.underlying203
  a229 := Tryz.isAgg203
  z229 := Tryz.sizeOf203
  v229 := Tryz.zeroValue203 }
open Go.Sort Go.RowKit in
theorem Tryz.slices_Sort_string (blk off cap : Nat) (ss : List (List UInt8)) (w : World) (hH : Holds encStr w blk off ss.toArray) (hblk : blk < w.heap.size) (hsz : ss.length < 4611686018427387904) :
    Calls Tryz.prog 39 #[.slice (some ⟨blk, off, none⟩) ss.length cap] w fun e w' =>
      e = .returned (.tuple #[]) ∧ ∃ n os, w' = grow (putRow encStr (Sort.ahead w n) blk off (ss.mergeSort fun x y => decide (x ≤ y)).toArray) os := Any.slices_Sort_string Tryz.lays190 blk off cap ss w hH hblk hsz
def Tryz.lays146_ren : Go.Shelf.Ren := ⟨fun | 146 => 67 | 221 => 102 | 268 => 132 | 138 => 127 | 143 => 100 | 195 => 150 | 197 => 130 | 218 => 151 | 219 => 126 | 260 => 154 | 217 => 147 | 225 => 148 | 224 => 114 | 267 => 149 | 266 => 163 | 314 => 164 | n => n, fun | 9 => 9 | 31 => 36 | 3 => 3 | 4 => 4 | 0 => 0 | 105 => 189 | 21 => 21 | 5 => 5 | 46 => 122 | 119 => 221 | 139 => 224 | 138 => 223 | 146 => 200 | 51 => 154 | n => n, fun | 1 => 0 | 3 => 2 | 4 => 3 | n => n⟩
theorem Tryz.lays146 : Go.Proofs.Lays.n146 Tryz.prog Tryz.lays146_ren := {
  mixed := by kernel_rfl
  f138 := Tryz.func127.trans (congrArg some (by kernel_rfl))
  f143 := Tryz.func100.trans (congrArg some (by kernel_rfl))
  f146 := Tryz.func67.trans (congrArg some (by kernel_rfl))
  f195 := Tryz.func150.trans (congrArg some (by kernel_rfl))
  f197 := Tryz.func130.trans (congrArg some (by kernel_rfl))
  f217 := Tryz.func147.trans (congrArg some (by kernel_rfl))
  f218 := Tryz.func151.trans (congrArg some (by kernel_rfl))
  f219 := Tryz.func126.trans (congrArg some (by kernel_rfl))
  f221 := Tryz.func102.trans (congrArg some (by kernel_rfl))
  f224 := Tryz.func114.trans (congrArg some (by kernel_rfl))
  f225 := Tryz.func148.trans (congrArg some (by kernel_rfl))
  f260 := Tryz.func154.trans (congrArg some (by kernel_rfl))
  f266 := Tryz.func163.trans (congrArg some (by kernel_rfl))
  f267 := Tryz.func149.trans (congrArg some (by kernel_rfl))
  f268 := Tryz.func132.trans (congrArg some (by kernel_rfl))
  f314 := Tryz.func164.trans (congrArg some (by kernel_rfl))
  t0 := Tryz.underlying0
  a0 := Tryz.isAgg0
  z0 := Tryz.sizeOf0
  v0 := Tryz.zeroValue0
  t3 := Tryz.underlying3
  a3 := Tryz.isAgg3
  z3 := Tryz.sizeOf3
  v3 := Tryz.zeroValue3
  t4 := Tryz.underlying4
  a4 := Tryz.isAgg4
  z4 := Tryz.sizeOf4
  v4 := Tryz.zeroValue4
  t5 := Tryz.underlying5
  a5 := Tryz.isAgg5
  z5 := Tryz.sizeOf5
  v5 := Tryz.zeroValue5
  t9 := Tryz.underlying9
  a9 := Tryz.isAgg9
  z9 := Tryz.sizeOf9
  v9 := Tryz.zeroValue9
  t21 := Tryz.underlying21
  a21 := Tryz.isAgg21
  z21 := Tryz.sizeOf21
  v21 := Tryz.zeroValue21
  t31 := Tryz.underlying36
  a31 := Tryz.isAgg36
  z31 := Tryz.sizeOf36
  v31 := Tryz.zeroValue36
  t46 := Tryz.underlying122
  a46 := Tryz.isAgg122
  z46 := Tryz.sizeOf122
  v46 := Tryz.zeroValue122
  t51 := Tryz.underlying154
  a51 := Tryz.isAgg154
  z51 := Tryz.sizeOf154
  v51 := Tryz.zeroValue154
  t105 := Tryz.underlying189
  a105 := Tryz.isAgg189
  z105 := Tryz.sizeOf189
  v105 := Tryz.zeroValue189
  t119 := Tryz.underlying221
  a119 := Tryz.isAgg221
  z119 := Tryz.sizeOf221
  t138 := Tryz.underlying223
  a138 := Tryz.isAgg223
  z138 := Tryz.sizeOf223
  v138 := Tryz.zeroValue223
  t139 := Tryz.underlying224
  a139 := Tryz.isAgg224
  z139 := Tryz.sizeOf224
  v139 := Tryz.zeroValue224
  t146 := Tryz.underlying200
  a146 := Tryz.isAgg200
  z146 := Tryz.sizeOf200
  v146 := Tryz.zeroValue200
  g1 := by kernel_rfl
  g3 := by kernel_rfl
  g4 := by kernel_rfl }
open Go.RowKit Go.Lib in
theorem Tryz.strings_Split (s sep : ByteArray) (m : Int) (w : World) (hs : s.size < 4294967281) (hm : w.cell? ⟨0, 0, none⟩ = some (.int .i64 m)) (h1 : 1 ≤ sep.size) :
    Calls Tryz.prog 67 #[.string s, .string sep] w fun e w' =>
      e = .returned (.slice (some ⟨w.heap.size, 0, none⟩) (Lib.countB s sep + 1) (Lib.countB s sep + 1)) ∧ w' = w.alloc (.cells ((Lib.splitB sep 0 (Lib.countB s sep) s).map Value.string).toArray 9) := Any.strings_Split Tryz.lays146 (by kernel_rfl) s sep m w hs hm h1
def Tryz.lays155_ren : Go.Shelf.Ren := ⟨fun | 155 => 66 | 154 => 101 | 138 => 127 | 165 => 128 | 143 => 100 | 166 => 129 | 197 => 130 | 169 => 131 | 195 => 150 | 218 => 151 | 240 => 152 | 241 => 153 | 219 => 126 | 260 => 154 | 276 => 165 | 277 => 166 | 217 => 147 | 225 => 148 | 224 => 114 | 267 => 149 | 266 => 163 | 314 => 164 | n => n, fun | 9 => 9 | 3 => 3 | 4 => 4 | 72 => 184 | 0 => 0 | 76 => 187 | 105 => 189 | 21 => 21 | 5 => 5 | 70 => 182 | 20 => 20 | 37 => 40 | 75 => 186 | 127 => 211 | 164 => 218 | 46 => 122 | 119 => 221 | 139 => 224 | 138 => 223 | 146 => 200 | 51 => 154 | 80 => 191 | n => n, fun | 1 => 0 | 3 => 2 | 4 => 3 | n => n⟩
theorem Tryz.lays155 : Go.Proofs.Lays.n155 Tryz.prog Tryz.lays155_ren := {
  mixed := by kernel_rfl
  f138 := Tryz.func127.trans (congrArg some (by kernel_rfl))
  f143 := Tryz.func100.trans (congrArg some (by kernel_rfl))
  f154 := Tryz.func101.trans (congrArg some (by kernel_rfl))
  f155 := Tryz.func66.trans (congrArg some (by kernel_rfl))
  f165 := Tryz.func128.trans (congrArg some (by kernel_rfl))
  f166 := Tryz.func129.trans (congrArg some (by kernel_rfl))
  f169 := Tryz.func131.trans (congrArg some (by kernel_rfl))
  f195 := Tryz.func150.trans (congrArg some (by kernel_rfl))
  f197 := Tryz.func130.trans (congrArg some (by kernel_rfl))
  f217 := Tryz.func147.trans (congrArg some (by kernel_rfl))
  f218 := Tryz.func151.trans (congrArg some (by kernel_rfl))
  f219 := Tryz.func126.trans (congrArg some (by kernel_rfl))
  f224 := Tryz.func114.trans (congrArg some (by kernel_rfl))
  f225 := Tryz.func148.trans (congrArg some (by kernel_rfl))
  f240 := Tryz.func152.trans (congrArg some (by kernel_rfl))
  f241 := Tryz.func153.trans (congrArg some (by kernel_rfl))
  f260 := Tryz.func154.trans (congrArg some (by kernel_rfl))
  f266 := Tryz.func163.trans (congrArg some (by kernel_rfl))
  f267 := Tryz.func149.trans (congrArg some (by kernel_rfl))
  f276 := Tryz.func165.trans (congrArg some (by kernel_rfl))
  f277 := Tryz.func166.trans (congrArg some (by kernel_rfl))
  f314 := Tryz.func164.trans (congrArg some (by kernel_rfl))
  t0 := Tryz.underlying0
  a0 := Tryz.isAgg0
  z0 := Tryz.sizeOf0
  v0 := Tryz.zeroValue0
  t3 := Tryz.underlying3
  a3 := Tryz.isAgg3
  z3 := Tryz.sizeOf3
  v3 := Tryz.zeroValue3
  t4 := Tryz.underlying4
  a4 := Tryz.isAgg4
  z4 := Tryz.sizeOf4
  v4 := Tryz.zeroValue4
  t5 := Tryz.underlying5
  a5 := Tryz.isAgg5
  z5 := Tryz.sizeOf5
  v5 := Tryz.zeroValue5
  t9 := Tryz.underlying9
  a9 := Tryz.isAgg9
  z9 := Tryz.sizeOf9
  v9 := Tryz.zeroValue9
  t20 := Tryz.underlying20
  a20 := Tryz.isAgg20
  z20 := Tryz.sizeOf20
  v20 := Tryz.zeroValue20
  t21 := Tryz.underlying21
  a21 := Tryz.isAgg21
  z21 := Tryz.sizeOf21
  v21 := Tryz.zeroValue21
  t37 := Tryz.underlying40
  a37 := Tryz.isAgg40
  z37 := Tryz.sizeOf40
  v37 := Tryz.zeroValue40
  t46 := Tryz.underlying122
  a46 := Tryz.isAgg122
  z46 := Tryz.sizeOf122
  v46 := Tryz.zeroValue122
  t51 := Tryz.underlying154
  a51 := Tryz.isAgg154
  z51 := Tryz.sizeOf154
  v51 := Tryz.zeroValue154
  t70 := Tryz.underlying182
  a70 := Tryz.isAgg182
  z70 := Tryz.sizeOf182
  v70 := Tryz.zeroValue182
  t72 := Tryz.underlying184
  a72 := Tryz.isAgg184
  z72 := Tryz.sizeOf184
  v72 := Tryz.zeroValue184
  t75 := Tryz.underlying186
  a75 := Tryz.isAgg186
  z75 := Tryz.sizeOf186
  v75 := Tryz.zeroValue186
  t76 := Tryz.underlying187
  a76 := Tryz.isAgg187
  z76 := Tryz.sizeOf187
  v76 := Tryz.zeroValue187
  t105 := Tryz.underlying189
  a105 := Tryz.isAgg189
  z105 := Tryz.sizeOf189
  v105 := Tryz.zeroValue189
  t119 := Tryz.underlying221
  a119 := Tryz.isAgg221
  z119 := Tryz.sizeOf221
  t127 := Tryz.underlying211
  a127 := Tryz.isAgg211
  z127 := Tryz.sizeOf211
  v127 := Tryz.zeroValue211
  t138 := Tryz.underlying223
  a138 := Tryz.isAgg223
  z138 := Tryz.sizeOf223
  v138 := Tryz.zeroValue223
  t139 := Tryz.underlying224
  a139 := Tryz.isAgg224
  z139 := Tryz.sizeOf224
  v139 := Tryz.zeroValue224
  t146 := Tryz.underlying200
  a146 := Tryz.isAgg200
  z146 := Tryz.sizeOf200
  v146 := Tryz.zeroValue200
  t164 := Tryz.underlying218
  a164 := Tryz.isAgg218
  z164 := Tryz.sizeOf218
  v164 := Tryz.zeroValue218
  g1 := by kernel_rfl
  g3 := by kernel_rfl
  g4 := by kernel_rfl }
theorem Tryz.Builder_Extra_155 : Builder.Extra Tryz.prog Tryz.lays155_ren := {
  sizeBuilder := by kernel_rfl
  liesBuilder := by kernel_rfl
  t5 := Tryz.underlying5
  a5 := Tryz.isAgg5
  z5 := Tryz.sizeOf5
  v5 := Tryz.zeroValue5
  infoByte := by kernel_rfl
  cellsByte := by kernel_rfl
  sizeByte := by kernel_rfl
  neB5 := by decide }
open Go.RowKit Go.Lib in
theorem Tryz.strings_ReplaceAll (s old new : ByteArray) (m : Int) (w : World) (hs : s.size < 4294967281) (hm : w.cell? ⟨0, 0, none⟩ = some (.int .i64 m)) (h1 : 1 ≤ old.size) (hlen : s.size + Lib.countB s old * new.size ≤ 140737488355328) :
    Calls Tryz.prog 66 #[.string s, .string old, .string new] w fun e w' =>
      e = .returned (.string ⟨(Lib.replaceAll s.data.toList old.data.toList new.data.toList).toArray⟩) ∧ Below w.heap.size w w' := Any.strings_ReplaceAll Tryz.lays155 Tryz.Builder_Extra_155 s old new m w hs hm h1 hlen
def Tryz.lays194_ren : Go.Shelf.Ren := ⟨fun | 194 => 40 | n => n, fun | 31 => 36 | 9 => 9 | 3 => 3 | 4 => 4 | 0 => 0 | n => n, fun | n => n⟩
theorem Tryz.lays194 : Go.Proofs.Lays.n194 Tryz.prog Tryz.lays194_ren := {
  mixed := by kernel_rfl
  f194 := Tryz.func40.trans (congrArg some (by kernel_rfl))
  t0 := Tryz.underlying0
  a0 := Tryz.isAgg0
  z0 := Tryz.sizeOf0
  v0 := Tryz.zeroValue0
  t3 := Tryz.underlying3
  a3 := Tryz.isAgg3
  z3 := Tryz.sizeOf3
  v3 := Tryz.zeroValue3
  t4 := Tryz.underlying4
  a4 := Tryz.isAgg4
  z4 := Tryz.sizeOf4
  v4 := Tryz.zeroValue4
  t9 := Tryz.underlying9
  a9 := Tryz.isAgg9
  z9 := Tryz.sizeOf9
  v9 := Tryz.zeroValue9
  t31 := Tryz.underlying36
  a31 := Tryz.isAgg36
  z31 := Tryz.sizeOf36
  v31 := Tryz.zeroValue36 }
open Go.RowKit Go.Lib Go.Sort in
theorem Tryz.slices_Compact_string (blk off cap : Nat) (zs : List (List UInt8)) (w : World) (hH : Holds encStr w blk off zs.toArray) (hsz : zs.length ≤ 9223372036854775807) (hcap : zs.length ≤ cap) :
    Calls Tryz.prog 40 #[.slice (some ⟨blk, off, none⟩) zs.length cap] w fun e w' => e = .returned (.slice (some ⟨blk, off, none⟩) (Lib.compact zs).length cap) ∧ ∃ q, w' = putRow encStr (Sort.ahead w q) blk off (Lib.compact zs ++ List.replicate (zs.length - (Lib.compact zs).length) []).toArray := Any.slices_Compact_string Tryz.lays194 blk off cap zs w hH hsz hcap
open Go.RowKit Go.Lib Go.Sort in
theorem Tryz.slices_Compact_string_empty (a : Option Addr) (cap : Nat) (w : World) :
    Calls Tryz.prog 40 #[.slice a 0 cap] w fun e w' => e = .returned (.slice a 0 cap) ∧ w' = w := Any.slices_Compact_string_empty Tryz.lays194 a cap w
open Go.RowKit Go.Sort in
theorem Tryz.slices_Sort_string_none (p : Option Addr) (cap : Nat) (w : World) :
    Calls Tryz.prog 39 #[.slice p 0 cap] w fun e w' => e = .returned (.tuple #[]) ∧ w' = w := Any.slices_Sort_string_none Tryz.lays190 p cap w
def Tryz.lays185_ren : Go.Shelf.Ren := ⟨fun | 185 => 87 | 187 => 111 | 115 => 112 | 253 => 113 | 224 => 114 | 254 => 115 | 255 => 140 | 291 => 141 | n => n, fun | 37 => 40 | 3 => 3 | 4 => 4 | 0 => 0 | 5 => 5 | 46 => 122 | 9 => 9 | 146 => 200 | 51 => 154 | n => n, fun | 1 => 0 | n => n⟩
theorem Tryz.lays185 : Go.Proofs.Lays.n185 Tryz.prog Tryz.lays185_ren := {
  mixed := by kernel_rfl
  f115 := Tryz.func112.trans (congrArg some (by kernel_rfl))
  f185 := Tryz.func87.trans (congrArg some (by kernel_rfl))
  f187 := Tryz.func111.trans (congrArg some (by kernel_rfl))
  f224 := Tryz.func114.trans (congrArg some (by kernel_rfl))
  f253 := Tryz.func113.trans (congrArg some (by kernel_rfl))
  f254 := Tryz.func115.trans (congrArg some (by kernel_rfl))
  f255 := Tryz.func140.trans (congrArg some (by kernel_rfl))
  f291 := Tryz.func141.trans (congrArg some (by kernel_rfl))
  t0 := Tryz.underlying0
  a0 := Tryz.isAgg0
  z0 := Tryz.sizeOf0
  v0 := Tryz.zeroValue0
  t3 := Tryz.underlying3
  a3 := Tryz.isAgg3
  z3 := Tryz.sizeOf3
  v3 := Tryz.zeroValue3
  t4 := Tryz.underlying4
  a4 := Tryz.isAgg4
  z4 := Tryz.sizeOf4
  v4 := Tryz.zeroValue4
  t5 := Tryz.underlying5
  a5 := Tryz.isAgg5
  z5 := Tryz.sizeOf5
  v5 := Tryz.zeroValue5
  t9 := Tryz.underlying9
  a9 := Tryz.isAgg9
  z9 := Tryz.sizeOf9
  v9 := Tryz.zeroValue9
  t37 := Tryz.underlying40
  a37 := Tryz.isAgg40
  z37 := Tryz.sizeOf40
  v37 := Tryz.zeroValue40
  t46 := Tryz.underlying122
  a46 := Tryz.isAgg122
  z46 := Tryz.sizeOf122
  v46 := Tryz.zeroValue122
  t51 := Tryz.underlying154
  a51 := Tryz.isAgg154
  z51 := Tryz.sizeOf154
  v51 := Tryz.zeroValue154
  t146 := Tryz.underlying200
  a146 := Tryz.isAgg200
  z146 := Tryz.sizeOf200
  v146 := Tryz.zeroValue200
  g1 := by kernel_rfl }
open Go.RowKit Go.Lib in
theorem Tryz.bytes_Index_one_nil (b2 o2 d : Nat) (cv : Int) (w : World) (hc2 : w.cell? ⟨b2, o2, none⟩ = some (.int .u8 cv)) :
    Calls Tryz.prog 87 #[.slice none 0 0, .slice (some ⟨b2, o2, none⟩) 1 d] w fun e w' => e = .returned (.int .i64 (-1)) ∧ w' = w := Any.bytes_Index_one_nil Tryz.lays185 b2 o2 d cv w hc2
def Tryz.laysSlB13_ren : Go.Shelf.Ren := ⟨fun | 13 => 138 | 24 => 159 | 25 => 160 | 12 => 87 | 31 => 150 | 19 => 111 | 20 => 112 | 21 => 113 | 22 => 114 | 23 => 115 | 29 => 140 | 30 => 141 | n => n, fun | 22 => 40 | 3 => 3 | 4 => 4 | 0 => 0 | 5 => 5 | 9 => 9 | 33 => 122 | 40 => 200 | 39 => 154 | n => n, fun | 0 => 0 | n => n⟩
theorem Tryz.laysSlB13 : Go.Proofs.SlLaysB.n13 Tryz.prog Tryz.laysSlB13_ren := {
  mixed := by kernel_rfl
  f13 := Tryz.func138.trans (congrArg some (by kernel_rfl))
  f25 := Tryz.func160.trans (congrArg some (by kernel_rfl))
  t0 := Tryz.underlying0
  a0 := Tryz.isAgg0
  z0 := Tryz.sizeOf0
  v0 := Tryz.zeroValue0
  t3 := Tryz.underlying3
  a3 := Tryz.isAgg3
  z3 := Tryz.sizeOf3
  v3 := Tryz.zeroValue3
  t4 := Tryz.underlying4
  a4 := Tryz.isAgg4
  z4 := Tryz.sizeOf4
  v4 := Tryz.zeroValue4
  t5 := Tryz.underlying5
  a5 := Tryz.isAgg5
  z5 := Tryz.sizeOf5
  v5 := Tryz.zeroValue5
  t22 := Tryz.underlying40
  a22 := Tryz.isAgg40
  z22 := Tryz.sizeOf40
  v22 := Tryz.zeroValue40 }
open Go.RowKit Go.Lib in
theorem Tryz.bytes_Count_one_at (a : Addr) (n c b2 o2 d : Nat) (xs : List Int) (cv : Int) (w : World) (hx : xs.length = n) (hc : ∀ i, i < n → w.cell? (a.add i) = some (.int .u8 (xs.getD i 0))) (hc2 : w.cell? ⟨b2, o2, none⟩ = some (.int .u8 cv)) :
    Calls Tryz.prog 138 #[.slice (some a) n c, .slice (some ⟨b2, o2, none⟩) 1 d] w fun e w' => e = .returned (.int .i64 (Lib.countByte (Lib.bytesOf xs) cv.toNat.toUInt8)) ∧ w' = w := Any.bytes_Count_one_at Tryz.laysSlB13 a n c b2 o2 d xs cv w hx hc hc2
open Go.RowKit Go.Lib in
theorem Tryz.bytes_Count_one_nil (b2 o2 d : Nat) (cv : Int) (w : World) (hc2 : w.cell? ⟨b2, o2, none⟩ = some (.int .u8 cv)) :
    Calls Tryz.prog 138 #[.slice none 0 0, .slice (some ⟨b2, o2, none⟩) 1 d] w fun e w' => e = .returned (.int .i64 0) ∧ w' = w := Any.bytes_Count_one_nil Tryz.laysSlB13 b2 o2 d cv w hc2
open Go.RowKit Go.Lib in
theorem Tryz.bytes_Index_one_at (a : Addr) (n c b2 o2 d : Nat) (xs : List Int) (cv : Int) (w : World) (hx : xs.length = n) (hc : ∀ i, i < n → w.cell? (a.add i) = some (.int .u8 (xs.getD i 0))) (hc2 : w.cell? ⟨b2, o2, none⟩ = some (.int .u8 cv)) :
    Calls Tryz.prog 87 #[.slice (some a) n c, .slice (some ⟨b2, o2, none⟩) 1 d] w fun e w' => e = .returned (.int .i64 (Lib.indexByte (Lib.bytesOf xs) cv.toNat.toUInt8)) ∧ w' = w := Any.bytes_Index_one_at Tryz.lays185 a n c b2 o2 d xs cv w hx hc hc2
end Go.Proofs
