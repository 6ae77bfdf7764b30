/- Contracts of the library at this program, as the kit's plain mode writes them: the conditions stand in each theorem. -/
import Derived.Shelf.Strings.SlTrimAscii
import Derived.Test.YtffljdmmambdjaaDoorProg
namespace Go.Proofs
open Go.Shelf
def Tryd.laysTrim_ren : Go.Shelf.Ren := ⟨fun | 160 => 84 | 232 => 111 | 231 => 110 | 227 => 112 | 234 => 114 | 233 => 113 | 236 => 116 | 235 => 115 | 228 => 137 | 271 => 140 | 151 => 139 | 197 => 138 | 120 => 165 | 152 => 164 | 260 => 163 | 137 => 177 | 119 => 178 | 224 => 144 | 225 => 154 | 217 => 153 | 266 => 172 | n => n, fun | 9 => 9 | 4 => 4 | 3 => 3 | 5 => 5 | 117 => 159 | 116 => 158 | 0 => 0 | 124 => 162 | 21 => 21 | 105 => 180 | 46 => 124 | 119 => 215 | 139 => 218 | 138 => 217 | n => n, fun | 3 => 4 | 4 => 5 | n => n⟩
theorem Tryd.laysTrim : Go.Proofs.Lays.n160 Tryd.prog Tryd.laysTrim_ren := {
  mixed := by kernel_rfl
  f119 := Tryd.func178.trans (congrArg some (by kernel_rfl))
  f120 := Tryd.func165.trans (congrArg some (by kernel_rfl))
  f137 := Tryd.func177.trans (congrArg some (by kernel_rfl))
  f151 := Tryd.func139.trans (congrArg some (by kernel_rfl))
  f152 := Tryd.func164.trans (congrArg some (by kernel_rfl))
  f160 := Tryd.func84.trans (congrArg some (by kernel_rfl))
  f197 := Tryd.func138.trans (congrArg some (by kernel_rfl))
  f217 := Tryd.func153.trans (congrArg some (by kernel_rfl))
  f224 := Tryd.func144.trans (congrArg some (by kernel_rfl))
  f225 := Tryd.func154.trans (congrArg some (by kernel_rfl))
  f227 := Tryd.func112.trans (congrArg some (by kernel_rfl))
  f228 := Tryd.func137.trans (congrArg some (by kernel_rfl))
  f231 := Tryd.func110.trans (congrArg some (by kernel_rfl))
  f232 := Tryd.func111.trans (congrArg some (by kernel_rfl))
  f233 := Tryd.func113.trans (congrArg some (by kernel_rfl))
  f234 := Tryd.func114.trans (congrArg some (by kernel_rfl))
  f235 := Tryd.func115.trans (congrArg some (by kernel_rfl))
  f236 := Tryd.func116.trans (congrArg some (by kernel_rfl))
  f260 := Tryd.func163.trans (congrArg some (by kernel_rfl))
  f266 := Tryd.func172.trans (congrArg some (by kernel_rfl))
  f271 := Tryd.func140.trans (congrArg some (by kernel_rfl))
  t0 := Tryd.underlying0
  a0 := Tryd.isAgg0
  z0 := Tryd.sizeOf0
  v0 := Tryd.zeroValue0
  t3 := Tryd.underlying3
  a3 := Tryd.isAgg3
  z3 := Tryd.sizeOf3
  v3 := Tryd.zeroValue3
  t4 := Tryd.underlying4
  a4 := Tryd.isAgg4
  z4 := Tryd.sizeOf4
  v4 := Tryd.zeroValue4
  t5 := Tryd.underlying5
  a5 := Tryd.isAgg5
  z5 := Tryd.sizeOf5
  v5 := Tryd.zeroValue5
  t9 := Tryd.underlying9
  a9 := Tryd.isAgg9
  z9 := Tryd.sizeOf9
  v9 := Tryd.zeroValue9
  t21 := Tryd.underlying21
  a21 := Tryd.isAgg21
  z21 := Tryd.sizeOf21
  v21 := Tryd.zeroValue21
  t46 := Tryd.underlying124
  a46 := Tryd.isAgg124
  z46 := Tryd.sizeOf124
  v46 := Tryd.zeroValue124
  t105 := Tryd.underlying180
  a105 := Tryd.isAgg180
  z105 := Tryd.sizeOf180
  v105 := Tryd.zeroValue180
  t116 := Tryd.underlying158
  a116 := Tryd.isAgg158
  z116 := Tryd.sizeOf158
  t117 := Tryd.underlying159
  a117 := Tryd.isAgg159
  z117 := Tryd.sizeOf159
  v117 := Tryd.zeroValue159
  t119 := Tryd.underlying215
  a119 := Tryd.isAgg215
  z119 := Tryd.sizeOf215
  t124 := Tryd.underlying162
  a124 := Tryd.isAgg162
  z124 := Tryd.sizeOf162
  v124 := Tryd.zeroValue162
  t138 := Tryd.underlying217
  a138 := Tryd.isAgg217
  z138 := Tryd.sizeOf217
  v138 := Tryd.zeroValue217
  t139 := Tryd.underlying218
  a139 := Tryd.isAgg218
  z139 := Tryd.sizeOf218
  v139 := Tryd.zeroValue218
  g3 := by kernel_rfl
  g4 := by kernel_rfl }

end Go.Proofs
