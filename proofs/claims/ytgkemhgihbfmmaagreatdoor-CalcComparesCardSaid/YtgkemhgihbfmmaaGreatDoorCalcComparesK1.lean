/- Part 2 of the proof for CalcCompares: functions of the program as plain Lean functions, their calls, and what they come to. -/
import Derived.Shelf.Strings.Builder1
import Derived.Shelf.Strings.Builder2
import Derived.Shelf.Strings.Trim
import Derived.Shelf.Small.Utf8
import Derived.Shelf.Small.Bits
import Derived.Shelf.Small.Strs
import Derived.Shelf.Small.Wraps
import Derived.Shelf.Strings.BuilderF
import Derived.Shelf.Strings.BuilderK
import Derived.Shelf.Utf8.RuneCount
import Derived.Shelf.Strings.Builder2Cap
import Derived.Shelf.Strconv.Atoi
import Derived.Shelf.Strconv.Itoa0
import Derived.Shelf.Strconv.Itoa1
import Derived.Shelf.LaysM
import Derived.Shelf.Strconv.Itoa2
import Derived.Shelf.Strconv.Itoa3
import Derived.Shelf.Strconv.AtoiErrFast
import Derived.Shelf.Strconv.ParseIntEmpty
import Derived.Shelf.Strconv.AtoiFail
import Derived.Shelf.Strconv.Clone
import Derived.Shelf.Strconv.SyntaxError
import Derived.Shelf.LaysC
import Derived.Shelf.Strconv.ToError
import Derived.Shelf.Strconv.AtoiErr
import Derived.Shelf.Strconv.ErrVar
import Derived.Shelf.Strconv.Lower
import Derived.Shelf.Strconv.ParseUint10
import Derived.Shelf.Strconv.ParseUint10Empty
import Derived.Shelf.Strconv.ParseUint10Any
import Derived.Shelf.Strconv.ParseInt10
import Derived.Shelf.Strconv.AtoiLong
import Derived.Shelf.Strconv.AtoiInnerAll
import Derived.Shelf.Strconv.RangeError
import Derived.Shelf.Strconv.ToErrorRange
import Derived.Shelf.Strconv.AtoiAll
import Derived.Shelf.Strconv.ParseUintEmpty
import Derived.Shelf.Strconv.ParseUint10b64
import Derived.Shelf.Strconv.ParseUint10b32
import Derived.Shelf.Strconv.ParseUint10b16
import Derived.Shelf.Strconv.ParseUint10b8
import Derived.Shelf.Strconv.ParseUint10At
import Derived.Shelf.Strconv.ParseInt10At64
import Derived.Shelf.Strconv.ParseInt10At32
import Derived.Shelf.Strconv.ParseInt10At16
import Derived.Shelf.Strconv.ParseInt10At8
import Derived.Ground.MpProg
import Derived.Shelf.Pu.ParseUintPublic10
import Derived.Shelf.Strings.Search1
import Derived.Shelf.Strings.Search2
import Derived.Shelf.Strings.Search3
import Derived.Shelf.Strings.Cut
import Derived.Shelf.Strings.Count
import Derived.Shelf.Strings.Shaped
import Derived.Shelf.Sort.Plain
import Derived.Shelf.Strings.Prefix
import Derived.Shelf.Strings.Split
import Derived.Shelf.Strings.SplitShaped
import Derived.Shelf.Unicode.Decode
import Derived.Shelf.Strings.Runes
import Derived.Shelf.Strings.RuneCount
import Derived.Shelf.Strings.AsciiSet
import Derived.Shelf.Strings.Explode
import Derived.Shelf.Bits.Mul64
import Derived.Shelf.Strings.Repeat
import Derived.Shelf.Unicode.DecodeSlow
import Derived.Shelf.Unicode.DecodeAny
import Derived.Shelf.Unicode.DecodeLast
import Derived.Shelf.Strings.BuilderCap
import Derived.Shelf.Slices.Turned
import Derived.Shelf.Slices.CompactS
import Derived.Ground.Names2Prog
import Derived.Shelf.Slices.SearchI
import Derived.Shelf.Slices.Cells
import Derived.Shelf.Slices.In.SortNone
import Derived.Test.YtgkemhgihbfmmaaGreatDoorProg
set_option linter.unusedVariables false
set_option linter.unusedSimpArgs false
namespace Go.Proofs
open Go.Shelf
def Tryz.lays162_ren : Go.Shelf.Ren := ⟨fun | 162 => 90 | 232 => 124 | 227 => 125 | 234 => 126 | 236 => 127 | 228 => 173 | 271 => 174 | 151 => 175 | 120 => 209 | 197 => 155 | 152 => 210 | 260 => 200 | 137 => 145 | 119 => 228 | 224 => 207 | 225 => 206 | 217 => 192 | 266 => 220 | n => n, fun | 9 => 9 | 4 => 4 | 3 => 3 | 5 => 5 | 117 => 153 | 116 => 152 | 0 => 0 | 124 => 156 | 21 => 21 | 105 => 181 | 46 => 148 | 119 => 231 | 139 => 234 | 138 => 233 | n => n, fun | 3 => 7 | 4 => 8 | n => n⟩
theorem Tryz.lays162 : Go.Proofs.Lays.n162 Tryz.prog Tryz.lays162_ren := {
  mixed := by kernel_rfl
  f119 := Tryz.func228.trans (congrArg some (by kernel_rfl))
  f120 := Tryz.func209.trans (congrArg some (by kernel_rfl))
  f137 := Tryz.func145.trans (congrArg some (by kernel_rfl))
  f151 := Tryz.func175.trans (congrArg some (by kernel_rfl))
  f152 := Tryz.func210.trans (congrArg some (by kernel_rfl))
  f162 := Tryz.func90.trans (congrArg some (by kernel_rfl))
  f197 := Tryz.func155.trans (congrArg some (by kernel_rfl))
  f217 := Tryz.func192.trans (congrArg some (by kernel_rfl))
  f224 := Tryz.func207.trans (congrArg some (by kernel_rfl))
  f225 := Tryz.func206.trans (congrArg some (by kernel_rfl))
  f227 := Tryz.func125.trans (congrArg some (by kernel_rfl))
  f228 := Tryz.func173.trans (congrArg some (by kernel_rfl))
  f232 := Tryz.func124.trans (congrArg some (by kernel_rfl))
  f234 := Tryz.func126.trans (congrArg some (by kernel_rfl))
  f236 := Tryz.func127.trans (congrArg some (by kernel_rfl))
  f260 := Tryz.func200.trans (congrArg some (by kernel_rfl))
  f266 := Tryz.func220.trans (congrArg some (by kernel_rfl))
  f271 := Tryz.func174.trans (congrArg some (by kernel_rfl))
  t0 := Tryz.underlying0
  a0 := Tryz.isAgg0
  z0 := Tryz.sizeOf0
  v0 := Tryz.zeroValue0
  t3 := Tryz.underlying3
  a3 := Tryz.isAgg3
  z3 := Tryz.sizeOf3
  v3 := Tryz.zeroValue3
  t4 := Tryz.underlying4
  a4 := Tryz.isAgg4
  z4 := Tryz.sizeOf4
  v4 := Tryz.zeroValue4
  t5 := Tryz.underlying5
  a5 := Tryz.isAgg5
  z5 := Tryz.sizeOf5
  v5 := Tryz.zeroValue5
  t9 := Tryz.underlying9
  a9 := Tryz.isAgg9
  z9 := Tryz.sizeOf9
  v9 := Tryz.zeroValue9
  t21 := Tryz.underlying21
  a21 := Tryz.isAgg21
  z21 := Tryz.sizeOf21
  v21 := Tryz.zeroValue21
  t46 := Tryz.underlying148
  a46 := Tryz.isAgg148
  z46 := Tryz.sizeOf148
  v46 := Tryz.zeroValue148
  t105 := Tryz.underlying181
  a105 := Tryz.isAgg181
  z105 := Tryz.sizeOf181
  v105 := Tryz.zeroValue181
  t116 := Tryz.underlying152
  a116 := Tryz.isAgg152
  z116 := Tryz.sizeOf152
  t117 := Tryz.underlying153
  a117 := Tryz.isAgg153
  z117 := Tryz.sizeOf153
  v117 := Tryz.zeroValue153
  t119 := Tryz.underlying231
  a119 := Tryz.isAgg231
  z119 := Tryz.sizeOf231
  t124 := Tryz.underlying156
  a124 := Tryz.isAgg156
  z124 := Tryz.sizeOf156
  v124 := Tryz.zeroValue156
  t138 := Tryz.underlying233
  a138 := Tryz.isAgg233
  z138 := Tryz.sizeOf233
  v138 := Tryz.zeroValue233
  t139 := Tryz.underlying234
  a139 := Tryz.isAgg234
  z139 := Tryz.sizeOf234
  v139 := Tryz.zeroValue234
  g3 := by kernel_rfl
  g4 := by kernel_rfl }
def Tryz.lays160_ren : Go.Shelf.Ren := ⟨fun | 160 => 123 | 232 => 124 | 231 => 170 | 227 => 125 | 234 => 126 | 233 => 171 | 236 => 127 | 235 => 172 | 228 => 173 | 271 => 174 | 151 => 175 | 197 => 155 | 120 => 209 | 152 => 210 | 260 => 200 | 137 => 145 | 119 => 228 | 224 => 207 | 225 => 206 | 217 => 192 | 266 => 220 | n => n, fun | 9 => 9 | 4 => 4 | 3 => 3 | 5 => 5 | 117 => 153 | 116 => 152 | 0 => 0 | 124 => 156 | 21 => 21 | 105 => 181 | 46 => 148 | 119 => 231 | 139 => 234 | 138 => 233 | n => n, fun | 3 => 7 | 4 => 8 | n => n⟩
theorem Tryz.lays160 : Go.Proofs.Lays.n160 Tryz.prog Tryz.lays160_ren := {
  mixed := by kernel_rfl
  f119 := Tryz.func228.trans (congrArg some (by kernel_rfl))
  f120 := Tryz.func209.trans (congrArg some (by kernel_rfl))
  f137 := Tryz.func145.trans (congrArg some (by kernel_rfl))
  f151 := Tryz.func175.trans (congrArg some (by kernel_rfl))
  f152 := Tryz.func210.trans (congrArg some (by kernel_rfl))
  f160 := Tryz.func123.trans (congrArg some (by kernel_rfl))
  f197 := Tryz.func155.trans (congrArg some (by kernel_rfl))
  f217 := Tryz.func192.trans (congrArg some (by kernel_rfl))
  f224 := Tryz.func207.trans (congrArg some (by kernel_rfl))
  f225 := Tryz.func206.trans (congrArg some (by kernel_rfl))
  f227 := Tryz.func125.trans (congrArg some (by kernel_rfl))
  f228 := Tryz.func173.trans (congrArg some (by kernel_rfl))
  f231 := Tryz.func170.trans (congrArg some (by kernel_rfl))
  f232 := Tryz.func124.trans (congrArg some (by kernel_rfl))
  f233 := Tryz.func171.trans (congrArg some (by kernel_rfl))
  f234 := Tryz.func126.trans (congrArg some (by kernel_rfl))
  f235 := Tryz.func172.trans (congrArg some (by kernel_rfl))
  f236 := Tryz.func127.trans (congrArg some (by kernel_rfl))
  f260 := Tryz.func200.trans (congrArg some (by kernel_rfl))
  f266 := Tryz.func220.trans (congrArg some (by kernel_rfl))
  f271 := Tryz.func174.trans (congrArg some (by kernel_rfl))
  t0 := Tryz.underlying0
  a0 := Tryz.isAgg0
  z0 := Tryz.sizeOf0
  v0 := Tryz.zeroValue0
  t3 := Tryz.underlying3
  a3 := Tryz.isAgg3
  z3 := Tryz.sizeOf3
  v3 := Tryz.zeroValue3
  t4 := Tryz.underlying4
  a4 := Tryz.isAgg4
  z4 := Tryz.sizeOf4
  v4 := Tryz.zeroValue4
  t5 := Tryz.underlying5
  a5 := Tryz.isAgg5
  z5 := Tryz.sizeOf5
  v5 := Tryz.zeroValue5
  t9 := Tryz.underlying9
  a9 := Tryz.isAgg9
  z9 := Tryz.sizeOf9
  v9 := Tryz.zeroValue9
  t21 := Tryz.underlying21
  a21 := Tryz.isAgg21
  z21 := Tryz.sizeOf21
  v21 := Tryz.zeroValue21
  t46 := Tryz.underlying148
  a46 := Tryz.isAgg148
  z46 := Tryz.sizeOf148
  v46 := Tryz.zeroValue148
  t105 := Tryz.underlying181
  a105 := Tryz.isAgg181
  z105 := Tryz.sizeOf181
  v105 := Tryz.zeroValue181
  t116 := Tryz.underlying152
  a116 := Tryz.isAgg152
  z116 := Tryz.sizeOf152
  t117 := Tryz.underlying153
  a117 := Tryz.isAgg153
  z117 := Tryz.sizeOf153
  v117 := Tryz.zeroValue153
  t119 := Tryz.underlying231
  a119 := Tryz.isAgg231
  z119 := Tryz.sizeOf231
  t124 := Tryz.underlying156
  a124 := Tryz.isAgg156
  z124 := Tryz.sizeOf156
  v124 := Tryz.zeroValue156
  t138 := Tryz.underlying233
  a138 := Tryz.isAgg233
  z138 := Tryz.sizeOf233
  v138 := Tryz.zeroValue233
  t139 := Tryz.underlying234
  a139 := Tryz.isAgg234
  z139 := Tryz.sizeOf234
  v139 := Tryz.zeroValue234
  g3 := by kernel_rfl
  g4 := by kernel_rfl }
def Tryz.laysPu14_ren : Go.Shelf.Ren := ⟨fun | 14 => 91 | 16 => 128 | 17 => 129 | 19 => 176 | 20 => 177 | 21 => 178 | 22 => 179 | 23 => 180 | 24 => 181 | 25 => 211 | 27 => 213 | 26 => 212 | 28 => 229 | 29 => 236 | 30 => 182 | 31 => 183 | 32 => 184 | 33 => 185 | 35 => 167 | 34 => 214 | 36 => 215 | 37 => 216 | 38 => 217 | 39 => 230 | 40 => 231 | n => n, fun | 9 => 9 | 3 => 3 | 22 => 75 | 24 => 117 | 25 => 118 | 4 => 4 | 34 => 196 | 5 => 5 | 36 => 148 | 37 => 162 | 0 => 0 | 39 => 198 | 21 => 21 | 44 => 222 | 47 => 208 | 50 => 240 | 48 => 238 | 2 => 2 | 52 => 202 | 55 => 204 | 59 => 225 | 60 => 192 | 20 => 20 | 61 => 226 | 65 => 245 | 66 => 246 | 67 => 168 | n => n, fun | 0 => 4 | 1 => 5 | 2 => 6 | 3 => 9 | 4 => 10 | n => n⟩
theorem Tryz.laysPu14 : Go.Proofs.LaysPu.n14 Tryz.prog Tryz.laysPu14_ren := {
  mixed := by kernel_rfl
  f14 := Tryz.func91.trans (congrArg some (by kernel_rfl))
  f16 := Tryz.func128.trans (congrArg some (by kernel_rfl))
  f17 := Tryz.func129.trans (congrArg some (by kernel_rfl))
  f19 := Tryz.func176.trans (congrArg some (by kernel_rfl))
  f20 := Tryz.func177.trans (congrArg some (by kernel_rfl))
  f21 := Tryz.func178.trans (congrArg some (by kernel_rfl))
  f22 := Tryz.func179.trans (congrArg some (by kernel_rfl))
  f23 := Tryz.func180.trans (congrArg some (by kernel_rfl))
  f24 := Tryz.func181.trans (congrArg some (by kernel_rfl))
  f25 := Tryz.func211.trans (congrArg some (by kernel_rfl))
  f26 := Tryz.func212.trans (congrArg some (by kernel_rfl))
  f27 := Tryz.func213.trans (congrArg some (by kernel_rfl))
  f28 := Tryz.func229.trans (congrArg some (by kernel_rfl))
  f29 := Tryz.func236.trans (congrArg some (by kernel_rfl))
  f30 := Tryz.func182.trans (congrArg some (by kernel_rfl))
  f31 := Tryz.func183.trans (congrArg some (by kernel_rfl))
  f32 := Tryz.func184.trans (congrArg some (by kernel_rfl))
  f33 := Tryz.func185.trans (congrArg some (by kernel_rfl))
  f34 := Tryz.func214.trans (congrArg some (by kernel_rfl))
  f35 := Tryz.func167.trans (congrArg some (by kernel_rfl))
  f36 := Tryz.func215.trans (congrArg some (by kernel_rfl))
  f37 := Tryz.func216.trans (congrArg some (by kernel_rfl))
  f38 := Tryz.func217.trans (congrArg some (by kernel_rfl))
  f39 := Tryz.func230.trans (congrArg some (by kernel_rfl))
  f40 := Tryz.func231.trans (congrArg some (by kernel_rfl))
  t0 := Tryz.underlying0
  a0 := Tryz.isAgg0
  z0 := Tryz.sizeOf0
  v0 := Tryz.zeroValue0
  i0 := by kernel_rfl
  t2 := Tryz.underlying2
  a2 := Tryz.isAgg2
  z2 := Tryz.sizeOf2
  v2 := Tryz.zeroValue2
  i2 := by kernel_rfl
  t3 := Tryz.underlying3
  a3 := Tryz.isAgg3
  z3 := Tryz.sizeOf3
  v3 := Tryz.zeroValue3
  i3 := by kernel_rfl
  t4 := Tryz.underlying4
  a4 := Tryz.isAgg4
  z4 := Tryz.sizeOf4
  v4 := Tryz.zeroValue4
  i4 := by kernel_rfl
  t5 := Tryz.underlying5
  a5 := Tryz.isAgg5
  z5 := Tryz.sizeOf5
  v5 := Tryz.zeroValue5
  i5 := by kernel_rfl
  t9 := Tryz.underlying9
  a9 := Tryz.isAgg9
  z9 := Tryz.sizeOf9
  v9 := Tryz.zeroValue9
  i9 := by kernel_rfl
  t20 := Tryz.underlying20
  a20 := Tryz.isAgg20
  z20 := Tryz.sizeOf20
  v20 := Tryz.zeroValue20
  i20 := by kernel_rfl
  t21 := Tryz.underlying21
  a21 := Tryz.isAgg21
  z21 := Tryz.sizeOf21
  v21 := Tryz.zeroValue21
  i21 := by kernel_rfl
  t22 := Tryz.underlying75
  a22 := Tryz.isAgg75
  z22 := Tryz.sizeOf75
  v22 := Tryz.zeroValue75
  i22 := by kernel_rfl
  t24 := Tryz.underlying117
  a24 := Tryz.isAgg117
  z24 := Tryz.sizeOf117
  v24 := Tryz.zeroValue117
  i24 := by kernel_rfl
  t25 := Tryz.underlying118
  a25 := Tryz.isAgg118
  z25 := Tryz.sizeOf118
  v25 := Tryz.zeroValue118
  i25 := by kernel_rfl
  t34 := Tryz.underlying196
  a34 := Tryz.isAgg196
  z34 := Tryz.sizeOf196
  v34 := Tryz.zeroValue196
  i34 := by kernel_rfl
  c34 := by kernel_rfl
  t36 := Tryz.underlying148
  a36 := Tryz.isAgg148
  z36 := Tryz.sizeOf148
  v36 := Tryz.zeroValue148
  i36 := by kernel_rfl
  t37 := Tryz.underlying162
  a37 := Tryz.isAgg162
  z37 := Tryz.sizeOf162
  v37 := Tryz.zeroValue162
  i37 := by kernel_rfl
  t39 := Tryz.underlying198
  a39 := Tryz.isAgg198
  z39 := Tryz.sizeOf198
  v39 := Tryz.zeroValue198
  i39 := by kernel_rfl
  t44 := Tryz.underlying222
  a44 := Tryz.isAgg222
  z44 := Tryz.sizeOf222
  v44 := Tryz.zeroValue222
  i44 := by kernel_rfl
  t47 := Tryz.underlying208
  a47 := Tryz.isAgg208
  z47 := Tryz.sizeOf208
  v47 := Tryz.zeroValue208
  i47 := by kernel_rfl
  t48 := Tryz.underlying238
  a48 := Tryz.isAgg238
  z48 := Tryz.sizeOf238
  v48 := Tryz.zeroValue238
  i48 := by kernel_rfl
  t50 := Tryz.underlying240
  a50 := Tryz.isAgg240
  z50 := Tryz.sizeOf240
  v50 := Tryz.zeroValue240
  i50 := by kernel_rfl
  t52 := Tryz.underlying202
  a52 := Tryz.isAgg202
  z52 := Tryz.sizeOf202
  v52 := Tryz.zeroValue202
  i52 := by kernel_rfl
  t55 := Tryz.underlying204
  a55 := Tryz.isAgg204
  z55 := Tryz.sizeOf204
  v55 := Tryz.zeroValue204
  i55 := by kernel_rfl
  t59 := Tryz.underlying225
  a59 := Tryz.isAgg225
  z59 := Tryz.sizeOf225
  v59 := Tryz.zeroValue225
  i59 := by kernel_rfl
  t60 := Tryz.underlying192
  a60 := Tryz.isAgg192
  z60 := Tryz.sizeOf192
  v60 := Tryz.zeroValue192
  i60 := by kernel_rfl
  t61 := Tryz.underlying226
  a61 := Tryz.isAgg226
  z61 := Tryz.sizeOf226
  t65 := Tryz.underlying245
  a65 := Tryz.isAgg245
  z65 := Tryz.sizeOf245
  v65 := Tryz.zeroValue245
  i65 := by kernel_rfl
  t66 := Tryz.underlying246
  a66 := Tryz.isAgg246
  z66 := Tryz.sizeOf246
  v66 := Tryz.zeroValue246
  i66 := by kernel_rfl
  t67 := Tryz.underlying168
  a67 := Tryz.isAgg168
  z67 := Tryz.sizeOf168
  v67 := Tryz.zeroValue168
  i67 := by kernel_rfl
  g0 := by kernel_rfl
  m0 := by kernel_rfl
  g1 := by kernel_rfl
  m1 := by kernel_rfl
  g2 := by kernel_rfl
  m2 := by kernel_rfl
  g3 := by kernel_rfl
  m3 := by kernel_rfl
  g4 := by kernel_rfl
  m4 := by kernel_rfl }
open Go.RowKit in
theorem Tryz.strconv_ParseUint_10_at64_ok (s : ByteArray) (hmax : s.size ≤ 9223372036854775806) (u : Nat) (h : Lib.parseUintB 64 s.data.toList = .ok u) (w : World) :
    Calls Tryz.prog 91 #[.string s, .int .i64 10, .int .i64 64] w fun e w' => e = .returned (.tuple #[.int .u64 u, .nilIface]) ∧ (w' = w ∨ w' = Lib.bytesWorld w 5 s) := Any.strconv_ParseUint_10_at64_ok Tryz.laysPu14 s hmax u h w
def Tryz.lays219_ren : Go.Shelf.Ren := ⟨fun | 219 => 169 | 217 => 192 | 225 => 206 | 224 => 207 | 267 => 208 | 266 => 220 | 314 => 227 | n => n, fun | 9 => 9 | 3 => 3 | 4 => 4 | 5 => 5 | 46 => 148 | 146 => 206 | 51 => 192 | n => n, fun | 1 => 3 | n => n⟩
theorem Tryz.lays219 : Go.Proofs.Lays.n219 Tryz.prog Tryz.lays219_ren := {
  mixed := by kernel_rfl
  f217 := Tryz.func192.trans (congrArg some (by kernel_rfl))
  f219 := Tryz.func169.trans (congrArg some (by kernel_rfl))
  f224 := Tryz.func207.trans (congrArg some (by kernel_rfl))
  f225 := Tryz.func206.trans (congrArg some (by kernel_rfl))
  f266 := Tryz.func220.trans (congrArg some (by kernel_rfl))
  f267 := Tryz.func208.trans (congrArg some (by kernel_rfl))
  f314 := Tryz.func227.trans (congrArg some (by kernel_rfl))
  t3 := Tryz.underlying3
  a3 := Tryz.isAgg3
  z3 := Tryz.sizeOf3
  v3 := Tryz.zeroValue3
  t4 := Tryz.underlying4
  a4 := Tryz.isAgg4
  z4 := Tryz.sizeOf4
  v4 := Tryz.zeroValue4
  t5 := Tryz.underlying5
  a5 := Tryz.isAgg5
  z5 := Tryz.sizeOf5
  v5 := Tryz.zeroValue5
  t9 := Tryz.underlying9
  a9 := Tryz.isAgg9
  z9 := Tryz.sizeOf9
  v9 := Tryz.zeroValue9
  t46 := Tryz.underlying148
  a46 := Tryz.isAgg148
  z46 := Tryz.sizeOf148
  v46 := Tryz.zeroValue148
  t51 := Tryz.underlying192
  a51 := Tryz.isAgg192
  z51 := Tryz.sizeOf192
  v51 := Tryz.zeroValue192
  t146 := Tryz.underlying206
  a146 := Tryz.isAgg206
  z146 := Tryz.sizeOf206
  v146 := Tryz.zeroValue206
  g1 := by kernel_rfl }
open Go.RowKit Go.Lib in
theorem Tryz.stringslite_Index_one (s : ByteArray) (c : UInt8) (w : World) :
    Calls Tryz.prog 169 #[.string s, .string ⟨#[c]⟩] w fun e w' => e = .returned (.int .i64 (Lib.indexByte s.data.toList c)) ∧ w' = w := Any.stringslite_Index_one Tryz.lays219 s c w
def Tryz.lays264_ren : Go.Shelf.Ren := ⟨fun | 264 => 95 | n => n, fun | 53 => 75 | 46 => 148 | n => n, fun | n => n⟩
theorem Tryz.lays264 : Go.Proofs.Lays.n264 Tryz.prog Tryz.lays264_ren := {
  mixed := by kernel_rfl
  f264 := Tryz.func95.trans (congrArg some (by kernel_rfl))
  t46 := Tryz.underlying148
  a46 := Tryz.isAgg148
  z46 := Tryz.sizeOf148
  v46 := Tryz.zeroValue148
  t53 := Tryz.underlying75
  a53 := Tryz.isAgg75
  z53 := Tryz.sizeOf75
  v53 := Tryz.zeroValue75 }
open Go.RowKit Go.Lib in
theorem Tryz.bits_Mul64 (x y : Nat) (hx : x < 18446744073709551616) (hy : y < 18446744073709551616) (w : World) :
    Calls Tryz.prog 95 #[.int .u64 x, .int .u64 y] w fun e w' => e = .returned (.tuple #[.int .u64 ((x * y / 18446744073709551616 : Nat) : Int), .int .u64 ((x * y % 18446744073709551616 : Nat) : Int)]) ∧ w' = w := Any.bits_Mul64 Tryz.lays264 x y hx hy w
end Go.Proofs
