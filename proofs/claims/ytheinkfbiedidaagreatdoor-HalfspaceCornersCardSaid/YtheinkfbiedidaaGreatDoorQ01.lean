/- The contracts of Go's library that this seat's functions call, laid over the seat's translation by the kit's own tools. -/
import Derived.Test.YtheinkfbiedidaaGreatDoorProg
import Derived.Shelf.Strings.Builder1
import Derived.Shelf.Strings.Builder2
import Derived.Shelf.Strings.Trim
import Derived.Shelf.Small.Utf8
import Derived.Shelf.Small.Bits
import Derived.Shelf.Small.Strs
import Derived.Shelf.Small.Wraps
import Derived.Shelf.Strings.BuilderF
import Derived.Shelf.Strings.BuilderK
import Derived.Shelf.Strconv.Atoi
import Derived.Shelf.Strconv.Itoa0
import Derived.Shelf.Strconv.Itoa1
import Derived.Shelf.LaysM
import Derived.Shelf.Strconv.Itoa2
import Derived.Shelf.Strconv.Itoa3
import Derived.Shelf.Strconv.AtoiErrFast
import Derived.Shelf.Strconv.ParseIntEmpty
import Derived.Shelf.Strconv.AtoiFail
import Derived.Shelf.Strconv.Clone
import Derived.Shelf.Strconv.SyntaxError
import Derived.Shelf.LaysC
import Derived.Shelf.Strconv.ToError
import Derived.Shelf.Strconv.Lower
import Derived.Shelf.Strconv.ParseUint10
import Derived.Shelf.Strconv.ParseUint10Empty
import Derived.Shelf.Strconv.ParseUint10Any
import Derived.Shelf.Strconv.ParseInt10
import Derived.Shelf.Strconv.AtoiLong
import Derived.Shelf.Strconv.AtoiInnerAll
import Derived.Shelf.Strconv.RangeError
import Derived.Shelf.Strconv.ToErrorRange
import Derived.Shelf.Strconv.AtoiAll
import Derived.Shelf.Strings.Search1
import Derived.Shelf.Strings.Search2
import Derived.Shelf.Strings.Search3
import Derived.Shelf.Strings.Cut
import Derived.Shelf.Strings.Shaped
import Derived.Shelf.Strings.Prefix
import Derived.Shelf.Strings.Runes
import Derived.Shelf.Strings.AsciiSet
import Derived.Shelf.Bits.Mul64
import Derived.Shelf.Strings.Repeat
import Derived.Shelf.Unicode.DecodeSlow
/-
  The contracts of Go's library that this seat's functions call, laid over the seat's translation by the kit's own tools.
-/
namespace Go.Proofs
open Go.Shelf
def Tryz.lays169_ren : Go.Shelf.Ren := ⟨fun | 169 => 240 | n => n, fun | 70 => 274 | 9 => 9 | 0 => 0 | 72 => 276 | 37 => 236 | 127 => 297 | 3 => 3 | 5 => 5 | n => n, fun | n => n⟩
theorem Tryz.lays169 : Go.Proofs.Lays.n169 Tryz.prog Tryz.lays169_ren := {
  mixed := by kernel_rfl
  f169 := Tryz.func240.trans (congrArg some (by kernel_rfl))
  t0 := Tryz.underlying0
  a0 := Tryz.isAgg0
  z0 := Tryz.sizeOf0
  v0 := Tryz.zeroValue0
  t3 := Tryz.underlying3
  a3 := Tryz.isAgg3
  z3 := Tryz.sizeOf3
  v3 := Tryz.zeroValue3
  t9 := Tryz.underlying9
  a9 := Tryz.isAgg9
  z9 := Tryz.sizeOf9
  v9 := Tryz.zeroValue9
  t37 := Tryz.underlying236
  a37 := Tryz.isAgg236
  z37 := Tryz.sizeOf236
  v37 := Tryz.zeroValue236
  t70 := Tryz.underlying274
  a70 := Tryz.isAgg274
  z70 := Tryz.sizeOf274
  v70 := Tryz.zeroValue274
  t72 := Tryz.underlying276
  a72 := Tryz.isAgg276
  z72 := Tryz.sizeOf276
  v72 := Tryz.zeroValue276
  t127 := Tryz.underlying297
  a127 := Tryz.isAgg297
  z127 := Tryz.sizeOf297
  v127 := Tryz.zeroValue297 }
theorem Tryz.Builder_Extra_169 : Builder.Extra Tryz.prog Tryz.lays169_ren := {
  sizeBuilder := by kernel_rfl
  liesBuilder := by kernel_rfl
  t5 := Tryz.underlying5
  a5 := Tryz.isAgg5
  z5 := Tryz.sizeOf5
  v5 := Tryz.zeroValue5
  infoByte := by kernel_rfl
  cellsByte := by kernel_rfl
  sizeByte := by kernel_rfl
  neB5 := by decide }
def Tryz.lays160_ren : Go.Shelf.Ren := ⟨fun | 160 => 257 | 232 => 278 | 231 => 277 | 227 => 279 | 234 => 281 | 233 => 280 | 236 => 283 | 235 => 282 | 228 => 297 | 271 => 300 | 151 => 299 | 197 => 298 | 120 => 308 | 152 => 307 | 260 => 306 | 137 => 311 | 119 => 312 | 224 => 265 | 225 => 264 | 217 => 263 | 266 => 289 | n => n, fun | 9 => 9 | 4 => 4 | 3 => 3 | 5 => 5 | 117 => 308 | 116 => 307 | 0 => 0 | 124 => 311 | 21 => 21 | 105 => 326 | 46 => 199 | 119 => 341 | 139 => 344 | 138 => 343 | n => n, fun | 3 => 8 | 4 => 9 | n => n⟩
theorem Tryz.lays160 : Go.Proofs.Lays.n160 Tryz.prog Tryz.lays160_ren := {
  mixed := by kernel_rfl
  f119 := Tryz.func312.trans (congrArg some (by kernel_rfl))
  f120 := Tryz.func308.trans (congrArg some (by kernel_rfl))
  f137 := Tryz.func311.trans (congrArg some (by kernel_rfl))
  f151 := Tryz.func299.trans (congrArg some (by kernel_rfl))
  f152 := Tryz.func307.trans (congrArg some (by kernel_rfl))
  f160 := Tryz.func257.trans (congrArg some (by kernel_rfl))
  f197 := Tryz.func298.trans (congrArg some (by kernel_rfl))
  f217 := Tryz.func263.trans (congrArg some (by kernel_rfl))
  f224 := Tryz.func265.trans (congrArg some (by kernel_rfl))
  f225 := Tryz.func264.trans (congrArg some (by kernel_rfl))
  f227 := Tryz.func279.trans (congrArg some (by kernel_rfl))
  f228 := Tryz.func297.trans (congrArg some (by kernel_rfl))
  f231 := Tryz.func277.trans (congrArg some (by kernel_rfl))
  f232 := Tryz.func278.trans (congrArg some (by kernel_rfl))
  f233 := Tryz.func280.trans (congrArg some (by kernel_rfl))
  f234 := Tryz.func281.trans (congrArg some (by kernel_rfl))
  f235 := Tryz.func282.trans (congrArg some (by kernel_rfl))
  f236 := Tryz.func283.trans (congrArg some (by kernel_rfl))
  f260 := Tryz.func306.trans (congrArg some (by kernel_rfl))
  f266 := Tryz.func289.trans (congrArg some (by kernel_rfl))
  f271 := Tryz.func300.trans (congrArg some (by kernel_rfl))
  t0 := Tryz.underlying0
  a0 := Tryz.isAgg0
  z0 := Tryz.sizeOf0
  v0 := Tryz.zeroValue0
  t3 := Tryz.underlying3
  a3 := Tryz.isAgg3
  z3 := Tryz.sizeOf3
  v3 := Tryz.zeroValue3
  t4 := Tryz.underlying4
  a4 := Tryz.isAgg4
  z4 := Tryz.sizeOf4
  v4 := Tryz.zeroValue4
  t5 := Tryz.underlying5
  a5 := Tryz.isAgg5
  z5 := Tryz.sizeOf5
  v5 := Tryz.zeroValue5
  t9 := Tryz.underlying9
  a9 := Tryz.isAgg9
  z9 := Tryz.sizeOf9
  v9 := Tryz.zeroValue9
  t21 := Tryz.underlying21
  a21 := Tryz.isAgg21
  z21 := Tryz.sizeOf21
  v21 := Tryz.zeroValue21
  t46 := Tryz.underlying199
  a46 := Tryz.isAgg199
  z46 := Tryz.sizeOf199
  v46 := Tryz.zeroValue199
  t105 := Tryz.underlying326
  a105 := Tryz.isAgg326
  z105 := Tryz.sizeOf326
  v105 := Tryz.zeroValue326
  t116 := Tryz.underlying307
  a116 := Tryz.isAgg307
  z116 := Tryz.sizeOf307
  t117 := Tryz.underlying308
  a117 := Tryz.isAgg308
  z117 := Tryz.sizeOf308
  v117 := Tryz.zeroValue308
  t119 := Tryz.underlying341
  a119 := Tryz.isAgg341
  z119 := Tryz.sizeOf341
  t124 := Tryz.underlying311
  a124 := Tryz.isAgg311
  z124 := Tryz.sizeOf311
  v124 := Tryz.zeroValue311
  t138 := Tryz.underlying343
  a138 := Tryz.isAgg343
  z138 := Tryz.sizeOf343
  v138 := Tryz.zeroValue343
  t139 := Tryz.underlying344
  a139 := Tryz.isAgg344
  z139 := Tryz.sizeOf344
  v139 := Tryz.zeroValue344
  g3 := by kernel_rfl
  g4 := by kernel_rfl }
def Tryz.lays125_ren : Go.Shelf.Ren := ⟨fun | 125 => 147 | 128 => 205 | 129 => 206 | n => n, fun | 46 => 199 | 3 => 3 | 51 => 247 | 53 => 249 | 4 => 4 | 5 => 5 | 9 => 9 | n => n, fun | n => n⟩
theorem Tryz.lays125 : Go.Proofs.Lays.n125 Tryz.prog Tryz.lays125_ren := {
  mixed := by kernel_rfl
  f125 := Tryz.func147.trans (congrArg some (by kernel_rfl))
  f128 := Tryz.func205.trans (congrArg some (by kernel_rfl))
  f129 := Tryz.func206.trans (congrArg some (by kernel_rfl))
  t3 := Tryz.underlying3
  a3 := Tryz.isAgg3
  z3 := Tryz.sizeOf3
  v3 := Tryz.zeroValue3
  t4 := Tryz.underlying4
  a4 := Tryz.isAgg4
  z4 := Tryz.sizeOf4
  v4 := Tryz.zeroValue4
  t5 := Tryz.underlying5
  a5 := Tryz.isAgg5
  z5 := Tryz.sizeOf5
  v5 := Tryz.zeroValue5
  t9 := Tryz.underlying9
  a9 := Tryz.isAgg9
  z9 := Tryz.sizeOf9
  v9 := Tryz.zeroValue9
  t46 := Tryz.underlying199
  a46 := Tryz.isAgg199
  z46 := Tryz.sizeOf199
  v46 := Tryz.zeroValue199
  t51 := Tryz.underlying247
  a51 := Tryz.isAgg247
  z51 := Tryz.sizeOf247
  v51 := Tryz.zeroValue247
  t53 := Tryz.underlying249
  a53 := Tryz.isAgg249
  z53 := Tryz.sizeOf249
  v53 := Tryz.zeroValue249 }
theorem Tryz.bits_Len (x : Int) (w : World) (h0 : 0 ≤ x) (h1 : x ≤ 18446744073709551615) :
    Calls Tryz.prog 147 #[.int .u64 x] w fun e w' => e = .returned (.int .i64 (Lib.bitLen x.toNat)) ∧ w' = w := Any.bits_Len Tryz.lays125 x w h0 h1
def Tryz.lays103_ren : Go.Shelf.Ren := ⟨fun | 103 => 166 | 210 => 224 | 206 => 142 | n => n, fun | 9 => 9 | 4 => 4 | 24 => 213 | 3 => 3 | n => n, fun | n => n⟩
theorem Tryz.lays103 : Go.Proofs.Lays.n103 Tryz.prog Tryz.lays103_ren := {
  mixed := by kernel_rfl
  f103 := Tryz.func166.trans (congrArg some (by kernel_rfl))
  f206 := Tryz.func142.trans (congrArg some (by kernel_rfl))
  f210 := Tryz.func224.trans (congrArg some (by kernel_rfl))
  t3 := Tryz.underlying3
  a3 := Tryz.isAgg3
  z3 := Tryz.sizeOf3
  v3 := Tryz.zeroValue3
  t4 := Tryz.underlying4
  a4 := Tryz.isAgg4
  z4 := Tryz.sizeOf4
  v4 := Tryz.zeroValue4
  t9 := Tryz.underlying9
  a9 := Tryz.isAgg9
  z9 := Tryz.sizeOf9
  v9 := Tryz.zeroValue9
  t24 := Tryz.underlying213
  a24 := Tryz.isAgg213
  z24 := Tryz.sizeOf213
  v24 := Tryz.zeroValue213 }
open Go.RowKit in
theorem Tryz.strings_CutPrefix (s p : ByteArray) (w : World) :
    Calls Tryz.prog 166 #[.string s, .string p] w fun e w' => e = .returned (.tuple #[.string ⟨(Lib.trimPrefix s.data.toList p.data.toList).toArray⟩, .bool (Lib.hasPrefix s.data.toList p.data.toList)]) ∧ w' = w := Any.strings_CutPrefix Tryz.lays103 s p w
def Tryz.lays122_ren : Go.Shelf.Ren := ⟨fun | 122 => 123 | 215 => 178 | n => n, fun | 3 => 3 | 4 => 4 | n => n, fun | n => n⟩
theorem Tryz.lays122 : Go.Proofs.Lays.n122 Tryz.prog Tryz.lays122_ren := {
  mixed := by kernel_rfl
  f122 := Tryz.func123.trans (congrArg some (by kernel_rfl))
  f215 := Tryz.func178.trans (congrArg some (by kernel_rfl))
  t3 := Tryz.underlying3
  a3 := Tryz.isAgg3
  z3 := Tryz.sizeOf3
  v3 := Tryz.zeroValue3
  t4 := Tryz.underlying4
  a4 := Tryz.isAgg4
  z4 := Tryz.sizeOf4
  v4 := Tryz.zeroValue4 }
open Go.RowKit in
theorem Tryz.cmp_Compare_int (x y : Int) (w : World) :
    Calls Tryz.prog 123 #[.int .i64 x, .int .i64 y] w fun e w' => e = .returned (.int .i64 (Lib.compareInt x y)) ∧ w' = w := Any.cmp_Compare_int Tryz.lays122 x y w
def Tryz.lays172_ren : Go.Shelf.Ren := ⟨fun | 172 => 219 | 244 => 258 | 245 => 259 | 247 => 284 | 279 => 285 | 280 => 286 | 281 => 287 | 282 => 288 | 287 => 301 | 316 => 302 | 171 => 132 | 205 => 303 | 321 => 309 | 322 => 310 | 243 => 185 | 246 => 242 | 283 => 271 | 284 => 272 | 285 => 273 | 286 => 274 | 129 => 206 | 317 => 293 | 318 => 294 | 319 => 295 | 320 => 296 | 337 => 304 | 338 => 305 | n => n, fun | 9 => 9 | 3 => 3 | 75 => 256 | 76 => 257 | 4 => 4 | 5 => 5 | 167 => 312 | 37 => 236 | 0 => 0 | 85 => 313 | 2 => 2 | 168 => 315 | 53 => 249 | 175 => 329 | 46 => 199 | 210 => 332 | 127 => 297 | 145 => 338 | 143 => 336 | 21 => 21 | 171 => 298 | 173 => 300 | 212 => 323 | 51 => 247 | 20 => 20 | 213 => 324 | 232 => 339 | 233 => 340 | 80 => 279 | n => n, fun | 15 => 4 | 16 => 5 | 17 => 3 | 18 => 6 | 19 => 7 | n => n⟩
theorem Tryz.lays172 : Go.Proofs.Lays.n172 Tryz.prog Tryz.lays172_ren := {
  mixed := by kernel_rfl
  f129 := Tryz.func206.trans (congrArg some (by kernel_rfl))
  f171 := Tryz.func132.trans (congrArg some (by kernel_rfl))
  f172 := Tryz.func219.trans (congrArg some (by kernel_rfl))
  f205 := Tryz.func303.trans (congrArg some (by kernel_rfl))
  f243 := Tryz.func185.trans (congrArg some (by kernel_rfl))
  f244 := Tryz.func258.trans (congrArg some (by kernel_rfl))
  f245 := Tryz.func259.trans (congrArg some (by kernel_rfl))
  f246 := Tryz.func242.trans (congrArg some (by kernel_rfl))
  f247 := Tryz.func284.trans (congrArg some (by kernel_rfl))
  f279 := Tryz.func285.trans (congrArg some (by kernel_rfl))
  f280 := Tryz.func286.trans (congrArg some (by kernel_rfl))
  f281 := Tryz.func287.trans (congrArg some (by kernel_rfl))
  f282 := Tryz.func288.trans (congrArg some (by kernel_rfl))
  f283 := Tryz.func271.trans (congrArg some (by kernel_rfl))
  f284 := Tryz.func272.trans (congrArg some (by kernel_rfl))
  f285 := Tryz.func273.trans (congrArg some (by kernel_rfl))
  f286 := Tryz.func274.trans (congrArg some (by kernel_rfl))
  f287 := Tryz.func301.trans (congrArg some (by kernel_rfl))
  f316 := Tryz.func302.trans (congrArg some (by kernel_rfl))
  f317 := Tryz.func293.trans (congrArg some (by kernel_rfl))
  f318 := Tryz.func294.trans (congrArg some (by kernel_rfl))
  f319 := Tryz.func295.trans (congrArg some (by kernel_rfl))
  f320 := Tryz.func296.trans (congrArg some (by kernel_rfl))
  f321 := Tryz.func309.trans (congrArg some (by kernel_rfl))
  f322 := Tryz.func310.trans (congrArg some (by kernel_rfl))
  f337 := Tryz.func304.trans (congrArg some (by kernel_rfl))
  f338 := Tryz.func305.trans (congrArg some (by kernel_rfl))
  t0 := Tryz.underlying0
  a0 := Tryz.isAgg0
  z0 := Tryz.sizeOf0
  v0 := Tryz.zeroValue0
  t2 := Tryz.underlying2
  a2 := Tryz.isAgg2
  z2 := Tryz.sizeOf2
  v2 := Tryz.zeroValue2
  t3 := Tryz.underlying3
  a3 := Tryz.isAgg3
  z3 := Tryz.sizeOf3
  v3 := Tryz.zeroValue3
  t4 := Tryz.underlying4
  a4 := Tryz.isAgg4
  z4 := Tryz.sizeOf4
  v4 := Tryz.zeroValue4
  t5 := Tryz.underlying5
  a5 := Tryz.isAgg5
  z5 := Tryz.sizeOf5
  v5 := Tryz.zeroValue5
  t9 := Tryz.underlying9
  a9 := Tryz.isAgg9
  z9 := Tryz.sizeOf9
  v9 := Tryz.zeroValue9
  t20 := Tryz.underlying20
  a20 := Tryz.isAgg20
  z20 := Tryz.sizeOf20
  v20 := Tryz.zeroValue20
  t21 := Tryz.underlying21
  a21 := Tryz.isAgg21
  z21 := Tryz.sizeOf21
  v21 := Tryz.zeroValue21
  t37 := Tryz.underlying236
  a37 := Tryz.isAgg236
  z37 := Tryz.sizeOf236
  v37 := Tryz.zeroValue236
  t46 := Tryz.underlying199
  a46 := Tryz.isAgg199
  z46 := Tryz.sizeOf199
  v46 := Tryz.zeroValue199
  t51 := Tryz.underlying247
  a51 := Tryz.isAgg247
  z51 := Tryz.sizeOf247
  v51 := Tryz.zeroValue247
  t53 := Tryz.underlying249
  a53 := Tryz.isAgg249
  z53 := Tryz.sizeOf249
  v53 := Tryz.zeroValue249
  t75 := Tryz.underlying256
  a75 := Tryz.isAgg256
  z75 := Tryz.sizeOf256
  v75 := Tryz.zeroValue256
  t76 := Tryz.underlying257
  a76 := Tryz.isAgg257
  z76 := Tryz.sizeOf257
  v76 := Tryz.zeroValue257
  t85 := Tryz.underlying313
  a85 := Tryz.isAgg313
  z85 := Tryz.sizeOf313
  v85 := Tryz.zeroValue313
  t127 := Tryz.underlying297
  a127 := Tryz.isAgg297
  z127 := Tryz.sizeOf297
  v127 := Tryz.zeroValue297
  t143 := Tryz.underlying336
  a143 := Tryz.isAgg336
  z143 := Tryz.sizeOf336
  v143 := Tryz.zeroValue336
  t145 := Tryz.underlying338
  a145 := Tryz.isAgg338
  z145 := Tryz.sizeOf338
  v145 := Tryz.zeroValue338
  t167 := Tryz.underlying312
  a167 := Tryz.isAgg312
  z167 := Tryz.sizeOf312
  v167 := Tryz.zeroValue312
  t168 := Tryz.underlying315
  a168 := Tryz.isAgg315
  z168 := Tryz.sizeOf315
  v168 := Tryz.zeroValue315
  t171 := Tryz.underlying298
  a171 := Tryz.isAgg298
  z171 := Tryz.sizeOf298
  v171 := Tryz.zeroValue298
  t173 := Tryz.underlying300
  a173 := Tryz.isAgg300
  z173 := Tryz.sizeOf300
  v173 := Tryz.zeroValue300
  t175 := Tryz.underlying329
  a175 := Tryz.isAgg329
  z175 := Tryz.sizeOf329
  v175 := Tryz.zeroValue329
  t210 := Tryz.underlying332
  a210 := Tryz.isAgg332
  z210 := Tryz.sizeOf332
  v210 := Tryz.zeroValue332
  t212 := Tryz.underlying323
  a212 := Tryz.isAgg323
  z212 := Tryz.sizeOf323
  v212 := Tryz.zeroValue323
  t213 := Tryz.underlying324
  a213 := Tryz.isAgg324
  z213 := Tryz.sizeOf324
  t232 := Tryz.underlying339
  a232 := Tryz.isAgg339
  z232 := Tryz.sizeOf339
  v232 := Tryz.zeroValue339
  t233 := Tryz.underlying340
  a233 := Tryz.isAgg340
  z233 := Tryz.sizeOf340
  v233 := Tryz.zeroValue340
  g15 := by kernel_rfl
  g16 := by kernel_rfl
  g17 := by kernel_rfl
  g18 := by kernel_rfl
  g19 := by kernel_rfl }
open Go.RowKit in
theorem Tryz.strconv_Atoi (s : ByteArray) (n : Int) (hl : s.size ≤ 18) (h : Lib.atoi s.data.toList = some n) (w : World) :
    Calls Tryz.prog 219 #[.string s] w fun e w' => e = .returned (.tuple #[.int .i64 n, .nilIface]) ∧ ∃ t, w' = Lib.bytesWorld w 5 t := Any.strconv_Atoi Tryz.lays172 s n hl h w
def Tryz.laysM171_ren : Go.Shelf.Ren := ⟨fun | 171 => 132 | 243 => 185 | 246 => 242 | 283 => 271 | 284 => 272 | 285 => 273 | 286 => 274 | 129 => 206 | 317 => 293 | 318 => 294 | 319 => 295 | 320 => 296 | 337 => 304 | 338 => 305 | n => n, fun | 3 => 3 | 9 => 9 | 2 => 2 | 4 => 4 | 171 => 298 | 0 => 0 | 53 => 249 | 37 => 236 | 5 => 5 | 173 => 300 | 212 => 323 | 51 => 247 | 20 => 20 | 213 => 324 | 46 => 199 | 232 => 339 | 233 => 340 | n => n, fun | 17 => 3 | 18 => 6 | 19 => 7 | n => n⟩
theorem Tryz.laysM171 : Go.Proofs.LaysM.n171 Tryz.prog Tryz.laysM171_ren := {
  mixed := by kernel_rfl
  f129 := Tryz.func206.trans (congrArg some (by kernel_rfl))
  f171 := Tryz.func132.trans (congrArg some (by kernel_rfl))
  f243 := Tryz.func185.trans (congrArg some (by kernel_rfl))
  f246 := Tryz.func242.trans (congrArg some (by kernel_rfl))
  f283 := Tryz.func271.trans (congrArg some (by kernel_rfl))
  f284 := Tryz.func272.trans (congrArg some (by kernel_rfl))
  f285 := Tryz.func273.trans (congrArg some (by kernel_rfl))
  f286 := Tryz.func274.trans (congrArg some (by kernel_rfl))
  f317 := Tryz.func293.trans (congrArg some (by kernel_rfl))
  f318 := Tryz.func294.trans (congrArg some (by kernel_rfl))
  f319 := Tryz.func295.trans (congrArg some (by kernel_rfl))
  f320 := Tryz.func296.trans (congrArg some (by kernel_rfl))
  f337 := Tryz.func304.trans (congrArg some (by kernel_rfl))
  f338 := Tryz.func305.trans (congrArg some (by kernel_rfl))
  t0 := Tryz.underlying0
  a0 := Tryz.isAgg0
  z0 := Tryz.sizeOf0
  v0 := Tryz.zeroValue0
  t2 := Tryz.underlying2
  a2 := Tryz.isAgg2
  z2 := Tryz.sizeOf2
  v2 := Tryz.zeroValue2
  t3 := Tryz.underlying3
  a3 := Tryz.isAgg3
  z3 := Tryz.sizeOf3
  v3 := Tryz.zeroValue3
  t4 := Tryz.underlying4
  a4 := Tryz.isAgg4
  z4 := Tryz.sizeOf4
  v4 := Tryz.zeroValue4
  t5 := Tryz.underlying5
  a5 := Tryz.isAgg5
  z5 := Tryz.sizeOf5
  v5 := Tryz.zeroValue5
  t9 := Tryz.underlying9
  a9 := Tryz.isAgg9
  z9 := Tryz.sizeOf9
  v9 := Tryz.zeroValue9
  t20 := Tryz.underlying20
  a20 := Tryz.isAgg20
  z20 := Tryz.sizeOf20
  v20 := Tryz.zeroValue20
  t37 := Tryz.underlying236
  a37 := Tryz.isAgg236
  z37 := Tryz.sizeOf236
  v37 := Tryz.zeroValue236
  t46 := Tryz.underlying199
  a46 := Tryz.isAgg199
  z46 := Tryz.sizeOf199
  v46 := Tryz.zeroValue199
  t51 := Tryz.underlying247
  a51 := Tryz.isAgg247
  z51 := Tryz.sizeOf247
  v51 := Tryz.zeroValue247
  t53 := Tryz.underlying249
  a53 := Tryz.isAgg249
  z53 := Tryz.sizeOf249
  v53 := Tryz.zeroValue249
  t171 := Tryz.underlying298
  a171 := Tryz.isAgg298
  z171 := Tryz.sizeOf298
  v171 := Tryz.zeroValue298
  t173 := Tryz.underlying300
  a173 := Tryz.isAgg300
  z173 := Tryz.sizeOf300
  v173 := Tryz.zeroValue300
  t212 := Tryz.underlying323
  a212 := Tryz.isAgg323
  z212 := Tryz.sizeOf323
  v212 := Tryz.zeroValue323
  t213 := Tryz.underlying324
  a213 := Tryz.isAgg324
  z213 := Tryz.sizeOf324
  t232 := Tryz.underlying339
  a232 := Tryz.isAgg339
  z232 := Tryz.sizeOf339
  v232 := Tryz.zeroValue339
  t233 := Tryz.underlying340
  a233 := Tryz.isAgg340
  z233 := Tryz.sizeOf340
  v233 := Tryz.zeroValue340
  g17 := by kernel_rfl
  g18 := by kernel_rfl
  g19 := by kernel_rfl
  i0 := by kernel_rfl
  i2 := by kernel_rfl
  i3 := by kernel_rfl
  i4 := by kernel_rfl
  i5 := by kernel_rfl
  i9 := by kernel_rfl
  i20 := by kernel_rfl
  i37 := by kernel_rfl
  i46 := by kernel_rfl
  i51 := by kernel_rfl
  i53 := by kernel_rfl
  i171 := by kernel_rfl
  i173 := by kernel_rfl
  i212 := by kernel_rfl
  i232 := by kernel_rfl
  i233 := by kernel_rfl
  m17 := by kernel_rfl
  m18 := by kernel_rfl
  m19 := by kernel_rfl }
open Go.RowKit Go.Sort Go.Lib in
theorem Tryz.strconv_Itoa (n : Int) (h0 : -9223372036854775808 ≤ n) (h1 : n ≤ 9223372036854775807) (w : World) (htab : Lib.TabIs Tryz.prog w "internal/strconv.uint64pow10" .u64 Lib.pow10Tab) :
    Calls Tryz.prog 132 #[.int .i64 n] w fun e w' => e = .returned (.string ⟨(Lib.itoa n).toArray⟩) ∧ ∃ k os, w' = grow (w.drewN k) os := Any.strconv_Itoa Tryz.laysM171 n h0 h1 w htab
def Tryz.lays144_ren : Go.Shelf.Ren := ⟨fun | 144 => 121 | 143 => 171 | 219 => 231 | 217 => 263 | 225 => 264 | 224 => 265 | 267 => 266 | 266 => 289 | 314 => 290 | n => n, fun | 9 => 9 | 4 => 4 | 3 => 3 | 5 => 5 | 46 => 199 | 146 => 293 | 51 => 247 | n => n, fun | 1 => 2 | n => n⟩
theorem Tryz.lays144 : Go.Proofs.Lays.n144 Tryz.prog Tryz.lays144_ren := {
  mixed := by kernel_rfl
  f143 := Tryz.func171.trans (congrArg some (by kernel_rfl))
  f144 := Tryz.func121.trans (congrArg some (by kernel_rfl))
  f217 := Tryz.func263.trans (congrArg some (by kernel_rfl))
  f219 := Tryz.func231.trans (congrArg some (by kernel_rfl))
  f224 := Tryz.func265.trans (congrArg some (by kernel_rfl))
  f225 := Tryz.func264.trans (congrArg some (by kernel_rfl))
  f266 := Tryz.func289.trans (congrArg some (by kernel_rfl))
  f267 := Tryz.func266.trans (congrArg some (by kernel_rfl))
  f314 := Tryz.func290.trans (congrArg some (by kernel_rfl))
  t3 := Tryz.underlying3
  a3 := Tryz.isAgg3
  z3 := Tryz.sizeOf3
  v3 := Tryz.zeroValue3
  t4 := Tryz.underlying4
  a4 := Tryz.isAgg4
  z4 := Tryz.sizeOf4
  v4 := Tryz.zeroValue4
  t5 := Tryz.underlying5
  a5 := Tryz.isAgg5
  z5 := Tryz.sizeOf5
  v5 := Tryz.zeroValue5
  t9 := Tryz.underlying9
  a9 := Tryz.isAgg9
  z9 := Tryz.sizeOf9
  v9 := Tryz.zeroValue9
  t46 := Tryz.underlying199
  a46 := Tryz.isAgg199
  z46 := Tryz.sizeOf199
  v46 := Tryz.zeroValue199
  t51 := Tryz.underlying247
  a51 := Tryz.isAgg247
  z51 := Tryz.sizeOf247
  v51 := Tryz.zeroValue247
  t146 := Tryz.underlying293
  a146 := Tryz.isAgg293
  z146 := Tryz.sizeOf293
  v146 := Tryz.zeroValue293
  g1 := by kernel_rfl }
open Go.RowKit Go.Lib in
theorem Tryz.strings_Contains_one (s : ByteArray) (c : UInt8) (w : World) :
    Calls Tryz.prog 121 #[.string s, .string ⟨#[c]⟩] w fun e w' => e = .returned (.bool (decide (0 ≤ Lib.indexByte s.data.toList c))) ∧ w' = w := Any.strings_Contains_one Tryz.lays144 s c w
def Tryz.lays145_ren : Go.Shelf.Ren := ⟨fun | 145 => 215 | 220 => 256 | 219 => 231 | 217 => 263 | 225 => 264 | 224 => 265 | 267 => 266 | 266 => 289 | 314 => 290 | n => n, fun | 9 => 9 | 4 => 4 | 59 => 253 | 3 => 3 | 5 => 5 | 46 => 199 | 146 => 293 | 51 => 247 | n => n, fun | 1 => 2 | n => n⟩
theorem Tryz.lays145 : Go.Proofs.Lays.n145 Tryz.prog Tryz.lays145_ren := {
  mixed := by kernel_rfl
  f145 := Tryz.func215.trans (congrArg some (by kernel_rfl))
  f217 := Tryz.func263.trans (congrArg some (by kernel_rfl))
  f219 := Tryz.func231.trans (congrArg some (by kernel_rfl))
  f220 := Tryz.func256.trans (congrArg some (by kernel_rfl))
  f224 := Tryz.func265.trans (congrArg some (by kernel_rfl))
  f225 := Tryz.func264.trans (congrArg some (by kernel_rfl))
  f266 := Tryz.func289.trans (congrArg some (by kernel_rfl))
  f267 := Tryz.func266.trans (congrArg some (by kernel_rfl))
  f314 := Tryz.func290.trans (congrArg some (by kernel_rfl))
  t3 := Tryz.underlying3
  a3 := Tryz.isAgg3
  z3 := Tryz.sizeOf3
  v3 := Tryz.zeroValue3
  t4 := Tryz.underlying4
  a4 := Tryz.isAgg4
  z4 := Tryz.sizeOf4
  v4 := Tryz.zeroValue4
  t5 := Tryz.underlying5
  a5 := Tryz.isAgg5
  z5 := Tryz.sizeOf5
  v5 := Tryz.zeroValue5
  t9 := Tryz.underlying9
  a9 := Tryz.isAgg9
  z9 := Tryz.sizeOf9
  v9 := Tryz.zeroValue9
  t46 := Tryz.underlying199
  a46 := Tryz.isAgg199
  z46 := Tryz.sizeOf199
  v46 := Tryz.zeroValue199
  t51 := Tryz.underlying247
  a51 := Tryz.isAgg247
  z51 := Tryz.sizeOf247
  v51 := Tryz.zeroValue247
  t59 := Tryz.underlying253
  a59 := Tryz.isAgg253
  z59 := Tryz.sizeOf253
  v59 := Tryz.zeroValue253
  t146 := Tryz.underlying293
  a146 := Tryz.isAgg293
  z146 := Tryz.sizeOf293
  v146 := Tryz.zeroValue293
  g1 := by kernel_rfl }
open Go.RowKit Go.Lib in
theorem Tryz.strings_Cut (s sep : ByteArray) (m : Int) (w : World) (hs : s.size < 4294967281) (hm : w.cell? ⟨2, 0, none⟩ = some (.int .i64 m)) :
    Calls Tryz.prog 215 #[.string s, .string sep] w fun e w' => e = .returned (.tuple #[.string ⟨(Lib.cut s.data.toList sep.data.toList).1.toArray⟩, .string ⟨(Lib.cut s.data.toList sep.data.toList).2.1.toArray⟩, .bool (Lib.cut s.data.toList sep.data.toList).2.2]) ∧ ∃ n, w' = w.drewN n := Any.strings_Cut Tryz.lays145 s sep m w hs hm
def Tryz.lays99_ren : Go.Shelf.Ren := ⟨fun | 99 => 96 | 206 => 142 | n => n, fun | 9 => 9 | 4 => 4 | 3 => 3 | n => n, fun | n => n⟩
theorem Tryz.lays99 : Go.Proofs.Lays.n99 Tryz.prog Tryz.lays99_ren := {
  mixed := by kernel_rfl
  f99 := Tryz.func96.trans (congrArg some (by kernel_rfl))
  f206 := Tryz.func142.trans (congrArg some (by kernel_rfl))
  t3 := Tryz.underlying3
  a3 := Tryz.isAgg3
  z3 := Tryz.sizeOf3
  v3 := Tryz.zeroValue3
  t4 := Tryz.underlying4
  a4 := Tryz.isAgg4
  z4 := Tryz.sizeOf4
  v4 := Tryz.zeroValue4
  t9 := Tryz.underlying9
  a9 := Tryz.isAgg9
  z9 := Tryz.sizeOf9
  v9 := Tryz.zeroValue9 }
open Go.RowKit Go.Lib in
theorem Tryz.strings_HasPrefix (s p : ByteArray) (w : World) :
    Calls Tryz.prog 96 #[.string s, .string p] w fun e w' => e = .returned (.bool (Lib.hasPrefix s.data.toList p.data.toList)) ∧ w' = w := Any.strings_HasPrefix Tryz.lays99 s p w
def Tryz.lays101_ren : Go.Shelf.Ren := ⟨fun | 101 => 160 | 208 => 217 | 206 => 142 | n => n, fun | 9 => 9 | 4 => 4 | 3 => 3 | n => n, fun | n => n⟩
theorem Tryz.lays101 : Go.Proofs.Lays.n101 Tryz.prog Tryz.lays101_ren := {
  mixed := by kernel_rfl
  f101 := Tryz.func160.trans (congrArg some (by kernel_rfl))
  f206 := Tryz.func142.trans (congrArg some (by kernel_rfl))
  f208 := Tryz.func217.trans (congrArg some (by kernel_rfl))
  t3 := Tryz.underlying3
  a3 := Tryz.isAgg3
  z3 := Tryz.sizeOf3
  v3 := Tryz.zeroValue3
  t4 := Tryz.underlying4
  a4 := Tryz.isAgg4
  z4 := Tryz.sizeOf4
  v4 := Tryz.zeroValue4
  t9 := Tryz.underlying9
  a9 := Tryz.isAgg9
  z9 := Tryz.sizeOf9
  v9 := Tryz.zeroValue9 }
open Go.RowKit Go.Lib in
theorem Tryz.strings_TrimPrefix (s p : ByteArray) (w : World) :
    Calls Tryz.prog 160 #[.string s, .string p] w fun e w' => e = .returned (.string ⟨(Lib.trimPrefix s.data.toList p.data.toList).toArray⟩) ∧ w' = w := Any.strings_TrimPrefix Tryz.lays101 s p w
def Tryz.lays105_ren : Go.Shelf.Ren := ⟨fun | 105 => 181 | 212 => 236 | 99 => 96 | 165 => 237 | 166 => 238 | 170 => 239 | 169 => 240 | 263 => 267 | 264 => 268 | 206 => 142 | 240 => 269 | 241 => 270 | 276 => 291 | 277 => 292 | n => n, fun | 9 => 9 | 3 => 3 | 4 => 4 | 20 => 20 | 0 => 0 | 46 => 199 | 109 => 272 | 5 => 5 | 72 => 276 | 76 => 257 | 51 => 247 | 146 => 293 | 53 => 249 | 148 => 295 | 70 => 274 | 37 => 236 | 75 => 256 | 127 => 297 | 164 => 319 | 80 => 279 | n => n, fun | n => n⟩
theorem Tryz.lays105 : Go.Proofs.Lays.n105 Tryz.prog Tryz.lays105_ren := {
  mixed := by kernel_rfl
  f99 := Tryz.func96.trans (congrArg some (by kernel_rfl))
  f105 := Tryz.func181.trans (congrArg some (by kernel_rfl))
  f165 := Tryz.func237.trans (congrArg some (by kernel_rfl))
  f166 := Tryz.func238.trans (congrArg some (by kernel_rfl))
  f169 := Tryz.func240.trans (congrArg some (by kernel_rfl))
  f170 := Tryz.func239.trans (congrArg some (by kernel_rfl))
  f206 := Tryz.func142.trans (congrArg some (by kernel_rfl))
  f212 := Tryz.func236.trans (congrArg some (by kernel_rfl))
  f240 := Tryz.func269.trans (congrArg some (by kernel_rfl))
  f241 := Tryz.func270.trans (congrArg some (by kernel_rfl))
  f263 := Tryz.func267.trans (congrArg some (by kernel_rfl))
  f264 := Tryz.func268.trans (congrArg some (by kernel_rfl))
  f276 := Tryz.func291.trans (congrArg some (by kernel_rfl))
  f277 := Tryz.func292.trans (congrArg some (by kernel_rfl))
  t0 := Tryz.underlying0
  a0 := Tryz.isAgg0
  z0 := Tryz.sizeOf0
  v0 := Tryz.zeroValue0
  t3 := Tryz.underlying3
  a3 := Tryz.isAgg3
  z3 := Tryz.sizeOf3
  v3 := Tryz.zeroValue3
  t4 := Tryz.underlying4
  a4 := Tryz.isAgg4
  z4 := Tryz.sizeOf4
  v4 := Tryz.zeroValue4
  t5 := Tryz.underlying5
  a5 := Tryz.isAgg5
  z5 := Tryz.sizeOf5
  v5 := Tryz.zeroValue5
  t9 := Tryz.underlying9
  a9 := Tryz.isAgg9
  z9 := Tryz.sizeOf9
  v9 := Tryz.zeroValue9
  t20 := Tryz.underlying20
  a20 := Tryz.isAgg20
  z20 := Tryz.sizeOf20
  v20 := Tryz.zeroValue20
  t37 := Tryz.underlying236
  a37 := Tryz.isAgg236
  z37 := Tryz.sizeOf236
  v37 := Tryz.zeroValue236
  t46 := Tryz.underlying199
  a46 := Tryz.isAgg199
  z46 := Tryz.sizeOf199
  v46 := Tryz.zeroValue199
  t51 := Tryz.underlying247
  a51 := Tryz.isAgg247
  z51 := Tryz.sizeOf247
  v51 := Tryz.zeroValue247
  t53 := Tryz.underlying249
  a53 := Tryz.isAgg249
  z53 := Tryz.sizeOf249
  v53 := Tryz.zeroValue249
  t70 := Tryz.underlying274
  a70 := Tryz.isAgg274
  z70 := Tryz.sizeOf274
  v70 := Tryz.zeroValue274
  t72 := Tryz.underlying276
  a72 := Tryz.isAgg276
  z72 := Tryz.sizeOf276
  v72 := Tryz.zeroValue276
  t75 := Tryz.underlying256
  a75 := Tryz.isAgg256
  z75 := Tryz.sizeOf256
  v75 := Tryz.zeroValue256
  t76 := Tryz.underlying257
  a76 := Tryz.isAgg257
  z76 := Tryz.sizeOf257
  v76 := Tryz.zeroValue257
  t109 := Tryz.underlying272
  a109 := Tryz.isAgg272
  z109 := Tryz.sizeOf272
  v109 := Tryz.zeroValue272
  t127 := Tryz.underlying297
  a127 := Tryz.isAgg297
  z127 := Tryz.sizeOf297
  v127 := Tryz.zeroValue297
  t146 := Tryz.underlying293
  a146 := Tryz.isAgg293
  z146 := Tryz.sizeOf293
  v146 := Tryz.zeroValue293
  t148 := Tryz.underlying295
  a148 := Tryz.isAgg295
  z148 := Tryz.sizeOf295
  v148 := Tryz.zeroValue295
  t164 := Tryz.underlying319
  a164 := Tryz.isAgg319
  z164 := Tryz.sizeOf319
  v164 := Tryz.zeroValue319 }
theorem Tryz.Builder_Extra_105 : Builder.Extra Tryz.prog Tryz.lays105_ren := {
  sizeBuilder := by kernel_rfl
  liesBuilder := by kernel_rfl
  t5 := Tryz.underlying5
  a5 := Tryz.isAgg5
  z5 := Tryz.sizeOf5
  v5 := Tryz.zeroValue5
  infoByte := by kernel_rfl
  cellsByte := by kernel_rfl
  sizeByte := by kernel_rfl
  neB5 := by decide }
open Go.RowKit Go.Lib in
theorem Tryz.strings_Repeat (s : ByteArray) (c : Nat) (w : World) (hc : c ≤ 9223372036854775807) (hlen : s.size * c ≤ 140737488355328) :
    Calls Tryz.prog 181 #[.string s, .int .i64 c] w fun e w' => e = .returned (.string ⟨(Lib.repeatL s.data.toList c).toArray⟩) ∧ Below w.heap.size w w' := Any.strings_Repeat Tryz.lays105 Tryz.Builder_Extra_105 s c w hc hlen
end Go.Proofs
