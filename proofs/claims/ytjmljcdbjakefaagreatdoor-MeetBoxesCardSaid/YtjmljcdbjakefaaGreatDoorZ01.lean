/- The contracts of Go's library -/
import Derived.Test.YtjmljcdbjakefaaGreatDoorProg
import Derived.Shelf.Strings.Trim
import Derived.Shelf.Small.Utf8
import Derived.Shelf.Small.Bits
import Derived.Shelf.Small.Wraps
import Derived.Shelf.Strings.BuilderK
import Derived.Shelf.Strconv.Itoa3
import Derived.Shelf.Strconv.AtoiAll
import Derived.Shelf.Strings.Shaped
import Derived.Shelf.Strings.Runes
import Derived.Shelf.Strings.AsciiSet
import Derived.Shelf.Strings.Repeat
import Derived.Shelf.Unicode.DecodeSlow
/-
  The contracts of Go's library that this seat's functions call, laid over the seat's translation by the kit's own tools.
-/
namespace Go.Proofs
open Go.Shelf
def Tryz.lays169_ren : Go.Shelf.Ren := ⟨fun | 169 => 276 | n => n, fun | 70 => 342 | 9 => 9 | 0 => 0 | 72 => 344 | 37 => 200 | 127 => 377 | 3 => 3 | 5 => 5 | n => n, fun | n => n⟩
theorem Tryz.lays169 : Go.Proofs.Lays.n169 Tryz.prog Tryz.lays169_ren := by constructor<;>intros<;>first|kernel_rfl|decide
theorem Tryz.Builder_Extra_169 : Builder.Extra Tryz.prog Tryz.lays169_ren := by constructor<;>intros<;>first|kernel_rfl|decide|(constructor<;>intros<;>first|kernel_rfl|decide)
def Tryz.lays160_ren : Go.Shelf.Ren := ⟨fun | 160 => 270 | 232 => 294 | 231 => 293 | 227 => 295 | 234 => 297 | 233 => 296 | 236 => 299 | 235 => 298 | 228 => 314 | 271 => 317 | 151 => 316 | 197 => 315 | 120 => 327 | 152 => 326 | 260 => 325 | 137 => 330 | 119 => 331 | 224 => 311 | 225 => 310 | 217 => 309 | 266 => 323 | n => n, fun | 9 => 9 | 4 => 4 | 3 => 3 | 5 => 5 | 117 => 367 | 116 => 366 | 0 => 0 | 124 => 370 | 21 => 21 | 105 => 386 | 46 => 292 | 119 => 403 | 139 => 406 | 138 => 405 | n => n, fun | 3 => 8 | 4 => 9 | n => n⟩
theorem Tryz.lays160 : Go.Proofs.Lays.n160 Tryz.prog Tryz.lays160_ren := by constructor<;>intros<;>first|kernel_rfl|decide
def Tryz.lays125_ren : Go.Shelf.Ren := ⟨fun | 125 => 219 | 128 => 261 | 129 => 208 | n => n, fun | 46 => 292 | 3 => 3 | 51 => 290 | 53 => 243 | 4 => 4 | 5 => 5 | 9 => 9 | n => n, fun | n => n⟩
theorem Tryz.lays125 : Go.Proofs.Lays.n125 Tryz.prog Tryz.lays125_ren := by constructor<;>intros<;>first|kernel_rfl|decide
theorem Tryz.bits_Len (x : Int) (w : World) (h0 : 0 ≤ x) (h1 : x ≤ 18446744073709551615) :
    Calls Tryz.prog 219 #[.int .u64 x] w fun e w' => e = .returned (.int .i64 (Lib.bitLen x.toNat)) ∧ w' = w := Any.bits_Len Tryz.lays125 x w h0 h1
def Tryz.lays103_ren : Go.Shelf.Ren := ⟨fun | 103 => 223 | 210 => 264 | 206 => 214 | n => n, fun | 9 => 9 | 4 => 4 | 24 => 303 | 3 => 3 | n => n, fun | n => n⟩
theorem Tryz.lays103 : Go.Proofs.Lays.n103 Tryz.prog Tryz.lays103_ren := by constructor<;>intros<;>first|kernel_rfl|decide
open Go.RowKit in
theorem Tryz.strings_CutPrefix (s p : ByteArray) (w : World) :
    Calls Tryz.prog 223 #[.string s, .string p] w fun e w' => e = .returned (.tuple #[.string ⟨(Lib.trimPrefix s.data.toList p.data.toList).toArray⟩, .bool (Lib.hasPrefix s.data.toList p.data.toList)]) ∧ w' = w := Any.strings_CutPrefix Tryz.lays103 s p w
def Tryz.lays122_ren : Go.Shelf.Ren := ⟨fun | 122 => 202 | 215 => 249 | n => n, fun | 3 => 3 | 4 => 4 | n => n, fun | n => n⟩
theorem Tryz.lays122 : Go.Proofs.Lays.n122 Tryz.prog Tryz.lays122_ren := by constructor<;>intros<;>first|kernel_rfl|decide
open Go.RowKit in
theorem Tryz.cmp_Compare_int (x y : Int) (w : World) :
    Calls Tryz.prog 202 #[.int .i64 x, .int .i64 y] w fun e w' => e = .returned (.int .i64 (Lib.compareInt x y)) ∧ w' = w := Any.cmp_Compare_int Tryz.lays122 x y w
def Tryz.lays172_ren : Go.Shelf.Ren := ⟨fun | 172 => 230 | 244 => 271 | 245 => 272 | 247 => 300 | 279 => 301 | 280 => 302 | 281 => 303 | 282 => 304 | 287 => 318 | 316 => 319 | 171 => 47 | 205 => 320 | 321 => 328 | 322 => 329 | 243 => 85 | 246 => 128 | 283 => 165 | 284 => 166 | 285 => 167 | 286 => 168 | 129 => 208 | 317 => 207 | 318 => 209 | 319 => 210 | 320 => 211 | 337 => 251 | 338 => 252 | n => n, fun | 9 => 9 | 3 => 3 | 75 => 308 | 76 => 309 | 4 => 4 | 5 => 5 | 167 => 371 | 37 => 200 | 0 => 0 | 85 => 372 | 2 => 2 | 168 => 374 | 53 => 243 | 175 => 389 | 46 => 292 | 210 => 392 | 127 => 377 | 145 => 402 | 143 => 400 | 21 => 21 | 171 => 242 | 173 => 246 | 212 => 289 | 51 => 290 | 20 => 20 | 213 => 291 | 232 => 356 | 233 => 357 | 80 => 346 | n => n, fun | 15 => 6 | 16 => 7 | 17 => 1 | 18 => 3 | 19 => 4 | n => n⟩
theorem Tryz.lays172 : Go.Proofs.Lays.n172 Tryz.prog Tryz.lays172_ren := by constructor<;>intros<;>first|kernel_rfl|decide
open Go.RowKit in
theorem Tryz.strconv_Atoi (s : ByteArray) (n : Int) (hl : s.size ≤ 18) (h : Lib.atoi s.data.toList = some n) (w : World) :
    Calls Tryz.prog 230 #[.string s] w fun e w' => e = .returned (.tuple #[.int .i64 n, .nilIface]) ∧ ∃ t, w' = Lib.bytesWorld w 5 t := Any.strconv_Atoi Tryz.lays172 s n hl h w
def Tryz.laysM171_ren : Go.Shelf.Ren := ⟨fun | 171 => 47 | 243 => 85 | 246 => 128 | 283 => 165 | 284 => 166 | 285 => 167 | 286 => 168 | 129 => 208 | 317 => 207 | 318 => 209 | 319 => 210 | 320 => 211 | 337 => 251 | 338 => 252 | n => n, fun | 3 => 3 | 9 => 9 | 2 => 2 | 4 => 4 | 171 => 242 | 0 => 0 | 53 => 243 | 37 => 200 | 5 => 5 | 173 => 246 | 212 => 289 | 51 => 290 | 20 => 20 | 213 => 291 | 46 => 292 | 232 => 356 | 233 => 357 | n => n, fun | 17 => 1 | 18 => 3 | 19 => 4 | n => n⟩
theorem Tryz.laysM171 : Go.Proofs.LaysM.n171 Tryz.prog Tryz.laysM171_ren := by constructor<;>intros<;>first|kernel_rfl|decide|(constructor<;>intros<;>first|kernel_rfl|decide)
open Go.RowKit Go.Sort Go.Lib in
theorem Tryz.strconv_Itoa (n : Int) (h0 : -9223372036854775808 ≤ n) (h1 : n ≤ 9223372036854775807) (w : World) (htab : Lib.TabIs Tryz.prog w "internal/strconv.uint64pow10" .u64 Lib.pow10Tab) :
    Calls Tryz.prog 47 #[.int .i64 n] w fun e w' => e = .returned (.string ⟨(Lib.itoa n).toArray⟩) ∧ ∃ k os, w' = grow (w.drewN k) os := Any.strconv_Itoa Tryz.laysM171 n h0 h1 w htab
def Tryz.lays144_ren : Go.Shelf.Ren := ⟨fun | 144 => 200 | 143 => 242 | 219 => 282 | 217 => 309 | 225 => 310 | 224 => 311 | 267 => 312 | 266 => 323 | 314 => 324 | n => n, fun | 9 => 9 | 4 => 4 | 3 => 3 | 5 => 5 | 46 => 292 | 146 => 378 | 51 => 290 | n => n, fun | 1 => 5 | n => n⟩
theorem Tryz.lays144 : Go.Proofs.Lays.n144 Tryz.prog Tryz.lays144_ren := by constructor<;>intros<;>first|kernel_rfl|decide
open Go.RowKit Go.Lib in
theorem Tryz.strings_Contains_one (s : ByteArray) (c : UInt8) (w : World) :
    Calls Tryz.prog 200 #[.string s, .string ⟨#[c]⟩] w fun e w' => e = .returned (.bool (decide (0 ≤ Lib.indexByte s.data.toList c))) ∧ w' = w := Any.strings_Contains_one Tryz.lays144 s c w
def Tryz.lays145_ren : Go.Shelf.Ren := ⟨fun | 145 => 222 | 220 => 263 | 219 => 282 | 217 => 309 | 225 => 310 | 224 => 311 | 267 => 312 | 266 => 323 | 314 => 324 | n => n, fun | 9 => 9 | 4 => 4 | 59 => 301 | 3 => 3 | 5 => 5 | 46 => 292 | 146 => 378 | 51 => 290 | n => n, fun | 1 => 5 | n => n⟩
theorem Tryz.lays145 : Go.Proofs.Lays.n145 Tryz.prog Tryz.lays145_ren := by constructor<;>intros<;>first|kernel_rfl|decide
open Go.RowKit Go.Lib in
theorem Tryz.strings_Cut (s sep : ByteArray) (m : Int) (w : World) (hs : s.size < 4294967281) (hm : w.cell? ⟨5, 0, none⟩ = some (.int .i64 m)) :
    Calls Tryz.prog 222 #[.string s, .string sep] w fun e w' => e = .returned (.tuple #[.string ⟨(Lib.cut s.data.toList sep.data.toList).1.toArray⟩, .string ⟨(Lib.cut s.data.toList sep.data.toList).2.1.toArray⟩, .bool (Lib.cut s.data.toList sep.data.toList).2.2]) ∧ ∃ n, w' = w.drewN n := Any.strings_Cut Tryz.lays145 s sep m w hs hm
def Tryz.lays99_ren : Go.Shelf.Ren := ⟨fun | 99 => 172 | 206 => 214 | n => n, fun | 9 => 9 | 4 => 4 | 3 => 3 | n => n, fun | n => n⟩
theorem Tryz.lays99 : Go.Proofs.Lays.n99 Tryz.prog Tryz.lays99_ren := by constructor<;>intros<;>first|kernel_rfl|decide
open Go.RowKit Go.Lib in
theorem Tryz.strings_HasPrefix (s p : ByteArray) (w : World) :
    Calls Tryz.prog 172 #[.string s, .string p] w fun e w' => e = .returned (.bool (Lib.hasPrefix s.data.toList p.data.toList)) ∧ w' = w := Any.strings_HasPrefix Tryz.lays99 s p w
def Tryz.lays101_ren : Go.Shelf.Ren := ⟨fun | 101 => 184 | 208 => 227 | 206 => 214 | n => n, fun | 9 => 9 | 4 => 4 | 3 => 3 | n => n, fun | n => n⟩
theorem Tryz.lays101 : Go.Proofs.Lays.n101 Tryz.prog Tryz.lays101_ren := by constructor<;>intros<;>first|kernel_rfl|decide
open Go.RowKit Go.Lib in
theorem Tryz.strings_TrimPrefix (s p : ByteArray) (w : World) :
    Calls Tryz.prog 184 #[.string s, .string p] w fun e w' => e = .returned (.string ⟨(Lib.trimPrefix s.data.toList p.data.toList).toArray⟩) ∧ w' = w := Any.strings_TrimPrefix Tryz.lays101 s p w
def Tryz.lays105_ren : Go.Shelf.Ren := ⟨fun | 105 => 238 | 212 => 277 | 99 => 172 | 165 => 278 | 166 => 275 | 170 => 279 | 169 => 276 | 263 => 306 | 264 => 307 | 206 => 214 | 240 => 305 | 241 => 308 | 276 => 321 | 277 => 322 | n => n, fun | 9 => 9 | 3 => 3 | 4 => 4 | 20 => 20 | 0 => 0 | 46 => 292 | 109 => 348 | 5 => 5 | 72 => 344 | 76 => 309 | 51 => 290 | 146 => 378 | 53 => 243 | 148 => 380 | 70 => 342 | 37 => 200 | 75 => 308 | 127 => 377 | 164 => 394 | 80 => 346 | n => n, fun | n => n⟩
theorem Tryz.lays105 : Go.Proofs.Lays.n105 Tryz.prog Tryz.lays105_ren := by constructor<;>intros<;>first|kernel_rfl|decide
theorem Tryz.Builder_Extra_105 : Builder.Extra Tryz.prog Tryz.lays105_ren := by constructor<;>intros<;>first|kernel_rfl|decide|(constructor<;>intros<;>first|kernel_rfl|decide)
open Go.RowKit Go.Lib in
theorem Tryz.strings_Repeat (s : ByteArray) (c : Nat) (w : World) (hc : c ≤ 9223372036854775807) (hlen : s.size * c ≤ 140737488355328) :
    Calls Tryz.prog 238 #[.string s, .int .i64 c] w fun e w' => e = .returned (.string ⟨(Lib.repeatL s.data.toList c).toArray⟩) ∧ Below w.heap.size w w' := Any.strings_Repeat Tryz.lays105 Tryz.Builder_Extra_105 s c w hc hlen
end Go.Proofs
