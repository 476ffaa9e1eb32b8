/- The contracts of Go's library that this seat's functions call, laid over the seat's translation by the kit's own tools. -/
import Derived.Test.YtmeekcnlacckfaaGreatDoorProg
import Derived.Shelf.Strings.Trim
import Derived.Shelf.Small.Utf8
import Derived.Shelf.Small.Bits
import Derived.Shelf.Small.Wraps
import Derived.Shelf.Strings.BuilderK
import Derived.Shelf.Strconv.Itoa3
import Derived.Shelf.Strconv.AtoiAll
import Derived.Shelf.Strings.Shaped
import Derived.Shelf.Strings.Runes
import Derived.Shelf.Strings.AsciiSet
import Derived.Shelf.Strings.Repeat
import Derived.Shelf.Unicode.DecodeSlow
/-
  The contracts of Go's library that this seat's functions call, laid over the seat's translation by the kit's own tools.
-/
namespace Go.Proofs
open Go.Shelf
def Tryz.lays169_ren : Go.Shelf.Ren := ⟨fun | 169 => 250 | n => n, fun | 70 => 277 | 9 => 9 | 0 => 0 | 72 => 279 | 37 => 273 | 127 => 333 | 3 => 3 | 5 => 5 | n => n, fun | n => n⟩
theorem Tryz.lays169 : Go.Proofs.Lays.n169 Tryz.prog Tryz.lays169_ren := by constructor<;>intros<;>first|kernel_rfl|decide
theorem Tryz.Builder_Extra_169 : Builder.Extra Tryz.prog Tryz.lays169_ren := by constructor<;>intros<;>first|kernel_rfl|decide|(constructor<;>intros<;>first|kernel_rfl|decide)
def Tryz.lays160_ren : Go.Shelf.Ren := ⟨fun | 160 => 242 | 232 => 296 | 231 => 295 | 227 => 297 | 234 => 299 | 233 => 298 | 236 => 301 | 235 => 300 | 228 => 335 | 271 => 338 | 151 => 337 | 197 => 336 | 120 => 362 | 152 => 361 | 260 => 360 | 137 => 371 | 119 => 372 | 224 => 352 | 225 => 351 | 217 => 350 | 266 => 369 | n => n, fun | 9 => 9 | 4 => 4 | 3 => 3 | 5 => 5 | 117 => 323 | 116 => 322 | 0 => 0 | 124 => 326 | 21 => 21 | 105 => 353 | 46 => 177 | 119 => 378 | 139 => 381 | 138 => 380 | n => n, fun | 3 => 8 | 4 => 9 | n => n⟩
theorem Tryz.lays160 : Go.Proofs.Lays.n160 Tryz.prog Tryz.lays160_ren := by constructor<;>intros<;>first|kernel_rfl|decide
def Tryz.lays125_ren : Go.Shelf.Ren := ⟨fun | 125 => 126 | 128 => 202 | 129 => 203 | n => n, fun | 46 => 177 | 3 => 3 | 51 => 255 | 53 => 257 | 4 => 4 | 5 => 5 | 9 => 9 | n => n, fun | n => n⟩
theorem Tryz.lays125 : Go.Proofs.Lays.n125 Tryz.prog Tryz.lays125_ren := by constructor<;>intros<;>first|kernel_rfl|decide
theorem Tryz.bits_Len (x : Int) (w : World) (h0 : 0 ≤ x) (h1 : x ≤ 18446744073709551615) :
    Calls Tryz.prog 126 #[.int .u64 x] w fun e w' => e = .returned (.int .i64 (Lib.bitLen x.toNat)) ∧ w' = w := Any.bits_Len Tryz.lays125 x w h0 h1
def Tryz.lays103_ren : Go.Shelf.Ren := ⟨fun | 103 => 175 | 210 => 245 | 206 => 119 | n => n, fun | 9 => 9 | 4 => 4 | 24 => 222 | 3 => 3 | n => n, fun | n => n⟩
theorem Tryz.lays103 : Go.Proofs.Lays.n103 Tryz.prog Tryz.lays103_ren := by constructor<;>intros<;>first|kernel_rfl|decide
open Go.RowKit in
theorem Tryz.strings_CutPrefix (s p : ByteArray) (w : World) :
    Calls Tryz.prog 175 #[.string s, .string p] w fun e w' => e = .returned (.tuple #[.string ⟨(Lib.trimPrefix s.data.toList p.data.toList).toArray⟩, .bool (Lib.hasPrefix s.data.toList p.data.toList)]) ∧ w' = w := Any.strings_CutPrefix Tryz.lays103 s p w
def Tryz.lays122_ren : Go.Shelf.Ren := ⟨fun | 122 => 80 | 215 => 143 | n => n, fun | 3 => 3 | 4 => 4 | n => n, fun | n => n⟩
theorem Tryz.lays122 : Go.Proofs.Lays.n122 Tryz.prog Tryz.lays122_ren := by constructor<;>intros<;>first|kernel_rfl|decide
open Go.RowKit in
theorem Tryz.cmp_Compare_int (x y : Int) (w : World) :
    Calls Tryz.prog 80 #[.int .i64 x, .int .i64 y] w fun e w' => e = .returned (.int .i64 (Lib.compareInt x y)) ∧ w' = w := Any.cmp_Compare_int Tryz.lays122 x y w
def Tryz.lays172_ren : Go.Shelf.Ren := ⟨fun | 172 => 174 | 244 => 243 | 245 => 244 | 247 => 302 | 279 => 303 | 280 => 304 | 281 => 305 | 282 => 306 | 287 => 339 | 316 => 340 | 171 => 78 | 205 => 341 | 321 => 363 | 322 => 364 | 243 => 140 | 246 => 216 | 283 => 282 | 284 => 283 | 285 => 284 | 286 => 285 | 129 => 203 | 317 => 324 | 318 => 325 | 319 => 326 | 320 => 327 | 337 => 354 | 338 => 355 | n => n, fun | 9 => 9 | 3 => 3 | 75 => 219 | 76 => 220 | 4 => 4 | 5 => 5 | 167 => 327 | 37 => 273 | 0 => 0 | 85 => 328 | 2 => 2 | 168 => 330 | 53 => 257 | 175 => 356 | 46 => 177 | 210 => 359 | 127 => 333 | 145 => 373 | 143 => 371 | 21 => 21 | 171 => 309 | 173 => 311 | 212 => 344 | 51 => 255 | 20 => 20 | 213 => 345 | 232 => 376 | 233 => 377 | 80 => 282 | n => n, fun | 15 => 3 | 16 => 4 | 17 => 2 | 18 => 6 | 19 => 7 | n => n⟩
theorem Tryz.lays172 : Go.Proofs.Lays.n172 Tryz.prog Tryz.lays172_ren := by constructor<;>intros<;>first|kernel_rfl|decide
open Go.RowKit in
theorem Tryz.strconv_Atoi (s : ByteArray) (n : Int) (hl : s.size ≤ 18) (h : Lib.atoi s.data.toList = some n) (w : World) :
    Calls Tryz.prog 174 #[.string s] w fun e w' => e = .returned (.tuple #[.int .i64 n, .nilIface]) ∧ ∃ t, w' = Lib.bytesWorld w 5 t := Any.strconv_Atoi Tryz.lays172 s n hl h w
def Tryz.laysM171_ren : Go.Shelf.Ren := ⟨fun | 171 => 78 | 243 => 140 | 246 => 216 | 283 => 282 | 284 => 283 | 285 => 284 | 286 => 285 | 129 => 203 | 317 => 324 | 318 => 325 | 319 => 326 | 320 => 327 | 337 => 354 | 338 => 355 | n => n, fun | 3 => 3 | 9 => 9 | 2 => 2 | 4 => 4 | 171 => 309 | 0 => 0 | 53 => 257 | 37 => 273 | 5 => 5 | 173 => 311 | 212 => 344 | 51 => 255 | 20 => 20 | 213 => 345 | 46 => 177 | 232 => 376 | 233 => 377 | n => n, fun | 17 => 2 | 18 => 6 | 19 => 7 | n => n⟩
theorem Tryz.laysM171 : Go.Proofs.LaysM.n171 Tryz.prog Tryz.laysM171_ren := by constructor<;>intros<;>first|kernel_rfl|decide|(constructor<;>intros<;>first|kernel_rfl|decide)
open Go.RowKit Go.Sort Go.Lib in
theorem Tryz.strconv_Itoa (n : Int) (h0 : -9223372036854775808 ≤ n) (h1 : n ≤ 9223372036854775807) (w : World) (htab : Lib.TabIs Tryz.prog w "internal/strconv.uint64pow10" .u64 Lib.pow10Tab) :
    Calls Tryz.prog 78 #[.int .i64 n] w fun e w' => e = .returned (.string ⟨(Lib.itoa n).toArray⟩) ∧ ∃ k os, w' = grow (w.drewN k) os := Any.strconv_Itoa Tryz.laysM171 n h0 h1 w htab
def Tryz.lays144_ren : Go.Shelf.Ren := ⟨fun | 144 => 215 | 143 => 281 | 219 => 323 | 217 => 350 | 225 => 351 | 224 => 352 | 267 => 353 | 266 => 369 | 314 => 370 | n => n, fun | 9 => 9 | 4 => 4 | 3 => 3 | 5 => 5 | 46 => 177 | 146 => 336 | 51 => 255 | n => n, fun | 1 => 5 | n => n⟩
theorem Tryz.lays144 : Go.Proofs.Lays.n144 Tryz.prog Tryz.lays144_ren := by constructor<;>intros<;>first|kernel_rfl|decide
open Go.RowKit Go.Lib in
theorem Tryz.strings_Contains_one (s : ByteArray) (c : UInt8) (w : World) :
    Calls Tryz.prog 215 #[.string s, .string ⟨#[c]⟩] w fun e w' => e = .returned (.bool (decide (0 ≤ Lib.indexByte s.data.toList c))) ∧ w' = w := Any.strings_Contains_one Tryz.lays144 s c w
def Tryz.lays145_ren : Go.Shelf.Ren := ⟨fun | 145 => 217 | 220 => 286 | 219 => 323 | 217 => 350 | 225 => 351 | 224 => 352 | 267 => 353 | 266 => 369 | 314 => 370 | n => n, fun | 9 => 9 | 4 => 4 | 59 => 263 | 3 => 3 | 5 => 5 | 46 => 177 | 146 => 336 | 51 => 255 | n => n, fun | 1 => 5 | n => n⟩
theorem Tryz.lays145 : Go.Proofs.Lays.n145 Tryz.prog Tryz.lays145_ren := by constructor<;>intros<;>first|kernel_rfl|decide
open Go.RowKit Go.Lib in
theorem Tryz.strings_Cut (s sep : ByteArray) (m : Int) (w : World) (hs : s.size < 4294967281) (hm : w.cell? ⟨5, 0, none⟩ = some (.int .i64 m)) :
    Calls Tryz.prog 217 #[.string s, .string sep] w fun e w' => e = .returned (.tuple #[.string ⟨(Lib.cut s.data.toList sep.data.toList).1.toArray⟩, .string ⟨(Lib.cut s.data.toList sep.data.toList).2.1.toArray⟩, .bool (Lib.cut s.data.toList sep.data.toList).2.2]) ∧ ∃ n, w' = w.drewN n := Any.strings_Cut Tryz.lays145 s sep m w hs hm
def Tryz.lays99_ren : Go.Shelf.Ren := ⟨fun | 99 => 55 | 206 => 119 | n => n, fun | 9 => 9 | 4 => 4 | 3 => 3 | n => n, fun | n => n⟩
theorem Tryz.lays99 : Go.Proofs.Lays.n99 Tryz.prog Tryz.lays99_ren := by constructor<;>intros<;>first|kernel_rfl|decide
open Go.RowKit Go.Lib in
theorem Tryz.strings_HasPrefix (s p : ByteArray) (w : World) :
    Calls Tryz.prog 55 #[.string s, .string p] w fun e w' => e = .returned (.bool (Lib.hasPrefix s.data.toList p.data.toList)) ∧ w' = w := Any.strings_HasPrefix Tryz.lays99 s p w
def Tryz.lays101_ren : Go.Shelf.Ren := ⟨fun | 101 => 145 | 208 => 219 | 206 => 119 | n => n, fun | 9 => 9 | 4 => 4 | 3 => 3 | n => n, fun | n => n⟩
theorem Tryz.lays101 : Go.Proofs.Lays.n101 Tryz.prog Tryz.lays101_ren := by constructor<;>intros<;>first|kernel_rfl|decide
open Go.RowKit Go.Lib in
theorem Tryz.strings_TrimPrefix (s p : ByteArray) (w : World) :
    Calls Tryz.prog 145 #[.string s, .string p] w fun e w' => e = .returned (.string ⟨(Lib.trimPrefix s.data.toList p.data.toList).toArray⟩) ∧ w' = w := Any.strings_TrimPrefix Tryz.lays101 s p w
def Tryz.lays105_ren : Go.Shelf.Ren := ⟨fun | 105 => 204 | 212 => 264 | 99 => 55 | 165 => 265 | 166 => 249 | 170 => 266 | 169 => 250 | 263 => 310 | 264 => 311 | 206 => 119 | 240 => 307 | 241 => 312 | 276 => 342 | 277 => 343 | n => n, fun | 9 => 9 | 3 => 3 | 4 => 4 | 20 => 20 | 0 => 0 | 46 => 177 | 109 => 297 | 5 => 5 | 72 => 279 | 76 => 220 | 51 => 255 | 146 => 336 | 53 => 257 | 148 => 338 | 70 => 277 | 37 => 273 | 75 => 219 | 127 => 333 | 164 => 361 | 80 => 282 | n => n, fun | n => n⟩
theorem Tryz.lays105 : Go.Proofs.Lays.n105 Tryz.prog Tryz.lays105_ren := by constructor<;>intros<;>first|kernel_rfl|decide
theorem Tryz.Builder_Extra_105 : Builder.Extra Tryz.prog Tryz.lays105_ren := by constructor<;>intros<;>first|kernel_rfl|decide|(constructor<;>intros<;>first|kernel_rfl|decide)
open Go.RowKit Go.Lib in
theorem Tryz.strings_Repeat (s : ByteArray) (c : Nat) (w : World) (hc : c ≤ 9223372036854775807) (hlen : s.size * c ≤ 140737488355328) :
    Calls Tryz.prog 204 #[.string s, .int .i64 c] w fun e w' => e = .returned (.string ⟨(Lib.repeatL s.data.toList c).toArray⟩) ∧ Below w.heap.size w w' := Any.strings_Repeat Tryz.lays105 Tryz.Builder_Extra_105 s c w hc hlen
end Go.Proofs
