/- The contracts of Go's library that this seat's functions call, laid over the seat's translation by the kit's own tools. -/
import Derived.Test.YtnjiiafnneillaaGreatDoorProg
import Derived.Shelf.Strings.Trim
import Derived.Shelf.Small.Utf8
import Derived.Shelf.Small.Bits
import Derived.Shelf.Small.Wraps
import Derived.Shelf.Strings.BuilderK
import Derived.Shelf.Strconv.Itoa3
import Derived.Shelf.Strconv.AtoiAll
import Derived.Shelf.Strings.Shaped
import Derived.Shelf.Strings.Runes
import Derived.Shelf.Strings.AsciiSet
import Derived.Shelf.Strings.Repeat
import Derived.Shelf.Unicode.DecodeSlow
/-
  The contracts of Go's library that this seat's functions call, laid over the seat's translation by the kit's own tools.
-/
namespace Go.Proofs
open Go.Shelf
def Tryz.lays169_ren : Go.Shelf.Ren := ⟨fun | 169 => 151 | n => n, fun | 70 => 188 | 9 => 9 | 0 => 0 | 72 => 191 | 37 => 189 | 127 => 258 | 3 => 3 | 5 => 5 | n => n, fun | n => n⟩
theorem Tryz.lays169 : Go.Proofs.Lays.n169 Tryz.prog Tryz.lays169_ren := by constructor<;>intros<;>first|kernel_rfl|decide
theorem Tryz.Builder_Extra_169 : Builder.Extra Tryz.prog Tryz.lays169_ren := by constructor<;>intros<;>first|kernel_rfl|decide|(constructor<;>intros<;>first|kernel_rfl|decide)
def Tryz.lays160_ren : Go.Shelf.Ren := ⟨fun | 160 => 218 | 232 => 263 | 231 => 262 | 227 => 264 | 234 => 266 | 233 => 265 | 236 => 268 | 235 => 267 | 228 => 303 | 271 => 306 | 151 => 305 | 197 => 304 | 120 => 327 | 152 => 326 | 260 => 325 | 137 => 337 | 119 => 338 | 224 => 323 | 225 => 322 | 217 => 321 | 266 => 335 | n => n, fun | 9 => 9 | 4 => 4 | 3 => 3 | 5 => 5 | 117 => 296 | 116 => 295 | 0 => 0 | 124 => 299 | 21 => 21 | 105 => 317 | 46 => 165 | 119 => 339 | 139 => 342 | 138 => 341 | n => n, fun | 3 => 6 | 4 => 7 | n => n⟩
theorem Tryz.lays160 : Go.Proofs.Lays.n160 Tryz.prog Tryz.lays160_ren := by constructor<;>intros<;>first|kernel_rfl|decide
def Tryz.lays125_ren : Go.Shelf.Ren := ⟨fun | 125 => 119 | 128 => 200 | 129 => 201 | n => n, fun | 46 => 165 | 3 => 3 | 51 => 245 | 53 => 247 | 4 => 4 | 5 => 5 | 9 => 9 | n => n, fun | n => n⟩
theorem Tryz.lays125 : Go.Proofs.Lays.n125 Tryz.prog Tryz.lays125_ren := by constructor<;>intros<;>first|kernel_rfl|decide
theorem Tryz.bits_Len (x : Int) (w : World) (h0 : 0 ≤ x) (h1 : x ≤ 18446744073709551615) :
    Calls Tryz.prog 119 #[.int .u64 x] w fun e w' => e = .returned (.int .i64 (Lib.bitLen x.toNat)) ∧ w' = w := Any.bits_Len Tryz.lays125 x w h0 h1
def Tryz.lays103_ren : Go.Shelf.Ren := ⟨fun | 103 => 183 | 210 => 240 | 206 => 112 | n => n, fun | 9 => 9 | 4 => 4 | 24 => 206 | 3 => 3 | n => n, fun | n => n⟩
theorem Tryz.lays103 : Go.Proofs.Lays.n103 Tryz.prog Tryz.lays103_ren := by constructor<;>intros<;>first|kernel_rfl|decide
open Go.RowKit in
theorem Tryz.strings_CutPrefix (s p : ByteArray) (w : World) :
    Calls Tryz.prog 183 #[.string s, .string p] w fun e w' => e = .returned (.tuple #[.string ⟨(Lib.trimPrefix s.data.toList p.data.toList).toArray⟩, .bool (Lib.hasPrefix s.data.toList p.data.toList)]) ∧ w' = w := Any.strings_CutPrefix Tryz.lays103 s p w
def Tryz.lays122_ren : Go.Shelf.Ren := ⟨fun | 122 => 67 | 215 => 137 | n => n, fun | 3 => 3 | 4 => 4 | n => n, fun | n => n⟩
theorem Tryz.lays122 : Go.Proofs.Lays.n122 Tryz.prog Tryz.lays122_ren := by constructor<;>intros<;>first|kernel_rfl|decide
open Go.RowKit in
theorem Tryz.cmp_Compare_int (x y : Int) (w : World) :
    Calls Tryz.prog 67 #[.int .i64 x, .int .i64 y] w fun e w' => e = .returned (.int .i64 (Lib.compareInt x y)) ∧ w' = w := Any.cmp_Compare_int Tryz.lays122 x y w
def Tryz.lays172_ren : Go.Shelf.Ren := ⟨fun | 172 => 181 | 244 => 237 | 245 => 238 | 247 => 283 | 279 => 284 | 280 => 285 | 281 => 286 | 282 => 287 | 287 => 311 | 316 => 312 | 171 => 104 | 205 => 313 | 321 => 331 | 322 => 332 | 243 => 182 | 246 => 239 | 283 => 288 | 284 => 289 | 285 => 290 | 286 => 291 | 129 => 201 | 317 => 314 | 318 => 315 | 319 => 316 | 320 => 317 | 337 => 333 | 338 => 334 | n => n, fun | 9 => 9 | 3 => 3 | 75 => 194 | 76 => 195 | 4 => 4 | 5 => 5 | 167 => 301 | 37 => 189 | 0 => 0 | 85 => 302 | 2 => 2 | 168 => 304 | 53 => 247 | 175 => 323 | 46 => 165 | 210 => 326 | 127 => 258 | 145 => 337 | 143 => 335 | 21 => 21 | 171 => 307 | 173 => 309 | 212 => 329 | 51 => 245 | 20 => 20 | 213 => 330 | 232 => 344 | 233 => 345 | 80 => 127 | n => n, fun | 15 => 3 | 16 => 4 | 17 => 5 | 18 => 8 | 19 => 9 | n => n⟩
theorem Tryz.lays172 : Go.Proofs.Lays.n172 Tryz.prog Tryz.lays172_ren := by constructor<;>intros<;>first|kernel_rfl|decide
open Go.RowKit in
theorem Tryz.strconv_Atoi (s : ByteArray) (n : Int) (hl : s.size ≤ 18) (h : Lib.atoi s.data.toList = some n) (w : World) :
    Calls Tryz.prog 181 #[.string s] w fun e w' => e = .returned (.tuple #[.int .i64 n, .nilIface]) ∧ ∃ t, w' = Lib.bytesWorld w 5 t := Any.strconv_Atoi Tryz.lays172 s n hl h w
def Tryz.laysM171_ren : Go.Shelf.Ren := ⟨fun | 171 => 104 | 243 => 182 | 246 => 239 | 283 => 288 | 284 => 289 | 285 => 290 | 286 => 291 | 129 => 201 | 317 => 314 | 318 => 315 | 319 => 316 | 320 => 317 | 337 => 333 | 338 => 334 | n => n, fun | 3 => 3 | 9 => 9 | 2 => 2 | 4 => 4 | 171 => 307 | 0 => 0 | 53 => 247 | 37 => 189 | 5 => 5 | 173 => 309 | 212 => 329 | 51 => 245 | 20 => 20 | 213 => 330 | 46 => 165 | 232 => 344 | 233 => 345 | n => n, fun | 17 => 5 | 18 => 8 | 19 => 9 | n => n⟩
theorem Tryz.laysM171 : Go.Proofs.LaysM.n171 Tryz.prog Tryz.laysM171_ren := by constructor<;>intros<;>first|kernel_rfl|decide|(constructor<;>intros<;>first|kernel_rfl|decide)
open Go.RowKit Go.Sort Go.Lib in
theorem Tryz.strconv_Itoa (n : Int) (h0 : -9223372036854775808 ≤ n) (h1 : n ≤ 9223372036854775807) (w : World) (htab : Lib.TabIs Tryz.prog w "internal/strconv.uint64pow10" .u64 Lib.pow10Tab) :
    Calls Tryz.prog 104 #[.int .i64 n] w fun e w' => e = .returned (.string ⟨(Lib.itoa n).toArray⟩) ∧ ∃ k os, w' = grow (w.drewN k) os := Any.strconv_Itoa Tryz.laysM171 n h0 h1 w htab
def Tryz.lays144_ren : Go.Shelf.Ren := ⟨fun | 144 => 209 | 143 => 258 | 219 => 302 | 217 => 321 | 225 => 322 | 224 => 323 | 267 => 324 | 266 => 335 | 314 => 336 | n => n, fun | 9 => 9 | 4 => 4 | 3 => 3 | 5 => 5 | 46 => 165 | 146 => 254 | 51 => 245 | n => n, fun | 1 => 2 | n => n⟩
theorem Tryz.lays144 : Go.Proofs.Lays.n144 Tryz.prog Tryz.lays144_ren := by constructor<;>intros<;>first|kernel_rfl|decide
open Go.RowKit Go.Lib in
theorem Tryz.strings_Contains_one (s : ByteArray) (c : UInt8) (w : World) :
    Calls Tryz.prog 209 #[.string s, .string ⟨#[c]⟩] w fun e w' => e = .returned (.bool (decide (0 ≤ Lib.indexByte s.data.toList c))) ∧ w' = w := Any.strings_Contains_one Tryz.lays144 s c w
def Tryz.lays145_ren : Go.Shelf.Ren := ⟨fun | 145 => 210 | 220 => 259 | 219 => 302 | 217 => 321 | 225 => 322 | 224 => 323 | 267 => 324 | 266 => 335 | 314 => 336 | n => n, fun | 9 => 9 | 4 => 4 | 59 => 251 | 3 => 3 | 5 => 5 | 46 => 165 | 146 => 254 | 51 => 245 | n => n, fun | 1 => 2 | n => n⟩
theorem Tryz.lays145 : Go.Proofs.Lays.n145 Tryz.prog Tryz.lays145_ren := by constructor<;>intros<;>first|kernel_rfl|decide
open Go.RowKit Go.Lib in
theorem Tryz.strings_Cut (s sep : ByteArray) (m : Int) (w : World) (hs : s.size < 4294967281) (hm : w.cell? ⟨2, 0, none⟩ = some (.int .i64 m)) :
    Calls Tryz.prog 210 #[.string s, .string sep] w fun e w' => e = .returned (.tuple #[.string ⟨(Lib.cut s.data.toList sep.data.toList).1.toArray⟩, .string ⟨(Lib.cut s.data.toList sep.data.toList).2.1.toArray⟩, .bool (Lib.cut s.data.toList sep.data.toList).2.2]) ∧ ∃ n, w' = w.drewN n := Any.strings_Cut Tryz.lays145 s sep m w hs hm
def Tryz.lays99_ren : Go.Shelf.Ren := ⟨fun | 99 => 46 | 206 => 112 | n => n, fun | 9 => 9 | 4 => 4 | 3 => 3 | n => n, fun | n => n⟩
theorem Tryz.lays99 : Go.Proofs.Lays.n99 Tryz.prog Tryz.lays99_ren := by constructor<;>intros<;>first|kernel_rfl|decide
open Go.RowKit Go.Lib in
theorem Tryz.strings_HasPrefix (s p : ByteArray) (w : World) :
    Calls Tryz.prog 46 #[.string s, .string p] w fun e w' => e = .returned (.bool (Lib.hasPrefix s.data.toList p.data.toList)) ∧ w' = w := Any.strings_HasPrefix Tryz.lays99 s p w
def Tryz.lays101_ren : Go.Shelf.Ren := ⟨fun | 101 => 139 | 208 => 212 | 206 => 112 | n => n, fun | 9 => 9 | 4 => 4 | 3 => 3 | n => n, fun | n => n⟩
theorem Tryz.lays101 : Go.Proofs.Lays.n101 Tryz.prog Tryz.lays101_ren := by constructor<;>intros<;>first|kernel_rfl|decide
open Go.RowKit Go.Lib in
theorem Tryz.strings_TrimPrefix (s p : ByteArray) (w : World) :
    Calls Tryz.prog 139 #[.string s, .string p] w fun e w' => e = .returned (.string ⟨(Lib.trimPrefix s.data.toList p.data.toList).toArray⟩) ∧ w' = w := Any.strings_TrimPrefix Tryz.lays101 s p w
def Tryz.lays105_ren : Go.Shelf.Ren := ⟨fun | 105 => 76 | 212 => 147 | 99 => 46 | 165 => 148 | 166 => 149 | 170 => 150 | 169 => 151 | 263 => 214 | 264 => 215 | 206 => 112 | 240 => 216 | 241 => 217 | 276 => 260 | 277 => 261 | n => n, fun | 9 => 9 | 3 => 3 | 4 => 4 | 20 => 20 | 0 => 0 | 46 => 165 | 109 => 186 | 5 => 5 | 72 => 191 | 76 => 195 | 51 => 245 | 146 => 254 | 53 => 247 | 148 => 256 | 70 => 188 | 37 => 189 | 75 => 194 | 127 => 258 | 164 => 290 | 80 => 127 | n => n, fun | n => n⟩
theorem Tryz.lays105 : Go.Proofs.Lays.n105 Tryz.prog Tryz.lays105_ren := by constructor<;>intros<;>first|kernel_rfl|decide
theorem Tryz.Builder_Extra_105 : Builder.Extra Tryz.prog Tryz.lays105_ren := by constructor<;>intros<;>first|kernel_rfl|decide|(constructor<;>intros<;>first|kernel_rfl|decide)
open Go.RowKit Go.Lib in
theorem Tryz.strings_Repeat (s : ByteArray) (c : Nat) (w : World) (hc : c ≤ 9223372036854775807) (hlen : s.size * c ≤ 140737488355328) :
    Calls Tryz.prog 76 #[.string s, .int .i64 c] w fun e w' => e = .returned (.string ⟨(Lib.repeatL s.data.toList c).toArray⟩) ∧ Below w.heap.size w w' := Any.strings_Repeat Tryz.lays105 Tryz.Builder_Extra_105 s c w hc hlen
end Go.Proofs
