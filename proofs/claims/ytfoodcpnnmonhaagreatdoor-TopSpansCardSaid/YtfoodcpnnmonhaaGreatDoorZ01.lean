/- The contracts of Go's library that this seat's functions call, laid over the seat's translation by the kit's own tools. -/
import Derived.Test.YtfoodcpnnmonhaaGreatDoorProg
import Derived.Shelf.Strings.Trim
import Derived.Shelf.Small.Utf8
import Derived.Shelf.Small.Bits
import Derived.Shelf.Small.Wraps
import Derived.Shelf.Strings.BuilderK
import Derived.Shelf.Strconv.Itoa3
import Derived.Shelf.Strconv.AtoiAll
import Derived.Shelf.Strings.Shaped
import Derived.Shelf.Strings.Runes
import Derived.Shelf.Strings.AsciiSet
import Derived.Shelf.Strings.Repeat
import Derived.Shelf.Unicode.DecodeSlow
/-
  The contracts of Go's library that this seat's functions call, laid over the seat's translation by the kit's own tools.
-/
namespace Go.Proofs
open Go.Shelf
def Tryz.lays169_ren : Go.Shelf.Ren := ⟨fun | 169 => 191 | n => n, fun | 70 => 227 | 9 => 9 | 0 => 0 | 72 => 230 | 37 => 228 | 127 => 277 | 3 => 3 | 5 => 5 | n => n, fun | n => n⟩
theorem Tryz.lays169 : Go.Proofs.Lays.n169 Tryz.prog Tryz.lays169_ren := by constructor<;>intros<;>first|kernel_rfl|decide
theorem Tryz.Builder_Extra_169 : Builder.Extra Tryz.prog Tryz.lays169_ren := by constructor<;>intros<;>first|kernel_rfl|decide|(constructor<;>intros<;>first|kernel_rfl|decide)
def Tryz.lays160_ren : Go.Shelf.Ren := ⟨fun | 160 => 238 | 232 => 276 | 231 => 275 | 227 => 277 | 234 => 279 | 233 => 278 | 236 => 281 | 235 => 280 | 228 => 298 | 271 => 301 | 151 => 300 | 197 => 299 | 120 => 309 | 152 => 308 | 260 => 307 | 137 => 310 | 119 => 311 | 224 => 296 | 225 => 295 | 217 => 294 | 266 => 305 | n => n, fun | 9 => 9 | 4 => 4 | 3 => 3 | 5 => 5 | 117 => 292 | 116 => 291 | 0 => 0 | 124 => 295 | 21 => 21 | 105 => 312 | 46 => 223 | 119 => 325 | 139 => 328 | 138 => 327 | n => n, fun | 3 => 8 | 4 => 9 | n => n⟩
theorem Tryz.lays160 : Go.Proofs.Lays.n160 Tryz.prog Tryz.lays160_ren := by constructor<;>intros<;>first|kernel_rfl|decide
def Tryz.lays125_ren : Go.Shelf.Ren := ⟨fun | 125 => 185 | 128 => 248 | 129 => 249 | n => n, fun | 46 => 223 | 3 => 3 | 51 => 271 | 53 => 235 | 4 => 4 | 5 => 5 | 9 => 9 | n => n, fun | n => n⟩
theorem Tryz.lays125 : Go.Proofs.Lays.n125 Tryz.prog Tryz.lays125_ren := by constructor<;>intros<;>first|kernel_rfl|decide
theorem Tryz.bits_Len (x : Int) (w : World) (h0 : 0 ≤ x) (h1 : x ≤ 18446744073709551615) :
    Calls Tryz.prog 185 #[.int .u64 x] w fun e w' => e = .returned (.int .i64 (Lib.bitLen x.toNat)) ∧ w' = w := Any.bits_Len Tryz.lays125 x w h0 h1
def Tryz.lays103_ren : Go.Shelf.Ren := ⟨fun | 103 => 129 | 210 => 197 | 206 => 73 | n => n, fun | 9 => 9 | 4 => 4 | 24 => 124 | 3 => 3 | n => n, fun | n => n⟩
theorem Tryz.lays103 : Go.Proofs.Lays.n103 Tryz.prog Tryz.lays103_ren := by constructor<;>intros<;>first|kernel_rfl|decide
open Go.RowKit in
theorem Tryz.strings_CutPrefix (s p : ByteArray) (w : World) :
    Calls Tryz.prog 129 #[.string s, .string p] w fun e w' => e = .returned (.tuple #[.string ⟨(Lib.trimPrefix s.data.toList p.data.toList).toArray⟩, .bool (Lib.hasPrefix s.data.toList p.data.toList)]) ∧ w' = w := Any.strings_CutPrefix Tryz.lays103 s p w
def Tryz.lays122_ren : Go.Shelf.Ren := ⟨fun | 122 => 56 | 215 => 112 | n => n, fun | 3 => 3 | 4 => 4 | n => n, fun | n => n⟩
theorem Tryz.lays122 : Go.Proofs.Lays.n122 Tryz.prog Tryz.lays122_ren := by constructor<;>intros<;>first|kernel_rfl|decide
open Go.RowKit in
theorem Tryz.cmp_Compare_int (x y : Int) (w : World) :
    Calls Tryz.prog 56 #[.int .i64 x, .int .i64 y] w fun e w' => e = .returned (.int .i64 (Lib.compareInt x y)) ∧ w' = w := Any.cmp_Compare_int Tryz.lays122 x y w
def Tryz.lays172_ren : Go.Shelf.Ren := ⟨fun | 172 => 150 | 244 => 214 | 245 => 215 | 247 => 260 | 279 => 261 | 280 => 262 | 281 => 263 | 282 => 264 | 287 => 291 | 316 => 292 | 171 => 33 | 205 => 293 | 321 => 303 | 322 => 304 | 243 => 66 | 246 => 128 | 283 => 193 | 284 => 194 | 285 => 195 | 286 => 196 | 129 => 249 | 317 => 255 | 318 => 256 | 319 => 257 | 320 => 258 | 337 => 289 | 338 => 290 | n => n, fun | 9 => 9 | 3 => 3 | 75 => 186 | 76 => 187 | 4 => 4 | 5 => 5 | 167 => 281 | 37 => 228 | 0 => 0 | 85 => 282 | 2 => 2 | 168 => 284 | 53 => 235 | 175 => 305 | 46 => 223 | 210 => 308 | 127 => 277 | 145 => 322 | 143 => 320 | 21 => 21 | 171 => 234 | 173 => 238 | 212 => 279 | 51 => 271 | 20 => 20 | 213 => 280 | 232 => 317 | 233 => 318 | 80 => 233 | n => n, fun | 15 => 3 | 16 => 4 | 17 => 2 | 18 => 6 | 19 => 7 | n => n⟩
theorem Tryz.lays172 : Go.Proofs.Lays.n172 Tryz.prog Tryz.lays172_ren := by constructor<;>intros<;>first|kernel_rfl|decide
open Go.RowKit in
theorem Tryz.strconv_Atoi (s : ByteArray) (n : Int) (hl : s.size ≤ 18) (h : Lib.atoi s.data.toList = some n) (w : World) :
    Calls Tryz.prog 150 #[.string s] w fun e w' => e = .returned (.tuple #[.int .i64 n, .nilIface]) ∧ ∃ t, w' = Lib.bytesWorld w 5 t := Any.strconv_Atoi Tryz.lays172 s n hl h w
def Tryz.laysM171_ren : Go.Shelf.Ren := ⟨fun | 171 => 33 | 243 => 66 | 246 => 128 | 283 => 193 | 284 => 194 | 285 => 195 | 286 => 196 | 129 => 249 | 317 => 255 | 318 => 256 | 319 => 257 | 320 => 258 | 337 => 289 | 338 => 290 | n => n, fun | 3 => 3 | 9 => 9 | 2 => 2 | 4 => 4 | 171 => 234 | 0 => 0 | 53 => 235 | 37 => 228 | 5 => 5 | 173 => 238 | 212 => 279 | 51 => 271 | 20 => 20 | 213 => 280 | 46 => 223 | 232 => 317 | 233 => 318 | n => n, fun | 17 => 2 | 18 => 6 | 19 => 7 | n => n⟩
theorem Tryz.laysM171 : Go.Proofs.LaysM.n171 Tryz.prog Tryz.laysM171_ren := by constructor<;>intros<;>first|kernel_rfl|decide|(constructor<;>intros<;>first|kernel_rfl|decide)
open Go.RowKit Go.Sort Go.Lib in
theorem Tryz.strconv_Itoa (n : Int) (h0 : -9223372036854775808 ≤ n) (h1 : n ≤ 9223372036854775807) (w : World) (htab : Lib.TabIs Tryz.prog w "internal/strconv.uint64pow10" .u64 Lib.pow10Tab) :
    Calls Tryz.prog 33 #[.int .i64 n] w fun e w' => e = .returned (.string ⟨(Lib.itoa n).toArray⟩) ∧ ∃ k os, w' = grow (w.drewN k) os := Any.strconv_Itoa Tryz.laysM171 n h0 h1 w htab
def Tryz.lays144_ren : Go.Shelf.Ren := ⟨fun | 144 => 234 | 143 => 273 | 219 => 274 | 217 => 294 | 225 => 295 | 224 => 296 | 267 => 297 | 266 => 305 | 314 => 306 | n => n, fun | 9 => 9 | 4 => 4 | 3 => 3 | 5 => 5 | 46 => 223 | 146 => 273 | 51 => 271 | n => n, fun | 1 => 5 | n => n⟩
theorem Tryz.lays144 : Go.Proofs.Lays.n144 Tryz.prog Tryz.lays144_ren := by constructor<;>intros<;>first|kernel_rfl|decide
open Go.RowKit Go.Lib in
theorem Tryz.strings_Contains_one (s : ByteArray) (c : UInt8) (w : World) :
    Calls Tryz.prog 234 #[.string s, .string ⟨#[c]⟩] w fun e w' => e = .returned (.bool (decide (0 ≤ Lib.indexByte s.data.toList c))) ∧ w' = w := Any.strings_Contains_one Tryz.lays144 s c w
def Tryz.lays145_ren : Go.Shelf.Ren := ⟨fun | 145 => 176 | 220 => 237 | 219 => 274 | 217 => 294 | 225 => 295 | 224 => 296 | 267 => 297 | 266 => 305 | 314 => 306 | n => n, fun | 9 => 9 | 4 => 4 | 59 => 210 | 3 => 3 | 5 => 5 | 46 => 223 | 146 => 273 | 51 => 271 | n => n, fun | 1 => 5 | n => n⟩
theorem Tryz.lays145 : Go.Proofs.Lays.n145 Tryz.prog Tryz.lays145_ren := by constructor<;>intros<;>first|kernel_rfl|decide
open Go.RowKit Go.Lib in
theorem Tryz.strings_Cut (s sep : ByteArray) (m : Int) (w : World) (hs : s.size < 4294967281) (hm : w.cell? ⟨5, 0, none⟩ = some (.int .i64 m)) :
    Calls Tryz.prog 176 #[.string s, .string sep] w fun e w' => e = .returned (.tuple #[.string ⟨(Lib.cut s.data.toList sep.data.toList).1.toArray⟩, .string ⟨(Lib.cut s.data.toList sep.data.toList).2.1.toArray⟩, .bool (Lib.cut s.data.toList sep.data.toList).2.2]) ∧ ∃ n, w' = w.drewN n := Any.strings_Cut Tryz.lays145 s sep m w hs hm
def Tryz.lays99_ren : Go.Shelf.Ren := ⟨fun | 99 => 39 | 206 => 73 | n => n, fun | 9 => 9 | 4 => 4 | 3 => 3 | n => n, fun | n => n⟩
theorem Tryz.lays99 : Go.Proofs.Lays.n99 Tryz.prog Tryz.lays99_ren := by constructor<;>intros<;>first|kernel_rfl|decide
open Go.RowKit Go.Lib in
theorem Tryz.strings_HasPrefix (s p : ByteArray) (w : World) :
    Calls Tryz.prog 39 #[.string s, .string p] w fun e w' => e = .returned (.bool (Lib.hasPrefix s.data.toList p.data.toList)) ∧ w' = w := Any.strings_HasPrefix Tryz.lays99 s p w
def Tryz.lays101_ren : Go.Shelf.Ren := ⟨fun | 101 => 38 | 208 => 72 | 206 => 73 | n => n, fun | 9 => 9 | 4 => 4 | 3 => 3 | n => n, fun | n => n⟩
theorem Tryz.lays101 : Go.Proofs.Lays.n101 Tryz.prog Tryz.lays101_ren := by constructor<;>intros<;>first|kernel_rfl|decide
open Go.RowKit Go.Lib in
theorem Tryz.strings_TrimPrefix (s p : ByteArray) (w : World) :
    Calls Tryz.prog 38 #[.string s, .string p] w fun e w' => e = .returned (.string ⟨(Lib.trimPrefix s.data.toList p.data.toList).toArray⟩) ∧ w' = w := Any.strings_TrimPrefix Tryz.lays101 s p w
def Tryz.lays105_ren : Go.Shelf.Ren := ⟨fun | 105 => 125 | 212 => 187 | 99 => 39 | 165 => 188 | 166 => 189 | 170 => 190 | 169 => 191 | 263 => 251 | 264 => 252 | 206 => 73 | 240 => 253 | 241 => 254 | 276 => 287 | 277 => 288 | n => n, fun | 9 => 9 | 3 => 3 | 4 => 4 | 20 => 20 | 0 => 0 | 46 => 223 | 109 => 225 | 5 => 5 | 72 => 230 | 76 => 187 | 51 => 271 | 146 => 273 | 53 => 235 | 148 => 275 | 70 => 227 | 37 => 228 | 75 => 186 | 127 => 277 | 164 => 302 | 80 => 233 | n => n, fun | n => n⟩
theorem Tryz.lays105 : Go.Proofs.Lays.n105 Tryz.prog Tryz.lays105_ren := by constructor<;>intros<;>first|kernel_rfl|decide
theorem Tryz.Builder_Extra_105 : Builder.Extra Tryz.prog Tryz.lays105_ren := by constructor<;>intros<;>first|kernel_rfl|decide|(constructor<;>intros<;>first|kernel_rfl|decide)
open Go.RowKit Go.Lib in
theorem Tryz.strings_Repeat (s : ByteArray) (c : Nat) (w : World) (hc : c ≤ 9223372036854775807) (hlen : s.size * c ≤ 140737488355328) :
    Calls Tryz.prog 125 #[.string s, .int .i64 c] w fun e w' => e = .returned (.string ⟨(Lib.repeatL s.data.toList c).toArray⟩) ∧ Below w.heap.size w w' := Any.strings_Repeat Tryz.lays105 Tryz.Builder_Extra_105 s c w hc hlen
end Go.Proofs
