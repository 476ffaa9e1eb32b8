/- The contracts of Go's library that this seat's functions call, laid over the seat's translation by the kit's own tools. -/
import Derived.Test.YtgeapfaiacoajaaGreatDoorProg
import Derived.Shelf.Strings.Trim
import Derived.Shelf.Small.Utf8
import Derived.Shelf.Small.Bits
import Derived.Shelf.Small.Wraps
import Derived.Shelf.Strings.BuilderK
import Derived.Shelf.Strconv.Itoa3
import Derived.Shelf.Strconv.AtoiAll
import Derived.Shelf.Strings.Shaped
import Derived.Shelf.Strings.Runes
import Derived.Shelf.Strings.AsciiSet
import Derived.Shelf.Strings.Repeat
import Derived.Shelf.Unicode.DecodeSlow
/-
  The contracts of Go's library that this seat's functions call, laid over the seat's translation by the kit's own tools.
-/
namespace Go.Proofs
open Go.Shelf
def Tryz.lays169_ren : Go.Shelf.Ren := ⟨fun | 169 => 209 | n => n, fun | 70 => 250 | 9 => 9 | 0 => 0 | 72 => 252 | 37 => 231 | 127 => 298 | 3 => 3 | 5 => 5 | n => n, fun | n => n⟩
theorem Tryz.lays169 : Go.Proofs.Lays.n169 Tryz.prog Tryz.lays169_ren := by constructor<;>intros<;>first|kernel_rfl|decide
theorem Tryz.Builder_Extra_169 : Builder.Extra Tryz.prog Tryz.lays169_ren := by constructor<;>intros<;>first|kernel_rfl|decide|(constructor<;>intros<;>first|kernel_rfl|decide)
def Tryz.lays160_ren : Go.Shelf.Ren := ⟨fun | 160 => 201 | 232 => 242 | 231 => 241 | 227 => 243 | 234 => 245 | 233 => 244 | 236 => 247 | 235 => 246 | 228 => 279 | 271 => 282 | 151 => 281 | 197 => 280 | 120 => 300 | 152 => 299 | 260 => 298 | 137 => 306 | 119 => 307 | 224 => 277 | 225 => 276 | 217 => 275 | 266 => 296 | n => n, fun | 9 => 9 | 4 => 4 | 3 => 3 | 5 => 5 | 117 => 280 | 116 => 279 | 0 => 0 | 124 => 283 | 21 => 21 | 105 => 309 | 46 => 219 | 119 => 336 | 139 => 339 | 138 => 338 | n => n, fun | 3 => 6 | 4 => 7 | n => n⟩
theorem Tryz.lays160 : Go.Proofs.Lays.n160 Tryz.prog Tryz.lays160_ren := by constructor<;>intros<;>first|kernel_rfl|decide
def Tryz.lays125_ren : Go.Shelf.Ren := ⟨fun | 125 => 159 | 128 => 218 | 129 => 219 | n => n, fun | 46 => 219 | 3 => 3 | 51 => 264 | 53 => 266 | 4 => 4 | 5 => 5 | 9 => 9 | n => n, fun | n => n⟩
theorem Tryz.lays125 : Go.Proofs.Lays.n125 Tryz.prog Tryz.lays125_ren := by constructor<;>intros<;>first|kernel_rfl|decide
theorem Tryz.bits_Len (x : Int) (w : World) (h0 : 0 ≤ x) (h1 : x ≤ 18446744073709551615) :
    Calls Tryz.prog 159 #[.int .u64 x] w fun e w' => e = .returned (.int .i64 (Lib.bitLen x.toNat)) ∧ w' = w := Any.bits_Len Tryz.lays125 x w h0 h1
def Tryz.lays103_ren : Go.Shelf.Ren := ⟨fun | 103 => 139 | 210 => 195 | 206 => 154 | n => n, fun | 9 => 9 | 4 => 4 | 24 => 197 | 3 => 3 | n => n, fun | n => n⟩
theorem Tryz.lays103 : Go.Proofs.Lays.n103 Tryz.prog Tryz.lays103_ren := by constructor<;>intros<;>first|kernel_rfl|decide
open Go.RowKit in
theorem Tryz.strings_CutPrefix (s p : ByteArray) (w : World) :
    Calls Tryz.prog 139 #[.string s, .string p] w fun e w' => e = .returned (.tuple #[.string ⟨(Lib.trimPrefix s.data.toList p.data.toList).toArray⟩, .bool (Lib.hasPrefix s.data.toList p.data.toList)]) ∧ w' = w := Any.strings_CutPrefix Tryz.lays103 s p w
def Tryz.lays122_ren : Go.Shelf.Ren := ⟨fun | 122 => 31 | 215 => 86 | n => n, fun | 3 => 3 | 4 => 4 | n => n, fun | n => n⟩
theorem Tryz.lays122 : Go.Proofs.Lays.n122 Tryz.prog Tryz.lays122_ren := by constructor<;>intros<;>first|kernel_rfl|decide
open Go.RowKit in
theorem Tryz.cmp_Compare_int (x y : Int) (w : World) :
    Calls Tryz.prog 31 #[.int .i64 x, .int .i64 y] w fun e w' => e = .returned (.int .i64 (Lib.compareInt x y)) ∧ w' = w := Any.cmp_Compare_int Tryz.lays122 x y w
def Tryz.lays172_ren : Go.Shelf.Ren := ⟨fun | 172 => 144 | 244 => 202 | 245 => 203 | 247 => 248 | 279 => 249 | 280 => 250 | 281 => 251 | 282 => 252 | 287 => 283 | 316 => 284 | 171 => 95 | 205 => 285 | 321 => 301 | 322 => 302 | 243 => 151 | 246 => 205 | 283 => 253 | 284 => 254 | 285 => 255 | 286 => 256 | 129 => 219 | 317 => 286 | 318 => 287 | 319 => 288 | 320 => 289 | 337 => 303 | 338 => 304 | n => n, fun | 9 => 9 | 3 => 3 | 75 => 201 | 76 => 202 | 4 => 4 | 5 => 5 | 167 => 284 | 37 => 231 | 0 => 0 | 85 => 285 | 2 => 2 | 168 => 287 | 53 => 266 | 175 => 312 | 46 => 219 | 210 => 315 | 127 => 298 | 145 => 334 | 143 => 332 | 21 => 21 | 171 => 290 | 173 => 292 | 212 => 318 | 51 => 264 | 20 => 20 | 213 => 319 | 232 => 341 | 233 => 342 | 80 => 255 | n => n, fun | 15 => 3 | 16 => 4 | 17 => 5 | 18 => 8 | 19 => 9 | n => n⟩
theorem Tryz.lays172 : Go.Proofs.Lays.n172 Tryz.prog Tryz.lays172_ren := by constructor<;>intros<;>first|kernel_rfl|decide
open Go.RowKit in
theorem Tryz.strconv_Atoi (s : ByteArray) (n : Int) (hl : s.size ≤ 18) (h : Lib.atoi s.data.toList = some n) (w : World) :
    Calls Tryz.prog 144 #[.string s] w fun e w' => e = .returned (.tuple #[.int .i64 n, .nilIface]) ∧ ∃ t, w' = Lib.bytesWorld w 5 t := Any.strconv_Atoi Tryz.lays172 s n hl h w
def Tryz.laysM171_ren : Go.Shelf.Ren := ⟨fun | 171 => 95 | 243 => 151 | 246 => 205 | 283 => 253 | 284 => 254 | 285 => 255 | 286 => 256 | 129 => 219 | 317 => 286 | 318 => 287 | 319 => 288 | 320 => 289 | 337 => 303 | 338 => 304 | n => n, fun | 3 => 3 | 9 => 9 | 2 => 2 | 4 => 4 | 171 => 290 | 0 => 0 | 53 => 266 | 37 => 231 | 5 => 5 | 173 => 292 | 212 => 318 | 51 => 264 | 20 => 20 | 213 => 319 | 46 => 219 | 232 => 341 | 233 => 342 | n => n, fun | 17 => 5 | 18 => 8 | 19 => 9 | n => n⟩
theorem Tryz.laysM171 : Go.Proofs.LaysM.n171 Tryz.prog Tryz.laysM171_ren := by constructor<;>intros<;>first|kernel_rfl|decide|(constructor<;>intros<;>first|kernel_rfl|decide)
open Go.RowKit Go.Sort Go.Lib in
theorem Tryz.strconv_Itoa (n : Int) (h0 : -9223372036854775808 ≤ n) (h1 : n ≤ 9223372036854775807) (w : World) (htab : Lib.TabIs Tryz.prog w "internal/strconv.uint64pow10" .u64 Lib.pow10Tab) :
    Calls Tryz.prog 95 #[.int .i64 n] w fun e w' => e = .returned (.string ⟨(Lib.itoa n).toArray⟩) ∧ ∃ k os, w' = grow (w.drewN k) os := Any.strconv_Itoa Tryz.laysM171 n h0 h1 w htab
def Tryz.lays144_ren : Go.Shelf.Ren := ⟨fun | 144 => 125 | 143 => 182 | 219 => 234 | 217 => 275 | 225 => 276 | 224 => 277 | 267 => 278 | 266 => 296 | 314 => 297 | n => n, fun | 9 => 9 | 4 => 4 | 3 => 3 | 5 => 5 | 46 => 219 | 146 => 322 | 51 => 264 | n => n, fun | 1 => 2 | n => n⟩
theorem Tryz.lays144 : Go.Proofs.Lays.n144 Tryz.prog Tryz.lays144_ren := by constructor<;>intros<;>first|kernel_rfl|decide
open Go.RowKit Go.Lib in
theorem Tryz.strings_Contains_one (s : ByteArray) (c : UInt8) (w : World) :
    Calls Tryz.prog 125 #[.string s, .string ⟨#[c]⟩] w fun e w' => e = .returned (.bool (decide (0 ≤ Lib.indexByte s.data.toList c))) ∧ w' = w := Any.strings_Contains_one Tryz.lays144 s c w
def Tryz.lays145_ren : Go.Shelf.Ren := ⟨fun | 145 => 138 | 220 => 194 | 219 => 234 | 217 => 275 | 225 => 276 | 224 => 277 | 267 => 278 | 266 => 296 | 314 => 297 | n => n, fun | 9 => 9 | 4 => 4 | 59 => 195 | 3 => 3 | 5 => 5 | 46 => 219 | 146 => 322 | 51 => 264 | n => n, fun | 1 => 2 | n => n⟩
theorem Tryz.lays145 : Go.Proofs.Lays.n145 Tryz.prog Tryz.lays145_ren := by constructor<;>intros<;>first|kernel_rfl|decide
open Go.RowKit Go.Lib in
theorem Tryz.strings_Cut (s sep : ByteArray) (m : Int) (w : World) (hs : s.size < 4294967281) (hm : w.cell? ⟨2, 0, none⟩ = some (.int .i64 m)) :
    Calls Tryz.prog 138 #[.string s, .string sep] w fun e w' => e = .returned (.tuple #[.string ⟨(Lib.cut s.data.toList sep.data.toList).1.toArray⟩, .string ⟨(Lib.cut s.data.toList sep.data.toList).2.1.toArray⟩, .bool (Lib.cut s.data.toList sep.data.toList).2.2]) ∧ ∃ n, w' = w.drewN n := Any.strings_Cut Tryz.lays145 s sep m w hs hm
def Tryz.lays99_ren : Go.Shelf.Ren := ⟨fun | 99 => 98 | 206 => 154 | n => n, fun | 9 => 9 | 4 => 4 | 3 => 3 | n => n, fun | n => n⟩
theorem Tryz.lays99 : Go.Proofs.Lays.n99 Tryz.prog Tryz.lays99_ren := by constructor<;>intros<;>first|kernel_rfl|decide
open Go.RowKit Go.Lib in
theorem Tryz.strings_HasPrefix (s p : ByteArray) (w : World) :
    Calls Tryz.prog 98 #[.string s, .string p] w fun e w' => e = .returned (.bool (Lib.hasPrefix s.data.toList p.data.toList)) ∧ w' = w := Any.strings_HasPrefix Tryz.lays99 s p w
def Tryz.lays101_ren : Go.Shelf.Ren := ⟨fun | 101 => 88 | 208 => 141 | 206 => 154 | n => n, fun | 9 => 9 | 4 => 4 | 3 => 3 | n => n, fun | n => n⟩
theorem Tryz.lays101 : Go.Proofs.Lays.n101 Tryz.prog Tryz.lays101_ren := by constructor<;>intros<;>first|kernel_rfl|decide
open Go.RowKit Go.Lib in
theorem Tryz.strings_TrimPrefix (s p : ByteArray) (w : World) :
    Calls Tryz.prog 88 #[.string s, .string p] w fun e w' => e = .returned (.string ⟨(Lib.trimPrefix s.data.toList p.data.toList).toArray⟩) ∧ w' = w := Any.strings_TrimPrefix Tryz.lays101 s p w
def Tryz.lays105_ren : Go.Shelf.Ren := ⟨fun | 105 => 208 | 212 => 258 | 99 => 98 | 165 => 259 | 166 => 207 | 170 => 260 | 169 => 209 | 263 => 291 | 264 => 292 | 206 => 154 | 240 => 257 | 241 => 293 | 276 => 290 | 277 => 305 | n => n, fun | 9 => 9 | 3 => 3 | 4 => 4 | 20 => 20 | 0 => 0 | 46 => 219 | 109 => 294 | 5 => 5 | 72 => 252 | 76 => 202 | 51 => 264 | 146 => 322 | 53 => 266 | 148 => 324 | 70 => 250 | 37 => 231 | 75 => 201 | 127 => 298 | 164 => 320 | 80 => 255 | n => n, fun | n => n⟩
theorem Tryz.lays105 : Go.Proofs.Lays.n105 Tryz.prog Tryz.lays105_ren := by constructor<;>intros<;>first|kernel_rfl|decide
theorem Tryz.Builder_Extra_105 : Builder.Extra Tryz.prog Tryz.lays105_ren := by constructor<;>intros<;>first|kernel_rfl|decide|(constructor<;>intros<;>first|kernel_rfl|decide)
open Go.RowKit Go.Lib in
theorem Tryz.strings_Repeat (s : ByteArray) (c : Nat) (w : World) (hc : c ≤ 9223372036854775807) (hlen : s.size * c ≤ 140737488355328) :
    Calls Tryz.prog 208 #[.string s, .int .i64 c] w fun e w' => e = .returned (.string ⟨(Lib.repeatL s.data.toList c).toArray⟩) ∧ Below w.heap.size w w' := Any.strings_Repeat Tryz.lays105 Tryz.Builder_Extra_105 s c w hc hlen
end Go.Proofs
