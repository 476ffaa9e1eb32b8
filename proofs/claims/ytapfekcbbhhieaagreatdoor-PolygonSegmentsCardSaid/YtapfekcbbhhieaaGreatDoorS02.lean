/-
  The contracts of strings.Builder's writing methods and of strings.Trim at an ASCII cutset, out of the kit's library, at this seat's translation.
  The decimal numerals of numbers, as lists of bytes: a list of digits without a leading zero is the numeral of the number that it spells. Plain Lean: no program stands in this text.
  Natural numbers as lists of limbs, the least one first: plain Lean, no program stands in this text.
  What all walks of this seat use: the state of the package-level variables, slices that read as lists, and small laws.
-/
import Derived.Test.YtapfekcbbhhieaaGreatDoorS01
import Derived.Shelf.Strings.BuilderK
import Derived.Shelf.Strings.SlTrimAscii
import Derived.Lib.ItoaNum
import Derived.Lib.AtoiTie
import Derived.Lib.AtoiAllCases
import Derived.WalkKit
import Derived.OwnWalk
import Derived.LoopTactic
import Derived.Outline
import Derived.Below
import Derived.Deep.QuietTactic
import Derived.BigQuiet
import Derived.WalkSpells
import Derived.WalkLawsBesides
import Derived.Lib.Hide
import Derived.Lib.AtoiErrMem
import Derived.Deep.RegionHeld3
import Derived.Deep.DrawnRows
import Derived.StillTailTactics
import Derived.Laws.AppendOwn
import Derived.Deep.LoopGhost
namespace Go.Proofs
open Go.Shelf Go.RowKit
def Tryz.lays240_ren : Go.Shelf.Ren := ⟨fun | 240 => 196 | 276 => 228 | n => n, fun | 0 => 0 | 4 => 4 | 9 => 9 | 20 => 20 | 70 => 185 | 72 => 187 | 37 => 172 | 164 => 264 | n => n, fun | n => n⟩
theorem Tryz.lays240 : Go.Proofs.Lays.n240 Tryz.prog Tryz.lays240_ren := {
  mixed := by kernel_rfl
  f240 := Tryz.func196.trans (congrArg some (by kernel_rfl))
  f276 := Tryz.func228.trans (congrArg some (by kernel_rfl))
  t0 := Tryz.underlying0
  a0 := Tryz.isAgg0
  z0 := Tryz.sizeOf0
  v0 := Tryz.zeroValue0
  t4 := Tryz.underlying4
  a4 := Tryz.isAgg4
  z4 := Tryz.sizeOf4
  v4 := Tryz.zeroValue4
  t9 := Tryz.underlying9
  a9 := Tryz.isAgg9
  z9 := Tryz.sizeOf9
  v9 := Tryz.zeroValue9
  t20 := Tryz.underlying20
  a20 := Tryz.isAgg20
  z20 := Tryz.sizeOf20
  v20 := Tryz.zeroValue20
  t70 := Tryz.underlying185
  a70 := Tryz.isAgg185
  z70 := Tryz.sizeOf185
  v70 := Tryz.zeroValue185
  t72 := Tryz.underlying187
  a72 := Tryz.isAgg187
  z72 := Tryz.sizeOf187
  v72 := Tryz.zeroValue187
  t164 := Tryz.underlying264
  a164 := Tryz.isAgg264
  z164 := Tryz.sizeOf264
  v164 := Tryz.zeroValue264 }
def Tryz.lays167_ren : Go.Shelf.Ren := ⟨fun | 167 => 142 | 240 => 196 | 276 => 228 | n => n, fun | 0 => 0 | 4 => 4 | 5 => 5 | 9 => 9 | 20 => 20 | 37 => 172 | 70 => 185 | 72 => 187 | 75 => 140 | 164 => 264 | 80 => 190 | n => n, fun | n => n⟩
theorem Tryz.lays167 : Go.Proofs.Lays.n167 Tryz.prog Tryz.lays167_ren := {
  mixed := by kernel_rfl
  f167 := Tryz.func142.trans (congrArg some (by kernel_rfl))
  f240 := Tryz.func196.trans (congrArg some (by kernel_rfl))
  f276 := Tryz.func228.trans (congrArg some (by kernel_rfl))
  t0 := Tryz.underlying0
  a0 := Tryz.isAgg0
  z0 := Tryz.sizeOf0
  v0 := Tryz.zeroValue0
  t4 := Tryz.underlying4
  a4 := Tryz.isAgg4
  z4 := Tryz.sizeOf4
  v4 := Tryz.zeroValue4
  t5 := Tryz.underlying5
  a5 := Tryz.isAgg5
  z5 := Tryz.sizeOf5
  v5 := Tryz.zeroValue5
  t9 := Tryz.underlying9
  a9 := Tryz.isAgg9
  z9 := Tryz.sizeOf9
  v9 := Tryz.zeroValue9
  t20 := Tryz.underlying20
  a20 := Tryz.isAgg20
  z20 := Tryz.sizeOf20
  v20 := Tryz.zeroValue20
  t37 := Tryz.underlying172
  a37 := Tryz.isAgg172
  z37 := Tryz.sizeOf172
  v37 := Tryz.zeroValue172
  t70 := Tryz.underlying185
  a70 := Tryz.isAgg185
  z70 := Tryz.sizeOf185
  v70 := Tryz.zeroValue185
  t72 := Tryz.underlying187
  a72 := Tryz.isAgg187
  z72 := Tryz.sizeOf187
  v72 := Tryz.zeroValue187
  t75 := Tryz.underlying140
  a75 := Tryz.isAgg140
  z75 := Tryz.sizeOf140
  v75 := Tryz.zeroValue140
  t164 := Tryz.underlying264
  a164 := Tryz.isAgg264
  z164 := Tryz.sizeOf264
  v164 := Tryz.zeroValue264 }
def Tryz.lays166_ren : Go.Shelf.Ren := ⟨fun | 166 => 143 | 240 => 196 | 276 => 228 | n => n, fun | 0 => 0 | 3 => 3 | 4 => 4 | 9 => 9 | 20 => 20 | 37 => 172 | 70 => 185 | 72 => 187 | 75 => 140 | 164 => 264 | 80 => 190 | n => n, fun | n => n⟩
theorem Tryz.lays166 : Go.Proofs.Lays.n166 Tryz.prog Tryz.lays166_ren := {
  mixed := by kernel_rfl
  f166 := Tryz.func143.trans (congrArg some (by kernel_rfl))
  f240 := Tryz.func196.trans (congrArg some (by kernel_rfl))
  f276 := Tryz.func228.trans (congrArg some (by kernel_rfl))
  t0 := Tryz.underlying0
  a0 := Tryz.isAgg0
  z0 := Tryz.sizeOf0
  v0 := Tryz.zeroValue0
  t3 := Tryz.underlying3
  a3 := Tryz.isAgg3
  z3 := Tryz.sizeOf3
  v3 := Tryz.zeroValue3
  t4 := Tryz.underlying4
  a4 := Tryz.isAgg4
  z4 := Tryz.sizeOf4
  v4 := Tryz.zeroValue4
  t9 := Tryz.underlying9
  a9 := Tryz.isAgg9
  z9 := Tryz.sizeOf9
  v9 := Tryz.zeroValue9
  t20 := Tryz.underlying20
  a20 := Tryz.isAgg20
  z20 := Tryz.sizeOf20
  v20 := Tryz.zeroValue20
  t37 := Tryz.underlying172
  a37 := Tryz.isAgg172
  z37 := Tryz.sizeOf172
  v37 := Tryz.zeroValue172
  t70 := Tryz.underlying185
  a70 := Tryz.isAgg185
  z70 := Tryz.sizeOf185
  v70 := Tryz.zeroValue185
  t72 := Tryz.underlying187
  a72 := Tryz.isAgg187
  z72 := Tryz.sizeOf187
  v72 := Tryz.zeroValue187
  t75 := Tryz.underlying140
  a75 := Tryz.isAgg140
  z75 := Tryz.sizeOf140
  v75 := Tryz.zeroValue140
  t164 := Tryz.underlying264
  a164 := Tryz.isAgg264
  z164 := Tryz.sizeOf264
  v164 := Tryz.zeroValue264 }
theorem Tryz.Builder_Extra_167 : Builder.Extra Tryz.prog Tryz.lays167_ren where
  sizeBuilder := by kernel_rfl
  liesBuilder := by kernel_rfl
  t5 := Tryz.underlying5
  a5 := Tryz.isAgg5
  z5 := Tryz.sizeOf5
  v5 := Tryz.zeroValue5
  infoByte := by kernel_rfl
  cellsByte := by kernel_rfl
  sizeByte := by kernel_rfl
  neB5 := by decide
theorem Tryz.Builder_Extra_166 : Builder.Extra Tryz.prog Tryz.lays166_ren where
  sizeBuilder := by kernel_rfl
  liesBuilder := by kernel_rfl
  t5 := Tryz.underlying5
  a5 := Tryz.isAgg5
  z5 := Tryz.sizeOf5
  v5 := Tryz.zeroValue5
  infoByte := by kernel_rfl
  cellsByte := by kernel_rfl
  sizeByte := by kernel_rfl
  neB5 := by decide

theorem Tryz.WriteByte_k (B b : Nat) (bs : List Value) (c : Int) (w : World) (h : Lib.IsBuilderF 187 5 B b bs w) (hlen : bs.length + 1 ≤ 140737488355328) (hBw : B ≤ w.heap.size) :
    Calls Tryz.prog 142 #[.pointer (some ⟨b, 0, none⟩), .int .u8 c] w fun e w' => e = .returned .nilIface ∧ (Lib.BuilderAtF 187 5 B b (.pointer (some ⟨b, 0, none⟩)) (bs ++ [.int .u8 c]) w' ∧ Below B w w' ∧ Lib.OthersKept 5 (some b) w w') :=
  Any.Builder_WriteByte_k Tryz.lays167 Tryz.Builder_Extra_167 B b bs c w h hlen hBw
theorem Tryz.WriteString_k (B b : Nat) (bs : List Value) (s : ByteArray) (w : World) (h : Lib.IsBuilderF 187 5 B b bs w) (hlen : bs.length + s.size ≤ 140737488355328) (hBw : B ≤ w.heap.size) :
    Calls Tryz.prog 143 #[.pointer (some ⟨b, 0, none⟩), .string s] w fun e w' => e = .returned (.tuple #[.int .i64 s.size, .nilIface]) ∧ (Lib.BuilderAtF 187 5 B b (.pointer (some ⟨b, 0, none⟩)) (bs ++ Lib.strCells s) w' ∧ Below B w w' ∧ Lib.OthersKept 5 (some b) w w') :=
  Any.Builder_WriteString_k Tryz.lays166 Tryz.Builder_Extra_166 B b bs s w h hlen hBw
theorem Tryz.String_k (B b : Nat) (l : List UInt8) (w : World) (h : Lib.IsBuilderF 187 5 B b (Lib.byteCells l) w) (hBw : B ≤ w.heap.size) :
    Calls Tryz.prog 145 #[.pointer (some ⟨b, 0, none⟩)] w fun e w' => e = .returned (.string ⟨l.toArray⟩) ∧ (Lib.IsBuilderF 187 5 B b (Lib.byteCells l) w' ∧ Below B w w' ∧ Lib.OthersKept 5 (some b) w w') :=
  Any.Builder_String_any_k Tryz.lays169 Tryz.Builder_Extra_169 B b l w h hBw
theorem Tryz.Trim_ascii (s cutset : ByteArray) (w : World) (hs : s.size ≤ 9223372036854775807) (hcs : cutset.size < 4294967281) (hascii : ∀ (j : Nat) b, cutset.data.toList[j]? = some b → b.toNat < 128) :
    Calls Tryz.prog 138 #[.string s, .string cutset] w fun e w' => e = .returned (.string ⟨(Lib.trimS s.data.toList cutset.data.toList).toArray⟩) ∧ Below w.heap.size w w' :=
  Any.strings_Trim_laid Tryz.lays160 (by kernel_rfl) s cutset w hs hcs hascii
#print axioms Tryz.WriteString_k
#print axioms Tryz.Trim_ascii
end Go.Proofs

namespace Go.Proofs.YtapfekcbbhhieaaGreatDoor.Str
open Go.Lib

/-- A byte is a decimal digit. -/
def isDig (c : UInt8) : Bool := decide (48 ≤ c.toNat) && decide (c.toNat ≤ 57)

theorem isDig_iff (c : UInt8) : isDig c = true ↔ 48 ≤ c.toNat ∧ c.toNat ≤ 57 := by simp [isDig]

/-- The number that digits spell. -/
def val (l : List UInt8) : Nat := l.foldl (fun a c => 10 * a + (c.toNat - 48)) 0

theorem val_nil : val [] = 0 := rfl
theorem val_snoc (l : List UInt8) (c : UInt8) : val (l ++ [c]) = 10 * val l + (c.toNat - 48) := by simp [val]

/-- Digits, at least one, and no zero ahead of another digit. -/
def isNum (l : List UInt8) : Prop := l ≠ [] ∧ (∀ c ∈ l, 48 ≤ c.toNat ∧ c.toNat ≤ 57) ∧ (l.head? = some 48 → l.length = 1)

theorem ofNat_toNat {n : Nat} (h : n < 256) : (UInt8.ofNat n).toNat = n := by
  simp; omega

theorem decDigits_small {n : Nat} (h : n < 10) : decDigits n = [UInt8.ofNat (48 + n)] := by rw [decDigits, dif_pos h]
theorem decDigits_big {n : Nat} (h : 10 ≤ n) : decDigits n = decDigits (n / 10) ++ [UInt8.ofNat (48 + n % 10)] := by rw [decDigits, dif_neg (by omega)]
theorem decDigits_snoc {n d : Nat} (h : 0 < n) (hd : d < 10) : decDigits (10 * n + d) = decDigits n ++ [UInt8.ofNat (48 + d)] := by
  rw [decDigits_big (by omega), show (10 * n + d) / 10 = n by omega, show (10 * n + d) % 10 = d by omega]

theorem decDigits_ne (n : Nat) : decDigits n ≠ [] := by
  intro h; have := decDigits_length n; have := nDigits_pos n; rw [h] at *; simp at *; omega

theorem decDigits_digit (n : Nat) : ∀ c ∈ decDigits n, 48 ≤ c.toNat ∧ c.toNat ≤ 57 := by
  induction n using Nat.strongRecOn with
  | _ n ih =>
    by_cases h : n < 10
    · rw [decDigits_small h]; intro c hc
      simp only [List.mem_singleton] at hc
      subst hc; rw [ofNat_toNat (by omega)]; omega
    · rw [decDigits_big (by omega)]; intro c hc
      rcases List.mem_append.1 hc with hc | hc
      · exact ih _ (by omega) c hc
      · simp only [List.mem_singleton] at hc
        subst hc; rw [ofNat_toNat (by omega)]; omega

theorem val_dec (n : Nat) : val (decDigits n) = n := by
  induction n using Nat.strongRecOn with
  | _ n ih =>
    by_cases h : n < 10
    · rw [decDigits_small h]; simp [val]; omega
    · rw [decDigits_big (by omega), val_snoc, ih _ (by omega), ofNat_toNat (by omega)]; omega

theorem dec_inj {m n : Nat} (h : decDigits m = decDigits n) : m = n := by rw [← val_dec m, ← val_dec n, h]

theorem head_dec (n : Nat) (h : (decDigits n).head? = some 48) : n = 0 := by
  induction n using Nat.strongRecOn with
  | _ n ih =>
    by_cases hs : n < 10
    · rw [decDigits_small hs] at h
      simp only [List.head?_cons, Option.some.injEq] at h
      have := congrArg UInt8.toNat h
      rw [ofNat_toNat (by omega)] at this
      simp at this; omega
    · rw [decDigits_big (by omega), List.head?_append] at h
      cases hd : (decDigits (n / 10)).head? with
      | none => exact absurd (List.head?_eq_none_iff.1 hd) (decDigits_ne _)
      | some c =>
        rw [hd] at h
        have := ih (n / 10) (by omega) (by rw [hd]; simpa using h)
        omega

theorem isNum_dec (n : Nat) : isNum (decDigits n) :=
  ⟨decDigits_ne n, decDigits_digit n, fun h => by rw [head_dec n h, decDigits_length, nDigits_small (by omega)]⟩

theorem isNum_zero : decDigits 0 = [48] := by rw [decDigits_small (by omega)]; rfl

theorem snoc_cases {α : Type} : ∀ (l : List α), l ≠ [] → ∃ i x, l = i ++ [x]
  | [], h => absurd rfl h
  | a :: r, _ => ⟨(a :: r).dropLast, (a :: r).getLast (by simp), (List.dropLast_concat_getLast (by simp)).symm⟩

theorem dec_val_aux (n : Nat) : ∀ l : List UInt8, l.length = n → isNum l → l = decDigits (val l) ∧ (l.head? ≠ some 48 → 0 < val l) := by
  induction n with
  | zero => intro l hl ⟨h, _⟩; exact absurd (List.length_eq_zero_iff.1 hl) h
  | succ n ih =>
    intro l hl ⟨hne, hd, hz⟩
    obtain ⟨i, x, rfl⟩ := snoc_cases l hne
    have hx := hd x (by simp)
    have hx8 : UInt8.ofNat (48 + (x.toNat - 48)) = x := by
      rw [show 48 + (x.toNat - 48) = x.toNat by omega]; exact UInt8.ofNat_toNat
    by_cases hi : i = []
    · subst hi
      simp only [List.nil_append] at *
      have hv : val [x] = x.toNat - 48 := by simp [val]
      refine ⟨?_, fun h => ?_⟩
      · rw [hv, decDigits_small (by omega), hx8]
      · rw [hv]
        have : x.toNat ≠ 48 := fun e => h (by
          have : x = 48 := UInt8.toNat_inj.1 (by simpa using e)
          rw [this]; rfl)
        omega
    · have hh : (i ++ [x]).head? = i.head? := by
        cases i with
        | nil => exact absurd rfl hi
        | cons a r => rfl
      have hnz : i.head? ≠ some 48 := fun e => by
        have := hz (hh.trans e)
        simp at this; exact hi this
      have ⟨e1, e2⟩ := ih i (by simpa using hl) ⟨hi, fun c hc => hd c (by simp [hc]), fun e => absurd e hnz⟩
      have hp := e2 hnz
      refine ⟨?_, fun _ => ?_⟩
      · rw [val_snoc, decDigits_snoc hp (by omega), hx8, ← e1]
      · rw [val_snoc]; omega

theorem dec_val {l : List UInt8} (h : isNum l) : decDigits (val l) = l := (dec_val_aux l.length l rfl h).1.symm

theorem isNum_iff (l : List UInt8) : isNum l ↔ ∃ n, l = decDigits n :=
  ⟨fun h => ⟨_, (dec_val h).symm⟩, fun ⟨n, e⟩ => e ▸ isNum_dec n⟩

theorem nDigits_le_iff (n k : Nat) (hk : 0 < k) : nDigits n ≤ k ↔ n < 10 ^ k := by
  constructor
  · intro h; exact Nat.lt_of_lt_of_le (lt_pow_nDigits n) (Nat.pow_le_pow_right (by decide) h)
  · induction n using Nat.strongRecOn generalizing k with
    | _ n ih =>
      intro h
      by_cases hs : n < 10
      · rw [nDigits_small hs]; exact hk
      · rw [nDigits_big hs]
        obtain ⟨j, rfl⟩ : ∃ j, k = j + 1 := ⟨k - 1, by omega⟩
        have hj : 0 < j := by
          rcases Nat.eq_zero_or_pos j with rfl | h'
          · simp at h; omega
          · exact h'
        have := ih (n / 10) (by omega) j hj (by rw [Nat.pow_succ] at h; omega)
        omega

theorem dec_len_le_iff (n k : Nat) (hk : 0 < k) : (decDigits n).length ≤ k ↔ n < 10 ^ k := by rw [decDigits_length]; exact nDigits_le_iff n k hk

/-- The first byte of a numeral is a digit. -/
theorem dec_head (n : Nat) : ∃ c r, decDigits n = c :: r ∧ 48 ≤ c.toNat ∧ c.toNat ≤ 57 := by
  cases h : decDigits n with
  | nil => exact absurd h (decDigits_ne n)
  | cons c r => exact ⟨c, r, rfl, decDigits_digit n c (by rw [h]; simp)⟩

theorem itoa_nonneg (n : Nat) : itoa (n : Int) = decDigits n := by
  unfold itoa; rw [if_neg (by omega)]; simp
theorem itoa_neg (n : Nat) (h : 0 < n) : itoa (-(n : Int)) = 45 :: decDigits n := by
  unfold itoa; rw [if_pos (by omega)]; simp
theorem itoa_zero : itoa 0 = [48] := by
  have := itoa_nonneg 0; rw [isNum_zero] at this; simpa using this
theorem itoa_one : itoa 1 = [49] := by
  have := itoa_nonneg 1; rw [decDigits_small (by omega)] at this; simpa using this

theorem itoa_inj {a b : Int} (h : itoa a = itoa b) : a = b := by
  unfold itoa at h
  obtain ⟨c, r, e, h1, h2⟩ := dec_head a.toNat
  obtain ⟨c', r', e', h1', h2'⟩ := dec_head b.toNat
  split at h <;> split at h
  · have := dec_inj (List.cons.inj h).2; omega
  · rw [e'] at h
    have := congrArg UInt8.toNat (List.cons.inj h).1
    simp at this; omega
  · rw [e] at h
    have := congrArg UInt8.toNat (List.cons.inj h).1
    simp at this; omega
  · have := dec_inj h; omega

theorem itoa_ne (a : Int) : itoa a ≠ [] := by
  unfold itoa; split
  · simp
  · exact decDigits_ne _

/-- How many digits a number has. -/
def digs (a : Int) : Nat := (decDigits a.natAbs).length

theorem digs_le_iff (a : Int) (k : Nat) (hk : 0 < k) : digs a ≤ k ↔ a.natAbs < 10 ^ k := dec_len_le_iff _ _ hk
theorem digs_pos (a : Int) : 1 ≤ digs a := by unfold digs; rw [decDigits_length]; exact nDigits_pos _
theorem itoa_len (a : Int) : (itoa a).length = digs a + if a < 0 then 1 else 0 := by
  unfold itoa digs; split
  · simp
  · simp [show a.toNat = a.natAbs by omega]
theorem itoa_len_lo (a : Int) : digs a ≤ (itoa a).length := by rw [itoa_len]; omega
theorem itoa_len_hi (a : Int) : (itoa a).length ≤ digs a + 1 := by rw [itoa_len]; split <;> omega

/-- The form of an integer's numeral: a sign, but not of 0, and digits. -/
theorem itoa_form (a : Int) : (0 ≤ a ∧ itoa a = decDigits a.natAbs) ∨ (a < 0 ∧ itoa a = 45 :: decDigits a.natAbs) := by
  unfold itoa; split
  · exact .inr ⟨by assumption, rfl⟩
  · exact .inl ⟨by omega, by rw [show a.toNat = a.natAbs by omega]⟩

/-- A string is the numeral of an integer. -/
theorem is_itoa (l : List UInt8) : (∃ a, l = itoa a) ↔ (isNum l ∨ ∃ r, l = 45 :: r ∧ isNum r ∧ r ≠ [48]) := by
  constructor
  · rintro ⟨a, rfl⟩
    rcases itoa_form a with ⟨h, e⟩ | ⟨h, e⟩ <;> rw [e]
    · exact .inl (isNum_dec _)
    · refine .inr ⟨_, rfl, isNum_dec _, fun h0 => ?_⟩
      rw [← isNum_zero] at h0
      have := dec_inj h0; omega
  · rintro (h | ⟨r, rfl, h, hz⟩)
    · exact ⟨(val l : Nat), by rw [itoa_nonneg, dec_val h]⟩
    · have hp : 0 < val r := by
        rcases Nat.eq_zero_or_pos (val r) with h0 | h0
        · exact absurd (by rw [← dec_val h, h0, isNum_zero]) hz
        · exact h0
      exact ⟨-(val r : Nat), by rw [itoa_neg _ hp, dec_val h]⟩

/-! ### strconv.Atoi at a numeral -/

theorem digitVal_of {c : UInt8} (h : 48 ≤ c.toNat ∧ c.toNat ≤ 57) : digitVal c = some (c.toNat - 48) := by
  unfold digitVal; rw [if_pos h]

theorem decFrom_val : ∀ (l : List UInt8) (acc : Nat), (∀ c ∈ l, 48 ≤ c.toNat ∧ c.toNat ≤ 57) → decFrom acc l = some (l.foldl (fun a c => 10 * a + (c.toNat - 48)) acc)
  | [], acc, _ => rfl
  | c :: r, acc, h => by
    have hc := h c (by simp)
    have := decFrom_val r (acc * 10 + (c.toNat - 48)) (fun x hx => h x (by simp [hx]))
    simp only [decFrom, digitVal_of hc, List.foldl_cons]
    rw [this, Nat.mul_comm acc 10]

theorem decNat_dec (n : Nat) : decNat (decDigits n) = some n := by
  unfold decNat
  have : (decDigits n).isEmpty = false := by
    cases h : decDigits n with
    | nil => exact absurd h (decDigits_ne n)
    | cons => rfl
  rw [this, if_neg (by simp), decFrom_val _ _ (decDigits_digit n)]
  exact congrArg some (val_dec n)

theorem atoi_itoa (a : Int) : atoi (itoa a) = some a := by
  rcases itoa_form a with ⟨h, e⟩ | ⟨h, e⟩ <;> rw [e]
  · obtain ⟨c, r, e2, h1, h2⟩ := dec_head a.natAbs
    have hd := decNat_dec a.natAbs
    rw [e2] at hd ⊢
    have n1 : (c == 45) = false := by
      apply beq_eq_false_iff_ne.2; intro e3; rw [e3] at h1; simp at h1
    have n2 : (c == 43) = false := by
      apply beq_eq_false_iff_ne.2; intro e3; rw [e3] at h1; simp at h1
    simp [atoi, n1, n2, hd]; omega
  · simp [atoi, decNat_dec]; omega

theorem atoiAll_itoa (a : Int) (h : (itoa a).length ≤ 18) : atoiAll (itoa a) = .ok a := by
  rw [atoiAll_short _ h, atoi_itoa]; rfl

end Go.Proofs.YtapfekcbbhhieaaGreatDoor.Str

namespace Go.Proofs.YtapfekcbbhhieaaGreatDoor.Limb

/-- The number of a list of limbs. -/
def valL (B : Nat) : List Nat → Nat
  | [] => 0
  | x :: r => x + B * valL B r

theorem valL_append (B : Nat) : ∀ l m : List Nat, valL B (l ++ m) = valL B l + B ^ l.length * valL B m
  | [], m => by simp [valL]
  | x :: r, m => by
    simp only [List.cons_append, valL, valL_append B r m, List.length_cons, Nat.pow_succ]
    rw [Nat.mul_add, Nat.add_assoc, ← Nat.mul_assoc, Nat.mul_comm B (B ^ r.length)]

theorem valL_snoc (B : Nat) (l : List Nat) (x : Nat) : valL B (l ++ [x]) = valL B l + B ^ l.length * x := by
  rw [valL_append]; simp [valL]

def small (B : Nat) (l : List Nat) : Prop := ∀ x ∈ l, x < B

theorem small_append {B : Nat} {l m : List Nat} : small B (l ++ m) ↔ small B l ∧ small B m := by
  unfold small; simp only [List.mem_append]
  exact ⟨fun h => ⟨fun x hx => h x (.inl hx), fun x hx => h x (.inr hx)⟩, fun h x hx => hx.elim (h.1 x) (h.2 x)⟩
theorem small_snoc {B : Nat} {l : List Nat} {x : Nat} (h : small B l) (hx : x < B) : small B (l ++ [x]) :=
  small_append.2 ⟨h, fun y hy => by simp only [List.mem_singleton] at hy; omega⟩
theorem small_nil (B : Nat) : small B [] := fun _ h => by cases h
theorem small_take {B : Nat} {l : List Nat} (h : small B l) (k : Nat) : small B (l.take k) := fun x hx => h x (List.mem_of_mem_take hx)
theorem small_drop {B : Nat} {l : List Nat} (h : small B l) (k : Nat) : small B (l.drop k) := fun x hx => h x (List.mem_of_mem_drop hx)
theorem small_get {B : Nat} {l : List Nat} (h : small B l) {k x : Nat} (hx : l[k]? = some x) : x < B := h x (List.mem_of_getElem? hx)
theorem small_getD {B : Nat} {l : List Nat} (h : small B l) (hB : 0 < B) (k : Nat) : l[k]?.getD 0 < B := by
  cases hx : l[k]? with
  | none => simpa using hB
  | some x => simpa using small_get h hx

theorem valL_lt {B : Nat} : ∀ {l : List Nat}, small B l → valL B l < B ^ l.length
  | [], _ => by simp [valL]
  | x :: r, h => by
    have hx : x < B := h x (by simp)
    have ih := valL_lt (l := r) fun y hy => h y (by simp [hy])
    simp only [valL, List.length_cons, Nat.pow_succ, Nat.mul_comm (B ^ r.length) B]
    have : B * valL B r + B ≤ B * B ^ r.length := by
      rw [← Nat.mul_succ]; exact Nat.mul_le_mul_left _ ih
    omega

/-- Without zeros at the end. -/
def trimL (l : List Nat) : List Nat := (l.reverse.dropWhile (· == 0)).reverse

theorem trimL_nil : trimL [] = [] := rfl
theorem trimL_zero (l : List Nat) : trimL (l ++ [0]) = trimL l := by simp [trimL]
theorem trimL_nz (l : List Nat) {x : Nat} (h : x ≠ 0) : trimL (l ++ [x]) = l ++ [x] := by
  simp [trimL, h]

theorem snoc_cases {α : Type} : ∀ (l : List α), l = [] ∨ ∃ i x, l = i ++ [x]
  | [] => .inl rfl
  | a :: r => .inr ⟨(a :: r).dropLast, (a :: r).getLast (by simp), (List.dropLast_concat_getLast (by simp)).symm⟩

/-- What trimming leaves is the beginning. -/
theorem trimL_spec (n : Nat) : ∀ l : List Nat, l.length = n → ∃ k, k ≤ l.length ∧ trimL l = l.take k ∧ (∀ B, valL B (trimL l) = valL B l) ∧ (trimL l = [] ∨ ∃ i x, trimL l = i ++ [x] ∧ x ≠ 0) := by
  induction n with
  | zero => intro l h; have := List.length_eq_zero_iff.1 h; subst this; exact ⟨0, by simp, rfl, fun _ => rfl, .inl rfl⟩
  | succ n ih =>
    intro l h
    rcases snoc_cases l with rfl | ⟨i, x, rfl⟩
    · simp at h
    by_cases hx : x = 0
    · subst hx
      obtain ⟨k, hk, e, hv, hz⟩ := ih i (by simpa using h)
      refine ⟨k, by simp; omega, ?_, fun B => ?_, ?_⟩
      · rw [trimL_zero, e, List.take_append_of_le_length hk]
      · rw [trimL_zero, hv, valL_snoc]; simp
      · rw [trimL_zero]; exact hz
    · exact ⟨(i ++ [x]).length, Nat.le_refl _, by rw [trimL_nz _ hx, List.take_length], fun B => by rw [trimL_nz _ hx], .inr ⟨i, x, trimL_nz _ hx, hx⟩⟩

theorem trimL_len (l : List Nat) : (trimL l).length ≤ l.length := by
  obtain ⟨k, hk, e, _⟩ := trimL_spec _ l rfl; rw [e, List.length_take]; omega
theorem trimL_take (l : List Nat) : trimL l = l.take (trimL l).length := by
  obtain ⟨k, hk, e, _⟩ := trimL_spec _ l rfl
  have : (trimL l).length = k := by rw [e]; simp; omega
  rw [this]; exact e
theorem trimL_val (B : Nat) (l : List Nat) : valL B (trimL l) = valL B l := by
  obtain ⟨k, hk, _, e, _⟩ := trimL_spec _ l rfl; exact e B
theorem trimL_small {B : Nat} {l : List Nat} (h : small B l) : small B (trimL l) := by rw [trimL_take]; exact small_take h _
theorem trimL_last (l : List Nat) : trimL l = [] ∨ ∃ i x, trimL l = i ++ [x] ∧ x ≠ 0 := by
  obtain ⟨k, hk, _, _, e⟩ := trimL_spec _ l rfl; exact e

/-- The limbs of a number. -/
def limbs (B n : Nat) : List Nat :=
  if _h : n = 0 ∨ B < 2 then [] else (n % B) :: limbs B (n / B)
  termination_by n
  decreasing_by exact Nat.div_lt_self (by omega) (by omega)

theorem limbs_zero (B : Nat) : limbs B 0 = [] := by rw [limbs, dif_pos (.inl rfl)]
theorem limbs_pos {B n : Nat} (hB : 2 ≤ B) (hn : n ≠ 0) : limbs B n = (n % B) :: limbs B (n / B) := by rw [limbs, dif_neg (by omega)]

theorem limbs_val {B : Nat} (hB : 2 ≤ B) (n : Nat) : valL B (limbs B n) = n := by
  induction n using Nat.strongRecOn with
  | _ n ih =>
    by_cases h : n = 0
    · subst h; rw [limbs_zero]; rfl
    · rw [limbs_pos hB h, valL, ih _ (Nat.div_lt_self (by omega) (by omega))]; exact Nat.mod_add_div n B

theorem limbs_small {B : Nat} (hB : 2 ≤ B) (n : Nat) : small B (limbs B n) := by
  induction n using Nat.strongRecOn with
  | _ n ih =>
    by_cases h : n = 0
    · subst h; rw [limbs_zero]; exact small_nil B
    · rw [limbs_pos hB h]; intro x hx
      rcases List.mem_cons.1 hx with rfl | hx
      · exact Nat.mod_lt _ (by omega)
      · exact ih _ (Nat.div_lt_self (by omega) (by omega)) x hx

/-- A list of limbs whose last one is not 0 is the list of its number. -/
theorem limbs_of {B : Nat} (hB : 2 ≤ B) : ∀ l : List Nat, small B l → (l = [] ∨ ∃ i x, l = i ++ [x] ∧ x ≠ 0) → l = limbs B (valL B l)
  | [], _, _ => by rw [valL, limbs_zero]
  | a :: r, hs, hz => by
    have ha : a < B := hs a (by simp)
    have hr : r = [] ∨ ∃ i x, r = i ++ [x] ∧ x ≠ 0 := by
      rcases snoc_cases r with h | ⟨j, y, rfl⟩
      · exact .inl h
      · refine .inr ⟨j, y, rfl, ?_⟩
        rcases hz with hz | ⟨i, x, e, hx⟩
        · simp at hz
        · have : (a :: j) ++ [y] = i ++ [x] := e
          have := (List.append_inj' this rfl).2
          simp at this; omega
    have ih := limbs_of hB r (fun x hx => hs x (by simp [hx])) hr
    have hne : valL B (a :: r) ≠ 0 := by
      rcases hr with rfl | ⟨j, y, rfl, hy⟩
      · rcases hz with hz | ⟨i, x, e, hx⟩
        · cases hz
        · have := (List.append_inj' (show ([] : List Nat) ++ [a] = i ++ [x] from e) rfl).2
          simp at this; subst this
          simp [valL]; exact hx
      · simp only [valL, valL_snoc, Nat.mul_add]
        have : 0 < B * (B ^ j.length * y) := Nat.mul_pos (by omega) (Nat.mul_pos (Nat.pow_pos (by omega)) (by omega))
        omega
    rw [limbs_pos hB hne]
    have e1 : valL B (a :: r) % B = a := by simp only [valL]; rw [Nat.add_mul_mod_self_left, Nat.mod_eq_of_lt ha]
    have e2 : valL B (a :: r) / B = valL B r := by simp only [valL]; rw [Nat.add_mul_div_left _ _ (by omega), Nat.div_eq_of_lt ha, Nat.zero_add]
    rw [e1, e2, ← ih]

theorem trimL_limbs {B : Nat} (hB : 2 ≤ B) {l : List Nat} (h : small B l) : trimL l = limbs B (valL B l) := by
  have := limbs_of hB _ (trimL_small h) (trimL_last l)
  rw [trimL_val] at this; exact this

theorem limbs_last {B : Nat} (hB : 2 ≤ B) (n : Nat) : limbs B n = [] ∨ ∃ i x, limbs B n = i ++ [x] ∧ x ≠ 0 := by
  have : trimL (limbs B n) = limbs B n := by rw [trimL_limbs hB (limbs_small hB n), limbs_val hB]
  rw [← this]; exact trimL_last _

theorem limbs_nil_iff {B : Nat} (hB : 2 ≤ B) (n : Nat) : limbs B n = [] ↔ n = 0 := by
  constructor
  · intro h; rw [← limbs_val hB n, h]; rfl
  · rintro rfl; exact limbs_zero B

theorem limbs_lt {B : Nat} (hB : 2 ≤ B) (n : Nat) : n < B ^ (limbs B n).length := by
  have := valL_lt (limbs_small hB n); rw [limbs_val hB] at this; exact this

theorem limbs_ge {B : Nat} (hB : 2 ≤ B) {n : Nat} (hn : n ≠ 0) : B ^ ((limbs B n).length - 1) ≤ n := by
  rcases limbs_last hB n with h | ⟨i, x, h, hx⟩
  · exact absurd ((limbs_nil_iff hB n).1 h) hn
  · have hv := limbs_val hB n
    rw [h] at hv ⊢
    rw [valL_snoc] at hv
    simp only [List.length_append, List.length_cons, List.length_nil, Nat.zero_add, Nat.add_sub_cancel]
    have : B ^ i.length * 1 ≤ B ^ i.length * x := Nat.mul_le_mul_left _ (by omega)
    omega

theorem limbs_len_le {B : Nat} (hB : 2 ≤ B) {n k : Nat} (h : n < B ^ k) : (limbs B n).length ≤ k := by
  by_cases hn : n = 0
  · subst hn; rw [limbs_zero]; simp
  · have := limbs_ge hB hn
    have h2 : B ^ ((limbs B n).length - 1) < B ^ k := Nat.lt_of_le_of_lt this h
    have := (Nat.pow_lt_pow_iff_right (by omega)).1 h2
    omega

theorem limbs_len_lt_of {B : Nat} (hB : 2 ≤ B) {m n : Nat} (h : (limbs B m).length < (limbs B n).length) : m < n := by
  have h1 := limbs_lt hB m
  have h2 : n ≠ 0 := fun e => by subst e; rw [limbs_zero] at h; simp at h
  have h3 := limbs_ge hB h2
  have h4 : B ^ (limbs B m).length ≤ B ^ ((limbs B n).length - 1) := Nat.pow_le_pow_right (by omega) (by omega)
  omega

/-- One more limb of a beginning. -/
theorem take_succ_getD (l : List Nat) (k : Nat) (B : Nat) : valL B (l.take (k + 1)) = valL B (l.take k) + B ^ k * l[k]?.getD 0 := by
  by_cases h : k < l.length
  · rw [List.take_succ_eq_append_getElem h, valL_snoc, List.length_take, Nat.min_eq_left (by omega)]
    simp [h]
  · rw [List.take_of_length_le (by omega), List.take_of_length_le (by omega), List.getElem?_eq_none (by omega)]; simp

/-- From the end on. -/
theorem valL_drop_succ (l : List Nat) (k : Nat) (B : Nat) (h : k < l.length) : valL B (l.drop k) = l[k] + B * valL B (l.drop (k + 1)) := by
  rw [List.drop_eq_getElem_cons h]; rfl

theorem valL_split (B : Nat) (l : List Nat) (k : Nat) : valL B l = valL B (l.take k) + B ^ (l.take k).length * valL B (l.drop k) := by
  rw [← valL_append, List.take_append_drop]

/-! ### Sums and differences, limb by limb -/

/-- The limbs and the carry after k steps. -/
def combTo (f : Nat → Nat → Nat → Nat × Nat) (a b : List Nat) : Nat → List Nat × Nat
  | 0 => ([], 0)
  | k + 1 => let r := combTo f a b k; let s := f (a[k]?.getD 0) (b[k]?.getD 0) r.2; (r.1 ++ [s.1], s.2)

theorem combTo_len (f : Nat → Nat → Nat → Nat × Nat) (a b : List Nat) : ∀ k, (combTo f a b k).1.length = k
  | 0 => rfl
  | k + 1 => by simp [combTo, combTo_len f a b k]

def plusF (B x y c : Nat) : Nat × Nat := ((x + y + c) % B, (x + y + c) / B)
def minusF (B x y c : Nat) : Nat × Nat := if y + c ≤ x then (x - y - c, 0) else (x + B - y - c, 1)

theorem plusTo {B : Nat} (hB : 2 ≤ B) {a b : List Nat} (ha : small B a) (hb : small B b) : ∀ k,
    small B (combTo (plusF B) a b k).1 ∧ (combTo (plusF B) a b k).2 ≤ 1 ∧
      valL B (combTo (plusF B) a b k).1 + B ^ k * (combTo (plusF B) a b k).2 = valL B (a.take k) + valL B (b.take k)
  | 0 => ⟨small_nil B, by simp [combTo], by simp [combTo, valL]⟩
  | k + 1 => by
    obtain ⟨h1, h2, h3⟩ := plusTo hB ha hb k
    have hx := small_getD ha (by omega) k
    have hy := small_getD hb (by omega) k
    have hl := combTo_len (plusF B) a b k
    simp only [combTo]
    generalize combTo (plusF B) a b k = r at *
    obtain ⟨o, c⟩ := r
    rw [take_succ_getD, take_succ_getD]
    generalize a[k]?.getD 0 = x at *
    generalize b[k]?.getD 0 = y at *
    simp only [plusF] at *
    refine ⟨small_snoc h1 (Nat.mod_lt _ (by omega)), ?_, ?_⟩
    · have : (x + y + c) / B < 2 := Nat.div_lt_of_lt_mul (by omega)
      omega
    · rw [valL_snoc, hl, Nat.pow_succ]
      have e := Nat.mod_add_div (x + y + c) B
      generalize (x + y + c) % B = m at *
      generalize (x + y + c) / B = q at *
      have : B ^ k * m + B ^ k * B * q = B ^ k * (x + y + c) := by rw [← e, Nat.mul_add, Nat.mul_assoc]
      rw [Nat.mul_add, Nat.mul_add] at this
      omega

/-- The sum of two lists of limbs. -/
theorem plus_trim {B : Nat} (hB : 2 ≤ B) {a b : List Nat} (ha : small B a) (hb : small B b) :
    trimL (combTo (plusF B) a b (max a.length b.length + 1)).1 = limbs B (valL B a + valL B b) := by
  obtain ⟨h1, h2, h3⟩ := plusTo hB ha hb (max a.length b.length + 1)
  rw [trimL_limbs hB h1]
  congr 1
  rw [List.take_of_length_le (by omega), List.take_of_length_le (by omega)] at h3
  have ea := valL_lt ha
  have eb := valL_lt hb
  have la : B ^ a.length ≤ B ^ max a.length b.length := Nat.pow_le_pow_right (by omega) (by omega)
  have lb : B ^ b.length ≤ B ^ max a.length b.length := Nat.pow_le_pow_right (by omega) (by omega)
  generalize max a.length b.length = m at *
  generalize (combTo (plusF B) a b (m + 1)).2 = c at *
  rcases Nat.eq_zero_or_pos c with rfl | hc
  · omega
  · have : c = 1 := by omega
    subst this
    rw [Nat.pow_succ] at h3
    have : B ^ m * 2 ≤ B ^ m * B := Nat.mul_le_mul_left _ hB
    omega

theorem minusTo {B : Nat} (hB : 2 ≤ B) {a b : List Nat} (ha : small B a) (hb : small B b) : ∀ k,
    small B (combTo (minusF B) a b k).1 ∧ (combTo (minusF B) a b k).2 ≤ 1 ∧
      valL B (combTo (minusF B) a b k).1 + valL B (b.take k) = valL B (a.take k) + B ^ k * (combTo (minusF B) a b k).2
  | 0 => ⟨small_nil B, by simp [combTo], by simp [combTo, valL]⟩
  | k + 1 => by
    obtain ⟨h1, h2, h3⟩ := minusTo hB ha hb k
    have hx := small_getD ha (by omega) k
    have hy := small_getD hb (by omega) k
    have hl := combTo_len (minusF B) a b k
    simp only [combTo]
    generalize combTo (minusF B) a b k = r at *
    obtain ⟨o, c⟩ := r
    rw [take_succ_getD, take_succ_getD]
    generalize a[k]?.getD 0 = x at *
    generalize b[k]?.getD 0 = y at *
    simp only [minusF] at *
    split
    · refine ⟨small_snoc h1 (by omega), by simp, ?_⟩
      rw [valL_snoc, hl]
      simp only [Nat.mul_zero, Nat.add_zero]
      have : B ^ k * (x - y - c) + B ^ k * y + B ^ k * c = B ^ k * x := by rw [← Nat.mul_add, ← Nat.mul_add]; congr 1; omega
      omega
    · refine ⟨small_snoc h1 (by omega), by simp, ?_⟩
      rw [valL_snoc, hl, Nat.pow_succ]
      simp only [Nat.mul_one]
      have : B ^ k * (x + B - y - c) + B ^ k * y + B ^ k * c = B ^ k * x + B ^ k * B := by rw [← Nat.mul_add, ← Nat.mul_add, ← Nat.mul_add]; congr 1; omega
      omega

/-- The difference of two lists of limbs, the first of which is not less. -/
theorem minus_trim {B : Nat} (hB : 2 ≤ B) {a b : List Nat} (ha : small B a) (hb : small B b) (h : valL B b ≤ valL B a) (k : Nat) (hk1 : a.length ≤ k) (hk2 : b.length ≤ k) :
    trimL (combTo (minusF B) a b k).1 = limbs B (valL B a - valL B b) := by
  obtain ⟨h1, h2, h3⟩ := minusTo hB ha hb k
  rw [trimL_limbs hB h1]
  congr 1
  have e1 := valL_lt h1
  rw [combTo_len] at e1
  rw [List.take_of_length_le hk1, List.take_of_length_le hk2] at h3
  generalize (combTo (minusF B) a b k).2 = c at *
  rcases Nat.eq_zero_or_pos c with rfl | hc
  · omega
  · have : c = 1 := by omega
    subst this; omega

/-! ### Products, limb by limb -/

theorem valL_set (B : Nat) : ∀ (l : List Nat) (j v : Nat), j < l.length → valL B (l.set j v) + B ^ j * l[j]?.getD 0 = valL B l + B ^ j * v
  | [], j, v, h => by simp at h
  | x :: r, 0, v, _ => by simp [valL]; omega
  | x :: r, j + 1, v, h => by
    have ih := valL_set B r j v (by simpa using h)
    simp only [List.set_cons_succ, valL, List.getElem?_cons_succ, Nat.pow_succ]
    have e : B * (valL B (r.set j v) + B ^ j * r[j]?.getD 0) = B * (valL B r + B ^ j * v) := by rw [ih]
    rw [Nat.mul_add, Nat.mul_add, ← Nat.mul_assoc, ← Nat.mul_assoc, Nat.mul_comm B (B ^ j)] at e
    omega

theorem small_set {B : Nat} {l : List Nat} (h : small B l) (j : Nat) {v : Nat} (hv : v < B) : small B (l.set j v) := by
  intro x hx
  rcases List.mem_or_eq_of_mem_set hx with h' | h'
  · exact h x h'
  · omega

/-- The row and the carry after k steps of adding x times b from place i on. -/
def rowTo (B x : Nat) (b : List Nat) (i : Nat) (out : List Nat) : Nat → List Nat × Nat
  | 0 => (out, 0)
  | k + 1 => let r := rowTo B x b i out k; let n := r.1[i + k]?.getD 0 + x * b[k]?.getD 0 + r.2; (r.1.set (i + k) (n % B), n / B)

theorem rowTo_spec {B : Nat} (hB : 2 ≤ B) {x : Nat} {b : List Nat} (hx : x < B) (hb : small B b) (i : Nat) {out : List Nat} (ho : small B out) : ∀ k, i + k ≤ out.length →
    (rowTo B x b i out k).1.length = out.length ∧ small B (rowTo B x b i out k).1 ∧ (rowTo B x b i out k).2 < B ∧
      valL B (rowTo B x b i out k).1 + B ^ (i + k) * (rowTo B x b i out k).2 = valL B out + B ^ i * (x * valL B (b.take k))
  | 0, _ => ⟨rfl, ho, by simp [rowTo]; omega, by simp [rowTo, valL]⟩
  | k + 1, hk => by
    obtain ⟨h1, h2, h3, h4⟩ := rowTo_spec hB hx hb i ho k (by omega)
    have hy := small_getD hb (by omega) k
    simp only [rowTo]
    rw [take_succ_getD]
    generalize rowTo B x b i out k = r at *
    obtain ⟨l, c⟩ := r
    simp only at *
    have hz := small_getD h2 (by omega) (i + k)
    have hs := fun v => valL_set B l (i + k) v (by omega)
    generalize b[k]?.getD 0 = y at *
    generalize l[i + k]?.getD 0 = z at *
    have hn : z + x * y + c < B * B := by
      have : x * y ≤ (B - 1) * (B - 1) := Nat.mul_le_mul (by omega) (by omega)
      have e : (B - 1) * (B - 1) + 2 * (B - 1) + 1 = B * B := by
        obtain ⟨m, rfl⟩ : ∃ m, B = m + 1 := ⟨B - 1, by omega⟩
        simp only [Nat.add_sub_cancel]; rw [Nat.mul_add, Nat.add_mul]; omega
      omega
    refine ⟨by simp [h1], small_set h2 _ (Nat.mod_lt _ (by omega)), Nat.div_lt_of_lt_mul hn, ?_⟩
    have e := Nat.mod_add_div (z + x * y + c) B
    have hs' := hs ((z + x * y + c) % B)
    generalize (z + x * y + c) % B = m at *
    generalize (z + x * y + c) / B = q at *
    have e2 : B ^ (i + k) * m + B ^ (i + k) * B * q = B ^ (i + k) * z + B ^ (i + k) * (x * y) + B ^ (i + k) * c := by
      rw [← Nat.mul_add, ← Nat.mul_add, ← e, Nat.mul_add, Nat.mul_assoc]
    rw [show i + (k + 1) = i + k + 1 by omega, Nat.pow_succ]
    have e3 : B ^ i * (x * (valL B (b.take k) + B ^ k * y)) = B ^ i * (x * valL B (b.take k)) + B ^ (i + k) * (x * y) := by
      rw [Nat.mul_add, Nat.mul_add, Nat.pow_add, Nat.mul_assoc (B ^ i) (B ^ k), ← Nat.mul_assoc x, Nat.mul_comm x (B ^ k), Nat.mul_assoc]
    rw [e3]
    omega

/-- The product after i rows. -/
def timesTo (B : Nat) (a b : List Nat) : Nat → List Nat
  | 0 => List.replicate (a.length + b.length + 1) 0
  | i + 1 => (rowTo B (a[i]?.getD 0) b i (timesTo B a b i) (b.length + 1)).1

theorem valL_replicate (B n : Nat) : valL B (List.replicate n 0) = 0 := by
  induction n with
  | zero => rfl
  | succ n ih => rw [List.replicate_succ, valL, ih]; simp

theorem timesTo_spec {B : Nat} (hB : 2 ≤ B) {a b : List Nat} (ha : small B a) (hb : small B b) : ∀ i, i ≤ a.length →
    (timesTo B a b i).length = a.length + b.length + 1 ∧ small B (timesTo B a b i) ∧ valL B (timesTo B a b i) = valL B (a.take i) * valL B b
  | 0, _ => ⟨by simp [timesTo], fun x hx => by have := List.eq_of_mem_replicate hx; omega, by simp [timesTo, valL_replicate, valL]⟩
  | i + 1, hi => by
    obtain ⟨h1, h2, h3⟩ := timesTo_spec hB ha hb i (by omega)
    have hx := small_getD ha (by omega) i
    obtain ⟨r1, r2, r3, r4⟩ := rowTo_spec hB hx hb i h2 (b.length + 1) (by omega)
    refine ⟨by rw [timesTo, r1, h1], r2, ?_⟩
    rw [timesTo, take_succ_getD]
    rw [List.take_of_length_le (by omega), h3] at r4
    have e := valL_lt r2
    have hat := valL_lt (small_take ha (i + 1))
    rw [take_succ_getD, List.length_take, Nat.min_eq_left hi] at hat
    have hbl := valL_lt hb
    generalize (rowTo B (a[i]?.getD 0) b i (timesTo B a b i) (b.length + 1)).1 = o at *
    generalize (rowTo B (a[i]?.getD 0) b i (timesTo B a b i) (b.length + 1)).2 = c at *
    generalize a[i]?.getD 0 = x at *
    rw [Nat.add_mul, ← Nat.mul_assoc (B ^ i)] at *
    rcases Nat.eq_zero_or_pos c with rfl | hc
    · omega
    · have h5 : valL B (a.take i) * valL B b + B ^ i * x * valL B b < B ^ (i + 1) * B ^ b.length := by
        rw [← Nat.add_mul]
        have hb0 : 0 < B ^ b.length := Nat.pow_pos (by omega)
        have : (valL B (a.take i) + B ^ i * x) * valL B b ≤ (valL B (a.take i) + B ^ i * x) * B ^ b.length := Nat.mul_le_mul_left _ (by omega)
        have : (valL B (a.take i) + B ^ i * x) * B ^ b.length < B ^ (i + 1) * B ^ b.length := Nat.mul_lt_mul_of_pos_right hat hb0
        omega
      rw [← Nat.pow_add, show i + 1 + b.length = i + (b.length + 1) by omega] at h5
      have : B ^ (i + (b.length + 1)) * 1 ≤ B ^ (i + (b.length + 1)) * c := Nat.mul_le_mul_left _ hc
      omega

theorem times_trim {B : Nat} (hB : 2 ≤ B) {a b : List Nat} (ha : small B a) (hb : small B b) : trimL (timesTo B a b a.length) = limbs B (valL B a * valL B b) := by
  obtain ⟨_, h2, h3⟩ := timesTo_spec hB ha hb a.length (Nat.le_refl _)
  rw [trimL_limbs hB h2, h3, List.take_length]

/-! ### Comparing -/

/-- Limbs of one length, compared from the last one down to k. -/
theorem valL_lt_of_high {B : Nat} {a b : List Nat} (ha : small B a) (hb : small B b) (hl : a.length = b.length) (k : Nat) (hk : k < a.length)
    (he : a.drop (k + 1) = b.drop (k + 1)) (hlt : a[k]?.getD 0 < b[k]?.getD 0) : valL B a < valL B b := by
  have ea := valL_split B a (k + 1)
  have eb := valL_split B b (k + 1)
  rw [he] at ea
  have l1 : (a.take (k + 1)).length = k + 1 := by simp; omega
  have l2 : (b.take (k + 1)).length = k + 1 := by simp; omega
  rw [l1, take_succ_getD] at ea
  rw [l2, take_succ_getD] at eb
  have h1 := valL_lt (small_take ha k)
  rw [List.length_take, Nat.min_eq_left (by omega)] at h1
  have : B ^ k * (a[k]?.getD 0) + B ^ k ≤ B ^ k * (b[k]?.getD 0) := by rw [← Nat.mul_succ]; exact Nat.mul_le_mul_left _ hlt
  omega

/-- Lists of one length that agree are equal. -/
theorem list_eq {a b : List Nat} (hl : a.length = b.length) (h : ∀ i, i < a.length → a[i]?.getD 0 = b[i]?.getD 0) : a = b := by
  apply List.ext_getElem hl
  intro i h1 h2
  have := h i h1
  simpa [h1, h2] using this

theorem drop_eq {a b : List Nat} (hl : a.length = b.length) (k : Nat) (h : ∀ i, k < i → i < a.length → a[i]?.getD 0 = b[i]?.getD 0) : a.drop (k + 1) = b.drop (k + 1) := by
  apply list_eq (by simp [hl])
  intro i hi
  simp only [List.length_drop] at hi
  have := h (k + 1 + i) (by omega) (by omega)
  simpa using this

/-! ### Division by a single limb -/

/-- One step: the place i of the quotient, and what is left. -/
def shortStep (B d : Nat) (s : List Nat × Nat) (i x : Nat) : List Nat × Nat := (s.1.set i ((x + s.2 * B) / d), (x + s.2 * B) % d)

/-- After k steps from the end. -/
def shortTo (B d : Nat) (l : List Nat) : Nat → List Nat × Nat
  | 0 => (List.replicate l.length 0, 0)
  | k + 1 => shortStep B d (shortTo B d l k) (l.length - 1 - k) (l[l.length - 1 - k]?.getD 0)

theorem shortTo_spec {B d : Nat} {l : List Nat} (hd : 0 < d) (hs : small B l) : ∀ k, k ≤ l.length →
    (shortTo B d l k).1.length = l.length ∧ small B (shortTo B d l k).1 ∧ (shortTo B d l k).2 < d ∧
      valL B ((shortTo B d l k).1.drop (l.length - k)) * d + (shortTo B d l k).2 = valL B (l.drop (l.length - k))
  | 0, _ => by
    refine ⟨by simp [shortTo], fun x hx => ?_, hd, ?_⟩
    · have hx0 := List.eq_of_mem_replicate hx
      have hne : l ≠ [] := fun h => by subst h; simp [shortTo] at hx
      obtain ⟨y, hy⟩ := List.exists_mem_of_ne_nil l hne
      have := hs y hy
      omega
    · simp [shortTo, valL]
  | k + 1, hk => by
    obtain ⟨h1, h2, h3, h4⟩ := shortTo_spec hd hs k (by omega)
    have hi : l.length - 1 - k < l.length := by omega
    have hx : l[l.length - 1 - k]?.getD 0 < B := by
      have := hs (l[l.length - 1 - k]) (List.getElem_mem hi); simpa [hi] using this
    have e1 : l.length - (k + 1) = l.length - 1 - k := by omega
    have e2 : l.length - 1 - k + 1 = l.length - k := by omega
    simp only [shortTo, shortStep]
    generalize shortTo B d l k = s at *
    obtain ⟨q, r⟩ := s
    simp only at *
    have hlx : l[l.length - 1 - k]?.getD 0 = l[l.length - 1 - k] := by simp [hi]
    have hq : (l[l.length - 1 - k]?.getD 0 + r * B) / d < B := by
      apply Nat.div_lt_of_lt_mul
      have : (r + 1) * B ≤ d * B := Nat.mul_le_mul_right _ h3
      rw [Nat.add_mul] at this
      omega
    refine ⟨by simp [h1], small_set h2 _ hq, Nat.mod_lt _ hd, ?_⟩
    rw [e1, valL_drop_succ l _ B hi, valL_drop_succ (q.set _ _) _ B (by simp; omega), e2]
    rw [List.drop_set_of_lt (by omega), List.getElem_set_self, ← h4]
    rw [hlx] at *
    have e := Nat.mod_add_div (l[l.length - 1 - k] + r * B) d
    generalize (l[l.length - 1 - k] + r * B) % d = m at *
    generalize (l[l.length - 1 - k] + r * B) / d = t at *
    generalize valL B (q.drop (l.length - k)) = v at *
    rw [Nat.mul_add, Nat.add_mul, Nat.mul_assoc, Nat.mul_comm B r, Nat.mul_comm t d]
    omega

theorem short_spec {B d : Nat} (hB : 2 ≤ B) {l : List Nat} (hd : 0 < d) (hs : small B l) :
    trimL (shortTo B d l l.length).1 = limbs B (valL B l / d) ∧ (shortTo B d l l.length).2 = valL B l % d := by
  obtain ⟨h1, h2, h3, h4⟩ := shortTo_spec hd hs l.length (Nat.le_refl _)
  simp only [Nat.sub_self, List.drop_zero] at h4
  rw [trimL_limbs hB h2]
  generalize (shortTo B d l l.length).2 = r at *
  generalize valL B (shortTo B d l l.length).1 = q at *
  rw [← h4, Nat.mul_comm q d]
  exact ⟨by rw [Nat.mul_add_div hd, Nat.div_eq_of_lt h3, Nat.add_zero], by rw [Nat.mul_add_mod, Nat.mod_eq_of_lt h3]⟩

theorem limbs_single {B : Nat} (hB : 2 ≤ B) {x : Nat} (hx : x < B) : trimL [x] = limbs B x := by
  have hsm : small B [x] := by intro y hy; rw [List.mem_singleton] at hy; omega
  rw [trimL_limbs hB hsm]; simp [valL]

end Go.Proofs.YtapfekcbbhhieaaGreatDoor.Limb

namespace Go.Proofs.YtapfekcbbhhieaaGreatDoor
open Go.RowKit

/-- The package-level variables hold what the program's text lays. -/
structure Wd (w : World) : Prop where
  tab : Lib.TabIs Tryz.prog w "internal/strconv.uint64pow10" .u64 Lib.pow10Tab
  maxl : ∃ m, w.cell? ⟨6, 0, none⟩ = some (.int .i64 m)

theorem cell_lt {w : World} {a : Addr} {v : Value} (h : w.cell? a = some v) : a.block < w.heap.size := World.block_lt_of_cell? w a h

theorem var_lt {w : World} {n : String} {cs : Array Value} {g : Nat} (hg : Tryz.prog.globalNamed n = some g) (h : w.var? Tryz.prog n = some cs) : g < w.heap.size := by
  rcases Nat.lt_or_ge g w.heap.size with h' | h'
  · exact h'
  · simp [World.var?, hg, Array.getElem?_eq_none h'] at h

theorem Wd.below {w w' : World} (h : Wd w) (hb : Below w.heap.size w w') : Wd w' := by
  obtain ⟨ht, m, hm⟩ := h
  have hg : Tryz.prog.globalNamed "internal/strconv.uint64pow10" = some 0 := by kernel_rfl
  exact ⟨var?_below hb hg (var_lt hg ht) ht, m, by rw [hb.cell (cell_lt hm)]; exact hm⟩

/-- Old cells and marks read as before. -/
theorem bcell {B : Nat} {w w1 : World} (hb : Below B w w1) : (∀ b o, b < B → w1.cell? ⟨b, o, none⟩ = w.cell? ⟨b, o, none⟩) ∧ (∀ b o, b < B → w1.frozen? ⟨b, o, none⟩ = w.frozen? ⟨b, o, none⟩) :=
  ⟨fun b o h => hb.cell (p := ⟨b, o, none⟩) h, fun b o h => hb.frozen (p := ⟨b, o, none⟩) h⟩

theorem below_grow {w w' : World} (h : ∃ k os, w' = Go.Sort.grow (w.drewN k) os) : Below w.heap.size w w' := by
  obtain ⟨k, os, rfl⟩ := h
  exact ⟨rfl, rfl, rfl, by simp [Go.Sort.grow], fun i hi => by
    show ((w.drewN k).heap ++ os)[i]? = _
    rw [Array.getElem?_append_left (by exact hi)]; rfl⟩

/-- strconv.Itoa. -/
theorem itoa_b (n : Int) (h0 : -9223372036854775808 ≤ n) (h1 : n ≤ 9223372036854775807) (w : World) (hw : Wd w) :
    Calls Tryz.prog 19 #[.int .i64 n] w fun e w' => e = .returned (.string ⟨(Lib.itoa n).toArray⟩) ∧ Below w.heap.size w w' :=
  (Tryz.strconv_Itoa n h0 h1 w hw.tab).mono fun _ _ h => ⟨h.1, below_grow h.2⟩

/-- strconv.Atoi at a numeral. -/
theorem atoi_b (x : Int) (h : (Lib.itoa x).length ≤ 18) (w : World) :
    Calls Tryz.prog 100 #[.string ⟨(Lib.itoa x).toArray⟩] w fun e w' => e = .returned (.tuple #[.int .i64 x, .nilIface]) ∧ Below w.heap.size w w' :=
  (Tryz.strconv_Atoi ⟨(Lib.itoa x).toArray⟩ x h (Str.atoi_itoa x) w).mono fun _ _ h => ⟨h.1, by obtain ⟨t, e⟩ := h.2; rw [e]; exact Lib.bytesWorld_below _ _ _⟩

abbrev St (l : List UInt8) : Value := .string ⟨l.toArray⟩

/-- A slice reads as a list of values. -/
def Sl (w : World) (v : Value) (xs : List Value) : Prop :=
  ∃ p cap, v = .slice p xs.length cap ∧ xs.length ≤ cap ∧ ∀ i x, xs[i]? = some x → ∃ b off, p = some ⟨b, off, none⟩ ∧ w.cell? ⟨b, off + i, none⟩ = some x

theorem Sl.cases {w : World} {v : Value} {xs : List Value} (h : Sl w v xs) : (xs = [] ∧ ∃ p cap, v = .slice p 0 cap) ∨
    (xs ≠ [] ∧ ∃ b off cap, v = .slice (some ⟨b, off, none⟩) xs.length cap ∧ xs.length ≤ cap ∧ b < w.heap.size ∧ ∀ i x, xs[i]? = some x → w.cell? ⟨b, off + i, none⟩ = some x) := by
  obtain ⟨p, cap, rfl, hcap, hc⟩ := h
  cases xs with
  | nil => exact .inl ⟨rfl, p, cap, rfl⟩
  | cons x r =>
    obtain ⟨b, off, rfl, h0⟩ := hc 0 x rfl
    refine .inr ⟨by simp, b, off, cap, rfl, hcap, cell_lt h0, fun i y hy => ?_⟩
    obtain ⟨b', off', e, h'⟩ := hc i y hy
    cases e; exact h'

theorem Sl.mk {w : World} {b off cap : Nat} {xs : List Value} (hcap : xs.length ≤ cap) (hc : ∀ i x, xs[i]? = some x → w.cell? ⟨b, off + i, none⟩ = some x) : Sl w (.slice (some ⟨b, off, none⟩) xs.length cap) xs :=
  ⟨_, _, rfl, hcap, fun i x h => ⟨b, off, rfl, hc i x h⟩⟩

theorem Sl.below {w w' : World} {v : Value} {xs : List Value} (h : Sl w v xs) (hb : Below w.heap.size w w') : Sl w' v xs := by
  obtain ⟨p, cap, e, hcap, hc⟩ := h
  refine ⟨p, cap, e, hcap, fun i x hx => ?_⟩
  obtain ⟨b, off, ep, h'⟩ := hc i x hx
  exact ⟨b, off, ep, by rw [hb.cell (cell_lt h')]; exact h'⟩

/-- A beginning. -/
def cutTo (v : Value) (k : Nat) : Value := match v with
  | .slice p _ cap => .slice p k cap
  | x => x

theorem Sl.take {w : World} {v : Value} {xs : List Value} (h : Sl w v xs) {k : Nat} (hk : k ≤ xs.length) : Sl w (cutTo v k) (xs.take k) := by
  obtain ⟨p, cap, rfl, hcap, hc⟩ := h
  refine ⟨p, cap, ?_, by rw [List.length_take]; omega, fun i x hx => ?_⟩
  · simp [cutTo, Nat.min_eq_left hk]
  · rw [List.getElem?_take] at hx
    split at hx
    · exact hc i x hx
    · cases hx

theorem Sl.nil (w : World) : Sl w (.slice none 0 0) [] := ⟨none, 0, rfl, Nat.le_refl _, fun i x h => by simp at h⟩

abbrev I (x : Nat) : Value := .int .i64 x

/-- The slice of a row that the call owns reads as its list. -/
theorem Sl.of_own {w : World} {base : Nat} {e : TypeId} {v : Value} {n : Nat} {xs : List Value} (h : w.ownsRow base e 1 v n xs) : Sl w v xs := by
  obtain ⟨hl, h⟩ := h
  rw [Nat.mul_one] at hl h
  rcases h with ⟨rfl, rfl⟩ | ⟨g, cap, cur, rfl, _, hg, hn, _, hs, ht⟩
  · have := List.length_eq_zero_iff.1 hl
    subst this; exact Sl.nil w
  · subst hl
    refine ⟨_, cap, rfl, hn, fun i x hx => ⟨g, 0, rfl, ?_⟩⟩
    rw [← ht, List.getElem?_take] at hx
    split at hx
    · simp only [World.cell?, hg, Nat.zero_add]
      simpa using hx
    · cases hx

/-- A row of the call's own, that reads as a list. -/
def Row (w : World) (g cap : Nat) (l : List Nat) : Prop :=
  ∃ cur, w.heap[g]? = some (.cells cur 3 (0, 0)) ∧ l.length ≤ cap ∧ cap ≤ maxLen ∧ cur.size = cap ∧ cur.toList.take l.length = l.map I

theorem Row.cell {w : World} {g cap : Nat} {l : List Nat} (h : Row w g cap l) {j x : Nat} (hx : l[j]? = some x) : w.cell? ⟨g, j, none⟩ = some (I x) := by
  obtain ⟨cur, hg, _, _, _, ht⟩ := h
  have e : (l.map I)[j]? = some (I x) := by simp [hx]
  rw [← ht, List.getElem?_take] at e
  split at e
  · simp only [World.cell?, hg]
    simpa using e
  · cases e

theorem Row.frozen {w : World} {g cap : Nat} {l : List Nat} (h : Row w g cap l) (j : Nat) : w.frozen? ⟨g, j, none⟩ = false := by
  obtain ⟨cur, hg, _⟩ := h
  simp [World.frozen?, hg]

theorem Row.lt {w : World} {g cap : Nat} {l : List Nat} (h : Row w g cap l) : g < w.heap.size := by
  obtain ⟨cur, hg, _⟩ := h
  exact (Array.getElem?_eq_some_iff.1 hg).1

theorem Row.below {w w' : World} {B g cap : Nat} {l : List Nat} (h : Row w g cap l) (hb : Below B w w') (hg : g < B) : Row w' g cap l := by
  obtain ⟨cur, hg', h⟩ := h
  exact ⟨cur, by rw [hb.block g hg]; exact hg', h⟩

theorem Row.set {w : World} {g cap : Nat} {l : List Nat} (h : Row w g cap l) (j v : Nat) : Row (w.setCell ⟨g, j, none⟩ (I v)) g cap (l.set j v) := by
  obtain ⟨cur, hg, h1, h2, h3, h4⟩ := h
  refine ⟨cur.setIfInBounds j (I v), ?_, by simpa using h1, h2, by simpa using h3, ?_⟩
  · simp [World.setCell, Array.getElem?_modify, hg]
  · rw [List.length_set, Array.toList_setIfInBounds, List.take_set, h4, List.map_set]

theorem Row.sl {w : World} {g cap : Nat} {l : List Nat} (h : Row w g cap l) : Sl w (.slice (some ⟨g, 0, none⟩) l.length cap) (l.map I) := by
  have hc := h
  obtain ⟨cur, hg, h1, _⟩ := h
  have := Sl.mk (w := w) (b := g) (off := 0) (cap := cap) (xs := l.map I) (by simpa using h1) (fun i x hx => by
    rw [List.getElem?_map] at hx
    cases hl : l[i]? with
    | none => rw [hl] at hx; cases hx
    | some y => rw [hl] at hx; cases hx; rw [Nat.zero_add]; exact hc.cell hl)
  rwa [List.length_map] at this

theorem Row.own {w : World} {g cap base : Nat} {l : List Nat} (h : Row w g cap l) (hb : base ≤ g) : w.ownsRow base 3 1 (.slice (some ⟨g, 0, none⟩) l.length cap) l.length (l.map I) := by
  obtain ⟨cur, hg, h1, h2, h3, h4⟩ := h
  exact ⟨by simp, .inr ⟨g, cap, cur, rfl, hb, hg, h1, h2, by omega, by rw [Nat.mul_one]; exact h4⟩⟩

theorem Row.of_own {w : World} {g cap base n : Nat} {l : List Nat} (h : w.ownsRow base 3 1 (.slice (some ⟨g, 0, none⟩) n cap) n (l.map I)) : Row w g cap l ∧ l.length = n := by
  obtain ⟨hl, h⟩ := h
  have hn : l.length = n := by simpa using hl
  rcases h with ⟨h, _⟩ | ⟨g', cap', cur, e, hb, hg, h1, h2, h3, h4⟩
  · cases h
  · cases e
    exact ⟨⟨cur, hg, by omega, h2, by omega, by rw [hn]; simpa using h4⟩, hn⟩

theorem cell_ne (w : World) {b b' : Nat} (o o' : Nat) (u : Value) (h : b ≠ b') : (w.setCell ⟨b', o', none⟩ u).cell? ⟨b, o, none⟩ = w.cell? ⟨b, o, none⟩ :=
  World.cell?_of_block (a := ⟨b, o, none⟩) (Below.heap_setCell w ⟨b', o', none⟩ u b h)
theorem cell_eq {w : World} {b o : Nat} {u v : Value} (h : w.cell? ⟨b, o, none⟩ = some v) : (w.setCell ⟨b, o, none⟩ u).cell? ⟨b, o, none⟩ = some u :=
  World.cell?_setCell_same' _ _ _ (by rw [h]; rfl)

theorem cell_al {w : World} {b o : Nat} {v : Value} (h : w.cell? ⟨b, o, none⟩ = some v) (x : Obj) : (w.alloc x).cell? ⟨b, o, none⟩ = some v := by
  rw [World.cell?_of_block (a := ⟨b, o, none⟩) (Below.heap_alloc w x b (cell_lt h))]; exact h
theorem cell_dr {w : World} {b o : Nat} {v : Value} (h : w.cell? ⟨b, o, none⟩ = some v) : w.drew.cell? ⟨b, o, none⟩ = some v := h
theorem frozen_al {w : World} {b o : Nat} {v : Value} (h : w.cell? ⟨b, o, none⟩ = some v) (x : Obj) (hf : w.frozen? ⟨b, o, none⟩ = false) : (w.alloc x).frozen? ⟨b, o, none⟩ = false := by
  rw [World.frozen?_of_block (a := ⟨b, o, none⟩) (Below.heap_alloc w x b (cell_lt h))]; exact hf

theorem getD_some {l : List Nat} {i : Nat} (h : i < l.length) : l[i]? = some (l[i]?.getD 0) := by simp [h]

/-- How long a slice is. -/
def slLen : Value → Nat
  | .slice _ n _ => n
  | _ => 0

theorem news_one (w : World) (x : Value) (t : TypeId) : ∀ (j : Nat) (u : Value), [x][j]? = some u → (w.alloc (.cells #[x] t)).cell? ((⟨w.heap.size, 0, none⟩ : Addr).add j) = some u := by
  intro j u hj
  match j, hj with
  | 0, hj => simp at hj; subst hj; simp [Addr.add]
theorem one_int (x : Int) : ∀ u ∈ [Value.int .i64 x], u.oneCell' = true := by intro u hu; simp at hu; subst hu; rfl
theorem one_str (x : ByteArray) : ∀ u ∈ [Value.string x], u.oneCell' = true := by intro u hu; simp at hu; subst hu; rfl

theorem same_q {P : Program} {f : FuncId} {args : Array Value} {w : World} {v : Value} (h : Calls P f args w fun e w' => e = .returned v ∧ w = w') : Calls P f args w fun e w' => e = .returned v ∧ w' = w :=
  h.mono fun _ _ h => ⟨h.1, h.2.symm⟩

theorem Sl.at {w : World} {p : Option Addr} {cap : Nat} {l : List Nat} {i : Nat} (h : Sl w (.slice p l.length cap) (l.map I)) (hi : i < l.length) :
    ∃ b off, p = some ⟨b, off, none⟩ ∧ b < w.heap.size ∧ l.length ≤ cap ∧ w.cell? ⟨b, off + i, none⟩ = some (I (l[i]?.getD 0)) := by
  obtain ⟨p', cap', e, hcap, hc⟩ := h
  simp only [List.length_map] at e hcap
  cases e
  obtain ⟨b, off, e, h'⟩ := hc i (I (l[i]?.getD 0)) (by simp [hi])
  exact ⟨b, off, e, cell_lt h', hcap, h'⟩

theorem ret_eq {a b : Value} (h : a = b) : Ending.returned a = Ending.returned b := by rw [h]
end Go.Proofs.YtapfekcbbhhieaaGreatDoor
