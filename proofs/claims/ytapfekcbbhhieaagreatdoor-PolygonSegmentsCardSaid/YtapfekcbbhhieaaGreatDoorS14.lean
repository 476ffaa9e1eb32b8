/-
  The closures of rational on parts.
  rational.combined and its closure.
  rational.both, quick.
  rational.Add, Sub, Mul.
  rational.Div.
  Points and segments with rational coordinates: plain laws. Plain Lean: no program stands in this text.
-/
import Derived.Test.YtapfekcbbhhieaaGreatDoorS13
namespace Go.Proofs.YtapfekcbbhhieaaGreatDoor
open Go.RowKit Go.Shelf Lib Str Limb
attribute [local go_sem] Oper.semAt_some

theorem digs_nat (n : Nat) : digs (n : Int) = (decDigits n).length := by unfold digs; rw [Int.natAbs_natCast]

/-- The parts of a number. -/
def partsV (q : Rat) : Value := .agg #[St (itoa q.num), St (decDigits q.den)]

set_option maxRecDepth 100000 in
set_option maxHeartbeats 1000000 in
theorem mul2_ok (a b : Rat) (ha : okQ a) (hb : okQ b) (h1 : digs (a.num * b.num) ≤ 300) (h2 : (decDigits (a.den * b.den)).length ≤ 300) (w : World) (hw : Wd w) :
    Calls Tryz.prog 27 #[partsV a, partsV b] w fun e w' => e = .returned (.tuple #[St (numS (a * b)), .int .i64 0]) ∧ Below w.heap.size w w' := by
  have m1 := fun W hW => Mul_any a.num b.num ha.1 hb.1 W hW
  have m2 := fun W hW => Mul_any (a.den : Int) (b.den : Int) (by rw [digs_nat]; exact ha.2) (by rw [digs_nat]; exact hb.2) W hW
  rw [← Int.natCast_mul, Str.itoa_nonneg, Str.itoa_nonneg] at m2
  have h2' : digs ((a.den * b.den : Nat) : Int) ≤ 300 := by rw [digs_nat]; exact h2
  rw [resL_ok h1, resE_ok h1] at m1
  rw [resL_ok h2', resE_ok h2'] at m2
  have hn := fun W hW => rnumber_any (a.num * b.num) ((a.den * b.den : Nat) : Int) (by have := Nat.mul_pos a.den_pos b.den_pos; omega) h1 h2' W hW
  rw [← mul_divInt] at hn
  unfold partsV
  generalize itoa a.num = s1 at m1 ⊢
  generalize itoa b.num = s2 at m1 ⊢
  generalize decDigits a.den = t1 at m2 ⊢
  generalize decDigits b.den = t2 at m2 ⊢
  generalize itoa (a.num * b.num) = u at m1 hn
  generalize itoa ((a.den * b.den : Nat) : Int) = v at m2 hn
  generalize numS (a * b) = r at hn ⊢
  have M1 := Lib.hid m1; have M2 := Lib.hid m2; have HN := Lib.hid hn; have HW := Lib.hid hw
  clear m1 m2 hn hw h1 h2 h2' ha hb
  obtain ⟨W3, hW3⟩ : ∃ W3, W3 = (w.alloc (.cells #[St s1, St t1] 62)).alloc (.cells #[St s2, St t2] 62) := ⟨_, rfl⟩
  have hB0 : Below w.heap.size w W3 := by rw [hW3]; exact ((Below.refl _ w).alloc (Nat.le_refl _) _).alloc (by simp) _
  have z0 : W3.heap.size = w.heap.size + 1 + 1 := by rw [hW3]; simp
  have A3 : W3.heap[w.heap.size]? = some (.cells #[St s1, St t1] 62 (0, 0)) := by
    rw [hW3]; exact (Below.heap_alloc _ _ _ (by simp only [World.size_alloc]; omega)).trans (World.alloc_heap_new w _)
  have B3 : W3.heap[w.heap.size + 1]? = some (.cells #[St s2, St t2] 62 (0, 0)) := by
    have := World.alloc_heap_new (w.alloc (.cells #[St s1, St t1] 62)) (.cells #[St s2, St t2] 62 (0, 0))
    rw [World.size_alloc] at this
    rw [hW3]; exact this
  have HW3 := Lib.hid hW3; clear hW3
  go_enter Tryz.func27, Tryz.ntmps27
  go_wp2_with fail
  rw [← HW3.out]
  refine (M1.out _ (HW.out.below hB0)).mono ?_
  rintro e w4 ⟨rfl, hb4⟩
  have hB4 := hB0.trans (hb4.mono hB0.size)
  have A4 : w4.heap[w.heap.size]? = some (.cells #[St s1, St t1] 62 (0, 0)) := (hb4.block _ (by omega)).trans A3
  have B4 : w4.heap[w.heap.size + 1]? = some (.cells #[St s2, St t2] 62 (0, 0)) := (hb4.block _ (by omega)).trans B3
  have A41 : w4.cell? ⟨w.heap.size, 1, none⟩ = some (St t1) := by simp [World.cell?, A4]
  have B41 : w4.cell? ⟨w.heap.size + 1, 1, none⟩ = some (St t2) := by simp [World.cell?, B4]
  clear hb4 A3 B3 z0
  go_wp2_with fail
  refine (M2.out _ (HW.out.below hB4)).mono ?_
  rintro e w5 ⟨rfl, hb5⟩
  have hB5 := hB4.trans (hb5.mono hB4.size)
  clear hb5 A4 B4 A41 B41
  go_wp2_with fail
  refine (HN.out _ (HW.out.below hB5)).mono ?_
  rintro e w6 ⟨rfl, hb6⟩
  have hB6 := hB5.trans (hb6.mono hB5.size)
  clear hb6
  go_wp2_with fail
  go_ret2
  exact ⟨rfl, hB6⟩

set_option maxRecDepth 100000 in
set_option maxHeartbeats 1000000 in
theorem div2_ok (a b : Rat) (hb0 : b ≠ 0) (ha : okQ a) (hb : okQ b) (h1 : digs (a.num * b.den) ≤ 300) (h2 : digs (b.num * a.den) ≤ 300) (w : World) (hw : Wd w) :
    Calls Tryz.prog 68 #[partsV a, partsV b] w fun e w' => e = .returned (.tuple #[St (numS (a / b)), .int .i64 0]) ∧ Below w.heap.size w w' := by
  have m1 := fun W hW => crossed_ok a.num b.num a.den b.den ha.1 hb.1 ha.2 hb.2 h1 W hW
  rw [resL_ok h2, resE_ok h2] at m1
  have hnz : b.num ≠ 0 := fun h => hb0 (Rat.num_eq_zero.1 h)
  have hdz : b.num * (a.den : Int) ≠ 0 := Int.mul_ne_zero hnz (by have := a.den_pos; omega)
  have hn := fun W hW => rnumber_any (a.num * b.den) (b.num * a.den) hdz h1 h2 W hW
  rw [Int.mul_comm b.num, ← div_divInt a b hb0, Int.mul_comm (a.den : Int)] at hn
  have hz : ((⟨(itoa b.num).toArray⟩ : ByteArray).toList == [48]) = false := by
    rw [beq_eq_false_iff_ne, ByteArray.toList_eq]
    intro e; exact hnz (itoa_inj ((show itoa b.num = [48] from by simpa using e).trans itoa_zero.symm))
  unfold partsV
  generalize itoa a.num = s1 at m1 ⊢
  generalize itoa b.num = s2 at m1 hz ⊢
  generalize decDigits a.den = t1 at m1 ⊢
  generalize decDigits b.den = t2 at m1 ⊢
  generalize itoa (a.num * b.den) = u at m1 hn
  generalize itoa (b.num * a.den) = v at m1 hn
  generalize numS (a / b) = r at hn ⊢
  obtain ⟨S2, hS2⟩ : ∃ S2 : ByteArray, S2 = ⟨s2.toArray⟩ := ⟨_, rfl⟩
  rw [show St s2 = .string S2 from by rw [hS2]] at m1 ⊢
  rw [← hS2] at hz
  have M1 := Lib.hid m1; have HN := Lib.hid hn; have HW := Lib.hid hw
  clear m1 hn hw h1 h2 ha hb hS2 hnz hdz hb0
  have hB0 : Below w.heap.size w ((w.alloc (.cells #[St s1, St t1] 62)).alloc (.cells #[.string S2, St t2] 62)) := ((Below.refl _ w).alloc (Nat.le_refl _) _).alloc (by simp) _
  go_enter Tryz.func68, Tryz.ntmps68
  go_wp2_with fail
  refine (M1.out _ (HW.out.below hB0)).mono ?_
  rintro e w4 ⟨rfl, hb4⟩
  have hB4 := hB0.trans (hb4.mono hB0.size)
  clear hb4
  go_wp2_with fail
  refine (HN.out _ (HW.out.below hB4)).mono ?_
  rintro e w6 ⟨rfl, hb6⟩
  have hB6 := hB4.trans (hb6.mono hB4.size)
  clear hb6
  go_wp2_with fail
  go_ret2
  exact ⟨rfl, hB6⟩
end Go.Proofs.YtapfekcbbhhieaaGreatDoor

namespace Go.Proofs.YtapfekcbbhhieaaGreatDoor
open Go.RowKit Go.Shelf Lib Str Limb
attribute [local go_sem] Oper.semAt_some

set_option maxRecDepth 100000 in
set_option maxHeartbeats 1000000 in
theorem comb_add (a b : Rat) (ha : okQ a) (hb : okQ b) (h1 : digs (a.num * b.den) ≤ 300) (h2 : digs (b.num * a.den) ≤ 300) (h3 : digs (a.num * b.den + b.num * a.den) ≤ 300) (h4 : (decDigits (a.den * b.den)).length ≤ 300)
    (c : Nat) (w : World) (hc : w.cell? ⟨c, 0, none⟩ = some (.func (.func 30) #[] #[])) (hw : Wd w) :
    Calls Tryz.prog 55 #[partsV a, partsV b, .pointer (some ⟨c, 0, none⟩)] w fun e w' => e = .returned (.tuple #[St (numS (a + b)), .int .i64 0]) ∧ Below w.heap.size w w' := by
  have m1 := fun W hW => crossed_ok a.num b.num a.den b.den ha.1 hb.1 ha.2 hb.2 h1 W hW
  rw [resL_ok h2, resE_ok h2] at m1
  have m3 := fun W hW => Add_any (a.num * b.den) (b.num * a.den) h1 h2 W hW
  rw [resL_ok h3, resE_ok h3] at m3
  have m2 := fun W hW => Mul_any (a.den : Int) (b.den : Int) (by rw [digs_nat]; exact ha.2) (by rw [digs_nat]; exact hb.2) W hW
  rw [← Int.natCast_mul, Str.itoa_nonneg, Str.itoa_nonneg] at m2
  have h4' : digs ((a.den * b.den : Nat) : Int) ≤ 300 := by rw [digs_nat]; exact h4
  rw [resL_ok h4', resE_ok h4'] at m2
  have hn := fun W hW => rnumber_any (a.num * b.den + b.num * a.den) ((a.den * b.den : Nat) : Int) (by have := Nat.mul_pos a.den_pos b.den_pos; omega) h3 h4' W hW
  rw [← add_divInt] at hn
  unfold partsV
  generalize itoa a.num = s1 at m1 ⊢
  generalize itoa b.num = s2 at m1 ⊢
  generalize decDigits a.den = t1 at m1 m2 ⊢
  generalize decDigits b.den = t2 at m1 m2 ⊢
  generalize itoa (a.num * b.den + b.num * a.den) = u at m3 hn
  generalize itoa (a.num * b.den) = u1 at m1 m3
  generalize itoa (b.num * a.den) = u2 at m1 m3
  generalize itoa ((a.den * b.den : Nat) : Int) = v at m2 hn
  generalize numS (a + b) = r at hn ⊢
  have M1 := Lib.hid m1; have M2 := Lib.hid m2; have M3 := Lib.hid m3; have HN := Lib.hid hn; have HW := Lib.hid hw
  clear m1 m2 m3 hn hw h1 h2 h3 h4 h4' ha hb
  have zc := cell_lt hc
  dsimp only at zc
  obtain ⟨W3, hW3⟩ : ∃ W3, W3 = (w.alloc (.cells #[St s1, St t1] 62)).alloc (.cells #[St s2, St t2] 62) := ⟨_, rfl⟩
  have hB0 : Below w.heap.size w W3 := by rw [hW3]; exact ((Below.refl _ w).alloc (Nat.le_refl _) _).alloc (by simp) _
  have z0 : W3.heap.size = w.heap.size + 1 + 1 := by rw [hW3]; simp
  have A3 : W3.heap[w.heap.size]? = some (.cells #[St s1, St t1] 62 (0, 0)) := by
    rw [hW3]; exact (Below.heap_alloc _ _ _ (by simp only [World.size_alloc]; omega)).trans (World.alloc_heap_new w _)
  have B3 : W3.heap[w.heap.size + 1]? = some (.cells #[St s2, St t2] 62 (0, 0)) := by
    have := World.alloc_heap_new (w.alloc (.cells #[St s1, St t1] 62)) (.cells #[St s2, St t2] 62 (0, 0))
    rw [World.size_alloc] at this
    rw [hW3]; exact this
  have HW3 := Lib.hid hW3; clear hW3
  go_enter Tryz.func55, Tryz.ntmps55
  go_wp2_with fail
  rw [← HW3.out]
  refine (M1.out _ (HW.out.below hB0)).mono ?_
  rintro e w4 ⟨rfl, hb4⟩
  have hB4 := hB0.trans (hb4.mono hB0.size)
  have A4 : w4.heap[w.heap.size]? = some (.cells #[St s1, St t1] 62 (0, 0)) := (hb4.block _ (by omega)).trans A3
  have B4 : w4.heap[w.heap.size + 1]? = some (.cells #[St s2, St t2] 62 (0, 0)) := (hb4.block _ (by omega)).trans B3
  have z4 : W3.heap.size ≤ w4.heap.size := hb4.size
  have C4 : w4.cell? ⟨c, 0, none⟩ = some (.func (.func 30) #[] #[]) := by rw [hB4.cell (p := ⟨c, 0, none⟩) zc]; exact hc
  have HC := Lib.hid hc; clear hc
  clear hb4 A3 B3
  go_wp2_with fail
  refine (M3.out _ (HW.out.below hB4)).mono ?_
  rintro e w5 ⟨rfl, hb5⟩
  have hB5 := hB4.trans (hb5.mono hB4.size)
  have A5 : w5.heap[w.heap.size]? = some (.cells #[St s1, St t1] 62 (0, 0)) := (hb5.block _ (by omega)).trans A4
  have B5 : w5.heap[w.heap.size + 1]? = some (.cells #[St s2, St t2] 62 (0, 0)) := (hb5.block _ (by omega)).trans B4
  have A51 : w5.cell? ⟨w.heap.size, 1, none⟩ = some (St t1) := by simp [World.cell?, A5]
  have B51 : w5.cell? ⟨w.heap.size + 1, 1, none⟩ = some (St t2) := by simp [World.cell?, B5]
  clear hb5 A4 B4 C4 A5 B5
  go_wp2_with fail
  refine (M2.out _ (HW.out.below hB5)).mono ?_
  rintro e w6 ⟨rfl, hb6⟩
  have hB6 := hB5.trans (hb6.mono hB5.size)
  clear hb6 A51 B51
  go_wp2_with fail
  refine (HN.out _ (HW.out.below hB6)).mono ?_
  rintro e w7 ⟨rfl, hb7⟩
  have hB7 := hB6.trans (hb7.mono hB6.size)
  clear hb7
  go_wp2_with fail
  go_ret2
  exact ⟨rfl, hB7⟩

set_option maxRecDepth 100000 in
set_option maxHeartbeats 1000000 in
theorem comb_sub (a b : Rat) (ha : okQ a) (hb : okQ b) (h1 : digs (a.num * b.den) ≤ 300) (h2 : digs (b.num * a.den) ≤ 300) (h3 : digs (a.num * b.den - b.num * a.den) ≤ 300) (h4 : (decDigits (a.den * b.den)).length ≤ 300)
    (c : Nat) (w : World) (hc : w.cell? ⟨c, 0, none⟩ = some (.func (.func 25) #[] #[])) (hw : Wd w) :
    Calls Tryz.prog 55 #[partsV a, partsV b, .pointer (some ⟨c, 0, none⟩)] w fun e w' => e = .returned (.tuple #[St (numS (a - b)), .int .i64 0]) ∧ Below w.heap.size w w' := by
  have m1 := fun W hW => crossed_ok a.num b.num a.den b.den ha.1 hb.1 ha.2 hb.2 h1 W hW
  rw [resL_ok h2, resE_ok h2] at m1
  have m3 := fun W hW => Sub_any (a.num * b.den) (b.num * a.den) h1 h2 W hW
  rw [resL_ok h3, resE_ok h3] at m3
  have m2 := fun W hW => Mul_any (a.den : Int) (b.den : Int) (by rw [digs_nat]; exact ha.2) (by rw [digs_nat]; exact hb.2) W hW
  rw [← Int.natCast_mul, Str.itoa_nonneg, Str.itoa_nonneg] at m2
  have h4' : digs ((a.den * b.den : Nat) : Int) ≤ 300 := by rw [digs_nat]; exact h4
  rw [resL_ok h4', resE_ok h4'] at m2
  have hn := fun W hW => rnumber_any (a.num * b.den - b.num * a.den) ((a.den * b.den : Nat) : Int) (by have := Nat.mul_pos a.den_pos b.den_pos; omega) h3 h4' W hW
  rw [← sub_divInt] at hn
  unfold partsV
  generalize itoa a.num = s1 at m1 ⊢
  generalize itoa b.num = s2 at m1 ⊢
  generalize decDigits a.den = t1 at m1 m2 ⊢
  generalize decDigits b.den = t2 at m1 m2 ⊢
  generalize itoa (a.num * b.den - b.num * a.den) = u at m3 hn
  generalize itoa (a.num * b.den) = u1 at m1 m3
  generalize itoa (b.num * a.den) = u2 at m1 m3
  generalize itoa ((a.den * b.den : Nat) : Int) = v at m2 hn
  generalize numS (a - b) = r at hn ⊢
  have M1 := Lib.hid m1; have M2 := Lib.hid m2; have M3 := Lib.hid m3; have HN := Lib.hid hn; have HW := Lib.hid hw
  clear m1 m2 m3 hn hw h1 h2 h3 h4 h4' ha hb
  have zc := cell_lt hc
  dsimp only at zc
  obtain ⟨W3, hW3⟩ : ∃ W3, W3 = (w.alloc (.cells #[St s1, St t1] 62)).alloc (.cells #[St s2, St t2] 62) := ⟨_, rfl⟩
  have hB0 : Below w.heap.size w W3 := by rw [hW3]; exact ((Below.refl _ w).alloc (Nat.le_refl _) _).alloc (by simp) _
  have z0 : W3.heap.size = w.heap.size + 1 + 1 := by rw [hW3]; simp
  have A3 : W3.heap[w.heap.size]? = some (.cells #[St s1, St t1] 62 (0, 0)) := by
    rw [hW3]; exact (Below.heap_alloc _ _ _ (by simp only [World.size_alloc]; omega)).trans (World.alloc_heap_new w _)
  have B3 : W3.heap[w.heap.size + 1]? = some (.cells #[St s2, St t2] 62 (0, 0)) := by
    have := World.alloc_heap_new (w.alloc (.cells #[St s1, St t1] 62)) (.cells #[St s2, St t2] 62 (0, 0))
    rw [World.size_alloc] at this
    rw [hW3]; exact this
  have HW3 := Lib.hid hW3; clear hW3
  go_enter Tryz.func55, Tryz.ntmps55
  go_wp2_with fail
  rw [← HW3.out]
  refine (M1.out _ (HW.out.below hB0)).mono ?_
  rintro e w4 ⟨rfl, hb4⟩
  have hB4 := hB0.trans (hb4.mono hB0.size)
  have A4 : w4.heap[w.heap.size]? = some (.cells #[St s1, St t1] 62 (0, 0)) := (hb4.block _ (by omega)).trans A3
  have B4 : w4.heap[w.heap.size + 1]? = some (.cells #[St s2, St t2] 62 (0, 0)) := (hb4.block _ (by omega)).trans B3
  have z4 : W3.heap.size ≤ w4.heap.size := hb4.size
  have C4 : w4.cell? ⟨c, 0, none⟩ = some (.func (.func 25) #[] #[]) := by rw [hB4.cell (p := ⟨c, 0, none⟩) zc]; exact hc
  have HC := Lib.hid hc; clear hc
  clear hb4 A3 B3
  go_wp2_with fail
  refine (M3.out _ (HW.out.below hB4)).mono ?_
  rintro e w5 ⟨rfl, hb5⟩
  have hB5 := hB4.trans (hb5.mono hB4.size)
  have A5 : w5.heap[w.heap.size]? = some (.cells #[St s1, St t1] 62 (0, 0)) := (hb5.block _ (by omega)).trans A4
  have B5 : w5.heap[w.heap.size + 1]? = some (.cells #[St s2, St t2] 62 (0, 0)) := (hb5.block _ (by omega)).trans B4
  have A51 : w5.cell? ⟨w.heap.size, 1, none⟩ = some (St t1) := by simp [World.cell?, A5]
  have B51 : w5.cell? ⟨w.heap.size + 1, 1, none⟩ = some (St t2) := by simp [World.cell?, B5]
  clear hb5 A4 B4 C4 A5 B5
  go_wp2_with fail
  refine (M2.out _ (HW.out.below hB5)).mono ?_
  rintro e w6 ⟨rfl, hb6⟩
  have hB6 := hB5.trans (hb6.mono hB5.size)
  clear hb6 A51 B51
  go_wp2_with fail
  refine (HN.out _ (HW.out.below hB6)).mono ?_
  rintro e w7 ⟨rfl, hb7⟩
  have hB7 := hB6.trans (hb7.mono hB6.size)
  clear hb7
  go_wp2_with fail
  go_ret2
  exact ⟨rfl, hB7⟩

set_option maxHeartbeats 1000000 in
/-- rational.combined: the closure, over the function in a variable of its own. -/
theorem combined_any (f : Nat) (w : World) :
    Calls Tryz.prog 24 #[.func (.func f) #[] #[]] w fun e w' => ∃ t, e = .returned (.func (.func 55) #[] #[.pointer (some ⟨w.heap.size, 0, none⟩)]) ∧ w.alloc (.cells #[.func (.func f) #[] #[]] t) = w' := by
  go_enter Tryz.func24, Tryz.ntmps24
  go_wp2_with fail
  go_ret
  exact ⟨_, rfl, rfl⟩
end Go.Proofs.YtapfekcbbhhieaaGreatDoor

namespace Go.Proofs.YtapfekcbbhhieaaGreatDoor
open Go.RowKit Go.Shelf Lib Str Limb
attribute [local go_sem] Oper.semAt_some

set_option maxRecDepth 100000 in
set_option maxHeartbeats 1000000 in
theorem both_comb (a b : Rat) (ha : okQ a) (hb : okQ b) (c : Nat) (r : List UInt8) (w : World) (hw : Wd w)
    (H : ∀ W : World, Below w.heap.size w W → Wd W → Calls Tryz.prog 55 #[partsV a, partsV b, .pointer (some ⟨c, 0, none⟩)] W fun e w' => e = .returned (.tuple #[St r, .int .i64 0]) ∧ Below W.heap.size W w') :
    Calls Tryz.prog 23 #[St (numS a), St (numS b), .func (.func 55) #[] #[.pointer (some ⟨c, 0, none⟩)]] w fun e w' => e = .returned (.tuple #[St r, .int .i64 0]) ∧ Below w.heap.size w w' := by
  have r1 := fun W hW => read_ok a ha W hW
  have r2 := fun W hW => read_ok b hb W hW
  unfold partsV at H
  generalize numS a = x at r1 ⊢
  generalize numS b = y at r2 ⊢
  generalize itoa a.num = s1 at H r1
  generalize itoa b.num = s2 at H r2
  generalize decDigits a.den = t1 at H r1
  generalize decDigits b.den = t2 at H r2
  have R1 := Lib.hid r1; have R2 := Lib.hid r2; have HH := Lib.hid H; have HW := Lib.hid hw
  clear r1 r2 H hw ha hb
  go_enter Tryz.func23, Tryz.ntmps23
  go_wp2_with fail
  refine (R1.out _ HW.out).mono ?_
  rintro e w1 ⟨rfl, hB1⟩
  have hB1' := hB1.alloc hB1.size (.cells #[.string ⟨s1.toArray⟩, .string ⟨t1.toArray⟩] 62)
  go_wp2_with fail
  refine (R2.out _ (HW.out.below hB1')).mono ?_
  rintro e w2 ⟨rfl, hb2⟩
  have hz1 := hB1.size
  have z2 : w1.heap.size < w2.heap.size := by have := hb2.size; simp at this; omega
  have hB2 := hB1'.trans (hb2.mono hB1'.size)
  have A2 : w2.heap[w1.heap.size]? = some (.cells #[.string ⟨s1.toArray⟩, .string ⟨t1.toArray⟩] 62 (0, 0)) := (hb2.block _ (by simp)).trans (World.alloc_heap_new w1 _)
  have A20 : w2.cell? ⟨w1.heap.size, 0, none⟩ = some (.string ⟨s1.toArray⟩) := by simp [World.cell?, A2]
  have A21 : w2.cell? ⟨w1.heap.size, 1, none⟩ = some (.string ⟨t1.toArray⟩) := by simp [World.cell?, A2]
  have hB3 := hB2.alloc hB2.size (.cells #[.string ⟨s2.toArray⟩, .string ⟨t2.toArray⟩] 62)
  clear hb2 A2 hB1 hB1'
  go_wp2_with fail
  refine (HH.out _ hB3 (HW.out.below hB3)).mono ?_
  rintro e w4 ⟨rfl, hb4⟩
  have hB4 := hB3.trans (hb4.mono hB3.size)
  clear hb4
  go_wp2_with fail
  go_ret2
  exact ⟨rfl, hB4⟩

set_option maxRecDepth 100000 in
set_option maxHeartbeats 1000000 in
theorem both_mul (a b : Rat) (ha : okQ a) (hb : okQ b) (r : List UInt8) (w : World) (hw : Wd w)
    (H : ∀ W : World, Below w.heap.size w W → Wd W → Calls Tryz.prog 27 #[partsV a, partsV b] W fun e w' => e = .returned (.tuple #[St r, .int .i64 0]) ∧ Below W.heap.size W w') :
    Calls Tryz.prog 23 #[St (numS a), St (numS b), .func (.func 27) #[] #[]] w fun e w' => e = .returned (.tuple #[St r, .int .i64 0]) ∧ Below w.heap.size w w' := by
  have r1 := fun W hW => read_ok a ha W hW
  have r2 := fun W hW => read_ok b hb W hW
  unfold partsV at H
  generalize numS a = x at r1 ⊢
  generalize numS b = y at r2 ⊢
  generalize itoa a.num = s1 at H r1
  generalize itoa b.num = s2 at H r2
  generalize decDigits a.den = t1 at H r1
  generalize decDigits b.den = t2 at H r2
  have R1 := Lib.hid r1; have R2 := Lib.hid r2; have HH := Lib.hid H; have HW := Lib.hid hw
  clear r1 r2 H hw ha hb
  go_enter Tryz.func23, Tryz.ntmps23
  go_wp2_with fail
  refine (R1.out _ HW.out).mono ?_
  rintro e w1 ⟨rfl, hB1⟩
  have hB1' := hB1.alloc hB1.size (.cells #[.string ⟨s1.toArray⟩, .string ⟨t1.toArray⟩] 62)
  go_wp2_with fail
  refine (R2.out _ (HW.out.below hB1')).mono ?_
  rintro e w2 ⟨rfl, hb2⟩
  have hz1 := hB1.size
  have z2 : w1.heap.size < w2.heap.size := by have := hb2.size; simp at this; omega
  have hB2 := hB1'.trans (hb2.mono hB1'.size)
  have A2 : w2.heap[w1.heap.size]? = some (.cells #[.string ⟨s1.toArray⟩, .string ⟨t1.toArray⟩] 62 (0, 0)) := (hb2.block _ (by simp)).trans (World.alloc_heap_new w1 _)
  have A20 : w2.cell? ⟨w1.heap.size, 0, none⟩ = some (.string ⟨s1.toArray⟩) := by simp [World.cell?, A2]
  have A21 : w2.cell? ⟨w1.heap.size, 1, none⟩ = some (.string ⟨t1.toArray⟩) := by simp [World.cell?, A2]
  have hB3 := hB2.alloc hB2.size (.cells #[.string ⟨s2.toArray⟩, .string ⟨t2.toArray⟩] 62)
  clear hb2 A2 hB1 hB1'
  go_wp2_with fail
  refine (HH.out _ hB3 (HW.out.below hB3)).mono ?_
  rintro e w4 ⟨rfl, hb4⟩
  have hB4 := hB3.trans (hb4.mono hB3.size)
  clear hb4
  go_wp2_with fail
  go_ret2
  exact ⟨rfl, hB4⟩

set_option maxRecDepth 100000 in
set_option maxHeartbeats 1000000 in
theorem both_div (a b : Rat) (ha : okQ a) (hb : okQ b) (r : List UInt8) (w : World) (hw : Wd w)
    (H : ∀ W : World, Below w.heap.size w W → Wd W → Calls Tryz.prog 68 #[partsV a, partsV b] W fun e w' => e = .returned (.tuple #[St r, .int .i64 0]) ∧ Below W.heap.size W w') :
    Calls Tryz.prog 23 #[St (numS a), St (numS b), .func (.func 68) #[] #[]] w fun e w' => e = .returned (.tuple #[St r, .int .i64 0]) ∧ Below w.heap.size w w' := by
  have r1 := fun W hW => read_ok a ha W hW
  have r2 := fun W hW => read_ok b hb W hW
  unfold partsV at H
  generalize numS a = x at r1 ⊢
  generalize numS b = y at r2 ⊢
  generalize itoa a.num = s1 at H r1
  generalize itoa b.num = s2 at H r2
  generalize decDigits a.den = t1 at H r1
  generalize decDigits b.den = t2 at H r2
  have R1 := Lib.hid r1; have R2 := Lib.hid r2; have HH := Lib.hid H; have HW := Lib.hid hw
  clear r1 r2 H hw ha hb
  go_enter Tryz.func23, Tryz.ntmps23
  go_wp2_with fail
  refine (R1.out _ HW.out).mono ?_
  rintro e w1 ⟨rfl, hB1⟩
  have hB1' := hB1.alloc hB1.size (.cells #[.string ⟨s1.toArray⟩, .string ⟨t1.toArray⟩] 62)
  go_wp2_with fail
  refine (R2.out _ (HW.out.below hB1')).mono ?_
  rintro e w2 ⟨rfl, hb2⟩
  have hz1 := hB1.size
  have z2 : w1.heap.size < w2.heap.size := by have := hb2.size; simp at this; omega
  have hB2 := hB1'.trans (hb2.mono hB1'.size)
  have A2 : w2.heap[w1.heap.size]? = some (.cells #[.string ⟨s1.toArray⟩, .string ⟨t1.toArray⟩] 62 (0, 0)) := (hb2.block _ (by simp)).trans (World.alloc_heap_new w1 _)
  have A20 : w2.cell? ⟨w1.heap.size, 0, none⟩ = some (.string ⟨s1.toArray⟩) := by simp [World.cell?, A2]
  have A21 : w2.cell? ⟨w1.heap.size, 1, none⟩ = some (.string ⟨t1.toArray⟩) := by simp [World.cell?, A2]
  have hB3 := hB2.alloc hB2.size (.cells #[.string ⟨s2.toArray⟩, .string ⟨t2.toArray⟩] 62)
  clear hb2 A2 hB1 hB1'
  go_wp2_with fail
  refine (HH.out _ hB3 (HW.out.below hB3)).mono ?_
  rintro e w4 ⟨rfl, hb4⟩
  have hB4 := hB3.trans (hb4.mono hB3.size)
  clear hb4
  go_wp2_with fail
  go_ret2
  exact ⟨rfl, hB4⟩

set_option maxRecDepth 100000 in
set_option maxHeartbeats 1000000 in
/-- rational.quick at short numbers. -/
theorem quick_yes_Add (a b : Rat) (ha : shortQ a) (hb : shortQ b) (n d : Int) (r : List UInt8) (w : World) (hw : Wd w)
    (H : ∀ W : World, Calls Tryz.prog 29 #[.agg #[.int .i64 a.num, I a.den], .agg #[.int .i64 b.num, I b.den]] W fun e w' => e = .returned (.agg #[.int .i64 n, .int .i64 d]) ∧ Below W.heap.size W w')
    (N : ∀ W : World, Wd W → Calls Tryz.prog 53 #[.agg #[.int .i64 n, .int .i64 d]] W fun e w' => e = .returned (St r) ∧ Below W.heap.size W w') :
    Calls Tryz.prog 21 #[St (numS a), St (numS b), .func (.func 29) #[] #[]] w fun e w' => e = .returned (.tuple #[St r, .bool true]) ∧ Below w.heap.size w w' := by
  have r1 := fun W => nativeOf_yes a ha W
  have r2 := fun W => nativeOf_yes b hb W
  generalize numS a = x at r1 ⊢
  generalize numS b = y at r2 ⊢
  generalize a.num = n1 at H r1
  generalize b.num = n2 at H r2
  generalize a.den = d1 at H r1
  generalize b.den = d2 at H r2
  have R1 := Lib.hid r1; have R2 := Lib.hid r2; have HH := Lib.hid H; have HN := Lib.hid N; have HW := Lib.hid hw
  clear r1 r2 H N hw ha hb
  go_enter Tryz.func21, Tryz.ntmps21
  go_wp2_with fail
  refine (R1.out _).mono ?_
  rintro e w1 ⟨rfl, hB1⟩
  have hB1' := hB1.alloc hB1.size (.cells #[.int .i64 n1, .int .i64 (d1 : Int)] 55)
  go_wp2_with fail
  refine (R2.out _).mono ?_
  rintro e w2 ⟨rfl, hb2⟩
  have hz1 := hB1.size
  have z2 : w1.heap.size < w2.heap.size := by have := hb2.size; simp at this; omega
  have hB2 := hB1'.trans (hb2.mono hB1'.size)
  have A2 : w2.heap[w1.heap.size]? = some (.cells #[.int .i64 n1, .int .i64 (d1 : Int)] 55 (0, 0)) := (hb2.block _ (by simp)).trans (World.alloc_heap_new w1 _)
  have A20 : w2.cell? ⟨w1.heap.size, 0, none⟩ = some (.int .i64 n1) := by simp [World.cell?, A2]
  have A21 : w2.cell? ⟨w1.heap.size, 1, none⟩ = some (.int .i64 (d1 : Int)) := by simp [World.cell?, A2]
  have hB3 := hB2.alloc hB2.size (.cells #[.int .i64 n2, .int .i64 (d2 : Int)] 55)
  clear hb2 A2 hB1 hB1'
  go_wp2_with fail
  refine (HH.out _).mono ?_
  rintro e w4 ⟨rfl, hb4⟩
  have hB4 := hB3.trans (hb4.mono hB3.size)
  clear hb4
  go_wp2_with fail
  refine (HN.out _ (HW.out.below hB4)).mono ?_
  rintro e w5 ⟨rfl, hb5⟩
  have hB5 := hB4.trans (hb5.mono hB4.size)
  clear hb5
  go_wp2_with fail
  go_ret2
  exact ⟨rfl, hB5⟩

set_option maxRecDepth 100000 in
set_option maxHeartbeats 1000000 in
/-- rational.quick at numbers of which one is not short. -/
theorem quick_no_Add (a b : Rat) (h : ¬ (shortQ a ∧ shortQ b)) (ha : okQ a) (hb : okQ b) (w : World) :
    Calls Tryz.prog 21 #[St (numS a), St (numS b), .func (.func 29) #[] #[]] w fun e w' => e = .returned (.tuple #[St [], .bool false]) ∧ Below w.heap.size w w' := by
  by_cases h1 : shortQ a
  · have h2 : ¬ shortQ b := fun h2 => h ⟨h1, h2⟩
    have r1 := fun W => nativeOf_yes a h1 W
    have r2 := fun W => nativeOf_no b h2 (Nat.le_trans hb.1 (by omega)) (Nat.le_trans hb.2 (by omega)) W
    generalize numS a = x at r1 ⊢
    generalize numS b = y at r2 ⊢
    generalize a.num = n1 at r1
    generalize a.den = d1 at r1
    have R1 := Lib.hid r1; have R2 := Lib.hid r2
    clear r1 r2 h1 h2 h ha hb
    go_enter Tryz.func21, Tryz.ntmps21
    go_wp2_with fail
    refine (R1.out _).mono ?_
    rintro e w1 ⟨rfl, hB1⟩
    have hB1' := hB1.alloc hB1.size (.cells #[.int .i64 n1, .int .i64 (d1 : Int)] 55)
    go_wp2_with fail
    refine (R2.out _).mono ?_
    rintro e w2 ⟨rfl, hb2⟩
    have hB2 := hB1'.trans (hb2.mono hB1'.size)
    clear hb2 hB1 hB1'
    go_wp2_with fail
    go_ret2
    exact ⟨rfl, hB2.alloc hB2.size _⟩
  · have r1 := fun W => nativeOf_no a h1 (Nat.le_trans ha.1 (by omega)) (Nat.le_trans ha.2 (by omega)) W
    generalize numS a = x at r1 ⊢
    generalize numS b = y at ⊢
    have R1 := Lib.hid r1
    clear r1 h1 h ha hb
    go_enter Tryz.func21, Tryz.ntmps21
    go_wp2_with fail
    refine (R1.out _).mono ?_
    rintro e w1 ⟨rfl, hB1⟩
    go_wp2_with fail
    go_ret2
    exact ⟨rfl, hB1.alloc hB1.size _⟩
set_option maxRecDepth 100000 in
set_option maxHeartbeats 1000000 in
/-- rational.quick at short numbers. -/
theorem quick_yes_Sub (a b : Rat) (ha : shortQ a) (hb : shortQ b) (n d : Int) (r : List UInt8) (w : World) (hw : Wd w)
    (H : ∀ W : World, Calls Tryz.prog 22 #[.agg #[.int .i64 a.num, I a.den], .agg #[.int .i64 b.num, I b.den]] W fun e w' => e = .returned (.agg #[.int .i64 n, .int .i64 d]) ∧ Below W.heap.size W w')
    (N : ∀ W : World, Wd W → Calls Tryz.prog 53 #[.agg #[.int .i64 n, .int .i64 d]] W fun e w' => e = .returned (St r) ∧ Below W.heap.size W w') :
    Calls Tryz.prog 21 #[St (numS a), St (numS b), .func (.func 22) #[] #[]] w fun e w' => e = .returned (.tuple #[St r, .bool true]) ∧ Below w.heap.size w w' := by
  have r1 := fun W => nativeOf_yes a ha W
  have r2 := fun W => nativeOf_yes b hb W
  generalize numS a = x at r1 ⊢
  generalize numS b = y at r2 ⊢
  generalize a.num = n1 at H r1
  generalize b.num = n2 at H r2
  generalize a.den = d1 at H r1
  generalize b.den = d2 at H r2
  have R1 := Lib.hid r1; have R2 := Lib.hid r2; have HH := Lib.hid H; have HN := Lib.hid N; have HW := Lib.hid hw
  clear r1 r2 H N hw ha hb
  go_enter Tryz.func21, Tryz.ntmps21
  go_wp2_with fail
  refine (R1.out _).mono ?_
  rintro e w1 ⟨rfl, hB1⟩
  have hB1' := hB1.alloc hB1.size (.cells #[.int .i64 n1, .int .i64 (d1 : Int)] 55)
  go_wp2_with fail
  refine (R2.out _).mono ?_
  rintro e w2 ⟨rfl, hb2⟩
  have hz1 := hB1.size
  have z2 : w1.heap.size < w2.heap.size := by have := hb2.size; simp at this; omega
  have hB2 := hB1'.trans (hb2.mono hB1'.size)
  have A2 : w2.heap[w1.heap.size]? = some (.cells #[.int .i64 n1, .int .i64 (d1 : Int)] 55 (0, 0)) := (hb2.block _ (by simp)).trans (World.alloc_heap_new w1 _)
  have A20 : w2.cell? ⟨w1.heap.size, 0, none⟩ = some (.int .i64 n1) := by simp [World.cell?, A2]
  have A21 : w2.cell? ⟨w1.heap.size, 1, none⟩ = some (.int .i64 (d1 : Int)) := by simp [World.cell?, A2]
  have hB3 := hB2.alloc hB2.size (.cells #[.int .i64 n2, .int .i64 (d2 : Int)] 55)
  clear hb2 A2 hB1 hB1'
  go_wp2_with fail
  refine (HH.out _).mono ?_
  rintro e w4 ⟨rfl, hb4⟩
  have hB4 := hB3.trans (hb4.mono hB3.size)
  clear hb4
  go_wp2_with fail
  refine (HN.out _ (HW.out.below hB4)).mono ?_
  rintro e w5 ⟨rfl, hb5⟩
  have hB5 := hB4.trans (hb5.mono hB4.size)
  clear hb5
  go_wp2_with fail
  go_ret2
  exact ⟨rfl, hB5⟩

set_option maxRecDepth 100000 in
set_option maxHeartbeats 1000000 in
/-- rational.quick at numbers of which one is not short. -/
theorem quick_no_Sub (a b : Rat) (h : ¬ (shortQ a ∧ shortQ b)) (ha : okQ a) (hb : okQ b) (w : World) :
    Calls Tryz.prog 21 #[St (numS a), St (numS b), .func (.func 22) #[] #[]] w fun e w' => e = .returned (.tuple #[St [], .bool false]) ∧ Below w.heap.size w w' := by
  by_cases h1 : shortQ a
  · have h2 : ¬ shortQ b := fun h2 => h ⟨h1, h2⟩
    have r1 := fun W => nativeOf_yes a h1 W
    have r2 := fun W => nativeOf_no b h2 (Nat.le_trans hb.1 (by omega)) (Nat.le_trans hb.2 (by omega)) W
    generalize numS a = x at r1 ⊢
    generalize numS b = y at r2 ⊢
    generalize a.num = n1 at r1
    generalize a.den = d1 at r1
    have R1 := Lib.hid r1; have R2 := Lib.hid r2
    clear r1 r2 h1 h2 h ha hb
    go_enter Tryz.func21, Tryz.ntmps21
    go_wp2_with fail
    refine (R1.out _).mono ?_
    rintro e w1 ⟨rfl, hB1⟩
    have hB1' := hB1.alloc hB1.size (.cells #[.int .i64 n1, .int .i64 (d1 : Int)] 55)
    go_wp2_with fail
    refine (R2.out _).mono ?_
    rintro e w2 ⟨rfl, hb2⟩
    have hB2 := hB1'.trans (hb2.mono hB1'.size)
    clear hb2 hB1 hB1'
    go_wp2_with fail
    go_ret2
    exact ⟨rfl, hB2.alloc hB2.size _⟩
  · have r1 := fun W => nativeOf_no a h1 (Nat.le_trans ha.1 (by omega)) (Nat.le_trans ha.2 (by omega)) W
    generalize numS a = x at r1 ⊢
    generalize numS b = y at ⊢
    have R1 := Lib.hid r1
    clear r1 h1 h ha hb
    go_enter Tryz.func21, Tryz.ntmps21
    go_wp2_with fail
    refine (R1.out _).mono ?_
    rintro e w1 ⟨rfl, hB1⟩
    go_wp2_with fail
    go_ret2
    exact ⟨rfl, hB1.alloc hB1.size _⟩
set_option maxRecDepth 100000 in
set_option maxHeartbeats 1000000 in
/-- rational.quick at short numbers. -/
theorem quick_yes_Mul (a b : Rat) (ha : shortQ a) (hb : shortQ b) (n d : Int) (r : List UInt8) (w : World) (hw : Wd w)
    (H : ∀ W : World, Calls Tryz.prog 26 #[.agg #[.int .i64 a.num, I a.den], .agg #[.int .i64 b.num, I b.den]] W fun e w' => e = .returned (.agg #[.int .i64 n, .int .i64 d]) ∧ Below W.heap.size W w')
    (N : ∀ W : World, Wd W → Calls Tryz.prog 53 #[.agg #[.int .i64 n, .int .i64 d]] W fun e w' => e = .returned (St r) ∧ Below W.heap.size W w') :
    Calls Tryz.prog 21 #[St (numS a), St (numS b), .func (.func 26) #[] #[]] w fun e w' => e = .returned (.tuple #[St r, .bool true]) ∧ Below w.heap.size w w' := by
  have r1 := fun W => nativeOf_yes a ha W
  have r2 := fun W => nativeOf_yes b hb W
  generalize numS a = x at r1 ⊢
  generalize numS b = y at r2 ⊢
  generalize a.num = n1 at H r1
  generalize b.num = n2 at H r2
  generalize a.den = d1 at H r1
  generalize b.den = d2 at H r2
  have R1 := Lib.hid r1; have R2 := Lib.hid r2; have HH := Lib.hid H; have HN := Lib.hid N; have HW := Lib.hid hw
  clear r1 r2 H N hw ha hb
  go_enter Tryz.func21, Tryz.ntmps21
  go_wp2_with fail
  refine (R1.out _).mono ?_
  rintro e w1 ⟨rfl, hB1⟩
  have hB1' := hB1.alloc hB1.size (.cells #[.int .i64 n1, .int .i64 (d1 : Int)] 55)
  go_wp2_with fail
  refine (R2.out _).mono ?_
  rintro e w2 ⟨rfl, hb2⟩
  have hz1 := hB1.size
  have z2 : w1.heap.size < w2.heap.size := by have := hb2.size; simp at this; omega
  have hB2 := hB1'.trans (hb2.mono hB1'.size)
  have A2 : w2.heap[w1.heap.size]? = some (.cells #[.int .i64 n1, .int .i64 (d1 : Int)] 55 (0, 0)) := (hb2.block _ (by simp)).trans (World.alloc_heap_new w1 _)
  have A20 : w2.cell? ⟨w1.heap.size, 0, none⟩ = some (.int .i64 n1) := by simp [World.cell?, A2]
  have A21 : w2.cell? ⟨w1.heap.size, 1, none⟩ = some (.int .i64 (d1 : Int)) := by simp [World.cell?, A2]
  have hB3 := hB2.alloc hB2.size (.cells #[.int .i64 n2, .int .i64 (d2 : Int)] 55)
  clear hb2 A2 hB1 hB1'
  go_wp2_with fail
  refine (HH.out _).mono ?_
  rintro e w4 ⟨rfl, hb4⟩
  have hB4 := hB3.trans (hb4.mono hB3.size)
  clear hb4
  go_wp2_with fail
  refine (HN.out _ (HW.out.below hB4)).mono ?_
  rintro e w5 ⟨rfl, hb5⟩
  have hB5 := hB4.trans (hb5.mono hB4.size)
  clear hb5
  go_wp2_with fail
  go_ret2
  exact ⟨rfl, hB5⟩

set_option maxRecDepth 100000 in
set_option maxHeartbeats 1000000 in
/-- rational.quick at numbers of which one is not short. -/
theorem quick_no_Mul (a b : Rat) (h : ¬ (shortQ a ∧ shortQ b)) (ha : okQ a) (hb : okQ b) (w : World) :
    Calls Tryz.prog 21 #[St (numS a), St (numS b), .func (.func 26) #[] #[]] w fun e w' => e = .returned (.tuple #[St [], .bool false]) ∧ Below w.heap.size w w' := by
  by_cases h1 : shortQ a
  · have h2 : ¬ shortQ b := fun h2 => h ⟨h1, h2⟩
    have r1 := fun W => nativeOf_yes a h1 W
    have r2 := fun W => nativeOf_no b h2 (Nat.le_trans hb.1 (by omega)) (Nat.le_trans hb.2 (by omega)) W
    generalize numS a = x at r1 ⊢
    generalize numS b = y at r2 ⊢
    generalize a.num = n1 at r1
    generalize a.den = d1 at r1
    have R1 := Lib.hid r1; have R2 := Lib.hid r2
    clear r1 r2 h1 h2 h ha hb
    go_enter Tryz.func21, Tryz.ntmps21
    go_wp2_with fail
    refine (R1.out _).mono ?_
    rintro e w1 ⟨rfl, hB1⟩
    have hB1' := hB1.alloc hB1.size (.cells #[.int .i64 n1, .int .i64 (d1 : Int)] 55)
    go_wp2_with fail
    refine (R2.out _).mono ?_
    rintro e w2 ⟨rfl, hb2⟩
    have hB2 := hB1'.trans (hb2.mono hB1'.size)
    clear hb2 hB1 hB1'
    go_wp2_with fail
    go_ret2
    exact ⟨rfl, hB2.alloc hB2.size _⟩
  · have r1 := fun W => nativeOf_no a h1 (Nat.le_trans ha.1 (by omega)) (Nat.le_trans ha.2 (by omega)) W
    generalize numS a = x at r1 ⊢
    generalize numS b = y at ⊢
    have R1 := Lib.hid r1
    clear r1 h1 h ha hb
    go_enter Tryz.func21, Tryz.ntmps21
    go_wp2_with fail
    refine (R1.out _).mono ?_
    rintro e w1 ⟨rfl, hB1⟩
    go_wp2_with fail
    go_ret2
    exact ⟨rfl, hB1.alloc hB1.size _⟩
set_option maxRecDepth 100000 in
set_option maxHeartbeats 1000000 in
/-- rational.quick at short numbers. -/
theorem quick_yes_Div (a b : Rat) (ha : shortQ a) (hb : shortQ b) (n d : Int) (r : List UInt8) (w : World) (hw : Wd w)
    (H : ∀ W : World, Calls Tryz.prog 67 #[.agg #[.int .i64 a.num, I a.den], .agg #[.int .i64 b.num, I b.den]] W fun e w' => e = .returned (.agg #[.int .i64 n, .int .i64 d]) ∧ Below W.heap.size W w')
    (N : ∀ W : World, Wd W → Calls Tryz.prog 53 #[.agg #[.int .i64 n, .int .i64 d]] W fun e w' => e = .returned (St r) ∧ Below W.heap.size W w') :
    Calls Tryz.prog 21 #[St (numS a), St (numS b), .func (.func 67) #[] #[]] w fun e w' => e = .returned (.tuple #[St r, .bool true]) ∧ Below w.heap.size w w' := by
  have r1 := fun W => nativeOf_yes a ha W
  have r2 := fun W => nativeOf_yes b hb W
  generalize numS a = x at r1 ⊢
  generalize numS b = y at r2 ⊢
  generalize a.num = n1 at H r1
  generalize b.num = n2 at H r2
  generalize a.den = d1 at H r1
  generalize b.den = d2 at H r2
  have R1 := Lib.hid r1; have R2 := Lib.hid r2; have HH := Lib.hid H; have HN := Lib.hid N; have HW := Lib.hid hw
  clear r1 r2 H N hw ha hb
  go_enter Tryz.func21, Tryz.ntmps21
  go_wp2_with fail
  refine (R1.out _).mono ?_
  rintro e w1 ⟨rfl, hB1⟩
  have hB1' := hB1.alloc hB1.size (.cells #[.int .i64 n1, .int .i64 (d1 : Int)] 55)
  go_wp2_with fail
  refine (R2.out _).mono ?_
  rintro e w2 ⟨rfl, hb2⟩
  have hz1 := hB1.size
  have z2 : w1.heap.size < w2.heap.size := by have := hb2.size; simp at this; omega
  have hB2 := hB1'.trans (hb2.mono hB1'.size)
  have A2 : w2.heap[w1.heap.size]? = some (.cells #[.int .i64 n1, .int .i64 (d1 : Int)] 55 (0, 0)) := (hb2.block _ (by simp)).trans (World.alloc_heap_new w1 _)
  have A20 : w2.cell? ⟨w1.heap.size, 0, none⟩ = some (.int .i64 n1) := by simp [World.cell?, A2]
  have A21 : w2.cell? ⟨w1.heap.size, 1, none⟩ = some (.int .i64 (d1 : Int)) := by simp [World.cell?, A2]
  have hB3 := hB2.alloc hB2.size (.cells #[.int .i64 n2, .int .i64 (d2 : Int)] 55)
  clear hb2 A2 hB1 hB1'
  go_wp2_with fail
  refine (HH.out _).mono ?_
  rintro e w4 ⟨rfl, hb4⟩
  have hB4 := hB3.trans (hb4.mono hB3.size)
  clear hb4
  go_wp2_with fail
  refine (HN.out _ (HW.out.below hB4)).mono ?_
  rintro e w5 ⟨rfl, hb5⟩
  have hB5 := hB4.trans (hb5.mono hB4.size)
  clear hb5
  go_wp2_with fail
  go_ret2
  exact ⟨rfl, hB5⟩

set_option maxRecDepth 100000 in
set_option maxHeartbeats 1000000 in
/-- rational.quick at numbers of which one is not short. -/
theorem quick_no_Div (a b : Rat) (h : ¬ (shortQ a ∧ shortQ b)) (ha : okQ a) (hb : okQ b) (w : World) :
    Calls Tryz.prog 21 #[St (numS a), St (numS b), .func (.func 67) #[] #[]] w fun e w' => e = .returned (.tuple #[St [], .bool false]) ∧ Below w.heap.size w w' := by
  by_cases h1 : shortQ a
  · have h2 : ¬ shortQ b := fun h2 => h ⟨h1, h2⟩
    have r1 := fun W => nativeOf_yes a h1 W
    have r2 := fun W => nativeOf_no b h2 (Nat.le_trans hb.1 (by omega)) (Nat.le_trans hb.2 (by omega)) W
    generalize numS a = x at r1 ⊢
    generalize numS b = y at r2 ⊢
    generalize a.num = n1 at r1
    generalize a.den = d1 at r1
    have R1 := Lib.hid r1; have R2 := Lib.hid r2
    clear r1 r2 h1 h2 h ha hb
    go_enter Tryz.func21, Tryz.ntmps21
    go_wp2_with fail
    refine (R1.out _).mono ?_
    rintro e w1 ⟨rfl, hB1⟩
    have hB1' := hB1.alloc hB1.size (.cells #[.int .i64 n1, .int .i64 (d1 : Int)] 55)
    go_wp2_with fail
    refine (R2.out _).mono ?_
    rintro e w2 ⟨rfl, hb2⟩
    have hB2 := hB1'.trans (hb2.mono hB1'.size)
    clear hb2 hB1 hB1'
    go_wp2_with fail
    go_ret2
    exact ⟨rfl, hB2.alloc hB2.size _⟩
  · have r1 := fun W => nativeOf_no a h1 (Nat.le_trans ha.1 (by omega)) (Nat.le_trans ha.2 (by omega)) W
    generalize numS a = x at r1 ⊢
    generalize numS b = y at ⊢
    have R1 := Lib.hid r1
    clear r1 h1 h ha hb
    go_enter Tryz.func21, Tryz.ntmps21
    go_wp2_with fail
    refine (R1.out _).mono ?_
    rintro e w1 ⟨rfl, hB1⟩
    go_wp2_with fail
    go_ret2
    exact ⟨rfl, hB1.alloc hB1.size _⟩
end Go.Proofs.YtapfekcbbhhieaaGreatDoor

namespace Go.Proofs.YtapfekcbbhhieaaGreatDoor
open Go.RowKit Go.Shelf Lib Str Limb
attribute [local go_sem] Oper.semAt_some

theorem digs_of_lt {x : Int} {k : Nat} (hk : 0 < k) (h : x.natAbs < 10 ^ k) : digs x ≤ k := (dec_len_le_iff x.natAbs k hk).2 h
theorem len_of_lt {x k : Nat} (hk : 0 < k) (h : x < 10 ^ k) : (decDigits x).length ≤ k := (dec_len_le_iff x k hk).2 h
theorem sz_okQ {q : Rat} {k : Nat} (hk : 0 < k) (hk3 : k ≤ 300) (h : sz q k) : okQ q :=
  ⟨Nat.le_trans (digs_of_lt hk h.1) hk3, Nat.le_trans (len_of_lt hk h.2) hk3⟩
theorem short_near {q : Rat} (h : shortQ q) : (-100000000 < q.num ∧ q.num < 100000000) ∧ (-100000000 < (q.den : Int) ∧ (q.den : Int) < 100000000) := by
  have h1 := (dec_len_le_iff q.num.natAbs 8 (by omega)).1 h.1
  have h2 := (dec_len_le_iff q.den 8 (by omega)).1 h.2
  omega
theorem digs_sub {x y : Int} {k : Nat} (hk : 0 < k) (hx : digs x ≤ k) (hy : digs y ≤ k) : digs (x - y) ≤ k + 1 := by
  rw [Int.sub_eq_add_neg]; exact digs_add hk hx (by unfold digs at *; rw [Int.natAbs_neg]; exact hy)
theorem digs_cross {x : Int} {d i j : Nat} (hi : 0 < i) (h1 : x.natAbs < 10 ^ i) (h2 : d < 10 ^ j) : digs (x * d) ≤ i + j :=
  digs_of_lt (by omega) (by rw [natAbs_mul_den]; exact mul_lt_pow h1 h2)

set_option maxHeartbeats 1000000 in
/-- rational.Add. -/
theorem rAdd_ok (a b : Rat) (i j : Nat) (hi : 0 < i) (hj : 0 < j) (hij : i + j < 300) (ha : sz a i) (hb : sz b j) (w : World) (hw : Wd w) :
    Calls Tryz.prog 11 #[St (numS a), St (numS b)] w fun e w' => e = .returned (.tuple #[St (numS (a + b)), .int .i64 0]) ∧ Below w.heap.size w w' := by
  have oa := sz_okQ hi (by omega) ha
  have ob := sz_okQ hj (by omega) hb
  by_cases h : shortQ a ∧ shortQ b
  · obtain ⟨h1, h2⟩ := h
    have e1 := short_near h1
    have e2 := short_near h2
    have hq := fun W hW => quick_yes_Add a b h1 h2 (a.num * b.den + b.num * a.den) (a.den * b.den : Int) (numS (a + b)) W hW
      (fun W => nadd a.num a.den b.num b.den e1.1 e1.2 e2.1 e2.2 W)
      (fun W hW => by
        have p1 := mul_near e1.1 e2.2
        have p2 := mul_near e2.1 e1.2
        have p3 := mul_near e1.2 e2.2
        have := nativeNumber_any (a.num * b.den + b.num * a.den) (a.den * b.den : Int) (Int.mul_ne_zero (by have := a.den_pos; omega) (by have := b.den_pos; omega)) (by omega) (by omega) W hW
        rw [← Int.natCast_mul, ← add_divInt] at this
        rw [← Int.natCast_mul]; exact this)
    generalize numS a = x at hq ⊢
    generalize numS b = y at hq ⊢
    generalize numS (a + b) = r at hq ⊢
    have HQ := Lib.hid hq; clear hq e1 e2 oa ob ha hb hi hj hij h1 h2
    go_enter Tryz.func11, Tryz.ntmps11
    go_wp2_with fail
    refine (HQ.out _ hw).mono ?_
    rintro e w1 ⟨rfl, hB1⟩
    go_wp2_with fail
    go_ret2
    exact ⟨rfl, hB1⟩
  · have hq := fun W => quick_no_Add a b h oa ob W
    have hbo := fun c W hW H => both_comb a b oa ob c (numS (a + b)) W hW H
    have k1 : digs (a.num * b.den) ≤ 300 := Nat.le_trans (digs_cross hi ha.1 hb.2) (by omega)
    have k2 : digs (b.num * a.den) ≤ 300 := Nat.le_trans (digs_cross hj hb.1 ha.2) (by omega)
    have k3 : digs (a.num * b.den + b.num * a.den) ≤ 300 := by
      have q1 := digs_cross hi ha.1 hb.2
      have q2 := digs_cross hj hb.1 ha.2
      rw [Nat.add_comm] at q2
      have := digs_add (show 0 < i + j by omega) q1 q2
      omega
    have k4 : (decDigits (a.den * b.den)).length ≤ 300 := Nat.le_trans (len_of_lt (by omega) (mul_lt_pow ha.2 hb.2)) (by omega)
    have hcb := fun c W hc hW => comb_add a b oa ob k1 k2 k3 k4 c W hc hW
    generalize numS a = x at hq hbo ⊢
    generalize numS b = y at hq hbo ⊢
    generalize numS (a + b) = r at hbo hcb ⊢
    generalize partsV a = pa at hbo hcb
    generalize partsV b = pb at hbo hcb
    have HQ := Lib.hid hq; have HBO := Lib.hid hbo; have HCB := Lib.hid hcb; have HW := Lib.hid hw
    clear hq hbo hcb oa ob ha hb hi hj hij h k1 k2 k3 k4 hw
    go_enter Tryz.func11, Tryz.ntmps11
    go_wp2_with fail
    refine (HQ.out _).mono ?_
    rintro e w1 ⟨rfl, hB1⟩
    go_wp2_with fail
    refine (combined_any _ _).mono ?_
    rintro e w2 ⟨t, rfl, rfl⟩
    go_wp2_with fail
    have hB2 := hB1.alloc hB1.size (.cells #[.func (.func 30) #[] #[]] t)
    have hc2 : (w1.alloc (.cells #[.func (.func 30) #[] #[]] t)).cell? ⟨w1.heap.size, 0, none⟩ = some (.func (.func 30) #[] #[]) := by
      have := World.alloc_heap_new w1 (.cells #[.func (.func 30) #[] #[]] t (0, 0))
      simp only [World.cell?, this]; rfl
    refine (HBO.out _ _ (HW.out.below hB2) (fun W hb hW => HCB.out _ W ((hb.cell (p := ⟨w1.heap.size, 0, none⟩) (by simp)).trans hc2) hW)).mono ?_
    rintro e w3 ⟨rfl, hb3⟩
    have hB3 := hB2.trans (hb3.mono hB2.size)
    clear hc2 hb3
    go_wp2_with fail
    go_ret2
    exact ⟨rfl, hB3⟩

set_option maxHeartbeats 1000000 in
/-- rational.Sub. -/
theorem rSub_ok (a b : Rat) (i j : Nat) (hi : 0 < i) (hj : 0 < j) (hij : i + j < 300) (ha : sz a i) (hb : sz b j) (w : World) (hw : Wd w) :
    Calls Tryz.prog 9 #[St (numS a), St (numS b)] w fun e w' => e = .returned (.tuple #[St (numS (a - b)), .int .i64 0]) ∧ Below w.heap.size w w' := by
  have oa := sz_okQ hi (by omega) ha
  have ob := sz_okQ hj (by omega) hb
  by_cases h : shortQ a ∧ shortQ b
  · obtain ⟨h1, h2⟩ := h
    have e1 := short_near h1
    have e2 := short_near h2
    have hq := fun W hW => quick_yes_Sub a b h1 h2 (a.num * b.den - b.num * a.den) (a.den * b.den : Int) (numS (a - b)) W hW
      (fun W => nsub a.num a.den b.num b.den e1.1 e1.2 e2.1 e2.2 W)
      (fun W hW => by
        have p1 := mul_near e1.1 e2.2
        have p2 := mul_near e2.1 e1.2
        have p3 := mul_near e1.2 e2.2
        have := nativeNumber_any (a.num * b.den - b.num * a.den) (a.den * b.den : Int) (Int.mul_ne_zero (by have := a.den_pos; omega) (by have := b.den_pos; omega)) (by omega) (by omega) W hW
        rw [← Int.natCast_mul, ← sub_divInt] at this
        rw [← Int.natCast_mul]; exact this)
    generalize numS a = x at hq ⊢
    generalize numS b = y at hq ⊢
    generalize numS (a - b) = r at hq ⊢
    have HQ := Lib.hid hq; clear hq e1 e2 oa ob ha hb hi hj hij h1 h2
    go_enter Tryz.func9, Tryz.ntmps9
    go_wp2_with fail
    refine (HQ.out _ hw).mono ?_
    rintro e w1 ⟨rfl, hB1⟩
    go_wp2_with fail
    go_ret2
    exact ⟨rfl, hB1⟩
  · have hq := fun W => quick_no_Sub a b h oa ob W
    have hbo := fun c W hW H => both_comb a b oa ob c (numS (a - b)) W hW H
    have k1 : digs (a.num * b.den) ≤ 300 := Nat.le_trans (digs_cross hi ha.1 hb.2) (by omega)
    have k2 : digs (b.num * a.den) ≤ 300 := Nat.le_trans (digs_cross hj hb.1 ha.2) (by omega)
    have k3 : digs (a.num * b.den - b.num * a.den) ≤ 300 := by
      have q1 := digs_cross hi ha.1 hb.2
      have q2 := digs_cross hj hb.1 ha.2
      rw [Nat.add_comm] at q2
      have := digs_sub (show 0 < i + j by omega) q1 q2
      omega
    have k4 : (decDigits (a.den * b.den)).length ≤ 300 := Nat.le_trans (len_of_lt (by omega) (mul_lt_pow ha.2 hb.2)) (by omega)
    have hcb := fun c W hc hW => comb_sub a b oa ob k1 k2 k3 k4 c W hc hW
    generalize numS a = x at hq hbo ⊢
    generalize numS b = y at hq hbo ⊢
    generalize numS (a - b) = r at hbo hcb ⊢
    generalize partsV a = pa at hbo hcb
    generalize partsV b = pb at hbo hcb
    have HQ := Lib.hid hq; have HBO := Lib.hid hbo; have HCB := Lib.hid hcb; have HW := Lib.hid hw
    clear hq hbo hcb oa ob ha hb hi hj hij h k1 k2 k3 k4 hw
    go_enter Tryz.func9, Tryz.ntmps9
    go_wp2_with fail
    refine (HQ.out _).mono ?_
    rintro e w1 ⟨rfl, hB1⟩
    go_wp2_with fail
    refine (combined_any _ _).mono ?_
    rintro e w2 ⟨t, rfl, rfl⟩
    go_wp2_with fail
    have hB2 := hB1.alloc hB1.size (.cells #[.func (.func 25) #[] #[]] t)
    have hc2 : (w1.alloc (.cells #[.func (.func 25) #[] #[]] t)).cell? ⟨w1.heap.size, 0, none⟩ = some (.func (.func 25) #[] #[]) := by
      have := World.alloc_heap_new w1 (.cells #[.func (.func 25) #[] #[]] t (0, 0))
      simp only [World.cell?, this]; rfl
    refine (HBO.out _ _ (HW.out.below hB2) (fun W hb hW => HCB.out _ W ((hb.cell (p := ⟨w1.heap.size, 0, none⟩) (by simp)).trans hc2) hW)).mono ?_
    rintro e w3 ⟨rfl, hb3⟩
    have hB3 := hB2.trans (hb3.mono hB2.size)
    clear hc2 hb3
    go_wp2_with fail
    go_ret2
    exact ⟨rfl, hB3⟩

set_option maxHeartbeats 1000000 in
/-- rational.Mul. -/
theorem rMul_ok (a b : Rat) (i j : Nat) (hi : 0 < i) (hj : 0 < j) (hij : i + j ≤ 300) (ha : sz a i) (hb : sz b j) (w : World) (hw : Wd w) :
    Calls Tryz.prog 10 #[St (numS a), St (numS b)] w fun e w' => e = .returned (.tuple #[St (numS (a * b)), .int .i64 0]) ∧ Below w.heap.size w w' := by
  have oa := sz_okQ hi (by omega) ha
  have ob := sz_okQ hj (by omega) hb
  by_cases h : shortQ a ∧ shortQ b
  · obtain ⟨h1, h2⟩ := h
    have e1 := short_near h1
    have e2 := short_near h2
    have hq := fun W hW => quick_yes_Mul a b h1 h2 (a.num * b.num) (a.den * b.den : Int) (numS (a * b)) W hW
      (fun W => nmul a.num a.den b.num b.den e1.1 e1.2 e2.1 e2.2 W)
      (fun W hW => by
        have p1 := mul_near e1.1 e2.1
        have p3 := mul_near e1.2 e2.2
        have := nativeNumber_any (a.num * b.num) (a.den * b.den : Int) (Int.mul_ne_zero (by have := a.den_pos; omega) (by have := b.den_pos; omega)) (by omega) (by omega) W hW
        rw [← Int.natCast_mul, ← mul_divInt] at this
        rw [← Int.natCast_mul]; exact this)
    generalize numS a = x at hq ⊢
    generalize numS b = y at hq ⊢
    generalize numS (a * b) = r at hq ⊢
    have HQ := Lib.hid hq; clear hq e1 e2 oa ob ha hb hi hj hij h1 h2
    go_enter Tryz.func10, Tryz.ntmps10
    go_wp2_with fail
    refine (HQ.out _ hw).mono ?_
    rintro e w1 ⟨rfl, hB1⟩
    go_wp2_with fail
    go_ret2
    exact ⟨rfl, hB1⟩
  · have hq := fun W => quick_no_Mul a b h oa ob W
    have k1 : digs (a.num * b.num) ≤ 300 := Nat.le_trans (digs_of_lt (by omega) (by rw [Int.natAbs_mul]; exact mul_lt_pow ha.1 hb.1)) hij
    have k4 : (decDigits (a.den * b.den)).length ≤ 300 := Nat.le_trans (len_of_lt (by omega) (mul_lt_pow ha.2 hb.2)) hij
    have hbo := fun W hW => both_mul a b oa ob (numS (a * b)) W hW (fun W' _ hW' => mul2_ok a b oa ob k1 k4 W' hW')
    generalize numS a = x at hq hbo ⊢
    generalize numS b = y at hq hbo ⊢
    generalize numS (a * b) = r at hbo ⊢
    have HQ := Lib.hid hq; have HBO := Lib.hid hbo; have HW := Lib.hid hw
    clear hq hbo oa ob ha hb hi hj hij h k1 k4 hw
    go_enter Tryz.func10, Tryz.ntmps10
    go_wp2_with fail
    refine (HQ.out _).mono ?_
    rintro e w1 ⟨rfl, hB1⟩
    go_wp2_with fail
    refine (HBO.out _ (HW.out.below hB1)).mono ?_
    rintro e w3 ⟨rfl, hb3⟩
    have hB3 := hB1.trans (hb3.mono hB1.size)
    clear hb3
    go_wp2_with fail
    go_ret2
    exact ⟨rfl, hB3⟩
end Go.Proofs.YtapfekcbbhhieaaGreatDoor

namespace Go.Proofs.YtapfekcbbhhieaaGreatDoor
open Go.RowKit Go.Shelf Lib Str Limb
attribute [local go_sem] Oper.semAt_some

set_option maxHeartbeats 1000000 in
/-- rational.Div. -/
theorem rDiv_ok (a b : Rat) (hb0 : b ≠ 0) (i j : Nat) (hi : 0 < i) (hj : 0 < j) (hij : i + j ≤ 300) (ha : sz a i) (hb : sz b j) (w : World) (hw : Wd w) :
    Calls Tryz.prog 36 #[St (numS a), St (numS b)] w fun e w' => e = .returned (.tuple #[St (numS (a / b)), .int .i64 0]) ∧ Below w.heap.size w w' := by
  have oa := sz_okQ hi (by omega) ha
  have ob := sz_okQ hj (by omega) hb
  obtain ⟨y, hy⟩ : ∃ y : ByteArray, y = ⟨(numS b).toArray⟩ := ⟨_, rfl⟩
  have hyz : (y.toList == [48]) = false := by
    rw [beq_eq_false_iff_ne, toList_of hy]
    intro e; exact hb0 ((numS_zero_iff b).1 e)
  by_cases h : shortQ a ∧ shortQ b
  · obtain ⟨h1, h2⟩ := h
    have e1 := short_near h1
    have e2 := short_near h2
    have hnz : b.num ≠ 0 := fun h => hb0 (Rat.num_eq_zero.1 h)
    have hq := fun W hW => quick_yes_Div a b h1 h2 (a.num * b.den) (a.den * b.num : Int) (numS (a / b)) W hW
      (fun W => ndiv a.num a.den b.num b.den e1.1 e1.2 e2.1 e2.2 W)
      (fun W hW => by
        have p1 := mul_near e1.1 e2.2
        have p3 := mul_near e1.2 e2.1
        have := nativeNumber_any (a.num * b.den) (a.den * b.num : Int) (Int.mul_ne_zero (by have := a.den_pos; omega) hnz) (by omega) (by omega) W hW
        rw [← div_divInt a b hb0] at this
        exact this)
    rw [bytes_of hy] at hq ⊢
    generalize numS a = x at hq ⊢
    generalize numS (a / b) = r at hq ⊢
    have HQ := Lib.hid hq; clear hq e1 e2 oa ob ha hb hi hj hij h1 h2 hy hnz hb0
    go_enter Tryz.func36, Tryz.ntmps36
    go_wp2_with fail
    refine (HQ.out _ hw).mono ?_
    rintro e w1 ⟨rfl, hB1⟩
    go_wp2_with fail
    go_ret2
    exact ⟨rfl, hB1⟩
  · have hq := fun W => quick_no_Div a b h oa ob W
    have k1 : digs (a.num * b.den) ≤ 300 := Nat.le_trans (digs_cross hi ha.1 hb.2) hij
    have k2 : digs (b.num * a.den) ≤ 300 := Nat.le_trans (digs_cross hj hb.1 ha.2) (by omega)
    have hbo := fun W hW => both_div a b oa ob (numS (a / b)) W hW (fun W' _ hW' => div2_ok a b hb0 oa ob k1 k2 W' hW')
    rw [bytes_of hy] at hq hbo ⊢
    generalize numS a = x at hq hbo ⊢
    generalize numS (a / b) = r at hbo ⊢
    have HQ := Lib.hid hq; have HBO := Lib.hid hbo; have HW := Lib.hid hw
    clear hq hbo oa ob ha hb hi hj hij h k1 k2 hw hy hb0
    go_enter Tryz.func36, Tryz.ntmps36
    go_wp2_with fail
    refine (HQ.out _).mono ?_
    rintro e w1 ⟨rfl, hB1⟩
    go_wp2_with fail
    refine (HBO.out _ (HW.out.below hB1)).mono ?_
    rintro e w3 ⟨rfl, hb3⟩
    have hB3 := hB1.trans (hb3.mono hB1.size)
    clear hb3
    go_wp2_with fail
    go_ret2
    exact ⟨rfl, hB3⟩
end Go.Proofs.YtapfekcbbhhieaaGreatDoor

namespace Go.Proofs.YtapfekcbbhhieaaGreatDoor.Geo

structure Pt where
  x : Rat
  y : Rat
  deriving DecidableEq

/-- How two numbers compare. -/
def cmpR (a b : Rat) : Int := if a < b then -1 else if a = b then 0 else 1

theorem cmpR_cases (a b : Rat) : (a < b ∧ cmpR a b = -1) ∨ (a = b ∧ cmpR a b = 0) ∨ (b < a ∧ cmpR a b = 1) := by
  unfold cmpR
  by_cases h : a < b
  · exact .inl ⟨h, by rw [if_pos h]⟩
  · by_cases e : a = b
    · exact .inr (.inl ⟨e, by rw [if_neg h, if_pos e]⟩)
    · exact .inr (.inr ⟨by grind, by rw [if_neg h, if_neg e]⟩)
theorem cmpR_swap (a b : Rat) : cmpR b a = - cmpR a b := by
  have := cmpR_cases a b; have := cmpR_cases b a; grind
theorem cmpR_self (a : Rat) : cmpR a a = 0 := by have := cmpR_cases a a; grind
theorem cmpR_zero {a b : Rat} : cmpR a b = 0 ↔ a = b := by have := cmpR_cases a b; grind
theorem cmpR_sub (a b c d : Rat) (h : a - b = c - d) : cmpR a b = cmpR c d := by
  have := cmpR_cases a b; have := cmpR_cases c d; grind

/-- How two points compare: by x, then by y. -/
def ordP (p q : Pt) : Int := if cmpR p.x q.x ≠ 0 then cmpR p.x q.x else cmpR p.y q.y

theorem ordP_cases (p q : Pt) : ((p.x < q.x ∨ p.x = q.x ∧ p.y < q.y) ∧ ordP p q = -1) ∨ (p = q ∧ ordP p q = 0) ∨ ((q.x < p.x ∨ p.x = q.x ∧ q.y < p.y) ∧ ordP p q = 1) := by
  unfold ordP
  obtain ⟨a, b⟩ := p; obtain ⟨c, d⟩ := q
  simp only [Pt.mk.injEq]
  have := cmpR_cases a c; have := cmpR_cases b d
  grind

/-- Where c lies by the way from a to b. -/
def turn (a b c : Pt) : Int := cmpR ((b.x - a.x) * (c.y - a.y)) ((b.y - a.y) * (c.x - a.x))

theorem turn_swap (a b c : Pt) : turn b a c = - turn a b c := by
  unfold turn; rw [← cmpR_swap]; exact cmpR_sub _ _ _ _ (by grind)
theorem turn_rot (a b c : Pt) : turn b c a = turn a b c := by
  unfold turn; exact cmpR_sub _ _ _ _ (by grind)
theorem turn_cases (a b c : Pt) : turn a b c = -1 ∨ turn a b c = 0 ∨ turn a b c = 1 := by
  have := cmpR_cases ((b.x - a.x) * (c.y - a.y)) ((b.y - a.y) * (c.x - a.x)); unfold turn; grind
theorem turn_left (a b : Pt) : turn a b a = 0 := by unfold turn; rw [cmpR_zero]; grind
theorem turn_right (a b : Pt) : turn a b b = 0 := by unfold turn; rw [cmpR_zero]; grind
theorem turn_same (a b : Pt) : turn a a b = 0 := by unfold turn; rw [cmpR_zero]; grind

/-- The lesser and the greater end of a segment. -/
def low (a b : Pt) : Pt := if ordP a b > 0 then b else a
def high (a b : Pt) : Pt := if ordP a b > 0 then a else b

theorem low_swap (a b : Pt) : low b a = low a b := by unfold low; have := ordP_cases a b; have := ordP_cases b a; grind
theorem high_swap (a b : Pt) : high b a = high a b := by unfold high; have := ordP_cases a b; have := ordP_cases b a; grind

/-- How two segments meet: 0: not, 1: in a point, 2: in more. -/
def meet (a b c d : Pt) : Int :=
  if turn a b c ≠ 0 ∨ turn a b d ≠ 0 ∨ turn c d a ≠ 0 ∨ turn c d b ≠ 0 then
    if turn a b c * turn a b d ≤ 0 ∧ turn c d a * turn c d b ≤ 0 then 1 else 0
  else
    1 - ordP (if ordP (low c d) (low a b) > 0 then low c d else low a b) (if ordP (high c d) (high a b) < 0 then high c d else high a b)

theorem meet_swap1 (a b c d : Pt) : meet b a c d = meet a b c d := by
  unfold meet
  rw [turn_swap a b c, turn_swap a b d, low_swap a b, high_swap a b]
  have h1 : (- turn a b c * - turn a b d) = turn a b c * turn a b d := by grind
  have h2 : turn c d b * turn c d a = turn c d a * turn c d b := Int.mul_comm _ _
  rw [h1, h2]
  have h3 : (-turn a b c ≠ 0 ∨ -turn a b d ≠ 0 ∨ turn c d b ≠ 0 ∨ turn c d a ≠ 0) ↔ (turn a b c ≠ 0 ∨ turn a b d ≠ 0 ∨ turn c d a ≠ 0 ∨ turn c d b ≠ 0) := by omega
  simp only [h3]
theorem max_swap (p q : Pt) : (if ordP p q > 0 then p else q) = (if ordP q p > 0 then q else p) := by have := ordP_cases p q; have := ordP_cases q p; grind
theorem min_swap (p q : Pt) : (if ordP p q < 0 then p else q) = (if ordP q p < 0 then q else p) := by have := ordP_cases p q; have := ordP_cases q p; grind
theorem meet_comm (a b c d : Pt) : meet c d a b = meet a b c d := by
  unfold meet
  rw [max_swap (low c d), min_swap (high c d)]
  have h3 : (turn c d a ≠ 0 ∨ turn c d b ≠ 0 ∨ turn a b c ≠ 0 ∨ turn a b d ≠ 0) ↔ (turn a b c ≠ 0 ∨ turn a b d ≠ 0 ∨ turn c d a ≠ 0 ∨ turn c d b ≠ 0) := by omega
  have h4 : (turn c d a * turn c d b ≤ 0 ∧ turn a b c * turn a b d ≤ 0) ↔ (turn a b c * turn a b d ≤ 0 ∧ turn c d a * turn c d b ≤ 0) := And.comm
  simp only [h3, h4]
theorem meet_swap2 (a b c d : Pt) : meet a b d c = meet a b c d := by rw [← meet_comm, meet_swap1, meet_comm]
theorem meet_range (a b c d : Pt) : 0 ≤ meet a b c d ∧ meet a b c d ≤ 2 := by
  unfold meet
  split
  · split <;> omega
  · generalize (if ordP (low c d) (low a b) > 0 then low c d else low a b) = p
    generalize (if ordP (high c d) (high a b) < 0 then high c d else high a b) = q
    have := ordP_cases p q; grind
theorem low_le (a b : Pt) : ordP (low a b) (high a b) = if a = b then 0 else -1 := by
  unfold low high; have := ordP_cases a b; have := ordP_cases b a; grind
theorem ordP_self (a : Pt) : ordP a a = 0 := by have := ordP_cases a a; grind
theorem meet_own (a b : Pt) : meet a b a b = if a = b then 1 else 2 := by
  unfold meet
  rw [if_neg (by simp [turn_left, turn_right]), ordP_self, ordP_self, if_neg (by omega), if_neg (by omega), low_le]
  split <;> rfl
theorem low_self (a : Pt) : low a a = a := by unfold low; split <;> rfl
theorem high_self (a : Pt) : high a a = a := by unfold high; split <;> rfl
/-- A segment without a length meets in a point at most. -/
theorem meet_point (a c d : Pt) : meet a a c d ≠ 2 := by
  unfold meet
  rw [low_self, high_self]
  split
  · split <;> omega
  · intro h
    have h1 := ordP_cases (low c d) a; have h2 := ordP_cases (high c d) a
    have h4 := ordP_cases (low c d) (high c d)
    have h3 := ordP_cases (if ordP (low c d) a > 0 then low c d else a) (if ordP (high c d) a < 0 then high c d else a)
    have h5 := low_le c d
    grind
/-- Segments with a common end meet. -/
theorem meet_end (a b c : Pt) : 1 ≤ meet a b a c := by
  unfold meet
  split
  · rw [if_pos]
    · exact Int.le_refl _
    · rw [turn_left, turn_left]; simp
  · have h1 := low_le a b; have h2 := low_le a c
    have k1 := ordP_cases (low a c) (low a b); have k2 := ordP_cases (high a c) (high a b)
    have k3 := ordP_cases (if ordP (low a c) (low a b) > 0 then low a c else low a b) (if ordP (high a c) (high a b) < 0 then high a c else high a b)
    have m1 : low a b = a ∨ high a b = a := by unfold low high; split <;> simp
    have m2 : low a c = a ∨ high a c = a := by unfold low high; split <;> simp
    have o1 := ordP_cases (low a b) (high a b); have o2 := ordP_cases (low a c) (high a c)
    grind
end Go.Proofs.YtapfekcbbhhieaaGreatDoor.Geo
