/-
  integer.Compare, Gcd.
  integer.Divide, where nothing is left over.
  The numerals of rational numbers, and the plain laws of their arithmetic. Plain Lean: no program stands in this text.
  rational.nativeInt, gcd.
-/
import Derived.Test.YtapfekcbbhhieaaGreatDoorS10
import Derived.Test.YtapfekcbbhhieaaGreatDoorS02
namespace Go.Proofs.YtapfekcbbhhieaaGreatDoor
open Go.RowKit Go.Shelf Lib Str Limb
attribute [local go_sem] Oper.semAt_some

/-- How two integers compare. -/
def cmpZ (x y : Int) : Int := if x < y then -1 else if x > y then 1 else 0

set_option maxHeartbeats 400000 in
theorem Compare_small (x y : Int) (hx : (itoa x).length ≤ 18) (hy : (itoa y).length ≤ 18) (w : World) :
    Calls Tryz.prog 124 #[St (itoa x), St (itoa y)] w fun e w' => e = .returned (.tuple #[.int .i64 (cmpZ x y), .int .i64 0]) ∧ Below w.heap.size w w' := by
  obtain ⟨x1, x2⟩ := lt18 hx
  obtain ⟨y1, y2⟩ := lt18 hy
  have hb := fun W => intBoth x y (Nat.le_trans (digs_small (by omega)) (by omega)) (Nat.le_trans (digs_small (by omega)) (by omega)) W
  have hs := fun W => intSmall_yes x y hx hy W
  have hc : ∀ W, Calls Tryz.prog 123 #[.int .i64 x, .int .i64 y] W fun e w' => e = .returned (.int .i64 (cmpZ x y)) ∧ w' = W := fun W => Tryz.cmp_Compare_int x y W
  have HB := Lib.hid hb; clear hb
  have HC := Lib.hid hc; clear hc
  have HS := Lib.hid hs; clear hs hx hy
  go_enter Tryz.func124, Tryz.ntmps124
  go_wp2_with fail
  refine (HB.out w).mono ?_
  rintro e w1 ⟨rfl, hB1⟩
  go_wp2_with fail
  refine (HS.out w1).mono ?_
  rintro e w2 ⟨rfl, hb2⟩
  have hB2 := hB1.trans (hb2.mono hB1.size)
  clear hb2 hB1
  go_wp2_with fail
  refine (HC.out w2).mono ?_
  rintro e w3 ⟨rfl, rfl⟩
  go_wp2_with fail
  go_ret2
  exact ⟨rfl, hB2⟩

set_option maxRecDepth 100000 in
set_option maxHeartbeats 1000000 in
theorem Compare_big (x y : Int) (hx : digs x ≤ 300) (hy : digs y ≤ 300) (h : 18 < (itoa x).length ∨ 18 < (itoa y).length) (w : World) :
    Calls Tryz.prog 124 #[St (itoa x), St (itoa y)] w fun e w' => e = .returned (.tuple #[.int .i64 (cmpZ x y), .int .i64 0]) ∧ Below w.heap.size w w' := by
  have hb := fun W => intBoth x y hx hy W
  have hs := fun W => intSmall_no x y h W
  have r1 := fun W => read_any x W (by omega)
  have r2 := fun W => read_any y W (by omega)
  have l1 := abs_limbs (z := x) (k := 100) (by omega) (by omega)
  have l2 := abs_limbs (z := y) (k := 100) (by omega) (by omega)
  have HB := Lib.hid hb; clear hb
  have HS := Lib.hid hs; clear hs hx hy h
  have R1 := Lib.hid r1; have R2 := Lib.hid r2; clear r1 r2
  go_enter Tryz.func124, Tryz.ntmps124
  go_wp2_with fail
  refine (HB.out w).mono ?_
  rintro e w1 ⟨rfl, hB1⟩
  go_wp2_with fail
  refine (HS.out w1).mono ?_
  rintro e w2 ⟨rfl, rfl⟩
  go_wp2_with fail
  refine (R1.out w1).mono ?_
  rintro e w2 ⟨vx, rfl, hvx, hb2⟩
  have hB2 := hB1.trans (hb2.mono hB1.size)
  clear hb2 hB1
  have HVX := Lib.hid hvx; clear hvx
  go_wp2_with fail
  refine (R2.out w2).mono ?_
  rintro e w3 ⟨vy, rfl, hvy, hb3⟩
  have hvx := HVX.out.below hb3
  have hB3 := hB2.trans (hb3.mono hB2.size)
  clear hb3 hB2 HVX
  obtain ⟨px, kx, cx, rfl, -⟩ := sl_open hvx
  obtain ⟨py, ky, cy, rfl, -⟩ := sl_open hvy
  have HVX := Lib.hid hvx; have HVY := Lib.hid hvy; clear hvx hvy
  have sx := sgn_self x
  have sy := sgn_not y
  generalize hbx : decide (x < 0) = b1 at *
  generalize hby : decide (y < 0) = b2 at *
  have SX := Lib.hid sx; have SY := Lib.hid sy; clear sx sy hbx hby
  go_wp2_with fail
  have hB4 := (hB3.alloc hB3.size (.cells #[.bool b1, .slice px kx cx] 95)).alloc (by have := hB3.size; simp; omega) (.cells #[.bool !b2, .slice py ky cy] 95)
  have hb4 : Below w3.heap.size w3 ((w3.alloc (.cells #[.bool b1, .slice px kx cx] 95)).alloc (.cells #[.bool !b2, .slice py ky cy] 95)) := ((Below.refl _ _).alloc (Nat.le_refl _) _).alloc (by simp) _
  refine (add_any _ _ (.slice px kx cx) (.slice py ky cy) _ _ _ (HVX.out.below hb4) (HVY.out.below hb4) (by omega) (by omega)).mono ?_
  rintro e w5 ⟨m, v, n, rfl, hz, hv, hb5⟩
  rw [SX.out, SY.out] at hz
  obtain ⟨p, k, c, rfl, hk⟩ := sl_open hv
  have hB5 := hB4.trans (hb5.mono hB4.size)
  clear hb4 hB4 hb5 hB3 HVX HVY
  have hk0 : k = 0 ↔ n = 0 := by rw [hk]; exact ⟨fun e => (limbs_nil_iff (by decide) n).1 (List.length_eq_zero_iff.1 e), fun e => by rw [e, limbs_zero]; rfl⟩
  clear hk hv
  have hfin : (n = 0 → cmpZ x y = 0) ∧ (n ≠ 0 → m = true → cmpZ x y = -1) ∧ (n ≠ 0 → m = false → cmpZ x y = 1) := by
    unfold cmpZ
    refine ⟨fun h => ?_, fun h1 h2 => ?_, fun h1 h2 => ?_⟩
    · subst h
      have : x = y := by cases m <;> simp [sgn] at hz <;> omega
      rw [if_neg (by omega), if_neg (by omega)]
    · subst h2; simp [sgn] at hz; rw [if_pos (by omega)]
    · subst h2; simp [sgn] at hz; rw [if_neg (by omega), if_pos (by omega)]
  have HF := Lib.hid hfin; clear hfin hz
  have hBF := hB5.alloc hB5.size (.cells #[.bool m, .slice p k c] 95)
  by_cases h0 : n = 0
  · have hkz : ((k : Int) == 0) = true := by rw [beq_iff_eq]; have := hk0.2 h0; omega
    have HH := Lib.hid h0; clear h0 hk0
    go_wp2_with fail
    go_ret2
    exact ⟨by rw [HF.out.1 HH.out]; rfl, hBF⟩
  · have hkz : ((k : Int) == 0) = false := by rw [beq_eq_false_iff_ne]; have := mt hk0.1 h0; omega
    have HH := Lib.hid h0; clear h0 hk0
    cases m
    · go_wp2_with fail
      go_ret2
      exact ⟨by rw [HF.out.2.2 HH.out (by simp)]; rfl, hBF⟩
    · go_wp2_with fail
      go_ret2
      exact ⟨by rw [HF.out.2.1 HH.out (by simp)]; rfl, hBF⟩
/-- integer.Compare. -/
theorem Compare_any (x y : Int) (hx : digs x ≤ 300) (hy : digs y ≤ 300) (w : World) :
    Calls Tryz.prog 124 #[St (itoa x), St (itoa y)] w fun e w' => e = .returned (.tuple #[.int .i64 (cmpZ x y), .int .i64 0]) ∧ Below w.heap.size w w' := by
  by_cases h : (itoa x).length ≤ 18 ∧ (itoa y).length ≤ 18
  · exact Compare_small x y h.1 h.2 w
  · exact Compare_big x y hx hy (by omega) w

/-! ### Gcd -/
theorem gcd_step (a b : Int) : Int.gcd b (a.tmod b) = Int.gcd a b := by
  unfold Int.gcd
  rw [Int.natAbs_tmod, Nat.gcd_comm b.natAbs, ← Nat.gcd_rec, Nat.gcd_comm]

theorem gcd_digs (x y : Int) (hx : digs x ≤ 300) (hy : digs y ≤ 300) : digs (Int.gcd x y : Int) ≤ 300 := by
  by_cases h0 : x = 0
  · subst h0
    rw [Int.gcd_zero_left]; unfold digs at *; simpa using hy
  · rw [digs_le_iff _ _ (by omega)] at hx ⊢
    rw [Int.natAbs_natCast]
    exact Nat.lt_of_le_of_lt (Nat.le_of_dvd (by omega) (Nat.gcd_dvd_left _ _)) hx

set_option maxHeartbeats 1000000 in
theorem Gcd_small (x y : Int) (hx : (itoa x).length ≤ 18) (hy : (itoa y).length ≤ 18) (w : World) (hw : Wd w) :
    Calls Tryz.prog 50 #[St (itoa x), St (itoa y)] w fun e w' => e = .returned (.tuple #[St (itoa (Int.gcd x y : Int)), .int .i64 0]) ∧ Below w.heap.size w w' := by
  obtain ⟨x1, x2⟩ := lt18 hx
  obtain ⟨y1, y2⟩ := lt18 hy
  have hb := fun W => intBoth x y (Nat.le_trans (digs_small (by omega)) (by omega)) (Nat.le_trans (digs_small (by omega)) (by omega)) W
  have hs := fun W => intSmall_yes x y hx hy W
  have HB := Lib.hid hb; clear hb
  have HS := Lib.hid hs; clear hs hx hy
  have HW := Lib.hid hw; clear hw
  obtain ⟨g, hg⟩ : ∃ g, g = Int.gcd x y := ⟨_, rfl⟩
  rw [← hg]
  have HG := Lib.hid hg; clear hg
  go_enter Tryz.func50, Tryz.ntmps50
  go_wp2_with fail
  refine (HB.out w).mono ?_
  rintro e w1 ⟨rfl, hB1⟩
  go_wp2_with fail
  refine (HS.out w1).mono ?_
  rintro e w2 ⟨rfl, hb2⟩
  have hB2 := hB1.trans (hb2.mono hB1.size)
  clear hb2 hB1
  go_wp2_with fail
  go_loopw [7, 8] (fun a b wr => ∃ m n : Int, a = .int .i64 m ∧ b = .int .i64 n ∧ Hid (Int.gcd m n = g) ∧ (-1000000000000000000 < m ∧ m < 1000000000000000000) ∧ (-1000000000000000000 < n ∧ n < 1000000000000000000) ∧ Hid (Below w.heap.size w wr))
    (fun _ b _ => (RowKit.intOf b).natAbs)
  case atStart => exact ⟨x, y, rfl, rfl, HG.out.symm, ⟨x1, x2⟩, ⟨y1, y2⟩, hB2⟩
  case round =>
    clear x1 x2 y1 y2 hB2
    obtain ⟨m, n, rfl, rfl, hgm, ⟨m1, m2⟩, ⟨n1, n2⟩, hBr⟩ := hrel
    by_cases h0 : n = 0
    · subst h0
      have hgm' : Int.gcd m 0 = g := hgm.out
      rw [Int.gcd_zero_right] at hgm'
      have hmx : max m (-m) = (g : Int) := by omega
      have HM := Lib.hid hgm'; clear hgm hgm'
      have hg1 : (g : Int) ≤ 1000000000000000000 := by omega
      have hneg : IntKind.i64.wrap (-m) = -m := IntWalk.i64_in _ (by omega)
      go_wp2_with fail
      refine (itoa_b (g : Int) (by omega) (by omega) wr (HW.out.below hBr.out)).mono ?_
      rintro e w3 ⟨rfl, hb3⟩
      have hB3 := hBr.out.trans (hb3.mono hBr.out.size)
      clear hb3
      go_wp2_with fail
      go_ret2
      exact ⟨rfl, hB3⟩
    · have hn0 : (n != 0) = true := by simpa using h0
      have ht1 : (m.tmod n).natAbs < n.natAbs := by rw [Int.natAbs_tmod]; exact Nat.mod_lt _ (by omega)
      obtain ⟨t, ht⟩ : ∃ t, t = m.tmod n := ⟨_, rfl⟩
      have hgt := gcd_step m n
      rw [← ht] at ht1 hgt
      have hwr : IntKind.i64.wrap (m.tmod n) = t := by rw [← ht]; exact IntWalk.i64_in _ (by omega)
      have HGT := Lib.hid hgt; have HT := Lib.hid ht; clear hgt ht hwr
      go_wp2
      (refine wp_region_quiet_lit (by kernel_rfl) (by kernel_rfl) (WQ.out ?_); (repeat (first | (apply WQ.read (by rfl); (focus (rintro W ⟨n, rfl⟩; go_simp; try with_reducible rfl)); try simp only [Act.put, List.setIfInBounds_toArray, List.set_cons_zero, List.set_cons_succ]) | (apply WQ.skip (by rfl); try simp only [Act.put, List.setIfInBounds_toArray, List.set_cons_zero, List.set_cons_succ]))); refine WQ.nil ?_; rintro _ ⟨nq, rfl⟩)
      go_wp2
      go_roundw
      case rel => exact ⟨n, t, rfl, by rw [HT.out], HGT.out.trans hgm.out, ⟨n1, n2⟩, by omega, Below_drewN hBr.out _⟩
      case measure => show (m.tmod n).natAbs < n.natAbs; rw [← HT.out]; exact ht1

theorem run_field_limbs (b : Bool) (p : Option Addr) (k c : Nat) (W : World) : (Instr.field 95 (.agg #[.bool b, .slice p k c]) 1).run Tryz.prog W = .ok (.slice p k c) W := by kernel_rfl

theorem nat_gcd_step (a b : Nat) : Nat.gcd b (a % b) = Nat.gcd a b := by
  rw [Nat.gcd_comm b, ← Nat.gcd_rec, Nat.gcd_comm]

set_option maxRecDepth 100000 in
set_option maxHeartbeats 1000000 in
theorem Gcd_big (x y : Int) (hx : digs x ≤ 300) (hy : digs y ≤ 300) (h : 18 < (itoa x).length ∨ 18 < (itoa y).length) (w : World) (hw : Wd w) :
    Calls Tryz.prog 50 #[St (itoa x), St (itoa y)] w fun e w' => e = .returned (.tuple #[St (itoa (Int.gcd x y : Int)), .int .i64 0]) ∧ Below w.heap.size w w' := by
  have hb := fun W => intBoth x y hx hy W
  have hs := fun W => intSmall_no x y h W
  have r1 := fun W => read_any x W (by omega)
  have r2 := fun W => read_any y W (by omega)
  have l1 := abs_limbs (z := x) (k := 100) (by omega) (by omega)
  have l2 := abs_limbs (z := y) (k := 100) (by omega) (by omega)
  have hgd := gcd_digs x y hx hy
  have HB := Lib.hid hb; clear hb
  have HS := Lib.hid hs; clear hs hx hy h
  have HW := Lib.hid hw; clear hw
  have R1 := Lib.hid r1; have R2 := Lib.hid r2; clear r1 r2
  obtain ⟨g, hg⟩ : ∃ g, g = Int.gcd x y := ⟨_, rfl⟩
  rw [← hg] at hgd ⊢
  have HG := Lib.hid hg; clear hg
  have hfd := run_field_limbs
  go_enter Tryz.func50, Tryz.ntmps50
  go_wp2_with fail
  refine (HB.out w).mono ?_
  rintro e w1 ⟨rfl, hB1⟩
  go_wp2_with fail
  refine (HS.out w1).mono ?_
  rintro e w2 ⟨rfl, rfl⟩
  go_wp2_with fail
  refine (R1.out w1).mono ?_
  rintro e w2 ⟨vx, rfl, hvx, hb2⟩
  have hB2 := hB1.trans (hb2.mono hB1.size)
  clear hb2 hB1
  obtain ⟨px, kx, cx, rfl, -⟩ := sl_open hvx
  have HVX := Lib.hid hvx; clear hvx
  go_wp2_with fail
  refine (R2.out w2).mono ?_
  rintro e w3 ⟨vy, rfl, hvy, hb3⟩
  have hvx := HVX.out.below hb3
  have hB3 := hB2.trans (hb3.mono hB2.size)
  clear hb3 hB2 HVX
  obtain ⟨py, ky, cy, rfl, -⟩ := sl_open hvy
  have HVX := Lib.hid hvx; have HVY := Lib.hid hvy; clear hvx hvy
  go_wp2
  go_loopg [10, 11] y.natAbs (fun k va vb wr => ∃ a b p kb c, vb = .slice p kb c ∧ Hid (k = b) ∧ Hid (kb = (limbs B9 b).length) ∧ (limbs B9 a).length ≤ 100 ∧ (limbs B9 b).length ≤ 100 ∧ Hid (Sl wr va ((limbs B9 a).map I)) ∧ Hid (Sl wr vb ((limbs B9 b).map I)) ∧ Hid (Nat.gcd a b = g) ∧ Hid (Below w.heap.size w wr))
  case atStart =>
    obtain ⟨p, k, c, e, hk⟩ := sl_open HVY.out
    cases e
    exact ⟨x.natAbs, y.natAbs, py, ky, cy, rfl, rfl, hk, l1, l2, HVX.out, HVY.out, HG.out.symm, hB3⟩
  case round =>
    clear HVX HVY hB3
    obtain ⟨a, b, p, kb, c, rfl, hk, hkb, la, lb, hva, hvb, hgc, hBr⟩ := hrel
    by_cases h0 : kb = 0
    · have hb0 : b = 0 := (limbs_nil_iff (B := B9) (by decide) b).1 (List.length_eq_zero_iff.1 (by rw [← hkb.out]; exact h0))
      have hga : a = g := by have := hgc.out; rw [hb0, Nat.gcd_zero_right] at this; exact this
      have hz0 : ¬ (0 : Int) < kb := by omega
      have HA := Lib.hid hga; clear hga
      have HB0 := Lib.hid hb0; clear hb0
      have HK0 := Lib.hid h0; clear h0
      obtain ⟨p1, k1, c1, rfl, -⟩ := sl_open hva.out
      have hres := result_any false _ a wr (HW.out.below hBr.out) hva.out (by omega)
      rw [sgn_false, HA.out, resL_ok hgd, resE_ok hgd] at hres
      have HRES := Lib.hid hres; clear hres
      go_wp2_with fail
      refine HRES.out.mono ?_
      rintro e w4 ⟨rfl, hb4⟩
      have hB4 := hBr.out.trans (hb4.mono hBr.out.size)
      clear hb4
      go_wp2_with fail
      go_ret2
      exact ⟨rfl, hB4⟩
    · have hz0 : (0 : Int) < kb := by omega
      have hb0 : b ≠ 0 := fun e => h0 (by rw [hkb.out, e, limbs_zero]; rfl)
      go_wp2_with fail
      refine (divide_any _ (.slice p kb c) a b wr hva.out hvb.out (by omega) (by omega) hb0).mono ?_
      rintro e w4 ⟨v1, v2, rfl, hs1, hs2, hb4⟩
      have hB4 := hBr.out.trans (hb4.mono hBr.out.size)
      have hvb4 := hvb.out.below hb4
      obtain ⟨p2, k2, c2, rfl, hk2⟩ := sl_open hs2
      have HS2 := Lib.hid hs2; have HB4 := Lib.hid hB4; have HVB := Lib.hid hvb4
      have HK2 := Lib.hid hk2
      have HB0 := Lib.hid hb0
      clear hs1 hs2 hb4 hB4 hvb4 hk2 hb0 hva hvb hBr
      go_wp2
      go_roundg (a % b)
      case measure => rw [hk.out]; exact Nat.mod_lt _ (Nat.pos_of_ne_zero HB0.out)
      case rel => exact ⟨b, a % b, p2, k2, c2, rfl, rfl, HK2.out, lb, Nat.le_trans (limbs_mono (by decide) (Nat.le_of_lt (Nat.mod_lt _ (Nat.pos_of_ne_zero HB0.out)))) lb, HVB.out, HS2.out, (nat_gcd_step a b).trans hgc.out, HB4.out⟩
/-- integer.Gcd. -/
theorem Gcd_any (x y : Int) (hx : digs x ≤ 300) (hy : digs y ≤ 300) (w : World) (hw : Wd w) :
    Calls Tryz.prog 50 #[St (itoa x), St (itoa y)] w fun e w' => e = .returned (.tuple #[St (itoa (Int.gcd x y : Int)), .int .i64 0]) ∧ Below w.heap.size w w' := by
  by_cases h : (itoa x).length ≤ 18 ∧ (itoa y).length ≤ 18
  · exact Gcd_small x y h.1 h.2 w hw
  · exact Gcd_big x y hx hy (by omega) w hw
end Go.Proofs.YtapfekcbbhhieaaGreatDoor

namespace Go.Proofs.YtapfekcbbhhieaaGreatDoor
open Go.RowKit Go.Shelf Lib Str Limb
attribute [local go_sem] Oper.semAt_some

set_option maxHeartbeats 400000 in
theorem Divide_small (x y q : Int) (hq : x = q * y) (hy0 : 0 < y) (hx : (itoa x).length ≤ 18) (hy : (itoa y).length ≤ 18) (w : World) (hw : Wd w) :
    Calls Tryz.prog 51 #[St (itoa x), St (itoa y)] w fun e w' => e = .returned (.tuple #[St (itoa q), St [48], .int .i64 0]) ∧ Below w.heap.size w w' := by
  obtain ⟨x1, x2⟩ := lt18 hx
  obtain ⟨y1, y2⟩ := lt18 hy
  have hb := fun W => intBoth x y (Nat.le_trans (digs_small (by omega)) (by omega)) (Nat.le_trans (digs_small (by omega)) (by omega)) W
  have hs := fun W => intSmall_yes x y hx hy W
  have hqa : q.natAbs ≤ x.natAbs := by rw [hq, Int.natAbs_mul]; exact Nat.le_mul_of_pos_right _ (by omega)
  have hit := fun W hW => itoa_b q (by omega) (by omega) W hW
  have hiz := fun W hW => itoa_b 0 (by omega) (by omega) W hW
  have hd : x.tdiv y = q := by rw [hq]; exact Int.mul_tdiv_cancel _ (by omega)
  have hm : x.tmod y = 0 := by rw [hq]; exact Int.mul_tmod_left _ _
  have w1 : IntKind.i64.wrap (x.tdiv y) = q := by rw [hd]; exact IntWalk.i64_in _ (by omega)
  have w2 : IntKind.i64.wrap (x.tmod y) = 0 := by rw [hm]; rfl
  rw [itoa_zero] at hiz
  have hyn : (itoa y == [48]) = false := by rw [beq_eq_false_iff_ne, ← itoa_zero]; exact fun h => by have := itoa_inj h; omega
  have hne : ¬ itoa y = [48] := by simpa using hyn
  have hy1 : ¬ y = 0 := by omega
  have HB := Lib.hid hb; clear hb
  have HIT := Lib.hid hit; clear hit
  have HIZ := Lib.hid hiz; clear hiz
  have HS := Lib.hid hs; 
  have HQD := Lib.hid hd; have HMD := Lib.hid hm; clear hs hx hy hq hd hm hqa
  have HW := Lib.hid hw; clear hw
  go_enter Tryz.func51, Tryz.ntmps51
  go_wp2_with fail
  refine (HB.out w).mono ?_
  rintro e w3 ⟨rfl, hB1⟩
  go_wp2_with fail
  refine (HS.out w3).mono ?_
  rintro e w4 ⟨rfl, hb2⟩
  have hB2 := hB1.trans (hb2.mono hB1.size)
  clear hb2 hB1
  go_wp2_with fail
  (refine wp_region_quiet_lit (by kernel_rfl) (by kernel_rfl) (WQ.out ?_); (repeat (first | (apply WQ.read (by rfl); (focus (rintro W ⟨n, rfl⟩; go_simp; try with_reducible rfl)); try simp only [Act.put, List.setIfInBounds_toArray, List.set_cons_zero, List.set_cons_succ]) | (apply WQ.skip (by rfl); try simp only [Act.put, List.setIfInBounds_toArray, List.set_cons_zero, List.set_cons_succ]))); refine WQ.nil ?_; rintro _ ⟨nq, rfl⟩)
  go_wp2_with fail
  have hB3 := Below_drewN hB2 nq
  refine (HIT.out (w4.drewN nq) (HW.out.below hB3)).mono ?_
  rintro e w5 ⟨rfl, hb5⟩
  have hB5 := hB3.trans (hb5.mono hB3.size)
  clear hb5 hB3 hB2
  go_wp2_with fail
  refine (HIZ.out w5 (HW.out.below hB5)).mono ?_
  rintro e w6 ⟨rfl, hb6⟩
  have hB6 := hB5.trans (hb6.mono hB5.size)
  clear hb6 hB5
  go_wp2_with fail
  go_ret3
  exact ⟨rfl, hB6⟩

theorem sgn_quo (x y q : Int) (hq : x = q * y) (hy : 0 < y) : sgn (decide (x < 0) != decide (y < 0)) (x.natAbs / y.natAbs) = q ∧ x.natAbs % y.natAbs = 0 := by
  have h1 : x.natAbs = q.natAbs * y.natAbs := by rw [hq, Int.natAbs_mul]
  have h2 : 0 < y.natAbs := by omega
  rw [h1, Nat.mul_div_cancel _ h2, Nat.mul_mod_left]
  refine ⟨?_, rfl⟩
  have e : decide (y < 0) = false := by simp; omega
  rw [e, Bool.bne_false]
  have e2 : decide (x < 0) = decide (q < 0) := by
    rw [hq]
    by_cases h : q < 0
    · have : q * y < 0 := Int.mul_neg_of_neg_of_pos h hy
      simp [h, this]
    · have : 0 ≤ q * y := Int.mul_nonneg (by omega) (by omega)
      simp [h]; omega
  rw [e2]; exact sgn_self q

set_option maxRecDepth 100000 in
set_option maxHeartbeats 1000000 in
theorem Divide_big (x y q : Int) (hq : x = q * y) (hy0 : 0 < y) (hx : digs x ≤ 300) (hy : digs y ≤ 300) (h : 18 < (itoa x).length ∨ 18 < (itoa y).length) (w : World) (hw : Wd w) :
    Calls Tryz.prog 51 #[St (itoa x), St (itoa y)] w fun e w' => e = .returned (.tuple #[St (itoa q), St [48], .int .i64 0]) ∧ Below w.heap.size w w' := by
  have hb := fun W => intBoth x y hx hy W
  have hs := fun W => intSmall_no x y h W
  have r1 := fun W => read_any x W (by omega)
  have r2 := fun W => read_any y W (by omega)
  have l1 := abs_limbs (z := x) (k := 100) (by omega) (by omega)
  have l2 := abs_limbs (z := y) (k := 100) (by omega) (by omega)
  obtain ⟨s1, s2⟩ := sgn_quo x y q hq hy0
  have hqd : digs q ≤ 300 := by
    have hqa : q.natAbs ≤ x.natAbs := by rw [hq, Int.natAbs_mul]; exact Nat.le_mul_of_pos_right _ (by omega)
    rw [digs_le_iff _ _ (by omega)] at hx ⊢
    exact Nat.lt_of_le_of_lt hqa hx
  have hyn : (itoa y == [48]) = false := by rw [beq_eq_false_iff_ne, ← itoa_zero]; exact fun h => by have := itoa_inj h; omega
  have hne : ¬ itoa y = [48] := by simpa using hyn
  have hm0 : y.natAbs ≠ 0 := by omega
  have lq := limbs_mono (B := B9) (by decide) (Nat.div_le_self x.natAbs y.natAbs)
  have HB := Lib.hid hb; clear hb
  have HS := Lib.hid hs; clear hs hx hy h
  have HW := Lib.hid hw; clear hw
  have R1 := Lib.hid r1; have R2 := Lib.hid r2; clear r1 r2
  have S1 := Lib.hid s1; have S2 := Lib.hid s2; clear s1 s2
  have HQ := Lib.hid hq; clear hq
  go_enter Tryz.func51, Tryz.ntmps51
  go_wp2_with fail
  refine (HB.out w).mono ?_
  rintro e w1 ⟨rfl, hB1⟩
  go_wp2_with fail
  refine (HS.out w1).mono ?_
  rintro e w2 ⟨rfl, rfl⟩
  go_wp2_with fail
  refine (R1.out w1).mono ?_
  rintro e w2 ⟨vx, rfl, hvx, hb2⟩
  have hB2 := hB1.trans (hb2.mono hB1.size)
  clear hb2 hB1
  obtain ⟨px, kx, cx, rfl, -⟩ := sl_open hvx
  have HVX := Lib.hid hvx; clear hvx
  go_wp2_with fail
  refine (R2.out w2).mono ?_
  rintro e w3 ⟨vy, rfl, hvy, hb3⟩
  have hvx := HVX.out.below hb3
  have hB3 := hB2.trans (hb3.mono hB2.size)
  clear hb3 hB2 HVX
  obtain ⟨py, ky, cy, rfl, -⟩ := sl_open hvy
  have HVX := Lib.hid hvx; have HVY := Lib.hid hvy; clear hvx hvy
  have hby2 : decide (y < 0) = false := by simp; omega
  generalize hbx : decide (x < 0) = b1 at *
  rw [hby2] at *
  have HBX := Lib.hid hbx; clear hbx hby2
  go_wp2_with fail
  have hB4 := (hB3.alloc hB3.size (.cells #[.bool b1, .slice px kx cx] 95)).alloc (by have := hB3.size; simp; omega) (.cells #[.bool false, .slice py ky cy] 95)
  have hb4 : Below w3.heap.size w3 ((w3.alloc (.cells #[.bool b1, .slice px kx cx] 95)).alloc (.cells #[.bool false, .slice py ky cy] 95)) := ((Below.refl _ _).alloc (Nat.le_refl _) _).alloc (by simp) _
  have b1k := (Below.heap_alloc (w3.alloc (.cells #[.bool b1, .slice px kx cx] 95)) (.cells #[.bool false, .slice py ky cy] 95) w3.heap.size (by simp)).trans (World.alloc_heap_new w3 (.cells #[.bool b1, .slice px kx cx] 95))
  have b2k := World.alloc_heap_new (w3.alloc (.cells #[.bool b1, .slice px kx cx] 95)) (.cells #[.bool false, .slice py ky cy] 95)
  rw [World.size_alloc] at b2k
  refine (divide_any (.slice px kx cx) (.slice py ky cy) _ _ _ (HVX.out.below hb4) (HVY.out.below hb4) (by omega) (by omega) hm0).mono ?_
  rintro e w5 ⟨v1, v2, rfl, hs1, hs2, hb5⟩
  rw [S2.out] at hs2
  rw [limbs_zero] at hs2
  obtain ⟨p1, k1, c1, rfl, -⟩ := sl_open hs1
  obtain ⟨p2, k2, c2, rfl, hk2⟩ := sl_open hs2
  rw [List.length_nil] at hk2
  subst hk2
  have hB5 := hB4.trans (hb5.mono hB4.size)
  have b1k := (hb5.block w3.heap.size (by simp only [World.size_alloc]; omega)).trans b1k
  have b2k := (hb5.block (w3.heap.size + 1) (by simp only [World.size_alloc]; omega)).trans b2k
  have c1k : w5.cell? ⟨w3.heap.size, 0, none⟩ = some (.bool b1) := by simp [World.cell?, b1k]
  have c2k : w5.cell? ⟨w3.heap.size + 1, 0, none⟩ = some (.bool false) := by simp [World.cell?, b2k]
  have lz : w3.heap.size + 1 < w5.heap.size := (Array.getElem?_eq_some_iff.1 b2k).1
  have HV1 := Lib.hid hs1; have HV2 := Lib.hid hs2
  clear hb4 hB4 hb5 hs1 hs2 hB3 HVX HVY b1k b2k
  have rs := result_any (b1 != false) (.slice p1 k1 c1) (x.natAbs / y.natAbs) w5 (HW.out.below hB5) HV1.out (by omega)
  rw [S1.out, resL_ok hqd, resE_ok hqd] at rs
  rw [Bool.bne_false] at rs
  have RS := Lib.hid rs; clear rs
  cases b1
  all_goals
    go_wp2_with fail
    refine RS.out.mono ?_
    rintro e w6 ⟨rfl, hb6⟩
    have hB6 := hB5.trans (hb6.mono hB5.size)
    have d1 := (hb6.cell (p := ⟨w3.heap.size, 0, none⟩) (by show w3.heap.size < w5.heap.size; omega)).trans c1k
    have d2 := (hb6.cell (p := ⟨w3.heap.size + 1, 0, none⟩) lz).trans c2k
    have rt := result_any false (.slice p2 0 c2) 0 w6 (HW.out.below hB6) (by rw [limbs_zero]; exact HV2.out.below hb6) (by rw [limbs_zero]; simp)
    rw [show sgn false 0 = 0 from rfl, resL_ok (Nat.le_trans (digs_small (z := 0) (by omega)) (by omega)), resE_ok (Nat.le_trans (digs_small (z := 0) (by omega)) (by omega)), itoa_zero] at rt
    have RT := Lib.hid rt; clear rt hb6 c1k c2k hB5
    go_wp2_with fail
    refine RT.out.mono ?_
    rintro e w7 ⟨rfl, hb7⟩
    have hB7 := hB6.trans (hb7.mono hB6.size)
    clear hb7 hB6
    go_wp2_with fail
    go_ret3
    exact ⟨rfl, hB7⟩
/-- integer.Divide, where nothing is left over. -/
theorem Divide_exact (x y q : Int) (hq : x = q * y) (hy0 : 0 < y) (hx : digs x ≤ 300) (hy : digs y ≤ 300) (w : World) (hw : Wd w) :
    Calls Tryz.prog 51 #[St (itoa x), St (itoa y)] w fun e w' => e = .returned (.tuple #[St (itoa q), St [48], .int .i64 0]) ∧ Below w.heap.size w w' := by
  by_cases h : (itoa x).length ≤ 18 ∧ (itoa y).length ≤ 18
  · exact Divide_small x y q hq hy0 h.1 h.2 w hw
  · exact Divide_big x y q hq hy0 hx hy (by omega) w hw
end Go.Proofs.YtapfekcbbhhieaaGreatDoor

namespace Go.Proofs.YtapfekcbbhhieaaGreatDoor.Str
open Go.Lib

/-- The numeral of a rational number. -/
def numS (q : Rat) : List UInt8 := itoa q.num ++ (if q.den = 1 then [] else 47 :: decDigits q.den)

theorem dec_no_slash (n : Nat) : (47 : UInt8) ∉ decDigits n := fun h => by have := decDigits_digit n _ h; simp at this
theorem itoa_no_slash (a : Int) : (47 : UInt8) ∉ itoa a := by
  rcases itoa_form a with ⟨_, e⟩ | ⟨_, e⟩ <;> rw [e]
  · exact dec_no_slash _
  · intro h
    rcases List.mem_cons.1 h with h | h
    · cases h
    · exact dec_no_slash _ h

theorem split_unique {α : Type} {x : α} : ∀ {a b c d : List α}, x ∉ a → x ∉ c → a ++ x :: b = c ++ x :: d → a = c ∧ b = d
  | [], _, [], _, _, _, h => by simpa using h
  | [], _, y :: c, _, _, hc, h => by simp at h; exact absurd h.1 (fun e => hc (by simp [e]))
  | y :: a, _, [], _, ha, _, h => by simp at h; exact absurd h.1 (fun e => ha (by simp [e]))
  | y :: a, b, z :: c, d, ha, hc, h => by
    simp at h
    obtain ⟨h1, h2⟩ := split_unique (a := a) (c := c) (fun k => ha (by simp [k])) (fun k => hc (by simp [k])) h.2
    exact ⟨by rw [h.1, h1], h2⟩

theorem numS_inj {a b : Rat} (h : numS a = numS b) : a = b := by
  unfold numS at h
  have ha := itoa_no_slash a.num
  have hb := itoa_no_slash b.num
  by_cases h1 : a.den = 1 <;> by_cases h2 : b.den = 1
  · rw [if_pos h1, if_pos h2] at h
    exact Rat.ext (itoa_inj (by simpa using h)) (by omega)
  · rw [if_pos h1, if_neg h2, List.append_nil] at h
    exact absurd (by rw [h]; simp) ha
  · rw [if_neg h1, if_pos h2, List.append_nil] at h
    exact absurd (by rw [← h]; simp) hb
  · rw [if_neg h1, if_neg h2] at h
    obtain ⟨e1, e2⟩ := split_unique ha hb h
    exact Rat.ext (itoa_inj e1) (dec_inj e2)

theorem numS_one {q : Rat} (h : q.den = 1) : numS q = itoa q.num := by simp [numS, h]
theorem numS_frac {q : Rat} (h : q.den ≠ 1) : numS q = itoa q.num ++ 47 :: decDigits q.den := by simp [numS, h]
theorem numS_ofInt (n : Int) : numS (n : Rat) = itoa n := by simp [numS]
theorem numS_zero : numS 0 = [48] := by rw [show (0 : Rat) = ((0 : Int) : Rat) from rfl, numS_ofInt, itoa_zero]
theorem numS_zero_iff (q : Rat) : numS q = [48] ↔ q = 0 := ⟨fun h => numS_inj (h.trans numS_zero.symm), fun h => by rw [h, numS_zero]⟩

theorem divInt_mk (n d : Int) (hd : d ≠ 0) : Rat.divInt n d = mkRat (if d < 0 then -n else n) d.natAbs := by
  rcases Int.lt_or_gt_of_ne hd with h | h
  · rw [if_pos h]
    obtain ⟨k, rfl⟩ : ∃ k : Nat, d = Int.negSucc k := ⟨(-d - 1).toNat, by omega⟩
    simp [Rat.divInt, mkRat]
  · rw [if_neg (by omega)]
    obtain ⟨k, rfl⟩ : ∃ k : Nat, d = (k : Int) := ⟨d.toNat, by omega⟩
    simp [Rat.divInt]

theorem add_divInt (a b : Rat) : a + b = Rat.divInt (a.num * b.den + b.num * a.den) ((a.den * b.den : Nat) : Int) := by
  rw [Rat.add_def, divInt_mk _ _ (by have := a.den_nz; have := b.den_nz; simp; omega), if_neg (by omega), Int.natAbs_natCast, Rat.mkRat_def, dif_neg]
theorem sub_divInt (a b : Rat) : a - b = Rat.divInt (a.num * b.den - b.num * a.den) ((a.den * b.den : Nat) : Int) := by
  rw [Rat.sub_def, divInt_mk _ _ (by have := a.den_nz; have := b.den_nz; simp; omega), if_neg (by omega), Int.natAbs_natCast, Rat.mkRat_def, dif_neg]
theorem mul_divInt (a b : Rat) : a * b = Rat.divInt (a.num * b.num) ((a.den * b.den : Nat) : Int) := by
  rw [Rat.mul_def, divInt_mk _ _ (by have := a.den_nz; have := b.den_nz; simp; omega), if_neg (by omega), Int.natAbs_natCast, Rat.mkRat_def, dif_neg]

/-- What making a number out of a numerator and a positive denominator writes. -/
theorem numS_make (n d : Int) (hd : 0 < d) : numS (Rat.divInt n d) = itoa (n / (Int.gcd n d : Int)) ++ (if d / (Int.gcd n d : Int) = 1 then [] else 47 :: itoa (d / (Int.gcd n d : Int))) := by
  obtain ⟨k, rfl⟩ : ∃ k : Nat, d = (k : Int) := ⟨d.toNat, by omega⟩
  have hk : k ≠ 0 := by omega
  rw [divInt_mk _ _ (by omega), if_neg (by omega), Int.natAbs_natCast]
  unfold numS
  rw [Rat.num_mkRat, Rat.den_mkRat, if_neg hk, if_neg hk]
  have e : k.gcd n.natAbs = Int.gcd n (k : Int) := by rw [Int.gcd, Int.natAbs_natCast, Nat.gcd_comm]
  rw [e, ← Int.natCast_ediv, itoa_nonneg]
  congr 1
  by_cases h : k / Int.gcd n (k : Int) = 1
  · rw [if_pos h, if_pos (by omega)]
  · rw [if_neg h, if_neg (by omega)]

/-- Both parts of a number have at most k digits. -/
def sz (q : Rat) (k : Nat) : Prop := q.num.natAbs < 10 ^ k ∧ q.den < 10 ^ k

theorem sz.mono {q : Rat} {i j : Nat} (h : sz q i) (hij : i ≤ j) : sz q j :=
  have := Nat.pow_le_pow_right (show 0 < 10 by omega) hij
  ⟨Nat.lt_of_lt_of_le h.1 this, Nat.lt_of_lt_of_le h.2 this⟩

theorem sz_divInt {n d : Int} {k : Nat} (hd : d ≠ 0) (h1 : n.natAbs < 10 ^ k) (h2 : d.natAbs < 10 ^ k) : sz (Rat.divInt n d) k := by
  rw [divInt_mk _ _ hd]
  have hk : d.natAbs ≠ 0 := by omega
  constructor
  · rw [Rat.num_mkRat, if_neg hk]
    refine Nat.lt_of_le_of_lt ?_ h1
    have : (if d < 0 then -n else n).natAbs = n.natAbs := by split <;> omega
    rw [Int.natAbs_ediv_of_dvd (Int.ofNat_dvd_left.2 (Nat.gcd_dvd_right _ _)), this]
    exact Nat.div_le_self _ _
  · rw [Rat.den_mkRat, if_neg hk]
    exact Nat.lt_of_le_of_lt (Nat.div_le_self _ _) h2

theorem mul_lt_pow {a b i j : Nat} (h1 : a < 10 ^ i) (h2 : b < 10 ^ j) : a * b < 10 ^ (i + j) := by
  rw [Nat.pow_add]; exact Nat.mul_lt_mul'' h1 h2
theorem add_lt_pow {a b i : Nat} (h1 : a < 10 ^ i) (h2 : b < 10 ^ i) : a + b < 10 ^ (i + 1) := by
  rw [Nat.pow_succ]; omega

theorem natAbs_mul_den (x : Int) (d : Nat) : (x * d).natAbs = x.natAbs * d := by rw [Int.natAbs_mul, Int.natAbs_natCast]

theorem sz_add {a b : Rat} {i j : Nat} (ha : sz a i) (hb : sz b j) : sz (a + b) (i + j + 1) := by
  rw [add_divInt]
  have h1 := mul_lt_pow ha.1 hb.2
  have h2 := mul_lt_pow hb.1 ha.2
  have h3 := mul_lt_pow ha.2 hb.2
  rw [Nat.add_comm j i] at h2
  have h4 := add_lt_pow h1 h2
  have := a.den_nz; have := b.den_nz
  refine sz_divInt (by simp; omega) ?_ ?_
  · refine Nat.lt_of_le_of_lt (Int.natAbs_add_le _ _) ?_
    rw [natAbs_mul_den, natAbs_mul_den]; exact h4
  · rw [Int.natAbs_natCast, Nat.pow_succ]; omega
theorem sz_sub {a b : Rat} {i j : Nat} (ha : sz a i) (hb : sz b j) : sz (a - b) (i + j + 1) := by
  rw [Rat.sub_eq_add_neg]
  exact sz_add ha ⟨by simpa using hb.1, by simpa using hb.2⟩
theorem sz_mul {a b : Rat} {i j : Nat} (ha : sz a i) (hb : sz b j) : sz (a * b) (i + j) := by
  rw [mul_divInt]
  have := a.den_nz; have := b.den_nz
  refine sz_divInt (by simp; omega) ?_ ?_
  · rw [Int.natAbs_mul]; exact mul_lt_pow ha.1 hb.1
  · rw [Int.natAbs_natCast]; exact mul_lt_pow ha.2 hb.2

theorem div_divInt (a b : Rat) (hb : b ≠ 0) : a / b = Rat.divInt (a.num * b.den) (a.den * b.num) := by
  have h0 : b.num ≠ 0 := fun h => hb (Rat.num_eq_zero.1 h)
  rw [Rat.div_def, Rat.inv_def]
  conv => lhs; lhs; rw [← Rat.num_divInt_den a]
  rw [Rat.divInt_mul_divInt]
theorem sz_div {a b : Rat} {i j : Nat} (hb0 : b ≠ 0) (ha : sz a i) (hb : sz b j) : sz (a / b) (i + j) := by
  have h0 : b.num ≠ 0 := fun h => hb0 (Rat.num_eq_zero.1 h)
  have := a.den_nz
  rw [div_divInt _ _ hb0]
  refine sz_divInt (Int.mul_ne_zero (by omega) h0) ?_ ?_
  · rw [natAbs_mul_den]; exact mul_lt_pow ha.1 hb.2
  · rw [Int.natAbs_mul, Int.natAbs_natCast]; exact mul_lt_pow ha.2 hb.1
theorem sz_zero (k : Nat) (hk : 0 < k) : sz 0 k := by
  have : 10 ^ 1 ≤ 10 ^ k := Nat.pow_le_pow_right (by omega) hk
  exact ⟨by simp; omega, by simp; omega⟩

/-- Which strings are numerals. -/
theorem is_numS (l : List UInt8) : (∃ q, l = numS q) ↔ (∃ a, l = itoa a) ∨ ∃ (a : Int) (d : Nat), l = itoa a ++ 47 :: decDigits d ∧ 2 ≤ d ∧ Nat.gcd a.natAbs d = 1 := by
  constructor
  · rintro ⟨q, rfl⟩
    by_cases h : q.den = 1
    · exact .inl ⟨_, numS_one h⟩
    · exact .inr ⟨_, _, numS_frac h, by have := q.den_nz; omega, q.reduced⟩
  · rintro (⟨a, rfl⟩ | ⟨a, d, rfl, h1, h2⟩)
    · exact ⟨(a : Rat), (numS_ofInt a).symm⟩
    · exact ⟨⟨a, d, by omega, h2⟩, by rw [numS_frac (by simp; omega)]⟩

/-- The parts of a string that may be a numeral: is there a sign, the digits ahead of the first slash, those behind it, is there a slash. -/
def bare (l : List UInt8) : List UInt8 := if l.head? = some 45 then l.tail else l
def upS (l : List UInt8) : List UInt8 := (bare l).takeWhile (· != 47)
def dnS (l : List UInt8) : List UInt8 := ((bare l).dropWhile (· != 47)).tail
def hasS (l : List UInt8) : Prop := (47 : UInt8) ∈ bare l

def okS (l : List UInt8) : Prop :=
  isNum (upS l) ∧ ¬ (l.head? = some 45 ∧ upS l = [48]) ∧ (hasS l → isNum (dnS l) ∧ dnS l ≠ [48] ∧ dnS l ≠ [49] ∧ Nat.gcd (val (upS l)) (val (dnS l)) = 1)

theorem take_no {a b : List UInt8} (h : (47 : UInt8) ∉ a) : (a ++ 47 :: b).takeWhile (· != 47) = a ∧ (a ++ 47 :: b).dropWhile (· != 47) = 47 :: b := by
  induction a with
  | nil => simp
  | cons x r ih =>
    have hx : x ≠ 47 := fun e => h (by simp [e])
    obtain ⟨i1, i2⟩ := ih (fun k => h (by simp [k]))
    simp [hx, i1, i2]
theorem take_all {a : List UInt8} (h : (47 : UInt8) ∉ a) : a.takeWhile (· != 47) = a := by
  induction a with
  | nil => simp
  | cons x r ih =>
    have hx : x ≠ 47 := fun e => h (by simp [e])
    simp [hx, ih (fun k => h (by simp [k]))]
theorem split_at {l : List UInt8} (h : (47 : UInt8) ∈ l) : l = l.takeWhile (· != 47) ++ 47 :: (l.dropWhile (· != 47)).tail ∧ (47 : UInt8) ∉ l.takeWhile (· != 47) := by
  induction l with
  | nil => cases h
  | cons x r ih =>
    by_cases hx : x = 47
    · subst hx; simp
    · have hr : (47 : UInt8) ∈ r := by
        rcases List.mem_cons.1 h with e | e
        · exact absurd e.symm hx
        · exact e
      obtain ⟨i1, i2⟩ := ih hr
      have hb : (x != 47) = true := by simpa using hx
      rw [List.takeWhile_cons, if_pos hb, List.dropWhile_cons, if_pos hb]
      exact ⟨by rw [List.cons_append, ← i1], fun k => by
        rcases List.mem_cons.1 k with e | e
        · exact hx e.symm
        · exact i2 e⟩

theorem bare_dec (n : Nat) (t : List UInt8) : bare (decDigits n ++ t) = decDigits n ++ t := by
  obtain ⟨c, r, e, h1, _⟩ := dec_head n
  unfold bare
  rw [e, List.cons_append, List.head?_cons, if_neg (fun h => by cases h; simp at h1)]
theorem bare_itoa (a : Int) (t : List UInt8) : bare (itoa a ++ t) = decDigits a.natAbs ++ t := by
  rcases itoa_form a with ⟨_, e⟩ | ⟨_, e⟩ <;> rw [e]
  · exact bare_dec _ _
  · simp [bare]
theorem head_itoa (a : Int) (t : List UInt8) : (itoa a ++ t).head? = some 45 ↔ a < 0 := by
  rcases itoa_form a with ⟨h, e⟩ | ⟨h, e⟩ <;> rw [e]
  · obtain ⟨c, r, e, h1, _⟩ := dec_head a.natAbs
    rw [e]
    constructor
    · intro h; simp at h; subst h; simp at h1
    · omega
  · simp; omega
theorem bare_cases (l : List UInt8) : (l.head? = some 45 ∧ l = 45 :: bare l) ∨ (l.head? ≠ some 45 ∧ l = bare l) := by
  unfold bare
  cases l with
  | nil => right; simp
  | cons x r =>
    by_cases h : x = 45
    · subst h; left; simp
    · right; simp [h]

/-- What the parts say. -/
theorem okS_iff (l : List UInt8) : okS l ↔ ∃ q, l = numS q := by
  rw [is_numS]
  constructor
  · rintro ⟨h1, h2, h3⟩
    by_cases hs : hasS l
    · obtain ⟨k1, k2, k3, k4⟩ := h3 hs
      obtain ⟨e1, e2⟩ := split_at (l := bare l) hs
      have hd : 2 ≤ val (dnS l) := by
        rcases Nat.lt_or_ge (val (dnS l)) 2 with h | h
        · exfalso
          have := dec_val k1
          rcases (show val (dnS l) = 0 ∨ val (dnS l) = 1 by omega) with e | e
          · rw [e] at this; exact k2 (this.symm.trans isNum_zero)
          · rw [e] at this; exact k3 (this.symm.trans (by rw [decDigits_small (by omega)]; rfl))
        · exact h
      have e3 : bare l = decDigits (val (upS l)) ++ 47 :: decDigits (val (dnS l)) := by rw [dec_val h1, dec_val k1]; exact e1
      rcases bare_cases l with ⟨b1, b2⟩ | ⟨b1, b2⟩
      · have hp : 0 < val (upS l) := by
          rcases Nat.eq_zero_or_pos (val (upS l)) with e | e
          · have := dec_val h1
            rw [e] at this; exact absurd ⟨b1, this.symm.trans isNum_zero⟩ h2
          · exact e
        exact .inr ⟨-(val (upS l) : Int), val (dnS l), b2.trans (by rw [e3, itoa_neg _ hp]; rfl), hd, by simpa using k4⟩
      · exact .inr ⟨(val (upS l) : Int), val (dnS l), b2.trans (by rw [e3, itoa_nonneg]), hd, by simpa using k4⟩
    · have e1 : upS l = bare l := take_all hs
      have e3 : bare l = decDigits (val (upS l)) := by rw [dec_val h1, e1]
      rcases bare_cases l with ⟨b1, b2⟩ | ⟨b1, b2⟩
      · have hp : 0 < val (upS l) := by
          rcases Nat.eq_zero_or_pos (val (upS l)) with e | e
          · have := dec_val h1
            rw [e] at this; exact absurd ⟨b1, this.symm.trans isNum_zero⟩ h2
          · exact e
        exact .inl ⟨-(val (upS l) : Int), b2.trans (by rw [e3, itoa_neg _ hp])⟩
      · exact .inl ⟨(val (upS l) : Int), b2.trans (by rw [e3, itoa_nonneg])⟩
  · have hz : ∀ a : Int, ¬ (a < 0 ∧ decDigits a.natAbs = [48]) := fun a ⟨h1, h2⟩ => by
      have := dec_inj (h2.trans isNum_zero.symm); omega
    rintro (⟨a, rfl⟩ | ⟨a, d, rfl, h1, h2⟩)
    · have e0 : itoa a = itoa a ++ [] := by simp
      have e1 : bare (itoa a) = decDigits a.natAbs := by rw [e0, bare_itoa]; simp
      have e2 : upS (itoa a) = decDigits a.natAbs := by unfold upS; rw [e1, take_all (dec_no_slash _)]
      refine ⟨by rw [e2]; exact isNum_dec _, ?_, fun h => absurd h (by unfold hasS; rw [e1]; exact dec_no_slash _)⟩
      rw [e2, e0, head_itoa]; exact hz a
    · have e1 := bare_itoa a (47 :: decDigits d)
      obtain ⟨t1, t2⟩ := take_no (b := decDigits d) (dec_no_slash a.natAbs)
      have e2 : upS (itoa a ++ 47 :: decDigits d) = decDigits a.natAbs := by unfold upS; rw [e1, t1]
      have e3 : dnS (itoa a ++ 47 :: decDigits d) = decDigits d := by unfold dnS; rw [e1, t2]; rfl
      refine ⟨by rw [e2]; exact isNum_dec _, ?_, fun _ => ⟨by rw [e3]; exact isNum_dec _, ?_, ?_, ?_⟩⟩
      · rw [e2, head_itoa]; exact hz a
      · rw [e3]; intro h; have := dec_inj (h.trans isNum_zero.symm); omega
      · rw [e3]; intro h
        have := dec_inj (h.trans (show [49] = decDigits 1 by rw [decDigits_small (by omega)]; rfl)); omega
      · rw [e2, e3, val_dec, val_dec]; exact h2

theorem sz_len {q : Rat} {k : Nat} (hk : 0 < k) (h : sz q k) : (numS q).length ≤ 2 * k + 2 := by
  have h1 := (digs_le_iff q.num k hk).2 h.1
  have h2 := (dec_len_le_iff q.den k hk).2 h.2
  have h3 := itoa_len_hi q.num
  unfold numS
  split <;> simp <;> omega

/-- A short numeral has short parts. -/
theorem sz_of_len {q : Rat} {k : Nat} (hk : 0 < k) (h : (numS q).length ≤ k) : sz q k := by
  have h3 := itoa_len_lo q.num
  have hp : 10 ^ 1 ≤ 10 ^ k := Nat.pow_le_pow_right (by omega) hk
  by_cases h1 : q.den = 1
  · rw [numS_one h1] at h
    exact ⟨(digs_le_iff _ _ hk).1 (by omega), by omega⟩
  · rw [numS_frac h1] at h
    simp at h
    exact ⟨(digs_le_iff _ _ hk).1 (by omega), (dec_len_le_iff _ _ hk).1 (by omega)⟩
end Go.Proofs.YtapfekcbbhhieaaGreatDoor.Str

namespace Go.Proofs.YtapfekcbbhhieaaGreatDoor
open Go.RowKit Go.Shelf Lib Str Limb
attribute [local go_sem] Oper.semAt_some

theorem val_lt : ∀ (l : List UInt8), (∀ c ∈ l, 48 ≤ c.toNat ∧ c.toNat ≤ 57) → val l < 10 ^ l.length := by
  intro l h
  have e := digL_val l 0
  rw [Nat.mul_zero, Nat.add_zero] at e
  have := valL_lt (digL_small h)
  rw [digL_len] at this
  show l.foldl _ 0 < _
  rw [e]; exact this

/-- Digits, and then none. -/
structure Runs (l t : List UInt8) : Prop where
  dig : ∀ c ∈ l, 48 ≤ c.toNat ∧ c.toNat ≤ 57
  stop : t = [] ∨ ∃ c r, t = c :: r ∧ (c.toNat < 48 ∨ 57 < c.toNat)

theorem runs_byte {l t : List UInt8} (h : Runs l t) (s : ByteArray) (hs : s = ⟨(l ++ t).toArray⟩) :
    s.size = l.length + t.length ∧ (∀ k (hk : k < l.length) (hb : k < s.size), 48 ≤ (s[k]'hb).toNat ∧ (s[k]'hb).toNat ≤ 57 ∧ val (l.take (k + 1)) = 10 * val (l.take k) + ((s[k]'hb).toNat - 48)) ∧
    (∀ (hb : l.length < s.size), (s[l.length]'hb).toNat < 48 ∨ 57 < (s[l.length]'hb).toNat) := by
  subst hs
  refine ⟨by show (l ++ t).toArray.size = _; simp, fun k hk hb => ?_, fun hb => ?_⟩
  · rw [ba_get _ _ hb (by simp; omega), List.getElem_append_left hk]
    obtain ⟨h1, h2⟩ := h.dig _ (List.getElem_mem hk)
    refine ⟨h1, h2, ?_⟩
    rw [List.take_succ_eq_append_getElem hk, val_snoc]
  · have hb' : l.length < (l ++ t).length := by
      have : (⟨(l ++ t).toArray⟩ : ByteArray).size = (l ++ t).length := by show (l ++ t).toArray.size = _; simp
      omega
    rw [ba_get _ _ hb hb', List.getElem_append_right (Nat.le_refl _)]
    rcases h.stop with rfl | ⟨c, r, rfl, hc⟩
    · simp at hb'
    · simpa using hc
theorem val_take_lt {l : List UInt8} (h : ∀ c ∈ l, 48 ≤ c.toNat ∧ c.toNat ≤ 57) {k : Nat} (hk : k ≤ 9) : val (l.take k) < 1000000000 := by
  have h1 := val_lt (l.take k) (fun c hc => h c (List.mem_of_mem_take hc))
  have h2 : (10 : Nat) ^ (l.take k).length ≤ 10 ^ 9 := Nat.pow_le_pow_right (by omega) (by simp; omega)
  exact Nat.lt_of_lt_of_le h1 h2

theorem extract_app (l t : List UInt8) : ((⟨(l ++ t).toArray⟩ : ByteArray).extract l.length (⟨(l ++ t).toArray⟩ : ByteArray).size) = ⟨t.toArray⟩ := by
  have h1 : (⟨(l ++ t).toArray⟩ : ByteArray).size = l.length + t.length := by show (l ++ t).toArray.size = _; simp
  rw [h1]
  apply ByteArray.ext
  rw [ByteArray.data_extract]
  simp
theorem first_nz (n : Nat) (t : List UInt8) (s : ByteArray) (hs : s = ⟨(decDigits n ++ t).toArray⟩) : (decDigits n).length ≤ 1 ∨ ∀ hb : 0 < s.size, (s[0]'hb).toNat ≠ 48 := by
  by_cases h : (decDigits n).length ≤ 1
  · exact .inl h
  · refine .inr fun hb e => h ?_
    subst hs
    have hl : 0 < (decDigits n).length := by omega
    rw [ba_get _ _ hb (by simp; omega), List.getElem_append_left hl] at e
    have : (decDigits n).head? = some 48 := by
      rw [List.head?_eq_getElem?, List.getElem?_eq_getElem hl]
      congr 1
      exact UInt8.toNat_inj.1 (by rw [e]; rfl)
    have := head_dec n this
    subst this
    rw [isNum_zero]; simp

set_option maxRecDepth 100000 in
set_option maxHeartbeats 4000000 in
/-- rational.nativeInt at a short numeral, and what is behind it. -/
theorem nativeInt_yes (n : Nat) (t : List UInt8) (h : Runs (decDigits n) t) (hl : (decDigits n).length ≤ 8) (ht : t.length ≤ 1000000) (w : World) :
    Calls Tryz.prog 95 #[St (decDigits n ++ t)] w fun e w' => ∃ nd, e = .returned (.tuple #[I n, St t, .bool true]) ∧ w' = w.drewN nd := by
  obtain ⟨s, hs⟩ : ∃ s : ByteArray, s = ⟨(decDigits n ++ t).toArray⟩ := ⟨_, rfl⟩
  obtain ⟨b1, b2, b3⟩ := runs_byte h s hs
  have hex : (s.extract (decDigits n).length s.size) = ⟨t.toArray⟩ := by rw [hs]; exact extract_app _ _
  have hvn := val_dec n
  have hvt := fun k hk => val_take_lt (l := decDigits n) h.dig (k := k) hk
  have hzero : (decDigits n).length ≤ 1 ∨ ∀ hb : 0 < s.size, (s[0]'hb).toNat ≠ 48 := first_nz n t s hs
  have hpos : 1 ≤ (decDigits n).length := by have := digs_pos (n : Int); unfold digs at this; simpa using this
  show Calls _ _ #[.string ⟨(decDigits n ++ t).toArray⟩] _ _
  rw [← hs]
  have hfull : val ((decDigits n).take (decDigits n).length) = n := by rw [List.take_length]; exact hvn
  generalize hL : (decDigits n).length = m at *
  generalize hvf : (fun k => val ((decDigits n).take k)) = vf at *
  have hv0 : vf 0 = 0 := by rw [← hvf]; rfl
  have hb2 : ∀ k (hk : k < m) (hb : k < s.size), 48 ≤ (s[k]'hb).toNat ∧ (s[k]'hb).toNat ≤ 57 ∧ vf (k + 1) = 10 * vf k + ((s[k]'hb).toNat - 48) := by rw [← hvf]; exact b2
  have hvt' : ∀ k, k ≤ 9 → vf k < 1000000000 := by rw [← hvf]; exact hvt
  have hvm : vf m = n := by rw [← hvf]; exact hfull
  clear b2 hvt hfull hvn hvf hL h hs
  have B2 := Lib.hid hb2; have B3 := Lib.hid b3; have VT := Lib.hid hvt'; have VM := Lib.hid hvm; have HEX := Lib.hid hex; have HZ := Lib.hid hzero; have B1 := Lib.hid b1
  have V0 := Lib.hid hv0
  have hsz : s.size ≤ 2000000 := by omega
  have hsm : m ≤ s.size := by omega
  clear hb2 b3 hvt' hvm hex hzero b1 hv0
  go_enter Tryz.func95, Tryz.ntmps95
  go_wp2
  go_loop [5, 6] (fun a i => ∃ k : Nat, k ≤ m ∧ i = .int .i64 k ∧ a = .int .i64 (vf k : Nat)) (fun _ i => m - (RowKit.intOf i).toNat)
  case atStart => exact ⟨0, Nat.zero_le _, rfl, by rw [V0.out]; rfl⟩
  case round =>
    obtain ⟨k, hk, rfl, rfl⟩ := hrel
    by_cases hlt : k < m
    · have hks : k < s.size := by omega
      obtain ⟨c1, c2, c3⟩ := B2.out k hlt hks
      have hv := VT.out k (by omega)
      generalize vf k = v at *
      have C3 := Lib.hid c3; clear c3
      have d1 : (48 : Int) ≤ (s[k].toNat : Int) := by omega
      have d2 : (s[k].toNat : Int) ≤ 57 := by omega
      go_wp2
      go_round
      case rel => exact ⟨k + 1, by omega, by go_num, by rw [C3.out]; show Value.int .i64 _ = Value.int .i64 _; congr 1; omega⟩
      case measure => simp [RowKit.intOf]; omega
    · obtain rfl : k = m := by omega
      have hm0 : ((k : Int) == 0) = false := by rw [beq_eq_false_iff_ne]; omega
      have hm8 : ¬ (8 : Int) < k := by omega
      have hk8 : (k : Int) ≤ 8 := by omega
      have hd : k < s.size ∧ (∀ hb : k < s.size, (s[k]'hb).toNat < 48) ∨ k < s.size ∧ (∀ hb : k < s.size, 48 ≤ (s[k]'hb).toNat ∧ 57 < (s[k]'hb).toNat) ∨ ¬ k < s.size := by
        by_cases h1 : k < s.size
        · rcases B3.out h1 with h2 | h2
          · exact .inl ⟨h1, fun _ => h2⟩
          · exact .inr (.inl ⟨h1, fun _ => ⟨by omega, h2⟩⟩)
        · exact .inr (.inr h1)
      have hz1 : k ≤ 1 ∨ 1 < k ∧ ∀ hb : 0 < s.size, (s[0]'hb).toNat ≠ 48 := by
        rcases HZ.out with h | h
        · exact .inl h
        · by_cases h1 : k ≤ 1
          · exact .inl h1
          · exact .inr ⟨by omega, h⟩
      have HD := Lib.hid hd; clear hd
      rcases hz1 with h1 | ⟨h1, h2⟩
      · have h1' : ¬ (1 : Int) < k := by omega
        rcases HD.out with ⟨g1, g2⟩ | ⟨g1, g2⟩ | g1
        · have g3 : ((s[k]'g1).toNat : Int) < 48 := by have := g2 g1; omega
          clear g2
          go_wp2
          (refine wp_region_quiet_lit (by kernel_rfl) (by kernel_rfl) (WQ.out ?_); (repeat (first | (apply WQ.read (by rfl); (focus (rintro W ⟨n, rfl⟩; go_simp; try with_reducible rfl)); try simp only [Act.put, List.setIfInBounds_toArray, List.set_cons_zero, List.set_cons_succ]) | (apply WQ.skip (by rfl); try simp only [Act.put, List.setIfInBounds_toArray, List.set_cons_zero, List.set_cons_succ]))); refine WQ.nil ?_; rintro _ ⟨nq, rfl⟩)
          go_wp2
          go_ret3
          exact ⟨nq, by rw [HEX.out, VM.out]; rfl, rfl⟩
        · have g3 : (48 : Int) ≤ (s[k]'g1).toNat := by have := g2 g1; omega
          have g4 : (57 : Int) < (s[k]'g1).toNat := by have := g2 g1; omega
          clear g2
          go_wp2
          (refine wp_region_quiet_lit (by kernel_rfl) (by kernel_rfl) (WQ.out ?_); (repeat (first | (apply WQ.read (by rfl); (focus (rintro W ⟨n, rfl⟩; go_simp; try with_reducible rfl)); try simp only [Act.put, List.setIfInBounds_toArray, List.set_cons_zero, List.set_cons_succ]) | (apply WQ.skip (by rfl); try simp only [Act.put, List.setIfInBounds_toArray, List.set_cons_zero, List.set_cons_succ]))); refine WQ.nil ?_; rintro _ ⟨nq, rfl⟩)
          go_wp2
          go_ret3
          exact ⟨nq, by rw [HEX.out, VM.out]; rfl, rfl⟩
        · go_wp2
          (refine wp_region_quiet_lit (by kernel_rfl) (by kernel_rfl) (WQ.out ?_); (repeat (first | (apply WQ.read (by rfl); (focus (rintro W ⟨n, rfl⟩; go_simp; try with_reducible rfl)); try simp only [Act.put, List.setIfInBounds_toArray, List.set_cons_zero, List.set_cons_succ]) | (apply WQ.skip (by rfl); try simp only [Act.put, List.setIfInBounds_toArray, List.set_cons_zero, List.set_cons_succ]))); refine WQ.nil ?_; rintro _ ⟨nq, rfl⟩)
          go_wp2
          go_ret3
          exact ⟨nq, by rw [HEX.out, VM.out]; rfl, rfl⟩
      · have h1' : (1 : Int) < k := by omega
        have hs0 : 0 < s.size := by omega
        have h3 : (((s[0]'hs0).toNat : Int) == 48) = false := by rw [beq_eq_false_iff_ne]; have := h2 hs0; omega
        clear h2
        rcases HD.out with ⟨g1, g2⟩ | ⟨g1, g2⟩ | g1
        · have g3 : ((s[k]'g1).toNat : Int) < 48 := by have := g2 g1; omega
          clear g2
          go_wp2
          (refine wp_region_quiet_lit (by kernel_rfl) (by kernel_rfl) (WQ.out ?_); (repeat (first | (apply WQ.read (by rfl); (focus (rintro W ⟨n, rfl⟩; go_simp; try with_reducible rfl)); try simp only [Act.put, List.setIfInBounds_toArray, List.set_cons_zero, List.set_cons_succ]) | (apply WQ.skip (by rfl); try simp only [Act.put, List.setIfInBounds_toArray, List.set_cons_zero, List.set_cons_succ]))); refine WQ.nil ?_; rintro _ ⟨nq, rfl⟩)
          go_wp2
          go_ret3
          exact ⟨nq, by rw [HEX.out, VM.out]; rfl, rfl⟩
        · have g3 : (48 : Int) ≤ (s[k]'g1).toNat := by have := g2 g1; omega
          have g4 : (57 : Int) < (s[k]'g1).toNat := by have := g2 g1; omega
          clear g2
          go_wp2
          (refine wp_region_quiet_lit (by kernel_rfl) (by kernel_rfl) (WQ.out ?_); (repeat (first | (apply WQ.read (by rfl); (focus (rintro W ⟨n, rfl⟩; go_simp; try with_reducible rfl)); try simp only [Act.put, List.setIfInBounds_toArray, List.set_cons_zero, List.set_cons_succ]) | (apply WQ.skip (by rfl); try simp only [Act.put, List.setIfInBounds_toArray, List.set_cons_zero, List.set_cons_succ]))); refine WQ.nil ?_; rintro _ ⟨nq, rfl⟩)
          go_wp2
          go_ret3
          exact ⟨nq, by rw [HEX.out, VM.out]; rfl, rfl⟩
        · go_wp2
          (refine wp_region_quiet_lit (by kernel_rfl) (by kernel_rfl) (WQ.out ?_); (repeat (first | (apply WQ.read (by rfl); (focus (rintro W ⟨n, rfl⟩; go_simp; try with_reducible rfl)); try simp only [Act.put, List.setIfInBounds_toArray, List.set_cons_zero, List.set_cons_succ]) | (apply WQ.skip (by rfl); try simp only [Act.put, List.setIfInBounds_toArray, List.set_cons_zero, List.set_cons_succ]))); refine WQ.nil ?_; rintro _ ⟨nq, rfl⟩)
          go_wp2
          go_ret3
          exact ⟨nq, by rw [HEX.out, VM.out]; rfl, rfl⟩

set_option maxRecDepth 100000 in
set_option maxHeartbeats 2000000 in
/-- rational.nativeInt at a long numeral. -/
theorem nativeInt_no (n : Nat) (t : List UInt8) (h : Runs (decDigits n) t) (hl : 8 < (decDigits n).length) (hl2 : (decDigits n).length ≤ 1000000) (ht : t.length ≤ 1000000) (w : World) :
    Calls Tryz.prog 95 #[St (decDigits n ++ t)] w fun e w' => e = .returned (.tuple #[.int .i64 0, St [], .bool false]) ∧ w' = w := by
  obtain ⟨s, hs⟩ : ∃ s : ByteArray, s = ⟨(decDigits n ++ t).toArray⟩ := ⟨_, rfl⟩
  obtain ⟨b1, b2, -⟩ := runs_byte h s hs
  have hvt := fun k hk => val_take_lt (l := decDigits n) h.dig (k := k) hk
  show Calls _ _ #[.string ⟨(decDigits n ++ t).toArray⟩] _ _
  rw [← hs]
  generalize hL : (decDigits n).length = m at *
  generalize hvf : (fun k => val ((decDigits n).take k)) = vf at *
  have hv0 : vf 0 = 0 := by rw [← hvf]; rfl
  have hb2 : ∀ k (hk : k < m) (hb : k < s.size), 48 ≤ (s[k]'hb).toNat ∧ (s[k]'hb).toNat ≤ 57 ∧ vf (k + 1) = 10 * vf k + ((s[k]'hb).toNat - 48) := by rw [← hvf]; exact b2
  have hvt' : ∀ k, k ≤ 9 → vf k < 1000000000 := by rw [← hvf]; exact hvt
  clear b2 hvt hvf hL h hs
  have B2 := Lib.hid hb2; have VT := Lib.hid hvt'
  have V0 := Lib.hid hv0
  have hsz : s.size ≤ 2000000 := by omega
  have hsm : m ≤ s.size := by omega
  clear hb2 hvt' b1 hv0
  go_enter Tryz.func95, Tryz.ntmps95
  go_wp2
  go_loop [5, 6] (fun a i => ∃ k : Nat, k ≤ 9 ∧ i = .int .i64 k ∧ a = .int .i64 (vf k : Nat)) (fun _ i => 9 - (RowKit.intOf i).toNat)
  case atStart => exact ⟨0, Nat.zero_le _, rfl, by rw [V0.out]; rfl⟩
  case round =>
    obtain ⟨k, hk, rfl, rfl⟩ := hrel
    by_cases hlt : k < 9
    · have hks : k < s.size := by omega
      have hk8 : (k : Int) ≤ 8 := by omega
      obtain ⟨c1, c2, c3⟩ := B2.out k (by omega) hks
      have hv := VT.out k (by omega)
      generalize vf k = v at *
      have C3 := Lib.hid c3; clear c3
      have d1 : (48 : Int) ≤ (s[k].toNat : Int) := by omega
      have d2 : (s[k].toNat : Int) ≤ 57 := by omega
      go_wp2
      go_round
      case rel => exact ⟨k + 1, by omega, by go_num, by rw [C3.out]; show Value.int .i64 _ = Value.int .i64 _; congr 1; omega⟩
      case measure => simp [RowKit.intOf]; omega
    · obtain rfl : k = 9 := by omega
      by_cases h9 : 9 < s.size
      · go_wp2
        go_ret3
        exact ⟨rfl, rfl⟩
      · go_wp2
        go_ret3
        exact ⟨rfl, rfl⟩

theorem gcd_nat_step (a b : Nat) : Nat.gcd b (a % b) = Nat.gcd a b := by
  rw [Nat.gcd_comm b, ← Nat.gcd_rec, Nat.gcd_comm]

set_option maxHeartbeats 1000000 in
/-- rational.gcd. -/
theorem rgcd_any (a b : Nat) (ha : a < 1000000000000000000) (hb : b < 1000000000000000000) (w : World) :
    Calls Tryz.prog 96 #[I a, I b] w fun e w' => ∃ nd, e = .returned (I (Nat.gcd a b)) ∧ w' = w.drewN nd := by
  obtain ⟨g, hg⟩ : ∃ g, g = Nat.gcd a b := ⟨_, rfl⟩
  rw [← hg]
  have HG := Lib.hid hg; clear hg
  go_enter Tryz.func96, Tryz.ntmps96
  go_wp2
  go_loopw [0, 1] (fun x y wr => ∃ m n : Nat, x = I m ∧ y = I n ∧ Hid (Nat.gcd m n = g) ∧ m < 1000000000000000000 ∧ n < 1000000000000000000 ∧ ∃ nd, wr = w.drewN nd)
    (fun _ y _ => (RowKit.intOf y).toNat)
  case atStart => exact ⟨a, b, rfl, rfl, HG.out.symm, ha, hb, 0, rfl⟩
  case round =>
    clear ha hb
    obtain ⟨m, n, rfl, rfl, hgm, m1, n1, nd, rfl⟩ := hrel
    by_cases h0 : n = 0
    · subst h0
      have hm : m = g := by have := hgm.out; rw [Nat.gcd_zero_right] at this; exact this
      have HM := Lib.hid hm; clear hm
      go_wp2
      go_ret
      exact ⟨nd, by rw [HM.out]; rfl, rfl⟩
    · have hn0 : ((n : Int) != 0) = true := by simp; omega
      obtain ⟨t, ht⟩ : ∃ t, t = m % n := ⟨_, rfl⟩
      have ht1 : t < n := by rw [ht]; exact Nat.mod_lt _ (by omega)
      have hgt := gcd_nat_step m n
      rw [← ht] at hgt
      have hwr : IntKind.i64.wrap ((m : Int).tmod n) = (t : Int) := by
        rw [Int.tmod_eq_emod_of_nonneg (by omega), ← Int.natCast_emod, ← ht]; exact IntWalk.i64_in _ (by omega)
      have hwe : ((m : Int).tmod n) = (t : Int) := by rw [Int.tmod_eq_emod_of_nonneg (by omega), ← Int.natCast_emod, ← ht]
      have HGT := Lib.hid hgt; have HW := Lib.hid hwe; clear hgt ht hwe
      go_wp2
      (refine wp_region_quiet_lit (by kernel_rfl) (by kernel_rfl) (WQ.out ?_); (repeat (first | (apply WQ.read (by rfl); (focus (rintro W ⟨n, rfl⟩; go_simp; try with_reducible rfl)); try simp only [Act.put, List.setIfInBounds_toArray, List.set_cons_zero, List.set_cons_succ]) | (apply WQ.skip (by rfl); try simp only [Act.put, List.setIfInBounds_toArray, List.set_cons_zero, List.set_cons_succ]))); refine WQ.nil ?_; rintro _ ⟨nq, rfl⟩)
      go_wp2
      go_roundw
      case rel => exact ⟨n, t, rfl, by first | rfl | (rw [HW.out]) | (show Value.int .i64 _ = Value.int .i64 _; congr 1; have := HW.out; rw [← this, Int.tmod_eq_emod_of_nonneg (by omega)]), HGT.out.trans hgm.out, n1, by omega, _, World.drewN_drewN _ _ _⟩
      case measure => first | (show ((m : Int).tmod n).toNat < (n : Int).toNat; rw [HW.out]; omega) | (simp [RowKit.intOf]; omega)
end Go.Proofs.YtapfekcbbhhieaaGreatDoor
