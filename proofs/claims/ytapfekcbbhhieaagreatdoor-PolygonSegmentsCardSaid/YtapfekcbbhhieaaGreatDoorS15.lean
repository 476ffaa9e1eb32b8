/-
  rational.Compare.
  rational.Parts; polygon.mul, sub, compare.
  polygon.checkNum, order.
  polygon.turn.
  polygon.low, high.
  polygon.meet.
-/
import Derived.Test.YtapfekcbbhhieaaGreatDoorS14
import Derived.Test.YtapfekcbbhhieaaGreatDoorS04
namespace Go.Proofs.YtapfekcbbhhieaaGreatDoor
open Go.RowKit Go.Shelf Lib Str Limb Geo
attribute [local go_sem] Oper.semAt_some

set_option maxRecDepth 100000 in
set_option maxHeartbeats 1000000 in
theorem cmp_w1 (x y s1 s2 t1 t2 u v : List UInt8) (z : Int) (NA : Hid (∀ W : World, Calls Tryz.prog 52 #[St x] W fun e w' => e = .returned (.tuple #[.agg #[.int .i64 0, .int .i64 0], .bool false]) ∧ Below W.heap.size W w'))
    (RA : Hid (∀ W : World, Wd W → Calls Tryz.prog 54 #[St x] W fun e w' => e = .returned (.tuple #[.agg #[St s1, St t1], .int .i64 0]) ∧ Below W.heap.size W w'))
    (RB : Hid (∀ W : World, Wd W → Calls Tryz.prog 54 #[St y] W fun e w' => e = .returned (.tuple #[.agg #[St s2, St t2], .int .i64 0]) ∧ Below W.heap.size W w'))
    (CR : Hid (∀ W : World, Wd W → Calls Tryz.prog 56 #[.agg #[St s1, St t1], .agg #[St s2, St t2]] W fun e w' => e = .returned (.tuple #[St u, St v, .int .i64 0]) ∧ Below W.heap.size W w'))
    (CM : Hid (∀ W : World, Calls Tryz.prog 124 #[St u, St v] W fun e w' => e = .returned (.tuple #[.int .i64 z, .int .i64 0]) ∧ Below W.heap.size W w'))
    (w : World) (HW : Hid (Wd w)) :
    Calls Tryz.prog 87 #[St x, St y] w fun e w' => e = .returned (.tuple #[.int .i64 z, .int .i64 0]) ∧ Below w.heap.size w w' := by
    go_enter Tryz.func87, Tryz.ntmps87
    go_wp2_with fail
    refine (NA.out _).mono ?_
    rintro e w1 ⟨rfl, hB1⟩
    have hX := hB1.alloc hB1.size (.cells #[.int .i64 0, .int .i64 0] 55)
    clear hB1
    go_wp2_with fail
    refine (RA.out _ (HW.out.below hX)).mono ?_
    rintro e w5 ⟨rfl, hb5⟩
    have hB5 := hX.trans (hb5.mono hX.size)
    have hB5' := hB5.alloc hB5.size (.cells #[.string ⟨s1.toArray⟩, .string ⟨t1.toArray⟩] 62)
    clear hb5
    go_wp2_with fail
    refine (RB.out _ (HW.out.below hB5')).mono ?_
    rintro e w6 ⟨rfl, hb6⟩
    have hz5 := hB5.size
    have z6 : w5.heap.size < w6.heap.size := by have := hb6.size; simp at this; omega
    have hB6 := hB5'.trans (hb6.mono hB5'.size)
    have A2 : w6.heap[w5.heap.size]? = some (.cells #[.string ⟨s1.toArray⟩, .string ⟨t1.toArray⟩] 62 (0, 0)) := (hb6.block _ (by simp)).trans (World.alloc_heap_new w5 _)
    have A20 : w6.cell? ⟨w5.heap.size, 0, none⟩ = some (.string ⟨s1.toArray⟩) := by simp [World.cell?, A2]
    have A21 : w6.cell? ⟨w5.heap.size, 1, none⟩ = some (.string ⟨t1.toArray⟩) := by simp [World.cell?, A2]
    have hB7 := hB6.alloc hB6.size (.cells #[.string ⟨s2.toArray⟩, .string ⟨t2.toArray⟩] 62)
    clear hb6 A2
    go_wp2_with fail
    refine (CR.out _ (HW.out.below hB7)).mono ?_
    rintro e w8 ⟨rfl, hb8⟩
    have hB8 := hB7.trans (hb8.mono hB7.size)
    clear hb8
    go_wp2_with fail
    refine (CM.out _).mono ?_
    rintro e w9 ⟨rfl, hb9⟩
    have hB9 := hB8.trans (hb9.mono hB8.size)
    clear hb9
    go_wp2_with fail
    go_ret2
    exact ⟨rfl, hB9⟩

set_option maxRecDepth 100000 in
set_option maxHeartbeats 1000000 in
theorem cmp_w2 (x y s1 s2 t1 t2 u v : List UInt8) (z n1 d1 : Int) (NA : Hid (∀ W : World, Calls Tryz.prog 52 #[St x] W fun e w' => e = .returned (.tuple #[.agg #[.int .i64 n1, .int .i64 d1], .bool true]) ∧ Below W.heap.size W w')) (NB : Hid (∀ W : World, Calls Tryz.prog 52 #[St y] W fun e w' => e = .returned (.tuple #[.agg #[.int .i64 0, .int .i64 0], .bool false]) ∧ Below W.heap.size W w'))
    (RA : Hid (∀ W : World, Wd W → Calls Tryz.prog 54 #[St x] W fun e w' => e = .returned (.tuple #[.agg #[St s1, St t1], .int .i64 0]) ∧ Below W.heap.size W w'))
    (RB : Hid (∀ W : World, Wd W → Calls Tryz.prog 54 #[St y] W fun e w' => e = .returned (.tuple #[.agg #[St s2, St t2], .int .i64 0]) ∧ Below W.heap.size W w'))
    (CR : Hid (∀ W : World, Wd W → Calls Tryz.prog 56 #[.agg #[St s1, St t1], .agg #[St s2, St t2]] W fun e w' => e = .returned (.tuple #[St u, St v, .int .i64 0]) ∧ Below W.heap.size W w'))
    (CM : Hid (∀ W : World, Calls Tryz.prog 124 #[St u, St v] W fun e w' => e = .returned (.tuple #[.int .i64 z, .int .i64 0]) ∧ Below W.heap.size W w'))
    (w : World) (HW : Hid (Wd w)) :
    Calls Tryz.prog 87 #[St x, St y] w fun e w' => e = .returned (.tuple #[.int .i64 z, .int .i64 0]) ∧ Below w.heap.size w w' := by
    go_enter Tryz.func87, Tryz.ntmps87
    go_wp2_with fail
    refine (NA.out _).mono ?_
    rintro e w1 ⟨rfl, hB1⟩
    have hB1' := hB1.alloc hB1.size (.cells #[.int .i64 n1, .int .i64 d1] 55)
    clear hB1
    go_wp2_with fail
    refine (NB.out _).mono ?_
    rintro e w2 ⟨rfl, hb2⟩
    have hB2 := hB1'.trans (hb2.mono hB1'.size)
    have hX := hB2.alloc hB2.size (.cells #[.int .i64 0, .int .i64 0] 55)
    clear hb2 hB1' hB2
    go_wp2_with fail
    refine (RA.out _ (HW.out.below hX)).mono ?_
    rintro e w5 ⟨rfl, hb5⟩
    have hB5 := hX.trans (hb5.mono hX.size)
    have hB5' := hB5.alloc hB5.size (.cells #[.string ⟨s1.toArray⟩, .string ⟨t1.toArray⟩] 62)
    clear hb5
    go_wp2_with fail
    refine (RB.out _ (HW.out.below hB5')).mono ?_
    rintro e w6 ⟨rfl, hb6⟩
    have hz5 := hB5.size
    have z6 : w5.heap.size < w6.heap.size := by have := hb6.size; simp at this; omega
    have hB6 := hB5'.trans (hb6.mono hB5'.size)
    have A2 : w6.heap[w5.heap.size]? = some (.cells #[.string ⟨s1.toArray⟩, .string ⟨t1.toArray⟩] 62 (0, 0)) := (hb6.block _ (by simp)).trans (World.alloc_heap_new w5 _)
    have A20 : w6.cell? ⟨w5.heap.size, 0, none⟩ = some (.string ⟨s1.toArray⟩) := by simp [World.cell?, A2]
    have A21 : w6.cell? ⟨w5.heap.size, 1, none⟩ = some (.string ⟨t1.toArray⟩) := by simp [World.cell?, A2]
    have hB7 := hB6.alloc hB6.size (.cells #[.string ⟨s2.toArray⟩, .string ⟨t2.toArray⟩] 62)
    clear hb6 A2
    go_wp2_with fail
    refine (CR.out _ (HW.out.below hB7)).mono ?_
    rintro e w8 ⟨rfl, hb8⟩
    have hB8 := hB7.trans (hb8.mono hB7.size)
    clear hb8
    go_wp2_with fail
    refine (CM.out _).mono ?_
    rintro e w9 ⟨rfl, hb9⟩
    have hB9 := hB8.trans (hb9.mono hB8.size)
    clear hb9
    go_wp2_with fail
    go_ret2
    exact ⟨rfl, hB9⟩

theorem cmpZ_cmpR (a b : Rat) : cmpZ (a.num * b.den) (b.num * a.den) = cmpR a b := by
  have h1 := Rat.lt_iff a b
  have h2 := Rat.lt_iff b a
  unfold cmpZ
  rcases cmpR_cases a b with ⟨h, e⟩ | ⟨h, e⟩ | ⟨h, e⟩
  · rw [e, if_pos (h1.1 h)]
  · subst h; rw [e, if_neg (by omega), if_neg (by omega)]
  · rw [e, if_neg (by have := h2.1 h; omega), if_pos (h2.1 h)]

set_option maxRecDepth 100000 in
set_option maxHeartbeats 1000000 in
theorem cmp_w0 (x y : List UInt8) (n1 d1 n2 d2 p q z : Int) (NA : Hid (∀ W : World, Calls Tryz.prog 52 #[St x] W fun e w' => e = .returned (.tuple #[.agg #[.int .i64 n1, .int .i64 d1], .bool true]) ∧ Below W.heap.size W w'))
    (NB : Hid (∀ W : World, Calls Tryz.prog 52 #[St y] W fun e w' => e = .returned (.tuple #[.agg #[.int .i64 n2, .int .i64 d2], .bool true]) ∧ Below W.heap.size W w'))
    (v1 : IntKind.i64.wrap (n1 * d2) = p) (v2 : IntKind.i64.wrap (n2 * d1) = q)
    (CM : Hid (∀ W : World, Calls Tryz.prog 123 #[.int .i64 p, .int .i64 q] W fun e w' => e = .returned (.int .i64 z) ∧ w' = W)) (w : World) :
    Calls Tryz.prog 87 #[St x, St y] w fun e w' => e = .returned (.tuple #[.int .i64 z, .int .i64 0]) ∧ Below w.heap.size w w' := by
    go_enter Tryz.func87, Tryz.ntmps87
    go_wp2_with fail
    refine (NA.out _).mono ?_
    rintro e w1 ⟨rfl, hB1⟩
    have hB1' := hB1.alloc hB1.size (.cells #[.int .i64 n1, .int .i64 d1] 55)
    go_wp2_with fail
    refine (NB.out _).mono ?_
    rintro e w2 ⟨rfl, hb2⟩
    have hz1 := hB1.size
    have z2 : w1.heap.size < w2.heap.size := by have := hb2.size; simp at this; omega
    have hB2 := hB1'.trans (hb2.mono hB1'.size)
    have A2 : w2.heap[w1.heap.size]? = some (.cells #[.int .i64 n1, .int .i64 d1] 55 (0, 0)) := (hb2.block _ (by simp)).trans (World.alloc_heap_new w1 _)
    have A20 : w2.cell? ⟨w1.heap.size, 0, none⟩ = some (.int .i64 n1) := by simp [World.cell?, A2]
    have A21 : w2.cell? ⟨w1.heap.size, 1, none⟩ = some (.int .i64 d1) := by simp [World.cell?, A2]
    have hX := hB2.alloc hB2.size (.cells #[.int .i64 n2, .int .i64 d2] 55)
    clear hb2 A2 hB1 hB1' hB2
    go_wp2_with fail
    refine (CM.out _).mono ?_
    rintro e w3 ⟨rfl, rfl⟩
    go_wp2_with fail
    go_ret2
    exact ⟨rfl, hX⟩

/-- rational.Compare. -/
theorem rCompare_ok (a b : Rat) (i j : Nat) (hi : 0 < i) (hj : 0 < j) (hij : i + j ≤ 300) (ha : sz a i) (hb : sz b j) (w : World) (hw : Wd w) :
    Calls Tryz.prog 87 #[St (numS a), St (numS b)] w fun e w' => e = .returned (.tuple #[.int .i64 (cmpR a b), .int .i64 0]) ∧ Below w.heap.size w w' := by
  have oa := sz_okQ hi (by omega) ha
  have ob := sz_okQ hj (by omega) hb
  have k1 : digs (a.num * b.den) ≤ 300 := Nat.le_trans (digs_cross hi ha.1 hb.2) hij
  have k2 : digs (b.num * a.den) ≤ 300 := Nat.le_trans (digs_cross hj hb.1 ha.2) (by omega)
  have RA := Lib.hid fun W hW => read_ok a oa W hW
  have RB := Lib.hid fun W hW => read_ok b ob W hW
  have cr := fun W hW => crossed_ok a.num b.num a.den b.den oa.1 ob.1 oa.2 ob.2 k1 W hW
  rw [resL_ok k2, resE_ok k2] at cr
  have cm := fun W => Compare_any (a.num * b.den) (b.num * a.den) k1 k2 W
  rw [cmpZ_cmpR] at cm
  by_cases h1 : shortQ a
  · by_cases h2 : shortQ b
    · have e1 := short_near h1
      have e2 := short_near h2
      have p1 := mul_near e1.1 e2.2
      have p2 := mul_near e2.1 e1.2
      exact cmp_w0 _ _ a.num a.den b.num b.den _ _ _ (Lib.hid fun W => nativeOf_yes a h1 W) (Lib.hid fun W => nativeOf_yes b h2 W) (IntWalk.i64_in _ (by omega)) (IntWalk.i64_in _ (by omega))
        (Lib.hid fun W => by rw [← cmpZ_cmpR]; exact Tryz.cmp_Compare_int _ _ W) w
    · exact cmp_w2 _ _ _ _ _ _ _ _ _ a.num a.den (Lib.hid fun W => nativeOf_yes a h1 W) (Lib.hid fun W => nativeOf_no b h2 (Nat.le_trans ob.1 (by omega)) (Nat.le_trans ob.2 (by omega)) W) RA RB (Lib.hid cr) (Lib.hid cm) w (Lib.hid hw)
  · exact cmp_w1 _ _ _ _ _ _ _ _ _ (Lib.hid fun W => nativeOf_no a h1 (Nat.le_trans oa.1 (by omega)) (Nat.le_trans oa.2 (by omega)) W) RA RB (Lib.hid cr) (Lib.hid cm) w (Lib.hid hw)
end Go.Proofs.YtapfekcbbhhieaaGreatDoor

namespace Go.Proofs.YtapfekcbbhhieaaGreatDoor
open Go.RowKit Go.Shelf Lib Str Limb Geo
attribute [local go_sem] Oper.semAt_some

theorem pmul_ok (a b : Rat) (i j : Nat) (hi : 0 < i) (hj : 0 < j) (hij : i + j ≤ 300) (ha : sz a i) (hb : sz b j) (w : World) (hw : Wd w) :
    Calls Tryz.prog 34 #[St (numS a), St (numS b)] w fun e w' => e = .returned (St (numS (a * b))) ∧ Below w.heap.size w w' := by
  have hc := rMul_ok a b i j hi hj hij ha hb w hw
  generalize numS (a * b) = r at hc ⊢
  generalize numS a = x at hc ⊢
  generalize numS b = y at hc ⊢
  have HC := Lib.hid hc; clear hc hi hj hij ha hb
  go_enter Tryz.func34, Tryz.ntmps34
  go_wp2_with fail
  refine HC.out.mono ?_
  rintro e w1 ⟨rfl, hB⟩
  go_wp2_with fail
  go_ret
  exact ⟨rfl, hB⟩

theorem psub_ok (a b : Rat) (i j : Nat) (hi : 0 < i) (hj : 0 < j) (hij : i + j < 300) (ha : sz a i) (hb : sz b j) (w : World) (hw : Wd w) :
    Calls Tryz.prog 33 #[St (numS a), St (numS b)] w fun e w' => e = .returned (St (numS (a - b))) ∧ Below w.heap.size w w' := by
  have hc := rSub_ok a b i j hi hj hij ha hb w hw
  generalize numS (a - b) = r at hc ⊢
  generalize numS a = x at hc ⊢
  generalize numS b = y at hc ⊢
  have HC := Lib.hid hc; clear hc hi hj hij ha hb
  go_enter Tryz.func33, Tryz.ntmps33
  go_wp2_with fail
  refine HC.out.mono ?_
  rintro e w1 ⟨rfl, hB⟩
  go_wp2_with fail
  go_ret
  exact ⟨rfl, hB⟩

theorem pcmp_ok (a b : Rat) (i j : Nat) (hi : 0 < i) (hj : 0 < j) (hij : i + j ≤ 300) (ha : sz a i) (hb : sz b j) (w : World) (hw : Wd w) :
    Calls Tryz.prog 45 #[St (numS a), St (numS b)] w fun e w' => e = .returned (.int .i64 (cmpR a b)) ∧ Below w.heap.size w w' := by
  have hc := rCompare_ok a b i j hi hj hij ha hb w hw
  generalize cmpR a b = r at hc ⊢
  generalize numS a = x at hc ⊢
  generalize numS b = y at hc ⊢
  have HC := Lib.hid hc; clear hc hi hj hij ha hb
  go_enter Tryz.func45, Tryz.ntmps45
  go_wp2_with fail
  refine HC.out.mono ?_
  rintro e w1 ⟨rfl, hB⟩
  go_wp2_with fail
  go_ret
  exact ⟨rfl, hB⟩

set_option maxHeartbeats 1000000 in
/-- rational.Parts. -/
theorem rparts_ok (q : Rat) (h : okQ q) (w : World) (hw : Wd w) :
    Calls Tryz.prog 112 #[St (numS q)] w fun e w' => e = .returned (.tuple #[St (itoa q.num), St (decDigits q.den), .int .i64 0]) ∧ Below w.heap.size w w' := by
  have hc := read_ok q h w hw
  generalize numS q = s at hc ⊢
  generalize itoa q.num = u at hc ⊢
  generalize decDigits q.den = v at hc ⊢
  have HC := Lib.hid hc; clear hc h
  go_enter Tryz.func112, Tryz.ntmps112
  go_wp2_with fail
  refine HC.out.mono ?_
  rintro e w1 ⟨rfl, hB⟩
  go_wp2_with fail
  (refine wp_region_quiet_lit (by kernel_rfl) (by kernel_rfl) (WQ.out ?_); (repeat (first | (apply WQ.read (by rfl); (focus (rintro W ⟨n, rfl⟩; go_simp; try with_reducible rfl)); try simp only [Act.put, List.setIfInBounds_toArray, List.set_cons_zero, List.set_cons_succ]) | (apply WQ.skip (by rfl); try simp only [Act.put, List.setIfInBounds_toArray, List.set_cons_zero, List.set_cons_succ]))); refine WQ.nil ?_; rintro _ ⟨nq, rfl⟩)
  go_wp2_with fail
  go_ret3
  exact ⟨rfl, Below_drewN (hB.alloc hB.size _) nq⟩
end Go.Proofs.YtapfekcbbhhieaaGreatDoor

namespace Go.Proofs.YtapfekcbbhhieaaGreatDoor
open Go.RowKit Go.Shelf Lib Str Limb Geo
attribute [local go_sem] Oper.semAt_some

/-- A point. -/
def ptV (p : Pt) : Value := .agg #[St (numS p.x), St (numS p.y)]
/-- A point with parts below 10^k. -/
def szP (p : Pt) (k : Nat) : Prop := sz p.x k ∧ sz p.y k

theorem order_walk (x1 y1 x2 y2 : List UInt8) (m n : Int) (w : World) (hw : Wd w)
    (c1 : ∀ W : World, Wd W → Calls Tryz.prog 45 #[St x1, St x2] W fun e w' => e = .returned (.int .i64 m) ∧ Below W.heap.size W w')
    (c2 : ∀ W : World, Wd W → Calls Tryz.prog 45 #[St y1, St y2] W fun e w' => e = .returned (.int .i64 n) ∧ Below W.heap.size W w') :
    Calls Tryz.prog 78 #[.agg #[St x1, St y1], .agg #[St x2, St y2]] w fun e w' => e = .returned (.int .i64 (if m ≠ 0 then m else n)) ∧ Below w.heap.size w w' := by
  have C1 := Lib.hid c1; have C2 := Lib.hid c2; have HW := Lib.hid hw
  clear c1 c2 hw
  obtain ⟨W3, hW3⟩ : ∃ W3, W3 = (w.alloc (.cells #[St x1, St y1] 24)).alloc (.cells #[St x2, St y2] 24) := ⟨_, rfl⟩
  have hB0 : Below w.heap.size w W3 := by rw [hW3]; exact ((Below.refl _ w).alloc (Nat.le_refl _) _).alloc (by simp) _
  have z0 : W3.heap.size = w.heap.size + 1 + 1 := by rw [hW3]; simp
  have A3 : W3.heap[w.heap.size]? = some (.cells #[St x1, St y1] 24 (0, 0)) := by
    rw [hW3]; exact (Below.heap_alloc _ _ _ (by simp only [World.size_alloc]; omega)).trans (World.alloc_heap_new w _)
  have B3 : W3.heap[w.heap.size + 1]? = some (.cells #[St x2, St y2] 24 (0, 0)) := by
    have := World.alloc_heap_new (w.alloc (.cells #[St x1, St y1] 24)) (.cells #[St x2, St y2] 24 (0, 0))
    rw [World.size_alloc] at this
    rw [hW3]; exact this
  have HW3 := Lib.hid hW3; clear hW3
  by_cases hm : m = 0
  · have hm' : (m != 0) = false := by simp [hm]
    rw [if_neg (by omega)]
    clear hm
    go_enter Tryz.func78, Tryz.ntmps78
    go_wp2_with fail
    rw [← HW3.out]
    refine (C1.out _ (HW.out.below hB0)).mono ?_
    rintro e w4 ⟨rfl, hb4⟩
    have hB4 := hB0.trans (hb4.mono hB0.size)
    have A4 : w4.heap[w.heap.size]? = some (.cells #[St x1, St y1] 24 (0, 0)) := (hb4.block _ (by omega)).trans A3
    have B4 : w4.heap[w.heap.size + 1]? = some (.cells #[St x2, St y2] 24 (0, 0)) := (hb4.block _ (by omega)).trans B3
    have A41 : w4.cell? ⟨w.heap.size, 1, none⟩ = some (St y1) := by simp [World.cell?, A4]
    have B41 : w4.cell? ⟨w.heap.size + 1, 1, none⟩ = some (St y2) := by simp [World.cell?, B4]
    clear hb4 A3 B3 z0 A4 B4
    go_wp2_with fail
    refine (C2.out _ (HW.out.below hB4)).mono ?_
    rintro e w5 ⟨rfl, hb5⟩
    have hB5 := hB4.trans (hb5.mono hB4.size)
    clear hb5
    go_wp2_with fail
    go_ret
    exact ⟨rfl, hB5⟩
  · have hm' : (m != 0) = true := by simp [hm]
    rw [if_pos hm]
    clear hm
    go_enter Tryz.func78, Tryz.ntmps78
    go_wp2_with fail
    rw [← HW3.out]
    refine (C1.out _ (HW.out.below hB0)).mono ?_
    rintro e w4 ⟨rfl, hb4⟩
    have hB4 := hB0.trans (hb4.mono hB0.size)
    clear hb4 A3 B3 z0
    go_wp2_with fail
    go_ret
    exact ⟨rfl, hB4⟩

/-- polygon.order. -/
theorem order_ok (p q : Pt) (i j : Nat) (hi : 0 < i) (hj : 0 < j) (hij : i + j ≤ 300) (hp : szP p i) (hq : szP q j) (w : World) (hw : Wd w) :
    Calls Tryz.prog 78 #[ptV p, ptV q] w fun e w' => e = .returned (.int .i64 (ordP p q)) ∧ Below w.heap.size w w' :=
  order_walk _ _ _ _ _ _ w hw (fun W hW => pcmp_ok p.x q.x i j hi hj hij hp.1 hq.1 W hW) (fun W hW => pcmp_ok p.y q.y i j hi hj hij hp.2 hq.2 W hW)
end Go.Proofs.YtapfekcbbhhieaaGreatDoor

namespace Go.Proofs.YtapfekcbbhhieaaGreatDoor
open Go.RowKit Go.Shelf Lib Str Limb Geo
attribute [local go_sem] Oper.semAt_some

/-- The three boxes of turn. -/
structure TurnS (w : World) (x1 y1 x2 y2 x3 y3 : List UInt8) (W : World) : Prop where
  bel : Below w.heap.size w W
  lt : w.heap.size + 1 + 1 < W.heap.size
  ha : W.heap[w.heap.size]? = some (.cells #[St x1, St y1] 24 (0, 0))
  hb : W.heap[w.heap.size + 1]? = some (.cells #[St x2, St y2] 24 (0, 0))
  hc : W.heap[w.heap.size + 1 + 1]? = some (.cells #[St x3, St y3] 24 (0, 0))
theorem TurnS.a0 {w : World} {x1 y1 x2 y2 x3 y3 : List UInt8} {W : World} (h : TurnS w x1 y1 x2 y2 x3 y3 W) : W.cell? ⟨w.heap.size, 0, none⟩ = some (St x1) := by have := h.ha; simp [World.cell?, this]
theorem TurnS.a1 {w : World} {x1 y1 x2 y2 x3 y3 : List UInt8} {W : World} (h : TurnS w x1 y1 x2 y2 x3 y3 W) : W.cell? ⟨w.heap.size, 1, none⟩ = some (St y1) := by have := h.ha; simp [World.cell?, this]
theorem TurnS.b0 {w : World} {x1 y1 x2 y2 x3 y3 : List UInt8} {W : World} (h : TurnS w x1 y1 x2 y2 x3 y3 W) : W.cell? ⟨w.heap.size + 1, 0, none⟩ = some (St x2) := by have := h.hb; simp [World.cell?, this]
theorem TurnS.b1 {w : World} {x1 y1 x2 y2 x3 y3 : List UInt8} {W : World} (h : TurnS w x1 y1 x2 y2 x3 y3 W) : W.cell? ⟨w.heap.size + 1, 1, none⟩ = some (St y2) := by have := h.hb; simp [World.cell?, this]
theorem TurnS.c0 {w : World} {x1 y1 x2 y2 x3 y3 : List UInt8} {W : World} (h : TurnS w x1 y1 x2 y2 x3 y3 W) : W.cell? ⟨w.heap.size + 1 + 1, 0, none⟩ = some (St x3) := by have := h.hc; simp [World.cell?, this]
theorem TurnS.c1 {w : World} {x1 y1 x2 y2 x3 y3 : List UInt8} {W : World} (h : TurnS w x1 y1 x2 y2 x3 y3 W) : W.cell? ⟨w.heap.size + 1 + 1, 1, none⟩ = some (St y3) := by have := h.hc; simp [World.cell?, this]
theorem TurnS.next {w : World} {x1 y1 x2 y2 x3 y3 : List UInt8} {W W' : World} (h : TurnS w x1 y1 x2 y2 x3 y3 W) (hb : Below W.heap.size W W') : TurnS w x1 y1 x2 y2 x3 y3 W' :=
  ⟨h.bel.trans (hb.mono h.bel.size), Nat.lt_of_lt_of_le h.lt hb.size, (hb.block _ (by have := h.lt; omega)).trans h.ha, (hb.block _ (by have := h.lt; omega)).trans h.hb, (hb.block _ h.lt).trans h.hc⟩

set_option maxRecDepth 100000 in
set_option maxHeartbeats 2000000 in
theorem turn_walk (x1 y1 x2 y2 x3 y3 u1 u2 v1 v2 u v : List UInt8) (n : Int)
    (S1 : Hid (∀ W : World, Wd W → Calls Tryz.prog 33 #[St x2, St x1] W fun e w' => e = .returned (St u1) ∧ Below W.heap.size W w'))
    (S2 : Hid (∀ W : World, Wd W → Calls Tryz.prog 33 #[St y3, St y1] W fun e w' => e = .returned (St u2) ∧ Below W.heap.size W w'))
    (M1 : Hid (∀ W : World, Wd W → Calls Tryz.prog 34 #[St u1, St u2] W fun e w' => e = .returned (St u) ∧ Below W.heap.size W w'))
    (S3 : Hid (∀ W : World, Wd W → Calls Tryz.prog 33 #[St y2, St y1] W fun e w' => e = .returned (St v1) ∧ Below W.heap.size W w'))
    (S4 : Hid (∀ W : World, Wd W → Calls Tryz.prog 33 #[St x3, St x1] W fun e w' => e = .returned (St v2) ∧ Below W.heap.size W w'))
    (M2 : Hid (∀ W : World, Wd W → Calls Tryz.prog 34 #[St v1, St v2] W fun e w' => e = .returned (St v) ∧ Below W.heap.size W w'))
    (CM : Hid (∀ W : World, Wd W → Calls Tryz.prog 45 #[St u, St v] W fun e w' => e = .returned (.int .i64 n) ∧ Below W.heap.size W w'))
    (w : World) (HW : Hid (Wd w)) :
    Calls Tryz.prog 46 #[.agg #[St x1, St y1], .agg #[St x2, St y2], .agg #[St x3, St y3]] w fun e w' => e = .returned (.int .i64 n) ∧ Below w.heap.size w w' := by
  have hinit : TurnS w x1 y1 x2 y2 x3 y3 (((w.alloc (.cells #[St x1, St y1] 24)).alloc (.cells #[St x2, St y2] 24)).alloc (.cells #[St x3, St y3] 24)) := by
    have e1 := World.alloc_heap_new w (.cells #[St x1, St y1] 24 (0, 0))
    have e2 := World.alloc_heap_new (w.alloc (.cells #[St x1, St y1] 24)) (.cells #[St x2, St y2] 24 (0, 0))
    have e3 := World.alloc_heap_new ((w.alloc (.cells #[St x1, St y1] 24)).alloc (.cells #[St x2, St y2] 24)) (.cells #[St x3, St y3] 24 (0, 0))
    simp only [World.size_alloc] at e2 e3
    refine ⟨(((Below.refl _ w).alloc (Nat.le_refl _) _).alloc (by simp) _).alloc (by simp; omega) _, by simp, ?_, ?_, e3⟩
    · exact (Below.heap_alloc _ _ _ (by simp only [World.size_alloc]; omega)).trans ((Below.heap_alloc _ _ _ (by simp only [World.size_alloc]; omega)).trans e1)
    · exact (Below.heap_alloc _ _ _ (by simp only [World.size_alloc]; omega)).trans e2
  have HI := Lib.hid hinit; clear hinit
  go_enter Tryz.func46, Tryz.ntmps46
  go_wp2_with fail
  refine wp_region_ac (fun _ W => TurnS w x1 y1 x2 y2 x3 y3 W) (by kernel_rfl) (by kernel_rfl) (by have h := HI.out; exact ⟨h.bel.drew, h.lt, h.ha, h.hb, h.hc⟩) ?_
  refine acL_read (v := .pointer (some ⟨w.heap.size + 1, 0, none⟩)) (by rfl) (fun f W' h => h) (fun f W' hf h => by go_simp) ?_
  try simp only [Act.put, List.setIfInBounds_toArray, List.set_cons_zero, List.set_cons_succ]
  refine acL_read (v := St x2) (by rfl) (fun f W' h => h) (fun f W' hf h => by have h0 := h.b0; go_simp) ?_
  try simp only [Act.put, List.setIfInBounds_toArray, List.set_cons_zero, List.set_cons_succ]
  refine acL_read (v := .pointer (some ⟨w.heap.size, 0, none⟩)) (by rfl) (fun f W' h => h) (fun f W' hf h => by go_simp) ?_
  try simp only [Act.put, List.setIfInBounds_toArray, List.set_cons_zero, List.set_cons_succ]
  refine acL_read (v := St x1) (by rfl) (fun f W' h => h) (fun f W' hf h => by have h0 := h.a0; go_simp) ?_
  try simp only [Act.put, List.setIfInBounds_toArray, List.set_cons_zero, List.set_cons_succ]
  refine acL_value (St u1) (by rfl) (fun f W' hf h C' hC' => by
      go_simp
      refine (S1.out _ (HW.out.below h.bel)).mono ?_
      rintro e w' ⟨rfl, hb⟩
      exact ⟨rfl, hC' _ (h.next hb)⟩) ?_
  try simp only [Act.put, List.setIfInBounds_toArray, List.set_cons_zero, List.set_cons_succ]
  refine acL_read (v := .pointer (some ⟨w.heap.size + 1 + 1, 1, none⟩)) (by rfl) (fun f W' h => h) (fun f W' hf h => by go_simp) ?_
  try simp only [Act.put, List.setIfInBounds_toArray, List.set_cons_zero, List.set_cons_succ]
  refine acL_read (v := St y3) (by rfl) (fun f W' h => h) (fun f W' hf h => by have h0 := h.c1; go_simp) ?_
  try simp only [Act.put, List.setIfInBounds_toArray, List.set_cons_zero, List.set_cons_succ]
  refine acL_read (v := .pointer (some ⟨w.heap.size, 1, none⟩)) (by rfl) (fun f W' h => h) (fun f W' hf h => by go_simp) ?_
  try simp only [Act.put, List.setIfInBounds_toArray, List.set_cons_zero, List.set_cons_succ]
  refine acL_read (v := St y1) (by rfl) (fun f W' h => h) (fun f W' hf h => by have h0 := h.a1; go_simp) ?_
  try simp only [Act.put, List.setIfInBounds_toArray, List.set_cons_zero, List.set_cons_succ]
  refine acL_value (St u2) (by rfl) (fun f W' hf h C' hC' => by
      go_simp
      refine (S2.out _ (HW.out.below h.bel)).mono ?_
      rintro e w' ⟨rfl, hb⟩
      exact ⟨rfl, hC' _ (h.next hb)⟩) ?_
  try simp only [Act.put, List.setIfInBounds_toArray, List.set_cons_zero, List.set_cons_succ]
  refine acL_value (St u) (by rfl) (fun f W' hf h C' hC' => by
      go_simp
      refine (M1.out _ (HW.out.below h.bel)).mono ?_
      rintro e w' ⟨rfl, hb⟩
      exact ⟨rfl, hC' _ (h.next hb)⟩) ?_
  try simp only [Act.put, List.setIfInBounds_toArray, List.set_cons_zero, List.set_cons_succ]
  refine acL_read (v := .pointer (some ⟨w.heap.size + 1, 1, none⟩)) (by rfl) (fun f W' h => h) (fun f W' hf h => by go_simp) ?_
  try simp only [Act.put, List.setIfInBounds_toArray, List.set_cons_zero, List.set_cons_succ]
  refine acL_read (v := St y2) (by rfl) (fun f W' h => h) (fun f W' hf h => by have h0 := h.b1; go_simp) ?_
  try simp only [Act.put, List.setIfInBounds_toArray, List.set_cons_zero, List.set_cons_succ]
  refine acL_read (v := .pointer (some ⟨w.heap.size, 1, none⟩)) (by rfl) (fun f W' h => h) (fun f W' hf h => by go_simp) ?_
  try simp only [Act.put, List.setIfInBounds_toArray, List.set_cons_zero, List.set_cons_succ]
  refine acL_read (v := St y1) (by rfl) (fun f W' h => h) (fun f W' hf h => by have h0 := h.a1; go_simp) ?_
  try simp only [Act.put, List.setIfInBounds_toArray, List.set_cons_zero, List.set_cons_succ]
  refine acL_value (St v1) (by rfl) (fun f W' hf h C' hC' => by
      go_simp
      refine (S3.out _ (HW.out.below h.bel)).mono ?_
      rintro e w' ⟨rfl, hb⟩
      exact ⟨rfl, hC' _ (h.next hb)⟩) ?_
  try simp only [Act.put, List.setIfInBounds_toArray, List.set_cons_zero, List.set_cons_succ]
  refine acL_read (v := .pointer (some ⟨w.heap.size + 1 + 1, 0, none⟩)) (by rfl) (fun f W' h => h) (fun f W' hf h => by go_simp) ?_
  try simp only [Act.put, List.setIfInBounds_toArray, List.set_cons_zero, List.set_cons_succ]
  refine acL_read (v := St x3) (by rfl) (fun f W' h => h) (fun f W' hf h => by have h0 := h.c0; go_simp) ?_
  try simp only [Act.put, List.setIfInBounds_toArray, List.set_cons_zero, List.set_cons_succ]
  refine acL_read (v := .pointer (some ⟨w.heap.size, 0, none⟩)) (by rfl) (fun f W' h => h) (fun f W' hf h => by go_simp) ?_
  try simp only [Act.put, List.setIfInBounds_toArray, List.set_cons_zero, List.set_cons_succ]
  refine acL_read (v := St x1) (by rfl) (fun f W' h => h) (fun f W' hf h => by have h0 := h.a0; go_simp) ?_
  try simp only [Act.put, List.setIfInBounds_toArray, List.set_cons_zero, List.set_cons_succ]
  refine acL_value (St v2) (by rfl) (fun f W' hf h C' hC' => by
      go_simp
      refine (S4.out _ (HW.out.below h.bel)).mono ?_
      rintro e w' ⟨rfl, hb⟩
      exact ⟨rfl, hC' _ (h.next hb)⟩) ?_
  try simp only [Act.put, List.setIfInBounds_toArray, List.set_cons_zero, List.set_cons_succ]
  refine acL_value (St v) (by rfl) (fun f W' hf h C' hC' => by
      go_simp
      refine (M2.out _ (HW.out.below h.bel)).mono ?_
      rintro e w' ⟨rfl, hb⟩
      exact ⟨rfl, hC' _ (h.next hb)⟩) ?_
  try simp only [Act.put, List.setIfInBounds_toArray, List.set_cons_zero, List.set_cons_succ]
  refine acL_value (.int .i64 n) (by rfl) (fun f W' hf h C' hC' => by
      go_simp
      refine (CM.out _ (HW.out.below h.bel)).mono ?_
      rintro e w' ⟨rfl, hb⟩
      exact ⟨rfl, hC' _ (h.next hb)⟩) ?_
  try simp only [Act.put, List.setIfInBounds_toArray, List.set_cons_zero, List.set_cons_succ]
  refine acL_read (v := .int .i64 n) (by rfl) (fun f W' h => h) (fun f W' hf h => by go_simp) ?_
  try simp only [Act.put, List.setIfInBounds_toArray, List.set_cons_zero, List.set_cons_succ]
  refine acL_nil fun f W' hf h => ?_
  have hB := h.bel
  clear hf h
  go_wp2_with fail
  go_ret
  exact ⟨rfl, hB⟩

/-- polygon.turn. -/
theorem turn_ok (a b c : Pt) (k : Nat) (hk : 0 < k) (hk2 : 8 * k + 4 ≤ 300) (ha : szP a k) (hb : szP b k) (hc : szP c k) (w : World) (hw : Wd w) :
    Calls Tryz.prog 46 #[ptV a, ptV b, ptV c] w fun e w' => e = .returned (.int .i64 (turn a b c)) ∧ Below w.heap.size w w' := by
  have s1 := sz_sub hb.1 ha.1
  have s2 := sz_sub hc.2 ha.2
  have s3 := sz_sub hb.2 ha.2
  have s4 := sz_sub hc.1 ha.1
  have m1 := sz_mul s1 s2
  have m2 := sz_mul s3 s4
  exact turn_walk _ _ _ _ _ _ _ _ _ _ _ _ _ (Lib.hid fun W hW => psub_ok b.x a.x k k hk hk (by omega) hb.1 ha.1 W hW) (Lib.hid fun W hW => psub_ok c.y a.y k k hk hk (by omega) hc.2 ha.2 W hW)
    (Lib.hid fun W hW => pmul_ok _ _ _ _ (by omega) (by omega) (by omega) s1 s2 W hW) (Lib.hid fun W hW => psub_ok b.y a.y k k hk hk (by omega) hb.2 ha.2 W hW) (Lib.hid fun W hW => psub_ok c.x a.x k k hk hk (by omega) hc.1 ha.1 W hW)
    (Lib.hid fun W hW => pmul_ok _ _ _ _ (by omega) (by omega) (by omega) s3 s4 W hW) (Lib.hid fun W hW => pcmp_ok _ _ _ _ (by omega) (by omega) (by omega) m1 m2 W hW) w (Lib.hid hw)
end Go.Proofs.YtapfekcbbhhieaaGreatDoor

namespace Go.Proofs.YtapfekcbbhhieaaGreatDoor
open Go.RowKit Go.Shelf Lib Str Limb Geo
attribute [local go_sem] Oper.semAt_some

set_option maxHeartbeats 1000000 in
theorem low_g (x1 y1 x2 y2 : List UInt8) (n : Int) (hn : decide ((0 : Int) < n) = true)
    (O : Hid (∀ W : World, Wd W → Calls Tryz.prog 78 #[.agg #[St x1, St y1], .agg #[St x2, St y2]] W fun e w' => e = .returned (.int .i64 n) ∧ Below W.heap.size W w')) (w : World) (HW : Hid (Wd w)) :
    Calls Tryz.prog 76 #[.agg #[St x1, St y1, St x2, St y2]] w fun e w' => e = .returned (.agg #[St x2, St y2]) ∧ Below w.heap.size w w' := by
  obtain ⟨W3, hW3⟩ : ∃ W3, W3 = (w.alloc (.cells #[St x1, St y1, St x2, St y2] 69)).alloc (.cells #[St [], St []] 24) := ⟨_, rfl⟩
  have hB0 : Below w.heap.size w W3 := by rw [hW3]; exact ((Below.refl _ w).alloc (Nat.le_refl _) _).alloc (by simp) _
  have z0 : W3.heap.size = w.heap.size + 1 + 1 := by rw [hW3]; simp
  have A3 : W3.heap[w.heap.size]? = some (.cells #[St x1, St y1, St x2, St y2] 69 (0, 0)) := by
    rw [hW3]; exact (Below.heap_alloc _ _ _ (by simp only [World.size_alloc]; omega)).trans (World.alloc_heap_new w _)
  have B3 : W3.heap[w.heap.size + 1]? = some (.cells #[St [], St []] 24 (0, 0)) := by
    have := World.alloc_heap_new (w.alloc (.cells #[St x1, St y1, St x2, St y2] 69)) (.cells #[St [], St []] 24 (0, 0))
    rw [World.size_alloc] at this
    rw [hW3]; exact this
  have HW3 := Lib.hid hW3; clear hW3
  go_enter Tryz.func76, Tryz.ntmps76
  go_wp2_with fail
  rw [← HW3.out]
  refine (O.out _ (HW.out.below hB0)).mono ?_
  rintro e w4 ⟨rfl, hb4⟩
  have hB4 := hB0.trans (hb4.mono hB0.size)
  have A4 : w4.heap[w.heap.size]? = some (.cells #[St x1, St y1, St x2, St y2] 69 (0, 0)) := (hb4.block _ (by omega)).trans A3
  have B4 : w4.heap[w.heap.size + 1]? = some (.cells #[St [], St []] 24 (0, 0)) := (hb4.block _ (by omega)).trans B3
  have a0 : w4.cell? ⟨w.heap.size, 0, none⟩ = some (St x1) := by simp [World.cell?, A4]
  have a1 : w4.cell? ⟨w.heap.size, 1, none⟩ = some (St y1) := by simp [World.cell?, A4]
  have a2 : w4.cell? ⟨w.heap.size, 2, none⟩ = some (St x2) := by simp [World.cell?, A4]
  have a3 : w4.cell? ⟨w.heap.size, 3, none⟩ = some (St y2) := by simp [World.cell?, A4]
  have b0 : w4.cell? ⟨w.heap.size + 1, 0, none⟩ = some (St []) := by simp [World.cell?, B4]
  have b1 : w4.cell? ⟨w.heap.size + 1, 1, none⟩ = some (St []) := by simp [World.cell?, B4]
  have f0 : w4.frozen? ⟨w.heap.size + 1, 0, none⟩ = false := by simp [World.frozen?, B4]
  have f1 : w4.frozen? ⟨w.heap.size + 1, 1, none⟩ = false := by simp [World.frozen?, B4]
  clear hb4 A3 B3 A4 B4 z0
  go_wp2_with fail
  refine bodyPost_ret (v := .agg #[St x2, St y2]) (by simp [results, Tryz.results76, go_sem, b0, b1]) rfl ⟨rfl, ?_⟩
  repeat (first | exact hB4 | refine Below.setCell ?_ (by simp) _)

set_option maxHeartbeats 1000000 in
theorem low_l (x1 y1 x2 y2 : List UInt8) (n : Int) (hn : decide ((0 : Int) < n) = false)
    (O : Hid (∀ W : World, Wd W → Calls Tryz.prog 78 #[.agg #[St x1, St y1], .agg #[St x2, St y2]] W fun e w' => e = .returned (.int .i64 n) ∧ Below W.heap.size W w')) (w : World) (HW : Hid (Wd w)) :
    Calls Tryz.prog 76 #[.agg #[St x1, St y1, St x2, St y2]] w fun e w' => e = .returned (.agg #[St x1, St y1]) ∧ Below w.heap.size w w' := by
  obtain ⟨W3, hW3⟩ : ∃ W3, W3 = (w.alloc (.cells #[St x1, St y1, St x2, St y2] 69)).alloc (.cells #[St [], St []] 24) := ⟨_, rfl⟩
  have hB0 : Below w.heap.size w W3 := by rw [hW3]; exact ((Below.refl _ w).alloc (Nat.le_refl _) _).alloc (by simp) _
  have z0 : W3.heap.size = w.heap.size + 1 + 1 := by rw [hW3]; simp
  have A3 : W3.heap[w.heap.size]? = some (.cells #[St x1, St y1, St x2, St y2] 69 (0, 0)) := by
    rw [hW3]; exact (Below.heap_alloc _ _ _ (by simp only [World.size_alloc]; omega)).trans (World.alloc_heap_new w _)
  have B3 : W3.heap[w.heap.size + 1]? = some (.cells #[St [], St []] 24 (0, 0)) := by
    have := World.alloc_heap_new (w.alloc (.cells #[St x1, St y1, St x2, St y2] 69)) (.cells #[St [], St []] 24 (0, 0))
    rw [World.size_alloc] at this
    rw [hW3]; exact this
  have HW3 := Lib.hid hW3; clear hW3
  go_enter Tryz.func76, Tryz.ntmps76
  go_wp2_with fail
  rw [← HW3.out]
  refine (O.out _ (HW.out.below hB0)).mono ?_
  rintro e w4 ⟨rfl, hb4⟩
  have hB4 := hB0.trans (hb4.mono hB0.size)
  have A4 : w4.heap[w.heap.size]? = some (.cells #[St x1, St y1, St x2, St y2] 69 (0, 0)) := (hb4.block _ (by omega)).trans A3
  have B4 : w4.heap[w.heap.size + 1]? = some (.cells #[St [], St []] 24 (0, 0)) := (hb4.block _ (by omega)).trans B3
  have a0 : w4.cell? ⟨w.heap.size, 0, none⟩ = some (St x1) := by simp [World.cell?, A4]
  have a1 : w4.cell? ⟨w.heap.size, 1, none⟩ = some (St y1) := by simp [World.cell?, A4]
  have a2 : w4.cell? ⟨w.heap.size, 2, none⟩ = some (St x2) := by simp [World.cell?, A4]
  have a3 : w4.cell? ⟨w.heap.size, 3, none⟩ = some (St y2) := by simp [World.cell?, A4]
  have b0 : w4.cell? ⟨w.heap.size + 1, 0, none⟩ = some (St []) := by simp [World.cell?, B4]
  have b1 : w4.cell? ⟨w.heap.size + 1, 1, none⟩ = some (St []) := by simp [World.cell?, B4]
  have f0 : w4.frozen? ⟨w.heap.size + 1, 0, none⟩ = false := by simp [World.frozen?, B4]
  have f1 : w4.frozen? ⟨w.heap.size + 1, 1, none⟩ = false := by simp [World.frozen?, B4]
  clear hb4 A3 B3 A4 B4 z0
  go_wp2_with fail
  refine bodyPost_ret (v := .agg #[St x1, St y1]) (by simp [results, Tryz.results76, go_sem, b0, b1]) rfl ⟨rfl, ?_⟩
  repeat (first | exact hB4 | refine Below.setCell ?_ (by simp) _)

set_option maxHeartbeats 1000000 in
theorem high_g (x1 y1 x2 y2 : List UInt8) (n : Int) (hn : decide ((0 : Int) < n) = true)
    (O : Hid (∀ W : World, Wd W → Calls Tryz.prog 78 #[.agg #[St x1, St y1], .agg #[St x2, St y2]] W fun e w' => e = .returned (.int .i64 n) ∧ Below W.heap.size W w')) (w : World) (HW : Hid (Wd w)) :
    Calls Tryz.prog 77 #[.agg #[St x1, St y1, St x2, St y2]] w fun e w' => e = .returned (.agg #[St x1, St y1]) ∧ Below w.heap.size w w' := by
  obtain ⟨W3, hW3⟩ : ∃ W3, W3 = (w.alloc (.cells #[St x1, St y1, St x2, St y2] 69)).alloc (.cells #[St [], St []] 24) := ⟨_, rfl⟩
  have hB0 : Below w.heap.size w W3 := by rw [hW3]; exact ((Below.refl _ w).alloc (Nat.le_refl _) _).alloc (by simp) _
  have z0 : W3.heap.size = w.heap.size + 1 + 1 := by rw [hW3]; simp
  have A3 : W3.heap[w.heap.size]? = some (.cells #[St x1, St y1, St x2, St y2] 69 (0, 0)) := by
    rw [hW3]; exact (Below.heap_alloc _ _ _ (by simp only [World.size_alloc]; omega)).trans (World.alloc_heap_new w _)
  have B3 : W3.heap[w.heap.size + 1]? = some (.cells #[St [], St []] 24 (0, 0)) := by
    have := World.alloc_heap_new (w.alloc (.cells #[St x1, St y1, St x2, St y2] 69)) (.cells #[St [], St []] 24 (0, 0))
    rw [World.size_alloc] at this
    rw [hW3]; exact this
  have HW3 := Lib.hid hW3; clear hW3
  go_enter Tryz.func77, Tryz.ntmps77
  go_wp2_with fail
  rw [← HW3.out]
  refine (O.out _ (HW.out.below hB0)).mono ?_
  rintro e w4 ⟨rfl, hb4⟩
  have hB4 := hB0.trans (hb4.mono hB0.size)
  have A4 : w4.heap[w.heap.size]? = some (.cells #[St x1, St y1, St x2, St y2] 69 (0, 0)) := (hb4.block _ (by omega)).trans A3
  have B4 : w4.heap[w.heap.size + 1]? = some (.cells #[St [], St []] 24 (0, 0)) := (hb4.block _ (by omega)).trans B3
  have a0 : w4.cell? ⟨w.heap.size, 0, none⟩ = some (St x1) := by simp [World.cell?, A4]
  have a1 : w4.cell? ⟨w.heap.size, 1, none⟩ = some (St y1) := by simp [World.cell?, A4]
  have a2 : w4.cell? ⟨w.heap.size, 2, none⟩ = some (St x2) := by simp [World.cell?, A4]
  have a3 : w4.cell? ⟨w.heap.size, 3, none⟩ = some (St y2) := by simp [World.cell?, A4]
  have b0 : w4.cell? ⟨w.heap.size + 1, 0, none⟩ = some (St []) := by simp [World.cell?, B4]
  have b1 : w4.cell? ⟨w.heap.size + 1, 1, none⟩ = some (St []) := by simp [World.cell?, B4]
  have f0 : w4.frozen? ⟨w.heap.size + 1, 0, none⟩ = false := by simp [World.frozen?, B4]
  have f1 : w4.frozen? ⟨w.heap.size + 1, 1, none⟩ = false := by simp [World.frozen?, B4]
  clear hb4 A3 B3 A4 B4 z0
  go_wp2_with fail
  refine bodyPost_ret (v := .agg #[St x1, St y1]) (by simp [results, Tryz.results77, go_sem, b0, b1]) rfl ⟨rfl, ?_⟩
  repeat (first | exact hB4 | refine Below.setCell ?_ (by simp) _)

set_option maxHeartbeats 1000000 in
theorem high_l (x1 y1 x2 y2 : List UInt8) (n : Int) (hn : decide ((0 : Int) < n) = false)
    (O : Hid (∀ W : World, Wd W → Calls Tryz.prog 78 #[.agg #[St x1, St y1], .agg #[St x2, St y2]] W fun e w' => e = .returned (.int .i64 n) ∧ Below W.heap.size W w')) (w : World) (HW : Hid (Wd w)) :
    Calls Tryz.prog 77 #[.agg #[St x1, St y1, St x2, St y2]] w fun e w' => e = .returned (.agg #[St x2, St y2]) ∧ Below w.heap.size w w' := by
  obtain ⟨W3, hW3⟩ : ∃ W3, W3 = (w.alloc (.cells #[St x1, St y1, St x2, St y2] 69)).alloc (.cells #[St [], St []] 24) := ⟨_, rfl⟩
  have hB0 : Below w.heap.size w W3 := by rw [hW3]; exact ((Below.refl _ w).alloc (Nat.le_refl _) _).alloc (by simp) _
  have z0 : W3.heap.size = w.heap.size + 1 + 1 := by rw [hW3]; simp
  have A3 : W3.heap[w.heap.size]? = some (.cells #[St x1, St y1, St x2, St y2] 69 (0, 0)) := by
    rw [hW3]; exact (Below.heap_alloc _ _ _ (by simp only [World.size_alloc]; omega)).trans (World.alloc_heap_new w _)
  have B3 : W3.heap[w.heap.size + 1]? = some (.cells #[St [], St []] 24 (0, 0)) := by
    have := World.alloc_heap_new (w.alloc (.cells #[St x1, St y1, St x2, St y2] 69)) (.cells #[St [], St []] 24 (0, 0))
    rw [World.size_alloc] at this
    rw [hW3]; exact this
  have HW3 := Lib.hid hW3; clear hW3
  go_enter Tryz.func77, Tryz.ntmps77
  go_wp2_with fail
  rw [← HW3.out]
  refine (O.out _ (HW.out.below hB0)).mono ?_
  rintro e w4 ⟨rfl, hb4⟩
  have hB4 := hB0.trans (hb4.mono hB0.size)
  have A4 : w4.heap[w.heap.size]? = some (.cells #[St x1, St y1, St x2, St y2] 69 (0, 0)) := (hb4.block _ (by omega)).trans A3
  have B4 : w4.heap[w.heap.size + 1]? = some (.cells #[St [], St []] 24 (0, 0)) := (hb4.block _ (by omega)).trans B3
  have a0 : w4.cell? ⟨w.heap.size, 0, none⟩ = some (St x1) := by simp [World.cell?, A4]
  have a1 : w4.cell? ⟨w.heap.size, 1, none⟩ = some (St y1) := by simp [World.cell?, A4]
  have a2 : w4.cell? ⟨w.heap.size, 2, none⟩ = some (St x2) := by simp [World.cell?, A4]
  have a3 : w4.cell? ⟨w.heap.size, 3, none⟩ = some (St y2) := by simp [World.cell?, A4]
  have b0 : w4.cell? ⟨w.heap.size + 1, 0, none⟩ = some (St []) := by simp [World.cell?, B4]
  have b1 : w4.cell? ⟨w.heap.size + 1, 1, none⟩ = some (St []) := by simp [World.cell?, B4]
  have f0 : w4.frozen? ⟨w.heap.size + 1, 0, none⟩ = false := by simp [World.frozen?, B4]
  have f1 : w4.frozen? ⟨w.heap.size + 1, 1, none⟩ = false := by simp [World.frozen?, B4]
  clear hb4 A3 B3 A4 B4 z0
  go_wp2_with fail
  refine bodyPost_ret (v := .agg #[St x2, St y2]) (by simp [results, Tryz.results77, go_sem, b0, b1]) rfl ⟨rfl, ?_⟩
  repeat (first | exact hB4 | refine Below.setCell ?_ (by simp) _)

/-- A segment. -/
def segV (a b : Pt) : Value := .agg #[St (numS a.x), St (numS a.y), St (numS b.x), St (numS b.y)]

theorem low_ok (a b : Pt) (k : Nat) (hk : 0 < k) (hk2 : 8 * k + 4 ≤ 300) (ha : szP a k) (hb : szP b k) (w : World) (hw : Wd w) :
    Calls Tryz.prog 76 #[segV a b] w fun e w' => e = .returned (ptV (low a b)) ∧ Below w.heap.size w w' := by
  have O := Lib.hid fun W hW => order_ok a b k k hk hk (by omega) ha hb W hW
  unfold low
  by_cases h : ordP a b > 0
  · rw [if_pos h]; exact low_g _ _ _ _ _ (decide_eq_true h) O w (Lib.hid hw)
  · rw [if_neg h]; exact low_l _ _ _ _ _ (decide_eq_false h) O w (Lib.hid hw)
theorem high_ok (a b : Pt) (k : Nat) (hk : 0 < k) (hk2 : 8 * k + 4 ≤ 300) (ha : szP a k) (hb : szP b k) (w : World) (hw : Wd w) :
    Calls Tryz.prog 77 #[segV a b] w fun e w' => e = .returned (ptV (high a b)) ∧ Below w.heap.size w w' := by
  have O := Lib.hid fun W hW => order_ok a b k k hk hk (by omega) ha hb W hW
  unfold high
  by_cases h : ordP a b > 0
  · rw [if_pos h]; exact high_g _ _ _ _ _ (decide_eq_true h) O w (Lib.hid hw)
  · rw [if_neg h]; exact high_l _ _ _ _ _ (decide_eq_false h) O w (Lib.hid hw)
end Go.Proofs.YtapfekcbbhhieaaGreatDoor

namespace Go.Proofs.YtapfekcbbhhieaaGreatDoor
open Go.RowKit Go.Shelf Lib Str Limb Geo
attribute [local go_sem] Oper.semAt_some

theorem near_mul {a b : Int} (ha : -1 ≤ a ∧ a ≤ 1) (hb : -1 ≤ b ∧ b ≤ 1) : -9223372036854775808 ≤ a * b ∧ a * b ≤ 9223372036854775807 := by
  have : a = -1 ∨ a = 0 ∨ a = 1 := by omega
  rcases this with rfl | rfl | rfl <;> omega
/-- The two boxes of meet. -/
structure MeetS (w : World) (x1 y1 x2 y2 x3 y3 x4 y4 : List UInt8) (W : World) : Prop where
  bel : Below w.heap.size w W
  lt : w.heap.size + 1 < W.heap.size
  hs : W.heap[w.heap.size]? = some (.cells #[St x1, St y1, St x2, St y2] 69 (0, 0))
  ht : W.heap[w.heap.size + 1]? = some (.cells #[St x3, St y3, St x4, St y4] 69 (0, 0))
theorem MeetS.s0 {w : World} {x1 y1 x2 y2 x3 y3 x4 y4 : List UInt8} {W : World} (h : MeetS w x1 y1 x2 y2 x3 y3 x4 y4 W) : W.cell? ⟨w.heap.size, 0, none⟩ = some (St x1) := by have := h.hs; simp [World.cell?, this]
theorem MeetS.s1 {w : World} {x1 y1 x2 y2 x3 y3 x4 y4 : List UInt8} {W : World} (h : MeetS w x1 y1 x2 y2 x3 y3 x4 y4 W) : W.cell? ⟨w.heap.size, 1, none⟩ = some (St y1) := by have := h.hs; simp [World.cell?, this]
theorem MeetS.s2 {w : World} {x1 y1 x2 y2 x3 y3 x4 y4 : List UInt8} {W : World} (h : MeetS w x1 y1 x2 y2 x3 y3 x4 y4 W) : W.cell? ⟨w.heap.size, 2, none⟩ = some (St x2) := by have := h.hs; simp [World.cell?, this]
theorem MeetS.s3 {w : World} {x1 y1 x2 y2 x3 y3 x4 y4 : List UInt8} {W : World} (h : MeetS w x1 y1 x2 y2 x3 y3 x4 y4 W) : W.cell? ⟨w.heap.size, 3, none⟩ = some (St y2) := by have := h.hs; simp [World.cell?, this]
theorem MeetS.t0 {w : World} {x1 y1 x2 y2 x3 y3 x4 y4 : List UInt8} {W : World} (h : MeetS w x1 y1 x2 y2 x3 y3 x4 y4 W) : W.cell? ⟨w.heap.size + 1, 0, none⟩ = some (St x3) := by have := h.ht; simp [World.cell?, this]
theorem MeetS.t1 {w : World} {x1 y1 x2 y2 x3 y3 x4 y4 : List UInt8} {W : World} (h : MeetS w x1 y1 x2 y2 x3 y3 x4 y4 W) : W.cell? ⟨w.heap.size + 1, 1, none⟩ = some (St y3) := by have := h.ht; simp [World.cell?, this]
theorem MeetS.t2 {w : World} {x1 y1 x2 y2 x3 y3 x4 y4 : List UInt8} {W : World} (h : MeetS w x1 y1 x2 y2 x3 y3 x4 y4 W) : W.cell? ⟨w.heap.size + 1, 2, none⟩ = some (St x4) := by have := h.ht; simp [World.cell?, this]
theorem MeetS.t3 {w : World} {x1 y1 x2 y2 x3 y3 x4 y4 : List UInt8} {W : World} (h : MeetS w x1 y1 x2 y2 x3 y3 x4 y4 W) : W.cell? ⟨w.heap.size + 1, 3, none⟩ = some (St y4) := by have := h.ht; simp [World.cell?, this]
theorem MeetS.next {w : World} {x1 y1 x2 y2 x3 y3 x4 y4 : List UInt8} {W W' : World} (h : MeetS w x1 y1 x2 y2 x3 y3 x4 y4 W) (hb : Below W.heap.size W W') : MeetS w x1 y1 x2 y2 x3 y3 x4 y4 W' :=
  ⟨h.bel.trans (hb.mono h.bel.size), Nat.lt_of_lt_of_le h.lt hb.size, (hb.block _ (by have := h.lt; omega)).trans h.hs, (hb.block _ h.lt).trans h.ht⟩

set_option maxRecDepth 100000 in
set_option maxHeartbeats 4000000 in
/-- meet where one of the turns is not 0. -/
theorem meet_turns (x1 y1 x2 y2 x3 y3 x4 y4 : List UInt8) (a b c d r : Int)
    (TA : Hid (∀ W : World, Wd W → Calls Tryz.prog 46 #[.agg #[St x1, St y1], .agg #[St x2, St y2], .agg #[St x3, St y3]] W fun e w' => e = .returned (.int .i64 a) ∧ Below W.heap.size W w'))
    (TB : Hid (∀ W : World, Wd W → Calls Tryz.prog 46 #[.agg #[St x1, St y1], .agg #[St x2, St y2], .agg #[St x4, St y4]] W fun e w' => e = .returned (.int .i64 b) ∧ Below W.heap.size W w'))
    (TC : Hid (∀ W : World, Wd W → Calls Tryz.prog 46 #[.agg #[St x3, St y3], .agg #[St x4, St y4], .agg #[St x1, St y1]] W fun e w' => e = .returned (.int .i64 c) ∧ Below W.heap.size W w'))
    (TD : Hid (∀ W : World, Wd W → Calls Tryz.prog 46 #[.agg #[St x3, St y3], .agg #[St x4, St y4], .agg #[St x2, St y2]] W fun e w' => e = .returned (.int .i64 d) ∧ Below W.heap.size W w'))
    (ba : -1 ≤ a ∧ a ≤ 1) (bb : -1 ≤ b ∧ b ≤ 1) (bc : -1 ≤ c ∧ c ≤ 1) (bd : -1 ≤ d ∧ d ≤ 1)
    (hn : ¬ (a = 0 ∧ b = 0 ∧ c = 0 ∧ d = 0)) (hr : r = if a * b ≤ 0 ∧ c * d ≤ 0 then 1 else 0)
    (w : World) (HW : Hid (Wd w)) :
    Calls Tryz.prog 41 #[.agg #[St x1, St y1, St x2, St y2], .agg #[St x3, St y3, St x4, St y4]] w fun e w' => e = .returned (.int .i64 r) ∧ Below w.heap.size w w' := by
  have hinit : MeetS w x1 y1 x2 y2 x3 y3 x4 y4 ((w.alloc (.cells #[St x1, St y1, St x2, St y2] 69)).alloc (.cells #[St x3, St y3, St x4, St y4] 69)) := by
    have e1 := World.alloc_heap_new w (.cells #[St x1, St y1, St x2, St y2] 69 (0, 0))
    have e2 := World.alloc_heap_new (w.alloc (.cells #[St x1, St y1, St x2, St y2] 69)) (.cells #[St x3, St y3, St x4, St y4] 69 (0, 0))
    simp only [World.size_alloc] at e2
    refine ⟨((Below.refl _ w).alloc (Nat.le_refl _) _).alloc (by simp) _, by simp, ?_, e2⟩
    exact (Below.heap_alloc _ _ _ (by simp only [World.size_alloc]; omega)).trans e1
  have HI := Lib.hid hinit; clear hinit
  have HN := Lib.hid hn; have HR := Lib.hid hr
  clear hn hr
  go_enter Tryz.func41, Tryz.ntmps41
  go_wp2_with fail
  refine wp_region_ac (fun _ W => MeetS w x1 y1 x2 y2 x3 y3 x4 y4 W) (by kernel_rfl) (by kernel_rfl) (by have h := HI.out; exact ⟨h.bel.drew, h.lt, h.hs, h.ht⟩) ?_
  refine acL_read (v := .pointer (some ⟨w.heap.size, 0, none⟩)) (by rfl) (fun f W' h => h) (fun f W' hf h => by go_simp) ?_
  try simp only [Act.put, List.setIfInBounds_toArray, List.set_cons_zero, List.set_cons_succ]
  refine acL_read (v := .agg #[St x1, St y1]) (by rfl) (fun f W' h => h) (fun f W' hf h => by have h0 := h.s0; have h1 := h.s1; go_simp) ?_
  try simp only [Act.put, List.setIfInBounds_toArray, List.set_cons_zero, List.set_cons_succ]
  refine acL_read (v := .pointer (some ⟨w.heap.size, 2, none⟩)) (by rfl) (fun f W' h => h) (fun f W' hf h => by go_simp) ?_
  try simp only [Act.put, List.setIfInBounds_toArray, List.set_cons_zero, List.set_cons_succ]
  refine acL_read (v := .agg #[St x2, St y2]) (by rfl) (fun f W' h => h) (fun f W' hf h => by have h0 := h.s2; have h1 := h.s3; go_simp) ?_
  try simp only [Act.put, List.setIfInBounds_toArray, List.set_cons_zero, List.set_cons_succ]
  refine acL_read (v := .pointer (some ⟨w.heap.size + 1, 0, none⟩)) (by rfl) (fun f W' h => h) (fun f W' hf h => by go_simp) ?_
  try simp only [Act.put, List.setIfInBounds_toArray, List.set_cons_zero, List.set_cons_succ]
  refine acL_read (v := .agg #[St x3, St y3]) (by rfl) (fun f W' h => h) (fun f W' hf h => by have h0 := h.t0; have h1 := h.t1; go_simp) ?_
  try simp only [Act.put, List.setIfInBounds_toArray, List.set_cons_zero, List.set_cons_succ]
  refine acL_value (.int .i64 a) (by rfl) (fun f W' hf h C' hC' => by
      go_simp
      refine (TA.out _ (HW.out.below h.bel)).mono ?_
      rintro e w' ⟨rfl, hb⟩
      exact ⟨rfl, hC' _ (h.next hb)⟩) ?_
  try simp only [Act.put, List.setIfInBounds_toArray, List.set_cons_zero, List.set_cons_succ]
  refine acL_read (v := .pointer (some ⟨w.heap.size, 0, none⟩)) (by rfl) (fun f W' h => h) (fun f W' hf h => by go_simp) ?_
  try simp only [Act.put, List.setIfInBounds_toArray, List.set_cons_zero, List.set_cons_succ]
  refine acL_read (v := .agg #[St x1, St y1]) (by rfl) (fun f W' h => h) (fun f W' hf h => by have h0 := h.s0; have h1 := h.s1; go_simp) ?_
  try simp only [Act.put, List.setIfInBounds_toArray, List.set_cons_zero, List.set_cons_succ]
  refine acL_read (v := .pointer (some ⟨w.heap.size, 2, none⟩)) (by rfl) (fun f W' h => h) (fun f W' hf h => by go_simp) ?_
  try simp only [Act.put, List.setIfInBounds_toArray, List.set_cons_zero, List.set_cons_succ]
  refine acL_read (v := .agg #[St x2, St y2]) (by rfl) (fun f W' h => h) (fun f W' hf h => by have h0 := h.s2; have h1 := h.s3; go_simp) ?_
  try simp only [Act.put, List.setIfInBounds_toArray, List.set_cons_zero, List.set_cons_succ]
  refine acL_read (v := .pointer (some ⟨w.heap.size + 1, 2, none⟩)) (by rfl) (fun f W' h => h) (fun f W' hf h => by go_simp) ?_
  try simp only [Act.put, List.setIfInBounds_toArray, List.set_cons_zero, List.set_cons_succ]
  refine acL_read (v := .agg #[St x4, St y4]) (by rfl) (fun f W' h => h) (fun f W' hf h => by have h0 := h.t2; have h1 := h.t3; go_simp) ?_
  try simp only [Act.put, List.setIfInBounds_toArray, List.set_cons_zero, List.set_cons_succ]
  refine acL_value (.int .i64 b) (by rfl) (fun f W' hf h C' hC' => by
      go_simp
      refine (TB.out _ (HW.out.below h.bel)).mono ?_
      rintro e w' ⟨rfl, hb⟩
      exact ⟨rfl, hC' _ (h.next hb)⟩) ?_
  try simp only [Act.put, List.setIfInBounds_toArray, List.set_cons_zero, List.set_cons_succ]
  refine acL_read (v := .int .i64 a) (by rfl) (fun f W' h => h) (fun f W' hf h => by go_simp) ?_
  try simp only [Act.put, List.setIfInBounds_toArray, List.set_cons_zero, List.set_cons_succ]
  refine acL_read (v := .int .i64 b) (by rfl) (fun f W' h => h) (fun f W' hf h => by go_simp) ?_
  try simp only [Act.put, List.setIfInBounds_toArray, List.set_cons_zero, List.set_cons_succ]
  refine acL_nil fun f W1 hf h1 => ?_
  clear hf f
  have H1 := Lib.hid h1; clear h1
  go_wp2_with fail
  refine wp_region_ac (fun _ W => MeetS w x1 y1 x2 y2 x3 y3 x4 y4 W) (by kernel_rfl) (by kernel_rfl) (by have h := H1.out; exact ⟨h.bel.drew, h.lt, h.hs, h.ht⟩) ?_
  refine acL_read (v := .pointer (some ⟨w.heap.size + 1, 0, none⟩)) (by rfl) (fun f W' h => h) (fun f W' hf h => by go_simp) ?_
  try simp only [Act.put, List.setIfInBounds_toArray, List.set_cons_zero, List.set_cons_succ]
  refine acL_read (v := .agg #[St x3, St y3]) (by rfl) (fun f W' h => h) (fun f W' hf h => by have h0 := h.t0; have h1 := h.t1; go_simp) ?_
  try simp only [Act.put, List.setIfInBounds_toArray, List.set_cons_zero, List.set_cons_succ]
  refine acL_read (v := .pointer (some ⟨w.heap.size + 1, 2, none⟩)) (by rfl) (fun f W' h => h) (fun f W' hf h => by go_simp) ?_
  try simp only [Act.put, List.setIfInBounds_toArray, List.set_cons_zero, List.set_cons_succ]
  refine acL_read (v := .agg #[St x4, St y4]) (by rfl) (fun f W' h => h) (fun f W' hf h => by have h0 := h.t2; have h1 := h.t3; go_simp) ?_
  try simp only [Act.put, List.setIfInBounds_toArray, List.set_cons_zero, List.set_cons_succ]
  refine acL_read (v := .pointer (some ⟨w.heap.size, 0, none⟩)) (by rfl) (fun f W' h => h) (fun f W' hf h => by go_simp) ?_
  try simp only [Act.put, List.setIfInBounds_toArray, List.set_cons_zero, List.set_cons_succ]
  refine acL_read (v := .agg #[St x1, St y1]) (by rfl) (fun f W' h => h) (fun f W' hf h => by have h0 := h.s0; have h1 := h.s1; go_simp) ?_
  try simp only [Act.put, List.setIfInBounds_toArray, List.set_cons_zero, List.set_cons_succ]
  refine acL_value (.int .i64 c) (by rfl) (fun f W' hf h C' hC' => by
      go_simp
      refine (TC.out _ (HW.out.below h.bel)).mono ?_
      rintro e w' ⟨rfl, hb⟩
      exact ⟨rfl, hC' _ (h.next hb)⟩) ?_
  try simp only [Act.put, List.setIfInBounds_toArray, List.set_cons_zero, List.set_cons_succ]
  refine acL_read (v := .pointer (some ⟨w.heap.size + 1, 0, none⟩)) (by rfl) (fun f W' h => h) (fun f W' hf h => by go_simp) ?_
  try simp only [Act.put, List.setIfInBounds_toArray, List.set_cons_zero, List.set_cons_succ]
  refine acL_read (v := .agg #[St x3, St y3]) (by rfl) (fun f W' h => h) (fun f W' hf h => by have h0 := h.t0; have h1 := h.t1; go_simp) ?_
  try simp only [Act.put, List.setIfInBounds_toArray, List.set_cons_zero, List.set_cons_succ]
  refine acL_read (v := .pointer (some ⟨w.heap.size + 1, 2, none⟩)) (by rfl) (fun f W' h => h) (fun f W' hf h => by go_simp) ?_
  try simp only [Act.put, List.setIfInBounds_toArray, List.set_cons_zero, List.set_cons_succ]
  refine acL_read (v := .agg #[St x4, St y4]) (by rfl) (fun f W' h => h) (fun f W' hf h => by have h0 := h.t2; have h1 := h.t3; go_simp) ?_
  try simp only [Act.put, List.setIfInBounds_toArray, List.set_cons_zero, List.set_cons_succ]
  refine acL_read (v := .pointer (some ⟨w.heap.size, 2, none⟩)) (by rfl) (fun f W' h => h) (fun f W' hf h => by go_simp) ?_
  try simp only [Act.put, List.setIfInBounds_toArray, List.set_cons_zero, List.set_cons_succ]
  refine acL_read (v := .agg #[St x2, St y2]) (by rfl) (fun f W' h => h) (fun f W' hf h => by have h0 := h.s2; have h1 := h.s3; go_simp) ?_
  try simp only [Act.put, List.setIfInBounds_toArray, List.set_cons_zero, List.set_cons_succ]
  refine acL_value (.int .i64 d) (by rfl) (fun f W' hf h C' hC' => by
      go_simp
      refine (TD.out _ (HW.out.below h.bel)).mono ?_
      rintro e w' ⟨rfl, hb⟩
      exact ⟨rfl, hC' _ (h.next hb)⟩) ?_
  try simp only [Act.put, List.setIfInBounds_toArray, List.set_cons_zero, List.set_cons_succ]
  refine acL_read (v := .int .i64 c) (by rfl) (fun f W' h => h) (fun f W' hf h => by go_simp) ?_
  try simp only [Act.put, List.setIfInBounds_toArray, List.set_cons_zero, List.set_cons_succ]
  refine acL_read (v := .int .i64 d) (by rfl) (fun f W' h => h) (fun f W' hf h => by go_simp) ?_
  try simp only [Act.put, List.setIfInBounds_toArray, List.set_cons_zero, List.set_cons_succ]
  refine acL_nil fun f W2 hf h2 => ?_
  have hB := h2.bel
  clear hf f h2 H1
  have w1 : IntKind.i64.wrap (a * b) = a * b := IntWalk.i64_in _ (near_mul ba bb)
  have w2 : IntKind.i64.wrap (c * d) = c * d := IntWalk.i64_in _ (near_mul bc bd)
  have hq : (a * b ≤ 0 ∧ c * d ≤ 0 ∧ r = 1) ∨ (a * b ≤ 0 ∧ ¬ c * d ≤ 0 ∧ r = 0) ∨ (¬ a * b ≤ 0 ∧ r = 0) := by
    have := HR.out
    by_cases h1 : a * b ≤ 0
    · by_cases h2 : c * d ≤ 0
      · exact .inl ⟨h1, h2, by rw [this, if_pos ⟨h1, h2⟩]⟩
      · exact .inr (.inl ⟨h1, h2, by rw [this, if_neg (fun h => h2 h.2)]⟩)
    · exact .inr (.inr ⟨h1, by rw [this, if_neg (fun h => h1 h.1)]⟩)
  have hz : (a != 0) = true ∨ ((a != 0) = false ∧ (b != 0) = true) ∨ ((a != 0) = false ∧ (b != 0) = false ∧ (c != 0) = true) ∨ ((a != 0) = false ∧ (b != 0) = false ∧ (c != 0) = false ∧ (d != 0) = true) := by
    have := HN.out
    simp only [bne_iff_ne, bne_eq_false_iff_eq]
    omega
  clear ba bb bc bd HN HR HI TA TB TC TD
  rcases hq with ⟨q1, q2, rfl⟩ | ⟨q1, q2, rfl⟩ | ⟨q1, rfl⟩ <;> rcases hz with z1 | ⟨z1, z2⟩ | ⟨z1, z2, z3⟩ | ⟨z1, z2, z3, z4⟩ <;>
  · go_wp2_with fail
    go_ret
    exact ⟨rfl, hB⟩
end Go.Proofs.YtapfekcbbhhieaaGreatDoor
