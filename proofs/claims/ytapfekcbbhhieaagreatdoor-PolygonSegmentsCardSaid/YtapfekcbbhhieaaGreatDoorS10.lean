/-
  integer.add.
  integer.Add, Sub, Mul, Compare.
  integer.Mul.
-/
import Derived.Test.YtapfekcbbhhieaaGreatDoorS09
import Derived.Test.YtapfekcbbhhieaaGreatDoorS08
namespace Go.Proofs.YtapfekcbbhhieaaGreatDoor
open Go.RowKit Go.Shelf Lib Str Limb
attribute [local go_sem] Oper.semAt_some

/-- A number in memory: its sign and its limbs. -/
def NumRes (w : World) (z : Int) (e : Ending) (w' : World) : Prop :=
  ∃ m v n, e = .returned (.agg #[.bool m, v]) ∧ sgn m n = z ∧ Sl w' v ((limbs B9 n).map I) ∧ Below w.heap.size w w'

theorem plus_sl (va vb : Value) (m n : Nat) (w : World) (ha : Sl w va ((limbs B9 m).map I)) (hb : Sl w vb ((limbs B9 n).map I)) (la : (limbs B9 m).length ≤ 1000) (lb : (limbs B9 n).length ≤ 1000) :
    Calls Tryz.prog 92 #[va, vb, .func (.func 93) #[] #[]] w fun e w' => ∃ p c k, e = .returned (.slice p k c) ∧ Sl w' (.slice p k c) ((limbs B9 (m + n)).map I) ∧ Below w.heap.size w w' := by
  refine (combine_plus va vb _ _ w ha hb (limbs_small (by decide) m) (limbs_small (by decide) n) la lb).mono ?_
  rintro e w' ⟨v, rfl, hown, hB⟩
  rw [plus_trim (by decide) (limbs_small (by decide) m) (limbs_small (by decide) n), limbs_val (by decide), limbs_val (by decide)] at hown
  have hs := Sl.of_own hown
  obtain ⟨p, c, e, -⟩ := id hs
  subst e
  exact ⟨p, c, _, rfl, hs, hB⟩
theorem minus_sl (va vb : Value) (m n : Nat) (w : World) (ha : Sl w va ((limbs B9 m).map I)) (hb : Sl w vb ((limbs B9 n).map I)) (la : (limbs B9 m).length ≤ 1000) (lb : (limbs B9 n).length ≤ 1000) (h : n ≤ m) :
    Calls Tryz.prog 92 #[va, vb, .func (.func 94) #[] #[]] w fun e w' => ∃ p c k, e = .returned (.slice p k c) ∧ Sl w' (.slice p k c) ((limbs B9 (m - n)).map I) ∧ Below w.heap.size w w' := by
  refine (combine_minus va vb _ _ w ha hb (limbs_small (by decide) m) (limbs_small (by decide) n) la lb).mono ?_
  rintro e w' ⟨v, rfl, hown, hB⟩
  rw [minus_trim (by decide) (limbs_small (by decide) m) (limbs_small (by decide) n) (by rw [limbs_val (by decide), limbs_val (by decide)]; exact h) _ (by omega) (by omega), limbs_val (by decide), limbs_val (by decide)] at hown
  have hs := Sl.of_own hown
  obtain ⟨p, c, e, -⟩ := id hs
  subst e
  exact ⟨p, c, _, rfl, hs, hB⟩

set_option maxRecDepth 100000 in
set_option maxHeartbeats 1000000 in
theorem add_same (m : Bool) (vx vy : Value) (nx ny : Nat) (w : World) (hx : Sl w vx ((limbs B9 nx).map I)) (hy : Sl w vy ((limbs B9 ny).map I)) (lx : (limbs B9 nx).length ≤ 1000) (ly : (limbs B9 ny).length ≤ 1000) :
    Calls Tryz.prog 61 #[.agg #[.bool m, vx], .agg #[.bool m, vy]] w (NumRes w (sgn m nx + sgn m ny)) := by
  obtain ⟨px, cx, rfl, -⟩ := id hx
  obtain ⟨py, cy, rfl, -⟩ := id hy
  simp only [List.length_map] at *
  have hpl := fun W h1 h2 => plus_sl (.slice px (limbs B9 nx).length cx) (.slice py (limbs B9 ny).length cy) nx ny W h1 h2 lx ly
  generalize (limbs B9 nx).length = kx at *
  generalize (limbs B9 ny).length = ky at *
  have HPL := Lib.hid hpl; clear hpl
  have HX := Lib.hid hx; clear hx
  have HY := Lib.hid hy; clear hy
  go_enter Tryz.func61, Tryz.ntmps61
  go_wp2

  obtain ⟨W3, hW3⟩ : ∃ W3, W3 = ((w.alloc (.cells #[.bool m, .slice px kx cx] 95)).alloc (.cells #[.bool m, .slice py ky cy] 95)).alloc (.cells #[.bool false, .slice none 0 0] 95) := ⟨_, rfl⟩
  have hB3 : Below w.heap.size w W3 := by rw [hW3]; exact (((Below.refl _ w).alloc (Nat.le_refl _) _).alloc (by simp) _).alloc (by simp; omega) _
  have b2 : W3.heap[w.heap.size]? = some (.cells #[.bool m, .slice px kx cx] 95 (0, 0)) := by
    rw [hW3]; exact (Below.heap_alloc _ _ _ (by simp only [World.size_alloc]; omega)).trans ((Below.heap_alloc _ _ _ (by simp only [World.size_alloc]; omega)).trans (World.alloc_heap_new w _))
  have b3 : W3.heap[w.heap.size + 1]? = some (.cells #[.bool m, .slice py ky cy] 95 (0, 0)) := by
    rw [hW3]; refine (Below.heap_alloc _ _ _ (by simp only [World.size_alloc]; omega)).trans ?_
    have := World.alloc_heap_new (w.alloc (.cells #[.bool m, .slice px kx cx] 95)) (.cells #[.bool m, .slice py ky cy] 95)
    rwa [World.size_alloc] at this
  have b4 : W3.heap[w.heap.size + 1 + 1]? = some (.cells #[.bool false, .slice none 0 0] 95 (0, 0)) := by
    rw [hW3]
    have := World.alloc_heap_new ((w.alloc (.cells #[.bool m, .slice px kx cx] 95)).alloc (.cells #[.bool m, .slice py ky cy] 95)) (.cells #[.bool false, .slice none 0 0] 95)
    rwa [World.size_alloc, World.size_alloc] at this
  rw [← hW3]
  clear hW3
  have c20 : ∀ W : World, W.heap[w.heap.size]? = W3.heap[w.heap.size]? → W.cell? ⟨w.heap.size, 0, none⟩ = some (.bool m) := fun W h => by simp [World.cell?, h, b2]
  have c21 : ∀ W : World, W.heap[w.heap.size]? = W3.heap[w.heap.size]? → W.cell? ⟨w.heap.size, 1, none⟩ = some (.slice px kx cx) := fun W h => by simp [World.cell?, h, b2]
  have c30 : ∀ W : World, W.heap[w.heap.size + 1]? = W3.heap[w.heap.size + 1]? → W.cell? ⟨w.heap.size + 1, 0, none⟩ = some (.bool m) := fun W h => by simp [World.cell?, h, b3]
  have c31 : ∀ W : World, W.heap[w.heap.size + 1]? = W3.heap[w.heap.size + 1]? → W.cell? ⟨w.heap.size + 1, 1, none⟩ = some (.slice py ky cy) := fun W h => by simp [World.cell?, h, b3]
  have C20 := Lib.hid c20; have C21 := Lib.hid c21; have C30 := Lib.hid c30; have C31 := Lib.hid c31
  clear c20 c21 c30 c31
  have L3 : w.heap.size + 1 + 1 < W3.heap.size := (Array.getElem?_eq_some_iff.1 b4).1
  have B4 := Lib.hid b4; clear b2 b3 b4
  refine wp_region_held 6 (fun W => W.cell? ⟨w.heap.size, 0, none⟩ = some (.bool m) ∧ W.cell? ⟨w.heap.size, 1, none⟩ = some (.slice px kx cx) ∧ W.cell? ⟨w.heap.size + 1, 0, none⟩ = some (.bool m) ∧ W.cell? ⟨w.heap.size + 1, 1, none⟩ = some (.slice py ky cy))
    (by kernel_rfl) (by kernel_rfl) ⟨C20.out _ rfl, C21.out _ rfl, C30.out _ rfl, C31.out _ rfl⟩ ?_
  simp only [List.take_succ_cons, List.take_zero, List.drop_succ_cons, List.drop_zero]
  repeat (apply wpHeldL_step (by rfl); (focus (rintro W ⟨h1, h2, h3, h4⟩; go_simp; try with_reducible rfl)); try simp only [Act.put, List.setIfInBounds_toArray, List.set_cons_zero, List.set_cons_succ])
  refine wpHeldL_nil ?_
  refine wpTailS_step (by rfl) fun K hK => ?_
  go_simp
  refine (HPL.out W3.drew (HX.out.below (hB3.drew)) (HY.out.below hB3.drew)).mono ?_
  rintro e W4 ⟨p, c, k, rfl, hs, hB4⟩
  have e2 : W4.heap[w.heap.size]? = W3.heap[w.heap.size]? := hB4.block _ (by show _ < W3.heap.size; omega)
  have e3 : W4.heap[w.heap.size + 1]? = W3.heap[w.heap.size + 1]? := hB4.block _ (by show _ < W3.heap.size; omega)
  have b4 : W4.heap[w.heap.size + 1 + 1]? = some (.cells #[.bool false, .slice none 0 0] 95 (0, 0)) := (hB4.block _ (by show _ < W3.heap.size; omega)).trans B4.out
  have hB5 : Below w.heap.size w W4 := hB3.drew.trans (hB4.mono (by show _ ≤ W3.heap.size; omega))
  have hS := And.intro (C20.out W4 e2) (And.intro (C21.out W4 e2) (And.intro (C30.out W4 e3) (C31.out W4 e3)))
  have E2 := Lib.hid e2; have E3 := Lib.hid e3; clear e2 e3 hB4
  have HS := Lib.hid hs; clear hs
  refine hK _ _ hS ?_
  clear hK K
  try simp only [Act.put, List.setIfInBounds_toArray, List.set_cons_zero, List.set_cons_succ]
  refine wpTailS_step (by rfl) fun K hK => ?_
  go_simp
  refine hK _ _ hS ?_
  clear hK K
  try simp only [Act.put, List.setIfInBounds_toArray, List.set_cons_zero, List.set_cons_succ]
  have d0 : W4.cell? ⟨w.heap.size + 1 + 1, 0, none⟩ = some (.bool false) := by simp [World.cell?, b4]
  have d1 : W4.cell? ⟨w.heap.size + 1 + 1, 1, none⟩ = some (.slice none 0 0) := by simp [World.cell?, b4]
  have f0 : W4.frozen? ⟨w.heap.size + 1 + 1, 0, none⟩ = false := by simp [World.frozen?, b4]
  have f1 : W4.frozen? ⟨w.heap.size + 1 + 1, 1, none⟩ = false := by simp [World.frozen?, b4]
  refine wpTailS_step (by rfl) fun K hK => ?_
  go_simp
  have g2 : ((W4.setCell ⟨w.heap.size + 1 + 1, 0, none⟩ (.bool m)).setCell ⟨w.heap.size + 1 + 1, 1, none⟩ (.slice p k c)).heap[w.heap.size]? = W3.heap[w.heap.size]? :=
    (Below.heap_setCell _ _ _ _ (by show w.heap.size ≠ w.heap.size + 1 + 1; omega)).trans ((Below.heap_setCell _ _ _ _ (by show w.heap.size ≠ w.heap.size + 1 + 1; omega)).trans E2.out)
  have g3 : ((W4.setCell ⟨w.heap.size + 1 + 1, 0, none⟩ (.bool m)).setCell ⟨w.heap.size + 1 + 1, 1, none⟩ (.slice p k c)).heap[w.heap.size + 1]? = W3.heap[w.heap.size + 1]? :=
    (Below.heap_setCell _ _ _ _ (by show w.heap.size + 1 ≠ w.heap.size + 1 + 1; omega)).trans ((Below.heap_setCell _ _ _ _ (by show w.heap.size + 1 ≠ w.heap.size + 1 + 1; omega)).trans E3.out)
  refine hK _ _ ⟨C20.out _ g2, C21.out _ g2, C30.out _ g3, C31.out _ g3⟩ ?_
  clear hK K g2 g3
  try simp only [Act.put, List.setIfInBounds_toArray, List.set_cons_zero, List.set_cons_succ]
  refine wpTailS_nil ⟨rfl, ?_⟩
  have hs0 := HS.out.set d0 (fun x => by simp [I]) (.bool m)
  have e1 := (World.cell?_setCell_other _ _ _ (.bool m) (show (⟨w.heap.size + 1 + 1, 0, none⟩ : Addr) ≠ ⟨w.heap.size + 1 + 1, 1, none⟩ by simp)).trans d1
  have hs1 := hs0.set e1 (fun x => by simp [I]) (.slice p k c)
  have e0 := (World.cell?_setCell_other _ _ _ (.slice p k c) (show (⟨w.heap.size + 1 + 1, 1, none⟩ : Addr) ≠ ⟨w.heap.size + 1 + 1, 0, none⟩ by simp)).trans (cell_eq (u := .bool m) d0)
  have e2 := cell_eq (u := .slice p k c) e1
  have hB6 := (hB5.setCell (p := ⟨w.heap.size + 1 + 1, 0, none⟩) (by show w.heap.size ≤ w.heap.size + 1 + 1; omega) (.bool m)).setCell (p := ⟨w.heap.size + 1 + 1, 1, none⟩) (by show w.heap.size ≤ w.heap.size + 1 + 1; omega) (.slice p k c)
  clear hs0 e1 d0 d1 f0 f1 b4 hS hB5
  have HS1 := Lib.hid hs1; clear hs1
  go_wp2
  exact bodyPost_ret (v := .agg #[.bool m, .slice p k c]) (by simp [results, Tryz.results61, go_sem, e0, e2]) rfl ⟨m, _, _, rfl, by cases m <;> simp [sgn] <;> omega, HS1.out, hB6⟩

set_option maxRecDepth 100000 in
set_option maxHeartbeats 1000000 in
theorem add_big (m : Bool) (vx vy : Value) (nx ny : Nat) (w : World) (hx : Sl w vx ((limbs B9 nx).map I)) (hy : Sl w vy ((limbs B9 ny).map I)) (lx : (limbs B9 nx).length ≤ 1000) (ly : (limbs B9 ny).length ≤ 1000) (hle : ny ≤ nx) :
    Calls Tryz.prog 61 #[.agg #[.bool m, vx], .agg #[.bool !m, vy]] w (NumRes w (sgn m nx + sgn (!m) ny)) := by
  obtain ⟨px, cx, rfl, -⟩ := id hx
  obtain ⟨py, cy, rfl, -⟩ := id hy
  simp only [List.length_map] at *
  have hcm := fun W h1 h2 => cmp_any (.slice px (limbs B9 nx).length cx) (.slice py (limbs B9 ny).length cy) nx ny W h1 h2 lx ly
  have hmm : (m == !m) = false := by cases m <;> rfl
  have hpl := fun W h1 h2 => minus_sl (.slice px (limbs B9 nx).length cx) (.slice py (limbs B9 ny).length cy) nx ny W h1 h2 lx ly hle
  generalize (limbs B9 nx).length = kx at *
  generalize (limbs B9 ny).length = ky at *
  have HPL := Lib.hid hpl; clear hpl
  have HC := Lib.hid hcm; clear hcm
  have HLE := Lib.hid hle; clear hle
  have HX := Lib.hid hx; clear hx
  have HY := Lib.hid hy; clear hy
  go_enter Tryz.func61, Tryz.ntmps61
  go_wp2_with fail

  obtain ⟨W3, hW3⟩ : ∃ W3, W3 = ((w.alloc (.cells #[.bool m, .slice px kx cx] 95)).alloc (.cells #[.bool !m, .slice py ky cy] 95)).alloc (.cells #[.bool false, .slice none 0 0] 95) := ⟨_, rfl⟩
  have hB3 : Below w.heap.size w W3 := by rw [hW3]; exact (((Below.refl _ w).alloc (Nat.le_refl _) _).alloc (by simp) _).alloc (by simp; omega) _
  have b2 : W3.heap[w.heap.size]? = some (.cells #[.bool m, .slice px kx cx] 95 (0, 0)) := by
    rw [hW3]; exact (Below.heap_alloc _ _ _ (by simp only [World.size_alloc]; omega)).trans ((Below.heap_alloc _ _ _ (by simp only [World.size_alloc]; omega)).trans (World.alloc_heap_new w _))
  have b3 : W3.heap[w.heap.size + 1]? = some (.cells #[.bool !m, .slice py ky cy] 95 (0, 0)) := by
    rw [hW3]; refine (Below.heap_alloc _ _ _ (by simp only [World.size_alloc]; omega)).trans ?_
    have := World.alloc_heap_new (w.alloc (.cells #[.bool m, .slice px kx cx] 95)) (.cells #[.bool !m, .slice py ky cy] 95)
    rwa [World.size_alloc] at this
  have b4 : W3.heap[w.heap.size + 1 + 1]? = some (.cells #[.bool false, .slice none 0 0] 95 (0, 0)) := by
    rw [hW3]
    have := World.alloc_heap_new ((w.alloc (.cells #[.bool m, .slice px kx cx] 95)).alloc (.cells #[.bool !m, .slice py ky cy] 95)) (.cells #[.bool false, .slice none 0 0] 95)
    rwa [World.size_alloc, World.size_alloc] at this
  rw [← hW3]
  clear hW3
  refine (HC.out W3 (HX.out.below hB3) (HY.out.below hB3)).mono ?_
  rintro e W5 ⟨cc, rfl, ⟨hc1, hc2⟩, hBc⟩
  have hge : 0 ≤ cc := by have := HLE.out; omega
  clear hc1 hc2
  replace b2 := (hBc.block _ (Array.getElem?_eq_some_iff.1 b2).1).trans b2
  replace b3 := (hBc.block _ (Array.getElem?_eq_some_iff.1 b3).1).trans b3
  replace b4 := (hBc.block _ (Array.getElem?_eq_some_iff.1 b4).1).trans b4
  replace hB3 : Below w.heap.size w W5 := hB3.trans (hBc.mono hB3.size)
  clear hBc
  clear W3
  obtain ⟨W3, rfl⟩ : ∃ W3, W3 = W5 := ⟨_, rfl⟩
  go_wp2
  have c20 : ∀ W : World, W.heap[w.heap.size]? = W3.heap[w.heap.size]? → W.cell? ⟨w.heap.size, 0, none⟩ = some (.bool m) := fun W h => by simp [World.cell?, h, b2]
  have c21 : ∀ W : World, W.heap[w.heap.size]? = W3.heap[w.heap.size]? → W.cell? ⟨w.heap.size, 1, none⟩ = some (.slice px kx cx) := fun W h => by simp [World.cell?, h, b2]
  have c30 : ∀ W : World, W.heap[w.heap.size + 1]? = W3.heap[w.heap.size + 1]? → W.cell? ⟨w.heap.size + 1, 0, none⟩ = some (.bool !m) := fun W h => by simp [World.cell?, h, b3]
  have c31 : ∀ W : World, W.heap[w.heap.size + 1]? = W3.heap[w.heap.size + 1]? → W.cell? ⟨w.heap.size + 1, 1, none⟩ = some (.slice py ky cy) := fun W h => by simp [World.cell?, h, b3]
  have C20 := Lib.hid c20; have C21 := Lib.hid c21; have C30 := Lib.hid c30; have C31 := Lib.hid c31
  clear c20 c21 c30 c31
  have L3 : w.heap.size + 1 + 1 < W3.heap.size := (Array.getElem?_eq_some_iff.1 b4).1
  have B4 := Lib.hid b4; clear b2 b3 b4
  refine wp_region_held 6 (fun W => W.cell? ⟨w.heap.size, 0, none⟩ = some (.bool m) ∧ W.cell? ⟨w.heap.size, 1, none⟩ = some (.slice px kx cx) ∧ W.cell? ⟨w.heap.size + 1, 0, none⟩ = some (.bool !m) ∧ W.cell? ⟨w.heap.size + 1, 1, none⟩ = some (.slice py ky cy))
    (by kernel_rfl) (by kernel_rfl) ⟨C20.out _ rfl, C21.out _ rfl, C30.out _ rfl, C31.out _ rfl⟩ ?_
  simp only [List.take_succ_cons, List.take_zero, List.drop_succ_cons, List.drop_zero]
  repeat (apply wpHeldL_step (by rfl); (focus (rintro W ⟨h1, h2, h3, h4⟩; go_simp; try with_reducible rfl)); try simp only [Act.put, List.setIfInBounds_toArray, List.set_cons_zero, List.set_cons_succ])
  refine wpHeldL_nil ?_
  refine wpTailS_step (by rfl) fun K hK => ?_
  go_simp
  refine (HPL.out W3.drew (HX.out.below (hB3.drew)) (HY.out.below hB3.drew)).mono ?_
  rintro e W4 ⟨p, c, k, rfl, hs, hB4⟩
  have e2 : W4.heap[w.heap.size]? = W3.heap[w.heap.size]? := hB4.block _ (by show _ < W3.heap.size; omega)
  have e3 : W4.heap[w.heap.size + 1]? = W3.heap[w.heap.size + 1]? := hB4.block _ (by show _ < W3.heap.size; omega)
  have b4 : W4.heap[w.heap.size + 1 + 1]? = some (.cells #[.bool false, .slice none 0 0] 95 (0, 0)) := (hB4.block _ (by show _ < W3.heap.size; omega)).trans B4.out
  have hB5 : Below w.heap.size w W4 := hB3.drew.trans (hB4.mono (by show _ ≤ W3.heap.size; omega))
  have hS := And.intro (C20.out W4 e2) (And.intro (C21.out W4 e2) (And.intro (C30.out W4 e3) (C31.out W4 e3)))
  have E2 := Lib.hid e2; have E3 := Lib.hid e3; clear e2 e3 hB4
  have HS := Lib.hid hs; clear hs
  refine hK _ _ hS ?_
  clear hK K
  try simp only [Act.put, List.setIfInBounds_toArray, List.set_cons_zero, List.set_cons_succ]
  refine wpTailS_step (by rfl) fun K hK => ?_
  go_simp
  refine hK _ _ hS ?_
  clear hK K
  try simp only [Act.put, List.setIfInBounds_toArray, List.set_cons_zero, List.set_cons_succ]
  have d0 : W4.cell? ⟨w.heap.size + 1 + 1, 0, none⟩ = some (.bool false) := by simp [World.cell?, b4]
  have d1 : W4.cell? ⟨w.heap.size + 1 + 1, 1, none⟩ = some (.slice none 0 0) := by simp [World.cell?, b4]
  have f0 : W4.frozen? ⟨w.heap.size + 1 + 1, 0, none⟩ = false := by simp [World.frozen?, b4]
  have f1 : W4.frozen? ⟨w.heap.size + 1 + 1, 1, none⟩ = false := by simp [World.frozen?, b4]
  refine wpTailS_step (by rfl) fun K hK => ?_
  go_simp
  have g2 : ((W4.setCell ⟨w.heap.size + 1 + 1, 0, none⟩ (.bool m)).setCell ⟨w.heap.size + 1 + 1, 1, none⟩ (.slice p k c)).heap[w.heap.size]? = W3.heap[w.heap.size]? :=
    (Below.heap_setCell _ _ _ _ (by show w.heap.size ≠ w.heap.size + 1 + 1; omega)).trans ((Below.heap_setCell _ _ _ _ (by show w.heap.size ≠ w.heap.size + 1 + 1; omega)).trans E2.out)
  have g3 : ((W4.setCell ⟨w.heap.size + 1 + 1, 0, none⟩ (.bool m)).setCell ⟨w.heap.size + 1 + 1, 1, none⟩ (.slice p k c)).heap[w.heap.size + 1]? = W3.heap[w.heap.size + 1]? :=
    (Below.heap_setCell _ _ _ _ (by show w.heap.size + 1 ≠ w.heap.size + 1 + 1; omega)).trans ((Below.heap_setCell _ _ _ _ (by show w.heap.size + 1 ≠ w.heap.size + 1 + 1; omega)).trans E3.out)
  refine hK _ _ ⟨C20.out _ g2, C21.out _ g2, C30.out _ g3, C31.out _ g3⟩ ?_
  clear hK K g2 g3
  try simp only [Act.put, List.setIfInBounds_toArray, List.set_cons_zero, List.set_cons_succ]
  refine wpTailS_nil ⟨rfl, ?_⟩
  have hs0 := HS.out.set d0 (fun x => by simp [I]) (.bool m)
  have e1 := (World.cell?_setCell_other _ _ _ (.bool m) (show (⟨w.heap.size + 1 + 1, 0, none⟩ : Addr) ≠ ⟨w.heap.size + 1 + 1, 1, none⟩ by simp)).trans d1
  have hs1 := hs0.set e1 (fun x => by simp [I]) (.slice p k c)
  have e0 := (World.cell?_setCell_other _ _ _ (.slice p k c) (show (⟨w.heap.size + 1 + 1, 1, none⟩ : Addr) ≠ ⟨w.heap.size + 1 + 1, 0, none⟩ by simp)).trans (cell_eq (u := .bool m) d0)
  have e2 := cell_eq (u := .slice p k c) e1
  have hB6 := (hB5.setCell (p := ⟨w.heap.size + 1 + 1, 0, none⟩) (by show w.heap.size ≤ w.heap.size + 1 + 1; omega) (.bool m)).setCell (p := ⟨w.heap.size + 1 + 1, 1, none⟩) (by show w.heap.size ≤ w.heap.size + 1 + 1; omega) (.slice p k c)
  clear hs0 e1 d0 d1 f0 f1 b4 hS hB5
  have HS1 := Lib.hid hs1; clear hs1
  go_wp2
  exact bodyPost_ret (v := .agg #[.bool m, .slice p k c]) (by simp [results, Tryz.results61, go_sem, e0, e2]) rfl ⟨m, _, _, rfl, by have := HLE.out; cases m <;> simp [sgn] <;> omega, HS1.out, hB6⟩

set_option maxRecDepth 100000 in
set_option maxHeartbeats 1000000 in
theorem add_less (m : Bool) (vx vy : Value) (nx ny : Nat) (w : World) (hx : Sl w vx ((limbs B9 nx).map I)) (hy : Sl w vy ((limbs B9 ny).map I)) (lx : (limbs B9 nx).length ≤ 1000) (ly : (limbs B9 ny).length ≤ 1000) (hle : nx < ny) :
    Calls Tryz.prog 61 #[.agg #[.bool m, vx], .agg #[.bool !m, vy]] w (NumRes w (sgn m nx + sgn (!m) ny)) := by
  obtain ⟨px, cx, rfl, -⟩ := id hx
  obtain ⟨py, cy, rfl, -⟩ := id hy
  simp only [List.length_map] at *
  have hcm := fun W h1 h2 => cmp_any (.slice px (limbs B9 nx).length cx) (.slice py (limbs B9 ny).length cy) nx ny W h1 h2 lx ly
  have hmm : (m == !m) = false := by cases m <;> rfl
  have hpl := fun W h1 h2 => minus_sl (.slice py (limbs B9 ny).length cy) (.slice px (limbs B9 nx).length cx) ny nx W h1 h2 ly lx (by omega)
  generalize (limbs B9 nx).length = kx at *
  generalize (limbs B9 ny).length = ky at *
  have HPL := Lib.hid hpl; clear hpl
  have HC := Lib.hid hcm; clear hcm
  have HLE := Lib.hid hle; clear hle
  have HX := Lib.hid hx; clear hx
  have HY := Lib.hid hy; clear hy
  go_enter Tryz.func61, Tryz.ntmps61
  go_wp2_with fail

  obtain ⟨W3, hW3⟩ : ∃ W3, W3 = ((w.alloc (.cells #[.bool m, .slice px kx cx] 95)).alloc (.cells #[.bool !m, .slice py ky cy] 95)).alloc (.cells #[.bool false, .slice none 0 0] 95) := ⟨_, rfl⟩
  have hB3 : Below w.heap.size w W3 := by rw [hW3]; exact (((Below.refl _ w).alloc (Nat.le_refl _) _).alloc (by simp) _).alloc (by simp; omega) _
  have b2 : W3.heap[w.heap.size]? = some (.cells #[.bool m, .slice px kx cx] 95 (0, 0)) := by
    rw [hW3]; exact (Below.heap_alloc _ _ _ (by simp only [World.size_alloc]; omega)).trans ((Below.heap_alloc _ _ _ (by simp only [World.size_alloc]; omega)).trans (World.alloc_heap_new w _))
  have b3 : W3.heap[w.heap.size + 1]? = some (.cells #[.bool !m, .slice py ky cy] 95 (0, 0)) := by
    rw [hW3]; refine (Below.heap_alloc _ _ _ (by simp only [World.size_alloc]; omega)).trans ?_
    have := World.alloc_heap_new (w.alloc (.cells #[.bool m, .slice px kx cx] 95)) (.cells #[.bool !m, .slice py ky cy] 95)
    rwa [World.size_alloc] at this
  have b4 : W3.heap[w.heap.size + 1 + 1]? = some (.cells #[.bool false, .slice none 0 0] 95 (0, 0)) := by
    rw [hW3]
    have := World.alloc_heap_new ((w.alloc (.cells #[.bool m, .slice px kx cx] 95)).alloc (.cells #[.bool !m, .slice py ky cy] 95)) (.cells #[.bool false, .slice none 0 0] 95)
    rwa [World.size_alloc, World.size_alloc] at this
  rw [← hW3]
  clear hW3
  refine (HC.out W3 (HX.out.below hB3) (HY.out.below hB3)).mono ?_
  rintro e W5 ⟨cc, rfl, ⟨hc1, hc2⟩, hBc⟩
  have hge : ¬ 0 ≤ cc := by have := HLE.out; omega
  clear hc1 hc2
  replace b2 := (hBc.block _ (Array.getElem?_eq_some_iff.1 b2).1).trans b2
  replace b3 := (hBc.block _ (Array.getElem?_eq_some_iff.1 b3).1).trans b3
  replace b4 := (hBc.block _ (Array.getElem?_eq_some_iff.1 b4).1).trans b4
  replace hB3 : Below w.heap.size w W5 := hB3.trans (hBc.mono hB3.size)
  clear hBc
  clear W3
  obtain ⟨W3, rfl⟩ : ∃ W3, W3 = W5 := ⟨_, rfl⟩
  go_wp2
  have c20 : ∀ W : World, W.heap[w.heap.size]? = W3.heap[w.heap.size]? → W.cell? ⟨w.heap.size, 0, none⟩ = some (.bool m) := fun W h => by simp [World.cell?, h, b2]
  have c21 : ∀ W : World, W.heap[w.heap.size]? = W3.heap[w.heap.size]? → W.cell? ⟨w.heap.size, 1, none⟩ = some (.slice px kx cx) := fun W h => by simp [World.cell?, h, b2]
  have c30 : ∀ W : World, W.heap[w.heap.size + 1]? = W3.heap[w.heap.size + 1]? → W.cell? ⟨w.heap.size + 1, 0, none⟩ = some (.bool !m) := fun W h => by simp [World.cell?, h, b3]
  have c31 : ∀ W : World, W.heap[w.heap.size + 1]? = W3.heap[w.heap.size + 1]? → W.cell? ⟨w.heap.size + 1, 1, none⟩ = some (.slice py ky cy) := fun W h => by simp [World.cell?, h, b3]
  have C20 := Lib.hid c20; have C21 := Lib.hid c21; have C30 := Lib.hid c30; have C31 := Lib.hid c31
  clear c20 c21 c30 c31
  have L3 : w.heap.size + 1 + 1 < W3.heap.size := (Array.getElem?_eq_some_iff.1 b4).1
  have B4 := Lib.hid b4; clear b2 b3 b4
  refine wp_region_held 6 (fun W => W.cell? ⟨w.heap.size, 0, none⟩ = some (.bool m) ∧ W.cell? ⟨w.heap.size, 1, none⟩ = some (.slice px kx cx) ∧ W.cell? ⟨w.heap.size + 1, 0, none⟩ = some (.bool !m) ∧ W.cell? ⟨w.heap.size + 1, 1, none⟩ = some (.slice py ky cy))
    (by kernel_rfl) (by kernel_rfl) ⟨C20.out _ rfl, C21.out _ rfl, C30.out _ rfl, C31.out _ rfl⟩ ?_
  simp only [List.take_succ_cons, List.take_zero, List.drop_succ_cons, List.drop_zero]
  repeat (apply wpHeldL_step (by rfl); (focus (rintro W ⟨h1, h2, h3, h4⟩; go_simp; try with_reducible rfl)); try simp only [Act.put, List.setIfInBounds_toArray, List.set_cons_zero, List.set_cons_succ])
  refine wpHeldL_nil ?_
  refine wpTailS_step (by rfl) fun K hK => ?_
  go_simp
  refine (HPL.out W3.drew (HY.out.below (hB3.drew)) (HX.out.below hB3.drew)).mono ?_
  rintro e W4 ⟨p, c, k, rfl, hs, hB4⟩
  have e2 : W4.heap[w.heap.size]? = W3.heap[w.heap.size]? := hB4.block _ (by show _ < W3.heap.size; omega)
  have e3 : W4.heap[w.heap.size + 1]? = W3.heap[w.heap.size + 1]? := hB4.block _ (by show _ < W3.heap.size; omega)
  have b4 : W4.heap[w.heap.size + 1 + 1]? = some (.cells #[.bool false, .slice none 0 0] 95 (0, 0)) := (hB4.block _ (by show _ < W3.heap.size; omega)).trans B4.out
  have hB5 : Below w.heap.size w W4 := hB3.drew.trans (hB4.mono (by show _ ≤ W3.heap.size; omega))
  have hS := And.intro (C20.out W4 e2) (And.intro (C21.out W4 e2) (And.intro (C30.out W4 e3) (C31.out W4 e3)))
  have E2 := Lib.hid e2; have E3 := Lib.hid e3; clear e2 e3 hB4
  have HS := Lib.hid hs; clear hs
  refine hK _ _ hS ?_
  clear hK K
  try simp only [Act.put, List.setIfInBounds_toArray, List.set_cons_zero, List.set_cons_succ]
  refine wpTailS_step (by rfl) fun K hK => ?_
  go_simp
  refine hK _ _ hS ?_
  clear hK K
  try simp only [Act.put, List.setIfInBounds_toArray, List.set_cons_zero, List.set_cons_succ]
  have d0 : W4.cell? ⟨w.heap.size + 1 + 1, 0, none⟩ = some (.bool false) := by simp [World.cell?, b4]
  have d1 : W4.cell? ⟨w.heap.size + 1 + 1, 1, none⟩ = some (.slice none 0 0) := by simp [World.cell?, b4]
  have f0 : W4.frozen? ⟨w.heap.size + 1 + 1, 0, none⟩ = false := by simp [World.frozen?, b4]
  have f1 : W4.frozen? ⟨w.heap.size + 1 + 1, 1, none⟩ = false := by simp [World.frozen?, b4]
  refine wpTailS_step (by rfl) fun K hK => ?_
  go_simp
  have g2 : ((W4.setCell ⟨w.heap.size + 1 + 1, 0, none⟩ (.bool !m)).setCell ⟨w.heap.size + 1 + 1, 1, none⟩ (.slice p k c)).heap[w.heap.size]? = W3.heap[w.heap.size]? :=
    (Below.heap_setCell _ _ _ _ (by show w.heap.size ≠ w.heap.size + 1 + 1; omega)).trans ((Below.heap_setCell _ _ _ _ (by show w.heap.size ≠ w.heap.size + 1 + 1; omega)).trans E2.out)
  have g3 : ((W4.setCell ⟨w.heap.size + 1 + 1, 0, none⟩ (.bool !m)).setCell ⟨w.heap.size + 1 + 1, 1, none⟩ (.slice p k c)).heap[w.heap.size + 1]? = W3.heap[w.heap.size + 1]? :=
    (Below.heap_setCell _ _ _ _ (by show w.heap.size + 1 ≠ w.heap.size + 1 + 1; omega)).trans ((Below.heap_setCell _ _ _ _ (by show w.heap.size + 1 ≠ w.heap.size + 1 + 1; omega)).trans E3.out)
  refine hK _ _ ⟨C20.out _ g2, C21.out _ g2, C30.out _ g3, C31.out _ g3⟩ ?_
  clear hK K g2 g3
  try simp only [Act.put, List.setIfInBounds_toArray, List.set_cons_zero, List.set_cons_succ]
  refine wpTailS_nil ⟨rfl, ?_⟩
  have hs0 := HS.out.set d0 (fun x => by simp [I]) (.bool !m)
  have e1 := (World.cell?_setCell_other _ _ _ (.bool !m) (show (⟨w.heap.size + 1 + 1, 0, none⟩ : Addr) ≠ ⟨w.heap.size + 1 + 1, 1, none⟩ by simp)).trans d1
  have hs1 := hs0.set e1 (fun x => by simp [I]) (.slice p k c)
  have e0 := (World.cell?_setCell_other _ _ _ (.slice p k c) (show (⟨w.heap.size + 1 + 1, 1, none⟩ : Addr) ≠ ⟨w.heap.size + 1 + 1, 0, none⟩ by simp)).trans (cell_eq (u := .bool !m) d0)
  have e2 := cell_eq (u := .slice p k c) e1
  have hB6 := (hB5.setCell (p := ⟨w.heap.size + 1 + 1, 0, none⟩) (by show w.heap.size ≤ w.heap.size + 1 + 1; omega) (.bool !m)).setCell (p := ⟨w.heap.size + 1 + 1, 1, none⟩) (by show w.heap.size ≤ w.heap.size + 1 + 1; omega) (.slice p k c)
  clear hs0 e1 d0 d1 f0 f1 b4 hS hB5
  have HS1 := Lib.hid hs1; clear hs1
  go_wp2
  exact bodyPost_ret (v := .agg #[.bool !m, .slice p k c]) (by simp [results, Tryz.results61, go_sem, e0, e2]) rfl ⟨!m, _, _, rfl, by have := HLE.out; cases m <;> simp [sgn] <;> omega, HS1.out, hB6⟩

/-- integer.add. -/
theorem add_any (m m' : Bool) (vx vy : Value) (nx ny : Nat) (w : World) (hx : Sl w vx ((limbs B9 nx).map I)) (hy : Sl w vy ((limbs B9 ny).map I)) (lx : (limbs B9 nx).length ≤ 1000) (ly : (limbs B9 ny).length ≤ 1000) :
    Calls Tryz.prog 61 #[.agg #[.bool m, vx], .agg #[.bool m', vy]] w (NumRes w (sgn m nx + sgn m' ny)) := by
  by_cases h : m' = m
  · subst h; exact add_same _ vx vy nx ny w hx hy lx ly
  · obtain rfl : m' = !m := by cases m <;> cases m' <;> simp at *
    rcases Nat.lt_or_ge nx ny with h | h
    · exact add_less m vx vy nx ny w hx hy lx ly h
    · exact add_big m vx vy nx ny w hx hy lx ly h
end Go.Proofs.YtapfekcbbhhieaaGreatDoor

namespace Go.Proofs.YtapfekcbbhhieaaGreatDoor
open Go.RowKit Go.Shelf Lib Str Limb
attribute [local go_sem] Oper.semAt_some

theorem lt18 {x : Int} (h : (itoa x).length ≤ 18) : -1000000000000000000 < x ∧ x < 1000000000000000000 := by
  have h1 := itoa_len_lo x
  have h2 := (digs_le_iff x 18 (by omega)).1 (by omega)
  have e : (10 : Nat) ^ 18 = 1000000000000000000 := rfl
  rw [e] at h2
  omega
theorem digs_small {z : Int} (h : -10000000000000000000 < z ∧ z < 10000000000000000000) : digs z ≤ 19 := by
  rw [digs_le_iff _ _ (by omega)]
  have e : (10 : Nat) ^ 19 = 10000000000000000000 := rfl
  rw [e]; omega

set_option maxHeartbeats 400000 in
theorem Add_small (x y : Int) (hx : (itoa x).length ≤ 18) (hy : (itoa y).length ≤ 18) (w : World) (hw : Wd w) :
    Calls Tryz.prog 30 #[St (itoa x), St (itoa y)] w fun e w' => e = .returned (.tuple #[St (resL (x + y)), .int .i64 (resE (x + y))]) ∧ Below w.heap.size w w' := by
  obtain ⟨x1, x2⟩ := lt18 hx
  obtain ⟨y1, y2⟩ := lt18 hy
  have h0 : digs (x + y) ≤ 300 := Nat.le_trans (digs_small (by omega)) (by omega)
  rw [resL_ok h0, resE_ok h0]
  have hb := fun W => intBoth x y (Nat.le_trans (digs_small (by omega)) (by omega)) (Nat.le_trans (digs_small (by omega)) (by omega)) W
  have hs := fun W => intSmall_yes x y hx hy W
  have HB := Lib.hid hb; clear hb
  have HS := Lib.hid hs; clear hs hx hy h0
  have HW := Lib.hid hw; clear hw
  go_enter Tryz.func30, Tryz.ntmps30
  go_wp2_with fail
  refine (HB.out w).mono ?_
  rintro e w1 ⟨rfl, hB1⟩
  go_wp2_with fail
  refine (HS.out w1).mono ?_
  rintro e w2 ⟨rfl, hb2⟩
  have hB2 := hB1.trans (hb2.mono hB1.size)
  clear hb2 hB1
  go_wp2_with fail
  refine (itoa_b (x + y) (by omega) (by omega) w2 (HW.out.below hB2)).mono ?_
  rintro e w3 ⟨rfl, hb3⟩
  have hB3 := hB2.trans (hb3.mono hB2.size)
  clear hb3 hB2
  go_wp2_with fail
  go_ret2
  exact ⟨rfl, hB3⟩

set_option maxHeartbeats 400000 in
theorem Add_big (x y : Int) (hx : digs x ≤ 300) (hy : digs y ≤ 300) (h : 18 < (itoa x).length ∨ 18 < (itoa y).length) (w : World) (hw : Wd w) :
    Calls Tryz.prog 30 #[St (itoa x), St (itoa y)] w fun e w' => e = .returned (.tuple #[St (resL (x + y)), .int .i64 (resE (x + y))]) ∧ Below w.heap.size w w' := by
  have hb := fun W => intBoth x y hx hy W
  have hs := fun W => intSmall_no x y h W
  have r1 := fun W => read_any x W (by omega)
  have r2 := fun W => read_any y W (by omega)
  have l1 := abs_limbs (z := x) (k := 100) (by omega) (by omega)
  have l2 := abs_limbs (z := y) (k := 100) (by omega) (by omega)
  have l3 := abs_limbs (z := x + y) (k := 100) (by omega) (Nat.le_trans (digs_add (by omega) hx hy) (by omega))
  have HB := Lib.hid hb; clear hb
  have HS := Lib.hid hs; clear hs hx hy h
  have HW := Lib.hid hw; clear hw
  have R1 := Lib.hid r1; have R2 := Lib.hid r2; clear r1 r2
  go_enter Tryz.func30, Tryz.ntmps30
  go_wp2_with fail
  refine (HB.out w).mono ?_
  rintro e w1 ⟨rfl, hB1⟩
  go_wp2_with fail
  refine (HS.out w1).mono ?_
  rintro e w2 ⟨rfl, rfl⟩
  go_wp2_with fail
  refine (R1.out w1).mono ?_
  rintro e w2 ⟨vx, rfl, hvx, hb2⟩
  have hB2 := hB1.trans (hb2.mono hB1.size)
  clear hb2 hB1
  have HVX := Lib.hid hvx; clear hvx
  go_wp2_with fail
  refine (R2.out w2).mono ?_
  rintro e w3 ⟨vy, rfl, hvy, hb3⟩
  have hvx := HVX.out.below hb3
  have hB3 := hB2.trans (hb3.mono hB2.size)
  clear hb3 hB2
  have HVX2 := Lib.hid hvx; have HVY := Lib.hid hvy; clear hvx hvy HVX
  go_wp2_with fail
  refine (add_any _ _ vx vy _ _ w3 HVX2.out HVY.out (by omega) (by omega)).mono ?_
  rintro e w4 ⟨m, v, n, rfl, hz, hv, hb4⟩
  rw [sgn_self, sgn_self] at hz
  have hn : n = (x + y).natAbs := by rw [← hz, sgn_abs]
  have hB4 := hB3.trans (hb4.mono hB3.size)
  clear hb4 hB3
  have HZ := Lib.hid hz; clear hz
  have HV := Lib.hid hv; clear hv
  have hnl : (limbs B9 n).length ≤ 1000 := by rw [hn]; omega
  clear hn
  go_wp2_with fail
  refine (result_any m v n w4 (HW.out.below hB4) HV.out hnl).mono ?_
  rw [HZ.out]
  rintro e w5 ⟨rfl, hb5⟩
  have hB5 := hB4.trans (hb5.mono hB4.size)
  clear hb5 hB4
  go_wp2_with fail
  go_ret2
  exact ⟨rfl, hB5⟩
/-- integer.Add. -/
theorem Add_any (x y : Int) (hx : digs x ≤ 300) (hy : digs y ≤ 300) (w : World) (hw : Wd w) :
    Calls Tryz.prog 30 #[St (itoa x), St (itoa y)] w fun e w' => e = .returned (.tuple #[St (resL (x + y)), .int .i64 (resE (x + y))]) ∧ Below w.heap.size w w' := by
  by_cases h : (itoa x).length ≤ 18 ∧ (itoa y).length ≤ 18
  · exact Add_small x y h.1 h.2 w hw
  · exact Add_big x y hx hy (by omega) w hw

theorem blk_set {W : World} {b o : Nat} {cs : Array Value} {t : TypeId} (h : W.heap[b]? = some (.cells cs t (0, 0))) (u : Value) : (W.setCell ⟨b, o, none⟩ u).heap[b]? = some (.cells (cs.setIfInBounds o u) t (0, 0)) := by
  simp [World.setCell, Array.getElem?_modify, h]
theorem sl_open {w : World} {v : Value} {l : List Nat} (h : Sl w v (l.map I)) : ∃ p k c, v = .slice p k c ∧ k = l.length := by
  obtain ⟨p, c, rfl, -⟩ := h
  exact ⟨p, _, c, rfl, by simp⟩

set_option maxHeartbeats 400000 in
theorem Sub_small (x y : Int) (hx : (itoa x).length ≤ 18) (hy : (itoa y).length ≤ 18) (w : World) (hw : Wd w) :
    Calls Tryz.prog 25 #[St (itoa x), St (itoa y)] w fun e w' => e = .returned (.tuple #[St (resL (x - y)), .int .i64 (resE (x - y))]) ∧ Below w.heap.size w w' := by
  obtain ⟨x1, x2⟩ := lt18 hx
  obtain ⟨y1, y2⟩ := lt18 hy
  have h0 : digs (x - y) ≤ 300 := Nat.le_trans (digs_small (by omega)) (by omega)
  rw [resL_ok h0, resE_ok h0]
  have hb := fun W => intBoth x y (Nat.le_trans (digs_small (by omega)) (by omega)) (Nat.le_trans (digs_small (by omega)) (by omega)) W
  have hs := fun W => intSmall_yes x y hx hy W
  have HB := Lib.hid hb; clear hb
  have HS := Lib.hid hs; clear hs hx hy h0
  have HW := Lib.hid hw; clear hw
  go_enter Tryz.func25, Tryz.ntmps25
  go_wp2_with fail
  refine (HB.out w).mono ?_
  rintro e w1 ⟨rfl, hB1⟩
  go_wp2_with fail
  refine (HS.out w1).mono ?_
  rintro e w2 ⟨rfl, hb2⟩
  have hB2 := hB1.trans (hb2.mono hB1.size)
  clear hb2 hB1
  go_wp2_with fail
  refine (itoa_b (x - y) (by omega) (by omega) w2 (HW.out.below hB2)).mono ?_
  rintro e w3 ⟨rfl, hb3⟩
  have hB3 := hB2.trans (hb3.mono hB2.size)
  clear hb3 hB2
  go_wp2_with fail
  go_ret2
  exact ⟨rfl, hB3⟩

set_option maxRecDepth 100000 in
set_option maxHeartbeats 1000000 in
theorem Sub_big (x y : Int) (hx : digs x ≤ 300) (hy : digs y ≤ 300) (h : 18 < (itoa x).length ∨ 18 < (itoa y).length) (w : World) (hw : Wd w) :
    Calls Tryz.prog 25 #[St (itoa x), St (itoa y)] w fun e w' => e = .returned (.tuple #[St (resL (x - y)), .int .i64 (resE (x - y))]) ∧ Below w.heap.size w w' := by
  have hb := fun W => intBoth x y hx hy W
  have hs := fun W => intSmall_no x y h W
  have r1 := fun W => read_any x W (by omega)
  have r2 := fun W => read_any y W (by omega)
  have l1 := abs_limbs (z := x) (k := 100) (by omega) (by omega)
  have l2 := abs_limbs (z := y) (k := 100) (by omega) (by omega)
  have l3 := abs_limbs (z := x - y) (k := 100) (by omega) (Nat.le_trans (by rw [Int.sub_eq_add_neg]; exact digs_add (by omega) hx (by rw [digs_neg]; exact hy)) (by omega))
  have HB := Lib.hid hb; clear hb
  have HS := Lib.hid hs; clear hs hx hy h
  have HW := Lib.hid hw; clear hw
  have R1 := Lib.hid r1; have R2 := Lib.hid r2; clear r1 r2
  go_enter Tryz.func25, Tryz.ntmps25
  go_wp2_with fail
  refine (HB.out w).mono ?_
  rintro e w1 ⟨rfl, hB1⟩
  go_wp2_with fail
  refine (HS.out w1).mono ?_
  rintro e w2 ⟨rfl, rfl⟩
  go_wp2_with fail
  refine (R2.out w1).mono ?_
  rintro e w2 ⟨vy, rfl, hvy, hb2⟩
  have hB2 := hB1.trans (hb2.mono hB1.size)
  clear hb2 hB1
  obtain ⟨py, ky, cy, rfl, -⟩ := sl_open hvy
  have HVY := Lib.hid hvy; clear hvy
  have snot := sgn_not y
  generalize hby : decide (y < 0) = b at *
  have SN := Lib.hid snot; clear snot
  have HBY := Lib.hid hby; clear hby
  go_wp2
  have bk := World.alloc_heap_new w2 (.cells #[.bool !b, .slice py ky cy] 95)
  have hB3 := hB2.alloc hB2.size (.cells #[.bool !b, .slice py ky cy] 95)
  have hb3 : Below w2.heap.size w2 (w2.alloc (.cells #[.bool !b, .slice py ky cy] 95)) := (Below.refl _ _).alloc (Nat.le_refl _) _
  have HVY2 := Lib.hid (HVY.out.below hb3); clear HVY hb3
  generalize w2.alloc (.cells #[.bool !b, .slice py ky cy] 95) = W3 at *
  obtain ⟨z, hz⟩ : ∃ z, z = w2.heap.size := ⟨_, rfl⟩
  rw [← hz] at bk ⊢
  clear hz hB2 w2
  have ck : ∀ W : World, W.heap[z]? = W3.heap[z]? → W.cell? ⟨z, 0, none⟩ = some (.bool !b) ∧ W.cell? ⟨z, 1, none⟩ = some (.slice py ky cy) := fun W h => ⟨by simp [World.cell?, h, bk], by simp [World.cell?, h, bk]⟩
  have CK := Lib.hid ck; clear ck
  have lz : z < W3.heap.size := (Array.getElem?_eq_some_iff.1 bk).1
  clear bk
  refine wp_mix [(0, true), (2, true), (1, false), (3, false), (4, false), (5, true), (6, true), (7, true), (8, true)] (fun W => W.cell? ⟨z, 0, none⟩ = some (.bool !b) ∧ W.cell? ⟨z, 1, none⟩ = some (.slice py ky cy)) (by kernel_rfl) (by kernel_rfl) (CK.out _ rfl) ?_
  (apply MQ.take (by simp only [List.getElem?_toArray, List.getElem?_cons_succ, List.getElem?_cons_zero]; rfl) (by rfl); (focus (rintro W ⟨h1, h2⟩; go_simp; try with_reducible rfl)); try simp only [Act.put, List.setIfInBounds_toArray, List.set_cons_zero, List.set_cons_succ])
  (apply MQ.take (by simp only [List.getElem?_toArray, List.getElem?_cons_succ, List.getElem?_cons_zero]; rfl) (by rfl); (focus (rintro W ⟨h1, h2⟩; go_simp; try with_reducible rfl)); try simp only [Act.put, List.setIfInBounds_toArray, List.set_cons_zero, List.set_cons_succ])
  (refine MQ.only (by simp only [List.getElem?_toArray, List.getElem?_cons_succ, List.getElem?_cons_zero]; rfl) (by rfl) fun K hK => ?_; go_simp)
  refine (R1.out W3.drew).mono ?_
  rintro e w4 ⟨vx, rfl, hvx, hb4⟩
  have e4 : w4.heap[z]? = W3.heap[z]? := hb4.block z lz
  have hB4 := hB3.drew.trans (hb4.mono (by show _ ≤ W3.heap.size; exact hB3.size))
  have hvy := HVY2.out.below (((Below.refl W3.heap.size W3).drew).trans hb4)
  have lz4 : z < w4.heap.size := Nat.lt_of_lt_of_le lz hb4.size
  have HVY3 := Lib.hid hvy; have HVX := Lib.hid hvx
  have S4 := CK.out w4 e4
  have E4 := Lib.hid e4
  clear hb4 hvy hvx e4
  (refine hK _ _ S4 ?_; clear hK K; try simp only [Act.put, List.setIfInBounds_toArray, List.set_cons_zero, List.set_cons_succ])
  (refine MQ.only (by simp only [List.getElem?_toArray, List.getElem?_cons_succ, List.getElem?_cons_zero]; rfl) (by rfl) fun K hK => ?_; go_simp)
  refine (add_any _ _ vx (.slice py ky cy) _ _ w4 HVX.out HVY3.out (by omega) (by omega)).mono ?_
  rintro e w5 ⟨m, v, n, rfl, hz, hv, hb5⟩
  rw [SN.out, sgn_self] at hz
  have hn : n = (x - y).natAbs := by rw [show x - y = x + -y from Int.sub_eq_add_neg, ← hz, sgn_abs]
  have hB5 := hB4.trans (hb5.mono hB4.size)
  have e5 : w5.heap[z]? = W3.heap[z]? := (hb5.block z lz4).trans E4.out
  have S5 := CK.out w5 e5
  have lz5 : z < w5.heap.size := Nat.lt_of_lt_of_le lz4 hb5.size
  have E5 := Lib.hid e5
  have HZ := Lib.hid (show sgn m n = x - y by rw [hz]; omega)
  have HV := Lib.hid hv
  have hnl : (limbs B9 n).length ≤ 1000 := by rw [hn]; omega
  clear hn hb5 hB4 e5 hz hv
  (refine hK _ _ S5 ?_; clear hK K; try simp only [Act.put, List.setIfInBounds_toArray, List.set_cons_zero, List.set_cons_succ])
  (refine MQ.only (by simp only [List.getElem?_toArray, List.getElem?_cons_succ, List.getElem?_cons_zero]; rfl) (by rfl) fun K hK => ?_; go_simp)
  refine (result_any m v n w5 (HW.out.below hB5) HV.out hnl).mono ?_
  rw [HZ.out]
  rintro e w6 ⟨rfl, hb6⟩
  have hB6 := hB5.trans (hb6.mono hB5.size)
  have S6 := CK.out w6 ((hb6.block z lz5).trans E5.out)
  clear hb6 hB5
  (refine hK _ _ S6 ?_; clear hK K; try simp only [Act.put, List.setIfInBounds_toArray, List.set_cons_zero, List.set_cons_succ])
  iterate 4 (apply MQ.take (by simp only [List.getElem?_toArray, List.getElem?_cons_succ, List.getElem?_cons_zero]; rfl) (by rfl); (focus (rintro W ⟨h1, h2⟩; go_simp; try with_reducible rfl)); try simp only [Act.put, List.setIfInBounds_toArray, List.set_cons_zero, List.set_cons_succ])
  refine MQ.nil ⟨rfl, ?_⟩
  go_wp2_with fail
  go_ret2
  exact ⟨rfl, hB6⟩
/-- integer.Sub. -/
theorem Sub_any (x y : Int) (hx : digs x ≤ 300) (hy : digs y ≤ 300) (w : World) (hw : Wd w) :
    Calls Tryz.prog 25 #[St (itoa x), St (itoa y)] w fun e w' => e = .returned (.tuple #[St (resL (x - y)), .int .i64 (resE (x - y))]) ∧ Below w.heap.size w w' := by
  by_cases h : (itoa x).length ≤ 18 ∧ (itoa y).length ≤ 18
  · exact Sub_small x y h.1 h.2 w hw
  · exact Sub_big x y hx hy (by omega) w hw
end Go.Proofs.YtapfekcbbhhieaaGreatDoor

namespace Go.Proofs.YtapfekcbbhhieaaGreatDoor
open Go.RowKit Go.Shelf Lib Str Limb
attribute [local go_sem] Oper.semAt_some

theorem times_sl (va vb : Value) (m n : Nat) (w : World) (ha : Sl w va ((limbs B9 m).map I)) (hb : Sl w vb ((limbs B9 n).map I)) (la : (limbs B9 m).length ≤ 1000) (lb : (limbs B9 n).length ≤ 1000) :
    Calls Tryz.prog 62 #[va, vb] w fun e w' => ∃ p c k, e = .returned (.slice p k c) ∧ Sl w' (.slice p k c) ((limbs B9 (m * n)).map I) ∧ Below w.heap.size w w' := by
  refine (times_any va vb _ _ w ha hb (limbs_small (by decide) m) (limbs_small (by decide) n) la lb).mono ?_
  rintro e w' ⟨v, rfl, hown, hB⟩
  rw [times_trim (by decide) (limbs_small (by decide) m) (limbs_small (by decide) n), limbs_val (by decide), limbs_val (by decide)] at hown
  have hs := Sl.of_own hown
  obtain ⟨p, c, e, -⟩ := id hs
  subst e
  exact ⟨p, c, _, rfl, hs, hB⟩

theorem sgn_mul (x y : Int) : sgn (decide (x < 0) != decide (y < 0)) (x.natAbs * y.natAbs) = x * y := by
  unfold sgn
  have e : ((x.natAbs * y.natAbs : Nat) : Int) = (x.natAbs : Int) * y.natAbs := by simp
  by_cases h1 : x < 0 <;> by_cases h2 : y < 0
  · simp only [h1, h2, decide_true, bne_self_eq_false, Bool.false_eq_true, if_false]
    rw [e, show (x.natAbs : Int) = -x by omega, show (y.natAbs : Int) = -y by omega, Int.neg_mul_neg]
  · have : (decide (x < 0) != decide (y < 0)) = true := by simp [h1, h2]
    rw [this, if_pos rfl, e, show (x.natAbs : Int) = -x by omega, show (y.natAbs : Int) = y by omega, Int.neg_mul, Int.neg_neg]
  · have : (decide (x < 0) != decide (y < 0)) = true := by simp [h1, h2]
    rw [this, if_pos rfl, e, show (x.natAbs : Int) = x by omega, show (y.natAbs : Int) = -y by omega, Int.mul_neg, Int.neg_neg]
  · simp only [h1, h2, decide_false, bne_self_eq_false, Bool.false_eq_true, if_false]
    rw [e, show (x.natAbs : Int) = x by omega, show (y.natAbs : Int) = y by omega]

theorem len_mul {x y : Int} (h : (itoa x).length + (itoa y).length ≤ 18) : -1000000000000000000 < x * y ∧ x * y < 1000000000000000000 := by
  have h1 := itoa_len_lo x
  have h2 := itoa_len_lo y
  have p1 := digs_pos x
  have p2 := digs_pos y
  have h3 := digs_mul (x := x) (y := y) (i := digs x) (j := digs y) (by omega) (by omega) (Nat.le_refl _) (Nat.le_refl _)
  have h4 := (digs_le_iff (x * y) 18 (by omega)).1 (by omega)
  have e : (10 : Nat) ^ 18 = 1000000000000000000 := rfl
  rw [e] at h4
  omega

set_option maxHeartbeats 400000 in
theorem Mul_small (x y : Int) (h : (itoa x).length + (itoa y).length ≤ 18) (w : World) (hw : Wd w) :
    Calls Tryz.prog 28 #[St (itoa x), St (itoa y)] w fun e w' => e = .returned (.tuple #[St (resL (x * y)), .int .i64 (resE (x * y))]) ∧ Below w.heap.size w w' := by
  obtain ⟨x1, x2⟩ := lt18 (x := x) (by omega)
  obtain ⟨y1, y2⟩ := lt18 (x := y) (by omega)
  obtain ⟨p1, p2⟩ := len_mul h
  have h0 : digs (x * y) ≤ 300 := Nat.le_trans (digs_small (by omega)) (by omega)
  rw [resL_ok h0, resE_ok h0]
  have hb := fun W => intBoth x y (Nat.le_trans (digs_small (by omega)) (by omega)) (Nat.le_trans (digs_small (by omega)) (by omega)) W
  have hs := fun W => intSmall_yes x y (by omega) (by omega) W
  have hle : decide (((itoa x).length : Int) + ((itoa y).length : Int) ≤ 18) = true := by simp; omega
  have hit := fun W hW => itoa_b (x * y) (by omega) (by omega) W hW
  have hwr : IntKind.i64.wrap (x * y) = x * y := IntWalk.i64_in _ (by omega)
  have hl1 : (itoa x).length ≤ 18 := by omega
  have hl2 : (itoa y).length ≤ 18 := by omega
  have HIT := Lib.hid hit; clear hit
  have HB := Lib.hid hb; clear hb
  have HS := Lib.hid hs; clear hs h h0
  have HW := Lib.hid hw; clear hw
  go_enter Tryz.func28, Tryz.ntmps28
  go_wp2_with fail
  refine (HB.out w).mono ?_
  rintro e w1 ⟨rfl, hB1⟩
  go_wp2_with fail
  refine (HS.out w1).mono ?_
  rintro e w2 ⟨rfl, hb2⟩
  have hB2 := hB1.trans (hb2.mono hB1.size)
  clear hb2 hB1
  go_wp2_with fail
  refine (HIT.out w2 (HW.out.below hB2)).mono ?_
  rintro e w3 ⟨rfl, hb3⟩
  have hB3 := hB2.trans (hb3.mono hB2.size)
  clear hb3 hB2
  go_wp2_with fail
  go_ret2
  exact ⟨rfl, hB3⟩

set_option maxRecDepth 100000 in
set_option maxHeartbeats 1000000 in
theorem Mul_big (x y : Int) (hx : digs x ≤ 300) (hy : digs y ≤ 300) (h : ¬ (itoa x).length + (itoa y).length ≤ 18) (w : World) (hw : Wd w) :
    Calls Tryz.prog 28 #[St (itoa x), St (itoa y)] w fun e w' => e = .returned (.tuple #[St (resL (x * y)), .int .i64 (resE (x * y))]) ∧ Below w.heap.size w w' := by
  have hb := fun W => intBoth x y hx hy W
  have r1 := fun W => read_any x W (by omega)
  have r2 := fun W => read_any y W (by omega)
  have l1 := abs_limbs (z := x) (k := 100) (by omega) (by omega)
  have l2 := abs_limbs (z := y) (k := 100) (by omega) (by omega)
  have l3 := abs_limbs (z := x * y) (k := 100) (by omega) (Nat.le_trans (digs_mul (by omega) (by omega) hx hy) (by omega))
  rw [Int.natAbs_mul] at l3
  have hle : decide (((itoa x).length : Int) + ((itoa y).length : Int) ≤ 18) = false := by simp; omega
  have q1 := itoa_len_hi x
  have q2 := itoa_len_hi y
  have hl1 : (itoa x).length ≤ 301 := by omega
  have hl2 : (itoa y).length ≤ 301 := by omega
  clear q1 q2
  have HB := Lib.hid hb; clear hb hx hy h
  have HW := Lib.hid hw; clear hw
  have R1 := Lib.hid r1; have R2 := Lib.hid r2; clear r1 r2
  go_enter Tryz.func28, Tryz.ntmps28
  go_wp2_with fail
  refine (HB.out w).mono ?_
  rintro e w1 ⟨rfl, hB1⟩
  go_wp2_with fail
  refine (R1.out w1).mono ?_
  rintro e w2 ⟨vx, rfl, hvx, hb2⟩
  have hB2 := hB1.trans (hb2.mono hB1.size)
  clear hb2 hB1
  have HVX := Lib.hid hvx; clear hvx
  go_wp2_with fail
  refine (R2.out w2).mono ?_
  rintro e w3 ⟨vy, rfl, hvy, hb3⟩
  have hvx := HVX.out.below hb3
  have hB3 := hB2.trans (hb3.mono hB2.size)
  clear hb3 hB2 HVX
  obtain ⟨px, kx, cx, rfl, -⟩ := sl_open hvx
  obtain ⟨py, ky, cy, rfl, -⟩ := sl_open hvy
  have HVX := Lib.hid hvx; have HVY := Lib.hid hvy; clear hvx hvy
  have sm := sgn_mul x y
  generalize hbx : decide (x < 0) = b1 at *
  generalize hby : decide (y < 0) = b2 at *
  have SM := Lib.hid sm; clear sm hbx hby
  go_wp2
  have b1k := (Below.heap_alloc (w3.alloc (.cells #[.bool b1, .slice px kx cx] 95)) (.cells #[.bool b2, .slice py ky cy] 95) w3.heap.size (by simp)).trans (World.alloc_heap_new w3 (.cells #[.bool b1, .slice px kx cx] 95))
  have b2k := World.alloc_heap_new (w3.alloc (.cells #[.bool b1, .slice px kx cx] 95)) (.cells #[.bool b2, .slice py ky cy] 95)
  rw [World.size_alloc] at b2k
  have hB4 := (hB3.alloc hB3.size (.cells #[.bool b1, .slice px kx cx] 95)).alloc (by have := hB3.size; simp; omega) (.cells #[.bool b2, .slice py ky cy] 95)
  have hb4 : Below w3.heap.size w3 ((w3.alloc (.cells #[.bool b1, .slice px kx cx] 95)).alloc (.cells #[.bool b2, .slice py ky cy] 95)) := ((Below.refl _ _).alloc (Nat.le_refl _) _).alloc (by simp) _
  have HVX2 := Lib.hid (HVX.out.below hb4)
  have HVY2 := Lib.hid (HVY.out.below hb4)
  clear HVX HVY hb4
  generalize (w3.alloc (.cells #[.bool b1, .slice px kx cx] 95)).alloc (.cells #[.bool b2, .slice py ky cy] 95) = W4 at *
  obtain ⟨z, hz⟩ : ∃ z, z = w3.heap.size := ⟨_, rfl⟩
  rw [← hz] at b1k b2k ⊢
  clear hz hB3 w3
  have ck : ∀ W : World, W.heap[z]? = W4.heap[z]? → W.heap[z + 1]? = W4.heap[z + 1]? → (W.cell? ⟨z, 0, none⟩ = some (.bool b1) ∧ W.cell? ⟨z, 1, none⟩ = some (.slice px kx cx)) ∧ W.cell? ⟨z + 1, 0, none⟩ = some (.bool b2) ∧ W.cell? ⟨z + 1, 1, none⟩ = some (.slice py ky cy) :=
    fun W h k => ⟨⟨by simp [World.cell?, h, b1k], by simp [World.cell?, h, b1k]⟩, by simp [World.cell?, k, b2k], by simp [World.cell?, k, b2k]⟩
  have CK := Lib.hid ck; clear ck
  have lz : z + 1 < W4.heap.size := (Array.getElem?_eq_some_iff.1 b2k).1
  clear b1k b2k
  refine wp_mix [(0, true), (1, true), (2, true), (3, true), (4, true), (5, true), (6, true), (7, true), (8, true), (9, false), (10, true), (11, false), (12, true), (13, true), (14, true), (15, true)]
    (fun W => (W.cell? ⟨z, 0, none⟩ = some (.bool b1) ∧ W.cell? ⟨z, 1, none⟩ = some (.slice px kx cx)) ∧ W.cell? ⟨z + 1, 0, none⟩ = some (.bool b2) ∧ W.cell? ⟨z + 1, 1, none⟩ = some (.slice py ky cy)) (by kernel_rfl) (by kernel_rfl) (CK.out _ rfl rfl) ?_
  iterate 9 (apply MQ.take (by simp only [List.getElem?_toArray, List.getElem?_cons_succ, List.getElem?_cons_zero]; rfl) (by rfl); (focus (rintro W ⟨⟨h1, h2⟩, h3, h4⟩; go_simp; try with_reducible rfl)); try simp only [Act.put, List.setIfInBounds_toArray, List.set_cons_zero, List.set_cons_succ])
  (refine MQ.only (by simp only [List.getElem?_toArray, List.getElem?_cons_succ, List.getElem?_cons_zero]; rfl) (by rfl) fun K hK => ?_; go_simp)
  refine (times_sl (.slice px kx cx) (.slice py ky cy) _ _ W4.drew (HVX2.out.below (Below.refl _ _).drew) (HVY2.out.below (Below.refl _ _).drew) (by omega) (by omega)).mono ?_
  rintro e w5 ⟨p, c, k, rfl, hv, hb5⟩
  have hB5 := hB4.drew.trans (hb5.mono (by show _ ≤ W4.heap.size; exact hB4.size))
  have e5 : w5.heap[z]? = W4.heap[z]? := hb5.block z (by show z < W4.heap.size; omega)
  have f5 : w5.heap[z + 1]? = W4.heap[z + 1]? := hb5.block (z + 1) lz
  have lz5 : z + 1 < w5.heap.size := Nat.lt_of_lt_of_le lz hb5.size
  have S5 := CK.out w5 e5 f5
  have E5 := Lib.hid e5; have F5 := Lib.hid f5
  have HV := Lib.hid hv
  clear hb5 e5 f5 hv hB4
  (refine hK _ _ S5 ?_; clear hK K; try simp only [Act.put, List.setIfInBounds_toArray, List.set_cons_zero, List.set_cons_succ])
  (apply MQ.take (by simp only [List.getElem?_toArray, List.getElem?_cons_succ, List.getElem?_cons_zero]; rfl) (by rfl); (focus (rintro W ⟨⟨h1, h2⟩, h3, h4⟩; go_simp; try with_reducible rfl)); try simp only [Act.put, List.setIfInBounds_toArray, List.set_cons_zero, List.set_cons_succ])
  (refine MQ.only (by simp only [List.getElem?_toArray, List.getElem?_cons_succ, List.getElem?_cons_zero]; rfl) (by rfl) fun K hK => ?_; go_simp)
  refine (result_any (b1 != b2) (.slice p k c) (x.natAbs * y.natAbs) w5 (HW.out.below hB5) HV.out (by omega)).mono ?_
  rw [SM.out]
  rintro e w6 ⟨rfl, hb6⟩
  have hB6 := hB5.trans (hb6.mono hB5.size)
  have S6 := CK.out w6 ((hb6.block z (by omega)).trans E5.out) ((hb6.block (z + 1) lz5).trans F5.out)
  clear hb6 hB5
  (refine hK _ _ S6 ?_; clear hK K; try simp only [Act.put, List.setIfInBounds_toArray, List.set_cons_zero, List.set_cons_succ])
  iterate 4 (apply MQ.take (by simp only [List.getElem?_toArray, List.getElem?_cons_succ, List.getElem?_cons_zero]; rfl) (by rfl); (focus (rintro W ⟨⟨h1, h2⟩, h3, h4⟩; go_simp; try with_reducible rfl)); try simp only [Act.put, List.setIfInBounds_toArray, List.set_cons_zero, List.set_cons_succ])
  refine MQ.nil ⟨rfl, ?_⟩
  go_wp2_with fail
  go_ret2
  exact ⟨rfl, hB6⟩
/-- integer.Mul. -/
theorem Mul_any (x y : Int) (hx : digs x ≤ 300) (hy : digs y ≤ 300) (w : World) (hw : Wd w) :
    Calls Tryz.prog 28 #[St (itoa x), St (itoa y)] w fun e w' => e = .returned (.tuple #[St (resL (x * y)), .int .i64 (resE (x * y))]) ∧ Below w.heap.size w w' := by
  by_cases h : (itoa x).length + (itoa y).length ≤ 18
  · exact Mul_small x y h w hw
  · exact Mul_big x y hx hy h w hw
end Go.Proofs.YtapfekcbbhhieaaGreatDoor
