/-
  kingpostlaw10.PolygonSegments.
  kingpostlaw10.PolygonSegments, joined: all but the example of the chapter.
  polygon.Area.
-/
import Derived.Test.YtapfekcbbhhieaaGreatDoorS20
import Derived.Test.YtapfekcbbhhieaaGreatDoorS17
import Derived.Test.YtapfekcbbhhieaaGreatDoorS14
import Derived.Test.YtapfekcbbhhieaaGreatDoorS16
namespace Go.Proofs.YtapfekcbbhhieaaGreatDoor
open Go.RowKit Go.Shelf Lib Str Limb Geo
attribute [local go_sem] Oper.semAt_some

theorem RowTx.four (W : World) (t : TypeId) (x1 y1 x2 y2 x3 y3 x4 y4 : List UInt8) :
    RowTx (some ⟨W.heap.size, 0, none⟩) [(x1, y1), (x2, y2), (x3, y3), (x4, y4)] (W.alloc (.cells #[St x1, St y1, St x2, St y2, St x3, St y3, St x4, St y4] t)) := by
  have A := World.alloc_heap_new W (.cells #[St x1, St y1, St x2, St y2, St x3, St y3, St x4, St y4] t)
  intro i hi
  refine ⟨_, _, rfl, ?_⟩
  match i, hi with
  | 0, _ | 1, _ | 2, _ | 3, _ => exact ⟨by rw [Go.Joins.cell_of_block A]; rfl, by rw [Go.Joins.cell_of_block A]; rfl⟩

set_option maxRecDepth 100000 in
set_option maxHeartbeats 4000000 in
/-- The statement where a point is not right or too long. -/
theorem segs_bad (x1 y1 x2 y2 x3 y3 x4 y4 : List UInt8)
    (SH : Hid (∀ W : World, Wd W → Calls Tryz.prog 13 #[.slice (some ⟨W.heap.size, 0, none⟩) 4 4] (W.alloc (.cells #[St x1, St y1, St x2, St y2, St x3, St y3, St x4, St y4] 24)) fun e w' => e = .returned (.bool false) ∧ Below W.heap.size W w'))
    (w : World) (AW : Hid (∀ W : World, Below w.heap.size w W → Calls Tryz.prog 6 #[] W fun e w' => e = .returned (.bool true) ∧ Below W.heap.size W w'))
    (HW : Hid (Wd w)) :
    Calls Tryz.prog 4 #[.agg #[St x1, St y1], .agg #[St x2, St y2], .agg #[St x3, St y3], .agg #[St x4, St y4]] w fun e w' => e = .returned (.bool true) ∧ Below w.heap.size w w' := by
  have hinit := FourS.start w x1 y1 x2 y2 x3 y3 x4 y4
  obtain ⟨i1, i2, i3, i4, i5, i6, i7, i8⟩ := hinit.cells
  obtain ⟨W1, hW1⟩ : ∃ W1, W1 = (((w.alloc (.cells #[St x1, St y1] 24)).alloc (.cells #[St x2, St y2] 24)).alloc (.cells #[St x3, St y3] 24)).alloc (.cells #[St x4, St y4] 24) := ⟨_, rfl⟩
  have hz : W1.heap.size = w.heap.size + 1 + 1 + 1 + 1 := by rw [hW1]; simp
  rw [← hW1] at hinit
  have hsh := SH.out W1 (HW.out.below hinit.bel)
  rw [hz] at hsh
  have HSH := Lib.hid hsh; clear hsh SH
  have HI := Lib.hid hinit
  have HW1 := Lib.hid hW1; clear hW1 hinit
  have HZ := Lib.hid hz; clear hz
  go_enter Tryz.func4, Tryz.ntmps4
  go_wp2_with fail
  rw [← HW1.out]
  refine HSH.out.mono ?_
  rintro e w2 ⟨rfl, hb2⟩
  rw [← HZ.out] at hb2
  have H2 := Lib.hid (HI.out.next hb2)
  clear hb2 i1 i2 i3 i4 i5 i6 i7 i8 HSH HW1 HZ HI
  go_wp2_with fail
  refine (AW.out w2 H2.out.bel).mono ?_
  rintro e w3 ⟨rfl, hb3⟩
  have hB := H2.out.bel.trans (hb3.mono H2.out.bel.size)
  clear hb3
  go_wp2_with fail
  go_ret
  exact ⟨rfl, hB⟩

set_option maxRecDepth 100000 in
set_option maxHeartbeats 8000000 in
/-- The statement where all points are right. -/
theorem segs_good (x1 y1 x2 y2 x3 y3 x4 y4 : List UInt8) (n m o : Int) (hn : 0 ≤ n ∧ n ≤ 2) (hm : 1 ≤ m)
    (ho : (x1 = x2 ∧ y1 = y2 → o = 1) ∧ (¬ (x1 = x2 ∧ y1 = y2) → o = 2)) (hn2 : (x1 = x2 ∧ y1 = y2) ∨ (x3 = x4 ∧ y3 = y4) → n ≠ 2)
    (SH : Hid (∀ W : World, Wd W → Calls Tryz.prog 13 #[.slice (some ⟨W.heap.size, 0, none⟩) 4 4] (W.alloc (.cells #[St x1, St y1, St x2, St y2, St x3, St y3, St x4, St y4] 24)) fun e w' => e = .returned (.bool true) ∧ Below W.heap.size W w'))
    (w : World) (AW : Hid (∀ W : World, Below w.heap.size w W → Calls Tryz.prog 6 #[] W fun e w' => e = .returned (.bool true) ∧ Below W.heap.size W w'))
    (S0 : Hid (∀ W : World, Wd W → Calls Tryz.prog 14 #[.agg #[St x1, St y1], .agg #[St x2, St y2], .agg #[St x3, St y3], .agg #[St x4, St y4]] W fun e w' => e = .returned (.tuple #[.int .i64 n, .int .i64 0]) ∧ Below W.heap.size W w'))
    (S1 : Hid (∀ W : World, Wd W → Calls Tryz.prog 14 #[.agg #[St x2, St y2], .agg #[St x1, St y1], .agg #[St x3, St y3], .agg #[St x4, St y4]] W fun e w' => e = .returned (.tuple #[.int .i64 n, .int .i64 0]) ∧ Below W.heap.size W w'))
    (S2 : Hid (∀ W : World, Wd W → Calls Tryz.prog 14 #[.agg #[St x1, St y1], .agg #[St x2, St y2], .agg #[St x4, St y4], .agg #[St x3, St y3]] W fun e w' => e = .returned (.tuple #[.int .i64 n, .int .i64 0]) ∧ Below W.heap.size W w'))
    (S3 : Hid (∀ W : World, Wd W → Calls Tryz.prog 14 #[.agg #[St x3, St y3], .agg #[St x4, St y4], .agg #[St x1, St y1], .agg #[St x2, St y2]] W fun e w' => e = .returned (.tuple #[.int .i64 n, .int .i64 0]) ∧ Below W.heap.size W w'))
    (S4 : Hid (∀ W : World, Wd W → Calls Tryz.prog 14 #[.agg #[St x4, St y4], .agg #[St x3, St y3], .agg #[St x2, St y2], .agg #[St x1, St y1]] W fun e w' => e = .returned (.tuple #[.int .i64 n, .int .i64 0]) ∧ Below W.heap.size W w'))
    (S5 : Hid (∀ W : World, Wd W → Calls Tryz.prog 14 #[.agg #[St x1, St y1], .agg #[St x2, St y2], .agg #[St x1, St y1], .agg #[St x3, St y3]] W fun e w' => e = .returned (.tuple #[.int .i64 m, .int .i64 0]) ∧ Below W.heap.size W w'))
    (S6 : Hid (∀ W : World, Wd W → Calls Tryz.prog 14 #[.agg #[St x1, St y1], .agg #[St x2, St y2], .agg #[St x1, St y1], .agg #[St x2, St y2]] W fun e w' => e = .returned (.tuple #[.int .i64 o, .int .i64 0]) ∧ Below W.heap.size W w'))
    (HW : Hid (Wd w)) :
    Calls Tryz.prog 4 #[.agg #[St x1, St y1], .agg #[St x2, St y2], .agg #[St x3, St y3], .agg #[St x4, St y4]] w fun e w' => e = .returned (.bool true) ∧ Below w.heap.size w w' := by
  have HO := Lib.hid ho; have HN2 := Lib.hid hn2; clear ho hn2
  have hinit := FourS.start w x1 y1 x2 y2 x3 y3 x4 y4
  obtain ⟨i1, i2, i3, i4, i5, i6, i7, i8⟩ := hinit.cells
  obtain ⟨W1, hW1⟩ : ∃ W1, W1 = (((w.alloc (.cells #[St x1, St y1] 24)).alloc (.cells #[St x2, St y2] 24)).alloc (.cells #[St x3, St y3] 24)).alloc (.cells #[St x4, St y4] 24) := ⟨_, rfl⟩
  have hz : W1.heap.size = w.heap.size + 1 + 1 + 1 + 1 := by rw [hW1]; simp
  rw [← hW1] at hinit
  have hsh := SH.out W1 (HW.out.below hinit.bel)
  rw [hz] at hsh
  have HSH := Lib.hid hsh; clear hsh SH
  have HI := Lib.hid hinit
  have HW1 := Lib.hid hW1; clear hW1 hinit
  have HZ := Lib.hid hz; clear hz
  go_enter Tryz.func4, Tryz.ntmps4
  go_wp2_with fail
  rw [← HW1.out]
  refine HSH.out.mono ?_
  rintro e w2 ⟨rfl, hb2⟩
  rw [← HZ.out] at hb2
  have H2 := Lib.hid (HI.out.next hb2)
  clear hb2 i1 i2 i3 i4 i5 i6 i7 i8 HSH HW1 HZ HI
  obtain ⟨i1, i2, i3, i4, i5, i6, i7, i8⟩ := H2.out.cells
  change (w2).cell? ⟨w.heap.size + 1 + 1, 0, none⟩ = _ at i5
  change (w2).cell? ⟨w.heap.size + 1 + 1, 1, none⟩ = _ at i6
  change (w2).cell? ⟨w.heap.size + 1 + 1 + 1, 0, none⟩ = _ at i7
  change (w2).cell? ⟨w.heap.size + 1 + 1 + 1, 1, none⟩ = _ at i8
  go_wp2_with fail
  refine (S0.out w2 (HW.out.below H2.out.bel)).mono ?_
  rintro e w3 ⟨rfl, hb3⟩
  have H3 := Lib.hid (H2.out.next hb3)
  clear hb3 H2
  clear i1 i2 i3 i4 i5 i6 i7 i8
  obtain ⟨i1, i2, i3, i4, i5, i6, i7, i8⟩ := H3.out.cells
  change (w3).cell? ⟨w.heap.size + 1 + 1, 0, none⟩ = _ at i5
  change (w3).cell? ⟨w.heap.size + 1 + 1, 1, none⟩ = _ at i6
  change (w3).cell? ⟨w.heap.size + 1 + 1 + 1, 0, none⟩ = _ at i7
  change (w3).cell? ⟨w.heap.size + 1 + 1 + 1, 1, none⟩ = _ at i8
  have n1 : ¬ n < 0 := by omega
  have n2 : ¬ 2 < n := by omega
  go_wp2_with fail
  obtain ⟨W4, hW4⟩ : ∃ W4, W4 = w3.alloc (.cells #[St x2, St y2, St x1, St y1, St x3, St y3, St x4, St y4, St x1, St y1, St x2, St y2, St x4, St y4, St x3, St y3, St x3, St y3, St x4, St y4, St x1, St y1, St x2, St y2, St x4, St y4, St x3, St y3, St x2, St y2, St x1, St y1] 38) := ⟨_, rfl⟩
  rw [← hW4]
  have hb4 : Below w3.heap.size w3 W4 := by rw [hW4]; exact (Below.refl _ w3).alloc (Nat.le_refl _) _
  have A4 : W4.heap[w3.heap.size]? = some (.cells #[St x2, St y2, St x1, St y1, St x3, St y3, St x4, St y4, St x1, St y1, St x2, St y2, St x4, St y4, St x3, St y3, St x3, St y3, St x4, St y4, St x1, St y1, St x2, St y2, St x4, St y4, St x3, St y3, St x2, St y2, St x1, St y1] 38 (0, 0)) := by rw [hW4]; exact World.alloc_heap_new w3 _
  have K0 := Lib.hid (⟨H3.out.next hb4, A4⟩ : FourS w x1 y1 x2 y2 x3 y3 x4 y4 W4 ∧ W4.heap[w3.heap.size]? = some (.cells #[St x2, St y2, St x1, St y1, St x3, St y3, St x4, St y4, St x1, St y1, St x2, St y2, St x4, St y4, St x3, St y3, St x3, St y3, St x4, St y4, St x1, St y1, St x2, St y2, St x4, St y4, St x3, St y3, St x2, St y2, St x1, St y1] 38 (0, 0)))
  clear hW4 hb4 A4 H3
  clear i1 i2 i3 i4 i5 i6 i7 i8
  refine wp_loop_rounds 5 ?_
  have c0 : (W4).cell? ⟨w3.heap.size, 0, none⟩ = some (St x2) := by rw [Go.Joins.cell_of_block K0.out.2]; rfl
  have c1 : (W4).cell? ⟨w3.heap.size, 1, none⟩ = some (St y2) := by rw [Go.Joins.cell_of_block K0.out.2]; rfl
  have c2 : (W4).cell? ⟨w3.heap.size, 2, none⟩ = some (St x1) := by rw [Go.Joins.cell_of_block K0.out.2]; rfl
  have c3 : (W4).cell? ⟨w3.heap.size, 3, none⟩ = some (St y1) := by rw [Go.Joins.cell_of_block K0.out.2]; rfl
  have c4 : (W4).cell? ⟨w3.heap.size, 4, none⟩ = some (St x3) := by rw [Go.Joins.cell_of_block K0.out.2]; rfl
  have c5 : (W4).cell? ⟨w3.heap.size, 5, none⟩ = some (St y3) := by rw [Go.Joins.cell_of_block K0.out.2]; rfl
  have c6 : (W4).cell? ⟨w3.heap.size, 6, none⟩ = some (St x4) := by rw [Go.Joins.cell_of_block K0.out.2]; rfl
  have c7 : (W4).cell? ⟨w3.heap.size, 7, none⟩ = some (St y4) := by rw [Go.Joins.cell_of_block K0.out.2]; rfl
  rw [rounds_succ]
  go_wp2_with fail
  have b0 : Below (W4).heap.size W4 ((W4).alloc (.cells #[St x2, St y2, St x1, St y1, St x3, St y3, St x4, St y4] 38)) := (Below.refl _ W4).alloc (Nat.le_refl _) _
  refine (S1.out _ (HW.out.below (K0.out.1.next b0).bel)).mono ?_
  rintro e V0 ⟨rfl, d0⟩
  have e0 := b0.trans (d0.mono b0.size)
  have K1 := Lib.hid (⟨K0.out.1.next e0, (e0.block _ (Array.getElem?_eq_some_iff.1 K0.out.2).1).trans K0.out.2⟩ : FourS w x1 y1 x2 y2 x3 y3 x4 y4 V0 ∧ V0.heap[w3.heap.size]? = some (.cells #[St x2, St y2, St x1, St y1, St x3, St y3, St x4, St y4, St x1, St y1, St x2, St y2, St x4, St y4, St x3, St y3, St x3, St y3, St x4, St y4, St x1, St y1, St x2, St y2, St x4, St y4, St x3, St y3, St x2, St y2, St x1, St y1] 38 (0, 0)))
  clear b0 d0 e0 K0 c0 c1 c2 c3 c4 c5 c6 c7
  go_wp2_with fail
  have c0 : (V0).cell? ⟨w3.heap.size, 8, none⟩ = some (St x1) := by rw [Go.Joins.cell_of_block K1.out.2]; rfl
  have c1 : (V0).cell? ⟨w3.heap.size, 9, none⟩ = some (St y1) := by rw [Go.Joins.cell_of_block K1.out.2]; rfl
  have c2 : (V0).cell? ⟨w3.heap.size, 10, none⟩ = some (St x2) := by rw [Go.Joins.cell_of_block K1.out.2]; rfl
  have c3 : (V0).cell? ⟨w3.heap.size, 11, none⟩ = some (St y2) := by rw [Go.Joins.cell_of_block K1.out.2]; rfl
  have c4 : (V0).cell? ⟨w3.heap.size, 12, none⟩ = some (St x4) := by rw [Go.Joins.cell_of_block K1.out.2]; rfl
  have c5 : (V0).cell? ⟨w3.heap.size, 13, none⟩ = some (St y4) := by rw [Go.Joins.cell_of_block K1.out.2]; rfl
  have c6 : (V0).cell? ⟨w3.heap.size, 14, none⟩ = some (St x3) := by rw [Go.Joins.cell_of_block K1.out.2]; rfl
  have c7 : (V0).cell? ⟨w3.heap.size, 15, none⟩ = some (St y3) := by rw [Go.Joins.cell_of_block K1.out.2]; rfl
  rw [rounds_succ]
  go_wp2_with fail
  have b1 : Below (V0).heap.size V0 ((V0).alloc (.cells #[St x1, St y1, St x2, St y2, St x4, St y4, St x3, St y3] 38)) := (Below.refl _ V0).alloc (Nat.le_refl _) _
  refine (S2.out _ (HW.out.below (K1.out.1.next b1).bel)).mono ?_
  rintro e V1 ⟨rfl, d1⟩
  have e1 := b1.trans (d1.mono b1.size)
  have K2 := Lib.hid (⟨K1.out.1.next e1, (e1.block _ (Array.getElem?_eq_some_iff.1 K1.out.2).1).trans K1.out.2⟩ : FourS w x1 y1 x2 y2 x3 y3 x4 y4 V1 ∧ V1.heap[w3.heap.size]? = some (.cells #[St x2, St y2, St x1, St y1, St x3, St y3, St x4, St y4, St x1, St y1, St x2, St y2, St x4, St y4, St x3, St y3, St x3, St y3, St x4, St y4, St x1, St y1, St x2, St y2, St x4, St y4, St x3, St y3, St x2, St y2, St x1, St y1] 38 (0, 0)))
  clear b1 d1 e1 K1 c0 c1 c2 c3 c4 c5 c6 c7
  go_wp2_with fail
  have c0 : (V1).cell? ⟨w3.heap.size, 16, none⟩ = some (St x3) := by rw [Go.Joins.cell_of_block K2.out.2]; rfl
  have c1 : (V1).cell? ⟨w3.heap.size, 17, none⟩ = some (St y3) := by rw [Go.Joins.cell_of_block K2.out.2]; rfl
  have c2 : (V1).cell? ⟨w3.heap.size, 18, none⟩ = some (St x4) := by rw [Go.Joins.cell_of_block K2.out.2]; rfl
  have c3 : (V1).cell? ⟨w3.heap.size, 19, none⟩ = some (St y4) := by rw [Go.Joins.cell_of_block K2.out.2]; rfl
  have c4 : (V1).cell? ⟨w3.heap.size, 20, none⟩ = some (St x1) := by rw [Go.Joins.cell_of_block K2.out.2]; rfl
  have c5 : (V1).cell? ⟨w3.heap.size, 21, none⟩ = some (St y1) := by rw [Go.Joins.cell_of_block K2.out.2]; rfl
  have c6 : (V1).cell? ⟨w3.heap.size, 22, none⟩ = some (St x2) := by rw [Go.Joins.cell_of_block K2.out.2]; rfl
  have c7 : (V1).cell? ⟨w3.heap.size, 23, none⟩ = some (St y2) := by rw [Go.Joins.cell_of_block K2.out.2]; rfl
  rw [rounds_succ]
  go_wp2_with fail
  have b2 : Below (V1).heap.size V1 ((V1).alloc (.cells #[St x3, St y3, St x4, St y4, St x1, St y1, St x2, St y2] 38)) := (Below.refl _ V1).alloc (Nat.le_refl _) _
  refine (S3.out _ (HW.out.below (K2.out.1.next b2).bel)).mono ?_
  rintro e V2 ⟨rfl, d2⟩
  have e2 := b2.trans (d2.mono b2.size)
  have K3 := Lib.hid (⟨K2.out.1.next e2, (e2.block _ (Array.getElem?_eq_some_iff.1 K2.out.2).1).trans K2.out.2⟩ : FourS w x1 y1 x2 y2 x3 y3 x4 y4 V2 ∧ V2.heap[w3.heap.size]? = some (.cells #[St x2, St y2, St x1, St y1, St x3, St y3, St x4, St y4, St x1, St y1, St x2, St y2, St x4, St y4, St x3, St y3, St x3, St y3, St x4, St y4, St x1, St y1, St x2, St y2, St x4, St y4, St x3, St y3, St x2, St y2, St x1, St y1] 38 (0, 0)))
  clear b2 d2 e2 K2 c0 c1 c2 c3 c4 c5 c6 c7
  go_wp2_with fail
  have c0 : (V2).cell? ⟨w3.heap.size, 24, none⟩ = some (St x4) := by rw [Go.Joins.cell_of_block K3.out.2]; rfl
  have c1 : (V2).cell? ⟨w3.heap.size, 25, none⟩ = some (St y4) := by rw [Go.Joins.cell_of_block K3.out.2]; rfl
  have c2 : (V2).cell? ⟨w3.heap.size, 26, none⟩ = some (St x3) := by rw [Go.Joins.cell_of_block K3.out.2]; rfl
  have c3 : (V2).cell? ⟨w3.heap.size, 27, none⟩ = some (St y3) := by rw [Go.Joins.cell_of_block K3.out.2]; rfl
  have c4 : (V2).cell? ⟨w3.heap.size, 28, none⟩ = some (St x2) := by rw [Go.Joins.cell_of_block K3.out.2]; rfl
  have c5 : (V2).cell? ⟨w3.heap.size, 29, none⟩ = some (St y2) := by rw [Go.Joins.cell_of_block K3.out.2]; rfl
  have c6 : (V2).cell? ⟨w3.heap.size, 30, none⟩ = some (St x1) := by rw [Go.Joins.cell_of_block K3.out.2]; rfl
  have c7 : (V2).cell? ⟨w3.heap.size, 31, none⟩ = some (St y1) := by rw [Go.Joins.cell_of_block K3.out.2]; rfl
  rw [rounds_succ]
  go_wp2_with fail
  have b3 : Below (V2).heap.size V2 ((V2).alloc (.cells #[St x4, St y4, St x3, St y3, St x2, St y2, St x1, St y1] 38)) := (Below.refl _ V2).alloc (Nat.le_refl _) _
  refine (S4.out _ (HW.out.below (K3.out.1.next b3).bel)).mono ?_
  rintro e V3 ⟨rfl, d3⟩
  have e3 := b3.trans (d3.mono b3.size)
  have K4 := Lib.hid (⟨K3.out.1.next e3, (e3.block _ (Array.getElem?_eq_some_iff.1 K3.out.2).1).trans K3.out.2⟩ : FourS w x1 y1 x2 y2 x3 y3 x4 y4 V3 ∧ V3.heap[w3.heap.size]? = some (.cells #[St x2, St y2, St x1, St y1, St x3, St y3, St x4, St y4, St x1, St y1, St x2, St y2, St x4, St y4, St x3, St y3, St x3, St y3, St x4, St y4, St x1, St y1, St x2, St y2, St x4, St y4, St x3, St y3, St x2, St y2, St x1, St y1] 38 (0, 0)))
  clear b3 d3 e3 K3 c0 c1 c2 c3 c4 c5 c6 c7
  go_wp2_with fail
  rw [rounds_succ]
  obtain ⟨i1, i2, i3, i4, i5, i6, i7, i8⟩ := K4.out.1.cells
  change (V3).cell? ⟨w.heap.size + 1 + 1, 0, none⟩ = _ at i5
  change (V3).cell? ⟨w.heap.size + 1 + 1, 1, none⟩ = _ at i6
  change (V3).cell? ⟨w.heap.size + 1 + 1 + 1, 0, none⟩ = _ at i7
  change (V3).cell? ⟨w.heap.size + 1 + 1 + 1, 1, none⟩ = _ at i8
  go_wp2_with fail
  refine (S5.out V3 (HW.out.below K4.out.1.bel)).mono ?_
  rintro e w5 ⟨rfl, hb5⟩
  have H5 := Lib.hid (K4.out.1.next hb5)
  clear hb5 K4
  clear i1 i2 i3 i4 i5 i6 i7 i8
  obtain ⟨i1, i2, i3, i4, i5, i6, i7, i8⟩ := H5.out.cells
  change (w5).cell? ⟨w.heap.size + 1 + 1, 0, none⟩ = _ at i5
  change (w5).cell? ⟨w.heap.size + 1 + 1, 1, none⟩ = _ at i6
  change (w5).cell? ⟨w.heap.size + 1 + 1 + 1, 0, none⟩ = _ at i7
  change (w5).cell? ⟨w.heap.size + 1 + 1 + 1, 1, none⟩ = _ at i8
  go_wp2_with fail
  refine (S6.out w5 (HW.out.below H5.out.bel)).mono ?_
  rintro e w6 ⟨rfl, hb6⟩
  have H6 := Lib.hid (H5.out.next hb6)
  clear hb6 H5
  clear i1 i2 i3 i4 i5 i6 i7 i8
  obtain ⟨i1, i2, i3, i4, i5, i6, i7, i8⟩ := H6.out.cells
  change (w6).cell? ⟨w.heap.size + 1 + 1, 0, none⟩ = _ at i5
  change (w6).cell? ⟨w.heap.size + 1 + 1, 1, none⟩ = _ at i6
  change (w6).cell? ⟨w.heap.size + 1 + 1 + 1, 0, none⟩ = _ at i7
  change (w6).cell? ⟨w.heap.size + 1 + 1 + 1, 1, none⟩ = _ at i8
  have HB := Lib.hid H6.out.bel
  have hmb : decide (1 ≤ m) = true := decide_eq_true hm
  clear S0 S1 S2 S3 S4 S5 S6 H6
  by_cases hx : x1 = x2
  · by_cases hy : y1 = y2
    · obtain rfl : o = 1 := HO.out.1 ⟨hx, hy⟩
      have n2b : (n == 2) = false := by rw [beq_eq_false_iff_ne]; exact HN2.out (.inl ⟨hx, hy⟩)
      go_wp2_with fail
      all_goals first | (exact absurd (Option.some.inj ‹some undef = some (Value.bool _)›) (fun h => Value.noConfusion h)) | skip
      refine (AW.out w6 HB.out).mono ?_
      rintro e w7 ⟨rfl, hb7⟩
      have hB7 := HB.out.trans (hb7.mono HB.out.size)
      clear hb7
      go_wp2_with fail
      go_ret
      exact ⟨rfl, hB7⟩
    · obtain rfl : o = 2 := HO.out.2 (fun h => hy h.2)
      by_cases hx3 : x3 = x4
      · by_cases hy3 : y3 = y4
        · have n2b : (n == 2) = false := by rw [beq_eq_false_iff_ne]; exact HN2.out (.inr ⟨hx3, hy3⟩)
          go_wp2_with fail
          all_goals first | (exact absurd (Option.some.inj ‹some undef = some (Value.bool _)›) (fun h => Value.noConfusion h)) | skip
          refine (AW.out w6 HB.out).mono ?_
          rintro e w7 ⟨rfl, hb7⟩
          have hB7 := HB.out.trans (hb7.mono HB.out.size)
          clear hb7
          go_wp2_with fail
          go_ret
          exact ⟨rfl, hB7⟩
        · go_wp2_with fail
          all_goals first | (exact absurd (Option.some.inj ‹some undef = some (Value.bool _)›) (fun h => Value.noConfusion h)) | skip
          refine (AW.out w6 HB.out).mono ?_
          rintro e w7 ⟨rfl, hb7⟩
          have hB7 := HB.out.trans (hb7.mono HB.out.size)
          clear hb7
          go_wp2_with fail
          go_ret
          exact ⟨rfl, hB7⟩
      · go_wp2_with fail
        all_goals first | (exact absurd (Option.some.inj ‹some undef = some (Value.bool _)›) (fun h => Value.noConfusion h)) | skip
        refine (AW.out w6 HB.out).mono ?_
        rintro e w7 ⟨rfl, hb7⟩
        have hB7 := HB.out.trans (hb7.mono HB.out.size)
        clear hb7
        go_wp2_with fail
        go_ret
        exact ⟨rfl, hB7⟩
  · obtain rfl : o = 2 := HO.out.2 (fun h => hx h.1)
    by_cases hx3 : x3 = x4
    · by_cases hy3 : y3 = y4
      · have n2b : (n == 2) = false := by rw [beq_eq_false_iff_ne]; exact HN2.out (.inr ⟨hx3, hy3⟩)
        go_wp2_with fail
        all_goals first | (exact absurd (Option.some.inj ‹some undef = some (Value.bool _)›) (fun h => Value.noConfusion h)) | skip
        refine (AW.out w6 HB.out).mono ?_
        rintro e w7 ⟨rfl, hb7⟩
        have hB7 := HB.out.trans (hb7.mono HB.out.size)
        clear hb7
        go_wp2_with fail
        go_ret
        exact ⟨rfl, hB7⟩
      · go_wp2_with fail
        all_goals first | (exact absurd (Option.some.inj ‹some undef = some (Value.bool _)›) (fun h => Value.noConfusion h)) | skip
        refine (AW.out w6 HB.out).mono ?_
        rintro e w7 ⟨rfl, hb7⟩
        have hB7 := HB.out.trans (hb7.mono HB.out.size)
        clear hb7
        go_wp2_with fail
        go_ret
        exact ⟨rfl, hB7⟩
    · go_wp2_with fail
      all_goals first | (exact absurd (Option.some.inj ‹some undef = some (Value.bool _)›) (fun h => Value.noConfusion h)) | skip
      refine (AW.out w6 HB.out).mono ?_
      rintro e w7 ⟨rfl, hb7⟩
      have hB7 := HB.out.trans (hb7.mono HB.out.size)
      clear hb7
      go_wp2_with fail
      go_ret
      exact ⟨rfl, hB7⟩
end Go.Proofs.YtapfekcbbhhieaaGreatDoor

namespace Go.Proofs.YtapfekcbbhhieaaGreatDoor
open Go.RowKit Go.Shelf Lib Str Limb Geo
attribute [local go_sem] Oper.semAt_some

theorem sz_up {q : Rat} {i j : Nat} (hij : i ≤ j) (h : sz q i) : sz q j :=
  ⟨Nat.lt_of_lt_of_le h.1 (Nat.pow_le_pow_right (by omega) hij), Nat.lt_of_lt_of_le h.2 (Nat.pow_le_pow_right (by omega) hij)⟩

theorem good_pt {x : List UInt8 × List UInt8} (h : goodT x) : ∃ p : Pt, x = (numS p.x, numS p.y) ∧ szP p 36 := by
  obtain ⟨h1, h2, h3, h4⟩ := h
  obtain ⟨q, hq⟩ := (okS_iff _).1 h3
  obtain ⟨r, hr⟩ := (okS_iff _).1 h4
  refine ⟨⟨q, r⟩, Prod.ext hq hr, ?_, ?_⟩
  · rw [hq] at h1; exact sz_up (by omega) (sz_of_len (by omega) h1)
  · rw [hr] at h2; exact sz_up (by omega) (sz_of_len (by omega) h2)

theorem pt_eq {a b : Pt} (h : numS a.x = numS b.x ∧ numS a.y = numS b.y) : a = b := by
  obtain ⟨a1, a2⟩ := a; obtain ⟨b1, b2⟩ := b
  have h1 := numS_inj h.1; have h2 := numS_inj h.2
  simp at h1 h2; rw [h1, h2]

theorem segs_law (x1 y1 x2 y2 x3 y3 x4 y4 : List UInt8)
    (w : World) (AW : Hid (∀ W : World, Below w.heap.size w W → Calls Tryz.prog 6 #[] W fun e w' => e = .returned (.bool true) ∧ Below W.heap.size W w')) (hw : Wd w) :
    Calls Tryz.prog 4 #[.agg #[St x1, St y1], .agg #[St x2, St y2], .agg #[St x3, St y3], .agg #[St x4, St y4]] w fun e w' => e = .returned (.bool true) ∧ Below w.heap.size w w' := by
  have hal : ∀ W : World, Below W.heap.size W (W.alloc (.cells #[St x1, St y1, St x2, St y2, St x3, St y3, St x4, St y4] 24)) := fun W => (Below.refl _ W).alloc (Nat.le_refl _) _
  have hsh := fun (W : World) (hW : Wd W) => short_ok (some ⟨W.heap.size, 0, none⟩) 4 [(x1, y1), (x2, y2), (x3, y3), (x4, y4)] (by simp) _ (hW.below (hal W)) (RowTx.four W 24 x1 y1 x2 y2 x3 y3 x4 y4)
  by_cases hg : ∀ i, i < 4 → goodT (ptOf [(x1, y1), (x2, y2), (x3, y3), (x4, y4)] i)
  · obtain ⟨a, ea, ha⟩ := good_pt (hg 0 (by omega))
    obtain ⟨b, eb, hb⟩ := good_pt (hg 1 (by omega))
    obtain ⟨c, ec, hc⟩ := good_pt (hg 2 (by omega))
    obtain ⟨d, ed, hd⟩ := good_pt (hg 3 (by omega))
    simp only [ptOf, List.getElem?_cons_zero, List.getElem?_cons_succ, Option.getD_some, Prod.mk.injEq] at ea eb ec ed
    obtain ⟨rfl, rfl⟩ := ea; obtain ⟨rfl, rfl⟩ := eb; obtain ⟨rfl, rfl⟩ := ec; obtain ⟨rfl, rfl⟩ := ed
    have seg : ∀ p q r s : Pt, szP p 36 → szP q 36 → szP r 36 → szP s 36 → ∀ v : Int, meet p q r s = v → Hid (∀ W : World, Wd W → Calls Tryz.prog 14 #[ptV p, ptV q, ptV r, ptV s] W fun e w' => e = .returned (.tuple #[.int .i64 v, .int .i64 0]) ∧ Below W.heap.size W w') :=
      fun p q r s h1 h2 h3 h4 v hv => Lib.hid fun W hW => by rw [← hv]; exact segments_ok p q r s h1 h2 h3 h4 W hW
    refine segs_good _ _ _ _ _ _ _ _ (meet a b c d) (meet a b a c) (meet a b a b) (meet_range a b c d) (meet_end a b c) ⟨fun h => ?_, fun h => ?_⟩ (fun h => ?_) (Lib.hid fun W hW => ?_) w AW
      (seg a b c d ha hb hc hd _ rfl) (seg b a c d hb ha hc hd _ (meet_swap1 a b c d)) (seg a b d c ha hb hd hc _ (meet_swap2 a b c d)) (seg c d a b hc hd ha hb _ (meet_comm a b c d))
      (seg d c b a hd hc hb ha _ (by rw [meet_comm, meet_swap1, meet_swap2])) (seg a b a c ha hb ha hc _ rfl) (seg a b a b ha hb ha hb _ rfl) (Lib.hid hw)
    · rw [meet_own, if_pos (pt_eq h)]
    · rw [meet_own, if_neg (fun e => h (by rw [e]; exact ⟨rfl, rfl⟩))]
    · rcases h with h | h
      · rw [pt_eq h]; exact meet_point b c d
      · rw [pt_eq h, ← meet_comm]; exact meet_point d a b
    · refine (hsh W hW).mono ?_
      rintro e w' ⟨t, rfl, ht, hb'⟩
      refine ⟨?_, (hal W).trans (hb'.mono (by simp))⟩
      rw [ht.2 hg]
  · refine segs_bad _ _ _ _ _ _ _ _ (Lib.hid fun W hW => ?_) w AW (Lib.hid hw)
    refine (hsh W hW).mono ?_
    rintro e w' ⟨t, rfl, ht, hb'⟩
    refine ⟨?_, (hal W).trans (hb'.mono (by simp))⟩
    cases t
    · rfl
    · exact absurd (ht.1 rfl) hg
end Go.Proofs.YtapfekcbbhhieaaGreatDoor

namespace Go.Proofs.YtapfekcbbhhieaaGreatDoor
open Go.RowKit Go.Shelf Lib Str Limb Geo
attribute [local go_sem] Oper.semAt_some

theorem infoNum : (Tryz.prog.info? 22).map (fun i => (i.zero, i.size, i.bytes)) = some (some (St []), 1, 16) := by kernel_rfl

theorem ownsRow_kept {W W' : World} (h : CellsKept W W') {B : Nat} {e : TypeId} {s : Nat} {v : Value} {n : Nat} {xs : List Value} (ho : W.ownsRow B e s v n xs) : W'.ownsRow B e s v n xs := by
  obtain ⟨hl, ho⟩ := ho
  refine ⟨hl, ?_⟩
  rcases ho with ho | ⟨g, cap, cur, e, hb, hg, hr⟩
  · exact .inl ho
  · exact .inr ⟨g, cap, cur, e, hb, h _ _ _ _ hg, hr⟩

theorem upon_append {P : Program} (C' : Value → World → Prop) {o : Oper} {a : Act} (w : World) (s x : Operand) (t : TypeId)
    (ho : o.op = .call { callee := .builtin .append, args := #[s, x], argTypes := #[t, t] })
    (base : Nat) (e : TypeId) (i : TypeInfo) (z : Value) (size bytes : Nat) (ht : P.underlying t = some (.slice e)) (hi : P.info? e = some i) (hz : i.zero = some z)
    (hsize : i.size = size) (hby : i.bytes = bytes) (hzs : z.cells.size = size) (hsz : 0 < size)
    (v : Value) (n : Nat) (xs : List Value) (hs : a.eval s = v) (hown : w.ownsRow base e size v n xs)
    (ad : Addr) (m c : Nat) (news : List Value) (hx : a.eval x = .slice (some ad) m c) (hl : news.length = m * size) (hnews : ∀ j u, news[j]? = some u → w.cell? (ad.add j) = some u) (h1 : ∀ u ∈ news, u.oneCell' = true)
    (h63 : n + m ≤ maxLen) (hbytes : (n + m) * bytes ≤ 140737488355328) (hbase : base ≤ w.heap.size)
    (h : ∀ v' w', w'.ownsRow base e size v' (n + m) (xs ++ news) → w.grownBy w' v.ownBlock → C' v' w') : acUponB P C' ((execOp a.eval o).run P w) := by
  obtain ⟨v', w', hr, h2, h3, h4⟩ := run_append_own (P := P) w base t o.type e i z size bytes ht hi hz hsize hby hzs hsz v n xs hown ad m c news hl hnews h1 h63 hbytes hbase
  unfold execOp
  simp only [ho, resolve, invoke, builtin, Sem.run_bind, Sem.run_pure, Result.andThen_ok, List.map_toArray, List.map_cons, List.map_nil, hs, hx, hr]
  exact h v' w' h2 h3

/-- A segment's box. -/
def SegB (b : Nat) (x y : Pt) (W : World) : Prop := W.heap[b]? = some (.cells #[St (numS x.x), St (numS x.y), St (numS y.x), St (numS y.y)] 69 (0, 0))
theorem SegB.at {b : Nat} {x y : Pt} {W : World} (h : SegB b x y W) : SegAt b x y W := by
  constructor <;> (rw [Go.Joins.cell_of_block h]; rfl)

/-- Twice the area that a side adds. -/
def termS (l : List Pt) (k : Nat) : Rat := (cor l k).x * (cor l (k + 1)).y - (cor l (k + 1)).x * (cor l k).y
/-- The terms of the first k sides. -/
def termsV (l : List Pt) (k : Nat) : List Value := (List.range k).map fun i => St (numS (termS l i))
theorem termsV_succ (l : List Pt) (k : Nat) : termsV l (k + 1) = termsV l k ++ [St (numS (termS l k))] := by simp [termsV, List.range_succ]

/-- What is known of the memory in Area. -/
structure AreaS (w : World) (p : Option Addr) (cap n : Nat) (l : List Pt) (bt j : Nat) (W : World) : Prop where
  bel : Below w.heap.size w W
  bt1 : w.heap.size ≤ bt
  pts : ∀ i, i < n → ∃ b off, p = some ⟨b, off, none⟩ ∧ b < w.heap.size ∧ W.cell? ⟨b, off + i * 2, none⟩ = some (St (ptOf (txt l) i).1) ∧ W.cell? ⟨b, off + i * 2 + 1, none⟩ = some (St (ptOf (txt l) i).2)
  cbx : W.cell? ⟨bt + 1, 0, none⟩ = some (.slice p n cap)
  box : ∃ v, W.cell? ⟨bt, 0, none⟩ = some v ∧ W.ownsRow (bt + 2) 22 1 v j (termsV l j)
  fr : W.frozen? ⟨bt, 0, none⟩ = false
theorem AreaS.keep {w : World} {p : Option Addr} {cap n : Nat} {l : List Pt} {bt j : Nat} {W W' : World} (h : AreaS w p cap n l bt j W) (hc : CellsKept W W') (hb : Below w.heap.size W W') : AreaS w p cap n l bt j W' :=
  ⟨h.bel.trans hb, h.bt1, fun i hi => let ⟨b, off, e, h0, h1, h2⟩ := h.pts i hi; ⟨b, off, e, h0, hc.cell h1, hc.cell h2⟩, hc.cell h.cbx, let ⟨v, h1, h2⟩ := h.box; ⟨v, hc.cell h1, ownsRow_kept hc h2⟩, let ⟨v, h1, h2⟩ := h.box; hc.frozen h1 h.fr⟩
theorem AreaS.ptsAt {w : World} {p : Option Addr} {cap n : Nat} {l : List Pt} {bt j : Nat} {W : World} (hn : n = l.length) (h : AreaS w p cap n l bt j W) : PtsAt (bt + 1) p cap (txt l) W :=
  ⟨by rw [txt_length, ← hn]; exact h.cbx, fun i hi => let ⟨b, off, e, _, h1, h2⟩ := h.pts i (by rw [txt_length] at hi; omega); ⟨b, off, e, h1, h2⟩⟩

theorem area_step {w : World} {p : Option Addr} {cap n : Nat} {l : List Pt} {bt j : Nat} {W Y Z : World} {v v' : Value} (h : AreaS w p cap n l bt j W) (hv : W.cell? ⟨bt, 0, none⟩ = some v) (hown : W.ownsRow (bt + 2) 22 1 v j (termsV l j))
    (hY : Below W.heap.size W Y) (hZ : Y.grownBy Z v.ownBlock) (hz : Z.ownsRow (bt + 2) 22 1 v' (j + 1) (termsV l (j + 1))) (B : Nat) :
    KeepsFrom B W (Z.setCell ⟨bt, 0, none⟩ v') ∧ AreaS w p cap n l bt (j + 1) (Z.setCell ⟨bt, 0, none⟩ v') := by
  have ck := cellsKept_below hY
  have hS := h.keep ck (hY.mono h.bel.size)
  have ho := ownsRow_kept ck hown
  have hlt : ∀ q, v.ownBlock = some q → bt + 2 ≤ q := fun q e => (ho.lt q e).1
  have hne : ∀ b, b < bt + 2 → some b ≠ v.ownBlock := fun b hb e => by have := hlt b e.symm; omega
  have hbt := h.bt1
  have cz : ∀ {b o : Nat} {x : Value}, b < bt + 2 → Y.cell? ⟨b, o, none⟩ = some x → Z.cell? ⟨b, o, none⟩ = some x := fun hb hc => hZ.cell hc (hne _ hb)
  have hYs : bt < Y.heap.size := cell_lt (ck.cell hv)
  refine ⟨?_, ?_, hbt, fun i hi => ?_, ?_, ⟨v', ?_, ?_⟩, ?_⟩
  · refine ((keeps_of_below hY).from B).trans (((KeepsOthers.of_grownBy hZ ?_).from B).trans ((KeepsOthers.setCell _ _ _).from B))
    intro q o e hq
    rcases ho.2 with ⟨rfl, _⟩ | ⟨g, cp, cur, rfl, _, hg, _⟩
    · simp [Value.ownBlock] at e
    · simp [Value.ownBlock] at e; subst e; rw [hg] at hq; cases hq; rfl
  · exact ((hS.bel.grown hZ (by have := cell_lt hS.cbx; simp at this; omega) (fun q e => by have := hlt q e; omega))).setCell (by simpa using hbt) _
  · obtain ⟨b, off, e, h0, h1, h2⟩ := hS.pts i hi
    exact ⟨b, off, e, h0, by rw [cell_ne _ _ _ _ (by omega)]; exact cz (by omega) h1, by rw [cell_ne _ _ _ _ (by omega)]; exact cz (by omega) h2⟩
  · rw [cell_ne _ _ _ _ (by omega)]; exact cz (by omega) hS.cbx
  · exact cell_eq (cz (by omega) (ck.cell hv))
  · exact ownsRow_setCell_below hz (by simp) _
  · rw [World.frozen?_setCell, World.frozen?_of_block (a := ⟨bt, 0, none⟩) (hZ.block bt hYs (hne bt (by omega)))]; exact hS.fr

/-- What is known while a term is appended. -/
structure AppS (W : World) (v : Value) (u : List UInt8) (bt j : Nat) (xs : List Value) (b : Nat × Value) (f : Nat → Bool) (X : World) : Prop where
  pre : f 17 = false → Below W.heap.size W X
  new : f 17 = false → f 16 = true → X.cell? ⟨b.1, 0, none⟩ = some (St u)
  post : f 17 = true → ∃ Y Z, Below W.heap.size W Y ∧ Y.grownBy Z v.ownBlock ∧ Z.ownsRow (bt + 2) 22 1 b.2 (j + 1) (xs ++ [St u]) ∧ X = if f 18 = true then Z.setCell ⟨bt, 0, none⟩ b.2 else Z
theorem AppS.congr {W : World} {v : Value} {u : List UInt8} {bt j : Nat} {xs : List Value} {b : Nat × Value} {f g : Nat → Bool} {X : World} (h : AppS W v u bt j xs b f X) (e16 : g 16 = f 16) (e17 : g 17 = f 17) (e18 : g 18 = f 18) : AppS W v u bt j xs b g X :=
  ⟨by rw [e17]; exact h.pre, by rw [e16, e17]; exact h.new, by rw [e17, e18]; exact h.post⟩

set_option maxRecDepth 100000 in
set_option maxHeartbeats 4000000 in
theorem area_walk (p : Option Addr) (cap : Nat) (l : List Pt) (h3 : 3 ≤ l.length) (hlen : l.length ≤ 4096) (r : Rat)
    (C : Hid (∀ W : World, Wd W → RowPts p l W → Calls Tryz.prog 31 #[.slice p l.length cap] W fun e w' => e = .returned (.int .i64 0) ∧ Below W.heap.size W w'))
    (M1 : Hid (∀ k, k < l.length → ∀ W : World, Wd W → Calls Tryz.prog 34 #[St (numS (cor l k).x), St (numS (cor l (k + 1)).y)] W fun e w' => e = .returned (St (numS ((cor l k).x * (cor l (k + 1)).y))) ∧ Below W.heap.size W w'))
    (M2 : Hid (∀ k, k < l.length → ∀ W : World, Wd W → Calls Tryz.prog 34 #[St (numS (cor l (k + 1)).x), St (numS (cor l k).y)] W fun e w' => e = .returned (St (numS ((cor l (k + 1)).x * (cor l k).y))) ∧ Below W.heap.size W w'))
    (SB : Hid (∀ k, k < l.length → ∀ W : World, Wd W → Calls Tryz.prog 33 #[St (numS ((cor l k).x * (cor l (k + 1)).y)), St (numS ((cor l (k + 1)).x * (cor l k).y))] W fun e w' => e = .returned (St (numS (termS l k))) ∧ Below W.heap.size W w'))
    (SM : Hid (∀ p cap, ∀ W : World, Wd W → RowNums p l.length (termS l) W → Calls Tryz.prog 35 #[.slice p l.length cap] W fun e w' => e = .returned (.tuple #[St (numS (psum (termS l) l.length)), .int .i64 0]) ∧ Below W.heap.size W w'))
    (DV : Hid (∀ W : World, Wd W → Calls Tryz.prog 36 #[St (numS (psum (termS l) l.length)), .string ⟨#[50]⟩] W fun e w' => e = .returned (.tuple #[St (numS r), .int .i64 0]) ∧ Below W.heap.size W w'))
    (w : World) (HW : Hid (Wd w)) (HP : Hid (RowPts p l w)) :
    Calls Tryz.prog 12 #[.slice p l.length cap] w fun e w' => e = .returned (.tuple #[St (numS r), .int .i64 0]) ∧ Below w.heap.size w w' := by
  obtain ⟨i0, hi, hz0, hz1, hz2⟩ := info_parts infoNum
  refine (callsIn_wide (n := 3)).1 ?_
  refine callsIn_of_wp_marks Tryz.func12 rfl trivial ?_ rfl
  simp only [Tryz.ntmps12, List.size_toArray, List.length_cons, List.length_nil, Nat.reduceAdd, Nat.reduceSub, Array.replicate_succ, Array.replicate_zero, List.push_toArray, List.append_toArray, List.nil_append, List.cons_append]
  obtain ⟨n, hn⟩ : ∃ n, n = l.length := ⟨_, rfl⟩
  have hCk := C.out w HW.out HP.out
  rw [← hn] at h3 hlen hCk ⊢
  have HN := Lib.hid hn; clear hn
  have HCk := Lib.hid hCk; clear hCk C
  gi_wp2
  refine ⟨trivial, (callsIn_wide.2 HCk.out).mono ?_⟩
  rintro e w1 ⟨rfl, hb1⟩
  have HB1 := Lib.hid hb1; clear hb1 HCk
  gi_wp2_with (refine ⟨trivial, ?_⟩; gi_at_call 32; refine (callsIn_wide.2 (sides_any _ _ _ _ _ rfl)).mono ?_; rintro e w' ⟨rfl, rfl⟩)
  obtain ⟨W1, hW1⟩ : ∃ W1, W1 = (w1.alloc (.cells #[.slice none 0 0] 64)).alloc (.cells #[.slice p n cap] 26) := ⟨_, rfl⟩
  rw [← hW1]
  have hS1 : AreaS w p cap n l w1.heap.size 0 W1 := by
    have hb := HB1.out
    have b1 := (Boxed.new w1 64 (.slice none 0 0)).alloc (.cells #[.slice p n cap] 26)
    have b2 := Boxed.new (w1.alloc (.cells #[.slice none 0 0] 64)) 26 (.slice p n cap)
    rw [World.size_alloc] at b2
    have hw : Below w1.heap.size w1 ((w1.alloc (.cells #[.slice none 0 0] 64)).alloc (.cells #[.slice p n cap] 26)) := ((Below.refl _ w1).alloc (Nat.le_refl _) _).alloc (by simp) _
    rw [hW1]
    refine ⟨hb.trans (hw.mono hb.size), hb.size, fun i hi => ?_, b2.cell, ⟨_, b1.cell, World.ownsRow_nil _ _ _ _⟩, b1.frozen⟩
    obtain ⟨b, off, e, h1, h2⟩ := HP.out i (by rw [← HN.out]; exact hi)
    exact ⟨b, off, e, cell_lt h1, below_cell hw (below_cell hb h1), below_cell hw (below_cell hb h2)⟩
  have hsz1 : W1.heap.size = w1.heap.size + 2 := by rw [hW1]; simp
  clear hW1
  have HS1 := Lib.hid hS1.bel.size
  have HZ := Lib.hid hsz1
  have hw1 : w.heap.size ≤ w1.heap.size := HB1.out.size
  have hseq := sides_ix 2 (by omega) (w1.heap.size + 1) (txt l) (by rw [txt_length, ← HN.out]; omega) (fun W => ∃ j, AreaS w p cap n l w1.heap.size j W) p cap (fun W ⟨j, h⟩ => h.ptsAt HN.out)
  rw [txt_length, ← HN.out] at hseq
  refine range_out (n := 3) (B := w.heap.size) rfl (by omega) rfl trivial (enters_of Tryz.func64 (by kernel_rfl) rfl) hseq (fun k args h => by subst h; rfl) hS1.bel.size
    (fun j W => AreaS w p cap n l w1.heap.size j W) (fun c _ W => False)
    (fun j X Y h hc hb => h.keep hc hb) (fun c j X Y h hc hb => h) (fun j W h => ⟨j, h⟩) hS1
    (fun j _ a' W => ∃ bs, a' = { tmps := #[Value.slice p n cap, undef, .string ⟨#[]⟩, .int .i64 0, .pointer (some ⟨w1.heap.size, 0, none⟩), undef, .pointer (some ⟨bs, 0, none⟩), undef, undef, Value.slice p n cap, .int .i64 0, .bool false, Value.slice p n cap, Value.func (Fn.func 64) #[] #[.pointer (some ⟨w1.heap.size + 1, 0, none⟩)], I j, segV (cor l j) (cor l (j + 1)), undef, undef, undef, undef, undef, undef, undef, undef, undef, undef, undef, undef, undef, undef, undef, undef, undef, undef, undef, undef, undef, undef, undef, undef, undef, undef, undef, undef, undef, undef], defers := [] } ∧ SegB bs (cor l j) (cor l (j + 1)) W)
    (fun j _ a' X Y h hc hb => let ⟨bs, e, h2⟩ := h; ⟨bs, e, hc _ _ _ _ h2⟩) ?assign ?body ?done ?stop
  case assign =>
    rintro lp j args W K hlp hrec hS hj rfl hK
    rw [side_txt l j (by rw [← HN.out]; exact hj)]
    have HK := Lib.hid hK; clear hK
    unfold segV
    gi_wp2
    have hb1 : Below W.heap.size W (W.alloc (.cells #[St (numS (cor l j).x), St (numS (cor l j).y), St (numS (cor l (j + 1)).x), St (numS (cor l (j + 1)).y)] 69)) := (Below.refl _ W).alloc (Nat.le_refl _) _
    exact HK.out _ _ ((keeps_of_below hb1).from _) (hS.keep (cellsKept_below hb1) (hb1.mono hS.bel.size)) ⟨W.heap.size, rfl, World.alloc_heap_new W _⟩
  case body =>
    rintro lp j args a' W hlp ⟨r', hr'⟩ hS hj rfl ⟨bs, rfl, hseg⟩
    have hjl : j < l.length := by rw [← HN.out]; exact hj
    have m1 := Lib.hid (M1.out j hjl); have m2 := Lib.hid (M2.out j hjl); have sb := Lib.hid (SB.out j hjl)
    obtain ⟨v, hv, hown⟩ := hS.box
    have H0 := Lib.hid hS
    have HT := Lib.hid (termsV_succ l j)
    have HO := Lib.hid hown
    obtain ⟨u1, hu1⟩ : ∃ u, u = numS ((cor l j).x * (cor l (j + 1)).y) := ⟨_, rfl⟩
    obtain ⟨u2, hu2⟩ : ∃ u, u = numS ((cor l (j + 1)).x * (cor l j).y) := ⟨_, rfl⟩
    obtain ⟨u3, hu3⟩ : ∃ u, u = numS (termS l j) := ⟨_, rfl⟩
    rw [← hu1] at m1 sb; rw [← hu2] at m2 sb; rw [← hu3] at sb HT
    obtain ⟨q1, q2, q3, q4⟩ := hseg.at
    clear hseg
    unfold segV
    generalize numS (cor l j).x = x1 at *
    generalize numS (cor l j).y = y1 at *
    generalize numS (cor l (j + 1)).x = x2 at *
    generalize numS (cor l (j + 1)).y = y2 at *
    have HQ := Lib.hid (⟨hv, q1, q2, q3, q4⟩ : W.cell? ⟨w1.heap.size, 0, none⟩ = some v ∧ W.cell? ⟨bs, 0, none⟩ = some (St x1) ∧ W.cell? ⟨bs, 1, none⟩ = some (St y1) ∧ W.cell? ⟨bs, 2, none⟩ = some (St x2) ∧ W.cell? ⟨bs, 3, none⟩ = some (St y2))
    clear q1 q2 q3 q4 hv hown hu1 hu2 hu3 hseq hS1 hr' hS M1 M2 SB SM DV
    gi_wp2
    have hbl := H0.out.bel
    have hks : ∀ w' : World, Below W.heap.size W w' → w'.cell? ⟨w1.heap.size, 0, none⟩ = some v ∧ w'.cell? ⟨bs, 0, none⟩ = some (St x1) ∧ w'.cell? ⟨bs, 1, none⟩ = some (St y1) ∧ w'.cell? ⟨bs, 2, none⟩ = some (St x2) ∧ w'.cell? ⟨bs, 3, none⟩ = some (St y2) := fun w' hb =>
      ⟨below_cell hb HQ.out.1, below_cell hb HQ.out.2.1, below_cell hb HQ.out.2.2.1, below_cell hb HQ.out.2.2.2.1, below_cell hb HQ.out.2.2.2.2⟩
    have KS := Lib.hid hks; clear hks
    have HV := Lib.hid HQ.out.1
    refine wpIn_region_acb (fun (b : Nat × Value) i => ([v, .pointer (some ⟨bs, 0, none⟩), .pointer (some ⟨bs, 0, none⟩), St x1, .pointer (some ⟨bs, 2, none⟩), .pointer (some ⟨bs, 3, none⟩), St y2, St u1, .pointer (some ⟨bs, 2, none⟩), .pointer (some ⟨bs, 2, none⟩), St x2, .pointer (some ⟨bs, 0, none⟩), .pointer (some ⟨bs, 1, none⟩), St y1, St u2, St u3, .slice (some ⟨b.1, 0, none⟩) 1 1, b.2] : List Value).getD i undef) (AppS W v u3 w1.heap.size j (termsV l j)) (by kernel_rfl) (by kernel_rfl) (by kernel_rfl) (0, v) ⟨fun _ => (Below.refl _ W).drew, fun _ h => (by cases h), fun h => (by cases h)⟩ fun b => ?_
    refine acB_read (v) (by rfl) (by rfl) (fun f W' h => h.congr rfl rfl rfl) (fun f W' hf h => by have g := KS.out _ (h.pre (hf.no (j := 17) hf.self (by kernel_rfl))); obtain ⟨q0, q1, q2, q3, q4⟩ := g; go_simp) ?_
    try simp only [Act.put, List.setIfInBounds_toArray, List.set_cons_zero, List.set_cons_succ]
    refine acB_read (.pointer (some ⟨bs, 0, none⟩)) (by rfl) (by rfl) (fun f W' h => h.congr rfl rfl rfl) (fun f W' hf h => by go_simp) ?_
    try simp only [Act.put, List.setIfInBounds_toArray, List.set_cons_zero, List.set_cons_succ]
    refine acB_read (.pointer (some ⟨bs, 0, none⟩)) (by rfl) (by rfl) (fun f W' h => h.congr rfl rfl rfl) (fun f W' hf h => by go_simp) ?_
    try simp only [Act.put, List.setIfInBounds_toArray, List.set_cons_zero, List.set_cons_succ]
    refine acB_read (St x1) (by rfl) (by rfl) (fun f W' h => h.congr rfl rfl rfl) (fun f W' hf h => by have g := KS.out _ (h.pre (hf.no (j := 17) (hf.no (j := 16) (hf.no (j := 15) (hf.no (j := 7) hf.self (by kernel_rfl)) (by kernel_rfl)) (by kernel_rfl)) (by kernel_rfl))); obtain ⟨q0, q1, q2, q3, q4⟩ := g; go_simp) ?_
    try simp only [Act.put, List.setIfInBounds_toArray, List.set_cons_zero, List.set_cons_succ]
    refine acB_read (.pointer (some ⟨bs, 2, none⟩)) (by rfl) (by rfl) (fun f W' h => h.congr rfl rfl rfl) (fun f W' hf h => by go_simp) ?_
    try simp only [Act.put, List.setIfInBounds_toArray, List.set_cons_zero, List.set_cons_succ]
    refine acB_read (.pointer (some ⟨bs, 3, none⟩)) (by rfl) (by rfl) (fun f W' h => h.congr rfl rfl rfl) (fun f W' hf h => by go_simp) ?_
    try simp only [Act.put, List.setIfInBounds_toArray, List.set_cons_zero, List.set_cons_succ]
    refine acB_read (St y2) (by rfl) (by rfl) (fun f W' h => h.congr rfl rfl rfl) (fun f W' hf h => by have g := KS.out _ (h.pre (hf.no (j := 17) (hf.no (j := 16) (hf.no (j := 15) (hf.no (j := 7) hf.self (by kernel_rfl)) (by kernel_rfl)) (by kernel_rfl)) (by kernel_rfl))); obtain ⟨q0, q1, q2, q3, q4⟩ := g; go_simp) ?_
    try simp only [Act.put, List.setIfInBounds_toArray, List.set_cons_zero, List.set_cons_succ]
    refine acB_value (St u1) (by rfl) (by rfl) (fun f W' hf h C' hC' => by
      have h17 := (hf.no (j := 17) (hf.no (j := 16) (hf.no (j := 15) hf.self (by kernel_rfl)) (by kernel_rfl)) (by kernel_rfl))
      have h16 := (hf.no (j := 16) (hf.no (j := 15) hf.self (by kernel_rfl)) (by kernel_rfl))
      have hp := h.pre h17
      go_simp
      refine (m1.out _ (HW.out.below (hbl.trans (hp.mono hbl.size)))).mono ?_
      rintro e w' ⟨rfl, hb⟩
      exact ⟨_, rfl, hC' _ ⟨fun _ => hp.trans (hb.mono hp.size), fun _ k => (by have k' : f 16 = true := k; rw [h16] at k'; cases k'), fun k => (by have k' : f 17 = true := k; rw [h17] at k'; cases k')⟩⟩) ?_
    try simp only [Act.put, List.setIfInBounds_toArray, List.set_cons_zero, List.set_cons_succ]
    refine acB_read (.pointer (some ⟨bs, 2, none⟩)) (by rfl) (by rfl) (fun f W' h => h.congr rfl rfl rfl) (fun f W' hf h => by go_simp) ?_
    try simp only [Act.put, List.setIfInBounds_toArray, List.set_cons_zero, List.set_cons_succ]
    refine acB_read (.pointer (some ⟨bs, 2, none⟩)) (by rfl) (by rfl) (fun f W' h => h.congr rfl rfl rfl) (fun f W' hf h => by go_simp) ?_
    try simp only [Act.put, List.setIfInBounds_toArray, List.set_cons_zero, List.set_cons_succ]
    refine acB_read (St x2) (by rfl) (by rfl) (fun f W' h => h.congr rfl rfl rfl) (fun f W' hf h => by have g := KS.out _ (h.pre (hf.no (j := 17) (hf.no (j := 16) (hf.no (j := 15) (hf.no (j := 14) hf.self (by kernel_rfl)) (by kernel_rfl)) (by kernel_rfl)) (by kernel_rfl))); obtain ⟨q0, q1, q2, q3, q4⟩ := g; go_simp) ?_
    try simp only [Act.put, List.setIfInBounds_toArray, List.set_cons_zero, List.set_cons_succ]
    refine acB_read (.pointer (some ⟨bs, 0, none⟩)) (by rfl) (by rfl) (fun f W' h => h.congr rfl rfl rfl) (fun f W' hf h => by go_simp) ?_
    try simp only [Act.put, List.setIfInBounds_toArray, List.set_cons_zero, List.set_cons_succ]
    refine acB_read (.pointer (some ⟨bs, 1, none⟩)) (by rfl) (by rfl) (fun f W' h => h.congr rfl rfl rfl) (fun f W' hf h => by go_simp) ?_
    try simp only [Act.put, List.setIfInBounds_toArray, List.set_cons_zero, List.set_cons_succ]
    refine acB_read (St y1) (by rfl) (by rfl) (fun f W' h => h.congr rfl rfl rfl) (fun f W' hf h => by have g := KS.out _ (h.pre (hf.no (j := 17) (hf.no (j := 16) (hf.no (j := 15) (hf.no (j := 14) hf.self (by kernel_rfl)) (by kernel_rfl)) (by kernel_rfl)) (by kernel_rfl))); obtain ⟨q0, q1, q2, q3, q4⟩ := g; go_simp) ?_
    try simp only [Act.put, List.setIfInBounds_toArray, List.set_cons_zero, List.set_cons_succ]
    refine acB_value (St u2) (by rfl) (by rfl) (fun f W' hf h C' hC' => by
      have h17 := (hf.no (j := 17) (hf.no (j := 16) (hf.no (j := 15) hf.self (by kernel_rfl)) (by kernel_rfl)) (by kernel_rfl))
      have h16 := (hf.no (j := 16) (hf.no (j := 15) hf.self (by kernel_rfl)) (by kernel_rfl))
      have hp := h.pre h17
      go_simp
      refine (m2.out _ (HW.out.below (hbl.trans (hp.mono hbl.size)))).mono ?_
      rintro e w' ⟨rfl, hb⟩
      exact ⟨_, rfl, hC' _ ⟨fun _ => hp.trans (hb.mono hp.size), fun _ k => (by have k' : f 16 = true := k; rw [h16] at k'; cases k'), fun k => (by have k' : f 17 = true := k; rw [h17] at k'; cases k')⟩⟩) ?_
    try simp only [Act.put, List.setIfInBounds_toArray, List.set_cons_zero, List.set_cons_succ]
    refine acB_value (St u3) (by rfl) (by rfl) (fun f W' hf h C' hC' => by
      have h17 := (hf.no (j := 17) (hf.no (j := 16) hf.self (by kernel_rfl)) (by kernel_rfl))
      have h16 := (hf.no (j := 16) hf.self (by kernel_rfl))
      have hp := h.pre h17
      go_simp
      refine (sb.out _ (HW.out.below (hbl.trans (hp.mono hbl.size)))).mono ?_
      rintro e w' ⟨rfl, hb⟩
      exact ⟨_, rfl, hC' _ ⟨fun _ => hp.trans (hb.mono hp.size), fun _ k => (by have k' : f 16 = true := k; rw [h16] at k'; cases k'), fun k => (by have k' : f 17 = true := k; rw [h17] at k'; cases k')⟩⟩) ?_
    try simp only [Act.put, List.setIfInBounds_toArray, List.set_cons_zero, List.set_cons_succ]
    refine acB_new (.slice (some ⟨b.1, 0, none⟩) 1 1) (by rfl) (by rfl) (fun f W' hf h C' hC' => by
      have h17 := (hf.no (j := 17) hf.self (by kernel_rfl))
      have hp := h.pre h17
      have ha : Below W'.heap.size W' (W'.alloc (.cells #[St u3] 22)) := (Below.refl _ W').alloc (Nat.le_refl _) _
      have := hC' (W'.heap.size, b.2) (W'.alloc (.cells #[St u3] 22)) (fun i hi => ?_) ⟨fun _ => hp.trans (ha.mono hp.size), fun _ _ => (Boxed.new W' 22 (St u3)).cell, fun k => (by have k' : f 17 = true := k; rw [h17] at k'; cases k')⟩
      · go_simp
        exact this
      · match i, hi with
        | 0, _ | 1, _ | 2, _ | 3, _ | 4, _ | 5, _ | 6, _ | 7, _ | 8, _ | 9, _ | 10, _ | 11, _ | 12, _ | 13, _ | 14, _ | 15, _ | 17, _ => rfl
        | 16, hi => rw [hf.self] at hi; cases hi
        | _ + 18, _ => rfl) ?_
    try simp only [Act.put, List.setIfInBounds_toArray, List.set_cons_zero, List.set_cons_succ]
    refine acB_new b.2 (by rfl) (by rfl) (fun f W' hf h C' hC' => by
      have h17 := hf.self
      have h18 := (hf.no (j := 18) hf.self (by kernel_rfl))
      have h16 := hf.done 16 (by kernel_rfl)
      have hp := h.pre h17
      have hn := h.new h17 h16
      have hc := cellsKept_below hp
      refine upon_append _ W' _ _ 64 rfl (w1.heap.size + 2) 22 i0 (St []) 1 16 Tryz.underlying64 hi hz0 hz1 hz2 rfl (by decide) v j (termsV l j) rfl (ownsRow_kept hc HO.out) ⟨b.1, 0, none⟩ 1 1 [St u3] rfl rfl (fun i u hu => ?_) (fun u hu => by simp at hu; subst hu; rfl) (by unfold maxLen; omega) (by omega) (by have := cell_lt (hc.cell H0.out.cbx); simp at this; omega) (fun v' w' hown' hgrow => ?_)
      · match i, hu with
        | 0, hu => simp at hu; subst hu; exact hn
        | _ + 1, hu => simp at hu
      · refine hC' (b.1, v') w' (fun i hi => ?_) ⟨fun k => ?_, fun k => ?_, fun _ => ⟨W', w', hp, hgrow, hown', ?_⟩⟩
        · match i, hi with
          | 0, _ | 1, _ | 2, _ | 3, _ | 4, _ | 5, _ | 6, _ | 7, _ | 8, _ | 9, _ | 10, _ | 11, _ | 12, _ | 13, _ | 14, _ | 15, _ | 16, _ => rfl
          | 17, hi => rw [hf.self] at hi; cases hi
          | _ + 18, _ => rfl
        · cases k
        · cases k
        · show w' = if f 18 = true then _ else w'
          rw [h18]; rfl) ?_
    try simp only [Act.put, List.setIfInBounds_toArray, List.set_cons_zero, List.set_cons_succ]
    refine acB_value undef (by rfl) (by rfl) (fun f W' hf h C' hC' => by
      have h17 := hf.done 17 (by kernel_rfl)
      have h18 := hf.self
      obtain ⟨Y, Z, hY, hZ, hz, rfl⟩ := h.post h17
      rw [h18, if_neg (by simp)] at *
      have hst := area_step H0.out HV.out HO.out hY hZ (by rw [HT.out]; exact hz) 0
      have ck := cellsKept_below hY
      have hlt : some w1.heap.size ≠ v.ownBlock := fun e => by have := ((ownsRow_kept ck HO.out).lt _ e.symm).1; omega
      have hcell := hZ.cell (ck.cell HV.out) hlt
      have hfr : Z.frozen? ⟨w1.heap.size, 0, none⟩ = false := by
        rw [World.frozen?_of_block (a := ⟨w1.heap.size, 0, none⟩) (hZ.block _ (cell_lt (ck.cell HV.out)) hlt)]; exact ck.frozen HV.out H0.out.fr
      have := hC' (Z.setCell ⟨w1.heap.size, 0, none⟩ b.2) ⟨fun k => (by have k' : f 17 = false := k; rw [h17] at k'; cases k'), fun k => (by have k' : f 17 = false := k; rw [h17] at k'; cases k'), fun _ => ⟨Y, Z, hY, hZ, hz, rfl⟩⟩
      obtain ⟨q, m, c, e2⟩ : ∃ q m c, b.2 = .slice q m c := by
        rcases hz.2 with ⟨e, _⟩ | ⟨g, cp, cur, e, _⟩ <;> exact ⟨_, _, _, e⟩
      rw [e2] at this
      clear hst
      go_simp
      exact this) ?_
    try simp only [Act.put, List.setIfInBounds_toArray, List.set_cons_zero, List.set_cons_succ]
    refine acB_nil fun f X hf h => ?_
    obtain ⟨Y, Z, hY, hZ, hz, rfl⟩ := h.post (hf 17 (by decide))
    rw [if_pos (hf 18 (by decide))]
    have hst := area_step H0.out HV.out HO.out hY hZ (by rw [HT.out]; exact hz) W1.heap.size
    exact hst
  case done =>
    rintro D W hD hS hK
    obtain ⟨v, hv, hown⟩ := hS.box
    obtain ⟨q, c, rfl⟩ : ∃ q c, v = .slice q n c := by
      rcases hown.2 with ⟨_, e⟩ | ⟨g, cp, cur, e, _⟩
      · omega
      · exact ⟨_, _, e⟩
    have hrow : RowNums q l.length (termS l) W := by
      intro i hi
      obtain ⟨q', cap', e, _, hc⟩ := Sl.of_own hown
      have e1 := (Value.slice.inj e).1
      subst e1
      exact hc i _ (by unfold termsV; rw [List.getElem?_map, List.getElem?_range (by rw [HN.out]; exact hi)]; rfl)
    have hwd := HW.out.below hS.bel
    have hsm := SM.out q c W hwd hrow
    rw [← HN.out] at hsm
    have HSM := Lib.hid hsm
    have HX := Lib.hid (⟨hS.bel, hK⟩ : Below w.heap.size w W ∧ W.heap[D]? = some (.deferred (some [])))
    have hdv := DV.out; rw [← HN.out] at hdv
    have HDV := Lib.hid hdv
    clear hS hK hown hrow hwd hsm hdv hseq hS1 M1 M2 SB SM DV
    gi_wp2
    refine ⟨trivial, (callsIn_wide.2 HSM.out).mono ?_⟩
    rintro e W2 ⟨rfl, hb2⟩
    have hbl2 := HX.out.1.trans (hb2.mono HX.out.1.size)
    have HX2 := Lib.hid (⟨hbl2, (hb2.block _ (Array.getElem?_eq_some_iff.1 HX.out.2).1).trans HX.out.2⟩ : Below w.heap.size w W2 ∧ W2.heap[D]? = some (.deferred (some [])))
    clear hb2 hbl2 HX HSM
    gi_wp2
    refine ⟨trivial, (callsIn_wide.2 (HDV.out W2 (HW.out.below HX2.out.1))).mono ?_⟩
    rintro e W3 ⟨rfl, hb3⟩
    have hbl3 := HX2.out.1.trans (hb3.mono HX2.out.1.size)
    have HX3 := Lib.hid (⟨hbl3, (hb3.block _ (Array.getElem?_eq_some_iff.1 HX2.out.2).1).trans HX2.out.2⟩ : Below w.heap.size w W3 ∧ W3.heap[D]? = some (.deferred (some [])))
    clear hb3 hbl3 HX2
    gi_wp2
    refine ⟨by simp, .inl ⟨_, _, rfl, run_takeDeferred HX3.out.2, ?_⟩⟩
    refine ⟨.tuple #[St (numS r), .int .i64 0], by simp [results, Tryz.f12, go_sem], ⟨rfl, below_put HX3.out.1 (by have := HS1.out; omega) HX3.out.2⟩⟩
  case stop =>
    rintro D c j W hD h hK
    exact h.elim

theorem numS_two : numS 2 = [50] := by
  have : numS ((2 : Int) : Rat) = [50] := by rw [numS_ofInt]; show itoa ((2 : Nat) : Int) = _; rw [Str.itoa_nonneg, decDigits_small (by omega)]; rfl
  exact this
theorem sz_two : sz 2 1 := ⟨by decide, by decide⟩

/-- Area, where the polygon is right and no limit is met. -/
theorem area_ok (p : Option Addr) (cap : Nat) (l : List Pt) (h3 : 3 ≤ l.length) (hlen : l.length ≤ 4096) (hz : ∀ i, szP (cor l i) 36) (hs : sidesP l) (hm : simpleP l)
    (ht : ∀ k, k < l.length → ∃ i j, 0 < i ∧ 0 < j ∧ i + j < 300 ∧ sz (psum (termS l) k) i ∧ sz (termS l k) j) (m : Nat) (hm0 : 0 < m) (hm1 : m + 1 ≤ 300) (hmz : sz (psum (termS l) l.length) m)
    (w : World) (hw : Wd w) (hp : RowPts p l w) :
    Calls Tryz.prog 12 #[.slice p l.length cap] w fun e w' => e = .returned (.tuple #[St (numS (psum (termS l) l.length / 2)), .int .i64 0]) ∧ Below w.heap.size w w' := by
  refine area_walk p cap l h3 hlen _ (Lib.hid fun W hW hp => check_poly p cap l h3 hlen hz hs hm W hW hp)
    (Lib.hid fun k _ W hW => pmul_ok _ _ 36 36 (by omega) (by omega) (by omega) (hz _).1 (hz _).2 W hW) (Lib.hid fun k _ W hW => pmul_ok _ _ 36 36 (by omega) (by omega) (by omega) (hz _).1 (hz _).2 W hW)
    (Lib.hid fun k _ W hW => psub_ok _ _ 72 72 (by omega) (by omega) (by omega) (sz_mul (hz _).1 (hz _).2) (sz_mul (hz _).1 (hz _).2) W hW)
    (Lib.hid fun p cap W hW hp => sum_ok p cap l.length (termS l) hlen ht W hW hp) (Lib.hid fun W hW => ?_) w (Lib.hid hw) (Lib.hid hp)
  have := rDiv_ok (psum (termS l) l.length) 2 (by decide) m 1 hm0 (by omega) hm1 hmz sz_two W hW
  rwa [numS_two] at this
end Go.Proofs.YtapfekcbbhhieaaGreatDoor
