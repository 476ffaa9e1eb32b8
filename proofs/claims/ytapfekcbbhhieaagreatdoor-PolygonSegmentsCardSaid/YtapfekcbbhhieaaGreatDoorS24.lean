/-
  surd.Make on the example.
  polygon.Perimeter.
  The reference's way to see how two segments meet, and that it is the same. Plain Lean: no program stands in this text.
-/
import Derived.Test.YtapfekcbbhhieaaGreatDoorS23
import Derived.Test.YtapfekcbbhhieaaGreatDoorS22
import Derived.Test.YtapfekcbbhhieaaGreatDoorS14
namespace Go.Proofs.YtapfekcbbhhieaaGreatDoor
open Go.RowKit Go.Shelf Lib Str Limb
attribute [local go_sem] Oper.semAt_some

theorem check_small (n : Nat) (h : n < 100) (W : World) (hW : Wd W) : Calls Tryz.prog 65 #[St (decDigits n)] W fun e w' => e = .returned (.int .i64 0) ∧ Below W.heap.size W w' := by
  have hz := sz_small n h
  have := check_ok ((n : Int) : Rat) (sz_okQ (by omega) (by omega) hz) W hW
  rwa [numS_nat] at this
theorem check_one (W : World) (hW : Wd W) : Calls Tryz.prog 65 #[.string ⟨#[49]⟩] W fun e w' => e = .returned (.int .i64 0) ∧ Below W.heap.size W w' := by
  have := check_ok 1 okQ_1 W hW
  rwa [numS_1] at this
theorem longest_12 (W : World) (hW : Wd W) : Calls Tryz.prog 84 #[.string ⟨#[49, 50]⟩] W fun e w' => e = .returned (.int .i64 2) ∧ Below W.heap.size W w' := by
  have := longest_ok ((12 : Nat) : Int) (sz_okQ (by omega) (by omega) (sz_small 12 (by omega))) W hW
  rw [numS_nat, dec_49.2.2.2] at this
  have e1 : digs (((12 : Nat) : Int) : Rat).num = 2 := by show (decDigits 12).length = 2; rw [dec_49.2.2.2]; rfl
  have e2 : digs ((((12 : Nat) : Int) : Rat).den : Int) = 1 := by show (decDigits 1).length = 1; rw [dec_1]; rfl
  rw [e1, e2] at this
  exact this
theorem infoTerm : (Tryz.prog.info? 49).map (fun i => (i.zero, i.size, i.bytes)) = some (some (.agg #[St [], St []]), 2, 32) := by kernel_rfl
theorem two_new (W : World) (x y : Value) (t : TypeId) : ∀ i u, [x, y][i]? = some u → (W.alloc (.cells #[x, y] t)).cell? ((⟨W.heap.size, 0, none⟩ : Addr).add i) = some u := fun i u hu => by
  have A := World.alloc_heap_new W (.cells #[x, y] t)
  have : ((⟨W.heap.size, 0, none⟩ : Addr).add i) = ⟨W.heap.size, i, none⟩ := by simp only [Addr.add, Nat.zero_add]; split <;> simp_all
  rw [this, Go.Joins.cell_of_block A]
  match i, hu with
  | 0, hu => exact hu
  | 1, hu => exact hu
theorem two_strs (x y : List UInt8) : ∀ u ∈ [St x, St y], u.oneCell' = true := fun u hu => by
  simp at hu; rcases hu with rfl | rfl <;> rfl
theorem own_two {w : World} {base : Nat} {t : TypeId} {v x y : Value} (h : w.ownsRow base t 2 v 1 [x, y]) : ∃ g c, v = .slice (some ⟨g, 0, none⟩) 1 c ∧ base ≤ g ∧ g < w.heap.size ∧ w.cell? ⟨g, 0, none⟩ = some x ∧ w.cell? ⟨g, 1, none⟩ = some y := by
  rcases h.2 with ⟨_, e⟩ | ⟨g, cp, cur, e, hg1, hg2, _, _, hcs, htk⟩
  · omega
  · refine ⟨g, cp, e, hg1, (Array.getElem?_eq_some_iff.1 hg2).1, ?_, ?_⟩
    · have h0 := congrArg (fun l => l[0]?) htk
      rw [List.getElem?_take] at h0
      rw [Go.Joins.cell_of_block hg2]
      simpa using h0
    · have h0 := congrArg (fun l => l[1]?) htk
      rw [List.getElem?_take] at h0
      rw [Go.Joins.cell_of_block hg2]
      simpa using h0
theorem prefix_dec (n : Nat) (W : World) : Calls Tryz.prog 48 #[St (decDigits n), .string ⟨#[45]⟩] W fun e w' => e = .returned (.bool false) ∧ w' = W := by
  have hc := Tryz.strings_HasPrefix ⟨(decDigits n).toArray⟩ ⟨#[45]⟩ W
  obtain ⟨c, r, e, hc1, _⟩ := dec_head n
  have hc5 : c ≠ 45 := fun h => by subst h; simp at hc1
  have hp : Lib.hasPrefix (decDigits n) [45] = false := by rw [e]; simp [Lib.hasPrefix, List.isPrefixOf, Ne.symm hc5]
  rw [show (⟨(decDigits n).toArray⟩ : ByteArray).data.toList = decDigits n from rfl, show (⟨#[45]⟩ : ByteArray).data.toList = [45] from rfl, hp] at hc
  exact hc

set_option maxRecDepth 100000 in
set_option maxHeartbeats 4000000 in
theorem make_345 (b off cap : Nat) (w : World) (HW : Hid (∀ W, Below w.heap.size w W → Wd W)) (HP : Hid (∀ W, Below w.heap.size w W → Pw W))
    (t0 : w.cell? ⟨b, off, none⟩ = some (.string ⟨#[49]⟩)) (t1 : w.cell? ⟨b, off + 1, none⟩ = some (St (decDigits (4 * 4)))) (t2 : w.cell? ⟨b, off + 2, none⟩ = some (.string ⟨#[49]⟩)) (t3 : w.cell? ⟨b, off + 3, none⟩ = some (St (decDigits (3 * 3))))
    (t4 : w.cell? ⟨b, off + 4, none⟩ = some (.string ⟨#[49]⟩)) (t5 : w.cell? ⟨b, off + 5, none⟩ = some (St (decDigits (5 * 5)))) :
    Calls Tryz.prog 44 #[.slice (some ⟨b, off, none⟩) 3 cap] w fun e w' => ∃ g c, e = .returned (.tuple #[.slice (some ⟨g, 0, none⟩) 1 c, .int .i64 0]) ∧ Below w.heap.size w w' ∧ w.heap.size ≤ g ∧ w'.cell? ⟨g, 0, none⟩ = some (St [49, 50]) ∧ w'.cell? ⟨g, 1, none⟩ = some (.string ⟨#[49]⟩) := by
  obtain ⟨i0, hi, hz0, hz1, hz2⟩ := info_parts infoTerm
  have hb := cell_lt t0
  have T := Lib.hid (⟨t0, t1, t2, t3, t4, t5⟩ : _ ∧ _ ∧ _ ∧ _ ∧ _ ∧ _)
  have D0 := Lib.hid (Below.refl w.heap.size w)
  clear t0 t1 t2 t3 t4 t5
  obtain ⟨r1, hr1⟩ : ∃ r, r = decDigits (4 * 4) := ⟨_, rfl⟩
  obtain ⟨r2, hr2⟩ : ∃ r, r = decDigits (3 * 3) := ⟨_, rfl⟩
  obtain ⟨r3, hr3⟩ : ∃ r, r = decDigits (5 * 5) := ⟨_, rfl⟩
  rw [← hr1, ← hr2, ← hr3] at T
  have C1 : Hid (∀ W : World, Wd W → Calls Tryz.prog 65 #[St r1] W fun e w' => e = .returned (.int .i64 0) ∧ Below W.heap.size W w') := Lib.hid (by rw [hr1]; exact fun W hW => check_small _ (by omega) W hW)
  have X1 : Hid (∀ W : World, Calls Tryz.prog 48 #[St r1, .string ⟨#[45]⟩] W fun e w' => e = .returned (.bool false) ∧ w' = W) := Lib.hid (by rw [hr1]; exact fun W => prefix_dec _ W)
  have C2 : Hid (∀ W : World, Wd W → Calls Tryz.prog 65 #[St r2] W fun e w' => e = .returned (.int .i64 0) ∧ Below W.heap.size W w') := Lib.hid (by rw [hr2]; exact fun W hW => check_small _ (by omega) W hW)
  have X2 : Hid (∀ W : World, Calls Tryz.prog 48 #[St r2, .string ⟨#[45]⟩] W fun e w' => e = .returned (.bool false) ∧ w' = W) := Lib.hid (by rw [hr2]; exact fun W => prefix_dec _ W)
  have C3 : Hid (∀ W : World, Wd W → Calls Tryz.prog 65 #[St r3] W fun e w' => e = .returned (.int .i64 0) ∧ Below W.heap.size W w') := Lib.hid (by rw [hr3]; exact fun W hW => check_small _ (by omega) W hW)
  have X3 : Hid (∀ W : World, Calls Tryz.prog 48 #[St r3, .string ⟨#[45]⟩] W fun e w' => e = .returned (.bool false) ∧ w' = W) := Lib.hid (by rw [hr3]; exact fun W => prefix_dec _ W)
  have HR := Lib.hid (⟨hr1, hr2, hr3⟩ : _ ∧ _ ∧ _)
  clear hr1 hr2 hr3
  go_enter Tryz.func44, Tryz.ntmps44
  go_wp2_with fail
  refine wp_loop_rounds 4 ?_
  have t0 : w.cell? ⟨b, off, none⟩ = some (.string ⟨#[49]⟩) := by rw [D0.out.cell (p := ⟨b, off, none⟩) hb]; exact T.out.1
  have t1 : w.cell? ⟨b, off + 1, none⟩ = some (St r1) := by rw [D0.out.cell (p := ⟨b, off + 1, none⟩) hb]; exact T.out.2.1
  rw [rounds_succ]
  obtain ⟨v1, hv⟩ : ∃ v1, v1 = w.alloc (.cells #[.string ⟨#[49]⟩, St r1] 49) := ⟨_, rfl⟩
  have a1 : Below w.heap.size w v1 := by rw [hv]; exact (Below.refl _ w).alloc (Nat.le_refl _) _
  have A1 : v1.heap[w.heap.size]? = some (.cells #[.string ⟨#[49]⟩, St r1] 49 (0, 0)) := by rw [hv]; exact World.alloc_heap_new w _
  have HV := Lib.hid hv; clear hv
  go_wp2_with fail
  rw [← show v1 = w.alloc (.cells #[.string ⟨#[49]⟩, .string ⟨r1.toArray⟩] 49) from HV.out]
  clear t0 t1 HV
  refine (check_one v1 (HW.out _ (D0.out.trans (a1.mono D0.out.size)))).mono ?_
  rintro e y1 ⟨rfl, hb1⟩
  have E1 := Lib.hid (a1.trans (hb1.mono a1.size)); have B1 := Lib.hid (cellsKept_below hb1 _ _ _ _ A1)
  clear a1 A1 hb1
  have k1 : y1.cell? ⟨w.heap.size, 1, none⟩ = some (St r1) := by rw [Go.Joins.cell_of_block B1.out]; rfl
  go_wp2_with fail
  refine (C1.out y1 (HW.out _ (D0.out.trans (E1.out.mono D0.out.size)))).mono ?_
  rintro e y2 ⟨rfl, hb1⟩
  have E2 := Lib.hid (E1.out.trans (hb1.mono E1.out.size)); have B2 := Lib.hid (cellsKept_below hb1 _ _ _ _ B1.out)
  clear hb1 k1 E1 B1
  have k1 : y2.cell? ⟨w.heap.size, 1, none⟩ = some (St r1) := by rw [Go.Joins.cell_of_block B2.out]; rfl
  go_wp2_with fail
  refine (X1.out y2).mono ?_
  rintro e u1 ⟨rfl, hw1⟩
  have hw2 := hw1.symm
  have D1 : Hid (Below w.heap.size w u1) := Lib.hid (by rw [hw1]; exact D0.out.trans (E2.out.mono D0.out.size))
  clear hw1 hw2 k1 E2 B2
  go_wp2_with fail
  have t0 : u1.cell? ⟨b, off + 2, none⟩ = some (.string ⟨#[49]⟩) := by rw [D1.out.cell (p := ⟨b, off + 2, none⟩) hb]; exact T.out.2.2.1
  have t1 : u1.cell? ⟨b, off + 2 + 1, none⟩ = some (St r2) := by rw [D1.out.cell (p := ⟨b, off + 2 + 1, none⟩) hb]; exact T.out.2.2.2.1
  rw [rounds_succ]
  obtain ⟨v2, hv⟩ : ∃ v2, v2 = u1.alloc (.cells #[.string ⟨#[49]⟩, St r2] 49) := ⟨_, rfl⟩
  have a1 : Below u1.heap.size u1 v2 := by rw [hv]; exact (Below.refl _ u1).alloc (Nat.le_refl _) _
  have A1 : v2.heap[u1.heap.size]? = some (.cells #[.string ⟨#[49]⟩, St r2] 49 (0, 0)) := by rw [hv]; exact World.alloc_heap_new u1 _
  have HV := Lib.hid hv; clear hv
  go_wp2_with fail
  rw [← show v2 = u1.alloc (.cells #[.string ⟨#[49]⟩, .string ⟨r2.toArray⟩] 49) from HV.out]
  clear t0 t1 HV
  refine (check_one v2 (HW.out _ (D1.out.trans (a1.mono D1.out.size)))).mono ?_
  rintro e y1 ⟨rfl, hb1⟩
  have E1 := Lib.hid (a1.trans (hb1.mono a1.size)); have B1 := Lib.hid (cellsKept_below hb1 _ _ _ _ A1)
  clear a1 A1 hb1
  have k1 : y1.cell? ⟨u1.heap.size, 1, none⟩ = some (St r2) := by rw [Go.Joins.cell_of_block B1.out]; rfl
  go_wp2_with fail
  refine (C2.out y1 (HW.out _ (D1.out.trans (E1.out.mono D1.out.size)))).mono ?_
  rintro e y2 ⟨rfl, hb1⟩
  have E2 := Lib.hid (E1.out.trans (hb1.mono E1.out.size)); have B2 := Lib.hid (cellsKept_below hb1 _ _ _ _ B1.out)
  clear hb1 k1 E1 B1
  have k1 : y2.cell? ⟨u1.heap.size, 1, none⟩ = some (St r2) := by rw [Go.Joins.cell_of_block B2.out]; rfl
  go_wp2_with fail
  refine (X2.out y2).mono ?_
  rintro e u2 ⟨rfl, hw1⟩
  have hw2 := hw1.symm
  have D2 : Hid (Below w.heap.size w u2) := Lib.hid (by rw [hw1]; exact D1.out.trans (E2.out.mono D1.out.size))
  clear hw1 hw2 k1 E2 B2
  go_wp2_with fail
  have t0 : u2.cell? ⟨b, off + 4, none⟩ = some (.string ⟨#[49]⟩) := by rw [D2.out.cell (p := ⟨b, off + 4, none⟩) hb]; exact T.out.2.2.2.2.1
  have t1 : u2.cell? ⟨b, off + 4 + 1, none⟩ = some (St r3) := by rw [D2.out.cell (p := ⟨b, off + 4 + 1, none⟩) hb]; exact T.out.2.2.2.2.2
  rw [rounds_succ]
  obtain ⟨v3, hv⟩ : ∃ v3, v3 = u2.alloc (.cells #[.string ⟨#[49]⟩, St r3] 49) := ⟨_, rfl⟩
  have a1 : Below u2.heap.size u2 v3 := by rw [hv]; exact (Below.refl _ u2).alloc (Nat.le_refl _) _
  have A1 : v3.heap[u2.heap.size]? = some (.cells #[.string ⟨#[49]⟩, St r3] 49 (0, 0)) := by rw [hv]; exact World.alloc_heap_new u2 _
  have HV := Lib.hid hv; clear hv
  go_wp2_with fail
  rw [← show v3 = u2.alloc (.cells #[.string ⟨#[49]⟩, .string ⟨r3.toArray⟩] 49) from HV.out]
  clear t0 t1 HV
  refine (check_one v3 (HW.out _ (D2.out.trans (a1.mono D2.out.size)))).mono ?_
  rintro e y1 ⟨rfl, hb1⟩
  have E1 := Lib.hid (a1.trans (hb1.mono a1.size)); have B1 := Lib.hid (cellsKept_below hb1 _ _ _ _ A1)
  clear a1 A1 hb1
  have k1 : y1.cell? ⟨u2.heap.size, 1, none⟩ = some (St r3) := by rw [Go.Joins.cell_of_block B1.out]; rfl
  go_wp2_with fail
  refine (C3.out y1 (HW.out _ (D2.out.trans (E1.out.mono D2.out.size)))).mono ?_
  rintro e y2 ⟨rfl, hb1⟩
  have E2 := Lib.hid (E1.out.trans (hb1.mono E1.out.size)); have B2 := Lib.hid (cellsKept_below hb1 _ _ _ _ B1.out)
  clear hb1 k1 E1 B1
  have k1 : y2.cell? ⟨u2.heap.size, 1, none⟩ = some (St r3) := by rw [Go.Joins.cell_of_block B2.out]; rfl
  go_wp2_with fail
  refine (X3.out y2).mono ?_
  rintro e u3 ⟨rfl, hw1⟩
  have hw2 := hw1.symm
  have D3 : Hid (Below w.heap.size w u3) := Lib.hid (by rw [hw1]; exact D2.out.trans (E2.out.mono D2.out.size))
  clear hw1 hw2 k1 E2 B2
  go_wp2_with fail
  rw [rounds_succ]
  go_wp2_with fail
  have N0 : Below u3.heap.size u3 (u3.alloc (.cells #[.slice none 0 0] 117)) := (Below.refl _ u3).alloc (Nat.le_refl _) _
  have NA := World.alloc_heap_new u3 (.cells #[.slice none 0 0] 117)
  have NZ : (u3.alloc (.cells #[.slice none 0 0] 117)).heap.size = u3.heap.size + 1 := by simp
  generalize u3.alloc (.cells #[.slice none 0 0] 117) = vg at *
  have HV : Hid (Calls Tryz.prog 82 #[.slice (some ⟨b, off, none⟩) 3 cap, .func (.func 83) #[.pointer (some ⟨u3.heap.size, 0, none⟩)] #[]] vg fun e w' => e = .returned (.int .i64 0) ∧ Below u3.heap.size vg w' ∧ GateS u3.heap.size (decDigits 12) w') := Lib.hid (by
    obtain ⟨q1, q2, q3⟩ := HR.out
    have T' := T.out
    rw [q1, q2, q3] at T'
    obtain ⟨t0, t1, t2, t3, t4, t5⟩ := T'
    have hB : Below w.heap.size w vg := D3.out.trans (N0.mono D3.out.size)
    have hs := D3.out.size
    have key : ∀ o v, w.cell? ⟨b, o, none⟩ = some v → vg.cell? ⟨b, o, none⟩ = some v := fun o v h => by rw [hB.cell (p := ⟨b, o, none⟩) hb]; exact h
    exact visit_345 u3.heap.size b off cap (by omega) vg (by omega) (fun W h => HW.out _ (D3.out.trans ((N0.trans h).mono hs))) (fun W h => HP.out _ (D3.out.trans ((N0.trans h).mono hs)))
      ⟨by rw [Go.Joins.cell_of_block NA]; rfl, by rw [Go.Joins.unfrozen_of_block NA]⟩ (key _ _ t0) (key _ _ t1) (key _ _ t2) (key _ _ t3) (key _ _ t4) (key _ _ t5))
  clear NA NZ T
  refine HV.out.mono ?_
  rintro e z ⟨rfl, hz, hg⟩
  rw [dec_49.2.2.2] at hg
  have DZ : Hid (Below w.heap.size w z) := Lib.hid (D3.out.trans ((N0.trans hz).mono D3.out.size))
  obtain ⟨⟨cb, ccap, cs, g0, hcb, g1, g2, g3⟩, _⟩ := hg
  have c0 : z.cell? ⟨cb, 0, none⟩ = some (.string ⟨#[49, 50]⟩) := by rw [Go.Joins.cell_of_block g1]; exact g2
  have c1 : z.cell? ⟨cb, 1, none⟩ = some (.string ⟨#[49]⟩) := by rw [Go.Joins.cell_of_block g1]; exact g3
  clear g1 g2 g3 hcb hz N0 HV
  go_wp2_with fail
  refine wp_loop_rounds 2 ?_
  rw [rounds_succ]
  obtain ⟨x1, hv⟩ : ∃ x1, x1 = z.alloc (.cells #[.string ⟨#[49, 50]⟩, .string ⟨#[49]⟩] 121) := ⟨_, rfl⟩
  have a1 : Below z.heap.size z x1 := by rw [hv]; exact (Below.refl _ z).alloc (Nat.le_refl _) _
  have A1 : x1.heap[z.heap.size]? = some (.cells #[.string ⟨#[49, 50]⟩, .string ⟨#[49]⟩] 121 (0, 0)) := by rw [hv]; exact World.alloc_heap_new z _
  have HX := Lib.hid hv; clear hv
  go_wp2_with fail
  rw [← show x1 = z.alloc (.cells #[.string ⟨#[49, 50]⟩, .string ⟨#[49]⟩] 121) from HX.out]
  have DX : Hid (Below w.heap.size w x1) := Lib.hid (DZ.out.trans (a1.mono DZ.out.size))
  have k0 : x1.cell? ⟨z.heap.size, 0, none⟩ = some (.string ⟨#[49, 50]⟩) := by rw [Go.Joins.cell_of_block A1]; rfl
  clear c0 c1 g0 a1 HX HR
  go_wp2_with fail
  refine (longest_12 x1 (HW.out _ DX.out)).mono ?_
  rintro e y1 ⟨rfl, hb1⟩
  have E1 := Lib.hid (DX.out.trans (hb1.mono DX.out.size)); have B1 := Lib.hid (cellsKept_below hb1 _ _ _ _ A1)
  clear A1 hb1 k0
  have k1 : y1.cell? ⟨z.heap.size, 1, none⟩ = some (.string ⟨#[49]⟩) := by rw [Go.Joins.cell_of_block B1.out]; rfl
  go_wp2_with fail
  refine (longest_one y1 (HW.out _ E1.out)).mono ?_
  rintro e y2 ⟨rfl, hb1⟩
  have E2 := Lib.hid (E1.out.trans (hb1.mono E1.out.size)); have B2 := Lib.hid (cellsKept_below hb1 _ _ _ _ B1.out)
  clear k1 E1 B1 hb1
  have k0 : y2.cell? ⟨z.heap.size, 0, none⟩ = some (.string ⟨#[49, 50]⟩) := by rw [Go.Joins.cell_of_block B2.out]; rfl
  have k1 : y2.cell? ⟨z.heap.size, 1, none⟩ = some (.string ⟨#[49]⟩) := by rw [Go.Joins.cell_of_block B2.out]; rfl
  go_wp2_with (at_builtin; refine wpList_append_own _ rfl _ _ 43 rfl w.heap.size 49 i0 (.agg #[St [], St []]) 2 32 Tryz.underlying43 hi hz0 hz1 hz2 rfl (by decide) (.slice none 0 0) 0 [] rfl (World.ownsRow_nil _ _ _ _) ⟨y2.heap.size, 0, none⟩ 1 1 [St [49, 50], St [49]] rfl rfl (two_new _ _ _ _) (two_strs _ _) (by unfold maxLen; omega) (by omega) (by have := E2.out.size; simp; omega) (fun v' w' hown' hgrow _ => ?_))
  obtain ⟨g, gc, rfl, hg, hgl, q0, q1⟩ := own_two hown'
  have F1 : Hid (Below w.heap.size w w') := Lib.hid ((E2.out.alloc E2.out.size _).grown hgrow (by have := E2.out.size; simp; omega) (fun q e => by cases e))
  have HQ := Lib.hid (⟨hg, hgl, q0, q1⟩ : w.heap.size ≤ g ∧ g < w'.heap.size ∧ w'.cell? ⟨g, 0, none⟩ = some (St [49, 50]) ∧ w'.cell? ⟨g, 1, none⟩ = some (St [49]))
  clear hgrow hown' k0 k1 hg hgl q0 q1
  rw [rounds_succ]
  go_wp2_with fail
  refine (sort_one _ _ _ w').mono ?_
  rintro e y5 ⟨⟨u, rfl⟩, hw5⟩
  have hw6 := hw5.symm; subst hw6; clear hw5
  go_wp2_with fail
  go_ret2
  exact ⟨g, gc, rfl, F1.out, HQ.out.1, HQ.out.2.2.1, HQ.out.2.2.2⟩
end Go.Proofs.YtapfekcbbhhieaaGreatDoor

namespace Go.Proofs.YtapfekcbbhhieaaGreatDoor
open Go.RowKit Go.Shelf Lib Str Limb Geo
attribute [local go_sem] Oper.semAt_some

/-- The square of a side. -/
def sqS (l : List Pt) (k : Nat) : Rat := ((cor l (k + 1)).x - (cor l k).x) * ((cor l (k + 1)).x - (cor l k).x) + ((cor l (k + 1)).y - (cor l k).y) * ((cor l (k + 1)).y - (cor l k).y)
/-- The terms of the first k sides, cell by cell. -/
def termsP (l : List Pt) : Nat → List Value
  | 0 => []
  | k + 1 => termsP l k ++ [St [49], St (numS (sqS l k))]
theorem termsP_length (l : List Pt) : ∀ k, (termsP l k).length = 2 * k
  | 0 => rfl
  | k + 1 => by simp [termsP, termsP_length l k]; omega
theorem termsP_at (l : List Pt) : ∀ k i, i < k → (termsP l k)[2 * i]? = some (St [49]) ∧ (termsP l k)[2 * i + 1]? = some (St (numS (sqS l i)))
  | k + 1, i, h => by
    have hl := termsP_length l k
    by_cases e : i = k
    · subst e
      unfold termsP
      rw [List.getElem?_append_right (by omega), List.getElem?_append_right (by omega), hl]
      simp
    · have := termsP_at l k i (by omega)
      unfold termsP
      rw [List.getElem?_append_left (by omega), List.getElem?_append_left (by omega)]
      exact this
theorem own_cells {w : World} {base : Nat} {t : TypeId} {s : Nat} {v : Value} {n : Nat} {xs : List Value} (h : w.ownsRow base t s v n xs) (hn : 0 < n) :
    ∃ g c, v = .slice (some ⟨g, 0, none⟩) n c ∧ base ≤ g ∧ ∀ i u, xs[i]? = some u → w.cell? ⟨g, i, none⟩ = some u := by
  rcases h.2 with ⟨_, e⟩ | ⟨g, cp, cur, e, hg1, hg2, _, _, hcs, htk⟩
  · omega
  · refine ⟨g, cp, e, hg1, fun i u hu => ?_⟩
    rw [Go.Joins.cell_of_block hg2, ← Array.getElem?_toList]
    rw [← htk, List.getElem?_take] at hu
    split at hu
    · exact hu
    · cases hu

/-- What is known of the memory in Perimeter. -/
structure PerS (w : World) (p : Option Addr) (cap n : Nat) (l : List Pt) (bt j : Nat) (W : World) : Prop where
  bel : Below w.heap.size w W
  bt1 : w.heap.size + 2 ≤ bt
  r1 : W.cell? ⟨w.heap.size, 0, none⟩ = some (.slice none 0 0)
  f1 : W.frozen? ⟨w.heap.size, 0, none⟩ = false
  r2 : W.cell? ⟨w.heap.size + 1, 0, none⟩ = some (I 0)
  f2 : W.frozen? ⟨w.heap.size + 1, 0, none⟩ = false
  pts : ∀ i, i < n → ∃ b off, p = some ⟨b, off, none⟩ ∧ b < w.heap.size ∧ W.cell? ⟨b, off + i * 2, none⟩ = some (St (ptOf (txt l) i).1) ∧ W.cell? ⟨b, off + i * 2 + 1, none⟩ = some (St (ptOf (txt l) i).2)
  cbx : W.cell? ⟨bt + 1, 0, none⟩ = some (.slice p n cap)
  box : ∃ v, W.cell? ⟨bt, 0, none⟩ = some v ∧ W.ownsRow (bt + 2) 49 2 v j (termsP l j)
  fr : W.frozen? ⟨bt, 0, none⟩ = false
theorem PerS.keep {w : World} {p : Option Addr} {cap n : Nat} {l : List Pt} {bt j : Nat} {W W' : World} (h : PerS w p cap n l bt j W) (hc : CellsKept W W') (hb : Below w.heap.size W W') : PerS w p cap n l bt j W' :=
  ⟨h.bel.trans hb, h.bt1, hc.cell h.r1, hc.frozen h.r1 h.f1, hc.cell h.r2, hc.frozen h.r2 h.f2, fun i hi => let ⟨b, off, e, h0, h1, h2⟩ := h.pts i hi; ⟨b, off, e, h0, hc.cell h1, hc.cell h2⟩, hc.cell h.cbx, let ⟨v, h1, h2⟩ := h.box; ⟨v, hc.cell h1, ownsRow_kept hc h2⟩, let ⟨v, h1, h2⟩ := h.box; hc.frozen h1 h.fr⟩
theorem PerS.ptsAt {w : World} {p : Option Addr} {cap n : Nat} {l : List Pt} {bt j : Nat} {W : World} (hn : n = l.length) (h : PerS w p cap n l bt j W) : PtsAt (bt + 1) p cap (txt l) W :=
  ⟨by rw [txt_length, ← hn]; exact h.cbx, fun i hi => let ⟨b, off, e, _, h1, h2⟩ := h.pts i (by rw [txt_length] at hi; omega); ⟨b, off, e, h1, h2⟩⟩

theorem per_step {w : World} {p : Option Addr} {cap n : Nat} {l : List Pt} {bt j : Nat} {W Y Z : World} {v v' : Value} (h : PerS w p cap n l bt j W) (hv : W.cell? ⟨bt, 0, none⟩ = some v) (hown : W.ownsRow (bt + 2) 49 2 v j (termsP l j))
    (hY : Below W.heap.size W Y) (hZ : Y.grownBy Z v.ownBlock) (hz : Z.ownsRow (bt + 2) 49 2 v' (j + 1) (termsP l (j + 1))) (B : Nat) :
    KeepsFrom B W (Z.setCell ⟨bt, 0, none⟩ v') ∧ PerS w p cap n l bt (j + 1) (Z.setCell ⟨bt, 0, none⟩ v') := by
  have ck := cellsKept_below hY
  have hS := h.keep ck (hY.mono h.bel.size)
  have ho := ownsRow_kept ck hown
  have hlt : ∀ q, v.ownBlock = some q → bt + 2 ≤ q := fun q e => (ho.lt q e).1
  have hne : ∀ b, b < bt + 2 → some b ≠ v.ownBlock := fun b hb e => by have := hlt b e.symm; omega
  have hbt := h.bt1
  have cz : ∀ {b o : Nat} {x : Value}, b < bt + 2 → Y.cell? ⟨b, o, none⟩ = some x → Z.cell? ⟨b, o, none⟩ = some x := fun hb hc => hZ.cell hc (hne _ hb)
  have hYs : bt < Y.heap.size := cell_lt (ck.cell hv)
  refine ⟨?_, ?_, hbt, ?_, ?_, ?_, ?_, fun i hi => ?_, ?_, ⟨v', ?_, ?_⟩, ?_⟩
  · refine ((keeps_of_below hY).from B).trans (((KeepsOthers.of_grownBy hZ ?_).from B).trans ((KeepsOthers.setCell _ _ _).from B))
    intro q o e hq
    rcases ho.2 with ⟨rfl, _⟩ | ⟨g, cp, cur, rfl, _, hg, _⟩
    · simp [Value.ownBlock] at e
    · simp [Value.ownBlock] at e; subst e; rw [hg] at hq; cases hq; rfl
  · exact ((hS.bel.grown hZ (by have := cell_lt hS.cbx; simp at this; omega) (fun q e => by have := hlt q e; omega))).setCell (by simp; omega) _
  · rw [cell_ne _ _ _ _ (by omega)]; exact cz (by omega) hS.r1
  · rw [World.frozen?_setCell, World.frozen?_of_block (a := ⟨w.heap.size, 0, none⟩) (hZ.block w.heap.size (by omega) (hne _ (by omega)))]; exact hS.f1
  · rw [cell_ne _ _ _ _ (by omega)]; exact cz (by omega) hS.r2
  · rw [World.frozen?_setCell, World.frozen?_of_block (a := ⟨w.heap.size + 1, 0, none⟩) (hZ.block (w.heap.size + 1) (by omega) (hne _ (by omega)))]; exact hS.f2
  · obtain ⟨b, off, e, h0, h1, h2⟩ := hS.pts i hi
    exact ⟨b, off, e, h0, by rw [cell_ne _ _ _ _ (by omega)]; exact cz (by omega) h1, by rw [cell_ne _ _ _ _ (by omega)]; exact cz (by omega) h2⟩
  · rw [cell_ne _ _ _ _ (by omega)]; exact cz (by omega) hS.cbx
  · exact cell_eq (cz (by omega) (ck.cell hv))
  · exact ownsRow_setCell_below hz (by simp) _
  · rw [World.frozen?_setCell, World.frozen?_of_block (a := ⟨bt, 0, none⟩) (hZ.block bt hYs (hne bt (by omega)))]; exact hS.fr

/-- What Perimeter owes: the answer's slice and the memory behind it. -/
structure MadeC (w : World) (Ψ : Option Addr → Nat → Nat → Int → World → Prop) : Prop where
  keep : ∀ p m c k W W', Ψ p m c k W → (∀ b o x, w.heap.size + 2 ≤ b → W.cell? ⟨b, o, none⟩ = some x → W'.cell? ⟨b, o, none⟩ = some x) → Ψ p m c k W'

set_option maxRecDepth 100000 in
set_option maxHeartbeats 4000000 in
theorem per_walk (p : Option Addr) (cap : Nat) (l : List Pt) (h3 : 3 ≤ l.length) (hlen : l.length ≤ 4096) (Ψ : Option Addr → Nat → Nat → Int → World → Prop)
    (w : World) (HW : Hid (∀ W, Below w.heap.size w W → Wd W ∧ Pw W)) (HP : Hid (RowPts p l w)) (HM : Hid (MadeC w Ψ))
    (C : Hid (∀ W : World, Wd W → RowPts p l W → Calls Tryz.prog 31 #[.slice p l.length cap] W fun e w' => e = .returned (.int .i64 0) ∧ Below W.heap.size W w'))
    (SX : Hid (∀ k, k < l.length → ∀ W : World, Wd W → Calls Tryz.prog 33 #[St (numS (cor l (k + 1)).x), St (numS (cor l k).x)] W fun e w' => e = .returned (St (numS ((cor l (k + 1)).x - (cor l k).x))) ∧ Below W.heap.size W w'))
    (SY : Hid (∀ k, k < l.length → ∀ W : World, Wd W → Calls Tryz.prog 33 #[St (numS (cor l (k + 1)).y), St (numS (cor l k).y)] W fun e w' => e = .returned (St (numS ((cor l (k + 1)).y - (cor l k).y))) ∧ Below W.heap.size W w'))
    (MX : Hid (∀ k, k < l.length → ∀ W : World, Wd W → Calls Tryz.prog 34 #[St (numS ((cor l (k + 1)).x - (cor l k).x)), St (numS ((cor l (k + 1)).x - (cor l k).x))] W fun e w' => e = .returned (St (numS (((cor l (k + 1)).x - (cor l k).x) * ((cor l (k + 1)).x - (cor l k).x)))) ∧ Below W.heap.size W w'))
    (MY : Hid (∀ k, k < l.length → ∀ W : World, Wd W → Calls Tryz.prog 34 #[St (numS ((cor l (k + 1)).y - (cor l k).y)), St (numS ((cor l (k + 1)).y - (cor l k).y))] W fun e w' => e = .returned (St (numS (((cor l (k + 1)).y - (cor l k).y) * ((cor l (k + 1)).y - (cor l k).y)))) ∧ Below W.heap.size W w'))
    (AD : Hid (∀ k, k < l.length → ∀ W : World, Wd W → Calls Tryz.prog 11 #[St (numS (((cor l (k + 1)).x - (cor l k).x) * ((cor l (k + 1)).x - (cor l k).x))), St (numS (((cor l (k + 1)).y - (cor l k).y) * ((cor l (k + 1)).y - (cor l k).y)))] W fun e w' => e = .returned (.tuple #[St (numS (sqS l k)), .int .i64 0]) ∧ Below W.heap.size W w'))
    (MK : Hid (∀ g gc (W : World), Below w.heap.size w W → w.heap.size + 2 ≤ W.heap.size → w.heap.size ≤ g → (∀ i, i < l.length → W.cell? ⟨g, 2 * i, none⟩ = some (.string ⟨#[49]⟩) ∧ W.cell? ⟨g, 2 * i + 1, none⟩ = some (St (numS (sqS l i)))) →
      Calls Tryz.prog 44 #[.slice (some ⟨g, 0, none⟩) l.length gc] W fun e w' => ∃ q m c k, e = .returned (.tuple #[.slice q m c, .int .i64 k]) ∧ Below W.heap.size W w' ∧ Ψ q m c k w')) :
    Calls Tryz.prog 16 #[.slice p l.length cap] w fun e w' => ∃ q m c k, e = .returned (.tuple #[.slice q m c, .int .i64 k]) ∧ Below w.heap.size w w' ∧ Ψ q m c k w' := by
  obtain ⟨i0, hi, hz0, hz1, hz2⟩ := info_parts infoTerm
  refine (callsIn_wide (n := 3)).1 ?_
  refine callsIn_of_wp_marks Tryz.func16 rfl trivial ?_ rfl
  simp only [Tryz.ntmps16, List.size_toArray, List.length_cons, List.length_nil, Nat.reduceAdd, Nat.reduceSub, Array.replicate_succ, Array.replicate_zero, List.push_toArray, List.append_toArray, List.nil_append, List.cons_append]
  obtain ⟨n, hn⟩ : ∃ n, n = l.length := ⟨_, rfl⟩
  obtain ⟨w0, hw0⟩ : ∃ w0, w0 = (w.alloc (.cells #[.slice none 0 0] 43)).alloc (.cells #[.int .i64 0] 28) := ⟨_, rfl⟩
  have b0 : Below w.heap.size w w0 := by rw [hw0]; exact ((Below.refl _ w).alloc (Nat.le_refl _) _).alloc (by simp) _
  have hCk := C.out w0 (HW.out _ b0).1 (fun i hi => let ⟨b, off, e, h1, h2⟩ := HP.out i hi; ⟨b, off, e, below_cell b0 h1, below_cell b0 h2⟩)
  rw [← hn] at h3 hlen hCk ⊢
  have hr0 : w0.cell? ⟨w.heap.size, 0, none⟩ = some (.slice none 0 0) ∧ w0.frozen? ⟨w.heap.size, 0, none⟩ = false ∧ w0.cell? ⟨w.heap.size + 1, 0, none⟩ = some (I 0) ∧ w0.frozen? ⟨w.heap.size + 1, 0, none⟩ = false := by
    have b1 := (Boxed.new w 43 (.slice none 0 0)).alloc (.cells #[.int .i64 0] 28)
    have b2 := Boxed.new (w.alloc (.cells #[.slice none 0 0] 43)) 28 (.int .i64 0)
    rw [World.size_alloc] at b2
    rw [hw0]
    exact ⟨b1.cell, b1.frozen, b2.cell, b2.frozen⟩
  have HB0 := Lib.hid (⟨b0, hr0⟩ : _ ∧ _)
  have HW0 := Lib.hid hw0
  have HN := Lib.hid hn; clear hn hr0 b0 hw0
  have HCk := Lib.hid hCk; clear hCk C
  gi_wp2
  rw [← show w0 = (w.alloc (.cells #[.slice none 0 0] 43)).alloc (.cells #[.int .i64 0] 28) from HW0.out]
  refine ⟨trivial, (callsIn_wide.2 HCk.out).mono ?_⟩
  rintro e w1 ⟨rfl, hb1⟩
  have HB1 := Lib.hid (⟨HB0.out.1.trans (hb1.mono HB0.out.1.size), below_cell hb1 HB0.out.2.1, (cellsKept_below hb1).frozen HB0.out.2.1 HB0.out.2.2.1, below_cell hb1 HB0.out.2.2.2.1, (cellsKept_below hb1).frozen HB0.out.2.2.2.1 HB0.out.2.2.2.2⟩ : _ ∧ _ ∧ _ ∧ _ ∧ _)
  clear hb1 HCk HB0 HW0
  gi_wp2_with (refine ⟨trivial, ?_⟩; gi_at_call 32; refine (callsIn_wide.2 (sides_any _ _ _ _ _ rfl)).mono ?_; rintro e w' ⟨rfl, rfl⟩)
  obtain ⟨W1, hW1⟩ : ∃ W1, W1 = (w1.alloc (.cells #[.slice none 0 0] 42)).alloc (.cells #[.slice p n cap] 26) := ⟨_, rfl⟩
  rw [← hW1]
  have hsz : w.heap.size + 2 ≤ w1.heap.size := by have := cell_lt HB1.out.2.2.2.1; simp at this; omega
  have hS1 : PerS w p cap n l w1.heap.size 0 W1 := by
    obtain ⟨hb, g1, g2, g3, g4⟩ := HB1.out
    have b1 := (Boxed.new w1 42 (.slice none 0 0)).alloc (.cells #[.slice p n cap] 26)
    have b2 := Boxed.new (w1.alloc (.cells #[.slice none 0 0] 42)) 26 (.slice p n cap)
    rw [World.size_alloc] at b2
    have hw : Below w1.heap.size w1 ((w1.alloc (.cells #[.slice none 0 0] 42)).alloc (.cells #[.slice p n cap] 26)) := ((Below.refl _ w1).alloc (Nat.le_refl _) _).alloc (by simp) _
    have ck := cellsKept_below hw
    rw [hW1]
    refine ⟨hb.trans (hw.mono hb.size), hsz, ck.cell g1, ck.frozen g1 g2, ck.cell g3, ck.frozen g3 g4, fun i hi => ?_, b2.cell, ⟨_, b1.cell, World.ownsRow_nil _ _ _ _⟩, b1.frozen⟩
    obtain ⟨b, off, e, h1, h2⟩ := HP.out i (by rw [← HN.out]; exact hi)
    have hlt := cell_lt h1
    exact ⟨b, off, e, hlt, below_cell hw (by rw [hb.cell (p := ⟨b, off + i * 2, none⟩) hlt]; exact h1), below_cell hw (by rw [hb.cell (p := ⟨b, off + i * 2 + 1, none⟩) hlt]; exact h2)⟩
  have hsz1 : W1.heap.size = w1.heap.size + 2 := by rw [hW1]; simp
  clear hW1
  have HS1 := Lib.hid hS1.bel.size
  have HZ := Lib.hid (⟨hsz1, hsz⟩ : _ ∧ _)
  clear hsz1 hsz
  have hseq := sides_ix 2 (by omega) (w1.heap.size + 1) (txt l) (by rw [txt_length, ← HN.out]; omega) (fun W => ∃ j, PerS w p cap n l w1.heap.size j W) p cap (fun W ⟨j, h⟩ => h.ptsAt HN.out)
  rw [txt_length, ← HN.out] at hseq
  refine range_out (n := 3) (B := w.heap.size) rfl (by omega) rfl trivial (enters_of Tryz.func64 (by kernel_rfl) rfl) hseq (fun k args h => by subst h; rfl) hS1.bel.size
    (fun j W => PerS w p cap n l w1.heap.size j W) (fun c _ W => False)
    (fun j X Y h hc hb => h.keep hc hb) (fun c j X Y h hc hb => h) (fun j W h => ⟨j, h⟩) hS1
    (fun j _ a' W => ∃ bs, a' = { tmps := #[Value.slice p n cap, undef, .pointer (some ⟨w.heap.size, 0, none⟩), .pointer (some ⟨w.heap.size + 1, 0, none⟩), .pointer (some ⟨w1.heap.size, 0, none⟩), undef, .pointer (some ⟨bs, 0, none⟩), undef, undef, undef, undef, Value.slice p n cap, .int .i64 0, .bool false, Value.slice p n cap, Value.func (Fn.func 64) #[] #[.pointer (some ⟨w1.heap.size + 1, 0, none⟩)], I j, segV (cor l j) (cor l (j + 1)), undef, undef, undef, undef, undef, undef, undef, undef, undef, undef, undef, undef, undef, undef, undef, undef, undef, undef, undef, undef, undef, undef, undef, undef, undef, undef, undef, undef, undef, undef, undef, undef, undef, undef, undef, undef], defers := [] } ∧ SegB bs (cor l j) (cor l (j + 1)) W)
    (fun j _ a' X Y h hc hb => let ⟨bs, e, h2⟩ := h; ⟨bs, e, hc _ _ _ _ h2⟩) ?assign ?body ?done ?stop
  case assign =>
    rintro lp j args W K hlp hrec hS hj rfl hK
    rw [side_txt l j (by rw [← HN.out]; exact hj)]
    have HK := Lib.hid hK; clear hK
    unfold segV
    gi_wp2
    have hb1 : Below W.heap.size W (W.alloc (.cells #[St (numS (cor l j).x), St (numS (cor l j).y), St (numS (cor l (j + 1)).x), St (numS (cor l (j + 1)).y)] 69)) := (Below.refl _ W).alloc (Nat.le_refl _) _
    exact HK.out _ _ ((keeps_of_below hb1).from _) (hS.keep (cellsKept_below hb1) (hb1.mono hS.bel.size)) ⟨W.heap.size, rfl, World.alloc_heap_new W _⟩
  case body =>
    rintro lp j args a' W hlp ⟨r', hr'⟩ hS hj rfl ⟨bs, rfl, hseg⟩
    have hjl : j < l.length := by rw [← HN.out]; exact hj
    have sx := SX.out j hjl; have sy := SY.out j hjl; have mx := MX.out j hjl; have my := MY.out j hjl; have ad := AD.out j hjl
    obtain ⟨v, hv, hown⟩ := hS.box
    obtain ⟨vq, vm, vc, rfl⟩ : ∃ q m c, v = .slice q m c := by
      rcases hown.2 with ⟨e, _⟩ | ⟨g, cp, cur, e, _⟩ <;> exact ⟨_, _, _, e⟩
    have H0 := Lib.hid hS
    have HT := Lib.hid (show termsP l (j + 1) = termsP l j ++ [St [49], St (numS (sqS l j))] from rfl)
    have HO := Lib.hid hown
    obtain ⟨u1, hu1⟩ : ∃ u, u = numS ((cor l (j + 1)).x - (cor l j).x) := ⟨_, rfl⟩
    obtain ⟨u2, hu2⟩ : ∃ u, u = numS ((cor l (j + 1)).y - (cor l j).y) := ⟨_, rfl⟩
    obtain ⟨u3, hu3⟩ : ∃ u, u = numS (((cor l (j + 1)).x - (cor l j).x) * ((cor l (j + 1)).x - (cor l j).x)) := ⟨_, rfl⟩
    obtain ⟨u4, hu4⟩ : ∃ u, u = numS (((cor l (j + 1)).y - (cor l j).y) * ((cor l (j + 1)).y - (cor l j).y)) := ⟨_, rfl⟩
    obtain ⟨u5, hu5⟩ : ∃ u, u = numS (sqS l j) := ⟨_, rfl⟩
    rw [← hu1] at sx mx; rw [← hu2] at sy my; rw [← hu3] at mx ad; rw [← hu4] at my ad; rw [← hu5] at ad HT
    have Sx := Lib.hid sx; have Sy := Lib.hid sy; have Mx := Lib.hid mx; have My := Lib.hid my; have Ad := Lib.hid ad
    obtain ⟨q1, q2, q3, q4⟩ := hseg.at
    clear hseg sx sy mx my ad
    unfold segV
    generalize numS (cor l j).x = x1 at *
    generalize numS (cor l j).y = y1 at *
    generalize numS (cor l (j + 1)).x = x2 at *
    generalize numS (cor l (j + 1)).y = y2 at *
    have hbl := H0.out.bel
    have KS := Lib.hid (fun (w' : World) (hb : Below W.heap.size W w') => (⟨below_cell hb q1, below_cell hb q2, below_cell hb q3, below_cell hb q4⟩ : w'.cell? ⟨bs, 0, none⟩ = some (St x1) ∧ w'.cell? ⟨bs, 1, none⟩ = some (St y1) ∧ w'.cell? ⟨bs, 2, none⟩ = some (St x2) ∧ w'.cell? ⟨bs, 3, none⟩ = some (St y2)))
    have HV := Lib.hid hv
    have WD : ∀ W', Below W.heap.size W W' → Wd W' := fun W' h => (HW.out _ (hbl.trans (h.mono hbl.size))).1
    have HWD := Lib.hid WD
    clear q1 q2 q3 q4 hv hown hu1 hu2 hu3 hu4 hu5 hseq hS1 hr' hS SX SY MX MY AD MK WD
    gi_wp2
    refine wpIn_region_acb (fun (b : Unit) i => ([.pointer (some ⟨bs, 2, none⟩), .pointer (some ⟨bs, 2, none⟩), St x2, .pointer (some ⟨bs, 0, none⟩), .pointer (some ⟨bs, 0, none⟩), St x1, St u1, .pointer (some ⟨bs, 2, none⟩), .pointer (some ⟨bs, 3, none⟩), St y2, .pointer (some ⟨bs, 0, none⟩), .pointer (some ⟨bs, 1, none⟩), St y1, St u2, St u1, St u2] : List Value).getD i undef) (fun _ _ X => Below W.heap.size W X) (by kernel_rfl) (by kernel_rfl) (by kernel_rfl) () ((Below.refl _ W).drew) fun b => ?_
    try simp only [Act.put, List.setIfInBounds_toArray, List.set_cons_zero, List.set_cons_succ]
    refine acB_read (.pointer (some ⟨bs, 2, none⟩)) (by rfl) (by rfl) (fun f W' h => h) (fun f W' hf h => by go_simp) ?_
    try simp only [Act.put, List.setIfInBounds_toArray, List.set_cons_zero, List.set_cons_succ]
    refine acB_read (.pointer (some ⟨bs, 2, none⟩)) (by rfl) (by rfl) (fun f W' h => h) (fun f W' hf h => by go_simp) ?_
    try simp only [Act.put, List.setIfInBounds_toArray, List.set_cons_zero, List.set_cons_succ]
    refine acB_read (St x2) (by rfl) (by rfl) (fun f W' h => h) (fun f W' hf h => by obtain ⟨q0, q1, q2, q3⟩ := KS.out _ h; go_simp) ?_
    try simp only [Act.put, List.setIfInBounds_toArray, List.set_cons_zero, List.set_cons_succ]
    refine acB_read (.pointer (some ⟨bs, 0, none⟩)) (by rfl) (by rfl) (fun f W' h => h) (fun f W' hf h => by go_simp) ?_
    try simp only [Act.put, List.setIfInBounds_toArray, List.set_cons_zero, List.set_cons_succ]
    refine acB_read (.pointer (some ⟨bs, 0, none⟩)) (by rfl) (by rfl) (fun f W' h => h) (fun f W' hf h => by go_simp) ?_
    try simp only [Act.put, List.setIfInBounds_toArray, List.set_cons_zero, List.set_cons_succ]
    refine acB_read (St x1) (by rfl) (by rfl) (fun f W' h => h) (fun f W' hf h => by obtain ⟨q0, q1, q2, q3⟩ := KS.out _ h; go_simp) ?_
    try simp only [Act.put, List.setIfInBounds_toArray, List.set_cons_zero, List.set_cons_succ]
    refine acB_value (St u1) (by rfl) (by rfl) (fun f W' hf h C' hC' => by
      go_simp
      refine (Sx.out _ (HWD.out _ h)).mono ?_
      rintro e w' ⟨rfl, hb⟩
      exact ⟨_, rfl, hC' _ (h.trans (hb.mono h.size))⟩) ?_
    try simp only [Act.put, List.setIfInBounds_toArray, List.set_cons_zero, List.set_cons_succ]
    refine acB_read (.pointer (some ⟨bs, 2, none⟩)) (by rfl) (by rfl) (fun f W' h => h) (fun f W' hf h => by go_simp) ?_
    try simp only [Act.put, List.setIfInBounds_toArray, List.set_cons_zero, List.set_cons_succ]
    refine acB_read (.pointer (some ⟨bs, 3, none⟩)) (by rfl) (by rfl) (fun f W' h => h) (fun f W' hf h => by go_simp) ?_
    try simp only [Act.put, List.setIfInBounds_toArray, List.set_cons_zero, List.set_cons_succ]
    refine acB_read (St y2) (by rfl) (by rfl) (fun f W' h => h) (fun f W' hf h => by obtain ⟨q0, q1, q2, q3⟩ := KS.out _ h; go_simp) ?_
    try simp only [Act.put, List.setIfInBounds_toArray, List.set_cons_zero, List.set_cons_succ]
    refine acB_read (.pointer (some ⟨bs, 0, none⟩)) (by rfl) (by rfl) (fun f W' h => h) (fun f W' hf h => by go_simp) ?_
    try simp only [Act.put, List.setIfInBounds_toArray, List.set_cons_zero, List.set_cons_succ]
    refine acB_read (.pointer (some ⟨bs, 1, none⟩)) (by rfl) (by rfl) (fun f W' h => h) (fun f W' hf h => by go_simp) ?_
    try simp only [Act.put, List.setIfInBounds_toArray, List.set_cons_zero, List.set_cons_succ]
    refine acB_read (St y1) (by rfl) (by rfl) (fun f W' h => h) (fun f W' hf h => by obtain ⟨q0, q1, q2, q3⟩ := KS.out _ h; go_simp) ?_
    try simp only [Act.put, List.setIfInBounds_toArray, List.set_cons_zero, List.set_cons_succ]
    refine acB_value (St u2) (by rfl) (by rfl) (fun f W' hf h C' hC' => by
      go_simp
      refine (Sy.out _ (HWD.out _ h)).mono ?_
      rintro e w' ⟨rfl, hb⟩
      exact ⟨_, rfl, hC' _ (h.trans (hb.mono h.size))⟩) ?_
    try simp only [Act.put, List.setIfInBounds_toArray, List.set_cons_zero, List.set_cons_succ]
    refine acB_read (St u1) (by rfl) (by rfl) (fun f W' h => h) (fun f W' hf h => by go_simp) ?_
    try simp only [Act.put, List.setIfInBounds_toArray, List.set_cons_zero, List.set_cons_succ]
    refine acB_read (St u2) (by rfl) (by rfl) (fun f W' h => h) (fun f W' hf h => by go_simp) ?_
    try simp only [Act.put, List.setIfInBounds_toArray, List.set_cons_zero, List.set_cons_succ]
    refine acB_nil fun f X hf hX => ?_
    gi_wp2
    refine ⟨trivial, (CallsIn.inRound lp (callsIn_wide.2 (Mx.out X (HWD.out _ hX)))).mono ?_⟩
    rintro e X2 ⟨rfl, hbn⟩
    have hX2 := hX.trans (hbn.mono hX.size)
    clear hX hbn
    gi_wp2
    refine ⟨trivial, (CallsIn.inRound lp (callsIn_wide.2 (My.out X2 (HWD.out _ hX2)))).mono ?_⟩
    rintro e X3 ⟨rfl, hbn⟩
    have hX3 := hX2.trans (hbn.mono hX2.size)
    clear hX2 hbn
    gi_wp2
    refine ⟨trivial, (CallsIn.inRound lp (callsIn_wide.2 (Ad.out X3 (HWD.out _ hX3)))).mono ?_⟩
    rintro e X4 ⟨rfl, hbn⟩
    have hX4 := hX3.trans (hbn.mono hX3.size)
    clear hX3 hbn
    have ck := cellsKept_below hX4
    have g0 := ck.cell HV.out
    have g1 := ck.frozen HV.out H0.out.fr
    have HO4 := Lib.hid (ownsRow_kept ck HO.out)
    clear ck
    have hbt := H0.out.bt1
    have hlj := hj
    have hX5 : Below W.heap.size W (X4.alloc (.cells #[St [49], St u5] 49)) := hX4.alloc hX4.size _
    have hbs : w1.heap.size + 2 ≤ (X4.alloc (.cells #[St [49], St u5] 49)).heap.size := by
      have := cell_lt H0.out.cbx; have h2 := hX4.size; simp at this; simp; omega
    gi_wp2_with (gi_at_builtin; refine wpListIn_append_own _ rfl _ _ 42 rfl (w1.heap.size + 2) 49 i0 (.agg #[St [], St []]) 2 32 Tryz.underlying42 hi hz0 hz1 hz2 rfl (by decide) (.slice vq vm vc) j (termsP l j) rfl (HO4.out.alloc _) ⟨X4.heap.size, 0, none⟩ 1 1 [St [49], St u5] rfl rfl (two_new _ _ _ _) (two_strs _ _) (by unfold maxLen; omega) (by omega) hbs ?_)
    intro v' w' hown' hgrow _
    have hst := per_step H0.out HV.out HO.out hX5 hgrow (by rw [HT.out]; exact hown') W1.heap.size
    have ck := cellsKept_below hX5
    have hlt : some w1.heap.size ≠ (Value.slice vq vm vc).ownBlock := fun e => by have := ((ownsRow_kept ck HO.out).lt _ e.symm).1; omega
    have hcell := hgrow.cell (ck.cell HV.out) hlt
    have hfr : w'.frozen? ⟨w1.heap.size, 0, none⟩ = false := by
      rw [World.frozen?_of_block (a := ⟨w1.heap.size, 0, none⟩) (hgrow.block _ (cell_lt (ck.cell HV.out)) hlt)]; exact ck.frozen HV.out H0.out.fr
    obtain ⟨q, m, c, rfl⟩ : ∃ q m c, v' = .slice q m c := by
      rcases hown'.2 with ⟨e, _⟩ | ⟨g, cp, cur, e, _⟩ <;> exact ⟨_, _, _, e⟩
    have HST := Lib.hid hst
    clear hst hown' hgrow ck hlt hX5 hbs hX4 g0 g1
    gi_wp2
    exact HST.out
  case done =>
    rintro D W hD hS hK
    obtain ⟨v, hv, hown⟩ := hS.box
    obtain ⟨g, gc, rfl, hg, hcs⟩ := own_cells hown (by omega)
    have hs0 := hS.bel.size
    have hmk := MK.out g gc W hS.bel (by have := cell_lt hS.r2; simp at this; omega) (by have := hS.bt1; omega) (fun i hi => by
      have := termsP_at l n i (by rw [HN.out]; exact hi)
      exact ⟨hcs _ _ this.1, hcs _ _ this.2⟩)
    rw [← HN.out] at hmk
    have HMK := Lib.hid hmk
    have HX := Lib.hid (⟨hS.bel, hK, hS.r1, hS.f1, hS.r2, hS.f2⟩ : Below w.heap.size w W ∧ W.heap[D]? = some (.deferred (some [])) ∧ _ ∧ _ ∧ _ ∧ _)
    clear hS hK hown hcs hmk hseq hS1 SX SY MX MY AD MK hs0
    gi_wp2
    refine ⟨trivial, (callsIn_wide.2 HMK.out).mono ?_⟩
    rintro e W2 ⟨q, m, c, k, rfl, hb2, hΨ⟩
    have hbl2 := HX.out.1.trans (hb2.mono HX.out.1.size)
    have ck := cellsKept_below hb2
    have HX2 := Lib.hid (⟨hbl2, (hb2.block _ (Array.getElem?_eq_some_iff.1 HX.out.2.1).1).trans HX.out.2.1, hΨ⟩ : Below w.heap.size w W2 ∧ W2.heap[D]? = some (.deferred (some [])) ∧ Ψ q m c k W2)
    obtain ⟨_, _, r1, f1, r2, f2⟩ := HX.out
    have r1 := ck.cell r1
    have f1 := (ck.frozen HX.out.2.2.1 f1)
    have r2 := ck.cell r2
    have f2 := (ck.frozen HX.out.2.2.2.2.1 f2)
    clear hb2 hbl2 HX HMK hΨ ck hv
    gi_wp2
    obtain ⟨hbel, hK, hΨ⟩ := HX2.out
    have hK1 := (KeepsOthers.setCell W2 ⟨w.heap.size, 0, none⟩ (.slice q m c)).same D _ hK rfl
    have hK' := (KeepsOthers.setCell (W2.setCell ⟨w.heap.size, 0, none⟩ (.slice q m c)) ⟨w.heap.size + 1, 0, none⟩ (.int .i64 k)).same D _ hK1 rfl
    refine ⟨by simp, .inl ⟨_, _, rfl, run_takeDeferred hK', ?_⟩⟩
    have c1 := cell_eq (u := .slice q m c) r1
    have c2 : (W2.setCell ⟨w.heap.size, 0, none⟩ (.slice q m c)).cell? ⟨w.heap.size + 1, 0, none⟩ = some (I 0) := by rw [cell_ne _ _ _ _ (by omega)]; exact r2
    have c3 := cell_eq (u := .int .i64 k) c2
    have c4 : ((W2.setCell ⟨w.heap.size, 0, none⟩ (.slice q m c)).setCell ⟨w.heap.size + 1, 0, none⟩ (.int .i64 k)).cell? ⟨w.heap.size, 0, none⟩ = some (.slice q m c) := by rw [cell_ne _ _ _ _ (by omega)]; exact c1
    have e1 := (kept_put hK').cell c4
    have e2 := (kept_put hK').cell c3
    refine ⟨.tuple #[.slice q m c, .int .i64 k], ?_, q, m, c, k, rfl, below_put ((hbel.setCell (p := ⟨w.heap.size, 0, none⟩) (by simp) _).setCell (p := ⟨w.heap.size + 1, 0, none⟩) (by simp) _) (by have := HS1.out; omega) hK', HM.out.keep _ _ _ _ _ _ hΨ fun b o x hb hc => (kept_put hK').cell (by rw [cell_ne _ _ _ _ (by omega), cell_ne _ _ _ _ (by omega)]; exact hc)⟩
    simp [results, Tryz.f16, go_sem, e1, e2]
  case stop =>
    rintro D c j W hD h hK
    exact h.elim
end Go.Proofs.YtapfekcbbhhieaaGreatDoor

namespace Go.Proofs.YtapfekcbbhhieaaGreatDoor.Geo

theorem mulR_pos {a b : Rat} (ha : 0 < a) (hb : 0 < b) : 0 < a * b := Rat.mul_pos ha hb
theorem mulR_neg {a b : Rat} (ha : 0 < a) (hb : b < 0) : a * b < 0 := by
  have := Rat.mul_pos ha (show 0 < -b by grind); grind
theorem mulR_neg' {a b : Rat} (ha : a < 0) (hb : 0 < b) : a * b < 0 := by
  have := Rat.mul_pos (show 0 < -a by grind) hb; grind
theorem mulR_nn {a b : Rat} (ha : a < 0) (hb : b < 0) : 0 < a * b := by
  have := Rat.mul_pos (show 0 < -a by grind) (show 0 < -b by grind); grind

theorem cmp_sign (a b : Rat) : cmpR a b = cmpR (a - b) 0 := cmpR_sub _ _ _ _ (by grind)
theorem sg_mul (a b : Rat) : cmpR (a * b) 0 = cmpR a 0 * cmpR b 0 := by
  rcases cmpR_cases a 0 with ⟨h1, e1⟩ | ⟨h1, e1⟩ | ⟨h1, e1⟩ <;> rcases cmpR_cases b 0 with ⟨h2, e2⟩ | ⟨h2, e2⟩ | ⟨h2, e2⟩ <;> rw [e1, e2]
  · have := mulR_nn h1 h2; have := cmpR_cases (a * b) 0; grind
  · subst h2; rw [Rat.mul_zero, cmpR_self]; rfl
  · have := mulR_neg' h1 h2; have := cmpR_cases (a * b) 0; grind
  · subst h1; rw [Rat.zero_mul, cmpR_self]; rfl
  · subst h1; rw [Rat.zero_mul, cmpR_self]; rfl
  · subst h1; rw [Rat.zero_mul, cmpR_self]; rfl
  · have := mulR_neg h1 h2; have := cmpR_cases (a * b) 0; grind
  · subst h2; rw [Rat.mul_zero, cmpR_self]; rfl
  · have := mulR_pos h1 h2; have := cmpR_cases (a * b) 0; grind
theorem sg_vals (a : Rat) : cmpR a 0 = -1 ∨ cmpR a 0 = 0 ∨ cmpR a 0 = 1 := by have := cmpR_cases a 0; grind

/-- Is a point on the line of a segment within its extents? -/
def onR (a b p : Pt) : Prop := cmpR p.x a.x * cmpR p.x b.x ≤ 0 ∧ cmpR p.y a.y * cmpR p.y b.y ≤ 0
instance (a b p : Pt) : Decidable (onR a b p) := by unfold onR; infer_instance

def cr (a b c : Pt) : Rat := (b.x - a.x) * (c.y - a.y) - (b.y - a.y) * (c.x - a.x)
theorem turn_cr (a b c : Pt) : turn a b c = cmpR (cr a b c) 0 := cmp_sign _ _
theorem turn_zero {a b c : Pt} : turn a b c = 0 ↔ cr a b c = 0 := by rw [turn_cr, cmpR_zero]

theorem sign4 {u v R S : Int} (hu : u = -1 ∨ u = 0 ∨ u = 1) (hv : v = -1 ∨ v = 0 ∨ v = 1) (hR : R = -1 ∨ R = 0 ∨ R = 1) (hS : S = -1 ∨ S = 0 ∨ S = 1) (h : u * S = v * R) (hRS : R ≠ 0 ∨ S ≠ 0) (hle : R * S ≤ 0) : u * v ≤ 0 := by
  rcases hu with rfl | rfl | rfl <;> rcases hv with rfl | rfl | rfl <;> rcases hR with rfl | rfl | rfl <;> rcases hS with rfl | rfl | rfl <;> omega
theorem sign6 {u v x y R S : Int} (hu : u = -1 ∨ u = 0 ∨ u = 1) (hv : v = -1 ∨ v = 0 ∨ v = 1) (hR : R = -1 ∨ R = 0 ∨ R = 1) (hS : S = -1 ∨ S = 0 ∨ S = 1) (h : u * S = v * R) (hle : u * v ≤ 0) (h0 : 0 < R * S) : u = 0 ∧ v = 0 := by
  rcases hu with rfl | rfl | rfl <;> rcases hv with rfl | rfl | rfl <;> rcases hR with rfl | rfl | rfl <;> rcases hS with rfl | rfl | rfl <;> omega

/-- A point of the line, with the ends on different sides of another line through it, lies between them. -/
theorem on_of_sides {a b c d : Pt} (h0 : turn a b c = 0) (hq : turn c d a ≠ 0 ∨ turn c d b ≠ 0) (h : turn c d a * turn c d b ≤ 0) : onR a b c := by
  rw [turn_zero] at h0
  rw [turn_cr, turn_cr] at h hq
  have e1 : (c.x - a.x) * cr c d b = (c.x - b.x) * cr c d a := by unfold cr at *; grind
  have e2 : (c.y - a.y) * cr c d b = (c.y - b.y) * cr c d a := by unfold cr at *; grind
  have f1 := congrArg (cmpR · 0) e1
  have f2 := congrArg (cmpR · 0) e2
  simp only [sg_mul] at f1 f2
  unfold onR
  rw [cmp_sign c.x, cmp_sign c.x, cmp_sign c.y, cmp_sign c.y]
  exact ⟨sign4 (sg_vals _) (sg_vals _) (sg_vals _) (sg_vals _) f1 hq h, sign4 (sg_vals _) (sg_vals _) (sg_vals _) (sg_vals _) f2 hq h⟩

theorem sides_of_on {a b c d : Pt} (h0 : turn a b c = 0) (h : onR a b c) : turn c d a * turn c d b ≤ 0 := by
  rw [turn_zero] at h0
  rw [turn_cr, turn_cr]
  have e1 : (c.x - a.x) * cr c d b = (c.x - b.x) * cr c d a := by unfold cr at *; grind
  have e2 : (c.y - a.y) * cr c d b = (c.y - b.y) * cr c d a := by unfold cr at *; grind
  have f1 := congrArg (cmpR · 0) e1
  have f2 := congrArg (cmpR · 0) e2
  simp only [sg_mul] at f1 f2
  unfold onR at h
  rw [cmp_sign c.x, cmp_sign c.x, cmp_sign c.y, cmp_sign c.y] at h
  rcases Int.lt_or_le 0 (cmpR (cr c d a) 0 * cmpR (cr c d b) 0) with hp | hp
  · obtain ⟨g1, g2⟩ := sign6 (x := 0) (y := 0) (sg_vals _) (sg_vals _) (sg_vals _) (sg_vals _) f1 h.1 hp
    obtain ⟨g3, g4⟩ := sign6 (x := 0) (y := 0) (sg_vals _) (sg_vals _) (sg_vals _) (sg_vals _) f2 h.2 hp
    rw [cmpR_zero] at g1 g2 g3 g4
    have : cr c d a = 0 := by unfold cr; grind
    rw [this, cmpR_self] at hp
    omega
  · exact hp

/-- Not all four on one line. -/
theorem not_both {a b c d : Pt} (h0 : turn a b c = 0) (h : turn a b d ≠ 0) : turn c d a ≠ 0 ∨ turn c d b ≠ 0 := by
  rcases Int.decEq (turn c d a) 0 with h1 | h1
  · exact .inl h1
  · refine .inr fun h2 => h ?_
    rw [turn_zero] at *
    unfold cr at *
    grind

/-- One by one, each once. -/
def uniq (P : Pt → Bool) : List Pt → List Pt → List Pt
  | acc, [] => acc
  | acc, x :: r => uniq P (if P x && !acc.contains x then acc ++ [x] else acc) r

theorem uniq_spec (P : Pt → Bool) : ∀ (l acc : List Pt), acc.Nodup → (uniq P acc l).Nodup ∧ ∀ y, y ∈ uniq P acc l ↔ y ∈ acc ∨ (y ∈ l ∧ P y = true)
  | [], acc, h => ⟨h, fun y => by simp [uniq]⟩
  | x :: r, acc, h => by
    rw [uniq]
    by_cases hp : (P x && !acc.contains x) = true
    · rw [if_pos hp]
      simp only [Bool.and_eq_true, Bool.not_eq_true', List.contains_eq_mem, decide_eq_false_iff_not] at hp
      obtain ⟨h1, h2⟩ := uniq_spec P r (acc ++ [x]) (by rw [List.nodup_append]; exact ⟨h, by simp, fun a ha b hb => by simp at hb; subst hb; exact fun e => hp.2 (e ▸ ha)⟩)
      refine ⟨h1, fun y => ?_⟩
      rw [h2]
      simp only [List.mem_append, List.mem_cons, List.not_mem_nil, or_false]
      constructor
      · rintro ((h | rfl) | h)
        · exact .inl h
        · exact .inr ⟨.inl rfl, hp.1⟩
        · exact .inr ⟨.inr h.1, h.2⟩
      · rintro (h | ⟨rfl | h, k⟩)
        · exact .inl (.inl h)
        · exact .inl (.inr rfl)
        · exact .inr ⟨h, k⟩
    · rw [if_neg hp]
      obtain ⟨h1, h2⟩ := uniq_spec P r acc h
      refine ⟨h1, fun y => ?_⟩
      rw [h2]
      simp only [List.mem_cons]
      constructor
      · rintro (h | h)
        · exact .inl h
        · exact .inr ⟨.inr h.1, h.2⟩
      · rintro (h | ⟨rfl | h, k⟩)
        · exact .inl h
        · refine .inl ?_
          simp only [Bool.and_eq_true, Bool.not_eq_true', List.contains_eq_mem, decide_eq_false_iff_not, not_and, Decidable.not_not] at hp
          exact hp k
        · exact .inr ⟨h, k⟩

/-- The reference's way. -/
def refSeg (a b c d : Pt) : Int :=
  if turn a b c = 0 ∧ turn a b d = 0 ∧ turn c d a = 0 ∧ turn c d b = 0 then
    min 2 ((uniq (fun x => decide (onR a b x) && decide (onR c d x) && decide (turn a b x = 0) && decide (turn c d x = 0)) [] [a, b, c, d]).length : Int)
  else if turn a b c * turn a b d ≤ 0 ∧ turn c d a * turn c d b ≤ 0 ∧ (turn a b c ≠ 0 ∨ onR a b c) ∧ (turn a b d ≠ 0 ∨ onR a b d) then 1
  else if turn a b c = 0 ∧ onR a b c ∨ turn a b d = 0 ∧ onR a b d ∨ turn c d a = 0 ∧ onR c d a ∨ turn c d b = 0 ∧ onR c d b then 1
  else 0

def le (p q : Pt) : Prop := ordP p q ≤ 0

theorem on_iff_le {a b x : Pt} (h : turn a b x = 0) : onR a b x ↔ le (low a b) x ∧ le x (high a b) := by
  rw [turn_zero] at h
  have e1 : (b.x - a.x) * (x.y - a.y) = (b.y - a.y) * (x.x - a.x) := by unfold cr at h; grind
  have e2 : (b.x - a.x) * (x.y - b.y) = (b.y - a.y) * (x.x - b.x) := by unfold cr at h; grind
  have f1 := congrArg (cmpR · 0) e1
  have f2 := congrArg (cmpR · 0) e2
  simp only [sg_mul, ← cmp_sign] at f1 f2
  unfold onR le low high
  have k1 := cmpR_cases x.x a.x; have k2 := cmpR_cases x.x b.x; have k3 := cmpR_cases x.y a.y; have k4 := cmpR_cases x.y b.y
  have s1 := cmpR_swap a.x x.x; have s2 := cmpR_swap b.x x.x; have s3 := cmpR_swap a.y x.y; have s4 := cmpR_swap b.y x.y
  have s5 := cmpR_swap a.x b.x; have s6 := cmpR_swap a.y b.y
  unfold ordP
  rcases cmpR_cases a.x b.x with ⟨p1, p2⟩ | ⟨p1, p2⟩ | ⟨p1, p2⟩ <;> rcases cmpR_cases a.y b.y with ⟨q1, q2⟩ | ⟨q1, q2⟩ | ⟨q1, q2⟩ <;> clear e1 e2 h
  all_goals
    rw [p2] at s5
    rw [q2] at s6
    rw [s5, s6] at f1 f2
    simp [p2, q2]
    rcases k1 with ⟨k1, l1⟩ | ⟨k1, l1⟩ | ⟨k1, l1⟩ <;> rcases k2 with ⟨k2, l2⟩ | ⟨k2, l2⟩ | ⟨k2, l2⟩ <;> simp only [l1, l2] at s1 s2 f1 f2 ⊢ <;> first | (exfalso; grind; done) | grind

theorem le_trans {p q r : Pt} (h : le p q) (k : le q r) : le p r := by unfold le at *; have := ordP_cases p q; have := ordP_cases q r; have := ordP_cases p r; grind
theorem le_antisymm {p q : Pt} (h : le p q) (k : le q p) : p = q := by unfold le at *; have := ordP_cases p q; have := ordP_cases q p; grind
theorem le_self (p : Pt) : le p p := by unfold le; rw [ordP_self]; exact Int.le_refl _
theorem le_total (p q : Pt) : le p q ∨ le q p := by unfold le; have := ordP_cases p q; have := ordP_cases q p; grind

def maxP (p q : Pt) : Pt := if ordP q p > 0 then q else p
def minP (p q : Pt) : Pt := if ordP q p < 0 then q else p
theorem maxP_le {p q x : Pt} : le (maxP p q) x ↔ le p x ∧ le q x := by
  unfold maxP le; have := ordP_cases p q; have := ordP_cases q p; have := ordP_cases p x; have := ordP_cases q x; grind
theorem le_minP {p q x : Pt} : le x (minP p q) ↔ le x p ∧ le x q := by
  unfold minP le; have := ordP_cases p q; have := ordP_cases q p; have := ordP_cases x p; have := ordP_cases x q; grind

theorem len_two {l : List Pt} {x y : Pt} (hx : x ∈ l) (hy : y ∈ l) (hne : x ≠ y) : 2 ≤ l.length := by
  match l, hx, hy with
  | [z], hx, hy => simp at hx hy; exact absurd (hx.trans hy.symm) hne
  | _ :: _ :: _, _, _ => simp
theorem len_one {l : List Pt} {x : Pt} (hx : x ∈ l) (hd : l.Nodup) (h : ∀ y ∈ l, y = x) : l.length = 1 := by
  match l, hx with
  | [z], _ => rfl
  | z :: y :: r, _ =>
    have h1 := h z (by simp)
    have h2 := h y (by simp)
    subst h1; subst h2
    simp at hd

theorem seg_collinear {a b c d : Pt} (h1 : turn a b c = 0) (h2 : turn a b d = 0) (h3 : turn c d a = 0) (h4 : turn c d b = 0) :
    min 2 ((uniq (fun x => decide (onR a b x) && decide (onR c d x) && decide (turn a b x = 0) && decide (turn c d x = 0)) [] [a, b, c, d]).length : Int) = 1 - ordP (maxP (low a b) (low c d)) (minP (high a b) (high c d)) := by
  obtain ⟨hn, hm⟩ := uniq_spec (fun x => decide (onR a b x) && decide (onR c d x) && decide (turn a b x = 0) && decide (turn c d x = 0)) [a, b, c, d] [] (by simp)
  generalize hL : uniq _ [] [a, b, c, d] = L at *
  have hz : ∀ y ∈ [a, b, c, d], turn a b y = 0 ∧ turn c d y = 0 := by
    intro y hy
    simp at hy
    rcases hy with rfl | rfl | rfl | rfl
    · exact ⟨turn_left _ _, h3⟩
    · exact ⟨turn_right _ _, h4⟩
    · exact ⟨h1, turn_left _ _⟩
    · exact ⟨h2, turn_right _ _⟩
  have hm' : ∀ y, y ∈ L ↔ y ∈ [a, b, c, d] ∧ le (maxP (low a b) (low c d)) y ∧ le y (minP (high a b) (high c d)) := by
    intro y
    rw [hm y]
    simp only [List.not_mem_nil, false_or]
    refine and_congr_right fun hy => ?_
    obtain ⟨z1, z2⟩ := hz y hy
    simp only [Bool.and_eq_true, decide_eq_true_eq, z1, z2, and_true, on_iff_le z1, on_iff_le z2, maxP_le, le_minP]
    constructor
    · rintro ⟨⟨a1, a2⟩, a3, a4⟩; exact ⟨⟨a1, a3⟩, a2, a4⟩
    · rintro ⟨⟨a1, a3⟩, a2, a4⟩; exact ⟨⟨a1, a2⟩, a3, a4⟩
  have hf : maxP (low a b) (low c d) ∈ [a, b, c, d] := by
    have l1 : low a b = a ∨ low a b = b := by unfold low; split <;> simp
    have l2 : low c d = c ∨ low c d = d := by unfold low; split <;> simp
    have l3 : maxP (low a b) (low c d) = low a b ∨ maxP (low a b) (low c d) = low c d := by unfold maxP; split <;> simp
    rcases l3 with l3 | l3 <;> rw [l3] <;> rcases l1 with l1 | l1 <;> rcases l2 with l2 | l2 <;> simp [l1, l2]
  have ht : minP (high a b) (high c d) ∈ [a, b, c, d] := by
    have l1 : high a b = a ∨ high a b = b := by unfold high; split <;> simp
    have l2 : high c d = c ∨ high c d = d := by unfold high; split <;> simp
    have l3 : minP (high a b) (high c d) = high a b ∨ minP (high a b) (high c d) = high c d := by unfold minP; split <;> simp
    rcases l3 with l3 | l3 <;> rw [l3] <;> rcases l1 with l1 | l1 <;> rcases l2 with l2 | l2 <;> simp [l1, l2]
  generalize maxP (low a b) (low c d) = f at *
  generalize minP (high a b) (high c d) = t at *
  have ho := ordP_cases f t
  have hle : le f t ↔ ordP f t ≤ 0 := Iff.rfl
  rcases ho with ⟨_, ho⟩ | ⟨e, ho⟩ | ⟨_, ho⟩
  · have hlt : le f t := by rw [hle, ho]; decide
    have hne : f ≠ t := fun e => by rw [e, ordP_self] at ho; cases ho
    have := len_two ((hm' f).2 ⟨hf, le_self _, hlt⟩) ((hm' t).2 ⟨ht, hlt, le_self _⟩) hne
    rw [ho]; omega
  · subst e
    have := len_one ((hm' f).2 ⟨hf, le_self _, le_self _⟩) hn (fun y hy => le_antisymm ((hm' y).1 hy).2.2 ((hm' y).1 hy).2.1)
    rw [ho]; omega
  · have : L = [] := by
      cases L with
      | nil => rfl
      | cons y r =>
        have := (hm' y).1 (by simp)
        have := hle.1 (le_trans this.2.1 this.2.2)
        omega
    rw [this, ho]; rfl

/-- THE REFERENCE's WAY is the program's. -/
theorem refSeg_meet (a b c d : Pt) : refSeg a b c d = meet a b c d := by
  unfold refSeg meet
  by_cases h0 : turn a b c = 0 ∧ turn a b d = 0 ∧ turn c d a = 0 ∧ turn c d b = 0
  · obtain ⟨h1, h2, h3, h4⟩ := h0
    rw [if_pos ⟨h1, h2, h3, h4⟩, if_neg (by omega), seg_collinear h1 h2 h3 h4]
    rfl
  · have h0' : turn a b c ≠ 0 ∨ turn a b d ≠ 0 ∨ turn c d a ≠ 0 ∨ turn c d b ≠ 0 := by omega
    rw [if_neg h0, if_pos h0']
    by_cases hc : turn a b c * turn a b d ≤ 0 ∧ turn c d a * turn c d b ≤ 0
    · rw [if_pos hc, if_pos]
      refine ⟨hc.1, hc.2, ?_, ?_⟩
      · rcases Int.decEq (turn a b c) 0 with h | h
        · exact .inl h
        · refine .inr (on_of_sides h ?_ hc.2)
          rcases Int.decEq (turn a b d) 0 with h' | h'
          · exact not_both h h'
          · omega
      · rcases Int.decEq (turn a b d) 0 with h | h
        · exact .inl h
        · refine .inr (on_of_sides (c := d) (d := c) h ?_ ?_)
          · rcases Int.decEq (turn a b c) 0 with h' | h'
            · exact not_both h h'
            · rw [turn_swap c d a, turn_swap c d b]; omega
          · rw [turn_swap c d a, turn_swap c d b, Int.neg_mul_neg]; exact hc.2
    · rw [if_neg hc, if_neg (fun h => hc ⟨h.1, h.2.1⟩), if_neg]
      rintro (⟨h, k⟩ | ⟨h, k⟩ | ⟨h, k⟩ | ⟨h, k⟩)
      · exact hc ⟨by rw [h, Int.zero_mul]; exact Int.le_refl _, sides_of_on h k⟩
      · have := sides_of_on (d := c) h k
        rw [turn_swap c d a, turn_swap c d b, Int.neg_mul_neg] at this
        exact hc ⟨by rw [h, Int.mul_zero]; exact Int.le_refl _, this⟩
      · exact hc ⟨sides_of_on h k, by rw [h, Int.zero_mul]; exact Int.le_refl _⟩
      · have := sides_of_on (d := a) h k
        rw [turn_swap a b c, turn_swap a b d, Int.neg_mul_neg] at this
        exact hc ⟨this, by rw [h, Int.mul_zero]; exact Int.le_refl _⟩
end Go.Proofs.YtapfekcbbhhieaaGreatDoor.Geo
