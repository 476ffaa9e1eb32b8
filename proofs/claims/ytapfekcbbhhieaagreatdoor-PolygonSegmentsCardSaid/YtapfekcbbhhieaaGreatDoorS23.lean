/-
  surd.class.plus at root 1.
  surd.gatherer.add: the first term.
  surd.gatherer.add: a further term at root 1.
  surd.visit, three terms at squares.
  The squares of 3, 4, 5 have no other square in them.
  slices.SortFunc of one term.
-/
import Derived.Test.YtapfekcbbhhieaaGreatDoorS22
import Derived.Test.YtapfekcbbhhieaaGreatDoorS21
import Derived.Test.YtapfekcbbhhieaaGreatDoorS15
namespace Go.Proofs.YtapfekcbbhhieaaGreatDoor
open Go.RowKit Go.Shelf Lib Str Limb
attribute [local go_sem] Oper.semAt_some

/-- The boxes of plus. -/
structure PlusS (w : World) (x y : List UInt8) (W : World) : Prop where
  bel : Below w.heap.size w W
  h0 : W.heap[w.heap.size]? = some (.cells #[St x, St [49]] 121 (0, 0))
  h1 : W.heap[w.heap.size + 1]? = some (.cells #[St y, St [49]] 121 (0, 0))
  h2 : W.heap[w.heap.size + 1 + 1]? = some (.cells #[St [], St []] 121 (0, 0))
theorem PlusS.next {w : World} {x y : List UInt8} {W W' : World} (h : PlusS w x y W) (hb : Below W.heap.size W W') : PlusS w x y W' :=
  have hc := cellsKept_below hb
  ⟨h.bel.trans (hb.mono h.bel.size), hc _ _ _ _ h.h0, hc _ _ _ _ h.h1, hc _ _ _ _ h.h2⟩
theorem PlusS.cells {w : World} {x y : List UInt8} {W : World} (h : PlusS w x y W) :
    W.cell? ⟨w.heap.size, 0, none⟩ = some (St x) ∧ W.cell? ⟨w.heap.size, 1, none⟩ = some (.string ⟨#[49]⟩) ∧ W.cell? ⟨w.heap.size + 1, 0, none⟩ = some (St y) ∧ W.cell? ⟨w.heap.size + 1, 1, none⟩ = some (.string ⟨#[49]⟩) ∧
    W.cell? ⟨w.heap.size + 1 + 1, 0, none⟩ = some (St []) ∧ W.cell? ⟨w.heap.size + 1 + 1, 1, none⟩ = some (St []) ∧ W.frozen? ⟨w.heap.size + 1 + 1, 0, none⟩ = false ∧ W.frozen? ⟨w.heap.size + 1 + 1, 1, none⟩ = false := by
  refine ⟨?_, ?_, ?_, ?_, ?_, ?_, Go.Joins.unfrozen_of_block h.h2 0, Go.Joins.unfrozen_of_block h.h2 1⟩
  · rw [Go.Joins.cell_of_block h.h0]; rfl
  · rw [Go.Joins.cell_of_block h.h0]; rfl
  · rw [Go.Joins.cell_of_block h.h1]; rfl
  · rw [Go.Joins.cell_of_block h.h1]; rfl
  · rw [Go.Joins.cell_of_block h.h2]; rfl
  · rw [Go.Joins.cell_of_block h.h2]; rfl
theorem PlusS.start (w : World) (x y : List UInt8) : PlusS w x y (((w.alloc (.cells #[St x, St [49]] 121)).alloc (.cells #[St y, St [49]] 121)).alloc (.cells #[St [], St []] 121)) := by
  refine ⟨(((Below.refl _ w).alloc (Nat.le_refl _) _).alloc (by simp) _).alloc (by simp; omega) _, ?_, ?_, ?_⟩
  · exact (Below.heap_alloc _ _ _ (by simp; omega)).trans ((Below.heap_alloc _ _ _ (by simp)).trans (World.alloc_heap_new w _))
  · have := World.alloc_heap_new (w.alloc (.cells #[St x, St [49]] 121)) (.cells #[St y, St [49]] 121)
    rw [World.size_alloc] at this
    exact (Below.heap_alloc _ _ _ (by simp)).trans this
  · have := World.alloc_heap_new ((w.alloc (.cells #[St x, St [49]] 121)).alloc (.cells #[St y, St [49]] 121)) (.cells #[St [], St []] 121)
    simp only [World.size_alloc] at this
    exact this

set_option maxRecDepth 100000 in
set_option maxHeartbeats 2000000 in
theorem plus_walk (x y z : List UInt8)
    (M : Hid (∀ W : World, Wd W → Calls Tryz.prog 10 #[St y, .string ⟨#[49]⟩] W fun e w' => e = .returned (.tuple #[St y, .int .i64 0]) ∧ Below W.heap.size W w'))
    (A : Hid (∀ W : World, Wd W → Calls Tryz.prog 11 #[St x, St y] W fun e w' => e = .returned (.tuple #[St z, .int .i64 0]) ∧ Below W.heap.size W w'))
    (w : World) (HW : Hid (Wd w)) :
    Calls Tryz.prog 119 #[.agg #[St x, St [49]], .agg #[St y, St [49]]] w fun e w' => e = .returned (.tuple #[.agg #[St z, St [49]], .int .i64 0]) ∧ Below w.heap.size w w' := by
  have hS := PlusS.start w x y
  obtain ⟨c0, c1, c2, c3, c4, c5, f0, f1⟩ := hS.cells
  obtain ⟨W1, hW1⟩ : ∃ W1, W1 = ((w.alloc (.cells #[St x, St [49]] 121)).alloc (.cells #[St y, St [49]] 121)).alloc (.cells #[St [], St []] 121) := ⟨_, rfl⟩
  rw [← hW1] at hS
  have HS := Lib.hid hS; have HW1 := Lib.hid hW1; clear hS hW1
  go_enter Tryz.func119, Tryz.ntmps119
  go_wp2_with fail
  have h9 := HW1.out
  rw [← h9]
  clear h9 c0 c1 c2 c3 c4 c5 f0 f1
  refine (ratio_one W1 (HW.out.below HS.out.bel)).mono ?_
  rintro e w2 ⟨rfl, hb2⟩
  have H2 := Lib.hid (HS.out.next hb2); clear hb2 HS HW1
  obtain ⟨c0, c1, c2, c3, c4, c5, f0, f1⟩ := H2.out.cells
  go_wp2_with fail
  refine (M.out w2 (HW.out.below H2.out.bel)).mono ?_
  rintro e w3 ⟨rfl, hb3⟩
  have H3 := Lib.hid (H2.out.next hb3); clear hb3 H2 c0 c1 c2 c3 c4 c5 f0 f1
  obtain ⟨c0, c1, c2, c3, c4, c5, f0, f1⟩ := H3.out.cells
  go_wp2_with fail
  refine (A.out w3 (HW.out.below H3.out.bel)).mono ?_
  rintro e w4 ⟨rfl, hb4⟩
  have H4 := Lib.hid (H3.out.next hb4); clear hb4 H3 c0 c1 c2 c3 c4 c5 f0 f1
  obtain ⟨c0, c1, c2, c3, c4, c5, f0, f1⟩ := H4.out.cells
  have hB4 := H4.out.bel
  go_wp2_with fail
  refine bodyPost_ret (v := .tuple #[.agg #[St z, St [49]], .int .i64 0]) (by simp [results, Tryz.results119, go_sem, c4, c5]) rfl ⟨rfl, ?_⟩
  repeat (first | exact hB4 | refine Below.setCell ?_ (by simp; omega) _)
end Go.Proofs.YtapfekcbbhhieaaGreatDoor

namespace Go.Proofs.YtapfekcbbhhieaaGreatDoor
open Go.RowKit Go.Shelf Lib Str Limb
attribute [local go_sem] Oper.semAt_some

theorem infoClass : (Tryz.prog.info? 121).map (fun i => (i.zero, i.size, i.bytes)) = some (some (.agg #[St [], St []]), 2, 32) := by kernel_rfl

/-- One class lies under the gatherer. -/
structure GateS (gb : Nat) (x : List UInt8) (W : World) : Prop where
  cls : ∃ cb cap cs, W.cell? ⟨gb, 0, none⟩ = some (.slice (some ⟨cb, 0, none⟩) 1 cap) ∧ gb < cb ∧ W.heap[cb]? = some (.cells cs 121 (0, 0)) ∧ cs[0]? = some (St x) ∧ cs[1]? = some (St [49])
  fr : W.frozen? ⟨gb, 0, none⟩ = false

/-- What is known while the first class is appended. -/
structure AddS (W : World) (x : List UInt8) (gb base : Nat) (b : Nat × Value) (f : Nat → Bool) (X : World) : Prop where
  pre : f 11 = false → Below W.heap.size W X
  new : f 11 = false → f 10 = true → X.cell? ⟨b.1, 0, none⟩ = some (St x) ∧ X.cell? ⟨b.1, 1, none⟩ = some (.string ⟨#[49]⟩)
  post : f 11 = true → ∃ Y Z, Below W.heap.size W Y ∧ Y.grownBy Z none ∧ Z.ownsRow base 121 2 b.2 1 [St x, .string ⟨#[49]⟩] ∧ X = if f 14 = true then Z.setCell ⟨gb, 0, none⟩ b.2 else Z
theorem AddS.congr {W : World} {x : List UInt8} {gb base : Nat} {b : Nat × Value} {f g : Nat → Bool} {X : World} (h : AddS W x gb base b f X) (e10 : g 10 = f 10) (e11 : g 11 = f 11) (e14 : g 14 = f 14) : AddS W x gb base b g X :=
  ⟨by rw [e11]; exact h.pre, by rw [e10, e11]; exact h.new, by rw [e11, e14]; exact h.post⟩

set_option maxRecDepth 100000 in
set_option maxHeartbeats 2000000 in
theorem addFirst_walk (gb : Nat) (x : List UInt8) (w : World) (hg : w.cell? ⟨gb, 0, none⟩ = some (.slice none 0 0)) (hf : w.frozen? ⟨gb, 0, none⟩ = false) :
    Calls Tryz.prog 83 #[.pointer (some ⟨gb, 0, none⟩), .agg #[St x, .string ⟨#[49]⟩]] w fun e w' => e = .returned (.int .i64 0) ∧ Below gb w w' ∧ GateS gb x w' := by
  obtain ⟨i0, hi, hz0, hz1, hz2⟩ := info_parts infoClass
  have hlt := cell_lt hg
  obtain ⟨W1, hW1⟩ : ∃ W1, W1 = w.alloc (.cells #[St x, .string ⟨#[49]⟩] 49) := ⟨_, rfl⟩
  have hb1 : Below w.heap.size w W1 := by rw [hW1]; exact (Below.refl _ w).alloc (Nat.le_refl _) _
  have A1 : W1.heap[w.heap.size]? = some (.cells #[St x, .string ⟨#[49]⟩] 49 (0, 0)) := by rw [hW1]; exact World.alloc_heap_new w _
  have g1 := below_cell hb1 hg
  have f1 := (cellsKept_below hb1).frozen hg hf
  have hz : W1.heap.size = w.heap.size + 1 := by rw [hW1]; simp
  have g2 := g1
  rw [hW1] at g2
  have HW1 := Lib.hid hW1
  clear hW1
  go_enter Tryz.func83, Tryz.ntmps83
  go_wp2_with fail
  refine wp_loop_rounds 1 ?_
  rw [rounds_succ]
  go_wp2_with fail
  have h9 := HW1.out
  rw [← show W1 = w.alloc (.cells #[St x, .string ⟨#[49]⟩] 49) from h9]
  have hks : ∀ w' : World, Below W1.heap.size W1 w' → w'.cell? ⟨gb, 0, none⟩ = some (.slice none 0 0) ∧ w'.cell? ⟨w.heap.size, 0, none⟩ = some (St x) ∧ w'.cell? ⟨w.heap.size, 1, none⟩ = some (.string ⟨#[49]⟩) := fun w' hb =>
    ⟨below_cell hb g1, below_cell hb (by rw [Go.Joins.cell_of_block A1]; rfl), below_cell hb (by rw [Go.Joins.cell_of_block A1]; rfl)⟩
  have KS := Lib.hid hks
  have HF := Lib.hid f1
  have HG := Lib.hid g1
  have HB1 := Lib.hid hb1
  clear hks h9 g2 A1 f1 g1 hb1 hf hg
  refine wp_region_acb (fun (b : Nat × Value) i => ([.pointer (some ⟨gb, 0, none⟩), .pointer (some ⟨gb, 0, none⟩), .pointer (some ⟨gb, 0, none⟩), .pointer (some ⟨gb, 0, none⟩), .slice none 0 0, .pointer (some ⟨w.heap.size, 0, none⟩), St x, .pointer (some ⟨w.heap.size, 1, none⟩), .string ⟨#[49]⟩, .agg #[St x, .string ⟨#[49]⟩], .slice (some ⟨b.1, 0, none⟩) 1 1, b.2, .pointer (some ⟨gb, 0, none⟩), .pointer (some ⟨gb, 0, none⟩)] : List Value).getD i undef) (AddS W1 x gb (w.heap.size + 1)) (by kernel_rfl) (by kernel_rfl) (0, .slice none 0 0) ⟨fun _ => (Below.refl _ W1).drew, fun _ h => (by cases h), fun h => (by cases h)⟩ fun b => ?_
  refine acB_read (.pointer (some ⟨gb, 0, none⟩)) (by rfl) (by rfl) (fun f W' h => h.congr rfl rfl rfl) (fun f W' hf h => by go_simp) ?_
  try simp only [Act.put, List.setIfInBounds_toArray, List.set_cons_zero, List.set_cons_succ]
  refine acB_read (.pointer (some ⟨gb, 0, none⟩)) (by rfl) (by rfl) (fun f W' h => h.congr rfl rfl rfl) (fun f W' hf h => by go_simp) ?_
  try simp only [Act.put, List.setIfInBounds_toArray, List.set_cons_zero, List.set_cons_succ]
  refine acB_read (.pointer (some ⟨gb, 0, none⟩)) (by rfl) (by rfl) (fun f W' h => h.congr rfl rfl rfl) (fun f W' hf h => by go_simp) ?_
  try simp only [Act.put, List.setIfInBounds_toArray, List.set_cons_zero, List.set_cons_succ]
  refine acB_read (.pointer (some ⟨gb, 0, none⟩)) (by rfl) (by rfl) (fun f W' h => h.congr rfl rfl rfl) (fun f W' hf h => by go_simp) ?_
  try simp only [Act.put, List.setIfInBounds_toArray, List.set_cons_zero, List.set_cons_succ]
  refine acB_read (.slice none 0 0) (by rfl) (by rfl) (fun f W' h => h.congr rfl rfl rfl) (fun f W' hf h => by have g := KS.out _ (h.pre (hf.no (j := 11) hf.self (by kernel_rfl))); obtain ⟨q0, q1, q2⟩ := g; go_simp) ?_
  try simp only [Act.put, List.setIfInBounds_toArray, List.set_cons_zero, List.set_cons_succ]
  refine acB_read (.pointer (some ⟨w.heap.size, 0, none⟩)) (by rfl) (by rfl) (fun f W' h => h.congr rfl rfl rfl) (fun f W' hf h => by go_simp) ?_
  try simp only [Act.put, List.setIfInBounds_toArray, List.set_cons_zero, List.set_cons_succ]
  refine acB_read (St x) (by rfl) (by rfl) (fun f W' h => h.congr rfl rfl rfl) (fun f W' hf h => by have g := KS.out _ (h.pre (hf.no (j := 11) (hf.no (j := 10) (hf.no (j := 9) hf.self (by kernel_rfl)) (by kernel_rfl)) (by kernel_rfl))); obtain ⟨q0, q1, q2⟩ := g; go_simp) ?_
  try simp only [Act.put, List.setIfInBounds_toArray, List.set_cons_zero, List.set_cons_succ]
  refine acB_read (.pointer (some ⟨w.heap.size, 1, none⟩)) (by rfl) (by rfl) (fun f W' h => h.congr rfl rfl rfl) (fun f W' hf h => by go_simp) ?_
  try simp only [Act.put, List.setIfInBounds_toArray, List.set_cons_zero, List.set_cons_succ]
  refine acB_read (.string ⟨#[49]⟩) (by rfl) (by rfl) (fun f W' h => h.congr rfl rfl rfl) (fun f W' hf h => by have g := KS.out _ (h.pre (hf.no (j := 11) (hf.no (j := 10) (hf.no (j := 9) hf.self (by kernel_rfl)) (by kernel_rfl)) (by kernel_rfl))); obtain ⟨q0, q1, q2⟩ := g; go_simp) ?_
  try simp only [Act.put, List.setIfInBounds_toArray, List.set_cons_zero, List.set_cons_succ]
  refine acB_read (.agg #[St x, .string ⟨#[49]⟩]) (by rfl) (by rfl) (fun f W' h => h.congr rfl rfl rfl) (fun f W' hf h => by go_simp) ?_
  try simp only [Act.put, List.setIfInBounds_toArray, List.set_cons_zero, List.set_cons_succ]
  refine acB_new (.slice (some ⟨b.1, 0, none⟩) 1 1) (by rfl) (by rfl) (fun f W' hf h C' hC' => by
      have h11 := (hf.no (j := 11) hf.self (by kernel_rfl))
      have hp := h.pre h11
      have ha : Below W'.heap.size W' (W'.alloc (.cells #[St x, .string ⟨#[49]⟩] 121)) := (Below.refl _ W').alloc (Nat.le_refl _) _
      have A := World.alloc_heap_new W' (.cells #[St x, .string ⟨#[49]⟩] 121)
      have := hC' (W'.heap.size, b.2) (W'.alloc (.cells #[St x, .string ⟨#[49]⟩] 121)) (fun i hi => ?_) ⟨fun _ => hp.trans (ha.mono hp.size), fun _ _ => ⟨by rw [Go.Joins.cell_of_block A]; rfl, by rw [Go.Joins.cell_of_block A]; rfl⟩, fun k => (by have k' : f 11 = true := k; rw [h11] at k'; cases k')⟩
      · go_simp
        exact this
      · match i, hi with
        | 0, _ | 1, _ | 2, _ | 3, _ | 4, _ | 5, _ | 6, _ | 7, _ | 8, _ | 9, _ | 11, _ | 12, _ | 13, _ => rfl
        | 10, hi => rw [hf.self] at hi; cases hi
        | _ + 14, _ => rfl) ?_
  try simp only [Act.put, List.setIfInBounds_toArray, List.set_cons_zero, List.set_cons_succ]
  refine acB_new b.2 (by rfl) (by rfl) (fun f W' hf h C' hC' => by
      have h11 := hf.self
      have h14 := (hf.no (j := 14) hf.self (by kernel_rfl))
      have h10 := hf.done 10 (by kernel_rfl)
      have hp := h.pre h11
      obtain ⟨n0, n1⟩ := h.new h11 h10
      refine upon_append _ W' _ _ 115 rfl (w.heap.size + 1) 121 i0 (.agg #[St [], St []]) 2 32 Tryz.underlying115 hi hz0 hz1 hz2 rfl (by decide) (.slice none 0 0) 0 [] rfl (World.ownsRow_nil _ _ _ _) ⟨b.1, 0, none⟩ 1 1 [St x, .string ⟨#[49]⟩] rfl rfl (fun i u hu => ?_) (fun u hu => ?_) (by unfold maxLen; omega) (by omega) (by have := hp.size; omega) (fun v' w' hown' hgrow => ?_)
      · match i, hu with
        | 0, hu => simp at hu; subst hu; exact n0
        | 1, hu => simp at hu; subst hu; exact n1
        | _ + 2, hu => simp at hu
      · simp at hu; rcases hu with rfl | rfl <;> rfl
      · refine hC' (b.1, v') w' (fun i hi => ?_) ⟨fun k => ?_, fun k => ?_, fun _ => ⟨W', w', hp, hgrow, hown', ?_⟩⟩
        · match i, hi with
          | 0, _ | 1, _ | 2, _ | 3, _ | 4, _ | 5, _ | 6, _ | 7, _ | 8, _ | 9, _ | 10, _ | 12, _ | 13, _ => rfl
          | 11, hi => rw [hf.self] at hi; cases hi
          | _ + 14, _ => rfl
        · cases k
        · cases k
        · show w' = if f 14 = true then _ else w'
          rw [h14]; rfl) ?_
  try simp only [Act.put, List.setIfInBounds_toArray, List.set_cons_zero, List.set_cons_succ]
  refine acB_read (.pointer (some ⟨gb, 0, none⟩)) (by rfl) (by rfl) (fun f W' h => h.congr rfl rfl rfl) (fun f W' hf h => by go_simp) ?_
  try simp only [Act.put, List.setIfInBounds_toArray, List.set_cons_zero, List.set_cons_succ]
  refine acB_read (.pointer (some ⟨gb, 0, none⟩)) (by rfl) (by rfl) (fun f W' h => h.congr rfl rfl rfl) (fun f W' hf h => by go_simp) ?_
  try simp only [Act.put, List.setIfInBounds_toArray, List.set_cons_zero, List.set_cons_succ]
  refine acB_value undef (by rfl) (by rfl) (fun f W' hf h C' hC' => by
      have h11 := hf.done 11 (by kernel_rfl)
      have h14 := hf.self
      obtain ⟨Y, Z, hY, hZ, hz', rfl⟩ := h.post h11
      rw [h14, if_neg (by simp)] at *
      have hcell := hZ.cell (below_cell hY HG.out) (by simp)
      have hfr : Z.frozen? ⟨gb, 0, none⟩ = false := by
        rw [World.frozen?_of_block (a := ⟨gb, 0, none⟩) (hZ.block _ (cell_lt (below_cell hY HG.out)) (by simp))]; exact (cellsKept_below hY).frozen HG.out HF.out
      have := hC' (Z.setCell ⟨gb, 0, none⟩ b.2) ⟨fun k => (by have k' : f 11 = false := k; rw [h11] at k'; cases k'), fun k => (by have k' : f 11 = false := k; rw [h11] at k'; cases k'), fun _ => ⟨Y, Z, hY, hZ, hz', rfl⟩⟩
      obtain ⟨q, m, c, e2⟩ : ∃ q m c, b.2 = .slice q m c := by
        rcases hz'.2 with ⟨e, _⟩ | ⟨g, cp, cur, e, _⟩ <;> exact ⟨_, _, _, e⟩
      rw [e2] at this
      go_simp
      exact this) ?_
  try simp only [Act.put, List.setIfInBounds_toArray, List.set_cons_zero, List.set_cons_succ]
  refine acB_nil fun f X hf h => ?_
  obtain ⟨Y, Z, hY, hZ, hz', rfl⟩ := h.post (hf 11 (by decide))
  rw [if_pos (hf 14 (by decide))]
  have hcell := hZ.cell (below_cell hY HG.out) (by simp)
  have hfr : Z.frozen? ⟨gb, 0, none⟩ = false := by
    rw [World.frozen?_of_block (a := ⟨gb, 0, none⟩) (hZ.block _ (cell_lt (below_cell hY HG.out)) (by simp))]; exact (cellsKept_below hY).frozen HG.out HF.out
  have hbel : Below gb w (Z.setCell ⟨gb, 0, none⟩ b.2) := by
    have h1 : Below gb w Y := (HB1.out.mono (by omega)).trans (hY.mono (by omega))
    exact (h1.grown hZ (by have := hY.size; omega) (fun q e => by cases e)).setCell (by simp) _
  have hgate : GateS gb x (Z.setCell ⟨gb, 0, none⟩ b.2) := by
    refine ⟨?_, by rw [World.frozen?_setCell]; exact hfr⟩
    rcases hz'.2 with ⟨_, e⟩ | ⟨g, cp, cur, e, hg1, hg2, _, _, hcs, htk⟩
    · omega
    · refine ⟨g, cp, cur, by rw [← e]; exact cell_eq hcell, by omega, by rw [Below.heap_setCell _ _ _ _ (by simp; omega)]; exact hg2, ?_, ?_⟩
      · have h0 := congrArg (fun l => l[0]?) htk
        rw [List.getElem?_take] at h0
        simpa using h0
      · have h0 := congrArg (fun l => l[1]?) htk
        rw [List.getElem?_take] at h0
        simpa using h0
  have HE := Lib.hid (⟨hbel, hgate⟩ : Below gb w (Z.setCell ⟨gb, 0, none⟩ b.2) ∧ GateS gb x (Z.setCell ⟨gb, 0, none⟩ b.2))
  clear hbel hgate hcell hfr hY hZ hz' h hf
  go_wp2_with fail
  go_ret
  exact ⟨rfl, HE.out⟩
end Go.Proofs.YtapfekcbbhhieaaGreatDoor

namespace Go.Proofs.YtapfekcbbhhieaaGreatDoor
open Go.RowKit Go.Shelf Lib Str Limb
attribute [local go_sem] Oper.semAt_some

/-- The boxes of add. -/
structure NextS (w : World) (x y : List UInt8) (W : World) : Prop where
  bel : Below w.heap.size w W
  tm : W.heap[w.heap.size]? = some (.cells #[St y, .string ⟨#[49]⟩] 49 (0, 0))
  lo : W.heap[w.heap.size + 1]? = some (.cells #[St x, .string ⟨#[49]⟩] 121 (0, 0))
theorem NextS.next {w : World} {x y : List UInt8} {W W' : World} (h : NextS w x y W) (hb : Below W.heap.size W W') : NextS w x y W' :=
  ⟨h.bel.trans (hb.mono h.bel.size), cellsKept_below hb _ _ _ _ h.tm, cellsKept_below hb _ _ _ _ h.lo⟩
theorem NextS.cells {w : World} {x y : List UInt8} {W : World} (h : NextS w x y W) :
    W.cell? ⟨w.heap.size, 0, none⟩ = some (St y) ∧ W.cell? ⟨w.heap.size, 1, none⟩ = some (.string ⟨#[49]⟩) ∧ W.cell? ⟨w.heap.size + 1, 0, none⟩ = some (St x) ∧ W.cell? ⟨w.heap.size + 1, 1, none⟩ = some (.string ⟨#[49]⟩) :=
  ⟨by rw [Go.Joins.cell_of_block h.tm]; rfl, by rw [Go.Joins.cell_of_block h.tm]; rfl, by rw [Go.Joins.cell_of_block h.lo]; rfl, by rw [Go.Joins.cell_of_block h.lo]; rfl⟩

set_option maxRecDepth 100000 in
set_option maxHeartbeats 2000000 in
theorem addNext_walk (gb cb cap : Nat) (cs : Array Value) (x y z : List UInt8) (w : World) (HW : Hid (Wd w)) (hg : w.cell? ⟨gb, 0, none⟩ = some (.slice (some ⟨cb, 0, none⟩) 1 cap)) (hgc : gb < cb) (hf' : w.frozen? ⟨gb, 0, none⟩ = false)
    (hc : w.heap[cb]? = some (.cells cs 121 (0, 0))) (hc0 : cs[0]? = some (St x)) (hc1 : cs[1]? = some (St [49]))
    (CM : Hid (∀ W : World, Wd W → Calls Tryz.prog 87 #[.string ⟨#[49]⟩, .string ⟨#[49]⟩] W fun e w' => e = .returned (.tuple #[.int .i64 0, .int .i64 0]) ∧ Below W.heap.size W w'))
    (P : Hid (∀ W : World, Wd W → Calls Tryz.prog 119 #[.agg #[St x, St [49]], .agg #[St y, St [49]]] W fun e w' => e = .returned (.tuple #[.agg #[St z, St [49]], .int .i64 0]) ∧ Below W.heap.size W w')) :
    Calls Tryz.prog 83 #[.pointer (some ⟨gb, 0, none⟩), .agg #[St y, .string ⟨#[49]⟩]] w fun e w' => e = .returned (.int .i64 0) ∧ Below gb w w' ∧ GateS gb z w' := by
  have x0 : w.cell? ⟨cb, 0, none⟩ = some (St x) := by rw [Go.Joins.cell_of_block hc]; exact hc0
  have x1 : w.cell? ⟨cb, 1, none⟩ = some (.string ⟨#[49]⟩) := by rw [Go.Joins.cell_of_block hc]; exact hc1
  obtain ⟨Wa, hWa⟩ : ∃ Wa, Wa = w.alloc (.cells #[St y, .string ⟨#[49]⟩] 49) := ⟨_, rfl⟩
  have ba : Below w.heap.size w Wa := by rw [hWa]; exact (Below.refl _ w).alloc (Nat.le_refl _) _
  have Aa : Wa.heap[w.heap.size]? = some (.cells #[St y, .string ⟨#[49]⟩] 49 (0, 0)) := by rw [hWa]; exact World.alloc_heap_new w _
  have sa : Wa.heap.size = w.heap.size + 1 := by rw [hWa]; simp
  obtain ⟨W1, hW1⟩ : ∃ W1, W1 = Wa.alloc (.cells #[St x, .string ⟨#[49]⟩] 121) := ⟨_, rfl⟩
  have b1 : Below Wa.heap.size Wa W1 := by rw [hW1]; exact (Below.refl _ Wa).alloc (Nat.le_refl _) _
  have A1 : W1.heap[w.heap.size + 1]? = some (.cells #[St x, .string ⟨#[49]⟩] 121 (0, 0)) := by rw [hW1, ← sa]; exact World.alloc_heap_new Wa _
  have hB1 : Below w.heap.size w W1 := ba.trans (b1.mono (by omega))
  have g0 := below_cell ba hg
  have y0 : Wa.cell? ⟨cb, 0, none⟩ = some (St x) := below_cell ba x0
  have y1 : Wa.cell? ⟨cb, 1, none⟩ = some (.string ⟨#[49]⟩) := below_cell ba x1
  have K1 := Lib.hid (⟨hB1, cellsKept_below b1 _ _ _ _ Aa, A1⟩ : NextS w x y W1)
  have t0 : W1.cell? ⟨w.heap.size, 0, none⟩ = some (St y) := by rw [Go.Joins.cell_of_block K1.out.tm]; rfl
  have t1 : W1.cell? ⟨w.heap.size, 1, none⟩ = some (.string ⟨#[49]⟩) := by rw [Go.Joins.cell_of_block K1.out.tm]; rfl
  have l0 : W1.cell? ⟨w.heap.size + 1, 0, none⟩ = some (St x) := by rw [Go.Joins.cell_of_block A1]; rfl
  have l1 : W1.cell? ⟨w.heap.size + 1, 1, none⟩ = some (.string ⟨#[49]⟩) := by rw [Go.Joins.cell_of_block A1]; rfl
  rw [hW1] at t0 t1 l0 l1
  rw [hWa] at g0 y0 y1 t0 t1 l0 l1
  have HWa := Lib.hid hWa; have HW1 := Lib.hid hW1
  clear hWa hW1 ba b1 Aa A1 hB1 x0 x1
  go_enter Tryz.func83, Tryz.ntmps83
  go_wp2_with fail
  refine wp_loop_rounds 1 ?_
  rw [rounds_succ]
  go_wp2_with fail
  have h9 := HW1.out
  rw [HWa.out] at h9
  have h8 : W1 = (w.alloc (.cells #[St y, .string ⟨#[49]⟩] 49)).alloc (.cells #[.string ⟨x.toArray⟩, .string ⟨#[49]⟩] 121) := h9
  rw [← h8]
  clear h8 h9 t0 t1 l0 l1 g0 y0 y1 HWa HW1
  refine (ratio_one W1 (HW.out.below K1.out.bel)).mono ?_
  rintro e w2 ⟨rfl, hb2⟩
  have K2 := Lib.hid (K1.out.next hb2); clear hb2 K1
  obtain ⟨t0, t1, l0, l1⟩ := K2.out.cells
  obtain ⟨w3, hw3⟩ : ∃ w3, w3 = w2.alloc (.cells #[St y, .string ⟨#[49]⟩] 121) := ⟨_, rfl⟩
  have b3 : Below w2.heap.size w2 w3 := by rw [hw3]; exact (Below.refl _ w2).alloc (Nat.le_refl _) _
  have A3 : w3.heap[w2.heap.size]? = some (.cells #[St y, .string ⟨#[49]⟩] 121 (0, 0)) := by rw [hw3]; exact World.alloc_heap_new w2 _
  have K3 := Lib.hid (K2.out.next b3)
  have p1 : w3.cell? ⟨w.heap.size + 1, 1, none⟩ = some (.string ⟨#[49]⟩) := K3.out.cells.2.2.2
  have p2 : w3.cell? ⟨w2.heap.size, 1, none⟩ = some (.string ⟨#[49]⟩) := by rw [Go.Joins.cell_of_block A3]; rfl
  rw [hw3] at p1 p2
  have HA3 := Lib.hid A3
  have HW3 := Lib.hid hw3; clear hw3 b3 A3
  go_wp2_with fail
  have h8 : w3 = w2.alloc (.cells #[.string ⟨y.toArray⟩, .string ⟨#[49]⟩] 121) := HW3.out
  rw [← h8]
  clear h8 t0 t1 l0 l1 p1 p2 HW3
  refine (CM.out w3 (HW.out.below K3.out.bel)).mono ?_
  rintro e w4 ⟨rfl, hb4⟩
  have K4 := Lib.hid (K3.out.next hb4)
  have HA4 := Lib.hid (cellsKept_below hb4 _ _ _ _ HA3.out); clear hb4 K3 HA3
  obtain ⟨-, -, l0, l1⟩ := K4.out.cells
  have p0 : w4.cell? ⟨w2.heap.size, 0, none⟩ = some (St y) := by rw [Go.Joins.cell_of_block HA4.out]; rfl
  have p1 : w4.cell? ⟨w2.heap.size, 1, none⟩ = some (.string ⟨#[49]⟩) := by rw [Go.Joins.cell_of_block HA4.out]; rfl
  go_wp2_with fail
  refine (P.out w4 (HW.out.below K4.out.bel)).mono ?_
  rintro e w5 ⟨rfl, hb5⟩
  have K5 := Lib.hid (K4.out.next hb5); clear hb5 K4 HA4 l0 l1 p0 p1
  obtain ⟨w6, hw6⟩ : ∃ w6, w6 = w5.alloc (.cells #[St z, St [49]] 121) := ⟨_, rfl⟩
  have b6 : Below w5.heap.size w5 w6 := by rw [hw6]; exact (Below.refl _ w5).alloc (Nat.le_refl _) _
  have A6 : w6.heap[w5.heap.size]? = some (.cells #[St z, St [49]] 121 (0, 0)) := by rw [hw6]; exact World.alloc_heap_new w5 _
  have hB6 := K5.out.bel.trans (b6.mono K5.out.bel.size)
  have HW6 := Lib.hid hw6; clear hw6 b6
  go_wp2_with fail
  have h8 : w6 = w5.alloc (.cells #[.string ⟨z.toArray⟩, .string ⟨#[49]⟩] 121) := HW6.out
  rw [← h8]
  clear h8 HW6
  have hcb : cb < w.heap.size := (Array.getElem?_eq_some_iff.1 hc).1
  have m0 : w6.drew.cell? ⟨gb, 0, none⟩ = some (.slice (some ⟨cb, 0, none⟩) 1 cap) := below_cell hB6 hg
  have m1 : w6.drew.heap[cb]? = some (.cells cs 121 (0, 0)) := cellsKept_below hB6 _ _ _ _ hc
  have m2 : w6.drew.cell? ⟨cb, 0, none⟩ = some (St x) := by rw [Go.Joins.cell_of_block m1]; exact hc0
  have m3 : w6.drew.cell? ⟨cb, 1, none⟩ = some (St [49]) := by rw [Go.Joins.cell_of_block m1]; exact hc1
  have m4 : w6.drew.frozen? ⟨cb, 0, none⟩ = false := Go.Joins.unfrozen_of_block m1 0
  have m5 : w6.drew.frozen? ⟨cb, 1, none⟩ = false := Go.Joins.unfrozen_of_block m1 1
  have m6 : w6.drew.cell? ⟨w5.heap.size, 0, none⟩ = some (St z) := by rw [Go.Joins.cell_of_block (show w6.drew.heap[w5.heap.size]? = _ from A6)]; rfl
  have m7 : w6.drew.cell? ⟨w5.heap.size, 1, none⟩ = some (St [49]) := by rw [Go.Joins.cell_of_block (show w6.drew.heap[w5.heap.size]? = _ from A6)]; rfl
  have n2 : w6.cell? ⟨cb, 0, none⟩ = some (St x) := m2
  have n3 : w6.cell? ⟨cb, 1, none⟩ = some (St [49]) := m3
  have n4 : w6.frozen? ⟨cb, 0, none⟩ = false := m4
  have n5 : w6.frozen? ⟨cb, 1, none⟩ = false := m5
  refine wp_region_acb (fun (_ : Unit) i => ([.pointer (some ⟨gb, 0, none⟩), .pointer (some ⟨gb, 0, none⟩), .pointer (some ⟨gb, 0, none⟩), .slice (some ⟨cb, 0, none⟩) 1 cap, .int .i64 0, .agg #[St z, St [49]], .pointer (some ⟨cb, 0, none⟩)] : List Value).getD i undef) (fun _ f W' => (f 7 = false → W' = w6.drew) ∧ (f 7 = true → W' = (w6.drew.setCell ⟨cb, 0, none⟩ (St z)).setCell ⟨cb, 1, none⟩ (St [49]))) (by kernel_rfl) (by kernel_rfl) () ⟨fun _ => rfl, fun h => (by cases h)⟩ fun b => ?_
  refine acB_read (.pointer (some ⟨gb, 0, none⟩)) (by rfl) (by rfl) (fun f W' h => ⟨h.1, h.2⟩) (fun f W' hf h => by
      obtain rfl := h.1 (hf.no (j := 7) hf.self (by kernel_rfl))
      go_simp) ?_
  try simp only [Act.put, List.setIfInBounds_toArray, List.set_cons_zero, List.set_cons_succ]
  refine acB_read (.pointer (some ⟨gb, 0, none⟩)) (by rfl) (by rfl) (fun f W' h => ⟨h.1, h.2⟩) (fun f W' hf h => by
      obtain rfl := h.1 (hf.no (j := 7) hf.self (by kernel_rfl))
      go_simp) ?_
  try simp only [Act.put, List.setIfInBounds_toArray, List.set_cons_zero, List.set_cons_succ]
  refine acB_read (.pointer (some ⟨gb, 0, none⟩)) (by rfl) (by rfl) (fun f W' h => ⟨h.1, h.2⟩) (fun f W' hf h => by
      obtain rfl := h.1 (hf.no (j := 7) hf.self (by kernel_rfl))
      go_simp) ?_
  try simp only [Act.put, List.setIfInBounds_toArray, List.set_cons_zero, List.set_cons_succ]
  refine acB_read (.slice (some ⟨cb, 0, none⟩) 1 cap) (by rfl) (by rfl) (fun f W' h => ⟨h.1, h.2⟩) (fun f W' hf h => by
      obtain rfl := h.1 (hf.no (j := 7) hf.self (by kernel_rfl))
      go_simp) ?_
  try simp only [Act.put, List.setIfInBounds_toArray, List.set_cons_zero, List.set_cons_succ]
  refine acB_read (.int .i64 0) (by rfl) (by rfl) (fun f W' h => ⟨h.1, h.2⟩) (fun f W' hf h => by
      obtain rfl := h.1 (hf.no (j := 7) hf.self (by kernel_rfl))
      go_simp) ?_
  try simp only [Act.put, List.setIfInBounds_toArray, List.set_cons_zero, List.set_cons_succ]
  refine acB_read (.agg #[St z, St [49]]) (by rfl) (by rfl) (fun f W' h => ⟨h.1, h.2⟩) (fun f W' hf h => by
      obtain rfl := h.1 (hf.no (j := 7) hf.self (by kernel_rfl))
      go_simp) ?_
  try simp only [Act.put, List.setIfInBounds_toArray, List.set_cons_zero, List.set_cons_succ]
  refine acB_read (.pointer (some ⟨cb, 0, none⟩)) (by rfl) (by rfl) (fun f W' h => ⟨h.1, h.2⟩) (fun f W' hf h => by
      obtain rfl := h.1 (hf.no (j := 7) hf.self (by kernel_rfl))
      go_simp) ?_
  try simp only [Act.put, List.setIfInBounds_toArray, List.set_cons_zero, List.set_cons_succ]
  refine acB_value undef (by rfl) (by rfl) (fun f W' hf h C' hC' => by
      obtain rfl := h.1 hf.self
      have := hC' ((w6.drew.setCell ⟨cb, 0, none⟩ (St z)).setCell ⟨cb, 1, none⟩ (St [49])) ⟨fun k => (by cases k), fun _ => rfl⟩
      go_simp
      exact this) ?_
  try simp only [Act.put, List.setIfInBounds_toArray, List.set_cons_zero, List.set_cons_succ]
  refine acB_nil fun f X hf h => ?_
  obtain rfl := h.2 (hf 7 (by decide))
  have hblk := Go.Joins.block_setCell (i := 1) (Go.Joins.block_setCell (i := 0) m1 (St z)) (St [49])
  have hbel : Below gb w ((w6.drew.setCell ⟨cb, 0, none⟩ (St z)).setCell ⟨cb, 1, none⟩ (St [49])) :=
    (((hB6.mono (by omega)).drew).setCell (by simp; omega) _).setCell (by simp; omega) _
  have hgate : GateS gb z ((w6.drew.setCell ⟨cb, 0, none⟩ (St z)).setCell ⟨cb, 1, none⟩ (St [49])) := by
    have hs : 1 < cs.size := by
      rcases Nat.lt_or_ge 1 cs.size with h | h
      · exact h
      · rw [Array.getElem?_eq_none h] at hc1; cases hc1
    refine ⟨⟨cb, cap, _, by rw [cell_ne _ _ _ _ (by omega), cell_ne _ _ _ _ (by omega)]; exact m0, hgc, hblk, ?_, ?_⟩, ?_⟩
    · rw [Array.getElem?_setIfInBounds, if_neg (by omega), Array.getElem?_setIfInBounds, if_pos rfl, if_pos (by omega)]
    · rw [Array.getElem?_setIfInBounds, if_pos rfl, if_pos (by simpa using hs)]
    · rw [World.frozen?_setCell, World.frozen?_setCell]; exact (cellsKept_below hB6).frozen hg hf'
  have HE := Lib.hid (⟨hbel, hgate⟩ : Below gb w ((w6.drew.setCell ⟨cb, 0, none⟩ (St z)).setCell ⟨cb, 1, none⟩ (St [49])) ∧ GateS gb z ((w6.drew.setCell ⟨cb, 0, none⟩ (St z)).setCell ⟨cb, 1, none⟩ (St [49])))
  clear hbel hgate hblk m0 m1 m2 m3 m4 m5 m6 m7 n2 n3 n4 n5 h hf
  go_wp2_with fail
  go_ret
  exact ⟨rfl, HE.out⟩
end Go.Proofs.YtapfekcbbhhieaaGreatDoor

namespace Go.Proofs.YtapfekcbbhhieaaGreatDoor
open Go.RowKit Go.Shelf Lib Str Limb
attribute [local go_sem] Oper.semAt_some

/-- One round of visit, by its contracts. -/
structure RoundC (gb : Nat) (root coef : List UInt8) (S S' : World → Prop) : Prop where
  nz : (root == [48]) = false
  n1 : (root == [49]) = false
  norm : ∀ W : World, Wd W → Pw W → Calls Tryz.prog 117 #[St root] W fun e w' => e = .returned (.tuple #[St coef, .string ⟨#[49]⟩, .int .i64 0]) ∧ Below W.heap.size W w'
  mul : ∀ W : World, Wd W → Calls Tryz.prog 10 #[.string ⟨#[49]⟩, St coef] W fun e w' => e = .returned (.tuple #[St coef, .int .i64 0]) ∧ Below W.heap.size W w'
  keep : ∀ W W' : World, S W → Below W.heap.size W W' → S W'
  each : ∀ W : World, Wd W → S W → Calls Tryz.prog 83 #[.pointer (some ⟨gb, 0, none⟩), .agg #[St coef, .string ⟨#[49]⟩]] W fun e w' => e = .returned (.int .i64 0) ∧ Below gb W w' ∧ S' w'

set_option maxRecDepth 100000 in
set_option maxHeartbeats 2000000 in
theorem visit_walk (gb b off cap : Nat) (r1 r2 r3 c1 c2 c3 : List UInt8) (S0 S1 S2 S3 : World → Prop) (hb : b < gb)
    (R1 : Hid (RoundC gb r1 c1 S0 S1)) (R2 : Hid (RoundC gb r2 c2 S1 S2)) (R3 : Hid (RoundC gb r3 c3 S2 S3))
    (LG : Hid (∀ W : World, Wd W → Calls Tryz.prog 84 #[.string ⟨#[49]⟩] W fun e w' => e = .returned (.int .i64 1) ∧ Below W.heap.size W w'))
    (w : World) (hgb : gb ≤ w.heap.size) (HW : Hid (∀ W, Below gb w W → Wd W)) (HP : Hid (∀ W, Below gb w W → Pw W)) (h0 : S0 w)
    (t0 : w.cell? ⟨b, off, none⟩ = some (.string ⟨#[49]⟩)) (t1 : w.cell? ⟨b, off + 1, none⟩ = some (St r1)) (t2 : w.cell? ⟨b, off + 2, none⟩ = some (.string ⟨#[49]⟩)) (t3 : w.cell? ⟨b, off + 3, none⟩ = some (St r2))
    (t4 : w.cell? ⟨b, off + 4, none⟩ = some (.string ⟨#[49]⟩)) (t5 : w.cell? ⟨b, off + 5, none⟩ = some (St r3)) :
    Calls Tryz.prog 82 #[.slice (some ⟨b, off, none⟩) 3 cap, .func (.func 83) #[.pointer (some ⟨gb, 0, none⟩)] #[]] w fun e w' => e = .returned (.int .i64 0) ∧ Below gb w w' ∧ S3 w' := by
  have D0 := Lib.hid (Below.refl gb w)
  have s0 := Lib.hid h0
  have T := Lib.hid (⟨t0, t1, t2, t3, t4, t5⟩ : _ ∧ _ ∧ _ ∧ _ ∧ _ ∧ _)
  clear h0 t0 t1 t2 t3 t4 t5
  have g0 := Lib.hid hgb
  go_enter Tryz.func82, Tryz.ntmps82
  go_wp2_with fail
  refine wp_loop_rounds 4 ?_
  have z1 := R1.out.nz; have n1 := R1.out.n1
  have t0 : w.cell? ⟨b, off, none⟩ = some (.string ⟨#[49]⟩) := by rw [D0.out.cell (p := ⟨b, off, none⟩) hb]; exact T.out.1
  have t1 : w.cell? ⟨b, off + 1, none⟩ = some (St r1) := by rw [D0.out.cell (p := ⟨b, off + 1, none⟩) hb]; exact T.out.2.1
  rw [rounds_succ]
  go_wp2_with fail
  obtain ⟨v1, hv⟩ : ∃ v1, v1 = w.alloc (.cells #[.string ⟨#[49]⟩, St r1] 49) := ⟨_, rfl⟩
  have a1 : Below w.heap.size w v1 := by rw [hv]; exact (Below.refl _ w).alloc (Nat.le_refl _) _
  have A1 : v1.heap[w.heap.size]? = some (.cells #[.string ⟨#[49]⟩, St r1] 49 (0, 0)) := by rw [hv]; exact World.alloc_heap_new w _
  rw [← show v1 = w.alloc (.cells #[.string ⟨#[49]⟩, .string ⟨r1.toArray⟩] 49) from hv]
  have k0 : v1.cell? ⟨w.heap.size, 0, none⟩ = some (.string ⟨#[49]⟩) := by rw [Go.Joins.cell_of_block A1]; rfl
  have k1 : v1.cell? ⟨w.heap.size, 1, none⟩ = some (St r1) := by rw [Go.Joins.cell_of_block A1]; rfl
  clear hv t0 t1
  (refine wp_region_quiet_lit (by kernel_rfl) (by kernel_rfl) (WQ.out ?_); (repeat (first | (apply WQ.read (by rfl); (focus (rintro W ⟨n, rfl⟩; go_simp; try with_reducible rfl)); try simp only [Act.put, List.setIfInBounds_toArray, List.set_cons_zero, List.set_cons_succ]) | (apply WQ.skip (by rfl); try simp only [Act.put, List.setIfInBounds_toArray, List.set_cons_zero, List.set_cons_succ]))); refine WQ.nil ?_; rintro _ ⟨nq, rfl⟩)
  have E1 := Lib.hid (Below_drewN a1 nq)
  have B1 := Lib.hid (show (v1.drewN nq).heap[w.heap.size]? = _ from A1)
  clear a1 A1
  go_wp2_with fail
  refine (R1.out.norm _ (HW.out _ (D0.out.trans (E1.out.mono g0.out))) (HP.out _ (D0.out.trans (E1.out.mono g0.out)))).mono ?_
  rintro e y1 ⟨rfl, hb1⟩
  have E2 := Lib.hid (E1.out.trans (hb1.mono E1.out.size)); have B2 := Lib.hid (cellsKept_below hb1 _ _ _ _ B1.out)
  clear hb1 E1 B1 k0 k1
  go_wp2_with fail
  refine (LG.out y1 (HW.out _ (D0.out.trans (E2.out.mono g0.out)))).mono ?_
  rintro e y2 ⟨rfl, hb1⟩
  have E3 := Lib.hid (E2.out.trans (hb1.mono E2.out.size)); have B3 := Lib.hid (cellsKept_below hb1 _ _ _ _ B2.out)
  clear hb1 E2 B2
  have k0 : y2.cell? ⟨w.heap.size, 0, none⟩ = some (.string ⟨#[49]⟩) := by rw [Go.Joins.cell_of_block B3.out]; rfl
  go_wp2_with fail
  refine (R1.out.mul y2 (HW.out _ (D0.out.trans (E3.out.mono g0.out)))).mono ?_
  rintro e y3 ⟨rfl, hb1⟩
  have E4 := Lib.hid (E3.out.trans (hb1.mono E3.out.size))
  clear hb1 E3 B3 k0
  go_wp2_with fail
  refine (R1.out.each y3 (HW.out _ (D0.out.trans (E4.out.mono g0.out))) (R1.out.keep _ _ s0.out E4.out)).mono ?_
  rintro e u1 ⟨rfl, hb1, hs⟩
  have D1 := Lib.hid ((D0.out.trans (E4.out.mono g0.out)).trans hb1)
  have g1 : Hid (gb ≤ u1.heap.size) := Lib.hid (Nat.le_trans g0.out (Nat.le_trans E4.out.size hb1.size))
  have s1 := Lib.hid hs
  clear hb1 hs E4 z1 n1 s0
  go_wp2_with fail
  have z2 := R2.out.nz; have n2 := R2.out.n1
  have t0 : u1.cell? ⟨b, off + 2, none⟩ = some (.string ⟨#[49]⟩) := by rw [D1.out.cell (p := ⟨b, off + 2, none⟩) hb]; exact T.out.2.2.1
  have t1 : u1.cell? ⟨b, off + 2 + 1, none⟩ = some (St r2) := by rw [D1.out.cell (p := ⟨b, off + 2 + 1, none⟩) hb]; exact T.out.2.2.2.1
  rw [rounds_succ]
  go_wp2_with fail
  obtain ⟨v2, hv⟩ : ∃ v2, v2 = u1.alloc (.cells #[.string ⟨#[49]⟩, St r2] 49) := ⟨_, rfl⟩
  have a1 : Below u1.heap.size u1 v2 := by rw [hv]; exact (Below.refl _ u1).alloc (Nat.le_refl _) _
  have A1 : v2.heap[u1.heap.size]? = some (.cells #[.string ⟨#[49]⟩, St r2] 49 (0, 0)) := by rw [hv]; exact World.alloc_heap_new u1 _
  rw [← show v2 = u1.alloc (.cells #[.string ⟨#[49]⟩, .string ⟨r2.toArray⟩] 49) from hv]
  have k0 : v2.cell? ⟨u1.heap.size, 0, none⟩ = some (.string ⟨#[49]⟩) := by rw [Go.Joins.cell_of_block A1]; rfl
  have k1 : v2.cell? ⟨u1.heap.size, 1, none⟩ = some (St r2) := by rw [Go.Joins.cell_of_block A1]; rfl
  clear hv t0 t1
  (refine wp_region_quiet_lit (by kernel_rfl) (by kernel_rfl) (WQ.out ?_); (repeat (first | (apply WQ.read (by rfl); (focus (rintro W ⟨n, rfl⟩; go_simp; try with_reducible rfl)); try simp only [Act.put, List.setIfInBounds_toArray, List.set_cons_zero, List.set_cons_succ]) | (apply WQ.skip (by rfl); try simp only [Act.put, List.setIfInBounds_toArray, List.set_cons_zero, List.set_cons_succ]))); refine WQ.nil ?_; rintro _ ⟨nq, rfl⟩)
  have E1 := Lib.hid (Below_drewN a1 nq)
  have B1 := Lib.hid (show (v2.drewN nq).heap[u1.heap.size]? = _ from A1)
  clear a1 A1
  go_wp2_with fail
  refine (R2.out.norm _ (HW.out _ (D1.out.trans (E1.out.mono g1.out))) (HP.out _ (D1.out.trans (E1.out.mono g1.out)))).mono ?_
  rintro e y1 ⟨rfl, hb1⟩
  have E2 := Lib.hid (E1.out.trans (hb1.mono E1.out.size)); have B2 := Lib.hid (cellsKept_below hb1 _ _ _ _ B1.out)
  clear hb1 E1 B1 k0 k1
  go_wp2_with fail
  refine (LG.out y1 (HW.out _ (D1.out.trans (E2.out.mono g1.out)))).mono ?_
  rintro e y2 ⟨rfl, hb1⟩
  have E3 := Lib.hid (E2.out.trans (hb1.mono E2.out.size)); have B3 := Lib.hid (cellsKept_below hb1 _ _ _ _ B2.out)
  clear hb1 E2 B2
  have k0 : y2.cell? ⟨u1.heap.size, 0, none⟩ = some (.string ⟨#[49]⟩) := by rw [Go.Joins.cell_of_block B3.out]; rfl
  go_wp2_with fail
  refine (R2.out.mul y2 (HW.out _ (D1.out.trans (E3.out.mono g1.out)))).mono ?_
  rintro e y3 ⟨rfl, hb1⟩
  have E4 := Lib.hid (E3.out.trans (hb1.mono E3.out.size))
  clear hb1 E3 B3 k0
  go_wp2_with fail
  refine (R2.out.each y3 (HW.out _ (D1.out.trans (E4.out.mono g1.out))) (R2.out.keep _ _ s1.out E4.out)).mono ?_
  rintro e u2 ⟨rfl, hb1, hs⟩
  have D2 := Lib.hid ((D1.out.trans (E4.out.mono g1.out)).trans hb1)
  have g2 : Hid (gb ≤ u2.heap.size) := Lib.hid (Nat.le_trans g1.out (Nat.le_trans E4.out.size hb1.size))
  have s2 := Lib.hid hs
  clear hb1 hs E4 z2 n2 s1
  go_wp2_with fail
  have z3 := R3.out.nz; have n3 := R3.out.n1
  have t0 : u2.cell? ⟨b, off + 4, none⟩ = some (.string ⟨#[49]⟩) := by rw [D2.out.cell (p := ⟨b, off + 4, none⟩) hb]; exact T.out.2.2.2.2.1
  have t1 : u2.cell? ⟨b, off + 4 + 1, none⟩ = some (St r3) := by rw [D2.out.cell (p := ⟨b, off + 4 + 1, none⟩) hb]; exact T.out.2.2.2.2.2
  rw [rounds_succ]
  go_wp2_with fail
  obtain ⟨v3, hv⟩ : ∃ v3, v3 = u2.alloc (.cells #[.string ⟨#[49]⟩, St r3] 49) := ⟨_, rfl⟩
  have a1 : Below u2.heap.size u2 v3 := by rw [hv]; exact (Below.refl _ u2).alloc (Nat.le_refl _) _
  have A1 : v3.heap[u2.heap.size]? = some (.cells #[.string ⟨#[49]⟩, St r3] 49 (0, 0)) := by rw [hv]; exact World.alloc_heap_new u2 _
  rw [← show v3 = u2.alloc (.cells #[.string ⟨#[49]⟩, .string ⟨r3.toArray⟩] 49) from hv]
  have k0 : v3.cell? ⟨u2.heap.size, 0, none⟩ = some (.string ⟨#[49]⟩) := by rw [Go.Joins.cell_of_block A1]; rfl
  have k1 : v3.cell? ⟨u2.heap.size, 1, none⟩ = some (St r3) := by rw [Go.Joins.cell_of_block A1]; rfl
  clear hv t0 t1
  (refine wp_region_quiet_lit (by kernel_rfl) (by kernel_rfl) (WQ.out ?_); (repeat (first | (apply WQ.read (by rfl); (focus (rintro W ⟨n, rfl⟩; go_simp; try with_reducible rfl)); try simp only [Act.put, List.setIfInBounds_toArray, List.set_cons_zero, List.set_cons_succ]) | (apply WQ.skip (by rfl); try simp only [Act.put, List.setIfInBounds_toArray, List.set_cons_zero, List.set_cons_succ]))); refine WQ.nil ?_; rintro _ ⟨nq, rfl⟩)
  have E1 := Lib.hid (Below_drewN a1 nq)
  have B1 := Lib.hid (show (v3.drewN nq).heap[u2.heap.size]? = _ from A1)
  clear a1 A1
  go_wp2_with fail
  refine (R3.out.norm _ (HW.out _ (D2.out.trans (E1.out.mono g2.out))) (HP.out _ (D2.out.trans (E1.out.mono g2.out)))).mono ?_
  rintro e y1 ⟨rfl, hb1⟩
  have E2 := Lib.hid (E1.out.trans (hb1.mono E1.out.size)); have B2 := Lib.hid (cellsKept_below hb1 _ _ _ _ B1.out)
  clear hb1 E1 B1 k0 k1
  go_wp2_with fail
  refine (LG.out y1 (HW.out _ (D2.out.trans (E2.out.mono g2.out)))).mono ?_
  rintro e y2 ⟨rfl, hb1⟩
  have E3 := Lib.hid (E2.out.trans (hb1.mono E2.out.size)); have B3 := Lib.hid (cellsKept_below hb1 _ _ _ _ B2.out)
  clear hb1 E2 B2
  have k0 : y2.cell? ⟨u2.heap.size, 0, none⟩ = some (.string ⟨#[49]⟩) := by rw [Go.Joins.cell_of_block B3.out]; rfl
  go_wp2_with fail
  refine (R3.out.mul y2 (HW.out _ (D2.out.trans (E3.out.mono g2.out)))).mono ?_
  rintro e y3 ⟨rfl, hb1⟩
  have E4 := Lib.hid (E3.out.trans (hb1.mono E3.out.size))
  clear hb1 E3 B3 k0
  go_wp2_with fail
  refine (R3.out.each y3 (HW.out _ (D2.out.trans (E4.out.mono g2.out))) (R3.out.keep _ _ s2.out E4.out)).mono ?_
  rintro e u3 ⟨rfl, hb1, hs⟩
  have D3 := Lib.hid ((D2.out.trans (E4.out.mono g2.out)).trans hb1)
  have g3 : Hid (gb ≤ u3.heap.size) := Lib.hid (Nat.le_trans g2.out (Nat.le_trans E4.out.size hb1.size))
  have s3 := Lib.hid hs
  clear hb1 hs E4 z3 n3 s2
  go_wp2_with fail
  rw [rounds_succ]
  go_wp2_with fail
  go_ret
  exact ⟨rfl, D3.out, s3.out⟩
end Go.Proofs.YtapfekcbbhhieaaGreatDoor

namespace Go.Proofs.YtapfekcbbhhieaaGreatDoor
open Go.RowKit Go.Shelf Lib Str Limb

theorem sq_bound {c l r : Nat} (h : c * c * l = r * r) (hr : 0 < r) : c ≤ r := by
  rcases Nat.lt_or_ge r c with h1 | h1
  · exfalso
    have hl : 0 < l := Nat.pos_of_ne_zero (fun e => by rw [e, Nat.mul_zero] at h; have := Nat.mul_pos hr hr; omega)
    have h2 : r * r < c * c := Nat.mul_lt_mul'' h1 h1
    have h3 : c * c ≤ c * c * l := Nat.le_mul_of_pos_right _ hl
    omega
  · exact h1

theorem h1_three (c l : Nat) (h : c * c * l = 3 * 3) (hp : ∀ i, i < 25 → ¬ prN i * prN i ∣ l) : c = 3 ∧ l = 1 := by
  have hc := sq_bound h (by omega)
  have p3 : ¬ 9 ∣ l := hp 1 (by omega)
  match c, hc with
  | 0, _ => omega
  | 1, _ => exact absurd ⟨1, by omega⟩ p3
  | 2, _ => omega
  | 3, _ => exact ⟨rfl, by omega⟩
  | n + 4, h => omega
theorem h1_four (c l : Nat) (h : c * c * l = 4 * 4) (hp : ∀ i, i < 25 → ¬ prN i * prN i ∣ l) : c = 4 ∧ l = 1 := by
  have hc := sq_bound h (by omega)
  have p2 : ¬ 4 ∣ l := hp 0 (by omega)
  match c, hc with
  | 0, _ => omega
  | 1, _ => exact absurd ⟨4, by omega⟩ p2
  | 2, _ => exact absurd ⟨1, by omega⟩ p2
  | 3, _ => omega
  | 4, _ => exact ⟨rfl, by omega⟩
  | n + 5, h => omega
theorem h1_five (c l : Nat) (h : c * c * l = 5 * 5) (hp : ∀ i, i < 25 → ¬ prN i * prN i ∣ l) : c = 5 ∧ l = 1 := by
  have hc := sq_bound h (by omega)
  have p5 : ¬ 25 ∣ l := hp 2 (by omega)
  match c, hc with
  | 0, _ => omega
  | 1, _ => exact absurd ⟨1, by omega⟩ p5
  | 2, _ => omega
  | 3, _ => omega
  | 4, _ => omega
  | 5, _ => exact ⟨rfl, by omega⟩
  | n + 6, h => omega

theorem GateS.keep {gb : Nat} {x : List UInt8} {W W' : World} (h : GateS gb x W) (hb : Below W.heap.size W W') : GateS gb x W' := by
  obtain ⟨⟨cb, cap, cs, h1, h2, h3, h4, h5⟩, hf⟩ := h
  have hc := cellsKept_below hb
  exact ⟨⟨cb, cap, cs, hc.cell h1, h2, hc _ _ _ _ h3, h4, h5⟩, hc.frozen h1 hf⟩

theorem sz_small (n : Nat) (h : n < 100) : sz ((n : Int) : Rat) 2 := ⟨by show (n : Int).natAbs < 10 ^ 2; rw [Int.natAbs_natCast]; omega, by show 1 < 10 ^ 2; omega⟩
theorem mul_small (n : Nat) (h : n < 100) (W : World) (hW : Wd W) : Calls Tryz.prog 10 #[.string ⟨#[49]⟩, St (decDigits n)] W fun e w' => e = .returned (.tuple #[St (decDigits n), .int .i64 0]) ∧ Below W.heap.size W w' := by
  have := rMul_ok 1 ((n : Int) : Rat) 2 2 (by omega) (by omega) (by omega) (sz_1.mono (by omega)) (sz_small n h) W hW
  rw [Rat.one_mul, numS_1, numS_nat] at this
  exact this
theorem mul_small' (n : Nat) (h : n < 100) (W : World) (hW : Wd W) : Calls Tryz.prog 10 #[St (decDigits n), .string ⟨#[49]⟩] W fun e w' => e = .returned (.tuple #[St (decDigits n), .int .i64 0]) ∧ Below W.heap.size W w' := by
  have := rMul_ok ((n : Int) : Rat) 1 2 2 (by omega) (by omega) (by omega) (sz_small n h) (sz_1.mono (by omega)) W hW
  rw [Rat.mul_one, numS_1, numS_nat] at this
  exact this
theorem add_small (m n : Nat) (hm : m < 100) (hn : n < 100) (W : World) (hW : Wd W) : Calls Tryz.prog 11 #[St (decDigits m), St (decDigits n)] W fun e w' => e = .returned (.tuple #[St (decDigits (m + n)), .int .i64 0]) ∧ Below W.heap.size W w' := by
  have := rAdd_ok ((m : Int) : Rat) ((n : Int) : Rat) 2 2 (by omega) (by omega) (by omega) (sz_small m hm) (sz_small n hn) W hW
  rw [show ((m : Int) : Rat) + ((n : Int) : Rat) = (((m + n : Nat) : Int) : Rat) by rw [← Rat.intCast_add]; rfl, numS_nat, numS_nat, numS_nat] at this
  exact this
theorem cmp_one (W : World) (hW : Wd W) : Calls Tryz.prog 87 #[.string ⟨#[49]⟩, .string ⟨#[49]⟩] W fun e w' => e = .returned (.tuple #[.int .i64 0, .int .i64 0]) ∧ Below W.heap.size W w' := by
  have := rCompare_ok 1 1 1 1 (by omega) (by omega) (by omega) sz_1 sz_1 W hW
  rw [numS_1, Geo.cmpR_self] at this
  exact this

theorem add_next (gb m n : Nat) (hm : m < 50) (hn : n < 50) (W : World) (hW : Wd W) (h : GateS gb (decDigits m) W) :
    Calls Tryz.prog 83 #[.pointer (some ⟨gb, 0, none⟩), .agg #[St (decDigits n), .string ⟨#[49]⟩]] W fun e w' => e = .returned (.int .i64 0) ∧ Below gb W w' ∧ GateS gb (decDigits (m + n)) w' := by
  obtain ⟨⟨cb, cap, cs, h1, h2, h3, h4, h5⟩, hf⟩ := h
  exact addNext_walk gb cb cap cs _ _ _ W (Lib.hid hW) h1 h2 hf h3 h4 h5 (Lib.hid cmp_one)
    (Lib.hid fun W hW => plus_walk _ _ _ (Lib.hid fun W hW => mul_small' n (by omega) W hW) (Lib.hid fun W hW => add_small m n (by omega) (by omega) W hW) W (Lib.hid hW))

theorem dec_49 : decDigits 16 = [49, 54] ∧ decDigits 9 = [57] ∧ decDigits 25 = [50, 53] ∧ decDigits 12 = [49, 50] := by
  refine ⟨?_, ?_, ?_, ?_⟩
  · rw [decDigits_big (by omega), decDigits_small (by omega)]; rfl
  · rw [decDigits_small (by omega)]; rfl
  · rw [decDigits_big (by omega), decDigits_small (by omega)]; rfl
  · rw [decDigits_big (by omega), decDigits_small (by omega)]; rfl

theorem longest_one (W : World) (hW : Wd W) : Calls Tryz.prog 84 #[.string ⟨#[49]⟩] W fun e w' => e = .returned (.int .i64 1) ∧ Below W.heap.size W w' := by
  have := longest_ok 1 okQ_1 W hW
  rw [numS_1] at this
  have e1 : digs (1 : Rat).num = 1 := by show (decDigits 1).length = 1; rw [dec_1]; rfl
  have e2 : digs ((1 : Rat).den : Int) = 1 := by show (decDigits 1).length = 1; rw [dec_1]; rfl
  rw [e1, e2] at this
  exact this

/-- No class yet. -/
def Gate0 (gb : Nat) (W : World) : Prop := W.cell? ⟨gb, 0, none⟩ = some (.slice none 0 0) ∧ W.frozen? ⟨gb, 0, none⟩ = false

theorem round_one (gb : Nat) : RoundC gb (decDigits (4 * 4)) (decDigits 4) (Gate0 gb) (GateS gb (decDigits 4)) where
  nz := by rw [dec_49.1]; rfl
  n1 := by rw [dec_49.1]; rfl
  norm W hW hP := normal_sq 4 (by omega) (by omega) h1_four W hW hP
  mul W hW := mul_small 4 (by omega) W hW
  keep W W' h hb := ⟨below_cell hb h.1, (cellsKept_below hb).frozen h.1 h.2⟩
  each W _ h := addFirst_walk gb _ W h.1 h.2
theorem round_two (gb : Nat) : RoundC gb (decDigits (3 * 3)) (decDigits 3) (GateS gb (decDigits 4)) (GateS gb (decDigits 7)) where
  nz := by rw [dec_49.2.1]; rfl
  n1 := by rw [dec_49.2.1]; rfl
  norm W hW hP := normal_sq 3 (by omega) (by omega) h1_three W hW hP
  mul W hW := mul_small 3 (by omega) W hW
  keep W W' h hb := h.keep hb
  each W hW h := add_next gb 4 3 (by omega) (by omega) W hW h
theorem round_three (gb : Nat) : RoundC gb (decDigits (5 * 5)) (decDigits 5) (GateS gb (decDigits 7)) (GateS gb (decDigits 12)) where
  nz := by rw [dec_49.2.2.1]; rfl
  n1 := by rw [dec_49.2.2.1]; rfl
  norm W hW hP := normal_sq 5 (by omega) (by omega) h1_five W hW hP
  mul W hW := mul_small 5 (by omega) W hW
  keep W W' h hb := h.keep hb
  each W hW h := add_next gb 7 5 (by omega) (by omega) W hW h

/-- visit on the three sides of the example. -/
theorem visit_345 (gb b off cap : Nat) (hb : b < gb) (w : World) (hgb : gb ≤ w.heap.size) (hw : ∀ W, Below gb w W → Wd W) (hp : ∀ W, Below gb w W → Pw W) (h0 : Gate0 gb w)
    (t0 : w.cell? ⟨b, off, none⟩ = some (.string ⟨#[49]⟩)) (t1 : w.cell? ⟨b, off + 1, none⟩ = some (St (decDigits (4 * 4)))) (t2 : w.cell? ⟨b, off + 2, none⟩ = some (.string ⟨#[49]⟩)) (t3 : w.cell? ⟨b, off + 3, none⟩ = some (St (decDigits (3 * 3))))
    (t4 : w.cell? ⟨b, off + 4, none⟩ = some (.string ⟨#[49]⟩)) (t5 : w.cell? ⟨b, off + 5, none⟩ = some (St (decDigits (5 * 5)))) :
    Calls Tryz.prog 82 #[.slice (some ⟨b, off, none⟩) 3 cap, .func (.func 83) #[.pointer (some ⟨gb, 0, none⟩)] #[]] w fun e w' => e = .returned (.int .i64 0) ∧ Below gb w w' ∧ GateS gb (decDigits 12) w' :=
  visit_walk gb b off cap _ _ _ _ _ _ _ _ _ _ hb (Lib.hid (round_one gb)) (Lib.hid (round_two gb)) (Lib.hid (round_three gb)) (Lib.hid longest_one) w hgb (Lib.hid hw) (Lib.hid hp) h0 t0 t1 t2 t3 t4 t5
end Go.Proofs.YtapfekcbbhhieaaGreatDoor

namespace Go.Proofs.YtapfekcbbhhieaaGreatDoor
open Go.RowKit Go.Shelf Lib Str Limb
attribute [local go_sem] Oper.semAt_some

set_option maxRecDepth 100000 in
set_option maxHeartbeats 1000000 in
theorem insert_one (v f : Value) (w : World) :
    Calls Tryz.prog 167 #[v, .int .i64 0, .int .i64 1, f] w fun e w' => (∃ u, e = .returned u) ∧ w' = w := by
  go_enter Tryz.func167, Tryz.ntmps167
  go_wp2_with fail
  refine wp_loop_rounds 1 ?_
  rw [rounds_succ]
  go_wp2_with fail
  go_end0
  exact ⟨⟨_, rfl⟩, rfl⟩

set_option maxRecDepth 100000 in
set_option maxHeartbeats 1000000 in
theorem pdq_one (v f : Value) (n : Int) (w : World) :
    Calls Tryz.prog 121 #[v, .int .i64 0, .int .i64 1, .int .i64 n, f] w fun e w' => (∃ u, e = .returned u) ∧ w' = w := by
  go_enter Tryz.func121, Tryz.ntmps121
  go_wp2_with fail
  refine wp_loop_rounds 1 ?_
  rw [rounds_succ]
  go_wp2_with fail
  refine (insert_one v f w).mono ?_
  rintro e w' ⟨⟨u, rfl⟩, rfl⟩
  go_wp2_with fail
  refine bodyPost_ret (results_none rfl _ _ _) rfl ?_
  exact ⟨⟨_, rfl⟩, rfl⟩

set_option maxRecDepth 100000 in
set_option maxHeartbeats 1000000 in
theorem sort_one (p : Option Addr) (cap : Nat) (f : Value) (w : World) :
    Calls Tryz.prog 85 #[.slice p 1 cap, f] w fun e w' => (∃ u, e = .returned u) ∧ w' = w := by
  have hl := Tryz.bits_Len 1 w (by omega) (by omega)
  have HL := Lib.hid hl; clear hl
  go_enter Tryz.func85, Tryz.ntmps85
  go_wp2_with fail
  refine HL.out.mono ?_
  rintro e w' ⟨rfl, rfl⟩
  go_wp2_with fail
  refine (pdq_one _ f _ _).mono ?_
  rintro e w'' ⟨⟨u, rfl⟩, rfl⟩
  go_wp2_with fail
  go_end0
  exact ⟨⟨_, rfl⟩, rfl⟩
end Go.Proofs.YtapfekcbbhhieaaGreatDoor
