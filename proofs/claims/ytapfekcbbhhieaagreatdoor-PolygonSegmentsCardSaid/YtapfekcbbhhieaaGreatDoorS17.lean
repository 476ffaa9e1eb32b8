/-
  polygon.checkNum, checkPoint, Segments.
  root.of, negative; surd.digits, longest.
  A loop over an iterator, outermost or within a round, whose assignment may lay boxes.
  rational.Sum.
-/
import Derived.Test.YtapfekcbbhhieaaGreatDoorS16
import Derived.Test.YtapfekcbbhhieaaGreatDoorS06
import Derived.Test.YtapfekcbbhhieaaGreatDoorS14
namespace Go.Proofs.YtapfekcbbhhieaaGreatDoor
open Go.RowKit Go.Shelf Lib Str Limb Geo
attribute [local go_sem] Oper.semAt_some

set_option maxHeartbeats 1000000 in
theorem pnum_g (x : ByteArray) (u v t : ByteArray) (b : Bool) (hb : decide ((36 : Int) < max (t.size : Int) (v.size : Int)) = b)
    (T : Hid (⟨(trimPrefix u.data.toList [45]).toArray⟩ = t))
    (PA : Hid (∀ W : World, Wd W → Calls Tryz.prog 112 #[.string x] W fun e w' => e = .returned (.tuple #[.string u, .string v, .int .i64 0]) ∧ Below W.heap.size W w')) (w : World) (HW : Hid (Wd w)) :
    Calls Tryz.prog 75 #[.string x] w fun e w' => e = .returned (.int .i64 (if b then 4 else 0)) ∧ Below w.heap.size w w' := by
  cases b
  all_goals (
  simp only [Bool.false_eq_true, if_false, if_true]
  go_enter Tryz.func75, Tryz.ntmps75
  go_wp2_with fail
  refine (PA.out _ HW.out).mono ?_
  rintro e w1 ⟨rfl, hB⟩
  go_wp2_with fail
  refine (Tryz.strings_TrimPrefix _ _ _).mono ?_
  rintro e w' ⟨rfl, rfl⟩
  simp only [T.out]
  go_wp2_with fail
  go_ret
  exact ⟨rfl, hB⟩)

theorem max36 (x : Int) (n : Nat) (u v t : ByteArray) (hv : v = ⟨(decDigits n).toArray⟩) (ht : t = ⟨(decDigits x.natAbs).toArray⟩) (b : Bool) (hb : (if digs x ≤ 36 ∧ (decDigits n).length ≤ 36 then (0 : Int) else 4) = if b then 4 else 0) :
    decide ((36 : Int) < max (t.size : Int) (v.size : Int)) = b := by
  have e1 : t.size = digs x := by rw [ht]; show (decDigits x.natAbs).toArray.size = _; simp [digs]
  have e2 : v.size = (decDigits n).length := by rw [hv]; show (decDigits n).toArray.size = _; simp
  rw [e1, e2]
  cases b
  · rw [decide_eq_false_iff_not]
    by_cases h : digs x ≤ 36 ∧ (decDigits n).length ≤ 36
    · omega
    · rw [if_neg h] at hb; simp at hb
  · rw [decide_eq_true_iff]
    by_cases h : digs x ≤ 36 ∧ (decDigits n).length ≤ 36
    · rw [if_pos h] at hb; simp at hb
    · omega

/-- The error of checkNum. -/
def numE (q : Rat) : Int := if digs q.num ≤ 36 ∧ (decDigits q.den).length ≤ 36 then 0 else 4

theorem checkNum_ok (q : Rat) (h : okQ q) (w : World) (hw : Wd w) :
    Calls Tryz.prog 75 #[St (numS q)] w fun e w' => e = .returned (.int .i64 (numE q)) ∧ Below w.heap.size w w' := by
  obtain ⟨b, hb⟩ : ∃ b : Bool, numE q = if b then 4 else 0 := by
    unfold numE
    by_cases h : digs q.num ≤ 36 ∧ (decDigits q.den).length ≤ 36
    · exact ⟨false, by rw [if_pos h]; rfl⟩
    · exact ⟨true, by rw [if_neg h]; rfl⟩
  rw [hb]
  refine pnum_g _ ⟨(itoa q.num).toArray⟩ ⟨(decDigits q.den).toArray⟩ _ b ?_ (Lib.hid rfl) (Lib.hid fun W hW => rparts_ok q h W hW) w (Lib.hid hw)
  exact max36 q.num q.den ⟨(itoa q.num).toArray⟩ _ _ rfl (by rw [← trimPrefix_itoa]) b hb

/-- The box of a point. -/
structure PtS (w : World) (x y : List UInt8) (W : World) : Prop where
  bel : Below w.heap.size w W
  lt : w.heap.size < W.heap.size
  hp : W.heap[w.heap.size]? = some (.cells #[St x, St y] 24 (0, 0))
theorem PtS.next {w : World} {x y : List UInt8} {W W' : World} (h : PtS w x y W) (hb : Below W.heap.size W W') : PtS w x y W' :=
  ⟨h.bel.trans (hb.mono h.bel.size), Nat.lt_of_lt_of_le h.lt hb.size, (hb.block _ h.lt).trans h.hp⟩
theorem PtS.c0 {w : World} {x y : List UInt8} {W : World} (h : PtS w x y W) : W.cell? ⟨w.heap.size, 0, none⟩ = some (St x) := by have := h.hp; simp [World.cell?, this]
theorem PtS.c1 {w : World} {x y : List UInt8} {W : World} (h : PtS w x y W) : W.cell? ⟨w.heap.size, 1, none⟩ = some (St y) := by have := h.hp; simp [World.cell?, this]

set_option maxRecDepth 100000 in
set_option maxHeartbeats 2000000 in
theorem checkPoint_g (x y : List UInt8) (m n : Int)
    (CX : Hid (∀ W : World, Wd W → Calls Tryz.prog 65 #[St x] W fun e w' => e = .returned (.int .i64 0) ∧ Below W.heap.size W w'))
    (CY : Hid (∀ W : World, Wd W → Calls Tryz.prog 65 #[St y] W fun e w' => e = .returned (.int .i64 0) ∧ Below W.heap.size W w'))
    (NX : Hid (∀ W : World, Wd W → Calls Tryz.prog 75 #[St x] W fun e w' => e = .returned (.int .i64 m) ∧ Below W.heap.size W w'))
    (NY : Hid (∀ W : World, Wd W → Calls Tryz.prog 75 #[St y] W fun e w' => e = .returned (.int .i64 n) ∧ Below W.heap.size W w'))
    (w : World) (HW : Hid (Wd w)) :
    Calls Tryz.prog 40 #[.agg #[St x, St y]] w fun e w' => e = .returned (.int .i64 (max m n)) ∧ Below w.heap.size w w' := by
  have hinit : PtS w x y (w.alloc (.cells #[St x, St y] 24)) := ⟨(Below.refl _ w).alloc (Nat.le_refl _) _, by simp, World.alloc_heap_new w _⟩
  obtain ⟨W1, hW1⟩ : ∃ W1, W1 = w.alloc (.cells #[St x, St y] 24) := ⟨_, rfl⟩
  rw [← hW1] at hinit
  have i0 := hinit.c0; have i1 := hinit.c1
  rw [hW1] at i0 i1
  have HI := Lib.hid hinit; clear hinit
  have HW1 := Lib.hid hW1; clear hW1
  have x0 : ∀ w : World, (Instr.index 110 (.agg #[St x, St y]) (.int .i64 0)).run Tryz.prog w = .ok (St x) w := fun _ => by kernel_rfl
  have x1 : ∀ w : World, (Instr.index 110 (.agg #[St x, St y]) (.int .i64 1)).run Tryz.prog w = .ok (St y) w := fun _ => by kernel_rfl
  go_enter Tryz.func40, Tryz.ntmps40
  go_wp2_with fail
  rw [← HW1.out]
  clear i0 i1
  refine wp_loop_rounds 3 ?_
  rw [rounds_succ]
  go_wp2_with fail
  refine (CX.out _ (HW.out.below HI.out.bel)).mono ?_
  rintro e W2 ⟨rfl, hb2⟩
  have H2 := Lib.hid (HI.out.next hb2); clear HI hb2
  go_wp2_with fail
  rw [rounds_succ]
  go_wp2_with fail
  refine (CY.out _ (HW.out.below H2.out.bel)).mono ?_
  rintro e W3 ⟨rfl, hb3⟩
  have H3 := Lib.hid (H2.out.next hb3); clear H2 hb3
  go_wp2_with fail
  rw [rounds_succ]
  go_wp2_with fail
  refine wp_region_ac (fun _ W => PtS w x y W) (by kernel_rfl) (by kernel_rfl) (by have h := H3.out; exact h.next (Below.refl _ _).drew) ?_
  refine acL_read (v := .pointer (some ⟨w.heap.size, 0, none⟩)) (by rfl) (fun f W' h => h) (fun f W' hf h => by go_simp) ?_
  try simp only [Act.put, List.setIfInBounds_toArray, List.set_cons_zero, List.set_cons_succ]
  refine acL_read (v := St x) (by rfl) (fun f W' h => h) (fun f W' hf h => by have h0 := h.c0; go_simp) ?_
  try simp only [Act.put, List.setIfInBounds_toArray, List.set_cons_zero, List.set_cons_succ]
  refine acL_value (.int .i64 m) (by rfl) (fun f W' hf h C' hC' => by
      go_simp
      refine (NX.out _ (HW.out.below h.bel)).mono ?_
      rintro e w' ⟨rfl, hb⟩
      exact ⟨rfl, hC' _ (h.next hb)⟩) ?_
  try simp only [Act.put, List.setIfInBounds_toArray, List.set_cons_zero, List.set_cons_succ]
  refine acL_read (v := .pointer (some ⟨w.heap.size, 1, none⟩)) (by rfl) (fun f W' h => h) (fun f W' hf h => by go_simp) ?_
  try simp only [Act.put, List.setIfInBounds_toArray, List.set_cons_zero, List.set_cons_succ]
  refine acL_read (v := St y) (by rfl) (fun f W' h => h) (fun f W' hf h => by have h0 := h.c1; go_simp) ?_
  try simp only [Act.put, List.setIfInBounds_toArray, List.set_cons_zero, List.set_cons_succ]
  refine acL_value (.int .i64 n) (by rfl) (fun f W' hf h C' hC' => by
      go_simp
      refine (NY.out _ (HW.out.below h.bel)).mono ?_
      rintro e w' ⟨rfl, hb⟩
      exact ⟨rfl, hC' _ (h.next hb)⟩) ?_
  try simp only [Act.put, List.setIfInBounds_toArray, List.set_cons_zero, List.set_cons_succ]
  refine acL_read (v := .int .i64 (max m n)) (by rfl) (fun f W' h => h) (fun f W' hf h => by go_simp) ?_
  try simp only [Act.put, List.setIfInBounds_toArray, List.set_cons_zero, List.set_cons_succ]
  refine acL_read (v := .int .i64 (max m n)) (by rfl) (fun f W' h => h) (fun f W' hf h => by go_simp) ?_
  try simp only [Act.put, List.setIfInBounds_toArray, List.set_cons_zero, List.set_cons_succ]
  refine acL_nil fun f W4 hf h => ?_
  have hB := h.bel
  clear h hf f H3
  go_wp2_with fail
  go_ret
  exact ⟨rfl, hB⟩

/-- The error of checkPoint, where both numbers are no longer than the limit. -/
def ptE (p : Pt) : Int := max (numE p.x) (numE p.y)
theorem checkPoint_ok (p : Pt) (hx : okQ p.x) (hy : okQ p.y) (w : World) (hw : Wd w) :
    Calls Tryz.prog 40 #[ptV p] w fun e w' => e = .returned (.int .i64 (ptE p)) ∧ Below w.heap.size w w' :=
  checkPoint_g _ _ _ _ (Lib.hid fun W hW => check_ok p.x hx W hW) (Lib.hid fun W hW => check_ok p.y hy W hW) (Lib.hid fun W hW => checkNum_ok p.x hx W hW) (Lib.hid fun W hW => checkNum_ok p.y hy W hW) w (Lib.hid hw)

theorem sz_digs {q : Rat} {k : Nat} (hk : 0 < k) (h : sz q k) : digs q.num ≤ k ∧ (decDigits q.den).length ≤ k := ⟨(digs_le_iff _ _ hk).2 h.1, (dec_len_le_iff _ _ hk).2 h.2⟩
theorem numE_sz {q : Rat} (h : sz q 36) : numE q = 0 := if_pos (sz_digs (by omega) h)
theorem okQ_sz {q : Rat} (h : sz q 36) : okQ q := let h := sz_digs (by omega) h; ⟨Nat.le_trans h.1 (by omega), Nat.le_trans h.2 (by omega)⟩
theorem checkPoint_sz (p : Pt) (h : szP p 36) (w : World) (hw : Wd w) :
    Calls Tryz.prog 40 #[ptV p] w fun e w' => e = .returned (.int .i64 0) ∧ Below w.heap.size w w' := by
  have := checkPoint_ok p (okQ_sz h.1) (okQ_sz h.2) w hw
  rwa [show ptE p = 0 by unfold ptE; rw [numE_sz h.1, numE_sz h.2]; rfl] at this

theorem meet_ok (a b c d : Pt) (k : Nat) (hk : 0 < k) (hk2 : 8 * k + 4 ≤ 300) (ha : szP a k) (hb : szP b k) (hc : szP c k) (hd : szP d k) (w : World) (hw : Wd w) :
    Calls Tryz.prog 41 #[segV a b, segV c d] w fun e w' => e = .returned (.int .i64 (meet a b c d)) ∧ Below w.heap.size w w' := by
  have TA := Lib.hid fun W hW => turn_ok a b c k hk hk2 ha hb hc W hW
  have TB := Lib.hid fun W hW => turn_ok a b d k hk hk2 ha hb hd W hW
  have TC := Lib.hid fun W hW => turn_ok c d a k hk hk2 hc hd ha W hW
  have TD := Lib.hid fun W hW => turn_ok c d b k hk hk2 hc hd hb W hW
  have r : ∀ x y z : Pt, -1 ≤ turn x y z ∧ turn x y z ≤ 1 := fun x y z => by rcases turn_cases x y z with h | h | h <;> omega
  by_cases hz : turn a b c = 0 ∧ turn a b d = 0 ∧ turn c d a = 0 ∧ turn c d b = 0
  · have hlow : ∀ x y : Pt, szP x k → szP y k → szP (low x y) k := fun x y hx hy => by unfold low; split <;> assumption
    have hhigh : ∀ x y : Pt, szP x k → szP y k → szP (high x y) k := fun x y hx hy => by unfold high; split <;> assumption
    have ho : ∀ x y : Pt, -1 ≤ ordP x y ∧ ordP x y ≤ 1 := fun x y => by rcases ordP_cases x y with h | h | h <;> omega
    have O : ∀ x y : Pt, szP x k → szP y k → Hid (∀ W : World, Wd W → Calls Tryz.prog 78 #[ptV x, ptV y] W fun e w' => e = .returned (.int .i64 (ordP x y)) ∧ Below W.heap.size W w') := fun x y hx hy => Lib.hid fun W hW => order_ok x y k k hk hk (by omega) hx hy W hW
    rw [hz.1] at TA; rw [hz.2.1] at TB; rw [hz.2.2.1] at TC; rw [hz.2.2.2] at TD
    have LS := Lib.hid fun W hW => low_ok a b k hk hk2 ha hb W hW
    have HS := Lib.hid fun W hW => high_ok a b k hk hk2 ha hb W hW
    have LT := Lib.hid fun W hW => low_ok c d k hk hk2 hc hd W hW
    have HT := Lib.hid fun W hW => high_ok c d k hk hk2 hc hd W hW
    obtain ⟨c1, e1⟩ : ∃ c1, decide (0 < ordP (low c d) (low a b)) = c1 := ⟨_, rfl⟩
    obtain ⟨c2, e2⟩ : ∃ c2, decide (ordP (high c d) (high a b) < 0) = c2 := ⟨_, rfl⟩
    have em : meet a b c d = 1 - ordP (if c1 then low c d else low a b) (if c2 then high c d else high a b) := by
      unfold meet
      rw [if_neg (by simp [hz])]
      subst e1; subst e2
      simp only [decide_eq_true_eq]
    rw [em]
    have O3 := O (if c1 then low c d else low a b) (if c2 then high c d else high a b) (by split; exact hlow _ _ hc hd; exact hlow _ _ ha hb) (by split; exact hhigh _ _ hc hd; exact hhigh _ _ ha hb)
    refine meet_flat _ _ _ _ _ _ _ _ _ _ _ _ _ _ _ _ (ordP (low c d) (low a b)) (ordP (high c d) (high a b)) _ c1 c2 e1 e2 (ho _ _) TA TB TC TD LS HS LT HT (O _ _ (hlow _ _ hc hd) (hlow _ _ ha hb)) (O _ _ (hhigh _ _ hc hd) (hhigh _ _ ha hb)) ?_ w (Lib.hid hw)
    cases c1 <;> cases c2 <;> exact O3
  · refine meet_turns _ _ _ _ _ _ _ _ _ _ _ _ _ TA TB TC TD (r _ _ _) (r _ _ _) (r _ _ _) (r _ _ _) hz ?_ w (Lib.hid hw)
    unfold meet
    rw [if_pos (by omega)]

/-- The boxes of four points. -/
structure FourS (w : World) (x1 y1 x2 y2 x3 y3 x4 y4 : List UInt8) (W : World) : Prop where
  bel : Below w.heap.size w W
  lt : w.heap.size + 3 < W.heap.size
  h1 : W.heap[w.heap.size]? = some (.cells #[St x1, St y1] 24 (0, 0))
  h2 : W.heap[w.heap.size + 1]? = some (.cells #[St x2, St y2] 24 (0, 0))
  h3 : W.heap[w.heap.size + 2]? = some (.cells #[St x3, St y3] 24 (0, 0))
  h4 : W.heap[w.heap.size + 3]? = some (.cells #[St x4, St y4] 24 (0, 0))
theorem FourS.next {w : World} {x1 y1 x2 y2 x3 y3 x4 y4 : List UInt8} {W W' : World} (h : FourS w x1 y1 x2 y2 x3 y3 x4 y4 W) (hb : Below W.heap.size W W') : FourS w x1 y1 x2 y2 x3 y3 x4 y4 W' :=
  have hl := h.lt
  ⟨h.bel.trans (hb.mono h.bel.size), Nat.lt_of_lt_of_le h.lt hb.size, (hb.block _ (by omega)).trans h.h1, (hb.block _ (by omega)).trans h.h2, (hb.block _ (by omega)).trans h.h3, (hb.block _ (by omega)).trans h.h4⟩
theorem FourS.cells {w : World} {x1 y1 x2 y2 x3 y3 x4 y4 : List UInt8} {W : World} (h : FourS w x1 y1 x2 y2 x3 y3 x4 y4 W) :
    W.cell? ⟨w.heap.size, 0, none⟩ = some (St x1) ∧ W.cell? ⟨w.heap.size, 1, none⟩ = some (St y1) ∧ W.cell? ⟨w.heap.size + 1, 0, none⟩ = some (St x2) ∧ W.cell? ⟨w.heap.size + 1, 1, none⟩ = some (St y2) ∧
    W.cell? ⟨w.heap.size + 2, 0, none⟩ = some (St x3) ∧ W.cell? ⟨w.heap.size + 2, 1, none⟩ = some (St y3) ∧ W.cell? ⟨w.heap.size + 3, 0, none⟩ = some (St x4) ∧ W.cell? ⟨w.heap.size + 3, 1, none⟩ = some (St y4) := by
  have h1 := h.h1; have h2 := h.h2; have h3 := h.h3; have h4 := h.h4
  simp [World.cell?, h1, h2, h3, h4]
theorem FourS.start (w : World) (x1 y1 x2 y2 x3 y3 x4 y4 : List UInt8) :
    FourS w x1 y1 x2 y2 x3 y3 x4 y4 ((((w.alloc (.cells #[St x1, St y1] 24)).alloc (.cells #[St x2, St y2] 24)).alloc (.cells #[St x3, St y3] 24)).alloc (.cells #[St x4, St y4] 24)) := by
  refine ⟨((((Below.refl _ w).alloc (Nat.le_refl _) _).alloc (by simp) _).alloc (by simp; omega) _).alloc (by simp; omega) _, by simp, ?_, ?_, ?_, ?_⟩
  · exact (Below.heap_alloc _ _ _ (by simp; omega)).trans ((Below.heap_alloc _ _ _ (by simp; omega)).trans ((Below.heap_alloc _ _ _ (by simp)).trans (World.alloc_heap_new w _)))
  · have := World.alloc_heap_new (w.alloc (.cells #[St x1, St y1] 24)) (.cells #[St x2, St y2] 24)
    rw [World.size_alloc] at this
    exact (Below.heap_alloc _ _ _ (by simp)).trans ((Below.heap_alloc _ _ _ (by simp)).trans this)
  · have := World.alloc_heap_new ((w.alloc (.cells #[St x1, St y1] 24)).alloc (.cells #[St x2, St y2] 24)) (.cells #[St x3, St y3] 24)
    simp only [World.size_alloc] at this
    exact (Below.heap_alloc _ _ _ (by simp)).trans this
  · have := World.alloc_heap_new (((w.alloc (.cells #[St x1, St y1] 24)).alloc (.cells #[St x2, St y2] 24)).alloc (.cells #[St x3, St y3] 24)) (.cells #[St x4, St y4] 24)
    simp only [World.size_alloc] at this
    exact this

set_option maxRecDepth 100000 in
set_option maxHeartbeats 4000000 in
theorem segments_g (x1 y1 x2 y2 x3 y3 x4 y4 : List UInt8) (r : Int)
    (C1 : Hid (∀ W : World, Wd W → Calls Tryz.prog 40 #[.agg #[St x1, St y1]] W fun e w' => e = .returned (.int .i64 0) ∧ Below W.heap.size W w'))
    (C2 : Hid (∀ W : World, Wd W → Calls Tryz.prog 40 #[.agg #[St x2, St y2]] W fun e w' => e = .returned (.int .i64 0) ∧ Below W.heap.size W w'))
    (C3 : Hid (∀ W : World, Wd W → Calls Tryz.prog 40 #[.agg #[St x3, St y3]] W fun e w' => e = .returned (.int .i64 0) ∧ Below W.heap.size W w'))
    (C4 : Hid (∀ W : World, Wd W → Calls Tryz.prog 40 #[.agg #[St x4, St y4]] W fun e w' => e = .returned (.int .i64 0) ∧ Below W.heap.size W w'))
    (M : Hid (∀ W : World, Wd W → Calls Tryz.prog 41 #[.agg #[St x1, St y1, St x2, St y2], .agg #[St x3, St y3, St x4, St y4]] W fun e w' => e = .returned (.int .i64 r) ∧ Below W.heap.size W w'))
    (w : World) (HW : Hid (Wd w)) :
    Calls Tryz.prog 14 #[.agg #[St x1, St y1], .agg #[St x2, St y2], .agg #[St x3, St y3], .agg #[St x4, St y4]] w fun e w' => e = .returned (.tuple #[.int .i64 r, .int .i64 0]) ∧ Below w.heap.size w w' := by
  have hinit := FourS.start w x1 y1 x2 y2 x3 y3 x4 y4
  obtain ⟨i1, i2, i3, i4, i5, i6, i7, i8⟩ := hinit.cells
  obtain ⟨W1, hW1⟩ : ∃ W1, W1 = (((w.alloc (.cells #[St x1, St y1] 24)).alloc (.cells #[St x2, St y2] 24)).alloc (.cells #[St x3, St y3] 24)).alloc (.cells #[St x4, St y4] 24) := ⟨_, rfl⟩
  rw [← hW1] at hinit
  have HI := Lib.hid hinit; clear hinit
  have HW1 := Lib.hid hW1; clear hW1
  have x0 : ∀ w : World, (Instr.index 38 (.agg #[St x1, St y1, St x2, St y2, St x3, St y3, St x4, St y4]) (.int .i64 0)).run Tryz.prog w = .ok (.agg #[St x1, St y1]) w := fun _ => by kernel_rfl
  have x1' : ∀ w : World, (Instr.index 38 (.agg #[St x1, St y1, St x2, St y2, St x3, St y3, St x4, St y4]) (.int .i64 1)).run Tryz.prog w = .ok (.agg #[St x2, St y2]) w := fun _ => by kernel_rfl
  have x2' : ∀ w : World, (Instr.index 38 (.agg #[St x1, St y1, St x2, St y2, St x3, St y3, St x4, St y4]) (.int .i64 2)).run Tryz.prog w = .ok (.agg #[St x3, St y3]) w := fun _ => by kernel_rfl
  have x3' : ∀ w : World, (Instr.index 38 (.agg #[St x1, St y1, St x2, St y2, St x3, St y3, St x4, St y4]) (.int .i64 3)).run Tryz.prog w = .ok (.agg #[St x4, St y4]) w := fun _ => by kernel_rfl
  go_enter Tryz.func14, Tryz.ntmps14
  go_wp2_with fail
  rw [← HW1.out]
  clear i1 i2 i3 i4 i5 i6 i7 i8
  refine wp_loop_rounds 5 ?_
  rw [rounds_succ]
  go_wp2_with fail
  have b1 : Below W1.heap.size W1 (W1.alloc (.cells #[St x1, St y1] 24)) := (Below.refl _ W1).alloc (Nat.le_refl _) _
  refine (C1.out _ (HW.out.below (HI.out.next b1).bel)).mono ?_
  rintro e V1 ⟨rfl, c1⟩
  have K1 := Lib.hid ((HI.out.next b1).next c1); clear HI b1 c1
  go_wp2_with fail
  rw [rounds_succ]
  go_wp2_with fail
  have b2 : Below V1.heap.size V1 (V1.alloc (.cells #[St x2, St y2] 24)) := (Below.refl _ V1).alloc (Nat.le_refl _) _
  refine (C2.out _ (HW.out.below (K1.out.next b2).bel)).mono ?_
  rintro e V2 ⟨rfl, c2⟩
  have K2 := Lib.hid ((K1.out.next b2).next c2); clear K1 b2 c2
  go_wp2_with fail
  rw [rounds_succ]
  go_wp2_with fail
  have b3 : Below V2.heap.size V2 (V2.alloc (.cells #[St x3, St y3] 24)) := (Below.refl _ V2).alloc (Nat.le_refl _) _
  refine (C3.out _ (HW.out.below (K2.out.next b3).bel)).mono ?_
  rintro e V3 ⟨rfl, c3⟩
  have K3 := Lib.hid ((K2.out.next b3).next c3); clear K2 b3 c3
  go_wp2_with fail
  rw [rounds_succ]
  go_wp2_with fail
  have b4 : Below V3.heap.size V3 (V3.alloc (.cells #[St x4, St y4] 24)) := (Below.refl _ V3).alloc (Nat.le_refl _) _
  refine (C4.out _ (HW.out.below (K3.out.next b4).bel)).mono ?_
  rintro e V4 ⟨rfl, c4⟩
  have K4 := Lib.hid ((K3.out.next b4).next c4); clear K3 b4 c4
  go_wp2_with fail
  rw [rounds_succ]
  obtain ⟨i1, i2, i3, i4, i5, i6, i7, i8⟩ := K4.out.cells
  change V4.cell? ⟨w.heap.size + 1 + 1, 0, none⟩ = _ at i5
  change V4.cell? ⟨w.heap.size + 1 + 1, 1, none⟩ = _ at i6
  change V4.cell? ⟨w.heap.size + 1 + 1 + 1, 0, none⟩ = _ at i7
  change V4.cell? ⟨w.heap.size + 1 + 1 + 1, 1, none⟩ = _ at i8
  have hB := K4.out.bel
  go_wp2_with fail
  refine (M.out _ (HW.out.below hB)).mono ?_
  rintro e V5 ⟨rfl, c5⟩
  have hB5 := hB.trans (c5.mono hB.size)
  clear i1 i2 i3 i4 i5 i6 i7 i8 K4 c5 hB
  go_wp2_with fail
  go_ret2
  exact ⟨rfl, hB5⟩

/-- Segments, where the points are right. -/
theorem segments_ok (a b c d : Pt) (ha : szP a 36) (hb : szP b 36) (hc : szP c 36) (hd : szP d 36) (w : World) (hw : Wd w) :
    Calls Tryz.prog 14 #[ptV a, ptV b, ptV c, ptV d] w fun e w' => e = .returned (.tuple #[.int .i64 (meet a b c d), .int .i64 0]) ∧ Below w.heap.size w w' :=
  segments_g _ _ _ _ _ _ _ _ _ (Lib.hid fun W hW => checkPoint_sz a ha W hW) (Lib.hid fun W hW => checkPoint_sz b hb W hW) (Lib.hid fun W hW => checkPoint_sz c hc W hW) (Lib.hid fun W hW => checkPoint_sz d hd W hW)
    (Lib.hid fun W hW => meet_ok a b c d 36 (by omega) (by omega) ha hb hc hd W hW) w (Lib.hid hw)
end Go.Proofs.YtapfekcbbhhieaaGreatDoor

namespace Go.Proofs.YtapfekcbbhhieaaGreatDoor
open Go.RowKit Go.Shelf Lib Str Limb
attribute [local go_sem] Oper.semAt_some

set_option maxHeartbeats 1000000 in
theorem rootOf_g (x u v : List UInt8)
    (PA : Hid (∀ W : World, Wd W → Calls Tryz.prog 112 #[St x] W fun e w' => e = .returned (.tuple #[St u, St v, .int .i64 0]) ∧ Below W.heap.size W w')) (w : World) (HW : Hid (Wd w)) :
    Calls Tryz.prog 159 #[St x] w fun e w' => e = .returned (.agg #[St u, St v]) ∧ Below w.heap.size w w' := by
  obtain ⟨W1, hW1⟩ : ∃ W1, W1 = w.alloc (.cells #[St [], St []] 197) := ⟨_, rfl⟩
  have hb1 : Below w.heap.size w W1 := by rw [hW1]; exact (Below.refl _ w).alloc (Nat.le_refl _) _
  have A1 : W1.heap[w.heap.size]? = some (.cells #[St [], St []] 197 (0, 0)) := by rw [hW1]; exact World.alloc_heap_new w _
  have hz : W1.heap.size = w.heap.size + 1 := by rw [hW1]; simp
  have HW1 := Lib.hid hW1; clear hW1
  go_enter Tryz.func159, Tryz.ntmps159
  go_wp2_with fail
  have h9 := HW1.out
  rw [← h9]
  clear h9
  refine (PA.out _ (HW.out.below hb1)).mono ?_
  rintro e w2 ⟨rfl, hb2⟩
  have hB2 := hb1.trans (hb2.mono hb1.size)
  have A2 : w2.heap[w.heap.size]? = some (.cells #[St [], St []] 197 (0, 0)) := (hb2.block _ (by omega)).trans A1
  have b0 : w2.cell? ⟨w.heap.size, 0, none⟩ = some (St []) := by rw [Go.Joins.cell_of_block A2]; rfl
  have b1 : w2.cell? ⟨w.heap.size, 1, none⟩ = some (St []) := by rw [Go.Joins.cell_of_block A2]; rfl
  have f0 : w2.frozen? ⟨w.heap.size, 0, none⟩ = false := Go.Joins.unfrozen_of_block A2 0
  have f1 : w2.frozen? ⟨w.heap.size, 1, none⟩ = false := Go.Joins.unfrozen_of_block A2 1
  clear A1 A2 hb2
  go_wp2_with fail
  refine bodyPost_ret (v := .agg #[St u, St v]) (by simp [results, Tryz.results159, go_sem, b0, b1]) rfl ⟨rfl, ?_⟩
  repeat (first | exact hB2 | refine Below.setCell ?_ (by simp) _)

theorem rootOf_ok (q : Rat) (h : okQ q) (w : World) (hw : Wd w) :
    Calls Tryz.prog 159 #[St (numS q)] w fun e w' => e = .returned (.agg #[St (itoa q.num), St (decDigits q.den)]) ∧ Below w.heap.size w w' :=
  rootOf_g _ _ _ (Lib.hid fun W hW => rparts_ok q h W hW) w (Lib.hid hw)

set_option maxHeartbeats 400000 in
theorem surdDigits_ok (x : Int) (w : World) :
    Calls Tryz.prog 120 #[St (itoa x)] w fun e w' => e = .returned (.int .i64 (digs x : Nat)) ∧ Below w.heap.size w w' := by
  obtain ⟨t, ht⟩ : ∃ t : ByteArray, t = ⟨(trimPrefix (⟨(itoa x).toArray⟩ : ByteArray).data.toList [45]).toArray⟩ := ⟨_, rfl⟩
  have hs : t.size = digs x := by
    rw [ht]; show (trimPrefix (itoa x) [45]).toArray.size = _
    rw [trimPrefix_itoa]; simp [digs]
  rw [← hs]
  have HT := Lib.hid ht; clear ht hs
  show Calls _ _ #[.string ⟨(itoa x).toArray⟩] _ _
  generalize (⟨(itoa x).toArray⟩ : ByteArray) = u at *
  go_enter Tryz.func120, Tryz.ntmps120
  go_wp2_with fail
  refine (Tryz.strings_TrimPrefix _ _ _).mono ?_
  rintro e w' ⟨rfl, hw1⟩
  have hw2 := hw1.symm; subst hw2
  have h9 := HT.out
  rw [← show t = ⟨(trimPrefix u.data.toList (⟨#[45]⟩ : ByteArray).data.toList).toArray⟩ from h9]
  clear h9 hw1
  go_wp2_with fail
  go_ret
  exact ⟨rfl, Below.refl _ _⟩

set_option maxHeartbeats 1000000 in
theorem longest_g (x u v : List UInt8) (a b : Nat) (w : World) (HW : Hid (Wd w))
    (PA : Hid (∀ W : World, Wd W → Calls Tryz.prog 112 #[St x] W fun e w' => e = .returned (.tuple #[St u, St v, .int .i64 0]) ∧ Below W.heap.size W w'))
    (D1 : Hid (∀ W : World, Calls Tryz.prog 120 #[St u] W fun e w' => e = .returned (.int .i64 a) ∧ Below W.heap.size W w'))
    (D2 : Hid (∀ W : World, Calls Tryz.prog 120 #[St v] W fun e w' => e = .returned (.int .i64 b) ∧ Below W.heap.size W w')) :
    Calls Tryz.prog 84 #[St x] w fun e w' => e = .returned (.int .i64 (max (a : Int) b)) ∧ Below w.heap.size w w' := by
  go_enter Tryz.func84, Tryz.ntmps84
  go_wp2_with fail
  refine (PA.out _ HW.out).mono ?_
  rintro e w1 ⟨rfl, hb1⟩
  go_wp2_with fail
  refine (D1.out _).mono ?_
  rintro e w2 ⟨rfl, hb2⟩
  go_wp2_with fail
  refine (D2.out _).mono ?_
  rintro e w3 ⟨rfl, hb3⟩
  go_wp2_with fail
  go_ret
  have h2 := hb1.trans (hb2.mono hb1.size)
  exact ⟨rfl, h2.trans (hb3.mono h2.size)⟩
theorem longest_ok (q : Rat) (h : okQ q) (w : World) (hw : Wd w) :
    Calls Tryz.prog 84 #[St (numS q)] w fun e w' => e = .returned (.int .i64 (max (digs q.num : Int) (digs (q.den : Int) : Nat))) ∧ Below w.heap.size w w' :=
  longest_g _ (itoa q.num) (decDigits q.den) _ _ w (Lib.hid hw) (Lib.hid fun W hW => rparts_ok q h W hW) (Lib.hid fun W => surdDigits_ok q.num W) (Lib.hid fun W => by have := surdDigits_ok (q.den : Int) W; rwa [Str.itoa_nonneg] at this)
end Go.Proofs.YtapfekcbbhhieaaGreatDoor

namespace Go.Proofs.YtapfekcbbhhieaaGreatDoor
open Go.RowKit Go.Shelf
attribute [local go_sem] Oper.semAt_some

/-- The block for the rounds' deferred calls, where the loop has laid one. -/
def MkAt (mk : Option Nat) (W : World) : Prop := ∀ D, mk = some D → W.heap[D]? = some (.deferred (some []))

section
variable {F : Fence} {n : Nat} {P : Program} {g : Operand} {ps : Array Tmp} {assign body : Code} {Q : Exit → Act → World → Prop} {a : Act} {w : World} {gf : Nat} {lb : Array Value}
  {Rd : World → Prop} {R : Nat → Array Value → Prop} {len : Nat}
theorem range_core (h1 : 1 ≤ n) (hg : a.eval g = .func (.func gf) #[] lb) (hFg : F.fn gf) (eg : ∀ args w, (callFunc gf args).run P w = .ok (.enter gf args) w)
    (hseq : IterC F (n - 1) P gf lb Rd R len) (hps : ∀ k args, R k args → args.size = ps.size)
    {B : Nat} (hB : B ≤ w.heap.size) (I : Nat → World → Prop) (Ix : Code → Nat → World → Prop) (hI : ∀ k W W', I k W → CellsKept W W' → Below B W W' → I k W') (hIx : ∀ c k W W', Ix c k W → CellsKept W W' → Below B W W' → Ix c k W')
    (hRd : ∀ k W, I k W → Rd W) (h0 : I 0 w)
    (Ax : Nat → Array Value → Act → World → Prop) (hAx : ∀ k args a' W W', Ax k args a' W → CellsKept W W' → Below B W W' → Ax k args a' W')
    (zl : Nat) (mark : List Deferred) (mk : Option Nat) (w1 : FuncId → World) (dd : Nat)
    (hent : ∀ fn, (Instr.enterLoop fn a.tmps ps assign body F.round).run P w = .ok (zl, mark) (w1 fn))
    (hrec : ∀ fn, (w1 fn).heap[zl]? = some (.loop { state := .ready, pending := none, fn, tmps := a.tmps, params := ps, assign, body, defers := dd }))
    (hzl : w.heap.size ≤ zl) (hmk : ∀ D, mk = some D → w.heap.size ≤ D ∧ D ≠ zl) (hmk1 : ∀ fn, MkAt mk (w1 fn)) (hstart : ∀ fn, Below w.heap.size w (w1 fn)) (hck : ∀ fn, CellsKept w (w1 fn))
    (hassign : ∀ (l k : Nat) (args : Array Value) (W : World) (K : Act → World → Prop), w.heap.size ≤ l → (∃ r, W.heap[l]? = some (.loop r)) → I k W → k < len → R k args →
      (∀ a' W', KeepsFrom w.heap.size W W' → I k W' → Ax k args a' W' → K a' W') →
      assign.wpIn (F.inRound l) (n - 1 - 1) P (Exit.then K (fun _ _ _ => False)) { tmps := (ps.zip args).foldl (fun t (p, v) => t.setIfInBounds p v) a.tmps, defers := [] } W)
    (hbody : ∀ (l k : Nat) (args : Array Value) (a' : Act) (W : World), w.heap.size ≤ l → (∃ r, W.heap[l]? = some (.loop r)) → I k W → k < len → R k args → Ax k args a' W → body.wpIn (F.inRound l) (n - 1 - 1) P (postIx w.heap.size I Ix k W) a' W)
    (hdone : ∀ (W : World), I len W → MkAt mk W → Q .normal { a with defers := mark ++ a.defers } W)
    (hstop : ∀ (c : Code) (k : Nat) (W : World), Ix c k W → MkAt mk W → c.wpIn F n P Q { a with defers := mark ++ a.defers } W) :
    (Code.rangeFunc g ps assign body).wpIn F n P Q a w := by
  refine wpIn_rangeFunc fun fn hfn => ?_
  let rec' : LoopState → Option Code → Obj := fun st pe => .loop { state := st, pending := pe, fn, tmps := a.tmps, params := ps, assign, body, defers := dd }
  let bk : LoopState → Option Code → World → Prop := fun st pe W => W.heap[zl]? = some (rec' st pe) ∧ MkAt mk W
  have hturn : ∀ st pe st' pe' W, bk st pe W → bk st' pe' (W.putObj zl (rec' st' pe')) := fun st pe st' pe' W h =>
    ⟨World.putObj_heap_same (Array.getElem?_eq_some_iff.1 h.1).1, fun D hD => (World.putObj_heap_other (hmk D hD).2).trans (h.2 D hD)⟩
  refine ⟨zl, mark, w1 fn, { target := .fn (.func gf) lb, args := #[.func (.yield zl) #[] #[]] }, w1 fn, gf, #[.func (.yield zl) #[] #[]] ++ lb, w1 fn, hent fn, ?_, ?_, ?_, fun _ => h1, ?_⟩
  · simp only [resolve, hg]
    simp [go_sem]
  · intro f' hf'; simp [Target.leads] at hf'; subst hf'; exact hFg
  · simp [invoke, go_sem, eg]
  refine (hseq zl (fun k W => I k W ∧ bk .ready none W) (fun W => ∃ c k, Ix c k W ∧ bk .done (some c) W) _ (fun k W1 h => hRd k W1 h.1) (fun k W1 W2 h hb => ?_) ?_ ?_).mono ?_
  · exact ⟨hI k W1 W2 h.1 (cellsKept_below hb) (hb.mono (by have := (Array.getElem?_eq_some_iff.1 h.2.1).1; omega)),
      (hb.block _ (Array.getElem?_eq_some_iff.1 h.2.1).1).trans h.2.1, fun D hD => (hb.block _ (Array.getElem?_eq_some_iff.1 (h.2.2 D hD)).1).trans (h.2.2 D hD)⟩
  · rintro k args W ⟨hi, hbW⟩ hk hR
    have hy := run_yield (P := P) (args := args) hbW.1 (hps k args hR)
    refine ⟨fn, _, assign, body, hy, roundIn_of_wpIn hfn (hassign _ k args W _ hzl ⟨_, hbW.1⟩ hi hk hR ?_)⟩
    intro a' W2 hk2 hi2 hax2
    have hbW2 : bk .ready none W2 := ⟨hk2.same _ _ hzl hbW.1 rfl, fun D hD => hk2.same _ _ (hmk D hD).1 (hbW.2 D hD) rfl⟩
    refine ⟨_, run_beginRound hbW2.1 rfl, ?_⟩
    have hb2 : bk .busy none (W2.putObj zl (rec' .busy none)) := hturn _ _ _ _ _ hbW2
    have hc2 := keeps_putObj (rec' .busy none) hbW2.1 rfl
    have hl2 := below_putObj (B := B) (rec' .busy none) hbW2.1 (by omega)
    refine wpIn_mono (hbody _ k args a' _ hzl ⟨_, hb2.1⟩ (hI k _ _ hi2 hc2 hl2) hk hR (hAx k args a' _ _ hax2 hc2 hl2)) ?_
    have fin : ∀ (jump : Option Code) (W3 : World), KeepsFrom w.heap.size (W2.putObj zl (rec' .busy none)) W3 →
        (Instr.endRound zl jump).run P W3 = .ok (.bool jump.isNone) (W3.putObj zl (rec' (if jump.isNone then .ready else .done) jump)) ∧
        CellsKept W3 (W3.putObj zl (rec' (if jump.isNone then .ready else .done) jump)) ∧ Below B W3 (W3.putObj zl (rec' (if jump.isNone then .ready else .done) jump)) ∧
        bk (if jump.isNone then .ready else .done) jump (W3.putObj zl (rec' (if jump.isNone then .ready else .done) jump)) := fun jump W3 hk3 => by
      have hb3 : bk .busy none W3 := ⟨hk3.same _ _ hzl hb2.1 rfl, fun D hD => hk3.same _ _ (hmk D hD).1 (hb2.2 D hD) rfl⟩
      exact ⟨run_endRound jump hb3.1, keeps_putObj _ hb3.1 rfl, below_putObj _ hb3.1 (by omega), hturn _ _ _ _ _ hb3⟩
    rintro e a3 W3 hp
    cases e with
    | normal =>
      obtain ⟨hk3, hi3⟩ := hp
      obtain ⟨hr, hc, hbl, hb4⟩ := fin none W3 hk3
      exact ⟨_, _, hr, .inl ⟨rfl, hI _ _ _ hi3 hc hbl, hb4⟩⟩
    | ret =>
      obtain ⟨hk3, hi3⟩ := hp
      obtain ⟨hr, hc, hbl, hb4⟩ := fin (some .ret) W3 hk3
      exact ⟨_, _, hr, .inr ⟨rfl, _, _, hIx _ _ _ _ hi3 hc hbl, hb4⟩⟩
    | exit id =>
      obtain ⟨hk3, hi3⟩ := hp
      obtain ⟨hr, hc, hbl, hb4⟩ := fin (some (.exit id)) W3 hk3
      exact ⟨_, _, hr, .inr ⟨rfl, _, _, hIx _ _ _ _ hi3 hc hbl, hb4⟩⟩
    | goto t =>
      obtain ⟨hk3, hi3⟩ := hp
      obtain ⟨hr, hc, hbl, hb4⟩ := fin (some (.goto t)) W3 hk3
      exact ⟨_, _, hr, .inr ⟨rfl, _, _, hIx _ _ _ _ hi3 hc hbl, hb4⟩⟩
    | panic ch => exact hp.elim
    | outgrown => exact hp.elim
  · exact ⟨hI 0 _ _ h0 (hck fn) ((hstart fn).mono hB), hrec fn, hmk1 fn⟩
  · rintro e W2 ⟨⟨v, rfl⟩, (⟨hi, hb4⟩ | ⟨c, k, hi, hb4⟩)⟩
    · exact ⟨none, _, run_endLoop hb4.1 (by simp), hdone _ (hI _ _ _ hi (keeps_putObj _ hb4.1 rfl) (below_putObj _ hb4.1 (by omega))) (fun D hD => (World.putObj_heap_other (hmk D hD).2).trans (hb4.2 D hD))⟩
    · exact ⟨some c, _, run_endLoop hb4.1 (by simp), hstop c k _ (hIx _ _ _ _ hi (keeps_putObj _ hb4.1 rfl) (below_putObj _ hb4.1 (by omega))) (fun D hD => (World.putObj_heap_other (hmk D hD).2).trans (hb4.2 D hD))⟩

/-- An outermost loop. -/
theorem range_out (hro : F.round = none) (h1 : 1 ≤ n) (hg : a.eval g = .func (.func gf) #[] lb) (hFg : F.fn gf) (eg : ∀ args w, (callFunc gf args).run P w = .ok (.enter gf args) w)
    (hseq : IterC F (n - 1) P gf lb Rd R len) (hps : ∀ k args, R k args → args.size = ps.size)
    {B : Nat} (hB : B ≤ w.heap.size) (I : Nat → World → Prop) (Ix : Code → Nat → World → Prop) (hI : ∀ k W W', I k W → CellsKept W W' → Below B W W' → I k W') (hIx : ∀ c k W W', Ix c k W → CellsKept W W' → Below B W W' → Ix c k W')
    (hRd : ∀ k W, I k W → Rd W) (h0 : I 0 w)
    (Ax : Nat → Array Value → Act → World → Prop) (hAx : ∀ k args a' W W', Ax k args a' W → CellsKept W W' → Below B W W' → Ax k args a' W')
    (hassign : ∀ (l k : Nat) (args : Array Value) (W : World) (K : Act → World → Prop), w.heap.size ≤ l → (∃ r, W.heap[l]? = some (.loop r)) → I k W → k < len → R k args →
      (∀ a' W', KeepsFrom w.heap.size W W' → I k W' → Ax k args a' W' → K a' W') →
      assign.wpIn (F.inRound l) (n - 1 - 1) P (Exit.then K (fun _ _ _ => False)) { tmps := (ps.zip args).foldl (fun t (p, v) => t.setIfInBounds p v) a.tmps, defers := [] } W)
    (hbody : ∀ (l k : Nat) (args : Array Value) (a' : Act) (W : World), w.heap.size ≤ l → (∃ r, W.heap[l]? = some (.loop r)) → I k W → k < len → R k args → Ax k args a' W → body.wpIn (F.inRound l) (n - 1 - 1) P (postIx w.heap.size I Ix k W) a' W)
    (hdone : ∀ (D : Nat) (W : World), w.heap.size ≤ D → I len W → W.heap[D]? = some (.deferred (some [])) → Q .normal { a with defers := { target := .collected D, args := #[] } :: a.defers } W)
    (hstop : ∀ (D : Nat) (c : Code) (k : Nat) (W : World), w.heap.size ≤ D → Ix c k W → W.heap[D]? = some (.deferred (some [])) → c.wpIn F n P Q { a with defers := { target := .collected D, args := #[] } :: a.defers } W) :
    (Code.rangeFunc g ps assign body).wpIn F n P Q a w := by
  have hst : ∀ o, Below w.heap.size w ((w.alloc (.deferred (some []))).alloc o) := fun o => ((Below.refl _ w).alloc (Nat.le_refl _) _).alloc (by simp) _
  refine range_core h1 hg hFg eg hseq hps hB I Ix hI hIx hRd h0 Ax hAx (w.heap.size + 1) [{ target := .collected w.heap.size, args := #[] }] (some w.heap.size) (fun fn => (w.alloc (.deferred (some []))).alloc (.loop { state := .ready, pending := none, fn, tmps := a.tmps, params := ps, assign, body, defers := w.heap.size })) w.heap.size
    (fun fn => by rw [hro]; exact run_enterLoop_outer _ _ _ _ _) (fun fn => ?_) (by omega) (fun D hD => by cases hD; omega) (fun fn D hD => ?_) (fun fn => hst _) (fun fn => cellsKept_below (hst _)) hassign hbody (fun W hi hm => hdone _ W (Nat.le_refl _) hi (hm _ rfl)) (fun c k W hi hm => hstop _ c k W (Nat.le_refl _) hi (hm _ rfl))
  · have := World.alloc_heap_new (w.alloc (.deferred (some []))) (.loop { state := .ready, pending := none, fn, tmps := a.tmps, params := ps, assign, body, defers := w.heap.size }); rwa [World.size_alloc] at this
  · cases hD; exact (Below.heap_alloc _ _ _ (by simp)).trans (World.alloc_heap_new w _)

/-- A loop within a round of loop l₀. -/
theorem range_inner {l₀ : Nat} {r₀ : Loop} (hro : F.round = some l₀) (hl : w.heap[l₀]? = some (.loop r₀)) (h1 : 1 ≤ n) (hg : a.eval g = .func (.func gf) #[] lb) (hFg : F.fn gf) (eg : ∀ args w, (callFunc gf args).run P w = .ok (.enter gf args) w)
    (hseq : IterC F (n - 1) P gf lb Rd R len) (hps : ∀ k args, R k args → args.size = ps.size)
    {B : Nat} (hB : B ≤ w.heap.size) (I : Nat → World → Prop) (Ix : Code → Nat → World → Prop) (hI : ∀ k W W', I k W → CellsKept W W' → Below B W W' → I k W') (hIx : ∀ c k W W', Ix c k W → CellsKept W W' → Below B W W' → Ix c k W')
    (hRd : ∀ k W, I k W → Rd W) (h0 : I 0 w)
    (Ax : Nat → Array Value → Act → World → Prop) (hAx : ∀ k args a' W W', Ax k args a' W → CellsKept W W' → Below B W W' → Ax k args a' W')
    (hassign : ∀ (l k : Nat) (args : Array Value) (W : World) (K : Act → World → Prop), w.heap.size ≤ l → (∃ r, W.heap[l]? = some (.loop r)) → I k W → k < len → R k args →
      (∀ a' W', KeepsFrom w.heap.size W W' → I k W' → Ax k args a' W' → K a' W') →
      assign.wpIn (F.inRound l) (n - 1 - 1) P (Exit.then K (fun _ _ _ => False)) { tmps := (ps.zip args).foldl (fun t (p, v) => t.setIfInBounds p v) a.tmps, defers := [] } W)
    (hbody : ∀ (l k : Nat) (args : Array Value) (a' : Act) (W : World), w.heap.size ≤ l → (∃ r, W.heap[l]? = some (.loop r)) → I k W → k < len → R k args → Ax k args a' W → body.wpIn (F.inRound l) (n - 1 - 1) P (postIx w.heap.size I Ix k W) a' W)
    (hdone : ∀ (W : World), I len W → Q .normal a W) (hstop : ∀ (c : Code) (k : Nat) (W : World), Ix c k W → c.wpIn F n P Q a W) :
    (Code.rangeFunc g ps assign body).wpIn F n P Q a w := by
  have hst : ∀ o, Below w.heap.size w (w.alloc o) := fun o => (Below.refl _ w).alloc (Nat.le_refl _) _
  refine range_core h1 hg hFg eg hseq hps hB I Ix hI hIx hRd h0 Ax hAx w.heap.size [] none (fun fn => w.alloc (.loop { state := .ready, pending := none, fn, tmps := a.tmps, params := ps, assign, body, defers := r₀.defers })) r₀.defers
    (fun fn => by rw [hro]; exact run_enterLoop_inner hl _ _ _ _ _) (fun fn => World.alloc_heap_new w _) (Nat.le_refl _) (fun D hD => by cases hD) (fun fn D hD => by cases hD) (fun fn => hst _) (fun fn => cellsKept_below (hst _)) hassign hbody (fun W hi _ => hdone W hi) (fun c k W hi _ => hstop c k W hi)
/-- An iterator's contract goes into a round as it is. -/
theorem IterC.inRound (l : Nat) (h : IterC F n P gf lb Rd R len) : IterC (F.inRound l) n P gf lb Rd R len := h
end
end Go.Proofs.YtapfekcbbhhieaaGreatDoor

namespace Go.Proofs.YtapfekcbbhhieaaGreatDoor
open Go.RowKit Go.Shelf Lib Str Limb
attribute [local go_sem] Oper.semAt_some

/-- The sum of the first k. -/
def psum (q : Nat → Rat) : Nat → Rat
  | 0 => 0
  | k + 1 => psum q k + q k

/-- Numbers lie in the world. -/
def RowNums (p : Option Addr) (n : Nat) (q : Nat → Rat) (W : World) : Prop := ∀ i, i < n → ∃ b off, p = some ⟨b, off, none⟩ ∧ W.cell? ⟨b, off + i, none⟩ = some (St (numS (q i)))
theorem RowNums.keep {p : Option Addr} {n : Nat} {q : Nat → Rat} {W W' : World} (h : RowNums p n q W) (hc : CellsKept W W') : RowNums p n q W' := fun i hi => let ⟨b, off, e, h1⟩ := h i hi; ⟨b, off, e, hc.cell h1⟩

set_option maxHeartbeats 400000 in
theorem sums_any (v : Value) (w : World) (p : Option Addr) (n cap : Nat) (hv : v = .slice p n cap) :
    Calls Tryz.prog 66 #[v] w fun e w' => e = .returned (.func (.func 106) #[] #[.pointer (some ⟨w.heap.size, 0, none⟩)]) ∧ w.alloc (.cells #[v] 64) = w' := by
  subst hv
  go_enter Tryz.func66, Tryz.ntmps66
  go_wp2
  go_ret
  exact ⟨rfl, rfl⟩

set_option maxRecDepth 100000 in
set_option maxHeartbeats 1000000 in
theorem sums_ix (m : Nat) (hm : 1 ≤ m) (Bs : Nat) (n : Nat) (q : Nat → Rat) (hlen : n ≤ 5000) (Rd : World → Prop) (p : Option Addr) (cap : Nat)
    (A : Hid (∀ k, k < n → ∀ W : World, Wd W → Calls Tryz.prog 11 #[St (numS (psum q k)), St (numS (q k))] W fun e w' => e = .returned (.tuple #[St (numS (psum q (k + 1))), .int .i64 0]) ∧ Below W.heap.size W w'))
    (hRd : ∀ W, Rd W → W.cell? ⟨Bs, 0, none⟩ = some (.slice p n cap) ∧ RowNums p n q W ∧ Wd W) :
    IterC Fence.wide m Tryz.prog 106 #[.pointer (some ⟨Bs, 0, none⟩)] Rd (fun k args => args = #[St (numS (psum q (k + 1))), .int .i64 0]) n := by
  intro lp J Jx W hJr hJb hY h0
  refine callsIn_of_wp Tryz.func106 rfl trivial ?_ rfl
  simp only [Tryz.ntmps106, List.size_toArray, List.length_cons, List.length_nil, Nat.reduceAdd, Nat.reduceSub, Array.replicate_succ, Array.replicate_zero, List.push_toArray, List.append_toArray, List.nil_append, List.cons_append]
  obtain ⟨hb, _, _⟩ := hRd W (hJr 0 W h0)
  have HRd := Lib.hid fun k W h => hRd W (hJr k W h); clear hRd hJr
  have HY := Lib.hid hY; clear hY
  have HJB := Lib.hid hJb; clear hJb
  gi_wp2
  gi_loopw [3, 9] (fun s i wr => ∃ (k : Nat), k ≤ n ∧ s = St (numS (psum q k)) ∧ i = .int .i64 (k : Int) ∧ Hid (J k wr))
    (fun _ i _ => n - (RowKit.intOf i).toNat)
  case atStart => exact ⟨0, Nat.zero_le _, by rw [show psum q 0 = 0 from rfl, numS_zero], rfl, h0⟩
  case round =>
    clear hb
    obtain ⟨k, hk, rfl, rfl, hJ⟩ := hrel
    by_cases hlt : k < n
    · obtain ⟨hb, hc, hwd⟩ := HRd.out k wr hJ.out
      obtain ⟨b, off, rfl, c0⟩ := hc k hlt
      have HA := Lib.hid (A.out k hlt wr hwd)
      have HY1 := Lib.hid fun W h => HY.out k #[St (numS (psum q (k + 1))), .int .i64 0] W h hlt rfl
      clear hc hwd HY HRd A
      generalize numS (psum q k) = x at *
      generalize numS (q k) = y at *
      obtain ⟨z, hz⟩ : ∃ z, z = numS (psum q (k + 1)) := ⟨_, rfl⟩
      rw [← hz] at HA HY1
      have HZ := Lib.hid hz; clear hz
      gi_wp2
      refine ⟨trivial, (callsIn_wide.2 HA.out).mono ?_⟩
      rintro e W2 ⟨rfl, hb2⟩
      obtain ⟨fn, tmps, assign, body, hy, hR⟩ := HY1.out W2 (HJB.out k wr W2 hJ.out hb2)
      clear hb2 HA HY1
      gi_wp2
      refine hR.mono ?_
      rintro e W3 (⟨rfl, hJ3⟩ | ⟨rfl, hJx3⟩)
      · have HJ3 := Lib.hid hJ3; clear hJ3
        gi_wp2
        go_roundw
        case rel => exact ⟨k + 1, by omega, by rw [HZ.out], by go_num, HJ3.out⟩
        case measure => simp [RowKit.intOf]; omega
      · have HJx3 := Lib.hid hJx3; clear hJx3
        gi_wp2
        refine bodyPost_ret (results_none rfl _ _ _) rfl ?_
        exact ⟨⟨_, rfl⟩, .inr HJx3.out⟩
    · obtain rfl : k = n := by omega
      gi_wp2
      go_end0
      exact ⟨⟨_, rfl⟩, .inl hJ.out⟩

/-- What is known of the memory in Sum. -/
structure SumS (w : World) (p : Option Addr) (n : Nat) (q : Nat → Rat) (W : World) : Prop where
  bel : Below w.heap.size w W
  r1 : W.cell? ⟨w.heap.size, 0, none⟩ = some (St [])
  f1 : W.frozen? ⟨w.heap.size, 0, none⟩ = false
  r2 : W.cell? ⟨w.heap.size + 1, 0, none⟩ = some (.int .i64 0)
  f2 : W.frozen? ⟨w.heap.size + 1, 0, none⟩ = false
  nums : ∀ i, i < n → ∃ b off, p = some ⟨b, off, none⟩ ∧ b < w.heap.size ∧ W.cell? ⟨b, off + i, none⟩ = some (St (numS (q i)))
theorem SumS.keep {w : World} {p : Option Addr} {n : Nat} {q : Nat → Rat} {W W' : World} (h : SumS w p n q W) (hc : CellsKept W W') (hb : Below w.heap.size W W') : SumS w p n q W' :=
  ⟨h.bel.trans hb, hc.cell h.r1, hc.frozen h.r1 h.f1, hc.cell h.r2, hc.frozen h.r2 h.f2, fun i hi => let ⟨b, off, e, h0, h1⟩ := h.nums i hi; ⟨b, off, e, h0, hc.cell h1⟩⟩
theorem SumS.row {w : World} {p : Option Addr} {n : Nat} {q : Nat → Rat} {W : World} (h : SumS w p n q W) : RowNums p n q W := fun i hi => let ⟨b, off, e, _, h1⟩ := h.nums i hi; ⟨b, off, e, h1⟩
theorem SumS.put {w : World} {p : Option Addr} {n : Nat} {q : Nat → Rat} {W : World} (h : SumS w p n q W) {b0 : Nat} (hb : w.heap.size + 1 < b0) (v : Value) : SumS w p n q (W.setCell ⟨b0, 0, none⟩ v) :=
  ⟨h.bel.setCell (by simp; omega) _, by rw [cell_ne _ _ _ _ (by omega)]; exact h.r1, by rw [World.frozen?_setCell]; exact h.f1, by rw [cell_ne _ _ _ _ (by omega)]; exact h.r2, by rw [World.frozen?_setCell]; exact h.f2,
   fun i hi => let ⟨b, off, e, h0, h1⟩ := h.nums i hi; ⟨b, off, e, h0, by rw [cell_ne _ _ _ _ (by omega)]; exact h1⟩⟩

set_option maxRecDepth 100000 in
set_option maxHeartbeats 2000000 in
theorem sum_walk (p : Option Addr) (cap n : Nat) (q : Nat → Rat) (hlen : n ≤ 4096)
    (C : Hid (∀ k, k < n → ∀ W : World, Wd W → Calls Tryz.prog 65 #[St (numS (q k))] W fun e w' => e = .returned (.int .i64 0) ∧ Below W.heap.size W w'))
    (A : Hid (∀ k, k < n → ∀ W : World, Wd W → Calls Tryz.prog 11 #[St (numS (psum q k)), St (numS (q k))] W fun e w' => e = .returned (.tuple #[St (numS (psum q (k + 1))), .int .i64 0]) ∧ Below W.heap.size W w'))
    (w : World) (HW : Hid (Wd w)) (HP : Hid (RowNums p n q w)) :
    Calls Tryz.prog 35 #[.slice p n cap] w fun e w' => e = .returned (.tuple #[St (numS (psum q n)), .int .i64 0]) ∧ Below w.heap.size w w' := by
  refine (callsIn_wide (n := 3)).1 ?_
  refine callsIn_of_wp_marks Tryz.func35 rfl trivial ?_ rfl
  simp only [Tryz.ntmps35, List.size_toArray, List.length_cons, List.length_nil, Nat.reduceAdd, Nat.reduceSub, Array.replicate_succ, Array.replicate_zero, List.push_toArray, List.append_toArray, List.nil_append, List.cons_append]
  have hS0 : SumS w p n q ((w.alloc (.cells #[St []] 22)).alloc (.cells #[.int .i64 0] 28)) := by
    have b1 := Boxed.new w 22 (St [])
    have b2 := Boxed.new (w.alloc (.cells #[St []] 22)) 28 (.int .i64 0)
    have b12 := b1.alloc (.cells #[.int .i64 0] 28)
    simp only [World.size_alloc] at b2
    have hbel : Below w.heap.size w ((w.alloc (.cells #[St []] 22)).alloc (.cells #[.int .i64 0] 28)) := ((Below.refl _ w).alloc (Nat.le_refl _) _).alloc (by simp) _
    exact ⟨hbel, b12.cell, b12.frozen, b2.cell, b2.frozen, fun i hi => let ⟨b, off, e, h1⟩ := HP.out i hi; ⟨b, off, e, cell_lt h1, (cellsKept_below hbel).cell h1⟩⟩
  have HS0 := Lib.hid hS0; clear hS0 HP
  have hn1 : decide ((4096 : Int) < (n : Int)) = false := decide_eq_false (by omega)
  gi_wp2
  gi_loopw [15] (fun i wr => ∃ (k : Nat), k ≤ n ∧ i = .int .i64 (k : Int) ∧ Hid (SumS w p n q wr))
    (fun i _ => n - (RowKit.intOf i).toNat)
  case atStart => exact ⟨0, Nat.zero_le _, rfl, HS0.out⟩
  case round =>
    clear hn1
    obtain ⟨k, hk, rfl, hS⟩ := hrel
    by_cases hlt : k < n
    · obtain ⟨b, off, rfl, _, c0⟩ := hS.out.nums k hlt
      have HC := Lib.hid (C.out k hlt wr (HW.out.below hS.out.bel))
      generalize numS (q k) = x at c0 HC
      gi_wp2
      refine ⟨trivial, (callsIn_wide.2 HC.out).mono ?_⟩
      rintro e W2 ⟨rfl, hb2⟩
      have hS2 := Lib.hid (hS.out.keep (cellsKept_below hb2) (hb2.mono hS.out.bel.size))
      clear hb2 HC hS HS0
      gi_wp2
      go_roundw
      case rel => exact ⟨k + 1, by omega, by go_num, hS2⟩
      case measure => simp [RowKit.intOf]; omega
    · obtain rfl : k = n := by omega
      clear HS0
      gi_wp2_with (refine ⟨trivial, ?_⟩; gi_at_call 66; refine (callsIn_wide.2 (sums_any _ _ _ _ _ rfl)).mono ?_; rintro e w' ⟨rfl, rfl⟩)
      obtain ⟨W1, hW1⟩ : ∃ W1, W1 = (wr.alloc (.cells #[.string ⟨#[48]⟩] 22)).alloc (.cells #[.slice p k cap] 64) := ⟨_, rfl⟩
      have hb1 : Below wr.heap.size wr W1 := by rw [hW1]; exact ((Below.refl _ wr).alloc (Nat.le_refl _) _).alloc (by simp) _
      have hcb : W1.cell? ⟨wr.heap.size + 1, 0, none⟩ = some (.slice p k cap) := by
        have := (Boxed.new (wr.alloc (.cells #[.string ⟨#[48]⟩] 22)) 64 (.slice p k cap)).cell
        rw [World.size_alloc] at this; rw [hW1]; exact this
      have hob := (Boxed.new wr 22 (.string ⟨#[48]⟩)).alloc (.cells #[.slice p k cap] 64)
      rw [← hW1] at hob
      have ho1 := hob.cell; have ho2 := hob.frozen
      have hS1 := hS.out.keep (cellsKept_below hb1) (hb1.mono hS.out.bel.size)
      have hwz : w.heap.size + 1 < wr.heap.size := cell_lt hS.out.r2
      rw [← hW1]
      clear hW1 hS hob
      have HS1 := Lib.hid hS1.bel.size
      have hseq := sums_ix 2 (by omega) (wr.heap.size + 1) k q (by omega) (fun W => SumS w p k q W ∧ W.cell? ⟨wr.heap.size + 1, 0, none⟩ = some (.slice p k cap)) p cap A (fun W h => ⟨h.2, h.1.row, HW.out.below h.1.bel⟩)
      refine range_out (n := 3) (B := w.heap.size) rfl (by omega) rfl trivial (enters_of Tryz.func106 (by kernel_rfl) rfl) hseq (fun k args h => by subst h; rfl) hS1.bel.size
        (fun j W => SumS w p k q W ∧ W.cell? ⟨wr.heap.size + 1, 0, none⟩ = some (.slice p k cap) ∧ W.cell? ⟨wr.heap.size, 0, none⟩ = some (St (numS (psum q j))) ∧ W.frozen? ⟨wr.heap.size, 0, none⟩ = false)
        (fun c _ W => False)
        (fun j X Y h hc hb => ⟨h.1.keep hc hb, hc.cell h.2.1, hc.cell h.2.2.1, hc.frozen h.2.2.1 h.2.2.2⟩) (fun c j X Y h hc hb => h) (fun j W h => ⟨h.1, h.2.1⟩) ⟨hS1, hcb, by rw [show psum q 0 = 0 from rfl, numS_zero]; exact ho1, ho2⟩
        (fun j _ a' W => a' = { tmps := #[Value.slice p k cap, undef, Value.pointer (some { block := w.heap.size, off := 0 }), Value.pointer (some { block := w.heap.size + 1, off := 0 }), undef, u5, u6, Value.pointer (some { block := wr.heap.size, off := 0 }), St (numS (psum q (j + 1))), .int .i64 0, Value.slice p k cap, Value.int IntKind.i64 ↑k, Value.bool false, Value.slice p k cap, Value.int IntKind.i64 ↑k, Value.int IntKind.i64 ↑k, Value.bool false, u17, u18, u19, u20, u21, u22, u23, u24, Value.slice p k cap, Value.func (Fn.func 106) #[] #[Value.pointer (some { block := wr.heap.size + 1, off := 0 })], St (numS (psum q (j + 1))), .int .i64 0, undef, undef, undef, undef, undef], defers := [] })
        (fun j _ a' X Y h hc hb => h) ?assign ?body ?done ?stop
      case assign =>
        rintro lp j args W K hlp hrec hI hj rfl hK
        have HK := Lib.hid hK; clear hK
        gi_wp2
        exact HK.out _ _ (KeepsFrom.refl _ _) hI rfl
      case body =>
        rintro lp j args a' W hlp ⟨r, hr⟩ ⟨hS, hcb, ho1, ho2⟩ hj rfl rfl
        have H0 := Lib.hid (⟨hS, hcb, ho1, ho2⟩ : SumS w p k q W ∧ W.cell? ⟨wr.heap.size + 1, 0, none⟩ = some (.slice p k cap) ∧ W.cell? ⟨wr.heap.size, 0, none⟩ = some (St (numS (psum q j))) ∧ W.frozen? ⟨wr.heap.size, 0, none⟩ = false)
        clear hS hcb hseq hS1 hr
        gi_wp2
        obtain ⟨hS, hcb, ho1, ho2⟩ := H0.out
        refine ⟨(KeepsOthers.setCell _ _ _).from _, hS.put hwz _, by rw [cell_ne _ _ _ _ (by omega)]; exact hcb, cell_eq ho1, by rw [World.frozen?_setCell]; exact ho2⟩
      case done =>
        rintro D W hD ⟨hS, hcb, ho1, ho2⟩ hK
        have hr1 := hS.r1; have hf1 := hS.f1; have hr2 := hS.r2; have hf2 := hS.f2
        have HX := Lib.hid (⟨hS.bel, hK⟩ : Below w.heap.size w W ∧ W.heap[D]? = some (.deferred (some []))); clear hS hcb hseq hS1 hK
        gi_wp2
        obtain ⟨hbel, hK⟩ := HX.out
        have hK1 := (KeepsOthers.setCell W ⟨w.heap.size, 0, none⟩ (St (numS (psum q k)))).same D _ hK rfl
        have hK' := (KeepsOthers.setCell (W.setCell ⟨w.heap.size, 0, none⟩ (St (numS (psum q k)))) ⟨w.heap.size + 1, 0, none⟩ (.int .i64 0)).same D _ hK1 rfl
        refine ⟨by simp, .inl ⟨_, _, rfl, run_takeDeferred hK', ?_⟩⟩
        have c1 := cell_eq (u := St (numS (psum q k))) hr1
        have c2 : (W.setCell ⟨w.heap.size, 0, none⟩ (St (numS (psum q k)))).cell? ⟨w.heap.size + 1, 0, none⟩ = some (.int .i64 0) := by rw [cell_ne _ _ _ _ (by omega)]; exact hr2
        have c3 := cell_eq (u := .int .i64 0) c2
        have c4 : ((W.setCell ⟨w.heap.size, 0, none⟩ (St (numS (psum q k)))).setCell ⟨w.heap.size + 1, 0, none⟩ (.int .i64 0)).cell? ⟨w.heap.size, 0, none⟩ = some (St (numS (psum q k))) := by rw [cell_ne _ _ _ _ (by omega)]; exact c1
        have e1 := (kept_put hK').cell c4
        have e2 := (kept_put hK').cell c3
        refine ⟨.tuple #[St (numS (psum q k)), .int .i64 0], ?_, ⟨rfl, below_put ((hbel.setCell (p := ⟨w.heap.size, 0, none⟩) (by simp) _).setCell (p := ⟨w.heap.size + 1, 0, none⟩) (by simp) _) (by have := HS1.out; omega) hK'⟩⟩
        simp [results, Tryz.f35, go_sem, e1, e2]
      case stop =>
        rintro D c j W hD h hK
        exact h.elim


theorem sum_ok (p : Option Addr) (cap n : Nat) (q : Nat → Rat) (hlen : n ≤ 4096) (hs : ∀ k, k < n → ∃ i j, 0 < i ∧ 0 < j ∧ i + j < 300 ∧ sz (psum q k) i ∧ sz (q k) j) (w : World) (hw : Wd w) (hp : RowNums p n q w) :
    Calls Tryz.prog 35 #[.slice p n cap] w fun e w' => e = .returned (.tuple #[St (numS (psum q n)), .int .i64 0]) ∧ Below w.heap.size w w' :=
  sum_walk p cap n q hlen
    (Lib.hid fun k hk W hW => let ⟨i, j, hi, hj, hij, _, h2⟩ := hs k hk; check_ok (q k) (sz_okQ hj (by omega) h2) W hW)
    (Lib.hid fun k hk W hW => let ⟨i, j, hi, hj, hij, h1, h2⟩ := hs k hk; rAdd_ok (psum q k) (q k) i j hi hj hij h1 h2 W hW) w (Lib.hid hw) (Lib.hid hp)
end Go.Proofs.YtapfekcbbhhieaaGreatDoor
