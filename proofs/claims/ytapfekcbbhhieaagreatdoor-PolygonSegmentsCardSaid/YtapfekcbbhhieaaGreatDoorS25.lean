/-
  Triangles: plain laws. Plain Lean: no program stands in this text.
  polygon.Perimeter, Area and Inside on the triangle of the example.
  The example of the chapter: kingpostref04.Same on one term, kingpostlaw10.awake.
  kingpostlaw10.PolygonSegments: for every input the law returns true, and its arguments read as before. The listed variables are premises of the row; the card ties them to the program's text.
-/
import Derived.Test.YtapfekcbbhhieaaGreatDoorS24
import Derived.Test.YtapfekcbbhhieaaGreatDoorS18
import Derived.Test.YtapfekcbbhhieaaGreatDoorS21
import Derived.LaidByTextLater
namespace Go.Proofs.YtapfekcbbhhieaaGreatDoor.Geo

theorem meet_of_turn {a b c : Pt} (h : turn a b c ≠ 0) : meet a b b c = 1 := by
  unfold meet
  rw [if_pos (.inr (.inl h)), if_pos]
  rw [turn_right, turn_left]; simp

theorem tri_line {a b c : Pt} (h : turn a b c = 0) (h1 : a ≠ b) (h2 : b ≠ c) (h3 : c ≠ a) (k1 : meet a b b c = 1) (k2 : meet b c c a = 1) (k3 : meet a b c a = 1) : False := by
  have t1 : turn b c a = 0 := by rw [turn_rot]; exact h
  have t2 : turn c a b = 0 := by rw [turn_rot]; exact t1
  unfold meet at k1 k2 k3
  rw [if_neg (by simp [turn_right, turn_left, h, t1])] at k1
  rw [if_neg (by simp [turn_right, turn_left, t1, t2])] at k2
  rw [if_neg (by simp [turn_right, turn_left, h, t2])] at k3
  have o1 := ordP_cases a b; have o2 := ordP_cases b c; have o3 := ordP_cases c a
  have p1 := ordP_cases b a; have p2 := ordP_cases c b; have p3 := ordP_cases a c
  have s1 := ordP_self a; have s2 := ordP_self b; have s3 := ordP_self c
  have u1 : ∀ {p q : Pt}, p ≠ q → ordP p q ≠ 0 := fun {p q} h e => by have := ordP_cases p q; grind
  have v1 := u1 h1; have v2 := u1 h2; have v3 := u1 h3
  unfold low high at k1 k2 k3
  rcases o1 with ⟨x1, o1⟩ | ⟨x1, o1⟩ | ⟨x1, o1⟩
  · have q1 : ordP b a = 1 := by grind
    rcases o2 with ⟨x2, o2⟩ | ⟨x2, o2⟩ | ⟨x2, o2⟩
    · have q2 : ordP c b = 1 := by grind
      have q3 : ordP a c = -1 := by grind
      have q4 : ordP c a = 1 := by grind
      first | (simp [o1, o2, q1, q2, q3, q4, s1, s2, s3] at k1; done) | (simp [o1, o2, q1, q2, q3, q4, s1, s2, s3] at k2; done) | (simp [o1, o2, q1, q2, q3, q4, s1, s2, s3] at k3; done)
    · exact absurd o2 v2
    · have q2 : ordP c b = -1 := by grind
      rcases o3 with ⟨x3, o3⟩ | ⟨x3, o3⟩ | ⟨x3, o3⟩
      · have q3 : ordP a c = 1 := by grind
        first | (simp [o1, o2, q1, q2, q3, o3, s1, s2, s3] at k1; done) | (simp [o1, o2, q1, q2, q3, o3, s1, s2, s3] at k2; done) | (simp [o1, o2, q1, q2, q3, o3, s1, s2, s3] at k3; done)
      · exact absurd o3 v3
      · have q3 : ordP a c = -1 := by grind
        first | (simp [o1, o2, q1, q2, q3, o3, s1, s2, s3] at k1; done) | (simp [o1, o2, q1, q2, q3, o3, s1, s2, s3] at k2; done) | (simp [o1, o2, q1, q2, q3, o3, s1, s2, s3] at k3; done)
  · exact absurd o1 v1
  · have q1 : ordP b a = -1 := by grind
    rcases o2 with ⟨x2, o2⟩ | ⟨x2, o2⟩ | ⟨x2, o2⟩
    · have q2 : ordP c b = 1 := by grind
      rcases o3 with ⟨x3, o3⟩ | ⟨x3, o3⟩ | ⟨x3, o3⟩
      · have q3 : ordP a c = 1 := by grind
        first | (simp [o1, o2, q1, q2, q3, o3, s1, s2, s3] at k1; done) | (simp [o1, o2, q1, q2, q3, o3, s1, s2, s3] at k2; done) | (simp [o1, o2, q1, q2, q3, o3, s1, s2, s3] at k3; done)
      · exact absurd o3 v3
      · have q3 : ordP a c = -1 := by grind
        first | (simp [o1, o2, q1, q2, q3, o3, s1, s2, s3] at k1; done) | (simp [o1, o2, q1, q2, q3, o3, s1, s2, s3] at k2; done) | (simp [o1, o2, q1, q2, q3, o3, s1, s2, s3] at k3; done)
    · exact absurd o2 v2
    · have q2 : ordP c b = -1 := by grind
      have q3 : ordP a c = 1 := by grind
      have q4 : ordP c a = -1 := by grind
      first | (simp [o1, o2, q1, q2, q3, q4, s1, s2, s3] at k1; done) | (simp [o1, o2, q1, q2, q3, q4, s1, s2, s3] at k2; done) | (simp [o1, o2, q1, q2, q3, q4, s1, s2, s3] at k3; done)

/-- A triangle is a polygon exactly if its corners are not on a line. -/
theorem tri_iff (a b c : Pt) : (a ≠ b ∧ b ≠ c ∧ c ≠ a ∧ meet a b b c = 1 ∧ meet a b c a = 1 ∧ meet b c c a = 1) ↔ turn a b c ≠ 0 := by
  constructor
  · rintro ⟨h1, h2, h3, k1, k2, k3⟩ h
    exact tri_line h h1 h2 h3 k1 k3 k2
  · intro h
    have t1 : turn b c a ≠ 0 := by rw [turn_rot]; exact h
    have t2 : turn c a b ≠ 0 := by rw [turn_rot]; exact t1
    refine ⟨fun e => h (by subst e; exact turn_same _ _), fun e => h (by subst e; exact turn_right _ _), fun e => h (by subst e; exact turn_left _ _), meet_of_turn h, ?_, meet_of_turn t1⟩
    rw [meet_comm]; exact meet_of_turn t2

/-- Twice the area of a triangle. -/
def area2 (a b c : Pt) : Rat := (a.x * b.y - b.x * a.y) + (b.x * c.y - c.x * b.y) + (c.x * a.y - a.x * c.y)
theorem area2_cr (a b c : Pt) : area2 a b c = cr a b c := by unfold area2 cr; grind

/-- The point that divides a side. -/
def cutAt (a b : Pt) (t : Rat) : Pt := ⟨a.x + (b.x - a.x) * t, a.y + (b.y - a.y) * t⟩
theorem cut_first (a b c : Pt) (t : Rat) : area2 a (cutAt a b t) c = area2 a b c * t := by unfold area2 cutAt; grind
theorem cut_second (a b c : Pt) (t : Rat) : area2 (cutAt a b t) b c = area2 a b c * (1 - t) := by unfold area2 cutAt; grind
theorem turn_area (a b c : Pt) : turn a b c ≠ 0 ↔ area2 a b c ≠ 0 := by rw [area2_cr]; exact not_congr turn_zero
theorem cut_tri {a b c : Pt} {t : Rat} (h : turn a b c ≠ 0) (h0 : t ≠ 0) (h1 : t ≠ 1) : turn a (cutAt a b t) c ≠ 0 ∧ turn (cutAt a b t) b c ≠ 0 := by
  rw [turn_area] at *
  rw [turn_area]
  rw [cut_first, cut_second]
  constructor
  · intro e; rcases Rat.mul_eq_zero.1 e with e | e
    · exact h e
    · exact h0 e
  · intro e; rcases Rat.mul_eq_zero.1 e with e | e
    · exact h e
    · exact h1 (by grind)
end Go.Proofs.YtapfekcbbhhieaaGreatDoor.Geo

namespace Go.Proofs.YtapfekcbbhhieaaGreatDoor
open Go.RowKit Go.Shelf Lib Str Limb Geo
attribute [local go_sem] Oper.semAt_some

/-- The triangle of the example. -/
def tri3 : List Pt := [⟨0, 0⟩, ⟨4, 0⟩, ⟨4, 3⟩]
theorem tri3_cases (i : Nat) : cor tri3 i = ⟨0, 0⟩ ∨ cor tri3 i = ⟨4, 0⟩ ∨ cor tri3 i = ⟨4, 3⟩ := by
  have h : i % 3 < 3 := Nat.mod_lt _ (by omega)
  show tri3[i % 3]?.getD ⟨0, 0⟩ = _ ∨ tri3[i % 3]?.getD ⟨0, 0⟩ = _ ∨ tri3[i % 3]?.getD ⟨0, 0⟩ = _
  generalize i % 3 = j at h ⊢
  match j, h with
  | 0, _ => exact .inl rfl
  | 1, _ => exact .inr (.inl rfl)
  | 2, _ => exact .inr (.inr rfl)
theorem tri3_sz (i : Nat) : szP (cor tri3 i) 1 := by
  have z0 : sz 0 1 := ⟨by decide, by decide⟩
  have z3 : sz 3 1 := ⟨by decide, by decide⟩
  have z4 : sz 4 1 := ⟨by decide, by decide⟩
  rcases tri3_cases i with h | h | h <;> rw [h]
  · exact ⟨z0, z0⟩
  · exact ⟨z4, z0⟩
  · exact ⟨z4, z3⟩
theorem tri3_sz36 (i : Nat) : szP (cor tri3 i) 36 := ⟨(tri3_sz i).1.mono (by omega), (tri3_sz i).2.mono (by omega)⟩
theorem tri3_turn : turn ⟨0, 0⟩ ⟨4, 0⟩ ⟨4, 3⟩ = 1 := by decide +kernel
theorem tri3_sides : sidesP tri3 := by
  intro i h
  match i, h with
  | 0, _ => show (⟨0, 0⟩ : Pt) ≠ ⟨4, 0⟩; decide
  | 1, _ => show (⟨4, 0⟩ : Pt) ≠ ⟨4, 3⟩; decide
  | 2, _ => show (⟨4, 3⟩ : Pt) ≠ ⟨0, 0⟩; decide
theorem tri3_simple : simpleP tri3 := by
  obtain ⟨_, _, _, h1, h2, h3⟩ := (tri_iff ⟨0, 0⟩ ⟨4, 0⟩ ⟨4, 3⟩).2 (by rw [tri3_turn]; decide)
  intro i k hik hk
  match i, k, hik, hk with
  | 0, 1, _, _ => exact h1
  | 0, 2, _, _ => exact h2
  | 1, 2, _, _ => exact h3
  | i + 2, k, h, h2 => exact absurd (show k < 3 from h2) (by omega)
theorem tri3_sq : sqS tri3 0 = (((4 * 4 : Nat) : Int) : Rat) ∧ sqS tri3 1 = (((3 * 3 : Nat) : Int) : Rat) ∧ sqS tri3 2 = (((5 * 5 : Nat) : Int) : Rat) := by
  refine ⟨?_, ?_, ?_⟩ <;> decide +kernel
theorem tri3_area : psum (termS tri3) 3 / 2 = 6 := by decide +kernel
theorem tri3_psz (k : Nat) (h : k ≤ 3) : sz (psum (termS tri3) k) 2 := by
  match k, h with
  | 0, _ | 1, _ | 2, _ | 3, _ => unfold sz; decide +kernel
theorem tri3_tsz (k : Nat) (h : k < 3) : sz (termS tri3 k) 2 := by
  match k, h with
  | 0, _ | 1, _ | 2, _ => unfold sz; decide +kernel

/-- What is known of the answer of Perimeter. -/
def Per12 (w : World) (q : Option Addr) (m c : Nat) (k : Int) (W : World) : Prop :=
  k = 0 ∧ ∃ g, q = some ⟨g, 0, none⟩ ∧ m = 1 ∧ w.heap.size + 2 ≤ g ∧ W.cell? ⟨g, 0, none⟩ = some (St [49, 50]) ∧ W.cell? ⟨g, 1, none⟩ = some (.string ⟨#[49]⟩)

theorem per_345 (p : Option Addr) (cap : Nat) (w : World) (HW : Hid (∀ W, Below w.heap.size w W → Wd W ∧ Pw W)) (HP : Hid (RowPts p tri3 w)) :
    Calls Tryz.prog 16 #[.slice p 3 cap] w fun e w' => ∃ g c, e = .returned (.tuple #[.slice (some ⟨g, 0, none⟩) 1 c, .int .i64 0]) ∧ Below w.heap.size w w' ∧ w.heap.size ≤ g ∧ w'.cell? ⟨g, 0, none⟩ = some (St [49, 50]) ∧ w'.cell? ⟨g, 1, none⟩ = some (.string ⟨#[49]⟩) := by
  have hx := fun i => (tri3_sz i).1
  have hy := fun i => (tri3_sz i).2
  refine (per_walk p cap tri3 (by decide) (by decide) (Per12 w) w HW HP (Lib.hid ⟨?_⟩)
    (Lib.hid fun W hW hp => check_poly p cap tri3 (by decide) (by decide) tri3_sz36 tri3_sides tri3_simple W hW hp)
    (Lib.hid fun k _ W hW => psub_ok _ _ 1 1 (by omega) (by omega) (by omega) (hx _) (hx _) W hW)
    (Lib.hid fun k _ W hW => psub_ok _ _ 1 1 (by omega) (by omega) (by omega) (hy _) (hy _) W hW)
    (Lib.hid fun k _ W hW => pmul_ok _ _ 3 3 (by omega) (by omega) (by omega) (sz_sub (hx _) (hx _)) (sz_sub (hx _) (hx _)) W hW)
    (Lib.hid fun k _ W hW => pmul_ok _ _ 3 3 (by omega) (by omega) (by omega) (sz_sub (hy _) (hy _)) (sz_sub (hy _) (hy _)) W hW)
    (Lib.hid fun k _ W hW => rAdd_ok _ _ 6 6 (by omega) (by omega) (by omega) (sz_mul (sz_sub (hx _) (hx _)) (sz_sub (hx _) (hx _))) (sz_mul (sz_sub (hy _) (hy _)) (sz_sub (hy _) (hy _))) W hW)
    (Lib.hid ?_)).mono ?_
  · rintro q m c k W W' ⟨h0, g, h1, h2, h3, h4, h5⟩ h
    exact ⟨h0, g, h1, h2, h3, h _ _ _ h3 h4, h _ _ _ h3 h5⟩
  · intro g gc W hb hs hg hc
    obtain ⟨q0, q1, q2⟩ := tri3_sq
    have c0 := hc 0 (by decide); have c1 := hc 1 (by decide); have c2 := hc 2 (by decide)
    rw [q0, numS_nat] at c0; rw [q1, numS_nat] at c1; rw [q2, numS_nat] at c2
    refine (make_345 g 0 gc W (Lib.hid fun W' h => (HW.out W' (hb.trans (h.mono hb.size))).1) (Lib.hid fun W' h => (HW.out W' (hb.trans (h.mono hb.size))).2) c0.1 c0.2 c1.1 c1.2 c2.1 c2.2).mono ?_
    rintro e w' ⟨g', c, rfl, hb', hge, d0, d1⟩
    exact ⟨_, _, _, _, rfl, hb', rfl, g', rfl, rfl, by omega, d0, d1⟩
  · rintro e w' ⟨q, m, c, k, rfl, hb, rfl, g, rfl, rfl, hg, d0, d1⟩
    exact ⟨g, c, rfl, hb, by omega, d0, d1⟩

theorem area_345 (p : Option Addr) (cap : Nat) (w : World) (hw : Wd w) (hp : RowPts p tri3 w) :
    Calls Tryz.prog 12 #[.slice p 3 cap] w fun e w' => e = .returned (.tuple #[St [54], .int .i64 0]) ∧ Below w.heap.size w w' := by
  have h := area_ok p cap tri3 (by decide) (by decide) tri3_sz36 tri3_sides tri3_simple (fun k hk => ⟨2, 2, by omega, by omega, by omega, tri3_psz k (Nat.le_of_lt hk), tri3_tsz k hk⟩) 2 (by omega) (by omega) (tri3_psz 3 (by omega)) w hw hp
  have e : numS (psum (termS tri3) tri3.length / 2) = [54] := by
    show numS (psum (termS tri3) 3 / 2) = [54]
    rw [tri3_area]
    decide +kernel
  rw [e] at h
  exact h

theorem inside_345 (p : Option Addr) (cap : Nat) (q : Pt) (hq : szP q 36) (v : Int) (hv : ((∃ k, k < 3 ∧ onS tri3 q k) ∧ v = 0) ∨ ((∀ k, k < 3 → ¬ onS tri3 q k) ∧ v = insI tri3 q 3)) (w : World) (hw : Wd w) (hp : RowPts p tri3 w) :
    Calls Tryz.prog 17 #[.slice p 3 cap, ptV q] w fun e w' => e = .returned (.tuple #[.int .i64 v, .int .i64 0]) ∧ Below w.heap.size w w' := by
  refine (inside_ok p cap tri3 q (by decide) (by decide) tri3_sz36 hq tri3_sides tri3_simple w hw hp).mono ?_
  rintro e w' ⟨r, rfl, h, hb⟩
  have : r = v := by
    rcases h with ⟨⟨k, hk, h1⟩, h2⟩ | ⟨h1, h2⟩ <;> rcases hv with ⟨⟨k', hk', h3⟩, h4⟩ | ⟨h3, h4⟩
    · rw [h2, h4]
    · exact absurd h1 (h3 k hk)
    · exact absurd h3 (h1 k' hk')
    · rw [h2, h4]; rfl
  exact ⟨by rw [this], hb⟩
theorem in_1 : ((∃ k, k < 3 ∧ onS tri3 ⟨2, 1⟩ k) ∧ (1 : Int) = 0) ∨ ((∀ k, k < 3 → ¬ onS tri3 ⟨2, 1⟩ k) ∧ (1 : Int) = insI tri3 ⟨2, 1⟩ 3) := by
  refine .inr ⟨fun k hk => ?_, by decide +kernel⟩
  unfold onS
  match k, hk with
  | 0, _ | 1, _ | 2, _ => decide +kernel
theorem in_0 : ((∃ k, k < 3 ∧ onS tri3 ⟨2, mkRat 3 2⟩ k) ∧ (0 : Int) = 0) ∨ ((∀ k, k < 3 → ¬ onS tri3 ⟨2, mkRat 3 2⟩ k) ∧ (0 : Int) = insI tri3 ⟨2, mkRat 3 2⟩ 3) := by
  refine .inl ⟨⟨2, by omega, ?_⟩, rfl⟩
  unfold onS
  decide +kernel
theorem in_m : ((∃ k, k < 3 ∧ onS tri3 ⟨1, 2⟩ k) ∧ (-1 : Int) = 0) ∨ ((∀ k, k < 3 → ¬ onS tri3 ⟨1, 2⟩ k) ∧ (-1 : Int) = insI tri3 ⟨1, 2⟩ 3) := by
  refine .inr ⟨fun k hk => ?_, by decide +kernel⟩
  unfold onS
  match k, hk with
  | 0, _ | 1, _ | 2, _ => decide +kernel
end Go.Proofs.YtapfekcbbhhieaaGreatDoor

namespace Go.Proofs.YtapfekcbbhhieaaGreatDoor
open Go.RowKit Go.Shelf Lib Str Limb Geo
attribute [local go_sem] Oper.semAt_some

set_option maxRecDepth 100000 in
set_option maxHeartbeats 1000000 in
/-- kingpostref04.Same on twice the surd 12. -/
theorem same_12 (g c h d : Nat) (w : World) (g0 : w.cell? ⟨g, 0, none⟩ = some (St [49, 50])) (g1 : w.cell? ⟨g, 1, none⟩ = some (.string ⟨#[49]⟩)) (h0 : w.cell? ⟨h, 0, none⟩ = some (.string ⟨#[49, 50]⟩)) (h1 : w.cell? ⟨h, 1, none⟩ = some (.string ⟨#[49]⟩)) :
    Calls Tryz.prog 18 #[.slice (some ⟨g, 0, none⟩) 1 c, .slice (some ⟨h, 0, none⟩) 1 d] w fun e w' => e = .returned (.bool true) ∧ Below w.heap.size w w' := by
  go_enter Tryz.func18, Tryz.ntmps18
  go_wp2_with fail
  refine wp_loop_rounds 2 ?_
  rw [rounds_succ]
  go_wp2_with fail
  go_quiet (fail)
  go_wp2_with fail
  rw [rounds_succ]
  go_wp2_with fail
  go_ret
  exact ⟨rfl, (Below.refl _ w).trans ⟨rfl, rfl, rfl, Nat.le_refl _, fun _ _ => rfl⟩⟩

theorem num_d : numS 0 = [48] ∧ numS 1 = [49] ∧ numS 2 = [50] ∧ numS 3 = [51] ∧ numS 4 = [52] ∧ numS (mkRat 3 2) = [51, 47, 50] := by
  refine ⟨?_, ?_, ?_, ?_, ?_, ?_⟩ <;> decide +kernel

theorem tri3_row (W : World) (t : TypeId) : RowPts (some ⟨W.heap.size, 0, none⟩) tri3 (W.alloc (.cells #[.string ⟨#[48]⟩, .string ⟨#[48]⟩, .string ⟨#[52]⟩, .string ⟨#[48]⟩, .string ⟨#[52]⟩, .string ⟨#[51]⟩] t)) := by
  have A := World.alloc_heap_new W (.cells #[.string ⟨#[48]⟩, .string ⟨#[48]⟩, .string ⟨#[52]⟩, .string ⟨#[48]⟩, .string ⟨#[52]⟩, .string ⟨#[51]⟩] t)
  obtain ⟨n0, n1, n2, n3, n4, _⟩ := num_d
  intro i hi
  refine ⟨_, _, rfl, ?_⟩
  match i, hi with
  | 0, _ => exact ⟨by show _ = some (St (numS 0)); rw [n0, Go.Joins.cell_of_block A]; rfl, by show _ = some (St (numS 0)); rw [n0, Go.Joins.cell_of_block A]; rfl⟩
  | 1, _ => exact ⟨by show _ = some (St (numS 4)); rw [n4, Go.Joins.cell_of_block A]; rfl, by show _ = some (St (numS 0)); rw [n0, Go.Joins.cell_of_block A]; rfl⟩
  | 2, _ => exact ⟨by show _ = some (St (numS 4)); rw [n4, Go.Joins.cell_of_block A]; rfl, by show _ = some (St (numS 3)); rw [n3, Go.Joins.cell_of_block A]; rfl⟩

theorem ptsz (a b : Rat) (ha : sz a 2) (hb : sz b 2) : szP ⟨a, b⟩ 36 := ⟨ha.mono (by omega), hb.mono (by omega)⟩

theorem inside_1 (p : Option Addr) (cap : Nat) (w : World) (hw : Wd w) (hp : RowPts p tri3 w) :
    Calls Tryz.prog 17 #[.slice p 3 cap, .agg #[.string ⟨#[50]⟩, .string ⟨#[49]⟩]] w fun e w' => e = .returned (.tuple #[.int .i64 1, .int .i64 0]) ∧ Below w.heap.size w w' := by
  have h := inside_345 p cap ⟨2, 1⟩ (ptsz _ _ (by unfold sz; decide +kernel) (by unfold sz; decide +kernel)) 1 in_1 w hw hp
  unfold ptV at h
  rw [show numS (⟨2, 1⟩ : Pt).x = [50] from num_d.2.2.1, show numS (⟨2, 1⟩ : Pt).y = [49] from num_d.2.1] at h
  exact h
theorem inside_0 (p : Option Addr) (cap : Nat) (w : World) (hw : Wd w) (hp : RowPts p tri3 w) :
    Calls Tryz.prog 17 #[.slice p 3 cap, .agg #[.string ⟨#[50]⟩, .string ⟨#[51, 47, 50]⟩]] w fun e w' => e = .returned (.tuple #[.int .i64 0, .int .i64 0]) ∧ Below w.heap.size w w' := by
  have h := inside_345 p cap ⟨2, mkRat 3 2⟩ (ptsz _ _ (by unfold sz; decide +kernel) (by unfold sz; decide +kernel)) 0 in_0 w hw hp
  unfold ptV at h
  rw [show numS (⟨2, mkRat 3 2⟩ : Pt).x = [50] from num_d.2.2.1, show numS (⟨2, mkRat 3 2⟩ : Pt).y = [51, 47, 50] from num_d.2.2.2.2.2] at h
  exact h
theorem inside_m (p : Option Addr) (cap : Nat) (w : World) (hw : Wd w) (hp : RowPts p tri3 w) :
    Calls Tryz.prog 17 #[.slice p 3 cap, .agg #[.string ⟨#[49]⟩, .string ⟨#[50]⟩]] w fun e w' => e = .returned (.tuple #[.int .i64 (-1), .int .i64 0]) ∧ Below w.heap.size w w' := by
  have h := inside_345 p cap ⟨1, 2⟩ (ptsz _ _ (by unfold sz; decide +kernel) (by unfold sz; decide +kernel)) (-1) in_m w hw hp
  unfold ptV at h
  rw [show numS (⟨1, 2⟩ : Pt).x = [49] from num_d.2.1, show numS (⟨1, 2⟩ : Pt).y = [50] from num_d.2.2.1] at h
  exact h

set_option maxRecDepth 100000 in
set_option maxHeartbeats 4000000 in
/-- kingpostlaw10.awake. -/
theorem awake_ok (w : World) (HW : Hid (∀ W, Below w.heap.size w W → Wd W ∧ Pw W)) :
    Calls Tryz.prog 6 #[] w fun e w' => e = .returned (.bool true) ∧ Below w.heap.size w w' := by
  obtain ⟨w1, hw1⟩ : ∃ w1, w1 = w.alloc (.cells #[.string ⟨#[48]⟩, .string ⟨#[48]⟩, .string ⟨#[52]⟩, .string ⟨#[48]⟩, .string ⟨#[52]⟩, .string ⟨#[51]⟩] 24) := ⟨_, rfl⟩
  have b1 : Below w.heap.size w w1 := by rw [hw1]; exact (Below.refl _ w).alloc (Nat.le_refl _) _
  have r1 : RowPts (some ⟨w.heap.size, 0, none⟩) tri3 w1 := by rw [hw1]; exact tri3_row w _
  have H1 := Lib.hid (⟨b1, r1⟩ : _ ∧ _)
  have HW1 := Lib.hid hw1; clear hw1 b1 r1
  go_enter Tryz.func6, Tryz.ntmps6
  go_wp2_with fail
  rw [← HW1.out]
  refine (area_345 _ 3 w1 (HW.out _ H1.out.1).1 H1.out.2).mono ?_
  rintro e w2 ⟨rfl, hb⟩
  have H2 := Lib.hid (⟨H1.out.1.trans (hb.mono H1.out.1.size), H1.out.2.keep (cellsKept_below hb)⟩ : Below w.heap.size w w2 ∧ RowPts (some ⟨w.heap.size, 0, none⟩) tri3 w2)
  clear hb H1 HW1
  go_wp2_with fail
  refine (per_345 _ 3 w2 (Lib.hid fun W h => HW.out W (H2.out.1.trans (h.mono H2.out.1.size))) (Lib.hid H2.out.2)).mono ?_
  rintro e w3 ⟨g, c, rfl, hb, hg, g0, g1⟩
  have H3 := Lib.hid (⟨H2.out.1.trans (hb.mono H2.out.1.size), H2.out.2.keep (cellsKept_below hb), g0, g1⟩ : Below w.heap.size w w3 ∧ RowPts (some ⟨w.heap.size, 0, none⟩) tri3 w3 ∧ w3.cell? ⟨g, 0, none⟩ = some (St [49, 50]) ∧ w3.cell? ⟨g, 1, none⟩ = some (.string ⟨#[49]⟩))
  clear hb H2 g0 g1 hg
  go_wp2_with fail
  refine (inside_1 _ 3 w3 (HW.out _ H3.out.1).1 H3.out.2.1).mono ?_
  rintro e w4 ⟨rfl, hb⟩
  have H4 := Lib.hid (⟨H3.out.1.trans (hb.mono H3.out.1.size), H3.out.2.1.keep (cellsKept_below hb), below_cell hb H3.out.2.2.1, below_cell hb H3.out.2.2.2⟩ : Below w.heap.size w w4 ∧ RowPts (some ⟨w.heap.size, 0, none⟩) tri3 w4 ∧ w4.cell? ⟨g, 0, none⟩ = some (St [49, 50]) ∧ w4.cell? ⟨g, 1, none⟩ = some (.string ⟨#[49]⟩))
  clear hb H3
  go_wp2_with fail
  refine (inside_0 _ 3 w4 (HW.out _ H4.out.1).1 H4.out.2.1).mono ?_
  rintro e w5 ⟨rfl, hb⟩
  have H5 := Lib.hid (⟨H4.out.1.trans (hb.mono H4.out.1.size), H4.out.2.1.keep (cellsKept_below hb), below_cell hb H4.out.2.2.1, below_cell hb H4.out.2.2.2⟩ : Below w.heap.size w w5 ∧ RowPts (some ⟨w.heap.size, 0, none⟩) tri3 w5 ∧ w5.cell? ⟨g, 0, none⟩ = some (St [49, 50]) ∧ w5.cell? ⟨g, 1, none⟩ = some (.string ⟨#[49]⟩))
  clear hb H4
  go_wp2_with fail
  refine (inside_m _ 3 w5 (HW.out _ H5.out.1).1 H5.out.2.1).mono ?_
  rintro e w6 ⟨rfl, hb⟩
  have H6 := Lib.hid (⟨H5.out.1.trans (hb.mono H5.out.1.size), below_cell hb H5.out.2.2.1, below_cell hb H5.out.2.2.2⟩ : Below w.heap.size w w6 ∧ w6.cell? ⟨g, 0, none⟩ = some (St [49, 50]) ∧ w6.cell? ⟨g, 1, none⟩ = some (.string ⟨#[49]⟩))
  clear hb H5
  obtain ⟨w7, hw7⟩ : ∃ w7, w7 = w6.alloc (.cells #[.string ⟨#[49, 50]⟩, .string ⟨#[49]⟩] 49) := ⟨_, rfl⟩
  have b7 : Below w6.heap.size w6 w7 := by rw [hw7]; exact (Below.refl _ w6).alloc (Nat.le_refl _) _
  have A7 : w7.heap[w6.heap.size]? = some (.cells #[.string ⟨#[49, 50]⟩, .string ⟨#[49]⟩] 49 (0, 0)) := by rw [hw7]; exact World.alloc_heap_new w6 _
  have S := Lib.hid (same_12 g c w6.heap.size 1 w7 (below_cell b7 H6.out.2.1) (below_cell b7 H6.out.2.2) (by rw [Go.Joins.cell_of_block A7]; rfl) (by rw [Go.Joins.cell_of_block A7]; rfl))
  have B7 := Lib.hid (H6.out.1.trans (b7.mono H6.out.1.size))
  have HW7 := Lib.hid hw7; clear hw7 b7 A7 H6
  go_wp2_with fail
  rw [← HW7.out]
  refine S.out.mono ?_
  rintro e w8 ⟨rfl, hb8⟩
  have B8 := Lib.hid (B7.out.trans (hb8.mono B7.out.size)); clear hb8
  go_wp2_with fail
  go_ret
  exact ⟨rfl, B8.out⟩
end Go.Proofs.YtapfekcbbhhieaaGreatDoor

namespace Go.Proofs.YtapfekcbbhhieaaGreatDoor
open Go.RowKit Go.Shelf Lib Str Limb
open Go.ChangeShapes Go.WideShapes Go.ChangeAt

set_option maxRecDepth 100000 in
theorem polygonSegments_lifted (os : Os) (started : os.Started) (H : Type) (enc : TypeId × Value → H) :
    ReturnsInHanded {} Tryz.checked os 4 .any (fun w args => (Rows.polygonSegmentsSpec.pre enc Tryz.prog Tryz.f4 [] false w args ∧ laidMetH Tryz.prog Rows.polygonSegmentsRow.laid w) ∧ sizedMet enc Tryz.prog Tryz.f4 (OpenSpec.ofChange Rows.polygonSegmentsSpec) false w args)
      (Rows.polygonSegmentsSpec.post enc Tryz.prog Tryz.f4 false true false false) := by
  refine returns_laid_shaped (C := Tryz.checked) (X := fun w _ => laidMetH Tryz.prog Rows.polygonSegmentsRow.laid w) (fun _ _ _ hh h => h.of_heap hh) own_knob started (by kernel_rfl) Tryz.func4
    (ChangeSpec.witness_shaped (enc := enc) (C := Tryz.checked) (os := os) (X := fun w _ => laidMetH Tryz.prog Rows.polygonSegmentsRow.laid w) false (World.laidAll Tryz.prog os Rows.polygonSegmentsRow.laid)
      #[.agg #[.string ⟨#[]⟩, .string ⟨#[]⟩], .agg #[.string ⟨#[]⟩, .string ⟨#[]⟩], .agg #[.string ⟨#[]⟩, .string ⟨#[]⟩], .agg #[.string ⟨#[]⟩, .string ⟨#[]⟩]] 8 (World.laidAll_os _ _ _)
      (World.shaped_of_ZipB (by kernel_rfl) (by kernel_rfl)) (by kernel_rfl) (by kernel_rfl) (by kernel_rfl)
      (by rw [MakeChecks.laidMetH_plain _ _ _ (by kernel_rfl)]; exact laidMet_laidAll _ (by kernel_rfl) (by kernel_rfl))) ?_
  intro W args ds gs before base hval0 hW hL hsh
  have hval : ∀ (j : Nat) t v, Tryz.f4.params[j]? = some t → args[j]? = some v → Value.okWide Tryz.prog W .any base t v := hval0
  have hW' := hW
  obtain ⟨p, q, hA0, hV, rfl, _, _⟩ := hW
  have hA : DataW.TrodAll enc Tryz.prog W 0 (fun _ => true) true Tryz.f4.params.toList args.toList ds p := hA0
  rw [Tryz.params4] at hA hval
  obtain ⟨v0, v1, v2, v3, d0, d1, d2, d3, p0, p1, p2, p3, rfl, rfl, rfl, h0, h1, h2, h3⟩ := trodAll_four hA
  obtain ⟨rfl, rfl⟩ := trodVars_none hV
  obtain ⟨x1, y1, rfl, rfl⟩ := point_open (hval 0 24 v0 rfl rfl) h0
  obtain ⟨x2, y2, rfl, rfl⟩ := point_open (hval 1 24 v1 rfl rfl) h1
  obtain ⟨x3, y3, rfl, rfl⟩ := point_open (hval 2 24 v2 rfl rfl) h2
  obtain ⟨x4, y4, rfl, rfl⟩ := point_open (hval 3 24 v3 rfl rfl) h3
  simp only [List.append_nil] at hW'
  have hM : laidMet Tryz.prog Rows.polygonSegmentsRow.laid W := by rw [← MakeChecks.laidMetH_plain _ _ _ (by kernel_rfl)]; exact hL
  have hwd : Wd W := wd_of hM (.tail _ (.tail _ (.head _))) hsh
  have hpw : Pw W := pw_of hM (.tail _ (.tail _ (.tail _ (.tail _ (.tail _ (.tail _ (.head _)))))))
  refine (segs_law x1 y1 x2 y2 x3 y3 x4 y4 W (Lib.hid fun X hX => awake_ok X (Lib.hid fun Y hY => ⟨hwd.below (hX.trans (hY.mono hX.size)), hpw.below (hX.trans (hY.mono hX.size))⟩)) hwd).mono fun e W' ⟨he, hb⟩ => ?_
  subst he
  have k := fun {v : Value} {d : DataW H} (h : DataW.Trod enc Tryz.prog W 0 (fun _ => true) true 24 v d []) => Below.trod laid_out (by kernel_rfl) (of_decide_eq_true (by kernel_rfl)) h hb (fun _ h => by cases h)
  exact ⟨_, rfl, _, _, _, [], [], [], hW', trodAll_mk1 (shut_bool Tryz.underlying4 _), trodAll_mk4 (k h0) (k h1) (k h2) (k h3), rfl, hb.frame _, fun h => by cases h⟩

theorem polygonSegments_row : Rows.PolygonSegmentsSaid :=
  OpenClaim.holds_of_wide 4 Tryz.f4 rfl rfl rfl rfl rfl rfl rfl ⟨rfl, rfl, rfl, rfl, rfl⟩ rfl rfl rfl rfl rfl (by kernel_rfl) Tryz.func4 (by kernel_rfl)
    (of_decide_eq_true (by kernel_rfl)) (by unfold Func.isWrapper; first | (rw [if_pos (by decide +kernel)]; kernel_rfl) | (rw [if_neg (by decide +kernel)]; exact ⟨rfl, rfl⟩))
    (fun os started H enc _ => polygonSegments_lifted os started H enc)
end Go.Proofs.YtapfekcbbhhieaaGreatDoor
