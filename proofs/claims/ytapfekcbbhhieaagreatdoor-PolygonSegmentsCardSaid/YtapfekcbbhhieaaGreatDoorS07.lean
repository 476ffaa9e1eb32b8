/-
  integer.divide.
  Numerals as limbs: the plain laws of reading and of writing. Plain Lean: no program stands in this text.
  integer.Check, both, small, at numerals.
-/
import Derived.Test.YtapfekcbbhhieaaGreatDoorS06
import Derived.Test.YtapfekcbbhhieaaGreatDoorS02
namespace Go.Proofs.YtapfekcbbhhieaaGreatDoor
open Go.RowKit Go.Shelf Lib Str Limb
attribute [local go_sem] Oper.semAt_some

/-- Two slices that read as the limbs of two numbers. -/
def TwoLimbs (w : World) (x y : Nat) (e : Ending) (w' : World) : Prop :=
  ∃ v1 v2, e = .returned (.tuple #[v1, v2]) ∧ Sl w' v1 ((limbs B9 x).map I) ∧ Sl w' v2 ((limbs B9 y).map I) ∧ Below w.heap.size w w'

set_option maxRecDepth 100000 in
set_option maxHeartbeats 1000000 in
theorem divide_less (va vb : Value) (m n : Nat) (w : World) (ha : Sl w va ((limbs B9 m).map I)) (hb : Sl w vb ((limbs B9 n).map I)) (la : (limbs B9 m).length ≤ 1000) (lb : (limbs B9 n).length ≤ 1000) (h : m < n) :
    Calls Tryz.prog 91 #[va, vb] w (TwoLimbs w (m / n) (m % n)) := by
  obtain ⟨pa, ca, rfl, -⟩ := id ha
  obtain ⟨pb, cb, rfl, -⟩ := id hb
  have HA := Lib.hid ha; clear ha
  have HB := Lib.hid hb; clear hb
  simp only [List.length_map] at *
  refine (callsIn_wide (n := 3)).1 ?_
  refine callsIn_of_wp_marks Tryz.func91 rfl trivial ?_ rfl
  simp only [Tryz.ntmps91, List.size_toArray, List.length_cons, List.length_nil, Nat.reduceAdd, Nat.reduceSub, Array.replicate_succ, Array.replicate_zero, List.push_toArray, List.append_toArray, List.nil_append, List.cons_append]
  have hcmp := fun W h1 h2 => cmp_any (.slice pa (limbs B9 m).length ca) (.slice pb (limbs B9 n).length cb) m n W h1 h2 la lb
  have HC := Lib.hid hcmp; clear hcmp
  gi_wp2_with (refine ⟨trivial, ?_⟩; gi_at_call 104; refine (callsIn_wide.2 (HC.out _ (HA.out.below ?c1) (HB.out.below ?c2))).mono ?_)
  case c1 => exact (Below.refl _ _).alloc (Nat.le_refl _) _
  case c2 => exact (Below.refl _ _).alloc (Nat.le_refl _) _
  rintro e w1 ⟨c, rfl, ⟨hc1, hc2⟩, hB1⟩
  have hcn : c < 0 := hc1.2 h
  have HLT := Lib.hid h
  clear hc1 hc2 h
  rw [World.size_alloc] at hB1
  have bQ : Boxed w1 w.heap.size 93 (.slice none 0 0) := (hB1.block _ (by omega)).trans (Boxed.new w 93 (.slice none 0 0))
  have hB : Below w.heap.size w w1 := ((Below.refl _ w).alloc (Nat.le_refl _) _).trans (hB1.mono (by omega))
  have hq := bQ.cell
  have hqf := bQ.frozen
  clear hB1
  gi_wp2
  have hq2 := cell_eq (u := .slice none 0 0) hq
  exact ⟨.tuple #[.slice none 0 0, .slice pa (limbs B9 m).length ca], by simp [results, Tryz.f91, go_sem, hq2], _, _, rfl, by rw [Nat.div_eq_of_lt HLT.out, limbs_zero]; exact Sl.nil _, by
    have hB2 := hB.setCell (p := ⟨w.heap.size, 0, none⟩) (by simp) (.slice none 0 0)
    rw [Nat.mod_eq_of_lt HLT.out]; exact HA.out.below hB2, hB.setCell (p := ⟨w.heap.size, 0, none⟩) (by simp) _⟩

theorem Sl.box {w : World} {v : Value} {l : List Nat} {b n c : Nat} {s : Option Addr} (h : Sl w v (l.map I)) (hb : w.cell? ⟨b, 0, none⟩ = some (.slice s n c)) (u : Value) : Sl (w.setCell ⟨b, 0, none⟩ u) v (l.map I) := by
  obtain ⟨p, cap, e, hcap, hc⟩ := h
  refine ⟨p, cap, e, hcap, fun i x hx => ?_⟩
  obtain ⟨b', off, ep, h'⟩ := hc i x hx
  refine ⟨b', off, ep, ?_⟩
  rw [World.cell?_setCell_other]
  · exact h'
  · intro e
    rw [← e, hb] at h'
    cases h'
    rw [List.getElem?_map] at hx
    cases hl : l[i]? with
    | none => rw [hl] at hx; cases hx
    | some y => rw [hl] at hx; cases hx

theorem limbs_first {n d : Nat} (h : (limbs B9 n).length = 1) (hd : d = (limbs B9 n)[0]?.getD 0) : d = n ∧ 0 < d ∧ d < B9 := by
  have h1 := limbs_val (B := B9) (by decide) n
  have h2 := limbs_small (B := B9) (by decide) n
  have h3 : n ≠ 0 := fun e => by rw [(limbs_nil_iff (B := B9) (by decide) n).2 e] at h; cases h
  generalize limbs B9 n = l at *
  match l, h with
  | [x], _ =>
    have : x < B9 := h2 x (by simp)
    simp [valL] at h1 hd
    omega

set_option maxRecDepth 100000 in
set_option maxHeartbeats 1000000 in
theorem divide_one (va vb : Value) (m n : Nat) (w : World) (ha : Sl w va ((limbs B9 m).map I)) (hb : Sl w vb ((limbs B9 n).map I)) (la : (limbs B9 m).length ≤ 1000) (lb : (limbs B9 n).length = 1) (h : n ≤ m) :
    Calls Tryz.prog 91 #[va, vb] w (TwoLimbs w (m / n) (m % n)) := by
  obtain ⟨pa, ca, rfl, -⟩ := id ha
  obtain ⟨pb, cb, rfl, -⟩ := id hb
  have HA := Lib.hid ha; clear ha
  have HB := Lib.hid hb
  simp only [List.length_map] at *
  rw [lb]
  have hcmp := fun W h1 h2 => cmp_any (.slice pa (limbs B9 m).length ca) (.slice pb (limbs B9 n).length cb) m n W h1 h2 la (by omega)
  rw [lb] at hb HB hcmp
  have HC := Lib.hid hcmp; clear hcmp
  obtain ⟨d, hd⟩ : ∃ d, d = (limbs B9 n)[0]?.getD 0 := ⟨_, rfl⟩
  obtain ⟨d1, d2, d3⟩ := limbs_first lb hd
  have hb2 : Sl w (.slice pb (limbs B9 n).length cb) ((limbs B9 n).map I) := by rw [lb]; exact hb
  obtain ⟨bb, offb, rfl, hbb, hcapb, hcell⟩ := hb2.at (i := 0) (by omega)
  rw [← hd, Nat.add_zero] at hcell
  rw [lb] at hcapb
  have hsh := fun W h1 => short_any (.slice pa (limbs B9 m).length ca) (limbs B9 m) d W h1 la (limbs_small (by decide) m) d2 d3
  rw [limbs_val (by decide), d1] at hsh
  rw [d1] at hcell
  have HSH := Lib.hid hsh; clear hsh hb2 hb hd d1 d2 d3 lb
  refine (callsIn_wide (n := 3)).1 ?_
  refine callsIn_of_wp_marks Tryz.func91 rfl trivial ?_ rfl
  simp only [Tryz.ntmps91, List.size_toArray, List.length_cons, List.length_nil, Nat.reduceAdd, Nat.reduceSub, Array.replicate_succ, Array.replicate_zero, List.push_toArray, List.append_toArray, List.nil_append, List.cons_append]
  gi_wp2_with (refine ⟨trivial, ?_⟩; gi_at_call 104; refine (callsIn_wide.2 (HC.out _ (HA.out.below ?c1) (HB.out.below ?c2))).mono ?_)
  case c1 => exact (Below.refl _ _).alloc (Nat.le_refl _) _
  case c2 => exact (Below.refl _ _).alloc (Nat.le_refl _) _
  rintro e w1 ⟨c, rfl, ⟨hc1, hc2⟩, hB1⟩
  have hcn : ¬ c < 0 := fun k => by have := hc1.1 k; omega
  clear hc1 hc2 h
  rw [World.size_alloc] at hB1
  have bQ : Boxed w1 w.heap.size 93 (.slice none 0 0) := (hB1.block _ (by omega)).trans (Boxed.new w 93 (.slice none 0 0))
  have hB : Below w.heap.size w w1 := ((Below.refl _ w).alloc (Nat.le_refl _) _).trans (hB1.mono (by omega))
  have hcell1 := hcell
  rw [← hB.cell (p := ⟨bb, offb, none⟩) hbb] at hcell1
  clear hB1 hcell
  have hslA := HA.out.below hB
  gi_wp2_with (refine ⟨trivial, ?_⟩; gi_at_call 130; refine (callsIn_wide.2 (HSH.out _ hslA)).mono ?_)
  clear hslA
  rintro e w2 ⟨v1, v2, rfl, hs1, hs2, hB2⟩
  obtain ⟨p1, c1, e1, -⟩ := id hs1
  obtain ⟨p2, c2, e2, -⟩ := id hs2
  generalize (List.map I (limbs B9 (m / n))).length = n1 at e1
  generalize (List.map I (limbs B9 (m % n))).length = n2 at e2
  subst e1 e2
  have bQ2 : Boxed w2 w.heap.size 93 (.slice none 0 0) := (hB2.block _ (Boxed.lt bQ)).trans bQ
  have hq := bQ2.cell
  have hqf := bQ2.frozen
  have hBB := hB.trans (hB2.mono hB.size)
  have l1 := Boxed.lt bQ
  clear hB2 bQ hcell1
  have HS1 := Lib.hid hs1; clear hs1
  have HS2 := Lib.hid hs2; clear hs2
  gi_wp2
  have hq2 := cell_eq (u := .slice p1 n1 c1) hq
  have hB3 := hBB.setCell (p := ⟨w.heap.size, 0, none⟩) (by simp) (.slice p1 n1 c1)
  exact ⟨.tuple #[.slice p1 n1 c1, .slice p2 n2 c2], by simp [results, Tryz.f91, go_sem, hq2], _, _, rfl, HS1.out.box hq _, HS2.out.box hq _, hB3⟩
/-! ### The long way -/

theorem limbs_mono {B : Nat} (hB : 2 ≤ B) {m n : Nat} (h : m ≤ n) : (limbs B m).length ≤ (limbs B n).length := by
  rcases Nat.lt_or_ge (limbs B n).length (limbs B m).length with h' | h'
  · have := limbs_len_lt_of hB h'; omega
  · exact h'

/-- The division as it begins. -/
theorem div_begin {B U V : Nat} (hB : 2 ≤ B) (h0 : 0 < V) (h : V ≤ U) :
    DivAt B (limbs B U ++ [0]) (limbs B V) ((limbs B U).length + 1 - (limbs B V).length) ((limbs B U).length + 1 - (limbs B V).length) (limbs B U ++ [0]) (List.replicate ((limbs B U).length + 1 - (limbs B V).length) 0) := by
  have hl := limbs_mono hB h
  have hv : 0 < (limbs B V).length := by
    rcases Nat.eq_zero_or_pos (limbs B V).length with e | e
    · have := (limbs_nil_iff hB V).1 (List.length_eq_zero_iff.1 e); omega
    · exact e
  refine ⟨rfl, small_snoc (limbs_small hB U) (by omega), by simp, fun x hx => by rw [List.mem_replicate] at hx; omega, ?_, ?_, fun i _ => by rw [List.getElem?_replicate]; split <;> rfl⟩
  · rw [valL_replicate, Nat.mul_zero, Nat.add_zero]
  · rw [limbs_val hB V, List.drop_append_of_le_length (by omega), valL_snoc, Nat.mul_zero, Nat.add_zero]
    have h1 := valL_lt (small_drop (limbs_small hB U) ((limbs B U).length + 1 - (limbs B V).length))
    rw [List.length_drop, show (limbs B U).length - ((limbs B U).length + 1 - (limbs B V).length) = (limbs B V).length - 1 by omega] at h1
    exact Nat.lt_of_lt_of_le h1 (limbs_ge hB (by omega))

theorem box_ne {W : World} {b g cap : Nat} {v : Value} {l : List Nat} (hb : Boxed W b 93 v) (hr : Row W g cap l) : b ≠ g := by
  rintro rfl
  obtain ⟨cur, h, _⟩ := hr
  unfold Boxed at hb
  rw [hb] at h
  simp at h

theorem CellsKept.boxed {W W' : World} (h : CellsKept W W') {b : Nat} {t : TypeId} {v : Value} (hb : Boxed W b t v) : Boxed W' b t v := h _ _ _ _ hb

/-- The world while the quotient is made: the lists u, Q and v. -/
structure DivW (w : World) (bs b4 b7 b8 g cap gq gv kv U V M : Nat) (v u Q : List Nat) (W : World) : Prop where
  bu : Boxed W b7 93 (.slice (some ⟨g, 0, none⟩) U cap)
  bv : Boxed W b8 93 (.slice (some ⟨gv, 0, none⟩) V kv)
  bq : Boxed W b4 93 (.slice (some ⟨gq, 0, none⟩) M M)
  bb : Boxed W bs 93 (.slice (some ⟨gq, 0, none⟩) M M)
  ru : Row W g cap u
  rq : Row W gq M Q
  rv : Row W gv kv v
  below : Below w.heap.size w W

section
variable {w : World} {bs b4 b7 b8 g cap gq gv kv U V M : Nat} {v u Q : List Nat} {W W' : World}
theorem DivW.kept (h : DivW w bs b4 b7 b8 g cap gq gv kv U V M v u Q W) (hk : CellsKept W W') (hb : Below w.heap.size W W') : DivW w bs b4 b7 b8 g cap gq gv kv U V M v u Q W' :=
  ⟨hk.boxed h.bu, hk.boxed h.bv, hk.boxed h.bq, hk.boxed h.bb, hk.row h.ru, hk.row h.rq, hk.row h.rv, h.below.trans hb⟩
theorem DivW.grow (h : DivW w bs b4 b7 b8 g cap gq gv kv U V M v u Q W) (hb : Below W.heap.size W W') : DivW w bs b4 b7 b8 g cap gq gv kv U V M v u Q W' :=
  h.kept (cellsKept_below hb) (hb.mono h.below.size)
theorem DivW.only (h : DivW w bs b4 b7 b8 g cap gq gv kv U V M v u Q W) {u' : List Nat} (ho : Only g W W') (hr : Row W' g cap u') (h1 : g ≠ gq) (h2 : g ≠ gv) (h3 : w.heap.size ≤ g) : DivW w bs b4 b7 b8 g cap gq gv kv U V M v u' Q W' :=
  ⟨(ho.block _ (Boxed.lt h.bu) (box_ne h.bu h.ru)).trans h.bu, (ho.block _ (Boxed.lt h.bv) (box_ne h.bv h.ru)).trans h.bv, (ho.block _ (Boxed.lt h.bq) (box_ne h.bq h.ru)).trans h.bq, (ho.block _ (Boxed.lt h.bb) (box_ne h.bb h.ru)).trans h.bb,
    hr, ho.row h.rq h1.symm, ho.row h.rv h2.symm, Only.below h.below (Nat.le_refl _) h3 ho⟩
theorem DivW.setQ (h : DivW w bs b4 b7 b8 g cap gq gv kv U V M v u Q W) (j q : Nat) (h1 : g ≠ gq) (h2 : gv ≠ gq) (h3 : w.heap.size ≤ gq) : DivW w bs b4 b7 b8 g cap gq gv kv U V M v u (Q.set j q) (W.setCell ⟨gq, j, none⟩ (I q)) :=
  ⟨(Below.heap_setCell W ⟨gq, j, none⟩ (I q) b7 (box_ne h.bu h.rq)).trans h.bu, (Below.heap_setCell W ⟨gq, j, none⟩ (I q) b8 (box_ne h.bv h.rq)).trans h.bv, (Below.heap_setCell W ⟨gq, j, none⟩ (I q) b4 (box_ne h.bq h.rq)).trans h.bq, (Below.heap_setCell W ⟨gq, j, none⟩ (I q) bs (box_ne h.bb h.rq)).trans h.bb,
    h.ru.other (by exact h1) _, h.rq.set j q, h.rv.other (by exact h2) _, h.below.setCell (p := ⟨gq, j, none⟩) h3 _⟩
theorem DivW.setU (h : DivW w bs b4 b7 b8 g cap gq gv kv U V M v u Q W) (h1 : b7 ≠ b8) (h2 : b7 ≠ b4) (h3 : b7 ≠ bs) (h4 : w.heap.size ≤ b7) : DivW w bs b4 b7 b8 g cap gq gv kv U V M v u Q (W.setCell ⟨b7, 0, none⟩ (.slice (some ⟨g, 0, none⟩) U cap)) :=
  ⟨by have := h.bu; unfold Boxed at *; simp [World.setCell, Array.getElem?_modify, this], h.bv.other h1.symm _, h.bq.other h2.symm _, h.bb.other h3.symm _,
    h.ru.other (by exact (box_ne h.bu h.ru).symm) _, h.rq.other (by exact (box_ne h.bu h.rq).symm) _, h.rv.other (by exact (box_ne h.bu h.rv).symm) _, h.below.setCell (p := ⟨b7, 0, none⟩) h4 _⟩
end

theorem keeps_of_only {g cap : Nat} {W W' : World} {l : List Nat} (h : Only g W W') (hr : Row W g cap l) (B : Nat) : KeepsFrom B W W' :=
  ⟨h.size, fun k o _ hk ho => by
    refine (h.block k (Array.getElem?_eq_some_iff.1 hk).1 fun e => ?_).trans hk
    obtain ⟨cur, hg, _⟩ := hr
    rw [e, hg] at hk; cases hk; cases ho⟩

theorem own_row {w : World} {base n : Nat} {v : Value} {l : List Nat} (h : w.ownsRow base 3 1 v n (l.map I)) (hn : 0 < n) : ∃ g cap, v = .slice (some ⟨g, 0, none⟩) n cap ∧ base ≤ g ∧ Row w g cap l ∧ l.length = n := by
  have h' := h
  obtain ⟨hl, h⟩ := h
  rcases h with ⟨rfl, e⟩ | ⟨g, cap, cur, rfl, hb, -⟩
  · rw [e] at hl; simp at hl; omega
  · obtain ⟨h1, h2⟩ := Row.of_own h'
    exact ⟨g, cap, rfl, hb, h1, h2⟩

theorem sl_one (W : World) (r o : Nat) (ho : o = W.heap.size) : Sl (W.alloc (.cells #[I r] 3)) (.slice (some ⟨o, 0, none⟩) 1 1) ([r].map I) :=
  ho ▸ Sl.mk (b := W.heap.size) (off := 0) (cap := 1) (xs := [I r]) (Nat.le_refl _) (fun i x hx => by
    match i, hx with
    | 0, hx => simp at hx; subst hx; simp)

theorem times_row (va vb : Value) (a b : List Nat) (p : Nat) (w : World) (ha : Sl w va (a.map I)) (hb : Sl w vb (b.map I)) (sa : small B9 a) (sb : small B9 b) (la : a.length ≤ 1000) (lb : b.length ≤ 1000) (hp : valL B9 a * valL B9 b = p) (h0 : p ≠ 0) :
    Calls Tryz.prog 62 #[va, vb] w (fun e w' => ∃ g cap, e = .returned (.slice (some ⟨g, 0, none⟩) (limbs B9 p).length cap) ∧ w.heap.size ≤ g ∧ Row w' g cap (limbs B9 p) ∧ Below w.heap.size w w') := by
  refine (times_any va vb a b w ha hb sa sb la lb).mono ?_
  rintro e w' ⟨v, rfl, hown, hB⟩
  rw [times_trim (by decide) sa sb, hp] at hown
  have hn : 0 < (limbs B9 p).length := by
    rcases Nat.eq_zero_or_pos (limbs B9 p).length with e | e
    · exact absurd ((limbs_nil_iff (by decide) p).1 (List.length_eq_zero_iff.1 e)) h0
    · exact e
  obtain ⟨g, cap, rfl, h1, h2, _⟩ := own_row hown hn
  exact ⟨g, cap, rfl, h1, h2, hB⟩

theorem news_zero (w : World) (t : TypeId) : ∀ (j : Nat) (u : Value), [I 0][j]? = some u → (w.alloc (.cells #[.int .i64 0] t)).cell? ((⟨w.heap.size, 0, none⟩ : Addr).add j) = some u := news_one w (.int .i64 0) t

theorem fac_val (top f : Nat) (hf : f = B9 / (top + 1)) : Value.int .i64 (1000000000 / ((top : Int) + 1)) = I f := by
  subst hf; simp [I, B9]
theorem fac_small (top f : Nat) (hf : f = B9 / (top + 1)) (h : 1 ≤ top) : small B9 [f] := by
  intro x hx
  simp at hx; subst hx; subst hf
  have : B9 / (top + 1) ≤ B9 / 2 := Nat.div_le_div_left (by omega) (by omega)
  unfold B9 at *; omega

theorem limbs_mul_len {m f : Nat} (h : f < B9) : (limbs B9 (m * f)).length ≤ (limbs B9 m).length + 1 := by
  refine limbs_len_le (by decide) ?_
  rw [Nat.pow_succ]
  exact Nat.mul_lt_mul'' (limbs_lt (by decide) m) h

theorem hml0 {m n f : Nat} (h : 1 ≤ f) : m * f / (n * f) = m / n ∧ m * f % (n * f) = m % n * f :=
  ⟨Nat.mul_div_mul_right _ _ (by omega), Nat.mul_mod_mul_right _ _ _⟩

set_option maxRecDepth 100000 in
set_option maxHeartbeats 2000000 in
theorem divide_long (va vb : Value) (m n : Nat) (w : World) (ha : Sl w va ((limbs B9 m).map I)) (hb : Sl w vb ((limbs B9 n).map I)) (la : (limbs B9 m).length ≤ 900) (lb : (limbs B9 n).length ≤ 900) (l2 : 2 ≤ (limbs B9 n).length) (h : n ≤ m) :
    Calls Tryz.prog 91 #[va, vb] w (TwoLimbs w (m / n) (m % n)) := by
  obtain ⟨pa, ca, rfl, -⟩ := id ha
  obtain ⟨pb, cb, rfl, -⟩ := id hb
  have HA := Lib.hid ha; clear ha
  have HB := Lib.hid hb
  simp only [List.length_map] at *
  have hcmp := fun W h1 h2 => cmp_any (.slice pa (limbs B9 m).length ca) (.slice pb (limbs B9 n).length cb) m n W h1 h2 (by omega) (by omega)
  have HC := Lib.hid hcmp; clear hcmp
  obtain ⟨top, htop⟩ : ∃ d, d = (limbs B9 n)[(limbs B9 n).length - 1]?.getD 0 := ⟨_, rfl⟩
  obtain ⟨bb, offb, rfl, hbb, hcapb, hcell⟩ := hb.at (i := (limbs B9 n).length - 1) (by omega)
  have htlt : top < B9 := by rw [htop]; exact small_getD (limbs_small (by decide) n) (by decide) _
  rw [← htop] at hcell
  have HTOP := Lib.hid htop; clear htop hb
  obtain ⟨i0, hi, hz0, hz1, hz2⟩ := info_parts infoInt
  obtain ⟨f, hf⟩ : ∃ f, f = B9 / (top + 1) := ⟨_, rfl⟩
  have hf1 : 1 ≤ f := by rw [hf, Nat.le_div_iff_mul_le (by omega)]; omega
  obtain ⟨lm, hlm⟩ : ∃ k, k = (limbs B9 m).length := ⟨_, rfl⟩
  obtain ⟨ln, hln⟩ : ∃ k, k = (limbs B9 n).length := ⟨_, rfl⟩
  rw [← hln] at l2 lb hcapb hcell HB HC ⊢
  rw [← hlm] at la HA HC ⊢
  have HLM := Lib.hid hlm; clear hlm
  have HLN := Lib.hid hln; clear hln
  have HF := Lib.hid hf; clear hf
  have hlt2 : ((ln : Int) == 1) = false := by rw [beq_eq_false_iff_ne]; omega
  have tt : top < 1000000000 := htlt
  have e1 : ((ln : Int) - 1).toNat = ln - 1 := by omega
  refine (callsIn_wide (n := 3)).1 ?_
  refine callsIn_of_wp_marks Tryz.func91 rfl trivial ?_ rfl
  simp only [Tryz.ntmps91, List.size_toArray, List.length_cons, List.length_nil, Nat.reduceAdd, Nat.reduceSub, Array.replicate_succ, Array.replicate_zero, List.push_toArray, List.append_toArray, List.nil_append, List.cons_append]
  gi_wp2_with (refine ⟨trivial, ?_⟩; gi_at_call 104; refine (callsIn_wide.2 (HC.out _ (HA.out.below ?c1) (HB.out.below ?c2))).mono ?_)
  case c1 => exact (Below.refl _ _).alloc (Nat.le_refl _) _
  case c2 => exact (Below.refl _ _).alloc (Nat.le_refl _) _
  rintro e w1 ⟨c, rfl, ⟨hc1, hc2⟩, hB1⟩
  have hcn : ¬ c < 0 := fun k => by have := hc1.1 k; omega
  have HLE := Lib.hid h
  clear hc1 hc2 h
  rw [World.size_alloc] at hB1
  have bQ : Boxed w1 w.heap.size 93 (.slice none 0 0) := (hB1.block _ (by omega)).trans (Boxed.new w 93 (.slice none 0 0))
  have hB : Below w.heap.size w w1 := ((Below.refl _ w).alloc (Nat.le_refl _) _).trans (hB1.mono (by omega))
  have hcell1 := hcell
  rw [← hB.cell (p := ⟨bb, offb + (ln - 1), none⟩) hbb] at hcell1
  clear hB1 hcell
  have HT := Lib.hid htlt; clear htlt
  have htop1 : 1 ≤ top := by
    have := HTOP.out
    rcases limbs_last (B := B9) (by decide) n with e | ⟨i, x, e, hx⟩
    · have := HLN.out; rw [e] at this; simp at this; omega
    · rw [e] at this; simp at this; omega
  have hm0 : m * f ≠ 0 := by
    have := HLE.out
    have h2 := HLN.out
    have : n ≠ 0 := fun e => by rw [e, limbs_zero] at h2; simp at h2; omega
    exact Nat.mul_ne_zero (by omega) (by omega)
  have hn0 : n * f ≠ 0 := by
    have h2 := HLN.out
    have : n ≠ 0 := fun e => by rw [e, limbs_zero] at h2; simp at h2; omega
    exact Nat.mul_ne_zero (by omega) (by omega)
  have ef := fac_val top f HF.out
  have sf := fac_small top f HF.out htop1
  have HM0 := Lib.hid hm0
  have HN0 := Lib.hid hn0
  have t1 := fun W h1 h2 => times_row (.slice pa lm ca) (.slice (some ⟨w1.heap.size, 0, none⟩) 1 1) (limbs B9 m) [f] (m * f) W h1 h2 (limbs_small (by decide) m) sf (by rw [← HLM.out]; omega) (by simp) (by rw [limbs_val (by decide)]; simp [valL]) hm0
  have T1 := Lib.hid t1
  have SF := Lib.hid sf
  clear t1 sf hm0 hn0
  have EF := Lib.hid ef; clear ef
  gi_wp2_with (refine ⟨trivial, ?_⟩; gi_at_call 62; rw [EF.out]; refine (callsIn_wide.2 (T1.out _ (HA.out.below (hB.alloc hB.size _)) (sl_one _ _ _ rfl))).mono ?_)
  rintro e w2 ⟨gu, capu, rfl, hgu, hrowu, hB2⟩
  rw [World.size_alloc] at hgu hB2
  have hBu : Below w.heap.size w w2 := (hB.alloc hB.size _).trans (hB2.mono (by have := hB.size; simp; omega))
  have bQ2 : Boxed w2 w.heap.size 93 (.slice none 0 0) := (hB2.block _ (by have := Boxed.lt bQ; omega)).trans ((Below.heap_alloc _ _ _ (Boxed.lt bQ)).trans bQ)
  have hown := (hrowu.alloc (.cells #[.int .i64 0] 3)).own (base := w.heap.size) (by have := hB.size; omega)
  have LU := Lib.hid (show (limbs B9 (m * f)).length ≤ 902 by have := limbs_mul_len (m := m) (f := f) (SF.out f (by simp)); rw [← HLM.out] at this; omega)
  have hlu := LU.out
  gi_wp2_with (gi_at_builtin; refine wpListIn_append_own _ rfl _ _ 93 rfl w.heap.size 3 i0 (.int .i64 0) 1 8 Tryz.underlying93 hi hz0 hz1 hz2 rfl (by decide) _ _ _ rfl hown ⟨w2.heap.size, 0, none⟩ 1 1 [I 0] rfl rfl (news_zero _ _) (one_int _) (by unfold maxLen; omega) (by omega) (by have := hBu.size; simp; omega) ?_)
  intro v' w3 hown3 hgrow _
  have hB3 : Below w.heap.size w w3 := (hBu.alloc hBu.size _).grown hgrow (by have := hBu.size; simp; omega) (fun q e => (hown.lt q e).1)
  obtain ⟨gu', capu', rfl, hgu', hrowu3, _⟩ := own_row (l := limbs B9 (m * f) ++ [0]) (by simpa using hown3) (by omega)
  have bQ3 : Boxed w3 w.heap.size 93 (.slice none 0 0) := by
    have h1 := hgrow.block w.heap.size (by simp; have := Boxed.lt bQ2; omega) (fun e => by
      have := (hown.lt _ e.symm).2
      simp [Value.ownBlock] at e
      have := hB.size; omega)
    exact h1.trans ((Below.heap_alloc _ _ _ (Boxed.lt bQ2)).trans bQ2)
  clear hown hown3 hgrow hrowu bQ bQ2
  have t2 := fun W h1 h2 => times_row (.slice (some ⟨bb, offb, none⟩) ln cb) (.slice (some ⟨w3.heap.size, 0, none⟩) 1 1) (limbs B9 n) [f] (n * f) W h1 h2 (limbs_small (by decide) n) SF.out (by rw [← HLN.out]; omega) (by simp) (by rw [limbs_val (by decide)]; simp [valL]) HN0.out
  have T2 := Lib.hid t2
  clear t2
  gi_wp2_with (refine ⟨trivial, ?_⟩; gi_at_call 62; refine (callsIn_wide.2 (T2.out _ (HB.out.below (hB3.alloc hB3.size _)) (sl_one _ _ _ rfl))).mono ?_)
  rintro e w4 ⟨gv, capv, rfl, hgv, hrowv, hB4⟩
  rw [World.size_alloc] at hgv hB4
  have hB5 : Below w.heap.size w w4 := (hB3.alloc hB3.size _).trans (hB4.mono (by have := hB3.size; simp; omega))
  have lu := hrowu3.lt
  have bQ4 : Boxed w4 w.heap.size 93 (.slice none 0 0) := (hB4.block _ (by have := Boxed.lt bQ3; omega)).trans ((Below.heap_alloc _ _ _ (Boxed.lt bQ3)).trans bQ3)
  have hrowu4 : Row w4 gu' capu' (limbs B9 (m * f) ++ [0]) := (hrowu3.alloc _).below hB4 (by omega)
  have lv := hrowv.lt
  clear hB4 hrowu3 bQ3 hB3 hBu hB2
  gi_wp2
  have hVU : (limbs B9 (n * f)).length ≤ (limbs B9 (m * f)).length := limbs_mono (by decide) (Nat.mul_le_mul_right f HLE.out)
  have hmU : lm ≤ (limbs B9 (m * f)).length := by rw [HLM.out]; exact limbs_mono (by decide) (Nat.le_mul_of_pos_right _ hf1)
  obtain ⟨U, hU⟩ : ∃ k, k = (limbs B9 (m * f)).length := ⟨_, rfl⟩
  obtain ⟨V, hV⟩ : ∃ k, k = (limbs B9 (n * f)).length := ⟨_, rfl⟩
  rw [← hU] at hlu hVU hmU ⊢
  rw [← hV] at hVU ⊢
  have HU := Lib.hid hU; clear hU
  have HV := Lib.hid hV; clear hV
  have bU := (Boxed.new w4 93 (.slice (some ⟨gu', 0, none⟩) (U + 1) capu')).alloc (.cells #[.slice (some ⟨gv, 0, none⟩) V capv] 93)
  have bV := Boxed.new (w4.alloc (.cells #[.slice (some ⟨gu', 0, none⟩) (U + 1) capu'] 93)) 93 (.slice (some ⟨gv, 0, none⟩) V capv)
  have bQ5 := (bQ4.alloc (.cells #[.slice (some ⟨gu', 0, none⟩) (U + 1) capu'] 93)).alloc (.cells #[.slice (some ⟨gv, 0, none⟩) V capv] 93)
  have ru := (hrowu4.alloc (.cells #[.slice (some ⟨gu', 0, none⟩) (U + 1) capu'] 93)).alloc (.cells #[.slice (some ⟨gv, 0, none⟩) V capv] 93)
  have rv := (hrowv.alloc (.cells #[.slice (some ⟨gu', 0, none⟩) (U + 1) capu'] 93)).alloc (.cells #[.slice (some ⟨gv, 0, none⟩) V capv] 93)
  have hB6 := (hB5.alloc hB5.size (.cells #[.slice (some ⟨gu', 0, none⟩) (U + 1) capu'] 93)).alloc (by have := hB5.size; simp; omega) (.cells #[.slice (some ⟨gv, 0, none⟩) V capv] 93)
  rw [World.size_alloc] at bV
  have lq := Boxed.lt bQ4
  have lu4 := hrowu4.lt
  clear bQ4 hrowu4 hrowv hB5 hB
  obtain ⟨z, hz⟩ : ∃ z, z = w4.heap.size := ⟨_, rfl⟩
  rw [← hz] at bU bV lv lq lu4 ⊢
  clear hz
  generalize (w4.alloc (.cells #[.slice (some ⟨gu', 0, none⟩) (U + 1) capu'] 93)).alloc (.cells #[.slice (some ⟨gv, 0, none⟩) V capv] 93) = W5 at *
  obtain ⟨M, hM⟩ : ∃ M, M = U + 1 - V := ⟨_, rfl⟩
  have hMi : (U : Int) + 1 - V = M := by omega
  obtain ⟨W6, hmk, rq, hB7⟩ := run_make_ints W5 w.heap.size M (by have := hB6.size; omega) (by omega)
  rw [← hMi] at hmk
  have HMI := Lib.hid hMi; clear hMi
  have HM := Lib.hid hM; clear hM
  have cu := bU.cell; have cv := bV.cell
  have bQ6 : Boxed W6 w.heap.size 93 (.slice none 0 0) := (hB7.block _ (Boxed.lt bQ5)).trans bQ5
  have bU6 : Boxed W6 z 93 (.slice (some ⟨gu', 0, none⟩) (U + 1) capu') := (hB7.block _ (Boxed.lt bU)).trans bU
  have bV6 : Boxed W6 (z + 1) 93 (.slice (some ⟨gv, 0, none⟩) V capv) := (hB7.block _ (Boxed.lt bV)).trans bV
  have ru6 := ru.below hB7 ru.lt
  have rv6 := rv.below hB7 rv.lt
  have hB8 : Below w.heap.size w W6 := hB6.trans (hB7.mono hB6.size)
  have lz := Boxed.lt bV
  clear bQ5 bU bV ru rv hB7
  have cq6 := bQ6.cell
  have fq6 := bQ6.frozen
  gi_loopw [] (fun wr => wr = W5) (fun _ => 0)
  case atStart => rfl
  case round =>
  subst hrel
  have CU := Lib.hid cu
  gi_wp2_with (refine ⟨trivial, ?_⟩; gi_at_call 131; refine (callsIn_wide.2 (back_any _ _ _ _ _ rfl)).mono ?_; rintro e w' ⟨rfl, rfl⟩)
  have hd := div_begin (B := B9) (by decide) (Nat.pos_of_ne_zero HN0.out) (Nat.mul_le_mul_right f HLE.out)
  rw [← HU.out, ← HV.out, ← HM.out] at hd
  have hW7 : DivW w W6.heap.size w.heap.size z (z + 1) gu' capu' wr.heap.size gv capv (U + 1) V M (limbs B9 (n * f)) (limbs B9 (m * f) ++ [0]) (List.replicate M 0)
      ((W6.setCell ⟨w.heap.size, 0, none⟩ (.slice (some ⟨wr.heap.size, 0, none⟩) M M)).alloc (.cells #[.slice (some ⟨wr.heap.size, 0, none⟩) M M] 93)) := by
    have hs : (W6.setCell ⟨w.heap.size, 0, none⟩ (.slice (some ⟨wr.heap.size, 0, none⟩) M M)).heap.size = W6.heap.size := by simp [World.setCell]
    have l1 := Boxed.lt bQ6
    refine ⟨(bU6.other (by omega) _).alloc _, (bV6.other (by omega) _).alloc _, Boxed.alloc ?_ _, ?_, (ru6.other (by exact (box_ne bQ6 ru6).symm) _).alloc _, (rq.other (by exact (box_ne bQ6 rq).symm) _).alloc _, (rv6.other (by exact (box_ne bQ6 rv6).symm) _).alloc _, ?_⟩
    · unfold Boxed at *; simp [World.setCell, Array.getElem?_modify, bQ6]
    · have := Boxed.new (W6.setCell ⟨w.heap.size, 0, none⟩ (.slice (some ⟨wr.heap.size, 0, none⟩) M M)) 93 (.slice (some ⟨wr.heap.size, 0, none⟩) M M)
      rw [hs] at this; exact this
    · exact (hB8.setCell (p := ⟨w.heap.size, 0, none⟩) (by simp) _).alloc (by rw [hs]; exact hB8.size) _
  have hs8 : (W6.setCell ⟨w.heap.size, 0, none⟩ (.slice (some ⟨wr.heap.size, 0, none⟩) M M)).heap.size = W6.heap.size := by simp [World.setCell]
  have hbs := rq.lt
  have hV2 : 2 ≤ V := by
    have h1 := limbs_mono (B := B9) (by decide) (Nat.le_mul_of_pos_right n hf1)
    rw [← HLN.out, ← HV.out] at h1; omega
  have hVl := HV.out
  have hUl := HU.out
  have hMl := HM.out
  have hml := hml0 (m := m) (n := n) (f := f) hf1
  clear hB6 hmk rq CU cu cv cq6 fq6 bQ6 bU6 bV6 ru6 rv6 hB8 hs8 hcell1 T1 T2 EF HT HC HA HB HTOP HLM HLN LU htop1
  generalize (W6.setCell ⟨w.heap.size, 0, none⟩ (.slice (some ⟨wr.heap.size, 0, none⟩) M M)).alloc (.cells #[.slice (some ⟨wr.heap.size, 0, none⟩) M M] 93) = W8 at *
  generalize W6.heap.size = bs at *
  generalize wr.heap.size = gq at *
  have hVn : V = (limbs B9 (n * f)).length := HV.out
  have hUn : U = (limbs B9 (m * f)).length := HU.out
  have hMn : M = U + 1 - V := HM.out
  have sv := limbs_small (B := B9) (by decide) (n * f)
  have hvt : 0 < (limbs B9 (n * f))[V - 2 + 1]?.getD 0 := by
    rcases limbs_last (B := B9) (by decide) (n * f) with e | ⟨i, x, e, hx⟩
    · rw [e] at hVn; simp at hVn; omega
    · rw [e] at hVn ⊢
      simp at hVn
      rw [show V - 2 + 1 = i.length by omega]; simp; omega
  obtain ⟨v, hv⟩ : ∃ v, v = limbs B9 (n * f) := ⟨_, rfl⟩
  rw [← hv] at sv hvt hd hW7 hVn
  have HVV := Lib.hid hv; clear hv
  obtain ⟨u0, hu0⟩ : ∃ u0, u0 = limbs B9 (m * f) ++ [0] := ⟨_, rfl⟩
  rw [← hu0] at hd hW7
  have hu0l : u0.length = U + 1 := by rw [hu0]; simp; omega
  have HU0 := Lib.hid hu0; clear hu0
  have HD := Lib.hid hd; clear hd
  have HW := Lib.hid hW7
  have hMV : M + V = U + 1 := by omega
  have hguv : gu' < gv := by omega
  have hM3 : M ≤ 903 := by omega
  have HMV := Lib.hid hMV
  have HVN := Lib.hid hVn; clear hVn
  have HUL0 := Lib.hid hu0l; clear hu0l
  clear HV HU HM hVl hUl hMl hMn hUn HMI hMV hi hz0 hz1 hz2 i0 hcapb lb l2 hlt2 tt e1 hcn HM0 hgu hgv lu
  refine back_loop bs M M (some ⟨gq, 0, none⟩) (fun _ _ => True) (fun W => W.cell? ⟨bs, 0, none⟩ = some (.slice (some ⟨gq, 0, none⟩) M M) ∧ ∃ Q, Q.length = M ∧ Row W gq M Q) (by omega)
    (fun W h => ⟨h.1, fun i hi => by
      obtain ⟨Q, hQ, hr⟩ := h.2
      exact ⟨gq, 0, _, rfl, trivial, by rw [Nat.zero_add]; exact hr.cell (getD_some (by omega))⟩⟩) rfl rfl (B := w.heap.size) hW7.below.size
    (fun k W => ∃ u Q, DivAt B9 u0 v M (M - k) u Q ∧ DivW w bs w.heap.size z (z + 1) gu' capu' gq gv capv (U + 1) V M v u Q W)
    (fun _ _ _ => False)
    (fun k W W' h hk hb => let ⟨u, Q, h1, h2⟩ := h; ⟨u, Q, h1, h2.kept hk hb⟩) (fun _ _ _ _ h _ _ => h)
    (fun k W h => let ⟨u, Q, h1, h2⟩ := h; ⟨h2.bb.cell, Q, h1.ql, h2.rq⟩)
    ⟨_, _, HD.out, HW.out⟩ ?a1 ?assign ?body ?done ?stop
  case stop => exact fun _ _ _ _ _ h _ => h.elim
  case assign =>
    intro l j x W K hK
    gi_wp2
    exact hK
  case body =>
    rintro l k j x W hl hlr ⟨u, Q, hd, hW⟩ hk hj -
    have hj1 : M - k = j + 1 := by omega
    have hjM : j < M := by omega
    rw [hj1] at hd
    have hul : u.length = U + 1 := by rw [hd.ul, HUL0.out]
    have hjb : j + v.length + 1 ≤ u.length := by rw [hul, ← HVN.out]; have := HMV.out; omega
    have est := fun W hru hrv => estimate_any gu' capu' gv capv u v j (V - 2) W hru hrv hd.us sv (by have := HVN.out; omega) hjb (by omega) (by have := HVN.out; omega) (hd.below (by decide) (by omega)) hvt
    rw [hul, ← HVN.out] at est
    have EST := Lib.hid est; clear est
    have HD := Lib.hid hd; clear hd
    have HJ1 := Lib.hid hj1; clear hj1 hj
    have HUL := Lib.hid hul; clear hul
    have HJB := Lib.hid hjb; clear hjb
    have hlr' := hlr
    have cu := hW.bu.cell; have cv := hW.bv.cell
    gi_wp2_with (refine ⟨trivial, ?_⟩; gi_at_call 132; refine (CallsIn.inRound l (callsIn_wide.2 (EST.out _ hW.ru hW.rv))).mono ?_)
    rintro e W1 ⟨q0, rfl, hq1, hq2, hbe⟩
    have hW1 := hW.grow hbe
    have kW1 := (keeps_of_below hbe).from W8.heap.size
    clear hbe cu cv hW
    have HQ1 := Lib.hid hq1; clear hq1
    have HQ2 := Lib.hid hq2; clear hq2
    have HW1 := Lib.hid hW1
    have KW1 := Lib.hid kW1; clear kW1 hW1
    gi_wp2
    gi_loopw [10] (fun t wr => ∃ q, t = I q ∧ Hid (valL B9 (u.drop j) / valL B9 v ≤ q) ∧ Hid (q ≤ 2 * B9) ∧ Hid (DivW w bs w.heap.size z (z + 1) gu' capu' gq gv capv (U + 1) V M v u Q wr) ∧ Hid (KeepsFrom W8.heap.size W wr))
      (fun t _ => (RowKit.intOf t).toNat)
    case atStart => exact ⟨q0, rfl, HQ1.out, HQ2.out, HW1.out, KW1.out⟩
    case round =>
      clear HQ1 HQ2 HW1 KW1
      obtain ⟨q, rfl, hq1, hq2, hWr, hKr⟩ := hrel
      have bu := hWr.out.bu; have bv := hWr.out.bv
      have cu := bu.cell; have cv := bv.cell
      have fu := bu.frozen
      have tk := take_any gu' capu' u v (.slice (some ⟨gv, 0, none⟩) V capv) j q wr hWr.out.ru (fun W' ho => by rw [HVN.out]; exact (ho.row hWr.out.rv (by omega)).sl) HD.out.us sv HJB.out (by have := HUL.out; omega) (by have := HVN.out; omega) hq2.out
      rw [HUL.out] at tk
      have TK := Lib.hid tk; clear tk
      have tsp := takeTo_spec (B := B9) (by decide) (q := q) sv j HD.out.us (v.length + 1) HJB.out
      have stp := take_step (B := B9) (by decide) (q := q) HD.out.us sv HJB.out (HD.out.below (by decide) (by have := HJB.out; omega))
      have TSP := Lib.hid tsp; clear tsp
      have STP := Lib.hid stp; clear stp
      gi_wp2_with (refine ⟨trivial, ?_⟩; gi_at_call 133; refine (CallsIn.inRound l (callsIn_wide.2 TK.out)).mono ?_)
      rintro e W2 ⟨rfl, hru2, ho2⟩
      have hW2 := hWr.out.only ho2 hru2 (by omega) (by omega) (by omega)
      have kW2 := hKr.out.trans (keeps_of_only ho2 hWr.out.ru W8.heap.size)
      clear bu bv cu cv fu
      have bu := hW2.bu; have bv := hW2.bv
      have cu := bu.cell; have cv := bv.cell
      have fu := bu.frozen
      have HW2 := Lib.hid hW2; clear hW2
      have KW2 := Lib.hid kW2; clear kW2
      have HRU2 := Lib.hid hru2; clear hru2 ho2
      by_cases hcar : 0 < (takeTo B9 q v j u (v.length + 1)).2
      · have rs := restore_any gu' capu' (takeTo B9 q v j u (v.length + 1)).1 v (.slice (some ⟨gv, 0, none⟩) V capv) j q W2 HRU2.out (fun W' ho => by rw [HVN.out]; exact (ho.row HW2.out.rv (by omega)).sl) TSP.out.2.1 sv (by rw [TSP.out.1]; exact HJB.out) (by rw [TSP.out.1]; have := HUL.out; omega) (by have := HVN.out; omega) hq2.out
        rw [TSP.out.1, HUL.out, take_back (by decide) sv HD.out.us (v.length + 1) (by have := HJB.out; omega)] at rs
        have RS := Lib.hid rs; clear rs
        have hlt := STP.out.2 (by omega)
        have hd1 : decide (0 < (takeTo B9 q v j u (v.length + 1)).2) = true := by simpa using hcar
        have HQL := Lib.hid ((Nat.div_lt_iff_lt_mul (Nat.lt_of_le_of_lt (Nat.zero_le _) HD.out.high)).2 hlt); clear hlt
        rw [hd1]
        clear hd1 hcar
        have hq0 : 0 < q := Nat.lt_of_le_of_lt (Nat.zero_le _) HQL.out
        gi_wp2_with (refine ⟨trivial, ?_⟩; gi_at_call 134; refine (CallsIn.inRound l (callsIn_wide.2 RS.out)).mono ?_)
        rintro e W3 ⟨rfl, hru3, ho3⟩
        have hW3 := HW2.out.only ho3 hru3 (by omega) (by omega) (by omega)
        have kW3 := KW2.out.trans (keeps_of_only ho3 HRU2.out W8.heap.size)
        clear bu bv cu cv fu
        have bu := hW3.bu
        have cu := bu.cell
        have fu := bu.frozen
        have HW3 := Lib.hid hW3; clear hW3
        have KW3 := Lib.hid kW3; clear kW3 hru3 ho3
        have hq3 : q ≤ 2000000000 := hq2.out
        gi_wp2
        go_roundw
        case rel => exact ⟨q - 1, by show Value.int .i64 _ = Value.int .i64 _; congr 1; omega, Nat.le_sub_one_of_lt HQL.out, Nat.le_trans (Nat.sub_le _ _) hq2.out, HW3.out.setU (by omega) (by omega) (by omega) (by omega), KW3.out.trans ((KeepsOthers.setCell _ _ _).from _)⟩
        case measure => simp [RowKit.intOf]; omega
      · have hd1 : decide (0 < (takeTo B9 q v j u (v.length + 1)).2) = false := by simpa using hcar
        have hst := HD.out.step (by decide) sv hjM HJB.out hq1.out (by omega)
        have HST := Lib.hid hst; clear hst
        rw [hd1]
        clear hd1 hcar
        have bq := HW2.out.bq
        have cq := bq.cell
        have hqc := HW2.out.rq.cell (getD_some (show j < Q.length by rw [HD.out.ql]; exact hjM))
        have hqf := HW2.out.rq.frozen j
        gi_wp2
        refine ⟨KW2.out.trans ((KeepsOthers.setCell _ _ _).from _), _, _, ?_, HW2.out.setQ j q (by omega) (by omega) (by omega)⟩
        rw [show M - (k + 1) = j by have := HJ1.out; omega]
        exact HST.out.1
  case done =>
    rintro D W hD ⟨u, Q, hd, hW⟩ hK
    rw [Nat.sub_self] at hd
    have hout := hd.out
    rw [HVV.out, HU0.out, limbs_val (by decide), valL_snoc, Nat.mul_zero, Nat.add_zero, limbs_val (by decide), hml.1, hml.2] at hout
    have bu := hW.bu; have bq := hW.bq
    have cu := bu.cell; have cq := bq.cell; have fq := bq.frozen
    have hsu := hW.ru.sl
    have hul : u.length = U + 1 := by rw [hd.ul, HUL0.out]
    rw [hul] at hsu
    have htr := fun W' h => trim_sl (some ⟨gu', 0, none⟩) (U + 1) capu' u W' h (by omega)
    rw [trimL_limbs (by decide) hd.us, hout.2] at htr
    have HTR := Lib.hid htr; clear htr
    have HQ := Lib.hid hW; clear hW
    have HD := Lib.hid hd; clear hd
    have HO := Lib.hid hout; clear hout
    have HK := Lib.hid hK; clear hK
    gi_wp2_with (refine ⟨trivial, ?_⟩; gi_at_call 102; refine (callsIn_wide.2 (HTR.out _ hsu)).mono ?_)
    rintro e w9 ⟨rfl, rfl⟩
    have hsl9 := HQ.out.ru.sl.trim
    rw [trimL_limbs (by decide) HD.out.us, HO.out.2] at hsl9
    have hfs := SF.out f (by simp)
    have hsh := fun h => short_any (.slice (some ⟨gu', 0, none⟩) (limbs B9 (m % n * f)).length capu') (limbs B9 (m % n * f)) f W h (by have := trimL_len u; rw [trimL_limbs (by decide) HD.out.us, HO.out.2] at this; omega) (limbs_small (by decide) _) hf1 hfs
    rw [limbs_val (by decide), Nat.mul_div_cancel _ hf1] at hsh
    have HSH := Lib.hid (hsh hsl9); clear hsh hsl9 hfs
    gi_wp2_with (refine ⟨trivial, ?_⟩; gi_at_call 130; refine (callsIn_wide.2 HSH.out).mono ?_)
    clear HSH
    rintro e w10 ⟨v1, v2, rfl, hs1, hs2, hB10⟩
    have hW10 := HQ.out.grow hB10
    have hK10 := (hB10.block D (Array.getElem?_eq_some_iff.1 HK.out).1).trans HK.out
    obtain ⟨p1, c1, e1, -⟩ := id hs1
    obtain ⟨p2, c2, e2, -⟩ := id hs2
    generalize (List.map I (limbs B9 (m % n))).length = n1 at e1
    generalize (List.map I (limbs B9 (m % n * f % f))).length = n2 at e2
    subst e1 e2
    have HS1 := Lib.hid hs1; clear hs1 hs2 bu bq cu cq fq hB10
    have hqs := hW10.rq.sl
    have hql := HD.out.ql
    rw [hql] at hqs
    have htr := trim_sl (some ⟨gq, 0, none⟩) M M Q w10 hqs (by omega)
    rw [trimL_limbs (by decide) HD.out.qs, HO.out.1] at htr
    have HTQ := Lib.hid htr; clear htr hqs hql
    have bq := hW10.bq
    have cq := bq.cell; have fq := bq.frozen
    have HW10 := Lib.hid hW10; clear hW10
    have HK10 := Lib.hid hK10; clear hK10
    gi_wp2_with (refine ⟨trivial, ?_⟩; gi_at_call 102; refine (callsIn_wide.2 HTQ.out).mono ?_)
    rintro e w11 ⟨rfl, rfl⟩
    clear HTQ
    gi_wp2
    have hK11 := (KeepsOthers.setCell w10 ⟨w.heap.size, 0, none⟩ (.slice (some ⟨gq, 0, none⟩) (limbs B9 (m / n)).length M)).same D _ HK10.out rfl
    refine ⟨by simp, .inl ⟨_, _, rfl, run_takeDeferred hK11, ?_⟩⟩
    have hc5 := (kept_put hK11).cell (cell_eq cq)
    have hsq := HW10.out.rq.sl
    rw [HD.out.ql] at hsq
    have hsq := Sl.trim (l := Q) (by rw [HD.out.ql]; exact hsq)
    rw [trimL_limbs (by decide) HD.out.qs, HO.out.1] at hsq
    exact ⟨.tuple #[.slice (some ⟨gq, 0, none⟩) (limbs B9 (m / n)).length M, .slice p1 n1 c1], by simp [results, Tryz.f91, go_sem, hc5], _, _, rfl, (kept_put hK11).sl (hsq.box cq _), (kept_put hK11).sl (HS1.out.box cq _),
      below_put (HW10.out.below.setCell (p := ⟨w.heap.size, 0, none⟩) (by simp) _) (by have := hW7.below.size; omega) hK11⟩

/-- integer.divide. -/
theorem divide_any (va vb : Value) (m n : Nat) (w : World) (ha : Sl w va ((limbs B9 m).map I)) (hb : Sl w vb ((limbs B9 n).map I)) (la : (limbs B9 m).length ≤ 900) (lb : (limbs B9 n).length ≤ 900) (h0 : n ≠ 0) :
    Calls Tryz.prog 91 #[va, vb] w (TwoLimbs w (m / n) (m % n)) := by
  rcases Nat.lt_or_ge m n with h | h
  · exact divide_less va vb m n w ha hb (by omega) (by omega) h
  · have hl : (limbs B9 n).length ≠ 0 := fun e => h0 ((limbs_nil_iff (by decide) n).1 (List.length_eq_zero_iff.1 e))
    rcases Nat.lt_or_ge (limbs B9 n).length 2 with h2 | h2
    · exact divide_one va vb m n w ha hb (by omega) (by omega) h
    · exact divide_long va vb m n w ha hb la lb h2 h
end Go.Proofs.YtapfekcbbhhieaaGreatDoor

namespace Go.Proofs.YtapfekcbbhhieaaGreatDoor.Limb
open Go.Lib Str

/-- The values of the digits of a numeral, the last one first. -/
def digL (l : List UInt8) : List Nat := (l.map fun c => c.toNat - 48).reverse

theorem digL_val : ∀ (l : List UInt8) (a : Nat), l.foldl (fun a c => 10 * a + (c.toNat - 48)) a = valL 10 (digL l) + 10 ^ l.length * a
  | [], a => by simp [digL, valL]
  | c :: r, a => by
    rw [List.foldl_cons, digL_val r]
    unfold digL
    rw [List.map_cons, List.reverse_cons, valL_snoc]
    simp only [List.length_reverse, List.length_map, List.length_cons, Nat.pow_succ, Nat.mul_add]
    rw [Nat.mul_assoc]; omega
theorem digL_dec (n : Nat) : valL 10 (digL (decDigits n)) = n := by
  have := digL_val (decDigits n) 0
  rw [Nat.mul_zero, Nat.add_zero] at this
  rw [← this]; exact val_dec n
theorem digL_len (l : List UInt8) : (digL l).length = l.length := by simp [digL]
theorem digL_small {l : List UInt8} (h : ∀ c ∈ l, 48 ≤ c.toNat ∧ c.toNat ≤ 57) : small 10 (digL l) := by
  intro x hx
  simp only [digL, List.mem_reverse, List.mem_map] at hx
  obtain ⟨c, hc, rfl⟩ := hx
  have := h c hc; omega
theorem digL_at (l : List UInt8) (i : Nat) (h : i < l.length) : (digL l)[i]?.getD 0 = (l[l.length - 1 - i]'(by omega)).toNat - 48 := by
  unfold digL
  rw [List.getElem?_reverse (by simpa using h)]
  simp [show l.length - 1 - i < l.length by omega]

/-- The limbs when k digits have been read, into m limbs of p digits. -/
def readTo (p : Nat) (ds : List Nat) (m : Nat) : Nat → List Nat
  | 0 => List.replicate m 0
  | k + 1 => (readTo p ds m k).set (k / p) ((readTo p ds m k)[k / p]?.getD 0 + ds[k]?.getD 0 * 10 ^ (k % p))

theorem pow_mod_split (p k : Nat) : (10 ^ p) ^ (k / p) * 10 ^ (k % p) = 10 ^ k := by
  rw [← Nat.pow_mul, ← Nat.pow_add, Nat.div_add_mod]

theorem div_succ {p k : Nat} (hp : 0 < p) : ((k + 1) / p = k / p ∧ (k + 1) % p = k % p + 1 ∧ k % p + 1 < p) ∨ ((k + 1) / p = k / p + 1 ∧ (k + 1) % p = 0 ∧ k % p + 1 = p) := by
  have h1 := Nat.div_add_mod k p
  have h2 := Nat.mod_lt k hp
  by_cases h : k % p + 1 < p
  · left
    have e : k + 1 = (k % p + 1) + p * (k / p) := by omega
    refine ⟨?_, ?_, h⟩
    · rw [e, Nat.add_mul_div_left _ _ hp, Nat.div_eq_of_lt h, Nat.zero_add]
    · rw [e, Nat.add_mul_mod_self_left, Nat.mod_eq_of_lt h]
  · right
    have h3 : k % p + 1 = p := by omega
    have e : k + 1 = p * (k / p + 1) := by rw [Nat.mul_add, Nat.mul_one]; omega
    refine ⟨?_, ?_, h3⟩
    · rw [e, Nat.mul_div_cancel_left _ hp]
    · rw [e, Nat.mul_mod_right]

theorem readTo_spec {p : Nat} (hp : 0 < p) {ds : List Nat} (hd : small 10 ds) {m : Nat} (hm : ds.length ≤ p * m) : ∀ k, k ≤ ds.length →
    (readTo p ds m k).length = m ∧ small (10 ^ p) (readTo p ds m k) ∧ valL (10 ^ p) (readTo p ds m k) = valL 10 (ds.take k) ∧ (readTo p ds m k)[k / p]?.getD 0 < 10 ^ (k % p) ∧ ∀ i, k / p < i → (readTo p ds m k)[i]?.getD 0 = 0
  | 0, _ => by
    have hz : ∀ i, (List.replicate m 0)[i]?.getD 0 = 0 := fun i => by rw [List.getElem?_replicate]; split <;> rfl
    refine ⟨by simp [readTo], fun x hx => ?_, ?_, ?_, fun i _ => hz i⟩
    · simp only [readTo, List.mem_replicate] at hx
      rw [hx.2]; exact Nat.pow_pos (by omega)
    · rw [List.take_zero]; exact valL_replicate _ _
    · show (List.replicate m 0)[_]?.getD 0 < _
      rw [hz]; exact Nat.pow_pos (by omega)
  | k + 1, hk => by
    obtain ⟨h1, h2, h3, h4, h5⟩ := readTo_spec hp hd hm k (by omega)
    have hkm : k / p < m := by rw [Nat.div_lt_iff_lt_mul hp, Nat.mul_comm]; omega
    have hds := small_getD hd (by omega) k
    have hv := valL_set (10 ^ p) (readTo p ds m k) (k / p) ((readTo p ds m k)[k / p]?.getD 0 + ds[k]?.getD 0 * 10 ^ (k % p)) (by omega)
    have hpw := pow_mod_split p k
    have htk := take_succ_getD ds k 10
    have hnew : (readTo p ds m k)[k / p]?.getD 0 + ds[k]?.getD 0 * 10 ^ (k % p) < 10 ^ (k % p + 1) := by
      rw [Nat.pow_succ]
      have := Nat.mul_le_mul_right (10 ^ (k % p)) (show ds[k]?.getD 0 ≤ 9 by omega)
      omega
    have hnew2 : 10 ^ (k % p + 1) ≤ 10 ^ p := Nat.pow_le_pow_right (by omega) (Nat.mod_lt _ hp)
    refine ⟨by simp [readTo, h1], small_set h2 _ (by omega), ?_, ?_, ?_⟩
    · show valL (10 ^ p) ((readTo p ds m k).set _ _) = _
      rw [htk, ← h3, ← hpw]
      rw [Nat.mul_add] at hv
      have : (10 ^ p) ^ (k / p) * (ds[k]?.getD 0 * 10 ^ (k % p)) = (10 ^ p) ^ (k / p) * 10 ^ (k % p) * ds[k]?.getD 0 := by
        rw [Nat.mul_assoc, Nat.mul_comm (ds[k]?.getD 0)]
      omega
    · show ((readTo p ds m k).set _ _)[_]?.getD 0 < _
      rcases div_succ (k := k) hp with ⟨e1, e2, _⟩ | ⟨e1, e2, _⟩
      · rw [e1, e2, List.getElem?_set_self (by omega)]; exact hnew
      · rw [e1, e2, List.getElem?_set_ne (by omega), h5 _ (by omega)]; exact Nat.pow_pos (by omega)
    · intro i hi
      show ((readTo p ds m k).set _ _)[_]?.getD 0 = _
      have : k / p ≤ (k + 1) / p := Nat.div_le_div_right (by omega)
      rw [List.getElem?_set_ne (by omega), h5 _ (by omega)]

/-- Reading a numeral. -/
theorem read_limbs {p : Nat} (hp : 0 < p) (n m : Nat) (hm : (decDigits n).length ≤ p * m) : trimL (readTo p (digL (decDigits n)) m (decDigits n).length) = limbs (10 ^ p) n := by
  obtain ⟨h1, h2, h3, -⟩ := readTo_spec hp (digL_small (decDigits_digit n)) (m := m) (by rw [digL_len]; exact hm) (digL (decDigits n)).length (Nat.le_refl _)
  rw [List.take_length, digL_dec] at h3
  rw [digL_len] at h2 h3
  rw [trimL_limbs (Nat.le_trans (show 2 ≤ 10 ^ 1 by omega) (Nat.pow_le_pow_right (by omega) hp)) h2, h3]

/-! ### Writing -/

/-- The last k digits of a number. -/
def padD : Nat → Nat → List UInt8
  | 0, _ => []
  | k + 1, x => padD k (x / 10) ++ [UInt8.ofNat (48 + x % 10)]

theorem padD_len : ∀ k x, (padD k x).length = k
  | 0, _ => rfl
  | k + 1, x => by simp [padD, padD_len k]

theorem dec_pad : ∀ (k y x : Nat), 0 < y → x < 10 ^ k → decDigits (10 ^ k * y + x) = decDigits y ++ padD k x
  | 0, y, x, hy, hx => by simp at hx; subst hx; simp [padD]
  | k + 1, y, x, hy, hx => by
    have e : 10 ^ (k + 1) * y + x = 10 * (10 ^ k * y + x / 10) + x % 10 := by
      rw [Nat.pow_succ, Nat.mul_comm (10 ^ k) 10, Nat.mul_add, Nat.mul_assoc]; omega
    have hx' : x / 10 < 10 ^ k := by rw [Nat.pow_succ] at hx; omega
    have hp : 0 < 10 ^ k * y := Nat.mul_pos (Nat.pow_pos (by omega)) hy
    rw [e, decDigits_snoc (by omega) (by omega), dec_pad k y _ hy hx', padD, List.append_assoc]

theorem padD_zero : ∀ k, padD k 0 = List.replicate k 48
  | 0 => rfl
  | k + 1 => by
    rw [padD, Nat.zero_div, padD_zero k, List.replicate_succ']; rfl

theorem padD_dec : ∀ (k x : Nat), 0 < k → x < 10 ^ k → padD k x = List.replicate (k - (decDigits x).length) 48 ++ decDigits x
  | k + 1, x, _, hx => by
    rw [padD]
    by_cases h : x < 10
    · rw [decDigits_small h, Nat.div_eq_of_lt h, padD_zero, Nat.mod_eq_of_lt h]; simp
    · rw [decDigits_big (by omega)]
      have hx' : x / 10 < 10 ^ k := by rw [Nat.pow_succ] at hx; omega
      have hk : 0 < k := by
        rcases Nat.eq_zero_or_pos k with rfl | h
        · simp at hx; omega
        · exact h
      rw [padD_dec k (x / 10) hk hx', List.length_append, List.length_singleton, show k + 1 - ((decDigits (x / 10)).length + 1) = k - (decDigits (x / 10)).length by omega, List.append_assoc]

/-- What has been written when the limbs from k on are written. -/
theorem write_step {p : Nat} {l : List Nat} (hl : small (10 ^ p) l) (k : Nat) (hk : k < l.length) (h0 : 0 < valL (10 ^ p) (l.drop (k + 1))) :
    decDigits (valL (10 ^ p) (l.drop k)) = decDigits (valL (10 ^ p) (l.drop (k + 1))) ++ padD p (l[k]?.getD 0) := by
  rw [valL_drop_succ l k _ hk, Nat.add_comm, dec_pad p _ _ h0 (hl _ (List.getElem_mem hk))]
  simp [hk]

theorem drop_last_pos {B : Nat} (hB : 2 ≤ B) {n k : Nat} (hk : k < (limbs B n).length) : 0 < valL B ((limbs B n).drop k) := by
  rcases limbs_last hB n with h | ⟨i, x, h, hx⟩
  · rw [h] at hk; simp at hk
  · rw [h] at hk ⊢
    rw [List.length_append, List.length_singleton] at hk
    rw [List.drop_append_of_le_length (by omega), valL_snoc]
    have : 0 < B ^ (i.drop k).length * x := Nat.mul_pos (Nat.pow_pos (by omega)) (by omega)
    omega
end Go.Proofs.YtapfekcbbhhieaaGreatDoor.Limb

namespace Go.Proofs.YtapfekcbbhhieaaGreatDoor
open Go.RowKit Lib Str

theorem hasPrefix_nonneg {x : Int} (h : 0 ≤ x) : Lib.hasPrefix (itoa x) [45] = false := by
  obtain ⟨c, r, e, h1, _⟩ := dec_head x.natAbs
  rcases itoa_form x with ⟨_, e2⟩ | ⟨h2, _⟩
  · rw [e2, e]
    have : c ≠ 45 := fun h => by rw [h] at h1; simp at h1
    simp only [Lib.hasPrefix, List.isPrefixOf, Bool.and_true]; exact beq_eq_false_iff_ne.2 (Ne.symm this)
  · omega
theorem hasPrefix_neg {x : Int} (h : x < 0) : Lib.hasPrefix (itoa x) [45] = true := by
  rcases itoa_form x with ⟨h2, _⟩ | ⟨_, e2⟩
  · omega
  · rw [e2]; simp [Lib.hasPrefix]
theorem hasPrefix_itoa (x : Int) : Lib.hasPrefix (itoa x) [45] = decide (x < 0) := by
  by_cases h : x < 0
  · rw [hasPrefix_neg h]; simp [h]
  · rw [hasPrefix_nonneg (by omega)]; simp [h]
theorem trimPrefix_itoa (x : Int) : Lib.trimPrefix (itoa x) [45] = decDigits x.natAbs := by
  unfold Lib.trimPrefix
  rcases itoa_form x with ⟨h, e⟩ | ⟨h, e⟩
  · rw [hasPrefix_nonneg h, e]; simp
  · rw [hasPrefix_neg h, e]; simp

theorem dropWhile_all {α : Type} (p : α → Bool) : ∀ l : List α, (∀ x ∈ l, p x = true) → l.dropWhile p = []
  | [], _ => rfl
  | a :: r, h => by rw [List.dropWhile_cons, if_pos (h a (by simp))]; exact dropWhile_all p r fun x hx => h x (by simp [hx])

theorem trimS_digits (l : List UInt8) (h : ∀ c ∈ l, 48 ≤ c.toNat ∧ c.toNat ≤ 57) : Lib.trimS l [48, 49, 50, 51, 52, 53, 54, 55, 56, 57] = [] := by
  have hc : ∀ c ∈ l, ([48, 49, 50, 51, 52, 53, 54, 55, 56, 57] : List UInt8).contains c = true := by
    intro c hcl
    obtain ⟨h1, h2⟩ := h c hcl
    obtain ⟨k, hk, rfl⟩ : ∃ k, k < 10 ∧ c = UInt8.ofNat (48 + k) := ⟨c.toNat - 48, by omega, by rw [show 48 + (c.toNat - 48) = c.toNat by omega]; exact UInt8.ofNat_toNat.symm⟩
    have : ∀ k : Fin 10, ([48, 49, 50, 51, 52, 53, 54, 55, 56, 57] : List UInt8).contains (UInt8.ofNat (48 + k.val)) = true := by decide
    exact this ⟨k, hk⟩
  have e : l.reverse.dropWhile (([48, 49, 50, 51, 52, 53, 54, 55, 56, 57] : List UInt8).contains ·) = [] :=
    dropWhile_all _ _ fun c hcl => hc c (List.mem_reverse.1 hcl)
  unfold trimS trimRightS trimLeftS
  rw [e]; rfl

theorem zero_of_head {n : Nat} {c : UInt8} {r : List UInt8} (h : decDigits n = c :: r) (hc : (c.toNat : Int) = 48) : n = 0 :=
  head_dec n (by rw [h]; have : c = 48 := UInt8.toNat_inj.1 (by simp; omega); rw [this]; rfl)

theorem ba0 (c : UInt8) (r : List UInt8) (h : 0 < (⟨(c :: r).toArray⟩ : ByteArray).size) : (⟨(c :: r).toArray⟩ : ByteArray)[0]'h = c := rfl

set_option maxHeartbeats 400000 in
set_option maxRecDepth 100000 in
theorem intCheck_nz (x : Int) (hx : x ≠ 0) (hl : digs x ≤ 300) (hm : digs x ≤ 1000000) (w : World) :
    Calls Tryz.prog 99 #[St (itoa x)] w fun e w' => e = .returned (.int .i64 0) ∧ Below w.heap.size w w' := by
  have h1 := trimPrefix_itoa x
  have h2 := trimS_digits _ (decDigits_digit x.natAbs)
  have h3 : digs x = (decDigits x.natAbs).length := rfl
  obtain ⟨c, r, hd, hc1, hc2⟩ := dec_head x.natAbs
  have hb : (c.toNat : Int) ≠ 48 := fun h => by have := zero_of_head hd h; omega
  rw [hd] at h1 h2 h3
  obtain ⟨s, hs⟩ : ∃ s : ByteArray, s = ⟨(c :: r).toArray⟩ := ⟨_, rfl⟩
  have hz : s.size = r.length + 1 := by rw [hs]; show (c :: r).toArray.size = _; simp
  have h0 : 0 < s.size := by omega
  have hne : s.toList.isEmpty = false := by rw [ByteArray.toList_eq, hs]; simp
  have hb : (((s[0]'h0).toNat : Int) == 48) = false := by
    rw [beq_eq_false_iff_ne]; subst hs; exact hb
  have hl' : (s.size : Int) ≤ 300 := by simp at h3; omega
  have hlen : (s.size : Int) ≤ 1000000 := by simp at h3; omega
  have H1 : Hid (⟨(trimPrefix (itoa x) [45]).toArray⟩ = s) := Lib.hid (by rw [h1, hs])
  have H2 : Hid (trimS s.data.toList [48, 49, 50, 51, 52, 53, 54, 55, 56, 57] = []) := Lib.hid (by rw [hs]; exact h2)
  clear h1 h2 h3 hd hl hm hs hz
  go_enter Tryz.func99, Tryz.ntmps99
  go_wp2_with fail
  refine (Tryz.strings_TrimPrefix _ _ _).mono ?_
  rintro e w' ⟨rfl, rfl⟩
  simp only [H1.out]
  go_wp2_with fail
  refine (Tryz.Trim_ascii s ⟨#[48, 49, 50, 51, 52, 53, 54, 55, 56, 57]⟩ _ (by omega) (by decide) (ascii_of_all (by decide))).mono ?_
  rintro e w1 ⟨rfl, hb1⟩
  simp only [H2.out]
  go_wp2_with fail
  go_ret
  exact ⟨rfl, hb1⟩

set_option maxHeartbeats 400000 in
set_option maxRecDepth 100000 in
theorem intCheck_big (x : Int) (hx : x ≠ 0) (hl : 300 < digs x) (hm : digs x ≤ 1000000) (w : World) :
    Calls Tryz.prog 99 #[St (itoa x)] w fun e w' => e = .returned (.int .i64 4) ∧ Below w.heap.size w w' := by
  have h1 := trimPrefix_itoa x
  have h2 := trimS_digits _ (decDigits_digit x.natAbs)
  have h3 : digs x = (decDigits x.natAbs).length := rfl
  obtain ⟨c, r, hd, hc1, hc2⟩ := dec_head x.natAbs
  have hb : (c.toNat : Int) ≠ 48 := fun h => by have := zero_of_head hd h; omega
  rw [hd] at h1 h2 h3
  obtain ⟨s, hs⟩ : ∃ s : ByteArray, s = ⟨(c :: r).toArray⟩ := ⟨_, rfl⟩
  have hz : s.size = r.length + 1 := by rw [hs]; show (c :: r).toArray.size = _; simp
  have h0 : 0 < s.size := by omega
  have hne : s.toList.isEmpty = false := by rw [ByteArray.toList_eq, hs]; simp
  have hb : (((s[0]'h0).toNat : Int) == 48) = false := by
    rw [beq_eq_false_iff_ne]; subst hs; exact hb
  have hl' : 300 < (s.size : Int) := by simp at h3; omega
  have hlen : (s.size : Int) ≤ 1000000 := by simp at h3; omega
  have H1 : Hid (⟨(trimPrefix (itoa x) [45]).toArray⟩ = s) := Lib.hid (by rw [h1, hs])
  have H2 : Hid (trimS s.data.toList [48, 49, 50, 51, 52, 53, 54, 55, 56, 57] = []) := Lib.hid (by rw [hs]; exact h2)
  clear h1 h2 h3 hd hl hm hs hz
  go_enter Tryz.func99, Tryz.ntmps99
  go_wp2_with fail
  refine (Tryz.strings_TrimPrefix _ _ _).mono ?_
  rintro e w' ⟨rfl, rfl⟩
  simp only [H1.out]
  go_wp2_with fail
  refine (Tryz.Trim_ascii s ⟨#[48, 49, 50, 51, 52, 53, 54, 55, 56, 57]⟩ _ (by omega) (by decide) (ascii_of_all (by decide))).mono ?_
  rintro e w1 ⟨rfl, hb1⟩
  simp only [H2.out]
  go_wp2_with fail
  go_ret
  exact ⟨rfl, hb1⟩
set_option maxHeartbeats 400000 in
set_option maxRecDepth 100000 in
theorem intCheck_z (w : World) :
    Calls Tryz.prog 99 #[.string ⟨#[48]⟩] w fun e w' => e = .returned (.int .i64 0) ∧ Below w.heap.size w w' := by
  have h1 : Lib.trimPrefix [48] [45] = [48] := by decide
  have h2 : Lib.trimS [48] [48, 49, 50, 51, 52, 53, 54, 55, 56, 57] = [] := by decide
  have H1 := Lib.hid h1; clear h1
  have H2 := Lib.hid h2; clear h2
  go_enter Tryz.func99, Tryz.ntmps99
  go_wp2_with fail
  refine (Tryz.strings_TrimPrefix _ _ _).mono ?_
  rintro e w' ⟨rfl, rfl⟩
  simp only [H1.out]
  go_wp2_with fail
  refine (Tryz.Trim_ascii ⟨#[48]⟩ ⟨#[48, 49, 50, 51, 52, 53, 54, 55, 56, 57]⟩ _ (by decide) (by decide) (ascii_of_all (by decide))).mono ?_
  rintro e w1 ⟨rfl, hb1⟩
  simp only [H2.out]
  go_wp2_with fail
  go_ret
  exact ⟨rfl, hb1⟩

theorem digs_zero : digs 0 = 1 := by unfold digs; rw [show (0 : Int).natAbs = 0 from rfl, isNum_zero]; rfl

/-- integer.Check at a numeral. -/
theorem intCheck_any (x : Int) (hm : digs x ≤ 1000000) (w : World) :
    Calls Tryz.prog 99 #[St (itoa x)] w fun e w' => e = .returned (.int .i64 (if digs x ≤ 300 then 0 else 4)) ∧ Below w.heap.size w w' := by
  by_cases h0 : x = 0
  · subst h0
    rw [digs_zero, if_pos (by decide), itoa_zero]
    exact intCheck_z w
  · by_cases hl : digs x ≤ 300
    · rw [if_pos hl]; exact intCheck_nz x h0 hl hm w
    · rw [if_neg hl]; exact intCheck_big x h0 (by omega) hm w

theorem intCheck_ok (x : Int) (h : digs x ≤ 300) (w : World) :
    Calls Tryz.prog 99 #[St (itoa x)] w fun e w' => e = .returned (.int .i64 0) ∧ Below w.heap.size w w' := by
  have := intCheck_any x (by omega) w
  rw [if_pos h] at this; exact this

set_option maxHeartbeats 400000 in
/-- integer.both. -/
theorem intBoth (x y : Int) (hx : digs x ≤ 300) (hy : digs y ≤ 300) (w : World) :
    Calls Tryz.prog 57 #[St (itoa x), St (itoa y)] w fun e w' => e = .returned (.int .i64 0) ∧ Below w.heap.size w w' := by
  have c1 := Lib.hid hx; clear hx
  have c2 := Lib.hid hy; clear hy
  go_enter Tryz.func57, Tryz.ntmps57
  go_wp2_with fail
  refine (intCheck_ok x c1.out _).mono ?_
  rintro e w1 ⟨rfl, hb1⟩
  go_wp2_with fail
  refine (intCheck_ok y c2.out _).mono ?_
  rintro e w2 ⟨rfl, hb2⟩
  go_wp2_with fail
  go_ret
  exact ⟨rfl, hb1.trans (hb2.mono hb1.size)⟩

set_option maxHeartbeats 400000 in
/-- integer.small, both numerals short. -/
theorem intSmall_yes (x y : Int) (hx : (itoa x).length ≤ 18) (hy : (itoa y).length ≤ 18) (w : World) :
    Calls Tryz.prog 58 #[St (itoa x), St (itoa y), .int .i64 18] w fun e w' => e = .returned (.tuple #[.int .i64 x, .int .i64 y, .bool true]) ∧ Below w.heap.size w w' := by
  have h1 : decide (18 < ((itoa x).length : Int)) = false := by simp; omega
  have h2 : decide (18 < ((itoa y).length : Int)) = false := by simp; omega
  have c1 := Lib.hid hx; clear hx
  have c2 := Lib.hid hy; clear hy
  go_enter Tryz.func58, Tryz.ntmps58
  go_wp2_with fail
  refine (atoi_b x c1.out _).mono ?_
  rintro e w1 ⟨rfl, hb1⟩
  go_wp2_with fail
  refine (atoi_b y c2.out _).mono ?_
  rintro e w2 ⟨rfl, hb2⟩
  go_wp2_with fail
  go_quiet (fail)
  go_wp2_with fail
  go_ret3
  exact ⟨rfl, below_drewN (hb1.trans (hb2.mono hb1.size)) _⟩

set_option maxHeartbeats 400000 in
/-- integer.small, a numeral that is longer. -/
theorem intSmall_no (x y : Int) (h : 18 < (itoa x).length ∨ 18 < (itoa y).length) (w : World) :
    Calls Tryz.prog 58 #[St (itoa x), St (itoa y), .int .i64 18] w fun e w' => e = .returned (.tuple #[.int .i64 0, .int .i64 0, .bool false]) ∧ w = w' := by
  by_cases hx : (itoa x).length ≤ 18
  · have h1 : decide (18 < ((itoa x).length : Int)) = false := by simp; omega
    have h2 : decide (18 < ((itoa y).length : Int)) = true := by simp; omega
    clear hx h
    go_enter Tryz.func58, Tryz.ntmps58
    go_wp2_with fail
    go_ret3
    exact ⟨rfl, rfl⟩
  · have h1 : decide (18 < ((itoa x).length : Int)) = true := by simp; omega
    clear hx h
    go_enter Tryz.func58, Tryz.ntmps58
    go_wp2_with fail
    go_ret3
    exact ⟨rfl, rfl⟩
end Go.Proofs.YtapfekcbbhhieaaGreatDoor
