/-
  polygon.Inside.
  root.Normal at the square of a small integer.
  root.Ratio at 1 and 1.
-/
import Derived.Test.YtapfekcbbhhieaaGreatDoorS21
import Derived.Test.YtapfekcbbhhieaaGreatDoorS18
import Derived.Test.YtapfekcbbhhieaaGreatDoorS14
namespace Go.Proofs.YtapfekcbbhhieaaGreatDoor
open Go.RowKit Go.Shelf Lib Str Limb Geo
attribute [local go_sem] Oper.semAt_some

/-- Whether a side turns the answer. -/
def flipS (l : List Pt) (q : Pt) (k : Nat) : Prop :=
  (cmpR (cor l k).y q.y ≤ 0 ∧ 0 < cmpR (cor l (k + 1)).y q.y ∧ 0 < turn (cor l k) (cor l (k + 1)) q) ∨ (cmpR (cor l (k + 1)).y q.y ≤ 0 ∧ 0 < cmpR (cor l k).y q.y ∧ turn (cor l k) (cor l (k + 1)) q < 0)
instance (l : List Pt) (q : Pt) (k : Nat) : Decidable (flipS l q k) := by unfold flipS; infer_instance
/-- The answer behind the first k sides. -/
def insI (l : List Pt) (q : Pt) : Nat → Int
  | 0 => -1
  | k + 1 => if flipS l q k then - insI l q k else insI l q k
theorem insI_one (l : List Pt) (q : Pt) : ∀ k, insI l q k = 1 ∨ insI l q k = -1
  | 0 => .inr rfl
  | k + 1 => by
    have := insI_one l q k
    unfold insI
    split <;> omega
/-- The point lies on a side. -/
def onS (l : List Pt) (q : Pt) (k : Nat) : Prop := meet (cor l k) (cor l (k + 1)) q q = 1

/-- What is known of the memory in Inside. -/
structure InsS (w : World) (p : Option Addr) (cap n : Nat) (l : List Pt) (q : Pt) (ib k : Nat) (W : World) : Prop where
  bel : Below w.heap.size w W
  ib1 : w.heap.size + 2 < ib
  q0 : W.cell? ⟨w.heap.size, 0, none⟩ = some (St (numS q.x))
  q1 : W.cell? ⟨w.heap.size, 1, none⟩ = some (St (numS q.y))
  r1 : W.cell? ⟨w.heap.size + 1, 0, none⟩ = some (I 0)
  f1 : W.frozen? ⟨w.heap.size + 1, 0, none⟩ = false
  r2 : W.cell? ⟨w.heap.size + 1 + 1, 0, none⟩ = some (I 0)
  f2 : W.frozen? ⟨w.heap.size + 1 + 1, 0, none⟩ = false
  ic : W.cell? ⟨ib, 0, none⟩ = some (.int .i64 (insI l q k))
  fi : W.frozen? ⟨ib, 0, none⟩ = false
  cbx : W.cell? ⟨ib + 1, 0, none⟩ = some (.slice p n cap)
  pts : ∀ i, i < n → ∃ b off, p = some ⟨b, off, none⟩ ∧ b < w.heap.size ∧ W.cell? ⟨b, off + i * 2, none⟩ = some (St (ptOf (txt l) i).1) ∧ W.cell? ⟨b, off + i * 2 + 1, none⟩ = some (St (ptOf (txt l) i).2)
theorem InsS.keep {w : World} {p : Option Addr} {cap n : Nat} {l : List Pt} {q : Pt} {ib k : Nat} {W W' : World} (h : InsS w p cap n l q ib k W) (hc : CellsKept W W') (hb : Below w.heap.size W W') : InsS w p cap n l q ib k W' :=
  ⟨h.bel.trans hb, h.ib1, hc.cell h.q0, hc.cell h.q1, hc.cell h.r1, hc.frozen h.r1 h.f1, hc.cell h.r2, hc.frozen h.r2 h.f2, hc.cell h.ic, hc.frozen h.ic h.fi, hc.cell h.cbx,
   fun i hi => let ⟨b, off, e, h0, h1, h2⟩ := h.pts i hi; ⟨b, off, e, h0, hc.cell h1, hc.cell h2⟩⟩
theorem InsS.ptsAt {w : World} {p : Option Addr} {cap n : Nat} {l : List Pt} {q : Pt} {ib k : Nat} {W : World} (hn : n = l.length) (h : InsS w p cap n l q ib k W) : PtsAt (ib + 1) p cap (txt l) W :=
  ⟨by rw [txt_length, ← hn]; exact h.cbx, fun i hi => let ⟨b, off, e, _, h1, h2⟩ := h.pts i (by rw [txt_length] at hi; omega); ⟨b, off, e, h1, h2⟩⟩
theorem InsS.put {w : World} {p : Option Addr} {cap n : Nat} {l : List Pt} {q : Pt} {ib k k' : Nat} {W : World} (h : InsS w p cap n l q ib k W) : InsS w p cap n l q ib k' (W.setCell ⟨ib, 0, none⟩ (.int .i64 (insI l q k'))) := by
  have hib := h.ib1
  refine ⟨h.bel.setCell (by simp; omega) _, hib, ?_, ?_, ?_, ?_, ?_, ?_, cell_eq h.ic, ?_, ?_, fun i hi => ?_⟩
  · rw [cell_ne _ _ _ _ (by omega)]; exact h.q0
  · rw [cell_ne _ _ _ _ (by omega)]; exact h.q1
  · rw [cell_ne _ _ _ _ (by omega)]; exact h.r1
  · rw [World.frozen?_setCell]; exact h.f1
  · rw [cell_ne _ _ _ _ (by omega)]; exact h.r2
  · rw [World.frozen?_setCell]; exact h.f2
  · rw [World.frozen?_setCell]; exact h.fi
  · rw [cell_ne _ _ _ _ (by omega)]; exact h.cbx
  · obtain ⟨b, off, e, h0, h1, h2⟩ := h.pts i hi
    exact ⟨b, off, e, h0, by rw [cell_ne _ _ _ _ (by omega)]; exact h1, by rw [cell_ne _ _ _ _ (by omega)]; exact h2⟩

/-- What is known ahead of the loop. -/
structure InsB (w : World) (p : Option Addr) (n : Nat) (l : List Pt) (q : Pt) (W : World) : Prop where
  bel : Below w.heap.size w W
  q0 : W.cell? ⟨w.heap.size, 0, none⟩ = some (St (numS q.x))
  q1 : W.cell? ⟨w.heap.size, 1, none⟩ = some (St (numS q.y))
  r1 : W.cell? ⟨w.heap.size + 1, 0, none⟩ = some (I 0)
  f1 : W.frozen? ⟨w.heap.size + 1, 0, none⟩ = false
  r2 : W.cell? ⟨w.heap.size + 1 + 1, 0, none⟩ = some (I 0)
  f2 : W.frozen? ⟨w.heap.size + 1 + 1, 0, none⟩ = false
  pts : ∀ i, i < n → ∃ b off, p = some ⟨b, off, none⟩ ∧ b < w.heap.size ∧ W.cell? ⟨b, off + i * 2, none⟩ = some (St (ptOf (txt l) i).1) ∧ W.cell? ⟨b, off + i * 2 + 1, none⟩ = some (St (ptOf (txt l) i).2)
theorem InsB.keep {w : World} {p : Option Addr} {n : Nat} {l : List Pt} {q : Pt} {W W' : World} (h : InsB w p n l q W) (hb : Below W.heap.size W W') : InsB w p n l q W' :=
  have hc := cellsKept_below hb
  ⟨h.bel.trans (hb.mono h.bel.size), hc.cell h.q0, hc.cell h.q1, hc.cell h.r1, hc.frozen h.r1 h.f1, hc.cell h.r2, hc.frozen h.r2 h.f2,
   fun i hi => let ⟨b, off, e, h0, h1, h2⟩ := h.pts i hi; ⟨b, off, e, h0, hc.cell h1, hc.cell h2⟩⟩
theorem InsB.start (w : World) (p : Option Addr) (l : List Pt) (q : Pt) (hp : RowPts p l w) :
    InsB w p l.length l q (((w.alloc (.cells #[St (numS q.x), St (numS q.y)] 24)).alloc (.cells #[I 0] 3)).alloc (.cells #[I 0] 28)) := by
  have hb : Below w.heap.size w (((w.alloc (.cells #[St (numS q.x), St (numS q.y)] 24)).alloc (.cells #[I 0] 3)).alloc (.cells #[I 0] 28)) := (((Below.refl _ w).alloc (Nat.le_refl _) _).alloc (by simp) _).alloc (by simp; omega) _
  have A0 := (Below.heap_alloc (((w.alloc (.cells #[St (numS q.x), St (numS q.y)] 24)).alloc (.cells #[I 0] 3))) (.cells #[I 0] 28) w.heap.size (by simp; omega)).trans ((Below.heap_alloc (w.alloc (.cells #[St (numS q.x), St (numS q.y)] 24)) (.cells #[I 0] 3) w.heap.size (by simp)).trans (World.alloc_heap_new w (.cells #[St (numS q.x), St (numS q.y)] 24 (0, 0))))
  have b1 := (Boxed.new (w.alloc (.cells #[St (numS q.x), St (numS q.y)] 24)) 3 (I 0)).alloc (.cells #[I 0] 28)
  have b2 := Boxed.new ((w.alloc (.cells #[St (numS q.x), St (numS q.y)] 24)).alloc (.cells #[I 0] 3)) 28 (I 0)
  simp only [World.size_alloc] at b1 b2
  refine ⟨hb, by rw [Go.Joins.cell_of_block A0]; rfl, by rw [Go.Joins.cell_of_block A0]; rfl, b1.cell, b1.frozen, b2.cell, b2.frozen, fun i hi => ?_⟩
  obtain ⟨b, off, e, h1, h2⟩ := hp i hi
  exact ⟨b, off, e, cell_lt h1, below_cell hb h1, below_cell hb h2⟩
theorem InsB.row {w : World} {p : Option Addr} {l : List Pt} {q : Pt} {W : World} (h : InsB w p l.length l q W) : RowPts p l W := fun i hi => let ⟨b, off, e, _, h1, h2⟩ := h.pts i hi; ⟨b, off, e, h1, h2⟩

set_option maxRecDepth 100000 in
set_option maxHeartbeats 4000000 in
theorem inside_walk (p : Option Addr) (cap : Nat) (l : List Pt) (q : Pt) (h3 : 3 ≤ l.length) (hlen : l.length ≤ 4096)
    (C : Hid (∀ W : World, Wd W → RowPts p l W → Calls Tryz.prog 31 #[.slice p l.length cap] W fun e w' => e = .returned (.int .i64 0) ∧ Below W.heap.size W w'))
    (CP : Hid (∀ W : World, Wd W → Calls Tryz.prog 40 #[ptV q] W fun e w' => e = .returned (.int .i64 0) ∧ Below W.heap.size W w'))
    (M : Hid (∀ k, ∀ W : World, Wd W → Calls Tryz.prog 41 #[segV (cor l k) (cor l (k + 1)), segV q q] W fun e w' => e = .returned (.int .i64 (meet (cor l k) (cor l (k + 1)) q q)) ∧ Below W.heap.size W w'))
    (Y : Hid (∀ k, ∀ W : World, Wd W → Calls Tryz.prog 45 #[St (numS (cor l k).y), St (numS q.y)] W fun e w' => e = .returned (.int .i64 (cmpR (cor l k).y q.y)) ∧ Below W.heap.size W w'))
    (T : Hid (∀ k, ∀ W : World, Wd W → Calls Tryz.prog 46 #[ptV (cor l k), ptV (cor l (k + 1)), ptV q] W fun e w' => e = .returned (.int .i64 (turn (cor l k) (cor l (k + 1)) q)) ∧ Below W.heap.size W w'))
    (w : World) (HW : Hid (Wd w)) (HP : Hid (RowPts p l w)) :
    Calls Tryz.prog 17 #[.slice p l.length cap, ptV q] w fun e w' => ∃ r : Int, e = .returned (.tuple #[.int .i64 r, .int .i64 0]) ∧ (((∃ k, k < l.length ∧ onS l q k) ∧ r = 0) ∨ ((∀ k, k < l.length → ¬ onS l q k) ∧ r = insI l q l.length)) ∧ Below w.heap.size w w' := by
  refine (callsIn_wide (n := 3)).1 ?_
  refine callsIn_of_wp_marks Tryz.func17 rfl trivial ?_ rfl
  simp only [Tryz.ntmps17, List.size_toArray, List.length_cons, List.length_nil, Nat.reduceAdd, Nat.reduceSub, Array.replicate_succ, Array.replicate_zero, List.push_toArray, List.append_toArray, List.nil_append, List.cons_append]
  obtain ⟨n, hn⟩ : ∃ n, n = l.length := ⟨_, rfl⟩
  obtain ⟨W0, hW0⟩ : ∃ W0, W0 = ((w.alloc (.cells #[St (numS q.x), St (numS q.y)] 24)).alloc (.cells #[I 0] 3)).alloc (.cells #[I 0] 28) := ⟨_, rfl⟩
  have hb0 := InsB.start w p l q HP.out
  rw [← hW0] at hb0
  have hCk := C.out W0 (HW.out.below hb0.bel) hb0.row
  rw [← hn] at h3 hlen hCk hb0 ⊢
  have HN := Lib.hid hn; clear hn
  have HCk := Lib.hid hCk; clear hCk C
  have HB0 := Lib.hid hb0
  have HW0 := Lib.hid hW0
  clear hW0 hb0
  unfold ptV
  gi_wp2
  refine ⟨trivial, ?_⟩
  have h9 : ((w.alloc (.cells #[St (numS q.x), St (numS q.y)] 24)).alloc (.cells #[.int .i64 0] 3)).alloc (.cells #[.int .i64 0] 28) = W0 := HW0.out.symm
  rw [h9]
  clear h9 HW0
  refine (callsIn_wide.2 HCk.out).mono ?_
  rintro e w1 ⟨rfl, hb1⟩
  have HB1 := Lib.hid (HB0.out.keep hb1); clear hb1 HB0 HCk
  have g0 := HB1.out.q0; have g1 := HB1.out.q1
  gi_wp2
  refine ⟨trivial, (callsIn_wide.2 (CP.out w1 (HW.out.below HB1.out.bel))).mono ?_⟩
  rintro e w2 ⟨rfl, hb2⟩
  have HB2 := Lib.hid (HB1.out.keep hb2); clear hb2 HB1 g0 g1 CP
  gi_wp2_with (refine ⟨trivial, ?_⟩; gi_at_call 32; refine (callsIn_wide.2 (sides_any _ _ _ _ _ rfl)).mono ?_; rintro e w' ⟨rfl, rfl⟩)
  obtain ⟨W1, hW1⟩ : ∃ W1, W1 = (w2.alloc (.cells #[.int .i64 (-1)] 3)).alloc (.cells #[.slice p n cap] 26) := ⟨_, rfl⟩
  rw [← hW1]
  have hS1 : InsS w p cap n l q w2.heap.size 0 W1 := by
    have b1 := (Boxed.new w2 3 (.int .i64 (-1))).alloc (.cells #[.slice p n cap] 26)
    have b2 := Boxed.new (w2.alloc (.cells #[.int .i64 (-1)] 3)) 26 (.slice p n cap)
    rw [World.size_alloc] at b2
    have hw : Below w2.heap.size w2 ((w2.alloc (.cells #[.int .i64 (-1)] 3)).alloc (.cells #[.slice p n cap] 26)) := ((Below.refl _ w2).alloc (Nat.le_refl _) _).alloc (by simp) _
    have h := HB2.out.keep hw
    rw [hW1]
    exact ⟨h.bel, cell_lt HB2.out.r2, h.q0, h.q1, h.r1, h.f1, h.r2, h.f2, b1.cell, b1.frozen, b2.cell, h.pts⟩
  clear hW1
  have HS1 := Lib.hid hS1.bel.size
  have hseq := sides_ix 2 (by omega) (w2.heap.size + 1) (txt l) (by rw [txt_length, ← HN.out]; omega) (fun W => ∃ j, InsS w p cap n l q w2.heap.size j W) p cap (fun W ⟨j, h⟩ => h.ptsAt HN.out)
  rw [txt_length, ← HN.out] at hseq
  refine range_out (n := 3) (B := w.heap.size) rfl (by omega) rfl trivial (enters_of Tryz.func64 (by kernel_rfl) rfl) hseq (fun k args h => by subst h; rfl) hS1.bel.size
    (fun j W => InsS w p cap n l q w2.heap.size j W ∧ ∀ i, i < j → ¬ onS l q i)
    (fun c _ W => c = .ret ∧ Below w.heap.size w W ∧ W.cell? ⟨w.heap.size + 1, 0, none⟩ = some (I 0) ∧ W.cell? ⟨w.heap.size + 1 + 1, 0, none⟩ = some (I 0) ∧ ∃ k, k < n ∧ onS l q k)
    (fun j X Y h hc hb => ⟨h.1.keep hc hb, h.2⟩) (fun c j X Y h hc hb => ⟨h.1, h.2.1.trans hb, hc.cell h.2.2.1, hc.cell h.2.2.2.1, h.2.2.2.2⟩) (fun j W h => ⟨j, h.1⟩) ⟨hS1, fun i h => by omega⟩
    (fun j _ a' W => ∃ bs, a' = { tmps := #[Value.slice p n cap, Value.agg #[St (numS q.x), St (numS q.y)], undef, Value.pointer (some { block := w.heap.size, off := 0 }), Value.pointer (some { block := w.heap.size + 1, off := 0 }), Value.pointer (some { block := w.heap.size + 1 + 1, off := 0 }), Value.pointer (some { block := w2.heap.size, off := 0 }), undef, .pointer (some ⟨bs, 0, none⟩), undef, undef, undef, Value.slice p n cap, Value.int IntKind.i64 0, Value.bool false, Value.bool false, Value.agg #[St (numS q.x), St (numS q.y)], Value.int IntKind.i64 0, Value.bool false, Value.bool false, Value.slice p n cap, Value.func (Fn.func 64) #[] #[Value.pointer (some { block := w2.heap.size + 1, off := 0 })], I j, segV (cor l j) (cor l (j + 1)), undef, undef, undef, undef, undef, undef, undef, undef, undef, undef, undef, undef, undef, undef, undef, undef, undef, undef, undef, undef, undef, undef, undef, undef, undef, undef, undef, undef, undef, undef, undef, undef, undef, undef, undef, undef, undef, undef, undef, undef, undef, undef, undef, undef, undef, undef, undef, undef, undef, undef, undef, undef, undef, undef, undef, undef, undef, undef, undef], defers := [] } ∧ SegAt bs (cor l j) (cor l (j + 1)) W)
    (fun j _ a' X Y h hc hb => let ⟨bs, e, h2⟩ := h; ⟨bs, e, h2.keep hc⟩) ?assign ?body ?done ?stop
  case assign =>
    rintro lp j args W K hlp hrec ⟨hS, hP⟩ hj rfl hK
    rw [side_txt l j (by rw [← HN.out]; exact hj)]
    have HK := Lib.hid hK; clear hK
    unfold segV
    gi_wp2
    have hb1 : Below W.heap.size W (W.alloc (.cells #[St (numS (cor l j).x), St (numS (cor l j).y), St (numS (cor l (j + 1)).x), St (numS (cor l (j + 1)).y)] 69)) := (Below.refl _ W).alloc (Nat.le_refl _) _
    exact HK.out _ _ ((keeps_of_below hb1).from _) ⟨hS.keep (cellsKept_below hb1) (hb1.mono hS.bel.size), hP⟩ ⟨W.heap.size, rfl, SegAt.new W (cor l j) (cor l (j + 1)) 69⟩
  case body =>
    rintro lp j args a' W hlp ⟨r', hr'⟩ ⟨hS, hP⟩ hj rfl ⟨bs, rfl, hseg⟩
    have hbl := hS.bel
    have H0 := Lib.hid (⟨hS, hP⟩ : InsS w p cap n l q w2.heap.size j W ∧ ∀ i, i < j → ¬ onS l q i)
    have hks : ∀ W' : World, Below W.heap.size W W' →
        W'.cell? ⟨bs, 0, none⟩ = some (St (numS (cor l j).x)) ∧ W'.cell? ⟨bs, 1, none⟩ = some (St (numS (cor l j).y)) ∧ W'.cell? ⟨bs, 2, none⟩ = some (St (numS (cor l (j + 1)).x)) ∧ W'.cell? ⟨bs, 3, none⟩ = some (St (numS (cor l (j + 1)).y)) ∧
        W'.cell? ⟨w.heap.size, 0, none⟩ = some (St (numS q.x)) ∧ W'.cell? ⟨w.heap.size, 1, none⟩ = some (St (numS q.y)) ∧ W'.cell? ⟨w.heap.size + 1, 0, none⟩ = some (I 0) ∧ W'.frozen? ⟨w.heap.size + 1, 0, none⟩ = false ∧
        W'.cell? ⟨w.heap.size + 1 + 1, 0, none⟩ = some (I 0) ∧ W'.frozen? ⟨w.heap.size + 1 + 1, 0, none⟩ = false ∧ W'.cell? ⟨w2.heap.size, 0, none⟩ = some (.int .i64 (insI l q j)) ∧ W'.frozen? ⟨w2.heap.size, 0, none⟩ = false := fun W' hb => by
      have h1 := hseg.keep (cellsKept_below hb); have h2 := hS.keep (cellsKept_below hb) (hb.mono hS.bel.size)
      exact ⟨h1.h0, h1.h1, h1.h2, h1.h3, h2.q0, h2.q1, h2.r1, h2.f1, h2.r2, h2.f2, h2.ic, h2.fi⟩
    have KS := Lib.hid hks; clear hks hseg hS hP hseq hS1 hr' HB2
    have hbb : Below W.heap.size W W := Below.refl _ W
    obtain ⟨g0, g1, g2, g3, q0, q1, r1, f1, r2, f2, ic, fi⟩ := KS.out W hbb
    obtain ⟨c1, hc1⟩ : ∃ c, c = cmpR (cor l j).y q.y := ⟨_, rfl⟩
    obtain ⟨c2, hc2⟩ : ∃ c, c = cmpR (cor l (j + 1)).y q.y := ⟨_, rfl⟩
    obtain ⟨t, ht⟩ : ∃ c, c = turn (cor l j) (cor l (j + 1)) q := ⟨_, rfl⟩
    obtain ⟨m, hm⟩ : ∃ c, c = meet (cor l j) (cor l (j + 1)) q q := ⟨_, rfl⟩
    obtain ⟨z, hz⟩ : ∃ z, z = insI l q j := ⟨_, rfl⟩
    have y1 := Y.out j; have y2 := Y.out (j + 1); have t1 := T.out j; have m1 := M.out j
    rw [← hc1] at y1; rw [← hc2] at y2; rw [← ht] at t1; rw [← hm] at m1
    have hfl : flipS l q j ↔ (c1 ≤ 0 ∧ 0 < c2 ∧ 0 < t) ∨ (c2 ≤ 0 ∧ 0 < c1 ∧ t < 0) := by rw [hc1, hc2, ht]; exact Iff.rfl
    have hi1 : insI l q (j + 1) = if flipS l q j then - z else z := by rw [hz]; rfl
    have hzz : z = 1 ∨ z = -1 := by rw [hz]; exact insI_one l q j
    have hon : onS l q j ↔ m = 1 := by rw [hm]; exact Iff.rfl
    have hwz : IntKind.i64.wrap (-z) = -z := IntWalk.i64_in _ (by omega)
    rw [← hz] at ic KS
    unfold segV ptV at *
    have Y1 := Lib.hid y1; have Y2 := Lib.hid y2; have T1 := Lib.hid t1; have MM := Lib.hid m1
    have HF := Lib.hid hfl; have HI := Lib.hid hi1; have HO := Lib.hid hon
    clear y1 y2 t1 m1 hfl hi1 hon hzz hc1 hc2 ht hm Y T M
    have HZ := Lib.hid hz; clear hz
    generalize numS (cor l j).x = a1 at *
    generalize numS (cor l j).y = a2 at *
    generalize numS (cor l (j + 1)).x = a3 at *
    generalize numS (cor l (j + 1)).y = a4 at *
    gi_wp2
    all_goals first | (exact absurd (Option.some.inj ‹some undef = some (Value.bool _)›) (fun h => Value.noConfusion h)) | skip
    refine ⟨trivial, (CallsIn.inRound lp (callsIn_wide.2 (MM.out W (HW.out.below (hbl.trans (hbb.mono hbl.size)))))).mono ?_⟩
    rintro e X1 ⟨rfl, hbn⟩
    have hbx := hbb.trans (hbn.mono hbb.size)
    clear hbb hbn g0 g1 g2 g3 q0 q1 r1 f1 r2 f2 ic fi
    have hbb := hbx; clear hbx
    obtain ⟨g0, g1, g2, g3, q0, q1, r1, f1, r2, f2, ic, fi⟩ := KS.out X1 hbb
    have hend : ∀ X : World, Below W.heap.size W X → m ≠ 1 → ¬ flipS l q j → KeepsFrom W1.heap.size W X ∧ InsS w p cap n l q w2.heap.size (j + 1) X ∧ ∀ i, i < j + 1 → ¬ onS l q i := by
      intro X hb hm hf
      obtain ⟨hS, hP⟩ := H0.out
      have h := hS.keep (cellsKept_below hb) (hb.mono hS.bel.size)
      refine ⟨(keeps_of_below hb).from _, ⟨h.bel, h.ib1, h.q0, h.q1, h.r1, h.f1, h.r2, h.f2, ?_, h.fi, h.cbx, h.pts⟩, fun i hi => ?_⟩
      · rw [HI.out, if_neg hf, HZ.out]; exact h.ic
      · by_cases e : i = j
        · subst e; rw [HO.out]; exact hm
        · exact hP i (by omega)
    have hflip : ∀ X : World, Below W.heap.size W X → m ≠ 1 → flipS l q j → KeepsFrom W1.heap.size W (X.setCell ⟨w2.heap.size, 0, none⟩ (.int .i64 (-z))) ∧ InsS w p cap n l q w2.heap.size (j + 1) (X.setCell ⟨w2.heap.size, 0, none⟩ (.int .i64 (-z))) ∧ ∀ i, i < j + 1 → ¬ onS l q i := by
      intro X hb hm hf
      obtain ⟨hS, hP⟩ := H0.out
      have h := (hS.keep (cellsKept_below hb) (hb.mono hS.bel.size)).put (k' := j + 1)
      rw [HI.out, if_pos hf] at h
      refine ⟨((keeps_of_below hb).from _).trans ((KeepsOthers.setCell _ _ _).from _), h, fun i hi => ?_⟩
      by_cases e : i = j
      · subst e; rw [HO.out]; exact hm
      · exact hP i (by omega)
    have HEnd := Lib.hid hend; have HFlip := Lib.hid hflip; clear hend hflip
    by_cases hm : m = 1
    · have hmb : (m == 1) = true := by simpa using hm
      have HM := Lib.hid hm; clear hm
      gi_wp2
      obtain ⟨hS, hP⟩ := H0.out
      refine ⟨((keeps_of_below hbb).from _).trans (((KeepsOthers.setCell _ _ _).from _).trans ((KeepsOthers.setCell _ _ _).from _)), rfl, ((hbl.trans (hbb.mono hbl.size)).setCell (p := ⟨w.heap.size + 1, 0, none⟩) (by simp) _).setCell (p := ⟨w.heap.size + 1 + 1, 0, none⟩) (by simp; omega) _, ?_, ?_, j, hj, HO.out.2 HM.out⟩
      · rw [cell_ne _ _ _ _ (by omega)]; exact cell_eq r1
      · exact cell_eq (by rw [cell_ne _ _ _ _ (by omega)]; exact r2)
    · have hmb : (m == 1) = false := by simpa using hm
      have HM := Lib.hid hm; clear hm
      rcases (show (decide (c1 ≤ 0) = true ∧ decide (0 < c1) = false) ∨ (decide (c1 ≤ 0) = false ∧ decide (0 < c1) = true) by simp only [decide_eq_true_eq, decide_eq_false_iff_not]; omega) with ⟨d1, d2⟩ | ⟨d1, d2⟩ <;>
      rcases (show (decide (0 < c2) = true ∧ decide (c2 ≤ 0) = false) ∨ (decide (0 < c2) = false ∧ decide (c2 ≤ 0) = true) by simp only [decide_eq_true_eq, decide_eq_false_iff_not]; omega) with ⟨e1, e2⟩ | ⟨e1, e2⟩
      · gi_wp2
        all_goals first | (exact absurd (Option.some.inj ‹some undef = some (Value.bool _)›) (fun h => Value.noConfusion h)) | skip
        refine ⟨trivial, (CallsIn.inRound lp (callsIn_wide.2 (Y1.out X1 (HW.out.below (hbl.trans (hbb.mono hbl.size)))))).mono ?_⟩
        rintro e X2 ⟨rfl, hbn⟩
        have hbx := hbb.trans (hbn.mono hbb.size)
        clear hbb hbn g0 g1 g2 g3 q0 q1 r1 f1 r2 f2 ic fi
        have hbb := hbx; clear hbx
        obtain ⟨g0, g1, g2, g3, q0, q1, r1, f1, r2, f2, ic, fi⟩ := KS.out X2 hbb
        gi_wp2
        all_goals first | (exact absurd (Option.some.inj ‹some undef = some (Value.bool _)›) (fun h => Value.noConfusion h)) | skip
        refine ⟨trivial, (CallsIn.inRound lp (callsIn_wide.2 (Y2.out X2 (HW.out.below (hbl.trans (hbb.mono hbl.size)))))).mono ?_⟩
        rintro e X3 ⟨rfl, hbn⟩
        have hbx := hbb.trans (hbn.mono hbb.size)
        clear hbb hbn g0 g1 g2 g3 q0 q1 r1 f1 r2 f2 ic fi
        have hbb := hbx; clear hbx
        obtain ⟨g0, g1, g2, g3, q0, q1, r1, f1, r2, f2, ic, fi⟩ := KS.out X3 hbb
        gi_wp2
        all_goals first | (exact absurd (Option.some.inj ‹some undef = some (Value.bool _)›) (fun h => Value.noConfusion h)) | skip
        refine ⟨trivial, (CallsIn.inRound lp (callsIn_wide.2 (Y2.out X3 (HW.out.below (hbl.trans (hbb.mono hbl.size)))))).mono ?_⟩
        rintro e X4 ⟨rfl, hbn⟩
        have hbx := hbb.trans (hbn.mono hbb.size)
        clear hbb hbn g0 g1 g2 g3 q0 q1 r1 f1 r2 f2 ic fi
        have hbb := hbx; clear hbx
        obtain ⟨g0, g1, g2, g3, q0, q1, r1, f1, r2, f2, ic, fi⟩ := KS.out X4 hbb
        gi_wp2
        all_goals first | (exact absurd (Option.some.inj ‹some undef = some (Value.bool _)›) (fun h => Value.noConfusion h)) | skip
        refine ⟨trivial, ?_⟩
        gi_wp2
        all_goals first | (exact absurd (Option.some.inj ‹some undef = some (Value.bool _)›) (fun h => Value.noConfusion h)) | skip
        refine ⟨trivial, (CallsIn.inRound lp (callsIn_wide.2 (T1.out X4 (HW.out.below (hbl.trans (hbb.mono hbl.size)))))).mono ?_⟩
        rintro e X5 ⟨rfl, hbn⟩
        have hbx := hbb.trans (hbn.mono hbb.size)
        clear hbb hbn g0 g1 g2 g3 q0 q1 r1 f1 r2 f2 ic fi
        have hbb := hbx; clear hbx
        obtain ⟨g0, g1, g2, g3, q0, q1, r1, f1, r2, f2, ic, fi⟩ := KS.out X5 hbb
        rcases (show (decide (0 < t) = true ∧ decide (t < 0) = false) ∨ (decide (0 < t) = false ∧ decide (t < 0) = true) ∨ (decide (0 < t) = false ∧ decide (t < 0) = false) by simp only [decide_eq_true_eq, decide_eq_false_iff_not]; omega) with ⟨t1, t2⟩ | ⟨t1, t2⟩ | ⟨t1, t2⟩
        · have HD := Lib.hid (⟨⟨d1, d2⟩, ⟨e1, e2⟩, ⟨t1, t2⟩⟩ : (_ ∧ _) ∧ (_ ∧ _) ∧ (_ ∧ _))
          gi_wp2
          all_goals first | (exact absurd (Option.some.inj ‹some undef = some (Value.bool _)›) (fun h => Value.noConfusion h)) | skip
          obtain ⟨⟨d1, d2⟩, ⟨e1, e2⟩, ⟨t1, t2⟩⟩ := HD.out
          simp only [decide_eq_true_eq, decide_eq_false_iff_not] at d1 d2 e1 e2 t1 t2
          exact HFlip.out _ hbb HM.out (by rw [HF.out]; omega)
        · have HD := Lib.hid (⟨⟨d1, d2⟩, ⟨e1, e2⟩, ⟨t1, t2⟩⟩ : (_ ∧ _) ∧ (_ ∧ _) ∧ (_ ∧ _))
          gi_wp2
          all_goals first | (exact absurd (Option.some.inj ‹some undef = some (Value.bool _)›) (fun h => Value.noConfusion h)) | skip
          obtain ⟨⟨d1, d2⟩, ⟨e1, e2⟩, ⟨t1, t2⟩⟩ := HD.out
          simp only [decide_eq_true_eq, decide_eq_false_iff_not] at d1 d2 e1 e2 t1 t2
          exact HEnd.out _ hbb HM.out (by rw [HF.out]; omega)
        · have HD := Lib.hid (⟨⟨d1, d2⟩, ⟨e1, e2⟩, ⟨t1, t2⟩⟩ : (_ ∧ _) ∧ (_ ∧ _) ∧ (_ ∧ _))
          gi_wp2
          all_goals first | (exact absurd (Option.some.inj ‹some undef = some (Value.bool _)›) (fun h => Value.noConfusion h)) | skip
          obtain ⟨⟨d1, d2⟩, ⟨e1, e2⟩, ⟨t1, t2⟩⟩ := HD.out
          simp only [decide_eq_true_eq, decide_eq_false_iff_not] at d1 d2 e1 e2 t1 t2
          exact HEnd.out _ hbb HM.out (by rw [HF.out]; omega)
      · gi_wp2
        all_goals first | (exact absurd (Option.some.inj ‹some undef = some (Value.bool _)›) (fun h => Value.noConfusion h)) | skip
        refine ⟨trivial, (CallsIn.inRound lp (callsIn_wide.2 (Y1.out X1 (HW.out.below (hbl.trans (hbb.mono hbl.size)))))).mono ?_⟩
        rintro e X2 ⟨rfl, hbn⟩
        have hbx := hbb.trans (hbn.mono hbb.size)
        clear hbb hbn g0 g1 g2 g3 q0 q1 r1 f1 r2 f2 ic fi
        have hbb := hbx; clear hbx
        obtain ⟨g0, g1, g2, g3, q0, q1, r1, f1, r2, f2, ic, fi⟩ := KS.out X2 hbb
        gi_wp2
        all_goals first | (exact absurd (Option.some.inj ‹some undef = some (Value.bool _)›) (fun h => Value.noConfusion h)) | skip
        refine ⟨trivial, (CallsIn.inRound lp (callsIn_wide.2 (Y2.out X2 (HW.out.below (hbl.trans (hbb.mono hbl.size)))))).mono ?_⟩
        rintro e X3 ⟨rfl, hbn⟩
        have hbx := hbb.trans (hbn.mono hbb.size)
        clear hbb hbn g0 g1 g2 g3 q0 q1 r1 f1 r2 f2 ic fi
        have hbb := hbx; clear hbx
        obtain ⟨g0, g1, g2, g3, q0, q1, r1, f1, r2, f2, ic, fi⟩ := KS.out X3 hbb
        gi_wp2
        all_goals first | (exact absurd (Option.some.inj ‹some undef = some (Value.bool _)›) (fun h => Value.noConfusion h)) | skip
        refine ⟨trivial, (CallsIn.inRound lp (callsIn_wide.2 (Y2.out X3 (HW.out.below (hbl.trans (hbb.mono hbl.size)))))).mono ?_⟩
        rintro e X4 ⟨rfl, hbn⟩
        have hbx := hbb.trans (hbn.mono hbb.size)
        clear hbb hbn g0 g1 g2 g3 q0 q1 r1 f1 r2 f2 ic fi
        have hbb := hbx; clear hbx
        obtain ⟨g0, g1, g2, g3, q0, q1, r1, f1, r2, f2, ic, fi⟩ := KS.out X4 hbb
        gi_wp2
        all_goals first | (exact absurd (Option.some.inj ‹some undef = some (Value.bool _)›) (fun h => Value.noConfusion h)) | skip
        refine ⟨trivial, (CallsIn.inRound lp (callsIn_wide.2 (Y1.out X4 (HW.out.below (hbl.trans (hbb.mono hbl.size)))))).mono ?_⟩
        rintro e X5 ⟨rfl, hbn⟩
        have hbx := hbb.trans (hbn.mono hbb.size)
        clear hbb hbn g0 g1 g2 g3 q0 q1 r1 f1 r2 f2 ic fi
        have hbb := hbx; clear hbx
        obtain ⟨g0, g1, g2, g3, q0, q1, r1, f1, r2, f2, ic, fi⟩ := KS.out X5 hbb
        gi_wp2
        all_goals first | (exact absurd (Option.some.inj ‹some undef = some (Value.bool _)›) (fun h => Value.noConfusion h)) | skip
        refine ⟨trivial, (CallsIn.inRound lp (callsIn_wide.2 (T1.out X5 (HW.out.below (hbl.trans (hbb.mono hbl.size)))))).mono ?_⟩
        rintro e X6 ⟨rfl, hbn⟩
        have hbx := hbb.trans (hbn.mono hbb.size)
        clear hbb hbn g0 g1 g2 g3 q0 q1 r1 f1 r2 f2 ic fi
        have hbb := hbx; clear hbx
        obtain ⟨g0, g1, g2, g3, q0, q1, r1, f1, r2, f2, ic, fi⟩ := KS.out X6 hbb
        rcases (show (decide (0 < t) = true ∧ decide (t < 0) = false) ∨ (decide (0 < t) = false ∧ decide (t < 0) = true) ∨ (decide (0 < t) = false ∧ decide (t < 0) = false) by simp only [decide_eq_true_eq, decide_eq_false_iff_not]; omega) with ⟨t1, t2⟩ | ⟨t1, t2⟩ | ⟨t1, t2⟩
        · have HD := Lib.hid (⟨⟨d1, d2⟩, ⟨e1, e2⟩, ⟨t1, t2⟩⟩ : (_ ∧ _) ∧ (_ ∧ _) ∧ (_ ∧ _))
          gi_wp2
          all_goals first | (exact absurd (Option.some.inj ‹some undef = some (Value.bool _)›) (fun h => Value.noConfusion h)) | skip
          obtain ⟨⟨d1, d2⟩, ⟨e1, e2⟩, ⟨t1, t2⟩⟩ := HD.out
          simp only [decide_eq_true_eq, decide_eq_false_iff_not] at d1 d2 e1 e2 t1 t2
          exact HEnd.out _ hbb HM.out (by rw [HF.out]; omega)
        · have HD := Lib.hid (⟨⟨d1, d2⟩, ⟨e1, e2⟩, ⟨t1, t2⟩⟩ : (_ ∧ _) ∧ (_ ∧ _) ∧ (_ ∧ _))
          gi_wp2
          all_goals first | (exact absurd (Option.some.inj ‹some undef = some (Value.bool _)›) (fun h => Value.noConfusion h)) | skip
          obtain ⟨⟨d1, d2⟩, ⟨e1, e2⟩, ⟨t1, t2⟩⟩ := HD.out
          simp only [decide_eq_true_eq, decide_eq_false_iff_not] at d1 d2 e1 e2 t1 t2
          exact HEnd.out _ hbb HM.out (by rw [HF.out]; omega)
        · have HD := Lib.hid (⟨⟨d1, d2⟩, ⟨e1, e2⟩, ⟨t1, t2⟩⟩ : (_ ∧ _) ∧ (_ ∧ _) ∧ (_ ∧ _))
          gi_wp2
          all_goals first | (exact absurd (Option.some.inj ‹some undef = some (Value.bool _)›) (fun h => Value.noConfusion h)) | skip
          obtain ⟨⟨d1, d2⟩, ⟨e1, e2⟩, ⟨t1, t2⟩⟩ := HD.out
          simp only [decide_eq_true_eq, decide_eq_false_iff_not] at d1 d2 e1 e2 t1 t2
          exact HEnd.out _ hbb HM.out (by rw [HF.out]; omega)
      · gi_wp2
        all_goals first | (exact absurd (Option.some.inj ‹some undef = some (Value.bool _)›) (fun h => Value.noConfusion h)) | skip
        refine ⟨trivial, (CallsIn.inRound lp (callsIn_wide.2 (Y1.out X1 (HW.out.below (hbl.trans (hbb.mono hbl.size)))))).mono ?_⟩
        rintro e X2 ⟨rfl, hbn⟩
        have hbx := hbb.trans (hbn.mono hbb.size)
        clear hbb hbn g0 g1 g2 g3 q0 q1 r1 f1 r2 f2 ic fi
        have hbb := hbx; clear hbx
        obtain ⟨g0, g1, g2, g3, q0, q1, r1, f1, r2, f2, ic, fi⟩ := KS.out X2 hbb
        gi_wp2
        all_goals first | (exact absurd (Option.some.inj ‹some undef = some (Value.bool _)›) (fun h => Value.noConfusion h)) | skip
        refine ⟨trivial, ?_⟩
        gi_wp2
        all_goals first | (exact absurd (Option.some.inj ‹some undef = some (Value.bool _)›) (fun h => Value.noConfusion h)) | skip
        refine ⟨trivial, (CallsIn.inRound lp (callsIn_wide.2 (Y2.out X2 (HW.out.below (hbl.trans (hbb.mono hbl.size)))))).mono ?_⟩
        rintro e X3 ⟨rfl, hbn⟩
        have hbx := hbb.trans (hbn.mono hbb.size)
        clear hbb hbn g0 g1 g2 g3 q0 q1 r1 f1 r2 f2 ic fi
        have hbb := hbx; clear hbx
        obtain ⟨g0, g1, g2, g3, q0, q1, r1, f1, r2, f2, ic, fi⟩ := KS.out X3 hbb
        gi_wp2
        all_goals first | (exact absurd (Option.some.inj ‹some undef = some (Value.bool _)›) (fun h => Value.noConfusion h)) | skip
        refine ⟨trivial, ?_⟩
        gi_wp2
        all_goals first | (exact absurd (Option.some.inj ‹some undef = some (Value.bool _)›) (fun h => Value.noConfusion h)) | skip
        refine ⟨trivial, (CallsIn.inRound lp (callsIn_wide.2 (T1.out X3 (HW.out.below (hbl.trans (hbb.mono hbl.size)))))).mono ?_⟩
        rintro e X4 ⟨rfl, hbn⟩
        have hbx := hbb.trans (hbn.mono hbb.size)
        clear hbb hbn g0 g1 g2 g3 q0 q1 r1 f1 r2 f2 ic fi
        have hbb := hbx; clear hbx
        obtain ⟨g0, g1, g2, g3, q0, q1, r1, f1, r2, f2, ic, fi⟩ := KS.out X4 hbb
        rcases (show (decide (0 < t) = true ∧ decide (t < 0) = false) ∨ (decide (0 < t) = false ∧ decide (t < 0) = true) ∨ (decide (0 < t) = false ∧ decide (t < 0) = false) by simp only [decide_eq_true_eq, decide_eq_false_iff_not]; omega) with ⟨t1, t2⟩ | ⟨t1, t2⟩ | ⟨t1, t2⟩
        · have HD := Lib.hid (⟨⟨d1, d2⟩, ⟨e1, e2⟩, ⟨t1, t2⟩⟩ : (_ ∧ _) ∧ (_ ∧ _) ∧ (_ ∧ _))
          gi_wp2
          all_goals first | (exact absurd (Option.some.inj ‹some undef = some (Value.bool _)›) (fun h => Value.noConfusion h)) | skip
          obtain ⟨⟨d1, d2⟩, ⟨e1, e2⟩, ⟨t1, t2⟩⟩ := HD.out
          simp only [decide_eq_true_eq, decide_eq_false_iff_not] at d1 d2 e1 e2 t1 t2
          exact HEnd.out _ hbb HM.out (by rw [HF.out]; omega)
        · have HD := Lib.hid (⟨⟨d1, d2⟩, ⟨e1, e2⟩, ⟨t1, t2⟩⟩ : (_ ∧ _) ∧ (_ ∧ _) ∧ (_ ∧ _))
          gi_wp2
          all_goals first | (exact absurd (Option.some.inj ‹some undef = some (Value.bool _)›) (fun h => Value.noConfusion h)) | skip
          obtain ⟨⟨d1, d2⟩, ⟨e1, e2⟩, ⟨t1, t2⟩⟩ := HD.out
          simp only [decide_eq_true_eq, decide_eq_false_iff_not] at d1 d2 e1 e2 t1 t2
          exact HEnd.out _ hbb HM.out (by rw [HF.out]; omega)
        · have HD := Lib.hid (⟨⟨d1, d2⟩, ⟨e1, e2⟩, ⟨t1, t2⟩⟩ : (_ ∧ _) ∧ (_ ∧ _) ∧ (_ ∧ _))
          gi_wp2
          all_goals first | (exact absurd (Option.some.inj ‹some undef = some (Value.bool _)›) (fun h => Value.noConfusion h)) | skip
          obtain ⟨⟨d1, d2⟩, ⟨e1, e2⟩, ⟨t1, t2⟩⟩ := HD.out
          simp only [decide_eq_true_eq, decide_eq_false_iff_not] at d1 d2 e1 e2 t1 t2
          exact HEnd.out _ hbb HM.out (by rw [HF.out]; omega)
      · gi_wp2
        all_goals first | (exact absurd (Option.some.inj ‹some undef = some (Value.bool _)›) (fun h => Value.noConfusion h)) | skip
        refine ⟨trivial, (CallsIn.inRound lp (callsIn_wide.2 (Y1.out X1 (HW.out.below (hbl.trans (hbb.mono hbl.size)))))).mono ?_⟩
        rintro e X2 ⟨rfl, hbn⟩
        have hbx := hbb.trans (hbn.mono hbb.size)
        clear hbb hbn g0 g1 g2 g3 q0 q1 r1 f1 r2 f2 ic fi
        have hbb := hbx; clear hbx
        obtain ⟨g0, g1, g2, g3, q0, q1, r1, f1, r2, f2, ic, fi⟩ := KS.out X2 hbb
        gi_wp2
        all_goals first | (exact absurd (Option.some.inj ‹some undef = some (Value.bool _)›) (fun h => Value.noConfusion h)) | skip
        refine ⟨trivial, ?_⟩
        gi_wp2
        all_goals first | (exact absurd (Option.some.inj ‹some undef = some (Value.bool _)›) (fun h => Value.noConfusion h)) | skip
        refine ⟨trivial, (CallsIn.inRound lp (callsIn_wide.2 (Y2.out X2 (HW.out.below (hbl.trans (hbb.mono hbl.size)))))).mono ?_⟩
        rintro e X3 ⟨rfl, hbn⟩
        have hbx := hbb.trans (hbn.mono hbb.size)
        clear hbb hbn g0 g1 g2 g3 q0 q1 r1 f1 r2 f2 ic fi
        have hbb := hbx; clear hbx
        obtain ⟨g0, g1, g2, g3, q0, q1, r1, f1, r2, f2, ic, fi⟩ := KS.out X3 hbb
        gi_wp2
        all_goals first | (exact absurd (Option.some.inj ‹some undef = some (Value.bool _)›) (fun h => Value.noConfusion h)) | skip
        refine ⟨trivial, (CallsIn.inRound lp (callsIn_wide.2 (Y1.out X3 (HW.out.below (hbl.trans (hbb.mono hbl.size)))))).mono ?_⟩
        rintro e X4 ⟨rfl, hbn⟩
        have hbx := hbb.trans (hbn.mono hbb.size)
        clear hbb hbn g0 g1 g2 g3 q0 q1 r1 f1 r2 f2 ic fi
        have hbb := hbx; clear hbx
        obtain ⟨g0, g1, g2, g3, q0, q1, r1, f1, r2, f2, ic, fi⟩ := KS.out X4 hbb
        gi_wp2
        all_goals first | (exact absurd (Option.some.inj ‹some undef = some (Value.bool _)›) (fun h => Value.noConfusion h)) | skip
        refine ⟨trivial, (CallsIn.inRound lp (callsIn_wide.2 (T1.out X4 (HW.out.below (hbl.trans (hbb.mono hbl.size)))))).mono ?_⟩
        rintro e X5 ⟨rfl, hbn⟩
        have hbx := hbb.trans (hbn.mono hbb.size)
        clear hbb hbn g0 g1 g2 g3 q0 q1 r1 f1 r2 f2 ic fi
        have hbb := hbx; clear hbx
        obtain ⟨g0, g1, g2, g3, q0, q1, r1, f1, r2, f2, ic, fi⟩ := KS.out X5 hbb
        rcases (show (decide (0 < t) = true ∧ decide (t < 0) = false) ∨ (decide (0 < t) = false ∧ decide (t < 0) = true) ∨ (decide (0 < t) = false ∧ decide (t < 0) = false) by simp only [decide_eq_true_eq, decide_eq_false_iff_not]; omega) with ⟨t1, t2⟩ | ⟨t1, t2⟩ | ⟨t1, t2⟩
        · have HD := Lib.hid (⟨⟨d1, d2⟩, ⟨e1, e2⟩, ⟨t1, t2⟩⟩ : (_ ∧ _) ∧ (_ ∧ _) ∧ (_ ∧ _))
          gi_wp2
          all_goals first | (exact absurd (Option.some.inj ‹some undef = some (Value.bool _)›) (fun h => Value.noConfusion h)) | skip
          obtain ⟨⟨d1, d2⟩, ⟨e1, e2⟩, ⟨t1, t2⟩⟩ := HD.out
          simp only [decide_eq_true_eq, decide_eq_false_iff_not] at d1 d2 e1 e2 t1 t2
          exact HEnd.out _ hbb HM.out (by rw [HF.out]; omega)
        · have HD := Lib.hid (⟨⟨d1, d2⟩, ⟨e1, e2⟩, ⟨t1, t2⟩⟩ : (_ ∧ _) ∧ (_ ∧ _) ∧ (_ ∧ _))
          gi_wp2
          all_goals first | (exact absurd (Option.some.inj ‹some undef = some (Value.bool _)›) (fun h => Value.noConfusion h)) | skip
          obtain ⟨⟨d1, d2⟩, ⟨e1, e2⟩, ⟨t1, t2⟩⟩ := HD.out
          simp only [decide_eq_true_eq, decide_eq_false_iff_not] at d1 d2 e1 e2 t1 t2
          exact HFlip.out _ hbb HM.out (by rw [HF.out]; omega)
        · have HD := Lib.hid (⟨⟨d1, d2⟩, ⟨e1, e2⟩, ⟨t1, t2⟩⟩ : (_ ∧ _) ∧ (_ ∧ _) ∧ (_ ∧ _))
          gi_wp2
          all_goals first | (exact absurd (Option.some.inj ‹some undef = some (Value.bool _)›) (fun h => Value.noConfusion h)) | skip
          obtain ⟨⟨d1, d2⟩, ⟨e1, e2⟩, ⟨t1, t2⟩⟩ := HD.out
          simp only [decide_eq_true_eq, decide_eq_false_iff_not] at d1 d2 e1 e2 t1 t2
          exact HEnd.out _ hbb HM.out (by rw [HF.out]; omega)
  case done =>
    rintro D W hD ⟨hS, hP⟩ hK
    have ic := hS.ic; have r1 := hS.r1; have f1 := hS.f1; have r2 := hS.r2; have f2 := hS.f2
    obtain ⟨z, hz⟩ : ∃ z, z = insI l q n := ⟨_, rfl⟩
    rw [← hz] at ic
    have HX := Lib.hid (⟨hS.bel, hK, hP⟩ : Below w.heap.size w W ∧ W.heap[D]? = some (.deferred (some [])) ∧ ∀ i, i < n → ¬ onS l q i)
    have HZ := Lib.hid hz
    clear hS hP hK hseq hS1 hz Y T M HB2
    gi_wp2
    obtain ⟨hbel, hK, hP⟩ := HX.out
    have hK1 := (KeepsOthers.setCell W ⟨w.heap.size + 1, 0, none⟩ (.int .i64 z)).same D _ hK rfl
    have hK' := (KeepsOthers.setCell (W.setCell ⟨w.heap.size + 1, 0, none⟩ (.int .i64 z)) ⟨w.heap.size + 1 + 1, 0, none⟩ (.int .i64 0)).same D _ hK1 rfl
    refine ⟨by simp, .inl ⟨_, _, rfl, run_takeDeferred hK', ?_⟩⟩
    have c1 := cell_eq (u := .int .i64 z) r1
    have c2 : (W.setCell ⟨w.heap.size + 1, 0, none⟩ (.int .i64 z)).cell? ⟨w.heap.size + 1 + 1, 0, none⟩ = some (I 0) := by rw [cell_ne _ _ _ _ (by omega)]; exact r2
    have c3 := cell_eq (u := .int .i64 0) c2
    have c4 : ((W.setCell ⟨w.heap.size + 1, 0, none⟩ (.int .i64 z)).setCell ⟨w.heap.size + 1 + 1, 0, none⟩ (.int .i64 0)).cell? ⟨w.heap.size + 1, 0, none⟩ = some (.int .i64 z) := by rw [cell_ne _ _ _ _ (by omega)]; exact c1
    have e1 := (kept_put hK').cell c4
    have e2 := (kept_put hK').cell c3
    refine ⟨.tuple #[.int .i64 z, .int .i64 0], ?_, z, rfl, .inr ⟨fun k hk => hP k hk, HZ.out⟩, below_put ((hbel.setCell (p := ⟨w.heap.size + 1, 0, none⟩) (by simp) _).setCell (p := ⟨w.heap.size + 1 + 1, 0, none⟩) (by simp; omega) _) (by have := HS1.out; omega) hK'⟩
    simp [results, Tryz.f17, go_sem, e1, e2]
  case stop =>
    rintro D c k W hD ⟨rfl, hbel, r1, r2, hon⟩ hK
    have HX := Lib.hid (⟨hbel, hon⟩ : Below w.heap.size w W ∧ ∃ k, k < n ∧ onS l q k); clear hbel hon hseq hS1
    gi_wp2
    refine ⟨by simp, .inl ⟨_, _, rfl, run_takeDeferred hK, ?_⟩⟩
    have e1 := (kept_put hK).cell r1
    have e2 := (kept_put hK).cell r2
    obtain ⟨k', h1, h2⟩ := HX.out.2
    refine ⟨.tuple #[.int .i64 0, .int .i64 0], ?_, 0, rfl, .inl ⟨⟨k', h1, h2⟩, rfl⟩, below_put HX.out.1 (by have := HS1.out; omega) hK⟩
    simp [results, Tryz.f17, go_sem, e1, e2]

/-- Inside, where polygon and point are right. -/
theorem inside_ok (p : Option Addr) (cap : Nat) (l : List Pt) (q : Pt) (h3 : 3 ≤ l.length) (hlen : l.length ≤ 4096) (hz : ∀ i, szP (cor l i) 36) (hq : szP q 36) (hs : sidesP l) (hm : simpleP l) (w : World) (hw : Wd w) (hp : RowPts p l w) :
    Calls Tryz.prog 17 #[.slice p l.length cap, ptV q] w fun e w' => ∃ r : Int, e = .returned (.tuple #[.int .i64 r, .int .i64 0]) ∧ (((∃ k, k < l.length ∧ onS l q k) ∧ r = 0) ∨ ((∀ k, k < l.length → ¬ onS l q k) ∧ r = insI l q l.length)) ∧ Below w.heap.size w w' :=
  inside_walk p cap l q h3 hlen (Lib.hid fun W hW hp => check_poly p cap l h3 hlen hz hs hm W hW hp) (Lib.hid fun W hW => checkPoint_sz q hq W hW)
    (Lib.hid fun k W hW => meet_ok _ _ _ _ 36 (by omega) (by omega) (hz _) (hz _) hq hq W hW) (Lib.hid fun k W hW => pcmp_ok _ _ 36 36 (by omega) (by omega) (by omega) (hz _).2 hq.2 W hW)
    (Lib.hid fun k W hW => turn_ok _ _ _ 36 (by omega) (by omega) (hz _) (hz _) hq W hW) w (Lib.hid hw) (Lib.hid hp)
end Go.Proofs.YtapfekcbbhhieaaGreatDoor

namespace Go.Proofs.YtapfekcbbhhieaaGreatDoor
open Go.RowKit Go.Shelf Lib Str Limb
attribute [local go_sem] Oper.semAt_some

set_option maxRecDepth 100000 in
set_option maxHeartbeats 2000000 in
theorem normal_walk (x u v s1 s2 : ByteArray) (m d : Int) (hu : (u.toList == [48]) = false) (hl : (u.size : Int) + v.size ≤ 17) (hl0 : u.size ≤ 17 ∧ v.size ≤ 17)
    (CK : Hid (∀ W : World, Wd W → Calls Tryz.prog 158 #[.slice (some ⟨W.heap.size, 0, none⟩) 1 1, .slice (some ⟨W.heap.size + 1, 0, none⟩) 1 1] ((W.alloc (.cells #[.string x] 22)).alloc (.cells #[.string x] 22)) fun e w' => e = .returned (.int .i64 0) ∧ Below W.heap.size W w'))
    (O : Hid (∀ W : World, Wd W → Calls Tryz.prog 159 #[.string x] W fun e w' => e = .returned (.agg #[.string u, .string v]) ∧ Below W.heap.size W w'))
    (NU : Hid (∀ W : World, Wd W → Calls Tryz.prog 160 #[.string u] W fun e w' => e = .returned (.tuple #[.int .i64 m, .bool true]) ∧ Below W.heap.size W w'))
    (NV : Hid (∀ W : World, Wd W → Calls Tryz.prog 160 #[.string v] W fun e w' => e = .returned (.tuple #[.int .i64 d, .bool true]) ∧ Below W.heap.size W w'))
    (NN : Hid (∀ W : World, Wd W → Pw W → Calls Tryz.prog 161 #[.int .i64 m, .int .i64 d] W fun e w' => e = .returned (.tuple #[.string s1, .string s2]) ∧ Below W.heap.size W w'))
    (w : World) (HW : Hid (Wd w)) (HP : Hid (Pw w)) :
    Calls Tryz.prog 117 #[.string x] w fun e w' => e = .returned (.tuple #[.string s1, .string s2, .int .i64 0]) ∧ Below w.heap.size w w' := by
  have hck := CK.out w HW.out
  have HCK := Lib.hid hck; clear hck CK
  have hwl : IntKind.i64.wrap ((u.size : Int) + v.size) = (u.size : Int) + v.size := IntWalk.i64_in _ ⟨by omega, by omega⟩
  go_enter Tryz.func117, Tryz.ntmps117
  go_wp2_with fail
  refine HCK.out.mono ?_
  rintro e w1 ⟨rfl, hb1⟩
  have HB1 := Lib.hid hb1; clear hb1 HCK
  go_wp2_with fail
  refine (O.out w1 (HW.out.below HB1.out)).mono ?_
  rintro e w2 ⟨rfl, hb2⟩
  have HB2 := Lib.hid (HB1.out.trans (hb2.mono HB1.out.size)); clear hb2 HB1
  obtain ⟨w3, hw3⟩ : ∃ w3, w3 = w2.alloc (.cells #[.string u, .string v] 197) := ⟨_, rfl⟩
  have ha : Below w2.heap.size w2 w3 := by rw [hw3]; exact (Below.refl _ w2).alloc (Nat.le_refl _) _
  have A3 : w3.heap[w2.heap.size]? = some (.cells #[.string u, .string v] 197 (0, 0)) := by rw [hw3]; exact World.alloc_heap_new w2 _
  have HB3 := Lib.hid (HB2.out.trans (ha.mono HB2.out.size))
  have c0 : w3.cell? ⟨w2.heap.size, 0, none⟩ = some (.string u) := by rw [Go.Joins.cell_of_block A3]; rfl
  have c1 : w3.cell? ⟨w2.heap.size, 1, none⟩ = some (.string v) := by rw [Go.Joins.cell_of_block A3]; rfl
  have C3 := Lib.hid (⟨c0, c1⟩ : w3.cell? ⟨w2.heap.size, 0, none⟩ = some (.string u) ∧ w3.cell? ⟨w2.heap.size, 1, none⟩ = some (.string v))
  rw [hw3] at c0 c1
  have HW3 := Lib.hid hw3; clear hw3 ha A3
  go_wp2_with fail
  rw [← HW3.out]
  clear c0 c1
  refine (NU.out w3 (HW.out.below HB3.out)).mono ?_
  rintro e w4 ⟨rfl, hb4⟩
  have HB4 := Lib.hid (HB3.out.trans (hb4.mono HB3.out.size))
  have c0 := (cellsKept_below hb4).cell C3.out.1; have c1 := (cellsKept_below hb4).cell C3.out.2
  clear hb4 HW3
  go_wp2_with fail
  refine (NV.out w4 (HW.out.below HB4.out)).mono ?_
  rintro e w5 ⟨rfl, hb5⟩
  have HB5 := Lib.hid (HB4.out.trans (hb5.mono HB4.out.size))
  clear hb5 c0 c1
  go_wp2_with fail
  refine (NN.out w5 (HW.out.below HB5.out) (HP.out.below HB5.out)).mono ?_
  rintro e w6 ⟨rfl, hb6⟩
  have HB6 := Lib.hid (HB5.out.trans (hb6.mono HB5.out.size))
  clear hb6
  go_wp2_with fail
  go_ret3
  exact ⟨rfl, HB6.out⟩

theorem numS_nat (n : Nat) : numS ((n : Int) : Rat) = decDigits n := by rw [numS_ofInt, Str.itoa_nonneg]
theorem dec_len_small {n k : Nat} (hk : 0 < k) (h : n < 10 ^ k) : (decDigits n).length ≤ k := (dec_len_le_iff n k hk).2 h

theorem two_rows (W : World) (t : TypeId) (x : List UInt8) (q : Rat) (hx : numS q = x) :
    RowNums (some ⟨W.heap.size, 0, none⟩) 1 (fun _ => q) ((W.alloc (.cells #[St x] t)).alloc (.cells #[St x] t)) ∧
    RowNums (some ⟨W.heap.size + 1, 0, none⟩) 1 (fun _ => q) ((W.alloc (.cells #[St x] t)).alloc (.cells #[St x] t)) := by
  have b1 := (Boxed.new W t (St x)).alloc (.cells #[St x] t)
  have b2 := Boxed.new (W.alloc (.cells #[St x] t)) t (St x)
  rw [World.size_alloc] at b2
  constructor
  · intro i hi
    obtain rfl : i = 0 := by omega
    exact ⟨_, _, rfl, by rw [hx]; exact b1.cell⟩
  · intro i hi
    obtain rfl : i = 0 := by omega
    exact ⟨_, _, rfl, by rw [hx]; exact b2.cell⟩

/-- root.Normal at the square of a small integer. -/
theorem normal_sq (r : Nat) (hr : 0 < r) (hr2 : r ≤ 200) (H1 : ∀ c l : Nat, c * c * l = r * r → (∀ i, i < 25 → ¬ prN i * prN i ∣ l) → c = r ∧ l = 1) (w : World) (hw : Wd w) (hp : Pw w) :
    Calls Tryz.prog 117 #[St (decDigits (r * r))] w fun e w' => e = .returned (.tuple #[St (decDigits r), St [49], .int .i64 0]) ∧ Below w.heap.size w w' := by
  have hm : r * r ≤ 200 * 200 := Nat.mul_le_mul hr2 hr2
  have hp0 : 0 < r * r := Nat.mul_pos hr hr
  have sz : ∀ k : List UInt8, (⟨k.toArray⟩ : ByteArray).size = k.length := fun k => by show k.toArray.size = _; simp
  have hl : (decDigits (r * r)).length ≤ 5 := dec_len_small (by omega) (by omega)
  have d1 : decDigits 1 = [49] := by rw [decDigits_small (by omega)]; rfl
  have hq := numS_nat (r * r)
  have hnum : (((r * r : Nat) : Int) : Rat).num = ((r * r : Nat) : Int) := rfl
  have hden : (((r * r : Nat) : Int) : Rat).den = 1 := rfl
  generalize hqq : (((r * r : Nat) : Int) : Rat) = q at *
  have hdig : digs q.num ≤ 5 := by rw [hnum]; show (decDigits (((r * r : Nat) : Int).natAbs)).length ≤ 5; rw [Int.natAbs_natCast]; exact hl
  have hdl : (decDigits q.den).length = 1 := by rw [hden, d1]; rfl
  have hok : okQ q := ⟨by omega, by omega⟩
  refine normal_walk ⟨(decDigits (r * r)).toArray⟩ ⟨(decDigits (r * r)).toArray⟩ ⟨#[49]⟩ ⟨(decDigits r).toArray⟩ ⟨#[49]⟩ ((r * r : Nat) : Int) 1 ?_ ?_ ?_ (Lib.hid fun W hW => ?_) (Lib.hid fun W hW => ?_) (Lib.hid fun W hW => ?_) (Lib.hid fun W hW => ?_) (Lib.hid fun W hW hP => ?_) w (Lib.hid hw) (Lib.hid hp)
  · exact dec_beq (n := r * r) rfl 0 (by omega) (by omega)
  · rw [sz]; show ((decDigits (r * r)).length : Int) + 1 ≤ 17; omega
  · rw [sz]; exact ⟨by omega, by decide⟩
  · obtain ⟨t1, t2⟩ := two_rows W 22 _ q hq
    have hal : Below W.heap.size W ((W.alloc (.cells #[St (decDigits (r * r))] 22)).alloc (.cells #[St (decDigits (r * r))] 22)) := ((Below.refl _ W).alloc (Nat.le_refl _) _).alloc (by simp) _
    refine (rootCheck_walk _ _ 1 1 1 1 (fun _ => q) (fun _ => q) (by omega) (by omega) (Lib.hid fun _ _ W hW => check_ok q hok W hW) (Lib.hid fun _ _ W hW => rootOf_ok q hok W hW) (Lib.hid fun _ _ => ⟨by omega, by omega⟩)
      (Lib.hid fun _ _ W => negative_ok q (by rw [hnum]; omega) W) _ (Lib.hid (hW.below hal)) (Lib.hid t1) (Lib.hid t2)).mono ?_
    rintro e w' ⟨rfl, hb⟩
    exact ⟨rfl, hal.trans (hb.mono hal.size)⟩
  · have := rootOf_ok q hok W hW
    rw [hq, hnum, hden, Str.itoa_nonneg, d1] at this
    exact this
  · have := native_ok (r * r) (by omega) W hW
    exact this
  · have := native_ok 1 (by rw [d1]; decide) W hW
    rw [d1] at this
    exact this
  · refine nativeNormal_sq r hr hr2 (Lib.hid H1) (Lib.hid fun i hi W => ?_) W (Lib.hid hW) (Lib.hid hP)
    have h9 := prN_le i hi
    have h2 := dec_len_small (n := prN i) (k := 2) (by omega) (by omega)
    have := atoi_b (prN i : Int) (by rw [Str.itoa_nonneg]; omega) W
    rw [Str.itoa_nonneg] at this
    rw [prS_dec i hi]
    exact this
end Go.Proofs.YtapfekcbbhhieaaGreatDoor

namespace Go.Proofs.YtapfekcbbhhieaaGreatDoor
open Go.RowKit Go.Shelf Lib Str Limb
attribute [local go_sem] Oper.semAt_some

theorem dec_1 : decDigits 1 = [49] := by rw [decDigits_small (by omega)]; rfl
theorem itoa_1 : Lib.itoa 1 = [49] := by show Lib.itoa ((1 : Nat) : Int) = _; rw [Str.itoa_nonneg, dec_1]
theorem numS_1 : numS 1 = [49] := by have := numS_nat 1; rw [dec_1] at this; exact this
theorem okQ_1 : okQ 1 := ⟨by show (decDigits 1).length ≤ 300; rw [dec_1]; decide, by show (decDigits 1).length ≤ 300; rw [dec_1]; decide⟩
theorem sz_1 : sz 1 1 := ⟨by decide, by decide⟩

set_option maxHeartbeats 1000000 in
theorem exact_one (w : World) (hw : Wd w) :
    Calls Tryz.prog 164 #[.string ⟨#[49]⟩] w fun e w' => e = .returned (.tuple #[.string ⟨#[49]⟩, .bool true]) ∧ Below w.heap.size w w' := by
  have HN : Hid (∀ W : World, Wd W → Calls Tryz.prog 160 #[.string ⟨#[49]⟩] W fun e w' => e = .returned (.tuple #[.int .i64 1, .bool true]) ∧ Below W.heap.size W w') :=
    Lib.hid fun W hW => by have := native_ok 1 (by rw [dec_1]; decide) W hW; rw [dec_1] at this; exact this
  have HI : Hid (∀ W : World, Wd W → Calls Tryz.prog 19 #[.int .i64 1] W fun e w' => e = .returned (.string ⟨#[49]⟩) ∧ Below W.heap.size W w') :=
    Lib.hid fun W hW => by have := itoa_b 1 (by omega) (by omega) W hW; rw [itoa_1] at this; exact this
  have HW := Lib.hid hw; clear hw
  go_enter Tryz.func164, Tryz.ntmps164
  go_wp2_with fail
  refine (HN.out w HW.out).mono ?_
  rintro e w1 ⟨rfl, hb1⟩
  go_wp2_with fail
  refine (nativeRoot_one w1).mono ?_
  rintro e w2 ⟨rfl, hw1⟩
  have hw2 := hw1.symm; subst hw2; clear hw1
  go_wp2_with fail
  refine (HI.out w1 (HW.out.below hb1)).mono ?_
  rintro e w2 ⟨rfl, hb2⟩
  have hB := hb1.trans (hb2.mono hb1.size)
  clear hb2
  go_wp2_with fail
  go_ret2
  exact ⟨rfl, hB⟩

set_option maxHeartbeats 400000 in
theorem fraction_one (w : World) (hw : Wd w) :
    Calls Tryz.prog 165 #[.string ⟨#[49]⟩, .string ⟨#[49]⟩] w fun e w' => e = .returned (.string ⟨#[49]⟩) ∧ Below w.heap.size w w' := by
  have hd := rDiv_ok 1 1 (by decide) 1 1 (by omega) (by omega) (by omega) sz_1 sz_1 w hw
  rw [show ((1 : Rat) / 1) = 1 by grind, numS_1] at hd
  have HD := Lib.hid hd; clear hd
  go_enter Tryz.func165, Tryz.ntmps165
  go_wp2_with fail
  refine HD.out.mono ?_
  rintro e w1 ⟨rfl, hb⟩
  go_wp2_with fail
  go_ret
  exact ⟨rfl, hb⟩

set_option maxHeartbeats 1000000 in
theorem rootOfPair_one (w : World) (hw : Wd w) :
    Calls Tryz.prog 166 #[.agg #[.string ⟨#[49]⟩, .string ⟨#[49]⟩]] w fun e w' => e = .returned (.tuple #[.string ⟨#[49]⟩, .bool true]) ∧ Below w.heap.size w w' := by
  obtain ⟨W1, hW1⟩ : ∃ W1, W1 = w.alloc (.cells #[.string ⟨#[49]⟩, .string ⟨#[49]⟩] 197) := ⟨_, rfl⟩
  have hb1 : Below w.heap.size w W1 := by rw [hW1]; exact (Below.refl _ w).alloc (Nat.le_refl _) _
  have A : W1.heap[w.heap.size]? = some (.cells #[.string ⟨#[49]⟩, .string ⟨#[49]⟩] 197 (0, 0)) := by rw [hW1]; exact World.alloc_heap_new w _
  have a0 : W1.cell? ⟨w.heap.size, 0, none⟩ = some (.string ⟨#[49]⟩) := by rw [Go.Joins.cell_of_block A]; rfl
  have a1 : W1.cell? ⟨w.heap.size, 1, none⟩ = some (.string ⟨#[49]⟩) := by rw [Go.Joins.cell_of_block A]; rfl
  have HA := Lib.hid (⟨a0, a1⟩ : W1.cell? ⟨w.heap.size, 0, none⟩ = some (.string ⟨#[49]⟩) ∧ W1.cell? ⟨w.heap.size, 1, none⟩ = some (.string ⟨#[49]⟩))
  have HB := Lib.hid hb1
  rw [hW1] at a0 a1
  have HW1 := Lib.hid hW1
  have HW := Lib.hid hw
  clear hW1 hb1 A hw
  go_enter Tryz.func166, Tryz.ntmps166
  go_wp2_with fail
  rw [← HW1.out]
  refine (exact_one W1 (HW.out.below HB.out)).mono ?_
  rintro e w2 ⟨rfl, hb2⟩
  have HB2 := Lib.hid (HB.out.trans (hb2.mono HB.out.size))
  have g0 := (cellsKept_below hb2).cell HA.out.1; have g1 := (cellsKept_below hb2).cell HA.out.2
  clear hb2 a0 a1
  go_wp2_with fail
  refine (exact_one w2 (HW.out.below HB2.out)).mono ?_
  rintro e w3 ⟨rfl, hb3⟩
  have HB3 := Lib.hid (HB2.out.trans (hb3.mono HB2.out.size))
  clear hb3 g0 g1
  go_wp2_with fail
  all_goals first | (exact absurd (Option.some.inj ‹some undef = some (Value.bool _)›) (fun h => Value.noConfusion h)) | skip
  refine (fraction_one w3 (HW.out.below HB3.out)).mono ?_
  rintro e w4 ⟨rfl, hb4⟩
  have HB4 := HB3.out.trans (hb4.mono HB3.out.size)
  clear hb4
  go_wp2_with fail
  go_ret2
  exact ⟨rfl, HB4⟩

theorem rowNums_two (W : World) (t : TypeId) :
    RowNums (some ⟨W.heap.size, 0, none⟩) 2 (fun _ => 1) ((W.alloc (.cells #[St [49], St [49]] t)).alloc (.cells #[St [49], St [49]] t)) ∧
    RowNums (some ⟨W.heap.size + 1, 0, none⟩) 2 (fun _ => 1) ((W.alloc (.cells #[St [49], St [49]] t)).alloc (.cells #[St [49], St [49]] t)) := by
  have A1 := (Below.heap_alloc (W.alloc (.cells #[St [49], St [49]] t)) (.cells #[St [49], St [49]] t) W.heap.size (by simp)).trans (World.alloc_heap_new W (.cells #[St [49], St [49]] t (0, 0)))
  have A2 := World.alloc_heap_new (W.alloc (.cells #[St [49], St [49]] t)) (.cells #[St [49], St [49]] t (0, 0))
  rw [World.size_alloc] at A2
  constructor
  · intro i hi
    refine ⟨_, _, rfl, ?_⟩
    rw [numS_1, Go.Joins.cell_of_block A1]
    match i, hi with
    | 0, _ | 1, _ => rfl
  · intro i hi
    refine ⟨_, _, rfl, ?_⟩
    rw [numS_1, Go.Joins.cell_of_block A2]
    match i, hi with
    | 0, _ | 1, _ => rfl

set_option maxHeartbeats 1000000 in
theorem ratio_one (w : World) (hw : Wd w) :
    Calls Tryz.prog 118 #[.string ⟨#[49]⟩, .string ⟨#[49]⟩] w fun e w' => e = .returned (.tuple #[.string ⟨#[49]⟩, .bool true, .int .i64 0]) ∧ Below w.heap.size w w' := by
  obtain ⟨W1, hW1⟩ : ∃ W1, W1 = (w.alloc (.cells #[St [49], St [49]] 22)).alloc (.cells #[St [49], St [49]] 22) := ⟨_, rfl⟩
  have hb1 : Below w.heap.size w W1 := by rw [hW1]; exact ((Below.refl _ w).alloc (Nat.le_refl _) _).alloc (by simp) _
  have hd1 : digs (1 : Rat).num ≤ 90 ∧ (decDigits (1 : Rat).den).length ≤ 90 := ⟨by show (decDigits 1).length ≤ 90; rw [dec_1]; decide, by show (decDigits 1).length ≤ 90; rw [dec_1]; decide⟩
  obtain ⟨t1, t2⟩ := rowNums_two w 22
  rw [← hW1] at t1 t2
  have hck := rootCheck_walk _ _ 2 2 2 2 (fun _ => 1) (fun _ => 1) (by omega) (by omega) (Lib.hid fun _ _ W hW => check_ok 1 okQ_1 W hW) (Lib.hid fun _ _ W hW => rootOf_ok 1 okQ_1 W hW) (Lib.hid fun _ _ => hd1)
      (Lib.hid fun _ _ W => negative_ok 1 (by decide) W) W1 (Lib.hid (hw.below hb1)) (Lib.hid t1) (Lib.hid t2)
  have HCK := Lib.hid hck
  have HO : Hid (∀ W : World, Wd W → Calls Tryz.prog 159 #[.string ⟨#[49]⟩] W fun e w' => e = .returned (.agg #[.string ⟨#[49]⟩, .string ⟨#[49]⟩]) ∧ Below W.heap.size W w') := Lib.hid fun W hW => by
    have := rootOf_ok 1 okQ_1 W hW
    rw [numS_1, show (1 : Rat).num = 1 from rfl, show (1 : Rat).den = 1 from rfl, itoa_1, dec_1] at this
    exact this
  have HD : Hid (∀ W : World, Wd W → Calls Tryz.prog 36 #[.string ⟨#[49]⟩, .string ⟨#[49]⟩] W fun e w' => e = .returned (.tuple #[.string ⟨#[49]⟩, .int .i64 0]) ∧ Below W.heap.size W w') := Lib.hid fun W hW => by
    have := rDiv_ok 1 1 (by decide) 1 1 (by omega) (by omega) (by omega) sz_1 sz_1 W hW
    rw [show ((1 : Rat) / 1) = 1 by grind, numS_1] at this
    exact this
  have HB1 := Lib.hid hb1
  have HW1 := Lib.hid hW1
  have HW := Lib.hid hw
  clear hW1 hb1 hck hd1 t1 t2 hw
  go_enter Tryz.func118, Tryz.ntmps118
  go_wp2_with fail
  rw [← show W1 = (w.alloc (.cells #[.string ⟨#[49]⟩, .string ⟨#[49]⟩] 22)).alloc (.cells #[.string ⟨#[49]⟩, .string ⟨#[49]⟩] 22) from HW1.out]
  refine HCK.out.mono ?_
  rintro e w2 ⟨rfl, hb2⟩
  have HB2 := Lib.hid (HB1.out.trans (hb2.mono HB1.out.size)); clear hb2 HCK HW1
  go_wp2_with fail
  refine (HD.out w2 (HW.out.below HB2.out)).mono ?_
  rintro e w3 ⟨rfl, hb3⟩
  have HB3 := Lib.hid (HB2.out.trans (hb3.mono HB2.out.size)); clear hb3
  go_wp2_with fail
  refine (HO.out w3 (HW.out.below HB3.out)).mono ?_
  rintro e w4 ⟨rfl, hb4⟩
  have HB4 := Lib.hid (HB3.out.trans (hb4.mono HB3.out.size)); clear hb4
  go_wp2_with fail
  refine (rootOfPair_one w4 (HW.out.below HB4.out)).mono ?_
  rintro e w5 ⟨rfl, hb5⟩
  have HB5 := HB4.out.trans (hb5.mono HB4.out.size); clear hb5
  go_wp2_with fail
  go_ret3
  exact ⟨rfl, HB5⟩
end Go.Proofs.YtapfekcbbhhieaaGreatDoor
