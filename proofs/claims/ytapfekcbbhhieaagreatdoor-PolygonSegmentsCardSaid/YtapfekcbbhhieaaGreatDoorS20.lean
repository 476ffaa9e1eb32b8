/-
  polygon.simple.
  polygon.Check.
  kingpostlaw10.short, and what it calls.
-/
import Derived.Test.YtapfekcbbhhieaaGreatDoorS17
import Derived.Test.YtapfekcbbhhieaaGreatDoorS19
namespace Go.Proofs.YtapfekcbbhhieaaGreatDoor
open Go.RowKit Go.Shelf Lib Str Limb Geo
attribute [local go_sem] Oper.semAt_some

/-- The texts of points. -/
def txt (l : List Pt) : List (List UInt8 × List UInt8) := l.map fun p => (numS p.x, numS p.y)
theorem txt_length (l : List Pt) : (txt l).length = l.length := by simp [txt]
/-- The k-th corner. -/
def cor (l : List Pt) (k : Nat) : Pt := l[k % l.length]?.getD ⟨0, 0⟩
theorem ptOf_txt (l : List Pt) (k : Nat) (hk : k < l.length) : ptOf (txt l) k = (numS (cor l k).x, numS (cor l k).y) := by
  unfold ptOf txt cor
  rw [List.getElem?_map, Nat.mod_eq_of_lt hk, List.getElem?_eq_getElem hk]; rfl
theorem cor_mod (l : List Pt) (k : Nat) : cor l (k % l.length) = cor l k := by unfold cor; rw [Nat.mod_mod]
theorem side_txt (l : List Pt) (k : Nat) (hk : k < l.length) : sideOf (txt l) k = segV (cor l k) (cor l (k + 1)) := by
  unfold sideOf
  rw [txt_length, ptOf_txt l k hk, ptOf_txt l _ (Nat.mod_lt _ (by omega)), cor_mod]; rfl

/-- How two sides must meet. -/
def wantS (n i k : Nat) : Int := if k = i + 1 ∨ (i = 0 ∧ k = n - 1) then 1 else 0
/-- Two sides meet as they must. -/
def okS2 (l : List Pt) (i k : Nat) : Prop := meet (cor l i) (cor l (i + 1)) (cor l k) (cor l (k + 1)) = wantS l.length i k
/-- The sides meet as they must. -/
def simpleP (l : List Pt) : Prop := ∀ i k, i < k → k < l.length → okS2 l i k

/-- What is known of the memory in simple. -/
structure SimS (w : World) (p : Option Addr) (cap n : Nat) (l : List Pt) (W : World) : Prop where
  bel : Below w.heap.size w W
  box : W.cell? ⟨w.heap.size, 0, none⟩ = some (.slice p n cap)
  res : W.cell? ⟨w.heap.size + 1, 0, none⟩ = some (.bool false)
  fr : W.frozen? ⟨w.heap.size + 1, 0, none⟩ = false
  cbx : W.cell? ⟨w.heap.size + 1 + 1, 0, none⟩ = some (.slice p n cap)
  pts : ∀ i, i < n → ∃ b off, p = some ⟨b, off, none⟩ ∧ W.cell? ⟨b, off + i * 2, none⟩ = some (St (ptOf (txt l) i).1) ∧ W.cell? ⟨b, off + i * 2 + 1, none⟩ = some (St (ptOf (txt l) i).2)
theorem SimS.keep {w : World} {p : Option Addr} {cap n : Nat} {l : List Pt} {W W' : World} (h : SimS w p cap n l W) (hc : CellsKept W W') (hb : Below w.heap.size W W') : SimS w p cap n l W' :=
  ⟨h.bel.trans hb, hc.cell h.box, hc.cell h.res, hc.frozen h.res h.fr, hc.cell h.cbx, fun i hi => let ⟨b, off, e, h1, h2⟩ := h.pts i hi; ⟨b, off, e, hc.cell h1, hc.cell h2⟩⟩
theorem SimS.ptsAt {w : World} {p : Option Addr} {cap n : Nat} {l : List Pt} {W : World} (hn : n = l.length) (h : SimS w p cap n l W) {B : Nat} (hB : W.cell? ⟨B, 0, none⟩ = some (.slice p n cap)) : PtsAt B p cap (txt l) W := by
  refine ⟨by rw [txt_length, ← hn]; exact hB, fun i hi => h.pts i (by rw [txt_length] at hi; omega)⟩

/-- A segment lies in the world. -/
structure SegAt (b : Nat) (x y : Pt) (W : World) : Prop where
  h0 : W.cell? ⟨b, 0, none⟩ = some (St (numS x.x))
  h1 : W.cell? ⟨b, 1, none⟩ = some (St (numS x.y))
  h2 : W.cell? ⟨b, 2, none⟩ = some (St (numS y.x))
  h3 : W.cell? ⟨b, 3, none⟩ = some (St (numS y.y))
theorem SegAt.new (W : World) (x y : Pt) (t : TypeId) : SegAt W.heap.size x y (W.alloc (.cells #[St (numS x.x), St (numS x.y), St (numS y.x), St (numS y.y)] t)) := by
  have A := World.alloc_heap_new W (.cells #[St (numS x.x), St (numS x.y), St (numS y.x), St (numS y.y)] t)
  constructor <;> (rw [Go.Joins.cell_of_block A]; rfl)
theorem SegAt.keep {b : Nat} {x y : Pt} {W W' : World} (h : SegAt b x y W) (hc : CellsKept W W') : SegAt b x y W' := ⟨hc.cell h.h0, hc.cell h.h1, hc.cell h.h2, hc.cell h.h3⟩

set_option maxRecDepth 100000 in
set_option maxHeartbeats 2000000 in
theorem simple_walk (p : Option Addr) (cap : Nat) (l : List Pt) (h3 : 3 ≤ l.length) (hlen : l.length ≤ 4096)
    (M : Hid (∀ i k, i < l.length → k < l.length → ∀ W : World, Wd W → Calls Tryz.prog 41 #[segV (cor l i) (cor l (i + 1)), segV (cor l k) (cor l (k + 1))] W fun e w' => e = .returned (.int .i64 (meet (cor l i) (cor l (i + 1)) (cor l k) (cor l (k + 1)))) ∧ Below W.heap.size W w'))
    (w : World) (HW : Hid (Wd w))
    (HP : Hid (∀ i, i < l.length → ∃ b off, p = some ⟨b, off, none⟩ ∧ w.cell? ⟨b, off + i * 2, none⟩ = some (St (ptOf (txt l) i).1) ∧ w.cell? ⟨b, off + i * 2 + 1, none⟩ = some (St (ptOf (txt l) i).2))) :
    Calls Tryz.prog 63 #[.slice p l.length cap] w fun e w' => ∃ b, e = .returned (.bool b) ∧ (b = true ↔ simpleP l) ∧ Below w.heap.size w w' := by
  refine (callsIn_wide (n := 5)).1 ?_
  refine callsIn_of_wp_marks Tryz.func63 rfl trivial ?_ rfl
  simp only [Tryz.ntmps63, List.size_toArray, List.length_cons, List.length_nil, Nat.reduceAdd, Nat.reduceSub, Array.replicate_succ, Array.replicate_zero, List.push_toArray, List.append_toArray, List.nil_append, List.cons_append]
  obtain ⟨n, hn⟩ : ∃ n, n = l.length := ⟨_, rfl⟩
  have hS0 : SimS w p cap n l (((w.alloc (.cells #[.slice p n cap] 26)).alloc (.cells #[.bool false] 4)).alloc (.cells #[.slice p n cap] 26)) := by
    have b1 := Boxed.new w 26 (.slice p n cap)
    have b2 := Boxed.new (w.alloc (.cells #[.slice p n cap] 26)) 4 (.bool false)
    have b3 := Boxed.new ((w.alloc (.cells #[.slice p n cap] 26)).alloc (.cells #[.bool false] 4)) 26 (.slice p n cap)
    have b12 := (b1.alloc (.cells #[.bool false] 4)).alloc (.cells #[.slice p n cap] 26)
    have b22 := b2.alloc (.cells #[.slice p n cap] 26)
    simp only [World.size_alloc] at b3 b22
    have hbel : Below w.heap.size w (((w.alloc (.cells #[.slice p n cap] 26)).alloc (.cells #[.bool false] 4)).alloc (.cells #[.slice p n cap] 26)) := (((Below.refl _ w).alloc (Nat.le_refl _) _).alloc (by simp) _).alloc (by simp; omega) _
    refine ⟨hbel, b12.cell, b22.cell, b22.frozen, b3.cell, fun i hi => ?_⟩
    obtain ⟨b, off, e, h1, h2⟩ := HP.out i (by omega)
    exact ⟨b, off, e, below_cell hbel h1, below_cell hbel h2⟩
  rw [← hn] at h3 hlen ⊢
  have HN := Lib.hid hn; clear hn
  have HS0 := Lib.hid hS0; clear hS0 HP
  gi_wp2_with (refine ⟨trivial, ?_⟩; gi_at_call 32; refine (callsIn_wide.2 (sides_any _ _ _ _ _ rfl)).mono ?_; rintro e w' ⟨rfl, rfl⟩)
  have hS0 := HS0.out; clear HS0
  generalize ((w.alloc (.cells #[.slice p n cap] 26)).alloc (.cells #[.bool false] 4)).alloc (.cells #[.slice p n cap] 26) = W0 at *
  have HS := Lib.hid hS0.bel.size
  have hseq := sides_ix 4 (by omega) (w.heap.size + 1 + 1) (txt l) (by rw [txt_length, ← HN.out]; omega) (fun W => SimS w p cap n l W) p cap (fun W h => h.ptsAt HN.out h.cbx)
  rw [txt_length, ← HN.out] at hseq
  refine range_out (n := 5) (B := w.heap.size) rfl (by omega) rfl trivial (enters_of Tryz.func64 (by kernel_rfl) rfl) hseq (fun k args h => by subst h; rfl) hS0.bel.size
    (fun k W => SimS w p cap n l W ∧ ∀ i j, i < k → i < j → j < n → okS2 l i j)
    (fun c _ W => c = .ret ∧ Below w.heap.size w W ∧ W.cell? ⟨w.heap.size + 1, 0, none⟩ = some (.bool false) ∧ ¬ simpleP l)
    (fun k W W' h hc hb => ⟨h.1.keep hc hb, h.2⟩) (fun c k W W' h hc hb => ⟨h.1, h.2.1.trans hb, hc.cell h.2.2.1, h.2.2.2⟩) (fun k W h => h.1) ⟨hS0, fun i j h => by omega⟩
    (fun k _ a' W => ∃ bi bs, a' = { tmps := #[Value.slice p n cap, Value.pointer (some { block := w.heap.size, off := 0 }), Value.pointer (some { block := w.heap.size + 1, off := 0 }), .pointer (some ⟨bi, 0, none⟩), .pointer (some ⟨bs, 0, none⟩), undef, undef, undef, Value.slice p n cap,
        Value.func (Fn.func 64) #[] #[Value.pointer (some { block := w.heap.size + 1 + 1, off := 0 })], I k, segV (cor l k) (cor l (k + 1)), undef, undef, undef, undef, undef, undef, undef, undef, undef, undef, undef, undef, undef, undef, undef, undef, undef, undef, undef, undef, undef, undef, undef, undef, undef, undef, undef], defers := [] } ∧ W.cell? ⟨bi, 0, none⟩ = some (I k) ∧ SegAt bs (cor l k) (cor l (k + 1)) W)
    (fun k _ a' W W' h hc hb => let ⟨bi, bs, e, h1, h2⟩ := h; ⟨bi, bs, e, hc.cell h1, h2.keep hc⟩) ?assign ?body ?done ?stop
  case assign =>
    rintro lp k args W K hlp hrec ⟨hS, hP⟩ hk rfl hK
    rw [side_txt l k (by rw [← HN.out]; exact hk)]
    have HK := Lib.hid hK; clear hK
    unfold segV
    gi_wp2
    have hb1 : Below W.heap.size W (W.alloc (.cells #[I k] 3)) := (Below.refl _ W).alloc (Nat.le_refl _) _
    have hb2 : Below W.heap.size W ((W.alloc (.cells #[I k] 3)).alloc (.cells #[St (numS (cor l k).x), St (numS (cor l k).y), St (numS (cor l (k + 1)).x), St (numS (cor l (k + 1)).y)] 69)) := hb1.alloc (by simp) _
    have hseg := SegAt.new (W.alloc (.cells #[I k] 3)) (cor l k) (cor l (k + 1)) 69
    rw [World.size_alloc] at hseg
    refine HK.out _ _ ((keeps_of_below hb2).from _) ⟨hS.keep (cellsKept_below hb2) (hb2.mono hS.bel.size), hP⟩ ⟨W.heap.size, W.heap.size + 1, rfl, ?_, hseg⟩
    exact (Boxed.alloc (Boxed.new W 3 (I k)) _).cell
  case body =>
    rintro lp k args a' W hlp ⟨r, hr⟩ ⟨hS, hP⟩ hk rfl ⟨bi, bs, rfl, hi, hseg⟩
    have hbox := hS.box
    obtain ⟨W2, hW2⟩ : ∃ W2, W2 = W.alloc (.cells #[.slice p n cap] 26) := ⟨_, rfl⟩
    have hb2 : Below W.heap.size W W2 := by rw [hW2]; exact (Below.refl _ W).alloc (Nat.le_refl _) _
    have hcb : W2.cell? ⟨W.heap.size, 0, none⟩ = some (.slice p n cap) := by rw [hW2]; exact (Boxed.new W 26 (.slice p n cap)).cell
    have hr2 : W2.heap[lp]? = some (.loop r) := (hb2.block _ (Array.getElem?_eq_some_iff.1 hr).1).trans hr
    have H0 := Lib.hid (⟨hS, hP⟩ : SimS w p cap n l W ∧ ∀ i j, i < k → i < j → j < n → okS2 l i j)
    have HC := Lib.hid (⟨hi, hseg, hb2, hcb⟩ : W.cell? ⟨bi, 0, none⟩ = some (I k) ∧ SegAt bs (cor l k) (cor l (k + 1)) W ∧ Below W.heap.size W W2 ∧ W2.cell? ⟨W.heap.size, 0, none⟩ = some (.slice p n cap))
    have HW2 := Lib.hid hW2; clear hW2 hS hP hi hseg hb2 hcb hr hseq hS0
    gi_wp2_with (refine ⟨trivial, ?_⟩; gi_at_call 32; refine (CallsIn.inRound lp (callsIn_wide.2 (sides_any _ _ _ _ _ rfl))).mono ?_; rintro e w' ⟨rfl, rfl⟩)
    rw [← HW2.out]
    obtain ⟨hi, hseg, hb2, hcb⟩ := HC.out
    obtain ⟨hS, hP⟩ := H0.out
    have hseq := sides_ix 2 (by omega) W.heap.size (txt l) (by rw [txt_length, ← HN.out]; omega) (fun W' => SimS w p cap n l W' ∧ W'.cell? ⟨W.heap.size, 0, none⟩ = some (.slice p n cap)) p cap (fun W h => h.1.ptsAt HN.out h.2)
    rw [txt_length, ← HN.out] at hseq
    refine range_inner (l₀ := lp) (r₀ := r) (n := 3) (B := W.heap.size) rfl hr2 (by omega) rfl trivial (enters_of Tryz.func64 (by kernel_rfl) rfl) (hseq.inRound lp) (fun k args h => by subst h; rfl) hb2.size
      (fun j W' => Below W.heap.size W W' ∧ W'.cell? ⟨W.heap.size, 0, none⟩ = some (.slice p n cap) ∧ ∀ j', k < j' → j' < j → okS2 l k j')
      (fun c _ W' => c = .ret ∧ KeepsFrom W0.heap.size W W' ∧ Below w.heap.size w W' ∧ W'.cell? ⟨w.heap.size + 1, 0, none⟩ = some (.bool false) ∧ ¬ simpleP l)
      (fun j X Y h hc hb => ⟨h.1.trans hb, hc.cell h.2.1, h.2.2⟩)
      (fun c j X Y h hc hb => ⟨h.1, ⟨Nat.le_trans h.2.1.size hb.size, fun q o hq h0 ho => (hb.block _ (Array.getElem?_eq_some_iff.1 h0).1).trans (h.2.1.same q o hq h0 ho)⟩, h.2.2.1.trans (hb.mono hS.bel.size), hc.cell h.2.2.2.1, h.2.2.2.2⟩)
      (fun j W' h => ⟨hS.keep (cellsKept_below h.1) (h.1.mono hS.bel.size), h.2.1⟩) ⟨hb2, hcb, fun j' h1 h2 => by omega⟩
      (fun j _ a' W' => ∃ bt, a' = { tmps := #[Value.slice p n cap, Value.pointer (some { block := w.heap.size, off := 0 }), Value.pointer (some { block := w.heap.size + 1, off := 0 }), .pointer (some ⟨bi, 0, none⟩), .pointer (some ⟨bs, 0, none⟩), I j, .pointer (some ⟨bt, 0, none⟩), undef, Value.slice p n cap, Value.func (Fn.func 64) #[] #[Value.pointer (some { block := w.heap.size + 1 + 1, off := 0 })], I k, segV (cor l k) (cor l (k + 1)), Value.slice p n cap, Value.func (Fn.func 64) #[] #[Value.pointer (some { block := W.heap.size, off := 0 })], I j, segV (cor l j) (cor l (j + 1)), undef, undef, undef, undef, undef, undef, undef, undef, undef, undef, undef, undef, undef, undef, undef, undef, undef, undef, undef, undef, undef, undef, undef], defers := [] } ∧ SegAt bt (cor l j) (cor l (j + 1)) W')
      (fun j _ a' X Y h hc hb => let ⟨bt, e, h1⟩ := h; ⟨bt, e, h1.keep hc⟩) ?iassign ?ibody ?idone ?istop
    case iassign =>
      rintro lq j args W' K hlq hrec ⟨hB', hcb', hP'⟩ hj rfl hK
      rw [side_txt l j (by rw [← HN.out]; exact hj)]
      have HK := Lib.hid hK; clear hK
      unfold segV
      gi_wp2
      have hb1 : Below W'.heap.size W' (W'.alloc (.cells #[St (numS (cor l j).x), St (numS (cor l j).y), St (numS (cor l (j + 1)).x), St (numS (cor l (j + 1)).y)] 69)) := (Below.refl _ W').alloc (Nat.le_refl _) _
      refine HK.out _ _ ((keeps_of_below hb1).from _) ⟨hB'.trans (hb1.mono hB'.size), below_cell hb1 hcb', hP'⟩ ⟨W'.heap.size, rfl, SegAt.new W' (cor l j) (cor l (j + 1)) 69⟩
    case ibody =>
      rintro lq j args a' W' hlq ⟨r', hr'⟩ ⟨hB', hcb', hP'⟩ hj rfl ⟨bt, rfl, hseg'⟩
      have hi' := below_cell hB' hi
      have hS' := hS.keep (cellsKept_below hB') (hB'.mono hS.bel.size)
      have hbox' := hS'.box
      have hres := hS'.res
      have hfr := hS'.fr
      obtain ⟨g0, g1, g2, g3⟩ := hseg.keep (cellsKept_below hB')
      obtain ⟨k0, k1, k2, k3⟩ := hseg'
      have hwd := HW.out.below hS'.bel
      have HS2 := Lib.hid (⟨hB', hcb', hP', hS'⟩ : Below W.heap.size W W' ∧ W'.cell? ⟨W.heap.size, 0, none⟩ = some (.slice p n cap) ∧ (∀ j', k < j' → j' < j → okS2 l k j') ∧ SimS w p cap n l W')
      have hM := M.out k j (by rw [← HN.out]; exact hk) (by rw [← HN.out]; exact hj) W' hwd
      obtain ⟨m, hm⟩ : ∃ m, m = meet (cor l k) (cor l (k + 1)) (cor l j) (cor l (j + 1)) := ⟨_, rfl⟩
      rw [← hm] at hM
      unfold segV at hM ⊢
      have HM := Lib.hid hM
      have HMM := Lib.hid hm
      have hwk : IntKind.i64.wrap ((k : Int) + 1) = (k : Int) + 1 := IntWalk.i64_in _ ⟨by omega, by omega⟩
      have hwn : IntKind.i64.wrap ((n : Int) - 1) = (n : Int) - 1 := IntWalk.i64_in _ ⟨by omega, by omega⟩
      clear hM hm hB' hcb' hP' hS' hi hseg hb2 hcb hS hP hseq hbox hwd HW2 H0 hr2 hr'
      by_cases hle : j ≤ k
      · have e1 : decide ((j : Int) ≤ (k : Int)) = true := decide_eq_true (by omega)
        gi_wp2
        obtain ⟨hB', hcb', hP', hS'⟩ := HS2.out
        exact ⟨KeepsFrom.refl _ _, hB', hcb', fun j' h1 h2 => hP' j' h1 (by omega)⟩
      · have e1 : decide ((j : Int) ≤ (k : Int)) = false := decide_eq_false (by omega)
        have hcase : (wantS n k j = 1 ∧ ((((j : Int) == (k : Int) + 1) = true) ∨ (((j : Int) == (k : Int) + 1) = false ∧ ((k : Int) == 0) = true ∧ ((j : Int) == (n : Int) - 1) = true))) ∨
            (wantS n k j = 0 ∧ ((((j : Int) == (k : Int) + 1) = false ∧ ((k : Int) == 0) = true ∧ ((j : Int) == (n : Int) - 1) = false) ∨ (((j : Int) == (k : Int) + 1) = false ∧ ((k : Int) == 0) = false))) := by
          unfold wantS
          simp only [beq_iff_eq, beq_eq_false_iff_ne]
          by_cases h1 : j = k + 1
          · left; exact ⟨if_pos (.inl h1), .inl (by omega)⟩
          · by_cases h2 : k = 0
            · by_cases h3 : j = n - 1
              · left; exact ⟨if_pos (.inr ⟨h2, h3⟩), .inr ⟨by omega, by omega, by omega⟩⟩
              · right; exact ⟨if_neg (by omega), .inl ⟨by omega, by omega, by omega⟩⟩
            · right; exact ⟨if_neg (by omega), .inr ⟨by omega, by omega⟩⟩
        have hgood : ∀ W3, Below W'.heap.size W' W3 → m = wantS n k j → KeepsFrom W2.heap.size W' W3 ∧ Below W.heap.size W W3 ∧ W3.cell? ⟨W.heap.size, 0, none⟩ = some (.slice p n cap) ∧ ∀ j', k < j' → j' < j + 1 → okS2 l k j' := by
          intro W3 hb3 hmw
          obtain ⟨hB', hcb', hP', hS'⟩ := HS2.out
          refine ⟨(keeps_of_below hb3).from _, hB'.trans (hb3.mono hB'.size), below_cell hb3 hcb', fun j' h1 h2 => ?_⟩
          by_cases h : j' = j
          · subst h; unfold okS2; rw [← HMM.out, hmw, ← HN.out]
          · exact hP' j' h1 (by omega)
        have hbad : ∀ W3, Below W'.heap.size W' W3 → m ≠ wantS n k j → KeepsFrom W2.heap.size W' (W3.setCell ⟨w.heap.size + 1, 0, none⟩ (.bool false)) ∧ Code.ret = Code.ret ∧ KeepsFrom W0.heap.size W (W3.setCell ⟨w.heap.size + 1, 0, none⟩ (.bool false)) ∧ Below w.heap.size w (W3.setCell ⟨w.heap.size + 1, 0, none⟩ (.bool false)) ∧ (W3.setCell ⟨w.heap.size + 1, 0, none⟩ (.bool false)).cell? ⟨w.heap.size + 1, 0, none⟩ = some (.bool false) ∧ ¬ simpleP l := by
          intro W3 hb3 hmw
          obtain ⟨hB', hcb', hP', hS'⟩ := HS2.out
          have k3 := KeepsOthers.setCell W3 ⟨w.heap.size + 1, 0, none⟩ (.bool false)
          have hS3 := hS'.keep (cellsKept_below hb3) (hb3.mono hS'.bel.size)
          refine ⟨((keeps_of_below hb3).from _).trans (k3.from _), rfl, (((keeps_of_below hB').from _).trans ((keeps_of_below hb3).from _)).trans (k3.from _), hS3.bel.setCell (p := ⟨w.heap.size + 1, 0, none⟩) (by simp) _, World.cell?_setCell_same' _ _ _ (by rw [hS3.res]; rfl), fun hs => hmw ?_⟩
          have := hs k j (by omega) (by rw [← HN.out]; exact hj)
          unfold okS2 at this
          rw [← HMM.out, ← HN.out] at this; exact this
        have HG := Lib.hid hgood; have HBd := Lib.hid hbad
        clear hgood hbad
        rcases hcase with ⟨hwant, f1 | ⟨f1, f2, f3⟩⟩ | ⟨hwant, ⟨f1, f2, f3⟩ | ⟨f1, f2⟩⟩
        · by_cases hmw : m = 1
          · have hmb : (m != 1) = false := by simpa [hwant] using hmw
            have HWT := Lib.hid hwant; have HMW := Lib.hid hmw; clear hwant hmw
            gi_wp2
            all_goals first | (exact absurd (Option.some.inj ‹some undef = some (Value.bool _)›) (fun h => Value.noConfusion h)) | skip
            refine ⟨trivial, (CallsIn.inRound lq (CallsIn.inRound lp (callsIn_wide.2 HM.out))).mono ?_⟩
            rintro e W3 ⟨rfl, hb3⟩
            have h9 := HG.out W3 hb3 (by rw [HWT.out]; exact HMW.out)
            clear hb3
            gi_wp2
            exact h9
          · have hmb : (m != 1) = true := by simpa [hwant] using hmw
            have HWT := Lib.hid hwant; have HMW := Lib.hid hmw; clear hwant hmw
            gi_wp2
            all_goals first | (exact absurd (Option.some.inj ‹some undef = some (Value.bool _)›) (fun h => Value.noConfusion h)) | skip
            refine ⟨trivial, (CallsIn.inRound lq (CallsIn.inRound lp (callsIn_wide.2 HM.out))).mono ?_⟩
            rintro e W3 ⟨rfl, hb3⟩
            have h9 := HBd.out W3 hb3 (by rw [HWT.out]; exact HMW.out)
            have hres3 := below_cell hb3 hres
            have hfr3 : W3.frozen? ⟨w.heap.size + 1, 0, none⟩ = false := (cellsKept_below hb3).frozen hres hfr
            have H9 := Lib.hid h9
            clear hb3 h9
            gi_wp2
            exact ⟨H9.out.1, rfl, H9.out.2.2⟩
        · by_cases hmw : m = 1
          · have hmb : (m != 1) = false := by simpa [hwant] using hmw
            have HWT := Lib.hid hwant; have HMW := Lib.hid hmw; clear hwant hmw
            gi_wp2
            all_goals first | (exact absurd (Option.some.inj ‹some undef = some (Value.bool _)›) (fun h => Value.noConfusion h)) | skip
            refine ⟨trivial, (CallsIn.inRound lq (CallsIn.inRound lp (callsIn_wide.2 HM.out))).mono ?_⟩
            rintro e W3 ⟨rfl, hb3⟩
            have h9 := HG.out W3 hb3 (by rw [HWT.out]; exact HMW.out)
            clear hb3
            gi_wp2
            exact h9
          · have hmb : (m != 1) = true := by simpa [hwant] using hmw
            have HWT := Lib.hid hwant; have HMW := Lib.hid hmw; clear hwant hmw
            gi_wp2
            all_goals first | (exact absurd (Option.some.inj ‹some undef = some (Value.bool _)›) (fun h => Value.noConfusion h)) | skip
            refine ⟨trivial, (CallsIn.inRound lq (CallsIn.inRound lp (callsIn_wide.2 HM.out))).mono ?_⟩
            rintro e W3 ⟨rfl, hb3⟩
            have h9 := HBd.out W3 hb3 (by rw [HWT.out]; exact HMW.out)
            have hres3 := below_cell hb3 hres
            have hfr3 : W3.frozen? ⟨w.heap.size + 1, 0, none⟩ = false := (cellsKept_below hb3).frozen hres hfr
            have H9 := Lib.hid h9
            clear hb3 h9
            gi_wp2
            exact ⟨H9.out.1, rfl, H9.out.2.2⟩
        · by_cases hmw : m = 0
          · have hmb : (m != 0) = false := by simpa [hwant] using hmw
            have HWT := Lib.hid hwant; have HMW := Lib.hid hmw; clear hwant hmw
            gi_wp2
            all_goals first | (exact absurd (Option.some.inj ‹some undef = some (Value.bool _)›) (fun h => Value.noConfusion h)) | skip
            refine ⟨trivial, (CallsIn.inRound lq (CallsIn.inRound lp (callsIn_wide.2 HM.out))).mono ?_⟩
            rintro e W3 ⟨rfl, hb3⟩
            have h9 := HG.out W3 hb3 (by rw [HWT.out]; exact HMW.out)
            clear hb3
            gi_wp2
            exact h9
          · have hmb : (m != 0) = true := by simpa [hwant] using hmw
            have HWT := Lib.hid hwant; have HMW := Lib.hid hmw; clear hwant hmw
            gi_wp2
            all_goals first | (exact absurd (Option.some.inj ‹some undef = some (Value.bool _)›) (fun h => Value.noConfusion h)) | skip
            refine ⟨trivial, (CallsIn.inRound lq (CallsIn.inRound lp (callsIn_wide.2 HM.out))).mono ?_⟩
            rintro e W3 ⟨rfl, hb3⟩
            have h9 := HBd.out W3 hb3 (by rw [HWT.out]; exact HMW.out)
            have hres3 := below_cell hb3 hres
            have hfr3 : W3.frozen? ⟨w.heap.size + 1, 0, none⟩ = false := (cellsKept_below hb3).frozen hres hfr
            have H9 := Lib.hid h9
            clear hb3 h9
            gi_wp2
            exact ⟨H9.out.1, rfl, H9.out.2.2⟩
        · by_cases hmw : m = 0
          · have hmb : (m != 0) = false := by simpa [hwant] using hmw
            have HWT := Lib.hid hwant; have HMW := Lib.hid hmw; clear hwant hmw
            gi_wp2
            all_goals first | (exact absurd (Option.some.inj ‹some undef = some (Value.bool _)›) (fun h => Value.noConfusion h)) | skip
            refine ⟨trivial, (CallsIn.inRound lq (CallsIn.inRound lp (callsIn_wide.2 HM.out))).mono ?_⟩
            rintro e W3 ⟨rfl, hb3⟩
            have h9 := HG.out W3 hb3 (by rw [HWT.out]; exact HMW.out)
            clear hb3
            gi_wp2
            exact h9
          · have hmb : (m != 0) = true := by simpa [hwant] using hmw
            have HWT := Lib.hid hwant; have HMW := Lib.hid hmw; clear hwant hmw
            gi_wp2
            all_goals first | (exact absurd (Option.some.inj ‹some undef = some (Value.bool _)›) (fun h => Value.noConfusion h)) | skip
            refine ⟨trivial, (CallsIn.inRound lq (CallsIn.inRound lp (callsIn_wide.2 HM.out))).mono ?_⟩
            rintro e W3 ⟨rfl, hb3⟩
            have h9 := HBd.out W3 hb3 (by rw [HWT.out]; exact HMW.out)
            have hres3 := below_cell hb3 hres
            have hfr3 : W3.frozen? ⟨w.heap.size + 1, 0, none⟩ = false := (cellsKept_below hb3).frozen hres hfr
            have H9 := Lib.hid h9
            clear hb3 h9
            gi_wp2
            exact ⟨H9.out.1, rfl, H9.out.2.2⟩
    case idone =>
      rintro W' ⟨hB', hcb', hP'⟩
      have HX := Lib.hid (⟨hB', hP'⟩ : Below W.heap.size W W' ∧ ∀ j', k < j' → j' < n → okS2 l k j')
      clear hB' hP' hcb'
      gi_wp2
      obtain ⟨hB', hP'⟩ := HX.out
      obtain ⟨hS, hP⟩ := H0.out
      refine ⟨(keeps_of_below hB').from _, hS.keep (cellsKept_below hB') (hB'.mono hS.bel.size), fun i j h1 h2 h3 => ?_⟩
      by_cases h : i = k
      · subst h; exact hP' j h2 h3
      · exact hP i j (by omega) h2 h3
    case istop =>
      rintro c j W' ⟨rfl, h⟩
      have HX := Lib.hid h; clear h
      gi_wp2
      exact ⟨HX.out.1, rfl, HX.out.2⟩
  case done =>
    rintro D W hD ⟨hS, hP⟩ hK
    have hres := hS.res; have hfr := hS.fr
    have HX := Lib.hid (⟨hS, hP⟩ : SimS w p cap n l W ∧ ∀ i j, i < n → i < j → j < n → okS2 l i j); clear hS hP hseq hS0
    gi_wp2
    have hK' := (KeepsOthers.setCell W ⟨w.heap.size + 1, 0, none⟩ (.bool true)).same D _ hK rfl
    refine ⟨by simp, .inl ⟨_, _, rfl, run_takeDeferred hK', ?_⟩⟩
    have hc5 := (kept_put hK').cell (World.cell?_setCell_same' W ⟨w.heap.size + 1, 0, none⟩ (.bool true) (by rw [hres]; rfl))
    obtain ⟨hS, hP⟩ := HX.out
    refine ⟨.bool true, ?_, true, rfl, ⟨fun _ i k h1 h2 => ?_, fun _ => rfl⟩, below_put (hS.bel.setCell (p := ⟨w.heap.size + 1, 0, none⟩) (by simp) _) (by have := HS.out; omega) hK'⟩
    · simp [results, Tryz.f63, go_sem, hc5]
    · have hn := HN.out; exact hP i k (by omega) h1 (by omega)
  case stop =>
    rintro D c k W hD ⟨rfl, hbel, hres, hno⟩ hK
    have HX := Lib.hid (⟨hbel, hno⟩ : Below w.heap.size w W ∧ ¬ simpleP l); clear hbel hno hseq hS0
    gi_wp2
    refine ⟨by simp, .inl ⟨_, _, rfl, run_takeDeferred hK, ?_⟩⟩
    have hc5 := (kept_put hK).cell hres
    refine ⟨.bool false, by simp [results, Tryz.f63, go_sem, hc5], false, rfl, ⟨fun h => by simp at h, fun h => absurd h HX.out.2⟩, below_put HX.out.1 (by have := HS.out; omega) hK⟩
end Go.Proofs.YtapfekcbbhhieaaGreatDoor

namespace Go.Proofs.YtapfekcbbhhieaaGreatDoor
open Go.RowKit Go.Shelf Lib Str Limb Geo
attribute [local go_sem] Oper.semAt_some

/-- No side is a point. -/
def sidesP (l : List Pt) : Prop := ∀ i, i < l.length → cor l i ≠ cor l (i + 1)

/-- What is known of the memory in Check. -/
structure ChkS (w : World) (p : Option Addr) (n : Nat) (l : List Pt) (W : World) : Prop where
  bel : Below w.heap.size w W
  res : ∃ r, W.cell? ⟨w.heap.size, 0, none⟩ = some (.int .i64 r)
  fr : W.frozen? ⟨w.heap.size, 0, none⟩ = false
  pts : ∀ i, i < n → ∃ b off, p = some ⟨b, off, none⟩ ∧ W.cell? ⟨b, off + i * 2, none⟩ = some (St (ptOf (txt l) i).1) ∧ W.cell? ⟨b, off + i * 2 + 1, none⟩ = some (St (ptOf (txt l) i).2)
theorem ChkS.keep {w : World} {p : Option Addr} {n : Nat} {l : List Pt} {W W' : World} (h : ChkS w p n l W) (hc : CellsKept W W') (hb : Below w.heap.size W W') : ChkS w p n l W' :=
  ⟨h.bel.trans hb, let ⟨r, e⟩ := h.res; ⟨r, hc.cell e⟩, let ⟨r, e⟩ := h.res; hc.frozen e h.fr, fun i hi => let ⟨b, off, e, h1, h2⟩ := h.pts i hi; ⟨b, off, e, hc.cell h1, hc.cell h2⟩⟩
theorem ChkS.ptsAt {w : World} {p : Option Addr} {cap n : Nat} {l : List Pt} {W : World} (hn : n = l.length) (h : ChkS w p n l W) {B : Nat} (hB : W.cell? ⟨B, 0, none⟩ = some (.slice p n cap)) : PtsAt B p cap (txt l) W := by
  refine ⟨by rw [txt_length, ← hn]; exact hB, fun i hi => h.pts i (by rw [txt_length] at hi; omega)⟩

set_option maxRecDepth 100000 in
set_option maxHeartbeats 2000000 in
theorem check_walk (p : Option Addr) (cap : Nat) (l : List Pt) (h3 : 3 ≤ l.length) (hlen : l.length ≤ 4096)
    (CP : Hid (∀ i, i < l.length → ∀ W : World, Wd W → Calls Tryz.prog 40 #[ptV (cor l i)] W fun e w' => e = .returned (.int .i64 0) ∧ Below W.heap.size W w'))
    (S : Hid (∀ W : World, Wd W → (∀ i, i < l.length → ∃ b off, p = some ⟨b, off, none⟩ ∧ W.cell? ⟨b, off + i * 2, none⟩ = some (St (ptOf (txt l) i).1) ∧ W.cell? ⟨b, off + i * 2 + 1, none⟩ = some (St (ptOf (txt l) i).2)) →
      Calls Tryz.prog 63 #[.slice p l.length cap] W fun e w' => ∃ b, e = .returned (.bool b) ∧ (b = true ↔ simpleP l) ∧ Below W.heap.size W w'))
    (w : World) (HW : Hid (Wd w))
    (HP : Hid (∀ i, i < l.length → ∃ b off, p = some ⟨b, off, none⟩ ∧ w.cell? ⟨b, off + i * 2, none⟩ = some (St (ptOf (txt l) i).1) ∧ w.cell? ⟨b, off + i * 2 + 1, none⟩ = some (St (ptOf (txt l) i).2))) :
    Calls Tryz.prog 31 #[.slice p l.length cap] w fun e w' => ∃ r : Int, e = .returned (.int .i64 r) ∧ ((¬ sidesP l ∧ r = 12) ∨ (sidesP l ∧ ¬ simpleP l ∧ r = 15) ∨ (sidesP l ∧ simpleP l ∧ r = 0)) ∧ Below w.heap.size w w' := by
  refine (callsIn_wide (n := 3)).1 ?_
  refine callsIn_of_wp_marks Tryz.func31 rfl trivial ?_ rfl
  simp only [Tryz.ntmps31, List.size_toArray, List.length_cons, List.length_nil, Nat.reduceAdd, Nat.reduceSub, Array.replicate_succ, Array.replicate_zero, List.push_toArray, List.append_toArray, List.nil_append, List.cons_append]
  obtain ⟨n, hn⟩ : ∃ n, n = l.length := ⟨_, rfl⟩
  have hS0 : ChkS w p n l (w.alloc (.cells #[.int .i64 0] 28)) := by
    have b1 := Boxed.new w 28 (.int .i64 0)
    have hbel : Below w.heap.size w (w.alloc (.cells #[.int .i64 0] 28)) := (Below.refl _ w).alloc (Nat.le_refl _) _
    refine ⟨hbel, ⟨_, b1.cell⟩, b1.frozen, fun i hi => ?_⟩
    obtain ⟨b, off, e, h1, h2⟩ := HP.out i (by omega)
    exact ⟨b, off, e, below_cell hbel h1, below_cell hbel h2⟩
  rw [← hn] at h3 hlen ⊢
  have HN := Lib.hid hn; clear hn
  have HS0 := Lib.hid hS0; clear hS0 HP
  have hn1 : decide ((4096 : Int) < (n : Int)) = false := decide_eq_false (by omega)
  have hn2 : decide ((n : Int) < 3) = false := decide_eq_false (by omega)
  gi_wp2
  gi_loopw [18] (fun i wr => ∃ (k : Nat), k ≤ n ∧ i = .int .i64 (k : Int) ∧ Hid (ChkS w p n l wr))
    (fun i _ => n - (RowKit.intOf i).toNat)
  case atStart => exact ⟨0, Nat.zero_le _, rfl, HS0.out⟩
  case round =>
    clear hn1 hn2
    obtain ⟨k, hk, rfl, hS⟩ := hrel
    by_cases hlt : k < n
    · obtain ⟨b, off, rfl, c0, c1⟩ := hS.out.pts k hlt
      have hb1 : Below wr.heap.size wr (wr.alloc (.cells #[St (ptOf (txt l) k).1, St (ptOf (txt l) k).2] 24)) := (Below.refl _ wr).alloc (Nat.le_refl _) _
      have hS1 := Lib.hid (hS.out.keep (cellsKept_below hb1) (hb1.mono hS.out.bel.size))
      have hcp := CP.out k (by rw [← HN.out]; exact hlt) _ (HW.out.below hS1.out.bel)
      have ep : ptV (cor l k) = .agg #[St (ptOf (txt l) k).1, St (ptOf (txt l) k).2] := by rw [ptOf_txt l k (by rw [← HN.out]; exact hlt)]; rfl
      rw [ep] at hcp
      have HCP := Lib.hid hcp
      clear hcp ep hb1
      generalize (ptOf (txt l) k).1 = x at *
      generalize (ptOf (txt l) k).2 = y at *
      gi_wp2
      refine ⟨trivial, (callsIn_wide.2 HCP.out).mono ?_⟩
      rintro e W2 ⟨rfl, hb2⟩
      have hS2 := Lib.hid (hS1.out.keep (cellsKept_below hb2) (hb2.mono hS1.out.bel.size))
      clear hb2 HCP hS1 HS0
      gi_wp2
      go_roundw
      case rel => exact ⟨k + 1, by omega, by go_num, hS2⟩
      case measure => simp [RowKit.intOf]; omega
    · obtain rfl : k = n := by omega
      clear HS0
      gi_wp2_with (refine ⟨trivial, ?_⟩; gi_at_call 32; refine (callsIn_wide.2 (sides_any _ _ _ _ _ rfl)).mono ?_; rintro e w' ⟨rfl, rfl⟩)
      obtain ⟨W1, hW1⟩ : ∃ W1, W1 = wr.alloc (.cells #[.slice p k cap] 26) := ⟨_, rfl⟩
      have hb1 : Below wr.heap.size wr W1 := by rw [hW1]; exact (Below.refl _ wr).alloc (Nat.le_refl _) _
      have hcb : W1.cell? ⟨wr.heap.size, 0, none⟩ = some (.slice p k cap) := by rw [hW1]; exact (Boxed.new wr 26 (.slice p k cap)).cell
      have hS1 := hS.out.keep (cellsKept_below hb1) (hb1.mono hS.out.bel.size)
      rw [← hW1]
      clear hW1 hS
      have HS1 := Lib.hid hS1.bel.size
      have hseq := sides_ix 2 (by omega) wr.heap.size (txt l) (by rw [txt_length, ← HN.out]; omega) (fun W => ChkS w p k l W ∧ W.cell? ⟨wr.heap.size, 0, none⟩ = some (.slice p k cap)) p cap (fun W h => h.1.ptsAt HN.out h.2)
      rw [txt_length, ← HN.out] at hseq
      refine range_out (n := 3) (B := w.heap.size) rfl (by omega) rfl trivial (enters_of Tryz.func64 (by kernel_rfl) rfl) hseq (fun k args h => by subst h; rfl) hS1.bel.size
        (fun j W => ChkS w p k l W ∧ W.cell? ⟨wr.heap.size, 0, none⟩ = some (.slice p k cap) ∧ ∀ i, i < j → cor l i ≠ cor l (i + 1))
        (fun c _ W => c = .ret ∧ Below w.heap.size w W ∧ W.cell? ⟨w.heap.size, 0, none⟩ = some (.int .i64 12) ∧ ¬ sidesP l)
        (fun j X Y h hc hb => ⟨h.1.keep hc hb, hc.cell h.2.1, h.2.2⟩) (fun c j X Y h hc hb => ⟨h.1, h.2.1.trans hb, hc.cell h.2.2.1, h.2.2.2⟩) (fun j W h => ⟨h.1, h.2.1⟩) ⟨hS1, hcb, fun i h => by omega⟩
        (fun j _ a' W => ∃ bs, a' = { tmps := #[Value.slice p k cap, undef, Value.pointer (some { block := w.heap.size, off := 0 }), undef, u4, u5, undef, .pointer (some ⟨bs, 0, none⟩), Value.bool false, Value.slice p k cap, Value.int IntKind.i64 ↑k, Value.bool false, Value.bool false, Value.slice p k cap, Value.int IntKind.i64 ↑k, Value.bool false, Value.slice p k cap, Value.int IntKind.i64 ↑k, Value.int IntKind.i64 ↑k, Value.bool false, u20, u21, u22, u23, u24, u25, u26, u27, Value.slice p k cap, Value.func (Fn.func 64) #[] #[Value.pointer (some { block := wr.heap.size, off := 0 })], I j, segV (cor l j) (cor l (j + 1)), undef, undef, undef, undef, undef, undef, undef, undef], defers := [] } ∧ SegAt bs (cor l j) (cor l (j + 1)) W)
        (fun j _ a' X Y h hc hb => let ⟨bs, e, h2⟩ := h; ⟨bs, e, h2.keep hc⟩) ?assign ?body ?done ?stop
      case assign =>
        rintro lp j args W K hlp hrec ⟨hS, hcb, hP⟩ hj rfl hK
        rw [side_txt l j (by rw [← HN.out]; exact hj)]
        have HK := Lib.hid hK; clear hK
        unfold segV
        gi_wp2
        have hb1 : Below W.heap.size W (W.alloc (.cells #[St (numS (cor l j).x), St (numS (cor l j).y), St (numS (cor l (j + 1)).x), St (numS (cor l (j + 1)).y)] 69)) := (Below.refl _ W).alloc (Nat.le_refl _) _
        exact HK.out _ _ ((keeps_of_below hb1).from _) ⟨hS.keep (cellsKept_below hb1) (hb1.mono hS.bel.size), below_cell hb1 hcb, hP⟩ ⟨W.heap.size, rfl, SegAt.new W (cor l j) (cor l (j + 1)) 69⟩
      case body =>
        rintro lp j args a' W hlp ⟨r, hr⟩ ⟨hS, hcb, hP⟩ hj rfl ⟨bs, rfl, hseg⟩
        obtain ⟨g0, g1, g2, g3⟩ := hseg
        obtain ⟨r0, hres⟩ := hS.res
        have hfr := hS.fr
        have H0 := Lib.hid (⟨hS, hcb, hP⟩ : ChkS w p k l W ∧ W.cell? ⟨wr.heap.size, 0, none⟩ = some (.slice p k cap) ∧ ∀ i, i < j → cor l i ≠ cor l (i + 1))
        clear hS hcb hP hseq hS1 hr
        unfold segV
        have hgood : cor l j ≠ cor l (j + 1) → KeepsFrom W1.heap.size W W ∧ ChkS w p k l W ∧ W.cell? ⟨wr.heap.size, 0, none⟩ = some (.slice p k cap) ∧ ∀ i, i < j + 1 → cor l i ≠ cor l (i + 1) := fun hne => by
          obtain ⟨hS, hcb, hP⟩ := H0.out
          refine ⟨KeepsFrom.refl _ _, hS, hcb, fun i hi => ?_⟩
          by_cases h : i = j
          · subst h; exact hne
          · exact hP i (by omega)
        have HG := Lib.hid hgood; clear hgood
        by_cases hx : numS (cor l j).x = numS (cor l (j + 1)).x
        · by_cases hy : numS (cor l j).y = numS (cor l (j + 1)).y
          · have HE := Lib.hid (⟨hx, hy⟩ : numS (cor l j).x = numS (cor l (j + 1)).x ∧ numS (cor l j).y = numS (cor l (j + 1)).y)
            gi_wp2
            obtain ⟨hS, hcb, hP⟩ := H0.out
            refine ⟨(KeepsOthers.setCell _ _ _).from _, rfl, hS.bel.setCell (p := ⟨w.heap.size, 0, none⟩) (by simp) _, World.cell?_setCell_same' _ _ _ (by rw [hres]; rfl), fun hs => hs j (by rw [← HN.out]; exact hj) ?_⟩
            have h1 := numS_inj HE.out.1; have h2 := numS_inj HE.out.2
            revert h1 h2
            generalize cor l j = a; generalize cor l (j + 1) = b
            intro h1 h2
            cases a; cases b; simp at h1 h2; rw [h1, h2]
          · have HE := Lib.hid hy
            gi_wp2
            exact HG.out fun h => HE.out (by rw [h])
        · have HE := Lib.hid hx
          gi_wp2
          exact HG.out fun h => HE.out (by rw [h])
      case done =>
        rintro D W hD ⟨hS, hcb, hP⟩ hK
        have hs := S.out W (HW.out.below hS.bel) (fun i hi => hS.pts i (by rw [HN.out]; exact hi))
        rw [← HN.out] at hs
        have HSm := Lib.hid hs
        have HX := Lib.hid (⟨hS, hP, hK⟩ : ChkS w p k l W ∧ (∀ i, i < k → cor l i ≠ cor l (i + 1)) ∧ W.heap[D]? = some (.deferred (some []))); clear hS hP hseq hS1 hs hK
        gi_wp2
        refine ⟨trivial, (callsIn_wide.2 HSm.out).mono ?_⟩
        rintro e W3 ⟨b, rfl, hb, hb3⟩
        obtain ⟨hS, hP, hK⟩ := HX.out
        have hS3 := hS.keep (cellsKept_below hb3) (hb3.mono hS.bel.size)
        have hK3 : W3.heap[D]? = some (.deferred (some [])) := (hb3.block _ (Array.getElem?_eq_some_iff.1 hK).1).trans hK
        have hside : sidesP l := fun i hi => hP i (by rw [HN.out]; exact hi)
        obtain ⟨r3, hres⟩ := hS3.res
        have hfr := hS3.fr
        have H3 := Lib.hid (⟨hS3.bel, hK3, hside, hb⟩ : Below w.heap.size w W3 ∧ W3.heap[D]? = some (.deferred (some [])) ∧ sidesP l ∧ (b = true ↔ simpleP l))
        clear HX hS hP hK hS3 hK3 hside hb hb3 HSm
        cases b
        · gi_wp2
          obtain ⟨hbel, hK3, hside, hb⟩ := H3.out
          have hK' := (KeepsOthers.setCell W3 ⟨w.heap.size, 0, none⟩ (.int .i64 15)).same D _ hK3 rfl
          refine ⟨by simp, .inl ⟨_, _, rfl, run_takeDeferred hK', ?_⟩⟩
          have hc5 := (kept_put hK').cell (World.cell?_setCell_same' W3 ⟨w.heap.size, 0, none⟩ (.int .i64 15) (by rw [hres]; rfl))
          refine ⟨.int .i64 15, ?_, 15, rfl, .inr (.inl ⟨hside, fun h => (by have := hb.2 h; simp at this), rfl⟩), below_put (hbel.setCell (p := ⟨w.heap.size, 0, none⟩) (by simp) _) (by have := HS1.out; omega) hK'⟩
          simp [results, Tryz.f31, go_sem, hc5]
        · gi_wp2
          obtain ⟨hbel, hK3, hside, hb⟩ := H3.out
          have hK' := (KeepsOthers.setCell W3 ⟨w.heap.size, 0, none⟩ (.int .i64 0)).same D _ hK3 rfl
          refine ⟨by simp, .inl ⟨_, _, rfl, run_takeDeferred hK', ?_⟩⟩
          have hc5 := (kept_put hK').cell (World.cell?_setCell_same' W3 ⟨w.heap.size, 0, none⟩ (.int .i64 0) (by rw [hres]; rfl))
          refine ⟨.int .i64 0, ?_, 0, rfl, .inr (.inr ⟨hside, hb.1 (by trivial), rfl⟩), below_put (hbel.setCell (p := ⟨w.heap.size, 0, none⟩) (by simp) _) (by have := HS1.out; omega) hK'⟩
          simp [results, Tryz.f31, go_sem, hc5]
      case stop =>
        rintro D c j W hD ⟨rfl, hbel, hres, hno⟩ hK
        have HX := Lib.hid (⟨hbel, hno⟩ : Below w.heap.size w W ∧ ¬ sidesP l); clear hbel hno hseq hS1
        gi_wp2
        refine ⟨by simp, .inl ⟨_, _, rfl, run_takeDeferred hK, ?_⟩⟩
        have hc5 := (kept_put hK).cell hres
        refine ⟨.int .i64 12, by simp [results, Tryz.f31, go_sem, hc5], 12, rfl, .inl ⟨HX.out.2, rfl⟩, below_put HX.out.1 (by have := HS1.out; omega) hK⟩

/-- The points of a list lie in the world, ahead of any box. -/
def RowPts (p : Option Addr) (l : List Pt) (W : World) : Prop :=
  ∀ i, i < l.length → ∃ b off, p = some ⟨b, off, none⟩ ∧ W.cell? ⟨b, off + i * 2, none⟩ = some (St (ptOf (txt l) i).1) ∧ W.cell? ⟨b, off + i * 2 + 1, none⟩ = some (St (ptOf (txt l) i).2)
theorem RowPts.keep {p : Option Addr} {l : List Pt} {W W' : World} (h : RowPts p l W) (hc : CellsKept W W') : RowPts p l W' := fun i hi => let ⟨b, off, e, h1, h2⟩ := h i hi; ⟨b, off, e, hc.cell h1, hc.cell h2⟩

theorem simple_ok (p : Option Addr) (cap : Nat) (l : List Pt) (h3 : 3 ≤ l.length) (hlen : l.length ≤ 4096) (hz : ∀ i, szP (cor l i) 36) (w : World) (hw : Wd w) (hp : RowPts p l w) :
    Calls Tryz.prog 63 #[.slice p l.length cap] w fun e w' => ∃ b, e = .returned (.bool b) ∧ (b = true ↔ simpleP l) ∧ Below w.heap.size w w' :=
  simple_walk p cap l h3 hlen (Lib.hid fun i k _ _ W hW => meet_ok _ _ _ _ 36 (by omega) (by omega) (hz _) (hz _) (hz _) (hz _) W hW) w (Lib.hid hw) (Lib.hid hp)

theorem check_list (p : Option Addr) (cap : Nat) (l : List Pt) (h3 : 3 ≤ l.length) (hlen : l.length ≤ 4096) (hz : ∀ i, szP (cor l i) 36) (w : World) (hw : Wd w) (hp : RowPts p l w) :
    Calls Tryz.prog 31 #[.slice p l.length cap] w fun e w' => ∃ r : Int, e = .returned (.int .i64 r) ∧ ((¬ sidesP l ∧ r = 12) ∨ (sidesP l ∧ ¬ simpleP l ∧ r = 15) ∨ (sidesP l ∧ simpleP l ∧ r = 0)) ∧ Below w.heap.size w w' :=
  check_walk p cap l h3 hlen (Lib.hid fun i _ W hW => checkPoint_sz _ (hz i) W hW) (Lib.hid fun W hW hp => simple_ok p cap l h3 hlen hz W hW hp) w (Lib.hid hw) (Lib.hid hp)

theorem check_poly (p : Option Addr) (cap : Nat) (l : List Pt) (h3 : 3 ≤ l.length) (hlen : l.length ≤ 4096) (hz : ∀ i, szP (cor l i) 36) (hs : sidesP l) (hm : simpleP l) (w : World) (hw : Wd w) (hp : RowPts p l w) :
    Calls Tryz.prog 31 #[.slice p l.length cap] w fun e w' => e = .returned (.int .i64 0) ∧ Below w.heap.size w w' := by
  refine (check_list p cap l h3 hlen hz w hw hp).mono ?_
  rintro e w' ⟨r, rfl, h, hb⟩
  rcases h with ⟨h, _⟩ | ⟨_, h, _⟩ | ⟨_, _, rfl⟩
  · exact absurd hs h
  · exact absurd hm h
  · exact ⟨rfl, hb⟩
end Go.Proofs.YtapfekcbbhhieaaGreatDoor

namespace Go.Proofs.YtapfekcbbhhieaaGreatDoor
open Go.RowKit Go.Shelf Lib Str Limb Geo
attribute [local go_sem] Oper.semAt_some

/-- A point, as texts, is right and short. -/
def goodT (x : List UInt8 × List UInt8) : Prop := x.1.length ≤ 12 ∧ x.2.length ≤ 12 ∧ okS x.1 ∧ okS x.2

/-- A call answers whether G fails. -/
def BoolP (w : World) (G : Prop) (e : Ending) (w' : World) : Prop := ∃ b : Bool, e = .returned (.bool b) ∧ (b = false ↔ G) ∧ Below w.heap.size w w'
theorem BoolP.no {w w' : World} {G : Prop} (h : ¬ G) (hb : Below w.heap.size w w') : BoolP w G (.returned (.bool true)) w' := ⟨true, rfl, ⟨fun k => by simp at k, fun k => absurd k h⟩, hb⟩
theorem BoolP.yes {w w' : World} {G : Prop} (h : G) (hb : Below w.heap.size w w') : BoolP w G (.returned (.bool false)) w' := ⟨false, rfl, ⟨fun _ => h, fun _ => rfl⟩, hb⟩

theorem up_le (l : List UInt8) : (upS l).length ≤ l.length ∧ (dnS l).length ≤ l.length := by
  have hb : (bare l).length ≤ l.length := by
    rcases bare_cases l with ⟨_, h⟩ | ⟨_, h⟩
    · have := congrArg List.length h; simp at this; omega
    · rw [← h]; exact Nat.le_refl _
  constructor
  · exact Nat.le_trans (List.takeWhile_sublist _).length_le hb
  · unfold dnS
    have := (List.dropWhile_sublist (p := (· != (47 : UInt8))) (l := bare l)).length_le
    simp; omega

theorem xCheck_short (l : List UInt8) (h : l.length ≤ 12) (w : World) (hw : Wd w) :
    Calls Tryz.prog 39 #[St l] w fun e w' => ∃ r : Int, e = .returned (.int .i64 r) ∧ (r = 0 ↔ okS l) ∧ Below w.heap.size w w' :=
  xCheck_any l (by have := (up_le l).1; omega) (by have := (up_le l).2; omega) (by omega) w hw

set_option maxRecDepth 100000 in
set_option maxHeartbeats 2000000 in
theorem short1_walk (x y : ByteArray) (Q1 Q2 : Prop)
    (C1 : Hid (x.size ≤ 12 → ∀ W : World, Wd W → Calls Tryz.prog 39 #[.string x] W fun e w' => ∃ r : Int, e = .returned (.int .i64 r) ∧ (r = 0 ↔ Q1) ∧ Below W.heap.size W w'))
    (C2 : Hid (y.size ≤ 12 → ∀ W : World, Wd W → Calls Tryz.prog 39 #[.string y] W fun e w' => ∃ r : Int, e = .returned (.int .i64 r) ∧ (r = 0 ↔ Q2) ∧ Below W.heap.size W w'))
    (w : World) (HW : Hid (Wd w)) :
    Calls Tryz.prog 38 #[.agg #[.string x, .string y]] w (BoolP w (x.size ≤ 12 ∧ y.size ≤ 12 ∧ Q1 ∧ Q2)) := by
  obtain ⟨W1, hW1⟩ : ∃ W1, W1 = w.alloc (.cells #[.string x, .string y] 24) := ⟨_, rfl⟩
  have hb1 : Below w.heap.size w W1 := by rw [hW1]; exact (Below.refl _ w).alloc (Nat.le_refl _) _
  have A : W1.heap[w.heap.size]? = some (.cells #[.string x, .string y] 24 (0, 0)) := by rw [hW1]; exact World.alloc_heap_new w _
  have a0 : W1.cell? ⟨w.heap.size, 0, none⟩ = some (.string x) := by rw [Go.Joins.cell_of_block A]; rfl
  have a1 : W1.cell? ⟨w.heap.size, 1, none⟩ = some (.string y) := by rw [Go.Joins.cell_of_block A]; rfl
  have i0 := a0; have i1 := a1
  rw [hW1] at i0 i1
  have HB := Lib.hid hb1
  have HW1 := Lib.hid hW1
  have HA := Lib.hid (⟨a0, a1⟩ : W1.cell? ⟨w.heap.size, 0, none⟩ = some (.string x) ∧ W1.cell? ⟨w.heap.size, 1, none⟩ = some (.string y))
  clear hb1 A hW1 a0 a1
  by_cases h1 : (12 : Int) < x.size
  · have HN := Lib.hid (fun h => by omega : ¬ (x.size ≤ 12 ∧ y.size ≤ 12 ∧ Q1 ∧ Q2))
    go_enter Tryz.func38, Tryz.ntmps38
    go_wp2_with fail
    go_ret
    exact BoolP.no HN.out (by rw [← HW1.out]; exact HB.out)
  · by_cases h2 : (12 : Int) < y.size
    · have HN := Lib.hid (fun h => by omega : ¬ (x.size ≤ 12 ∧ y.size ≤ 12 ∧ Q1 ∧ Q2))
      go_enter Tryz.func38, Tryz.ntmps38
      go_wp2_with fail
      go_ret
      exact BoolP.no HN.out (by rw [← HW1.out]; exact HB.out)
    · have c1 := C1.out (by omega) W1 (HW.out.below HB.out)
      have H1 := Lib.hid c1; clear c1
      have C3 := Lib.hid (C2.out (by omega))
      have hq : (x.size ≤ 12 ∧ y.size ≤ 12 ∧ Q1 ∧ Q2) ↔ Q1 ∧ Q2 := ⟨fun h => h.2.2, fun h => ⟨by omega, by omega, h⟩⟩
      rw [hq]
      clear hq
      go_enter Tryz.func38, Tryz.ntmps38
      go_wp2_with fail
      rw [← HW1.out]
      refine H1.out.mono ?_
      rintro e w2 ⟨r, rfl, hr, hb2⟩
      have HR := Lib.hid hr
      have hB2 := HB.out.trans (hb2.mono HB.out.size)
      have g0 := (cellsKept_below hb2).cell HA.out.1; have g1 := (cellsKept_below hb2).cell HA.out.2
      clear hr hb2 i0 i1
      by_cases h0 : r = 0
      · have hrb : (r != 0) = false := by subst h0; rfl
        have HR0 := Lib.hid (HR.out.1 h0)
        clear h0
        go_wp2_with fail
        refine (C3.out w2 (HW.out.below hB2)).mono ?_
        rintro e w3 ⟨r3, rfl, hr3, hb3⟩
        have hB3 := hB2.trans (hb3.mono hB2.size)
        by_cases h3 : r3 = 0
        · have hrb3 : (r3 != 0) = false := by subst h3; rfl
          have HR3 := Lib.hid (hr3.1 h3)
          clear h3 hr3 hb3
          go_wp2_with fail
          go_ret
          exact BoolP.yes ⟨HR0.out, HR3.out⟩ hB3
        · have hrb3 : (r3 != 0) = true := by simpa using h3
          have HR3 := Lib.hid (fun h => h3 (hr3.2 h) : ¬ Q2)
          clear h3 hr3 hb3
          go_wp2_with fail
          go_ret
          exact BoolP.no (fun h => HR3.out h.2) hB3
      · have hrb : (r != 0) = true := by simpa using h0
        have HR0 := Lib.hid (fun h => h0 (HR.out.2 h) : ¬ Q1)
        clear h0
        go_wp2_with fail
        go_ret
        exact BoolP.no (fun h => HR0.out h.1) hB2

theorem short1_ok (x : List UInt8 × List UInt8) (w : World) (hw : Wd w) :
    Calls Tryz.prog 38 #[.agg #[St x.1, St x.2]] w (BoolP w (goodT x)) := by
  have sz : ∀ k : List UInt8, (⟨k.toArray⟩ : ByteArray).size = k.length := fun k => by show k.toArray.size = _; simp
  have := short1_walk ⟨x.1.toArray⟩ ⟨x.2.toArray⟩ (okS x.1) (okS x.2) (Lib.hid fun h W hW => xCheck_short x.1 (by rw [sz] at h; exact h) W hW) (Lib.hid fun h W hW => xCheck_short x.2 (by rw [sz] at h; exact h) W hW) w (Lib.hid hw)
  rw [sz, sz] at this
  exact this

/-- Points, as texts, lie in the world. -/
def RowTx (p : Option Addr) (l : List (List UInt8 × List UInt8)) (W : World) : Prop :=
  ∀ i, i < l.length → ∃ b off, p = some ⟨b, off, none⟩ ∧ W.cell? ⟨b, off + i * 2, none⟩ = some (St (ptOf l i).1) ∧ W.cell? ⟨b, off + i * 2 + 1, none⟩ = some (St (ptOf l i).2)
theorem RowTx.keep {p : Option Addr} {l : List (List UInt8 × List UInt8)} {W W' : World} (h : RowTx p l W) (hc : CellsKept W W') : RowTx p l W' := fun i hi => let ⟨b, off, e, h1, h2⟩ := h i hi; ⟨b, off, e, hc.cell h1, hc.cell h2⟩

/-- Where the first bad one stands. -/
def IdxP (w : World) (n : Nat) (G : Nat → Prop) (e : Ending) (w' : World) : Prop := ∃ k : Int, e = .returned (.int .i64 k) ∧ ((k = -1 ∧ ∀ i, i < n → G i) ∨ (0 ≤ k ∧ ∃ i, i < n ∧ ¬ G i)) ∧ Below w.heap.size w w'
theorem IdxP.hit {w w' : World} {n : Nat} {G : Nat → Prop} {k : Nat} (hk : k < n) (h : ¬ G k) (hb : Below w.heap.size w w') : IdxP w n G (.returned (.int .i64 (k : Int))) w' := ⟨k, rfl, .inr ⟨by omega, k, hk, h⟩, hb⟩
theorem IdxP.none {w w' : World} {n : Nat} {G : Nat → Prop} (h : ∀ i, i < n → G i) (hb : Below w.heap.size w w') : IdxP w n G (.returned (.int .i64 (-1))) w' := ⟨-1, rfl, .inl ⟨rfl, h⟩, hb⟩

set_option maxRecDepth 100000 in
set_option maxHeartbeats 2000000 in
theorem index_walk (p : Option Addr) (cap n : Nat) (l : List (List UInt8 × List UInt8)) (hn : n = l.length) (hl : n ≤ 5000) (G : Nat → Prop)
    (F : Hid (∀ i, i < n → ∀ W : World, Wd W → Calls Tryz.prog 38 #[.agg #[St (ptOf l i).1, St (ptOf l i).2]] W (BoolP W (G i))))
    (w : World) (HW : Hid (Wd w)) (HP : Hid (RowTx p l w)) :
    Calls Tryz.prog 69 #[.slice p n cap, .func (.func 38) #[] #[]] w (IdxP w n G) := by
  have HN := Lib.hid hn; clear hn
  go_enter Tryz.func69, Tryz.ntmps69
  go_wp2
  go_loopw [8] (fun i wr => ∃ (k : Nat), k ≤ n ∧ i = .int .i64 (k : Int) ∧ Hid (∀ i, i < k → G i) ∧ Hid (Below w.heap.size w wr))
    (fun i _ => n - (RowKit.intOf i).toNat)
  case atStart => exact ⟨0, Nat.zero_le _, rfl, fun i h => by omega, Below.refl _ _⟩
  case round =>
    obtain ⟨k, hk, rfl, hG, hB⟩ := hrel
    by_cases hlt : k < n
    · obtain ⟨b, off, rfl, c0, c1⟩ := (HP.out.keep (cellsKept_below hB.out)) k (by rw [← HN.out]; exact hlt)
      have HF := Lib.hid (F.out k hlt wr (HW.out.below hB.out))
      generalize (ptOf l k).1 = x at *
      generalize (ptOf l k).2 = y at *
      go_wp2_with fail
      refine HF.out.mono ?_
      rintro e w2 ⟨t, rfl, ht, hb2⟩
      have hB2 := Lib.hid (hB.out.trans (hb2.mono hB.out.size))
      have HT := Lib.hid ht; clear ht hb2 HF
      cases t
      · go_wp2_with fail
        go_roundw
        case rel => exact ⟨k + 1, by omega, by go_num, fun i hi => (by
          by_cases e : i = k
          · subst e; exact HT.out.1 (by trivial)
          · exact hG.out i (by omega)), hB2⟩
        case measure => simp [RowKit.intOf]; omega
      · go_wp2_with fail
        go_ret
        exact IdxP.hit hlt (fun h => by have := HT.out.2 h; simp at this) hB2.out
    · have hkn : k = n := by omega
      have HK := Lib.hid hkn; clear hkn
      go_wp2_with fail
      go_ret
      exact IdxP.none (by rw [← HK.out]; exact hG.out) hB.out

set_option maxHeartbeats 400000 in
theorem contains_walk (p : Option Addr) (cap n : Nat) (G : Nat → Prop) (w : World)
    (F : Hid (Calls Tryz.prog 69 #[.slice p n cap, .func (.func 38) #[] #[]] w (IdxP w n G))) :
    Calls Tryz.prog 37 #[.slice p n cap, .func (.func 38) #[] #[]] w (BoolP w (∀ i, i < n → G i)) := by
  go_enter Tryz.func37, Tryz.ntmps37
  go_wp2_with fail
  refine F.out.mono ?_
  rintro e w1 ⟨k, rfl, hk, hB⟩
  rcases hk with ⟨rfl, h⟩ | ⟨h0, i, hi, h⟩
  · have HN := Lib.hid h; clear h
    go_wp2_with fail
    go_ret
    exact BoolP.yes HN.out hB
  · have HN := Lib.hid (fun h' => h (h' i hi) : ¬ ∀ i, i < n → G i); clear h
    go_wp2_with fail
    go_ret
    exact BoolP.no HN.out hB

/-- What short answers. -/
def YesP (w : World) (G : Prop) (e : Ending) (w' : World) : Prop := ∃ b : Bool, e = .returned (.bool b) ∧ (b = true ↔ G) ∧ Below w.heap.size w w'
theorem YesP.no {w w' : World} {G : Prop} (h : ¬ G) (hb : Below w.heap.size w w') : YesP w G (.returned (.bool false)) w' := ⟨false, rfl, ⟨fun k => by simp at k, fun k => absurd k h⟩, hb⟩
theorem YesP.yes {w w' : World} {G : Prop} (h : G) (hb : Below w.heap.size w w') : YesP w G (.returned (.bool true)) w' := ⟨true, rfl, ⟨fun _ => h, fun _ => rfl⟩, hb⟩

set_option maxHeartbeats 400000 in
theorem short_walk (p : Option Addr) (cap n : Nat) (G : Prop) (w : World)
    (F : Hid (Calls Tryz.prog 37 #[.slice p n cap, .func (.func 38) #[] #[]] w (BoolP w G))) :
    Calls Tryz.prog 13 #[.slice p n cap] w (YesP w G) := by
  go_enter Tryz.func13, Tryz.ntmps13
  go_wp2_with fail
  refine F.out.mono ?_
  rintro e w1 ⟨b, rfl, hb, hB⟩
  have HN := Lib.hid hb; clear hb
  cases b
  · go_wp2_with fail
    go_ret
    exact YesP.yes (HN.out.1 (by trivial)) hB
  · go_wp2_with fail
    go_ret
    exact YesP.no (fun h => by have := HN.out.2 h; simp at this) hB

/-- short. -/
theorem short_ok (p : Option Addr) (cap : Nat) (l : List (List UInt8 × List UInt8)) (hl : l.length ≤ 5000) (w : World) (hw : Wd w) (hp : RowTx p l w) :
    Calls Tryz.prog 13 #[.slice p l.length cap] w (YesP w (∀ i, i < l.length → goodT (ptOf l i))) :=
  short_walk p cap l.length _ w (Lib.hid (contains_walk p cap l.length _ w (Lib.hid (index_walk p cap l.length l rfl hl (fun i => goodT (ptOf l i)) (Lib.hid fun i _ W hW => short1_ok (ptOf l i) W hW) w (Lib.hid hw) (Lib.hid hp)))))
end Go.Proofs.YtapfekcbbhhieaaGreatDoor
