/-
  integer.compare, divideShort.
  Long division on limbs, in plain Lean: an estimate that is never too small, what taking q times the divisor leaves, what giving it back leaves, and the invariant of the digits.
-/
import Derived.Test.YtapfekcbbhhieaaGreatDoorS03
import Derived.Test.YtapfekcbbhhieaaGreatDoorS04
import Derived.Test.YtapfekcbbhhieaaGreatDoorS02
namespace Go.Proofs.YtapfekcbbhhieaaGreatDoor
open Go.RowKit Go.Shelf Limb
attribute [local go_sem] Oper.semAt_some

theorem CellsKept.rd {W W' : World} (h : CellsKept W W') {Bs : Nat} {v : Value} {l : List Nat} (hs : RdSl Bs v l W) : RdSl Bs v l W' := ⟨h.cell hs.1, h.sl hs.2⟩

/-- How the comparison of two lists ends: at the first place from the end at which they differ. -/
def CmpEnd (a b : List Nat) (c : Int) : Prop :=
  (c = 0 ∧ ∀ i, i < a.length → a[i]?.getD 0 = b[i]?.getD 0) ∨
    ∃ k, k < a.length ∧ (∀ i, k < i → i < a.length → a[i]?.getD 0 = b[i]?.getD 0) ∧ a[k]?.getD 0 ≠ b[k]?.getD 0 ∧ c = (a[k]?.getD 0 : Nat) - (b[k]?.getD 0 : Nat)

def CmpRes (w : World) (P : Int → Prop) (e : Ending) (w' : World) : Prop := ∃ c : Int, e = .returned (.int .i64 c) ∧ P c ∧ Below w.heap.size w w'

set_option maxRecDepth 100000 in
set_option maxHeartbeats 2000000 in
theorem cmp_same (va vb : Value) (a b : List Nat) (w : World) (ha : Sl w va (a.map I)) (hb : Sl w vb (b.map I)) (hl : a.length = b.length) (la : a.length ≤ 1000) (sa : small B9 a) (sb : small B9 b) :
    Calls Tryz.prog 104 #[va, vb] w (CmpRes w (CmpEnd a b)) := by
  have ha' := ha; have hb' := hb
  obtain ⟨pa, ca, rfl, hca, hcella⟩ := ha
  obtain ⟨pb, cb, rfl, hcb, hcellb⟩ := hb
  simp only [List.length_map] at *
  have HA := Lib.hid ha'; clear ha' hcella hca
  have HB := Lib.hid hb'; clear hb' hcellb hcb
  have SA := Lib.hid sa; clear sa
  have SB := Lib.hid sb; clear sb
  rw [← hl] at HB
  rw [← hl]
  have HL := Lib.hid hl; clear hl
  refine (callsIn_wide (n := 3)).1 ?_
  refine callsIn_of_wp_marks Tryz.func104 rfl trivial ?_ rfl
  simp only [Tryz.ntmps104, List.size_toArray, List.length_cons, List.length_nil, Nat.reduceAdd, Nat.reduceSub, Array.replicate_succ, Array.replicate_zero, List.push_toArray, List.append_toArray, List.nil_append, List.cons_append]
  gi_wp2_with (refine ⟨trivial, ?_⟩; gi_at_call 131; refine (callsIn_wide.2 (back_any _ _ _ _ _ rfl)).mono ?_; rintro e w' ⟨rfl, rfl⟩)
  have hB : Below w.heap.size w (((w.alloc (.cells #[.slice pb a.length cb] 93)).alloc (.cells #[.int .i64 0] 3)).alloc (.cells #[.slice pa a.length ca] 93)) :=
    (((Below.refl _ w).alloc (Nat.le_refl _) _).alloc (by simp) _).alloc (by simp; omega) _
  have bB := Boxed.new w 93 (.slice pb a.length cb)
  have bR := Boxed.new (w.alloc (.cells #[.slice pb a.length cb] 93)) 3 (.int .i64 0)
  have bA := Boxed.new ((w.alloc (.cells #[.slice pb a.length cb] 93)).alloc (.cells #[.int .i64 0] 3)) 93 (.slice pa a.length ca)
  have bB2 := (bB.alloc (.cells #[.int .i64 0] 3)).alloc (.cells #[.slice pa a.length ca] 93)
  have bR2 := bR.alloc (.cells #[.slice pa a.length ca] 93)
  simp only [World.size_alloc] at bR bA bR2
  clear bB bR
  generalize ((w.alloc (.cells #[.slice pb a.length cb] 93)).alloc (.cells #[.int .i64 0] 3)).alloc (.cells #[.slice pa a.length ca] 93) = W0 at *
  have hz : w.heap.size + 1 + 1 < W0.heap.size := bA.lt
  refine range_back w hB (w.heap.size + 1 + 1) a.length ca pa (fun i x => x = ((a[i]?.getD 0 : Nat) : Int)) (RdSl (w.heap.size + 1 + 1) (.slice pa a.length ca) a) (by omega) (fun W h => h.read)
    (fun W h => ⟨by rw [h.cell (by simpa using hz)]; exact bA.cell, (HA.out.below hB).below h⟩) (fun W W' k h => k.rd h) rfl rfl
    (fun pre W => (∀ x ∈ pre, a[x.1.1]?.getD 0 = b[x.1.1]?.getD 0) ∧ W.cell? ⟨w.heap.size, 0, none⟩ = some (.slice pb a.length cb) ∧ Sl W (.slice pb a.length cb) (b.map I) ∧ W.cell? ⟨w.heap.size + 1, 0, none⟩ = some (.int .i64 0) ∧ W.frozen? ⟨w.heap.size + 1, 0, none⟩ = false)
    (fun c pre W => c = .ret ∧ ∃ ini last, pre = ini ++ [last] ∧ (∀ x ∈ ini, a[x.1.1]?.getD 0 = b[x.1.1]?.getD 0) ∧ a[last.1.1]?.getD 0 ≠ b[last.1.1]?.getD 0 ∧ W.cell? ⟨w.heap.size + 1, 0, none⟩ = some (.int .i64 ((a[last.1.1]?.getD 0 : Nat) - (b[last.1.1]?.getD 0 : Nat))))
    (fun s W W' k h => ⟨h.1, k.cell h.2.1, k.sl h.2.2.1, k.cell h.2.2.2.1, k.frozen h.2.2.2.1 h.2.2.2.2⟩)
    (fun c s W W' k h => ⟨h.1, by obtain ⟨_, ini, last, h1, h2, h3, h4⟩ := h; exact ⟨ini, last, h1, h2, h3, k.cell h4⟩⟩)
    ⟨by simp, bB2.cell, HB.out.below hB, bR2.cell, bR2.frozen⟩
    (fun x => { tmps := #[Value.slice pa a.length ca, Value.slice pb a.length cb, undef, Value.pointer (some { block := w.heap.size, off := 0 }), Value.pointer (some { block := w.heap.size + 1, off := 0 }), .int .i64 (x.1.1 : Int), .int .i64 x.1.2, Value.slice pa a.length ca,
          Value.int IntKind.i64 ↑a.length, Value.slice pb a.length cb, Value.int IntKind.i64 ↑a.length, Value.bool false, undef, undef, undef, undef, undef, Value.slice pa a.length ca,
          Value.func (Fn.func 182) #[] #[Value.pointer (some { block := w.heap.size + 1 + 1, off := 0 })], .int .i64 (x.1.1 : Int), .int .i64 x.1.2, undef, undef, undef, undef, undef, undef, undef, undef, undef, undef, undef, undef], defers := [] }) ?assign ?body ?done ?stop
  case assign =>
    intro l x W K hK
    gi_wp2
    exact hK
  case body =>
    rintro l pre x W ⟨hp, hcb, hsb, hcr, hfr⟩ hBW _
    have hi := x.2.1
    have hx := x.2.2
    obtain ⟨i, hxi⟩ : ∃ i, x.1.1 = i := ⟨_, rfl⟩
    obtain ⟨xv, hxv⟩ : ∃ v, x.1.2 = v := ⟨_, rfl⟩
    simp only [hxi, hxv] at hi hx ⊢
    have HXI := Lib.hid hxi; clear hxi
    clear hxv
    have hHL := HL.out
    have hsb' : Sl W (.slice pb b.length cb) (b.map I) := by rw [← hHL]; exact hsb
    obtain ⟨bb, offb, rfl, hbb, hcapb, hcellb⟩ := hsb'.at (i := i) (by omega)
    have HSB := Lib.hid hsb; clear hsb hsb'
    have hxa := small_getD SA.out (by decide) i
    have hxb := small_getD SB.out (by decide) i
    have hxa' : xv < 1000000000 := by rw [hx]; exact Int.ofNat_lt.2 hxa
    have hxa0 : 0 ≤ xv := by rw [hx]; omega
    have hxb' : b[i]?.getD 0 < 1000000000 := hxb
    have HX := Lib.hid hx; clear hx hxa hxb hHL
    have HP := Lib.hid hp; clear hp
    by_cases he : xv = (b[i]?.getD 0 : Nat)
    · have he' : (xv != ((b[i]?.getD 0 : Nat) : Int)) = false := by rw [he]; simp
      have HE := Lib.hid he; clear he
      gi_wp2
      exact ⟨KeepsFrom.refl _ _, fun h => h, ⟨fun y hy => (List.mem_append.1 hy).elim (HP.out y) (fun e => by simp at e; subst e; have h1 := HX.out; have h2 := HE.out; rw [HXI.out]; omega), hcb, HSB.out, hcr, hfr⟩, hBW⟩
    · have he' : (xv != ((b[i]?.getD 0 : Nat) : Int)) = true := by simpa using he
      have HE := Lib.hid he; clear he
      gi_wp2
      refine ⟨(KeepsOthers.setCell _ _ _).from _, ⟨rfl, pre, x, rfl, HP.out, ?_, ?_⟩, hBW.setCell (p := ⟨w.heap.size + 1, 0, none⟩) (by simp) _⟩
      · have h1 := HX.out; have h2 := HE.out; rw [HXI.out]; omega
      · rw [HXI.out, ← HX.out]; exact World.cell?_setCell_same' _ _ _ (by rw [hcr]; rfl)
  case done =>
    rintro D ys W hD hys ⟨hp, hcb, hsb, hcr, hfr⟩ hBW hK
    have HYS := Lib.hid hys; clear hys
    have HP := Lib.hid hp; clear hp
    gi_wp2
    have hK' := (KeepsOthers.setCell W ⟨w.heap.size + 1, 0, none⟩ (.int .i64 0)).same D _ hK rfl
    refine ⟨by simp, .inl ⟨_, _, rfl, run_takeDeferred hK', ?_⟩⟩
    have hc5 := (kept_put hK').cell (World.cell?_setCell_same' W ⟨w.heap.size + 1, 0, none⟩ (.int .i64 0) (by rw [hcr]; rfl))
    refine ⟨.int .i64 0, ?_, 0, rfl, .inl ⟨rfl, fun i hi => ?_⟩, below_put (hBW.setCell (p := ⟨w.heap.size + 1, 0, none⟩) (by simp) _) (by omega) hK'⟩
    · simp [results, Tryz.f104, go_sem, hc5]
    · have := upto_rev_mem hi
      rw [← HYS.out] at this
      obtain ⟨x, hx, hxi⟩ := List.mem_map.1 this
      have := HP.out x hx
      rwa [hxi] at this
  case stop =>
    rintro D c pre W hD ⟨k, hk, hpre⟩ ⟨rfl, ini, last, e1, e2, e3, hcr⟩ hBW hK
    gi_wp2
    refine ⟨by simp, .inl ⟨_, _, rfl, run_takeDeferred hK, ?_⟩⟩
    have hc5 := (kept_put hK).cell hcr
    rw [e1, List.map_append] at hpre
    obtain ⟨k', rfl⟩ : ∃ k', k = k' + 1 := by
      cases k with
      | zero => simp [upto] at hpre
      | succ k' => exact ⟨k', rfl⟩
    rw [upto_succ] at hpre
    obtain ⟨h1, h2⟩ := List.append_inj' hpre rfl
    have h2 : last.1.1 = a.length - 1 - k' := by simpa using h2
    refine ⟨_, by simp [results, Tryz.f104, go_sem, hc5], _, rfl, .inr ⟨last.1.1, last.2.1, fun i hi hia => ?_, e3, rfl⟩, below_put hBW (by omega) hK⟩
    have : i ∈ upto (fun k => a.length - 1 - k) k' := by
      simp only [upto, List.mem_map, List.mem_range]; exact ⟨a.length - 1 - i, by omega, by omega⟩
    rw [← h1] at this
    obtain ⟨x, hx, hxi⟩ := List.mem_map.1 this
    have := e2 x hx
    rwa [hxi] at this

set_option maxRecDepth 100000 in
set_option maxHeartbeats 400000 in
theorem cmp_diff (va vb : Value) (a b : List Nat) (w : World) (ha : Sl w va (a.map I)) (hb : Sl w vb (b.map I)) (hl : a.length ≠ b.length) (la : a.length ≤ 1000) (lb : b.length ≤ 1000) :
    Calls Tryz.prog 104 #[va, vb] w (CmpRes w (fun c => c = (a.length : Int) - b.length)) := by
  obtain ⟨pa, ca, rfl, hca, hcella⟩ := ha
  obtain ⟨pb, cb, rfl, hcb, hcellb⟩ := hb
  simp only [List.length_map] at *
  clear hcella hcellb
  have hne : ((a.length : Int) != b.length) = true := by simp; omega
  refine (callsIn_wide (n := 3)).1 ?_
  refine callsIn_of_wp_marks Tryz.func104 rfl trivial ?_ rfl
  simp only [Tryz.ntmps104, List.size_toArray, List.length_cons, List.length_nil, Nat.reduceAdd, Nat.reduceSub, Array.replicate_succ, Array.replicate_zero, List.push_toArray, List.append_toArray, List.nil_append, List.cons_append]
  gi_wp2
  refine ⟨.int .i64 ((a.length : Int) - b.length), ?_, _, rfl, rfl, ?_⟩
  · simp [results, Tryz.f104, go_sem]
  · exact ((Below.refl _ w).alloc (Nat.le_refl _) _).alloc (by simp) _

theorem cmp_any (va vb : Value) (m n : Nat) (w : World) (ha : Sl w va ((limbs B9 m).map I)) (hb : Sl w vb ((limbs B9 n).map I)) (la : (limbs B9 m).length ≤ 1000) (lb : (limbs B9 n).length ≤ 1000) :
    Calls Tryz.prog 104 #[va, vb] w (CmpRes w (fun c => (c < 0 ↔ m < n) ∧ (c = 0 ↔ m = n))) := by
  have hB : 2 ≤ B9 := by decide
  have sa := limbs_small hB m
  have sb := limbs_small hB n
  by_cases hl : (limbs B9 m).length = (limbs B9 n).length
  · refine (cmp_same va vb _ _ w ha hb hl la sa sb).mono ?_
    rintro e w' ⟨c, rfl, hc, hB'⟩
    refine ⟨c, rfl, ?_, hB'⟩
    rcases hc with ⟨rfl, h⟩ | ⟨k, hk, h, hne, rfl⟩
    · have he := list_eq hl h
      have : m = n := by rw [← limbs_val hB m, he, limbs_val hB]
      subst this; simp
    · have hd := drop_eq hl k h
      rcases Nat.lt_or_gt_of_ne hne with hlt | hgt
      · have := valL_lt_of_high sa sb hl k hk hd hlt
        rw [limbs_val hB, limbs_val hB] at this
        constructor <;> constructor <;> intro <;> omega
      · have := valL_lt_of_high sb sa hl.symm k (by omega) hd.symm hgt
        rw [limbs_val hB, limbs_val hB] at this
        constructor <;> constructor <;> intro <;> omega
  · refine (cmp_diff va vb _ _ w ha hb hl la lb).mono ?_
    rintro e w' ⟨c, rfl, rfl, hB'⟩
    refine ⟨_, rfl, ?_, hB'⟩
    rcases Nat.lt_or_gt_of_ne hl with hlt | hgt
    · have := limbs_len_lt_of hB hlt
      constructor <;> constructor <;> intro <;> omega
    · have := limbs_len_lt_of hB hgt
      constructor <;> constructor <;> intro <;> omega
/-! ### divideShort -/

/-- The quotient and the rest of what has come. -/
def shortOf (d n : Nat) {V : Nat → Int → Prop} (pre : List (At n V)) : List Nat × Nat :=
  pre.foldl (fun s x => shortStep B9 d s x.1.1 x.1.2.toNat) (List.replicate n 0, 0)

theorem shortOf_snoc (d n : Nat) {V : Nat → Int → Prop} (pre : List (At n V)) (x : At n V) : shortOf d n (pre ++ [x]) = shortStep B9 d (shortOf d n pre) x.1.1 x.1.2.toNat := by simp [shortOf]

theorem Row.other {w : World} {g cap : Nat} {l : List Nat} (h : Row w g cap l) {p : Addr} (hne : g ≠ p.block) (u : Value) : Row (w.setCell p u) g cap l := by
  obtain ⟨cur, hg, hr⟩ := h
  exact ⟨cur, by rw [Below.heap_setCell _ _ _ _ hne]; exact hg, hr⟩
theorem Row.alloc {w : World} {g cap : Nat} {l : List Nat} (h : Row w g cap l) (o : Obj) : Row (w.alloc o) g cap l :=
  h.below ((Below.refl w.heap.size w).alloc (Nat.le_refl _) o) h.lt

theorem shortOf_lt (d n : Nat) (hd : 0 < d) {V : Nat → Int → Prop} (pre : List (At n V)) : (shortOf d n pre).2 < d ∧ (shortOf d n pre).1.length = n := by
  unfold shortOf
  suffices h : ∀ (l : List (At n V)) (s : List Nat × Nat), s.2 < d → s.1.length = n → (l.foldl (fun s x => shortStep B9 d s x.1.1 x.1.2.toNat) s).2 < d ∧ (l.foldl (fun s x => shortStep B9 d s x.1.1 x.1.2.toNat) s).1.length = n from h pre _ hd (by simp)
  intro l
  induction l with
  | nil => exact fun s h1 h2 => ⟨h1, h2⟩
  | cons x r ih => intro s h1 h2; exact ih _ (Nat.mod_lt _ hd) (by simpa [shortStep] using h2)

theorem run_make_ints (W : World) (base n : Nat) (hb : base ≤ W.heap.size) (hn : n ≤ 3000) :
    ∃ w', (Instr.makeSlice 93 (.int .i64 (n : Int)) (.int .i64 (n : Int))).run Tryz.prog W = .ok (.slice (some ⟨W.heap.size, 0, none⟩) n n) w' ∧ Row w' W.heap.size n (List.replicate n 0) ∧ Below W.heap.size W w' := by
  obtain ⟨i0, hi, hz0, hz1, hz2⟩ := info_parts infoInt
  obtain ⟨w', h1, h2, h3⟩ := run_make_full (P := Tryz.prog) W W.heap.size 93 3 i0 (.int .i64 0) 1 Tryz.underlying93 hi hz0 hz1 .i64 .i64 n (by rw [hz2]; omega) (by unfold maxLen; omega) (Nat.le_refl _)
  rw [show (Value.int .i64 0).cells = #[.int .i64 0] from rfl, Nat.mul_one, toList_madeCells_one, ← show (List.replicate n 0).map I = List.replicate n (.int .i64 0) by simp] at h2
  have hr := (Row.of_own h2).1
  exact ⟨w', h1, hr, (Below.refl _ _).grown h3 (Nat.le_refl _) (fun _ e => by cases e)⟩

theorem shortOf_upto (d : Nat) (a : List Nat) : ∀ (k : Nat) (pre : List (At a.length fun i x => x = ((a[i]?.getD 0 : Nat) : Int))), pre.map (·.1.1) = upto (fun k => a.length - 1 - k) k → shortOf d a.length pre = shortTo B9 d a k
  | 0, pre, h => by
    have : pre = [] := by simpa [upto] using h
    subst this; rfl
  | k + 1, pre, h => by
    rw [upto_succ] at h
    obtain ⟨ini, l2, rfl, h1, h2⟩ := List.map_eq_append_iff.1 h
    obtain ⟨x, rfl⟩ : ∃ x, l2 = [x] := by
      cases l2 with
      | nil => simp at h2
      | cons x t =>
        cases t with
        | cons y t => simp at h2
        | nil => exact ⟨x, rfl⟩
    · rw [shortOf_snoc, shortOf_upto d a k ini h1]
      have hi : x.1.1 = a.length - 1 - k := by simpa using h2
      have hv := x.2.2
      rw [hi] at hv
      rw [hi, hv]; rfl

/-- What a round of the division leaves. -/
theorem short_end {s R n d i r : Nat} {q : List Nat} {va : Value} {a : List Nat} (w W : World) (hs : s = w.heap.size) (hBW : Below w.heap.size w W) (hcd : W.cell? ⟨s, 0, none⟩ = some (I d))
    (hcq : W.cell? ⟨s + 1, 0, none⟩ = some (.slice (some ⟨s + 1 + 1, 0, none⟩) n n)) (hfq : W.frozen? ⟨s + 1, 0, none⟩ = false) (hcr : W.cell? ⟨R, 0, none⟩ = some (I r)) (hfr : W.frozen? ⟨R, 0, none⟩ = false)
    (hrow : Row W (s + 1 + 1) n q) (hca : W.cell? ⟨R + 1, 0, none⟩ = some va) (hA : ∀ W', Below w.heap.size w W' → Sl W' va (a.map I)) (hz1 : s + 1 + 1 < R) (hsz2 : s ≤ R) (Y Z B : Nat) (st : List Nat × Nat) (hst : st = (q.set i Y, Z)) :
    KeepsFrom B W ((W.setCell ⟨s + 1 + 1, i, none⟩ (I Y)).setCell ⟨R, 0, none⟩ (I Z)).drew ∧
    (RdSl (R + 1) va a W → RdSl (R + 1) va a ((W.setCell ⟨s + 1 + 1, i, none⟩ (I Y)).setCell ⟨R, 0, none⟩ (I Z)).drew) ∧
    (((W.setCell ⟨s + 1 + 1, i, none⟩ (I Y)).setCell ⟨R, 0, none⟩ (I Z)).drew.cell? ⟨s, 0, none⟩ = some (I d) ∧
      (((W.setCell ⟨s + 1 + 1, i, none⟩ (I Y)).setCell ⟨R, 0, none⟩ (I Z)).drew.cell? ⟨s + 1, 0, none⟩ = some (.slice (some ⟨s + 1 + 1, 0, none⟩) n n) ∧ ((W.setCell ⟨s + 1 + 1, i, none⟩ (I Y)).setCell ⟨R, 0, none⟩ (I Z)).drew.frozen? ⟨s + 1, 0, none⟩ = false) ∧
      Row ((W.setCell ⟨s + 1 + 1, i, none⟩ (I Y)).setCell ⟨R, 0, none⟩ (I Z)).drew (s + 1 + 1) n st.1 ∧
      (((W.setCell ⟨s + 1 + 1, i, none⟩ (I Y)).setCell ⟨R, 0, none⟩ (I Z)).drew.cell? ⟨R, 0, none⟩ = some (I st.2) ∧ ((W.setCell ⟨s + 1 + 1, i, none⟩ (I Y)).setCell ⟨R, 0, none⟩ (I Z)).drew.frozen? ⟨R, 0, none⟩ = false) ∧
      RdSl (R + 1) va a ((W.setCell ⟨s + 1 + 1, i, none⟩ (I Y)).setCell ⟨R, 0, none⟩ (I Z)).drew) ∧
    Below w.heap.size w ((W.setCell ⟨s + 1 + 1, i, none⟩ (I Y)).setCell ⟨R, 0, none⟩ (I Z)).drew := by
  subst hst
  have hBf : Below w.heap.size w ((W.setCell ⟨s + 1 + 1, i, none⟩ (I Y)).setCell ⟨R, 0, none⟩ (I Z)).drew :=
    ((hBW.setCell (p := ⟨s + 1 + 1, i, none⟩) (by show _ ≤ s + 1 + 1; omega) _).setCell (p := ⟨R, 0, none⟩) (by show _ ≤ R; omega) _).drew
  have hcf : ∀ b o v, b ≠ s + 1 + 1 → b ≠ R → W.cell? ⟨b, o, none⟩ = some v → ((W.setCell ⟨s + 1 + 1, i, none⟩ (I Y)).setCell ⟨R, 0, none⟩ (I Z)).drew.cell? ⟨b, o, none⟩ = some v :=
    fun b o v h1 h2 h => (Go.cell_drew_own _ _).trans ((cell_ne _ _ _ _ h2).trans ((cell_ne _ _ _ _ h1).trans h))
  have hrd := hcf (R + 1) 0 _ (by omega) (by omega) hca
  have h1 := (Row.set (w := W) hrow i Y).other (p := ⟨R, 0, none⟩) (by show s + 1 + 1 ≠ R; omega) (I Z)
  refine ⟨((KeepsOthers.setCell W ⟨s + 1 + 1, i, none⟩ _).trans ((KeepsOthers.setCell _ ⟨R, 0, none⟩ _).trans (KeepsOthers.drew _))).from _, fun _ => ⟨hrd, hA _ hBf⟩,
    ⟨hcf _ _ _ (by omega) (by omega) hcd, ⟨hcf _ _ _ (by omega) (by omega) hcq, ?_⟩, h1.below (Below.drew (Below.refl ((W.setCell ⟨s + 1 + 1, i, none⟩ (I Y)).setCell ⟨R, 0, none⟩ (I Z)).heap.size _)) h1.lt, ⟨?_, ?_⟩, hrd, hA _ hBf⟩, hBf⟩
  · rw [Go.frozen_drew_own, World.frozen?_setCell, World.frozen?_setCell]; exact hfq
  · exact (Go.cell_drew_own _ _).trans (cell_eq ((cell_ne _ _ _ _ (by omega)).trans hcr))
  · rw [Go.frozen_drew_own, World.frozen?_setCell, World.frozen?_setCell]; exact hfr

theorem Sl.trim {w : World} {p : Option Addr} {cap : Nat} {l : List Nat} (h : Sl w (.slice p l.length cap) (l.map I)) : Sl w (.slice p (trimL l).length cap) ((trimL l).map I) := by
  have := h.take (k := (trimL l).length) (by simpa using trimL_len l)
  rw [← List.map_take, ← trimL_take] at this
  exact this

theorem limbs_one {r : Nat} (hr : r < B9) : trimL [r] = limbs B9 r := by
  rw [trimL_limbs (B := B9) (by decide) (by intro x hx; simp at hx; omega)]
  simp [valL]

set_option maxRecDepth 100000 in
set_option maxHeartbeats 2000000 in
/-- What holds while the end of the division runs, whatever its order. -/
structure ShortC (w : World) (D z R n : Nat) (q : List Nat) (r : Nat) (vq vt : Value) (f : Nat → Bool) (W : World) : Prop where
  below : Below w.heap.size w W
  q0 : f 5 = false → W.cell? ⟨w.heap.size + 1, 0, none⟩ = some vq
  q1 : f 5 = true → W.cell? ⟨w.heap.size + 1, 0, none⟩ = some vt
  fz : W.frozen? ⟨w.heap.size + 1, 0, none⟩ = false
  rr : W.cell? ⟨R, 0, none⟩ = some (I r)
  row : Row W (w.heap.size + 1 + 1) n q
  r0 : f 3 = false → W.heap.size = z
  r1 : f 3 = true → Row W z 1 [r]
  dk : W.heap[D]? = some (.deferred (some []))

theorem ShortC.set {w : World} {D z R n : Nat} {q : List Nat} {r : Nat} {vq vt : Value} {f : Nat → Bool} {W : World} (h : ShortC w D z R n q r vq vt f W) (k : Nat) (h3 : k ≠ 3) (h5 : k ≠ 5) : ShortC w D z R n q r vq vt (fun j => if k = j then true else f j) W :=
  ⟨h.below, by rw [if_neg h5]; exact h.q0, by rw [if_neg h5]; exact h.q1, h.fz, h.rr, h.row, by rw [if_neg h3]; exact h.r0, by rw [if_neg h3]; exact h.r1, h.dk⟩

theorem ShortC.fresh {w : World} {D z R n : Nat} {q : List Nat} {r : Nat} {vq vt : Value} {f : Nat → Bool} {W : World} (h : ShortC w D z R n q r vq vt f W) (h3 : f 3 = false) (hR : R < W.heap.size) :
    ShortC w D z R n q r vq vt (fun j => if 3 = j then true else f j) (W.alloc (.cells #[I r] 3)) :=
  have e := h.r0 h3
  ⟨h.below.alloc h.below.size _, fun h5 => cell_al (h.q0 (by simpa using h5)) _, fun h5 => cell_al (h.q1 (by simpa using h5)) _, by
    cases h5 : f 5 with
    | false => exact frozen_al (h.q0 h5) _ h.fz
    | true => exact frozen_al (h.q1 h5) _ h.fz, cell_al h.rr _, h.row.alloc _, fun h => by simp at h, fun _ => by
    rw [← e]
    exact ⟨#[I r], by show (W.heap.push _)[W.heap.size]? = _; simp, Nat.le_refl _, by decide, rfl, rfl⟩, by show (W.heap.push _)[D]? = _; have := (Array.getElem?_eq_some_iff.1 h.dk).1; rw [Array.getElem?_push_lt this, ← Array.getElem?_eq_getElem this]; exact h.dk⟩

theorem ShortC.stored {w : World} {D z R n : Nat} {q : List Nat} {r : Nat} {vq vt : Value} {f : Nat → Bool} {W : World} (h : ShortC w D z R n q r vq vt f W) (h5 : f 5 = false) (hR : w.heap.size + 1 + 1 < R) (hz : w.heap.size + 1 < z) (hD : w.heap.size + 1 < D) :
    ShortC w D z R n q r vq vt (fun j => if 5 = j then true else f j) (W.setCell ⟨w.heap.size + 1, 0, none⟩ vt) :=
  ⟨h.below.setCell (by simp) _, fun h => by simp at h, fun _ => cell_eq (h.q0 h5), by rw [World.frozen?_setCell]; exact h.fz, (cell_ne _ _ _ _ (by omega)).trans h.rr, h.row.other (by show w.heap.size + 1 + 1 ≠ w.heap.size + 1; omega) _,
    fun h3 => by rw [World.size_setCell]; exact h.r0 (by simpa using h3), fun h3 => (h.r1 (by simpa using h3)).other (by show z ≠ w.heap.size + 1; omega) _, by simp only [World.setCell, Array.getElem?_modify]; rw [if_neg (by show ¬ w.heap.size + 1 = D; omega)]; exact h.dk⟩

set_option maxRecDepth 100000 in
theorem short_any (va : Value) (a : List Nat) (d : Nat) (w : World) (ha : Sl w va (a.map I)) (la : a.length ≤ 1000) (sa : small B9 a) (hd0 : 0 < d) (hd : d < B9) :
    Calls Tryz.prog 130 #[va, I d] w (fun e w' => ∃ v1 v2, e = .returned (.tuple #[v1, v2]) ∧ Sl w' v1 ((limbs B9 (valL B9 a / d)).map I) ∧ Sl w' v2 ((limbs B9 (valL B9 a % d)).map I) ∧ Below w.heap.size w w') := by
  have ha' := ha
  obtain ⟨pa, ca, rfl, hca, hcella⟩ := ha
  simp only [List.length_map] at *
  have HA := Lib.hid ha'; clear ha' hcella hca
  have SA := Lib.hid sa; clear sa
  obtain ⟨W1, hmk, hrow, hbw⟩ := run_make_ints ((w.alloc (.cells #[.int .i64 (d : Int)] 3)).alloc (.cells #[.slice none 0 0] 93)) w.heap.size a.length (by simp; omega) (by omega)
  have bD : Boxed W1 w.heap.size 3 (I d) := (hbw.block _ (by simp; omega)).trans ((Boxed.new w 3 (I d)).alloc (.cells #[.slice none 0 0] 93))
  have bQ : Boxed W1 (w.heap.size + 1) 93 (.slice none 0 0) := (hbw.block _ (by simp)).trans (by have := Boxed.new (w.alloc (.cells #[.int .i64 (d : Int)] 3)) 93 (.slice none 0 0); rw [World.size_alloc] at this; exact this)
  have hB1 : Below w.heap.size w W1 := (((Below.refl _ w).alloc (Nat.le_refl _) _).alloc (by simp) _).trans (hbw.mono (by simp; omega))
  clear hbw
  simp only [World.size_alloc] at hrow hmk
  have hcq := bQ.cell
  have hfq := bQ.frozen
  refine (callsIn_wide (n := 3)).1 ?_
  refine callsIn_of_wp_marks Tryz.func130 rfl trivial ?_ rfl
  simp only [Tryz.ntmps130, List.size_toArray, List.length_cons, List.length_nil, Nat.reduceAdd, Nat.reduceSub, Array.replicate_succ, Array.replicate_zero, List.push_toArray, List.append_toArray, List.nil_append, List.cons_append]
  gi_wp2_with (refine ⟨trivial, ?_⟩; gi_at_call 131; refine (callsIn_wide.2 (back_any _ _ _ _ _ rfl)).mono ?_; rintro e w' ⟨rfl, rfl⟩)
  have bQ2 : Boxed (W1.setCell ⟨w.heap.size + 1, 0, none⟩ (.slice (some ⟨w.heap.size + 1 + 1, 0, none⟩) a.length a.length)) (w.heap.size + 1) 93 (.slice (some ⟨w.heap.size + 1 + 1, 0, none⟩) a.length a.length) := by
    unfold Boxed at *
    simp [World.setCell, Array.getElem?_modify, bQ]
  have bD2 := bD.other (B' := w.heap.size + 1) (by omega) (.slice (some ⟨w.heap.size + 1 + 1, 0, none⟩) a.length a.length)
  have hrow2 := hrow.other (p := ⟨w.heap.size + 1, 0, none⟩) (by show w.heap.size + 1 + 1 ≠ w.heap.size + 1; omega) (.slice (some ⟨w.heap.size + 1 + 1, 0, none⟩) a.length a.length)
  have hB2 := hB1.setCell (p := ⟨w.heap.size + 1, 0, none⟩) (by simp) (.slice (some ⟨w.heap.size + 1 + 1, 0, none⟩) a.length a.length)
  have hz1 : w.heap.size + 1 + 1 < W1.heap.size := hrow.lt
  have hzz : (W1.setCell ⟨w.heap.size + 1, 0, none⟩ (.slice (some ⟨w.heap.size + 1 + 1, 0, none⟩) a.length a.length)).heap.size = W1.heap.size := by simp [World.setCell]
  rw [← hzz]
  rw [← hzz] at hz1
  clear hzz hrow hcq hfq bQ bD hmk hB1
  generalize W1.setCell ⟨w.heap.size + 1, 0, none⟩ (.slice (some ⟨w.heap.size + 1 + 1, 0, none⟩) a.length a.length) = W2 at *
  clear W1
  have bR := (Boxed.new W2 3 (.int .i64 0)).alloc (.cells #[.slice pa a.length ca] 93)
  have bA := Boxed.new (W2.alloc (.cells #[.int .i64 0] 3)) 93 (.slice pa a.length ca)
  rw [World.size_alloc] at bA
  have bQ3 := (bQ2.alloc (.cells #[.int .i64 0] 3)).alloc (.cells #[.slice pa a.length ca] 93)
  have bD3 := (bD2.alloc (.cells #[.int .i64 0] 3)).alloc (.cells #[.slice pa a.length ca] 93)
  have hrow3 := (hrow2.alloc (.cells #[.int .i64 0] 3)).alloc (.cells #[.slice pa a.length ca] 93)
  have hB3 := (hB2.alloc hB2.size (.cells #[.int .i64 0] 3)).alloc (by have := hB2.size; simp; omega) (.cells #[.slice pa a.length ca] 93)
  have hsz2 := hB2.size
  clear bQ2 bD2 hrow2 hB2
  obtain ⟨R, hR⟩ : ∃ R, R = W2.heap.size := ⟨_, rfl⟩
  rw [← hR] at bR bA hz1 hsz2 ⊢
  clear hR
  generalize (W2.alloc (.cells #[.int .i64 0] 3)).alloc (.cells #[.slice pa a.length ca] 93) = W3 at *
  clear W2
  have hz3 := bA.lt
  refine range_back w hB3 (R + 1) a.length ca pa (fun i x => x = ((a[i]?.getD 0 : Nat) : Int)) (RdSl (R + 1) (.slice pa a.length ca) a) (by omega) (fun W h => h.read)
    (fun W h => ⟨by rw [h.cell (by simpa using hz3)]; exact bA.cell, (HA.out.below hB3).below h⟩) (fun W W' k h => k.rd h) rfl rfl
    (fun pre W => W.cell? ⟨w.heap.size, 0, none⟩ = some (I d) ∧ (W.cell? ⟨w.heap.size + 1, 0, none⟩ = some (.slice (some ⟨w.heap.size + 1 + 1, 0, none⟩) a.length a.length) ∧ W.frozen? ⟨w.heap.size + 1, 0, none⟩ = false) ∧
      Row W (w.heap.size + 1 + 1) a.length (shortOf d a.length pre).1 ∧ (W.cell? ⟨R, 0, none⟩ = some (I (shortOf d a.length pre).2) ∧ W.frozen? ⟨R, 0, none⟩ = false) ∧ RdSl (R + 1) (.slice pa a.length ca) a W)
    (fun c pre W => False)
    (fun s W W' k h => ⟨k.cell h.1, ⟨k.cell h.2.1.1, k.frozen h.2.1.1 h.2.1.2⟩, k.row h.2.2.1, ⟨k.cell h.2.2.2.1.1, k.frozen h.2.2.2.1.1 h.2.2.2.1.2⟩, k.rd h.2.2.2.2⟩)
    (fun c s W W' k h => h)
    ⟨bD3.cell, ⟨bQ3.cell, bQ3.frozen⟩, hrow3, ⟨bR.cell, bR.frozen⟩, bA.cell, HA.out.below hB3⟩
    (fun x => { tmps := #[Value.slice pa a.length ca, I d, undef, Value.pointer (some { block := w.heap.size, off := 0 }),
          Value.pointer (some { block := w.heap.size + 1, off := 0 }), Value.slice none 0 0,
          Value.pointer (some { block := R, off := 0 }), .int .i64 (x.1.1 : Int), .int .i64 x.1.2, Value.slice pa a.length ca,
          Value.int IntKind.i64 ↑a.length,
          Value.slice (some { block := w.heap.size + 1 + 1, off := 0 }) a.length a.length, Value.slice pa a.length ca,
          Value.func (Fn.func 182) #[] #[Value.pointer (some { block := R + 1, off := 0 })], .int .i64 (x.1.1 : Int), .int .i64 x.1.2,
          undef, undef, undef, undef, undef, undef, undef, undef, undef, undef, undef, undef, undef, undef, undef,
          undef, undef, undef], defers := [] }) ?assign ?body ?done ?stop
  case assign =>
    intro l x W K hK
    gi_wp2
    exact hK
  case body =>
    rintro l pre x W ⟨hcd, ⟨hcq, hfq⟩, hrow, ⟨hcr, hfr⟩, hrd⟩ hBW _
    have hi := x.2.1
    have hx := x.2.2
    obtain ⟨i, hxi⟩ : ∃ i, x.1.1 = i := ⟨_, rfl⟩
    obtain ⟨xv, hxv⟩ : ∃ v, x.1.2 = v := ⟨_, rfl⟩
    have hst := shortOf_snoc d a.length pre x
    have hlt := shortOf_lt d a.length hd0 pre
    simp only [hxi, hxv] at hi hx hst ⊢
    clear hxi hxv
    generalize shortOf d a.length pre = st at *
    obtain ⟨q, r⟩ := st
    dsimp only at hrow hcr hlt hst
    obtain ⟨hr, hq⟩ := hlt
    have hcell := hrow.cell (getD_some (show i < q.length by omega))
    have hfz := hrow.frozen i
    have HROW := Lib.hid hrow; clear hrow
    have hxa := small_getD SA.out (by decide) i
    subst hx
    generalize a[i]?.getD 0 = xn at *
    rw [Int.toNat_natCast] at hst
    have HST := Lib.hid hst; clear hst
    have hd' : d < 1000000000 := hd
    have hx' : xn < 1000000000 := hxa
    have HQ := Lib.hid hq; clear hq hxa
    generalize q[i]?.getD 0 = z at *
    have HRD := Lib.hid hrd; clear hrd
    have hnn : (0 : Int) ≤ (xn : Int) + (r : Int) * 1000000000 := by omega
    have hnn2 : (xn : Int) + (r : Int) * 1000000000 ≤ 1000000000000000000 := by omega
    have hd1 : ¬ d = 0 := by omega
    have e0 : (xn : Int) + (r : Int) * 1000000000 = ((xn + r * 1000000000 : Nat) : Int) := by simp
    have q0 : (xn + r * 1000000000) / d ≤ 1000000000 := by
      apply Nat.div_le_of_le_mul
      have : (r + 1) * 1000000000 ≤ d * 1000000000 := Nat.mul_le_mul_right _ hr
      omega
    have q1 : (xn + r * 1000000000) % d < d := Nat.mod_lt _ hd0
    have e1 : IntKind.i64.wrap (((xn : Int) + (r : Int) * 1000000000).tdiv (d : Int)) = (((xn + r * 1000000000) / d : Nat) : Int) := by
      rw [e0, Int.tdiv_eq_ediv_of_nonneg (by omega), ← Int.natCast_ediv]
      generalize (xn + r * 1000000000) / d = Y at *
      exact IntWalk.i64_in _ (by omega)
    have e2 : IntKind.i64.wrap (((xn : Int) + (r : Int) * 1000000000).tmod (d : Int)) = (((xn + r * 1000000000) % d : Nat) : Int) := by
      rw [e0, Int.tmod_eq_emod_of_nonneg (by omega), ← Int.natCast_emod]
      generalize (xn + r * 1000000000) % d = Y at *
      exact IntWalk.i64_in _ (by omega)
    have E1 := Lib.hid e1; clear e1
    have E2 := Lib.hid e2; clear e2
    clear e0
    gi_wp2
    have e1 := E1.out
    have e2 := E2.out
    refine wpIn_region_held 9 (fun W => W.cell? ⟨w.heap.size, 0, none⟩ = some (I d) ∧ W.cell? ⟨w.heap.size + 1, 0, none⟩ = some (.slice (some ⟨w.heap.size + 1 + 1, 0, none⟩) a.length a.length)) (by kernel_rfl) (by kernel_rfl) ⟨hcd, hcq⟩ ?_
    simp only [List.take_succ_cons, List.take_zero, List.drop_succ_cons, List.drop_zero]
    repeat (apply wpHeldL_step (by rfl); (focus (rintro W ⟨h1, h2⟩; go_simp; try with_reducible rfl)); try simp only [Act.put, List.setIfInBounds_toArray, List.set_cons_zero, List.set_cons_succ])
    refine wpHeldL_nil ?_
    refine wpTailS_step (by rfl) fun K hK => ?_
    go_simp
    refine hK _ _ ⟨(cell_ne _ _ _ _ (by omega)).trans hcd, (cell_ne _ _ _ _ (by omega)).trans hcq⟩ ?_
    clear hK K
    try simp only [Act.put, List.setIfInBounds_toArray, List.set_cons_zero, List.set_cons_succ]
    refine wpTailS_step (by rfl) fun K hK => ?_
    go_simp
    refine hK _ _ ⟨(cell_ne _ _ _ _ (by omega)).trans ((cell_ne _ _ _ _ (by omega)).trans hcd), (cell_ne _ _ _ _ (by omega)).trans ((cell_ne _ _ _ _ (by omega)).trans hcq)⟩ ?_
    clear hK K
    refine wpTailS_nil ⟨rfl, ?_⟩
    try simp only [Act.put, List.setIfInBounds_toArray, List.set_cons_zero, List.set_cons_succ]
    clear e1 e2
    gi_wp2
    have v1 : Value.int .i64 (((xn : Int) + (r : Int) * 1000000000) / (d : Int)) = I ((xn + r * B9) / d) := by simp [I, B9]
    have v2 : Value.int .i64 (((xn : Int) + (r : Int) * 1000000000).tmod (d : Int)) = I ((xn + r * B9) % d) := by rw [Int.tmod_eq_emod_of_nonneg hnn]; simp [I, B9]
    rw [v1, v2]
    clear v1 v2 hnn hnn2 q0 q1 hd' hx' hd1 E1 E2
    exact short_end (q := q) w W rfl hBW hcd hcq hfq hcr hfr HROW.out HRD.out.1 (fun W' h => HA.out.below h) hz1 hsz2 _ _ _ _ (HST.out.trans rfl)
  case done =>
    rintro D ys W hD hys ⟨hcd, ⟨hcq, hfq⟩, hrow, ⟨hcr, hfr⟩, hrd⟩ hBW hK
    clear hrd
    rw [shortOf_upto d a _ _ hys] at hrow hcr
    obtain ⟨e1, e2⟩ := short_spec (B := B9) (by decide) hd0 SA.out
    obtain ⟨t1, t2, t3, -⟩ := shortTo_spec (B := B9) hd0 SA.out a.length (Nat.le_refl _)
    generalize shortTo B9 d a a.length = st at *
    obtain ⟨q, r⟩ := st
    dsimp only at *
    have hr9 : r < B9 := by omega
    have hsl := hrow.sl
    rw [t1] at hsl
    have E1 := Lib.hid e1; clear e1
    have E2 := Lib.hid e2; clear e2
    have T1 := Lib.hid t1; clear t1
    have T2 := Lib.hid t2; clear t2
    have HYS := Lib.hid hys; clear hys
    have HROW := Lib.hid hrow; clear hrow
    have HK := Lib.hid hK; clear hK
    gi_wp2
    refine wpIn_wide.2 ?_
    have hslA : ∀ W', Below W.heap.size W W' → Sl W' (.slice (some ⟨w.heap.size + 1 + 1, 0, none⟩) a.length a.length) (q.map I) := fun W' h => hsl.below h
    have hrA : ∀ (W' : World) (o : Nat), o = W'.heap.size → Sl (W'.alloc (.cells #[I r] 3)) (.slice (some ⟨o, 0, none⟩) 1 1) ([r].map I) := fun W' o ho => ho ▸ Sl.mk (b := W'.heap.size) (off := 0) (cap := 1) (xs := [I r]) (Nat.le_refl _) (fun i x hx => by
      match i, hx with
      | 0, hx => simp at hx; subst hx; simp)
    have HA1 := Lib.hid hslA; clear hslA
    have HA2 := Lib.hid hrA; clear hrA hsl
    have l1 : w.heap.size + 1 < W.heap.size := cell_lt hcq
    have l2 : R < W.heap.size := cell_lt hcr
    have hinit : ShortC w D W.heap.size R a.length q r (.slice (some ⟨w.heap.size + 1 + 1, 0, none⟩) a.length a.length) (.slice (some ⟨w.heap.size + 1 + 1, 0, none⟩) (trimL q).length a.length) (fun _ => false) W.drew :=
      ⟨hBW.drew, fun _ => hcq, (fun h => by cases h), hfq, hcr, HROW.out, fun _ => rfl, (fun h => by cases h), HK.out⟩
    refine wp_region_ac (ShortC w D W.heap.size R a.length q r (.slice (some ⟨w.heap.size + 1 + 1, 0, none⟩) a.length a.length) (.slice (some ⟨w.heap.size + 1 + 1, 0, none⟩) (trimL q).length a.length)) (by kernel_rfl) (by kernel_rfl) hinit ?_
    clear hinit
    refine acL_read (v := .slice (some ⟨w.heap.size + 1 + 1, 0, none⟩) a.length a.length) (by rfl) (fun f W' h => h.set 0 (by decide) (by decide)) (fun f W' hf h => by have := h.q0 (hf.no (k := 1) (hf.no (k := 0) hf.self (by kernel_rfl)) (by kernel_rfl)); go_simp) ?_
    try simp only [Act.put, List.setIfInBounds_toArray, List.set_cons_zero, List.set_cons_succ]
    refine acL_value (.slice (some ⟨w.heap.size + 1 + 1, 0, none⟩) (trimL q).length a.length) (by rfl) (fun f W' hf h C' hC' => by
      go_simp
      refine Calls.mono (trim_sl _ _ _ q _ (by have := h.row.sl; rw [T1.out] at this; exact this) (by rw [T1.out]; omega)) ?_
      rintro e w' ⟨rfl, rfl⟩
      exact ⟨rfl, hC' _ (h.set 1 (by decide) (by decide))⟩) ?_
    try simp only [Act.put, List.setIfInBounds_toArray, List.set_cons_zero, List.set_cons_succ]
    refine acL_read (v := I r) (by rfl) (fun f W' h => h.set 2 (by decide) (by decide)) (fun f W' hf h => by have := h.rr; go_simp) ?_
    try simp only [Act.put, List.setIfInBounds_toArray, List.set_cons_zero, List.set_cons_succ]
    refine acL_value (.slice (some ⟨W.heap.size, 0, none⟩) 1 1) (by rfl) (fun f W' hf h C' hC' => by
      have hz := h.r0 hf.self
      have hz' := hC'
      go_simp
      exact ⟨rfl, hC' _ (h.fresh hf.self (cell_lt h.rr))⟩) ?_
    try simp only [Act.put, List.setIfInBounds_toArray, List.set_cons_zero, List.set_cons_succ]
    refine acL_value (.slice (some ⟨W.heap.size, 0, none⟩) (trimL [r]).length 1) (by rfl) (fun f W' hf h C' hC' => by
      have hr := h.r1 (hf.done 3 (by kernel_rfl))
      go_simp
      refine Calls.mono (trim_sl _ _ _ [r] _ hr.sl (by simp)) ?_
      rintro e w' ⟨rfl, rfl⟩
      exact ⟨rfl, hC' _ (h.set 4 (by decide) (by decide))⟩) ?_
    try simp only [Act.put, List.setIfInBounds_toArray, List.set_cons_zero, List.set_cons_succ]
    refine acL_value undef (by rfl) (fun f W' hf h C' hC' => by
      have hq := h.q0 hf.self
      have hz := h.fz
      go_simp
      exact ⟨rfl, hC' _ (h.stored hf.self hz1 l1 (by omega))⟩) ?_
    try simp only [Act.put, List.setIfInBounds_toArray, List.set_cons_zero, List.set_cons_succ]
    refine acL_read (v := .slice (some ⟨W.heap.size, 0, none⟩) (trimL [r]).length 1) (by rfl) (fun f W' h => h.set 6 (by decide) (by decide)) (fun f W' hf h => by go_simp) ?_
    try simp only [Act.put, List.setIfInBounds_toArray, List.set_cons_zero, List.set_cons_succ]
    refine acL_nil fun f W' hf h => ?_
    have hq := h.q1 (hf 5 (by decide))
    have hrr := h.r1 (hf 3 (by decide))
    clear hf
    have hrow' := h.row
    have hbel := h.below
    have hdk := h.dk
    clear h
    gi_wp2
    have e1 := E1.out
    have e2 := E2.out
    have e3 := T1.out
    refine ⟨by simp, .inl ⟨_, _, rfl, run_takeDeferred hdk, ?_⟩⟩
    have hc := (kept_put hdk).cell hq
    refine ⟨.tuple #[.slice (some ⟨w.heap.size + 1 + 1, 0, none⟩) (trimL q).length a.length, .slice (some ⟨W.heap.size, 0, none⟩) (trimL [r]).length 1], ?_, _, _, rfl, (kept_put hdk).sl ?_, (kept_put hdk).sl ?_, below_put hbel (by omega) hdk⟩
    · simp [results, Tryz.f130, go_sem, hc]
    · rw [← e1]; exact Sl.trim hrow'.sl
    · rw [← e2, ← limbs_one hr9]; exact Sl.trim hrr.sl
  case stop =>
    rintro D c pre W hD _ h
    exact h.elim
end Go.Proofs.YtapfekcbbhhieaaGreatDoor

namespace Go.Proofs.YtapfekcbbhhieaaGreatDoor.Limb

/-- The row and the borrow after k steps of taking q times v from place j on. -/
def takeTo (B q : Nat) (v : List Nat) (j : Nat) (u : List Nat) : Nat → List Nat × Nat
  | 0 => (u, 0)
  | k + 1 => let r := takeTo B q v j u k; let x := r.1[j + k]?.getD 0; let y := r.2 + q * v[k]?.getD 0; let c := (y - x + (B - 1)) / B; (r.1.set (j + k) (x + c * B - y), c)

theorem takeTo_spec {B : Nat} (hB : 2 ≤ B) {q : Nat} {v : List Nat} (hv : small B v) (j : Nat) {u : List Nat} (hu : small B u) : ∀ k, j + k ≤ u.length →
    (takeTo B q v j u k).1.length = u.length ∧ small B (takeTo B q v j u k).1 ∧ (takeTo B q v j u k).2 ≤ q ∧
      valL B (takeTo B q v j u k).1 + B ^ j * (q * valL B (v.take k)) = valL B u + B ^ (j + k) * (takeTo B q v j u k).2
  | 0, _ => ⟨rfl, hu, by simp [takeTo], by simp [takeTo, valL]⟩
  | k + 1, hk => by
    obtain ⟨h1, h2, h3, h4⟩ := takeTo_spec hB hv j hu k (by omega)
    have hy := small_getD hv (by omega) k
    simp only [takeTo]
    rw [take_succ_getD]
    generalize takeTo B q v j u k = r at *
    obtain ⟨l, c⟩ := r
    simp only at *
    have hz := small_getD h2 (by omega) (j + k)
    have hs := fun w => valL_set B l (j + k) w (by omega)
    generalize v[k]?.getD 0 = y at *
    generalize l[j + k]?.getD 0 = z at *
    have hqy : q * y + q ≤ q * B := by rw [← Nat.mul_succ]; exact Nat.mul_le_mul_left _ hy
    have hc : (c + q * y - z + (B - 1)) / B ≤ q := by
      apply Nat.le_of_lt_succ
      apply Nat.div_lt_of_lt_mul
      rw [Nat.mul_comm B, Nat.succ_mul]
      omega
    have e1 := Nat.div_add_mod (c + q * y - z + (B - 1)) B
    have e2 := Nat.mod_lt (c + q * y - z + (B - 1)) (show 0 < B by omega)
    rw [Nat.mul_comm] at e1
    generalize (c + q * y - z + (B - 1)) / B = C at *
    generalize (c + q * y - z + (B - 1)) % B = M at *
    have hlt : z + C * B - (c + q * y) < B ∧ c + q * y ≤ z + C * B := by
      rcases Nat.lt_or_ge z (c + q * y) with h | h
      · omega
      · have : C = 0 := by
          rcases Nat.eq_zero_or_pos C with h0 | h0
          · exact h0
          · have : 1 * B ≤ C * B := Nat.mul_le_mul_right _ h0
            omega
        subst this; omega
    obtain ⟨d, hd⟩ : ∃ d, d = z + C * B - (c + q * y) := ⟨_, rfl⟩
    rw [← hd] at hlt ⊢
    have hd2 : d + (c + q * y) = z + C * B := by omega
    refine ⟨by simp [h1], small_set h2 _ hlt.1, hc, ?_⟩
    have hs' := hs d
    have e3 : B ^ (j + k) * d + B ^ (j + k) * c + B ^ (j + k) * (q * y) = B ^ (j + k) * z + B ^ (j + k) * (C * B) := by
      rw [← Nat.mul_add, ← Nat.mul_add, ← Nat.mul_add, ← hd2, Nat.add_assoc]
    have e4 : B ^ j * (q * (valL B (v.take k) + B ^ k * y)) = B ^ j * (q * valL B (v.take k)) + B ^ (j + k) * (q * y) := by
      rw [Nat.mul_add, Nat.mul_add, Nat.pow_add, Nat.mul_assoc (B ^ j) (B ^ k), ← Nat.mul_assoc q, Nat.mul_comm q (B ^ k), Nat.mul_assoc]
    have e5 : B ^ (j + (k + 1)) * C = B ^ (j + k) * (C * B) := by
      rw [show j + (k + 1) = j + k + 1 by omega, Nat.pow_succ, Nat.mul_assoc, Nat.mul_comm B C]
    rw [e4, e5]
    omega

theorem takeTo_keeps {B q : Nat} {v : List Nat} {j : Nat} {u : List Nat} (i : Nat) : ∀ k, (i < j ∨ j + k ≤ i) → (takeTo B q v j u k).1[i]? = u[i]?
  | 0, _ => rfl
  | k + 1, h => by
    simp only [takeTo]
    rw [List.getElem?_set_ne (by omega)]
    exact takeTo_keeps i k (by omega)

theorem rowTo_keeps {B q : Nat} {v : List Nat} {j : Nat} {u : List Nat} (i : Nat) : ∀ k, (i < j ∨ j + k ≤ i) → (rowTo B q v j u k).1[i]? = u[i]?
  | 0, _ => rfl
  | k + 1, h => by
    simp only [rowTo]
    rw [List.getElem?_set_ne (by omega)]
    exact rowTo_keeps i k (by omega)

/-- Adding x times b, with x of any size. -/
theorem rowTo_any {B : Nat} (hB : 2 ≤ B) {x : Nat} {b : List Nat} (hb : small B b) (i : Nat) {out : List Nat} (ho : small B out) : ∀ k, i + k ≤ out.length →
    (rowTo B x b i out k).1.length = out.length ∧ small B (rowTo B x b i out k).1 ∧ (rowTo B x b i out k).2 ≤ x ∧
      valL B (rowTo B x b i out k).1 + B ^ (i + k) * (rowTo B x b i out k).2 = valL B out + B ^ i * (x * valL B (b.take k))
  | 0, _ => ⟨rfl, ho, by simp [rowTo], by simp [rowTo, valL]⟩
  | k + 1, hk => by
    obtain ⟨h1, h2, h3, h4⟩ := rowTo_any hB (x := x) hb i ho k (by omega)
    have hy := small_getD hb (by omega) k
    simp only [rowTo]
    rw [take_succ_getD]
    generalize rowTo B x b i out k = r at *
    obtain ⟨l, c⟩ := r
    simp only at *
    have hz := small_getD h2 (by omega) (i + k)
    have hs := fun v => valL_set B l (i + k) v (by omega)
    generalize b[k]?.getD 0 = y at *
    generalize l[i + k]?.getD 0 = z at *
    have hxy : x * y + x ≤ x * B := by rw [← Nat.mul_succ]; exact Nat.mul_le_mul_left _ hy
    refine ⟨by simp [h1], small_set h2 _ (Nat.mod_lt _ (by omega)), Nat.le_of_lt_succ (Nat.div_lt_of_lt_mul (by rw [Nat.mul_comm B, Nat.succ_mul]; omega)), ?_⟩
    have e := Nat.mod_add_div (z + x * y + c) B
    have hs' := hs ((z + x * y + c) % B)
    generalize (z + x * y + c) % B = m at *
    generalize (z + x * y + c) / B = q at *
    have e2 : B ^ (i + k) * m + B ^ (i + k) * B * q = B ^ (i + k) * z + B ^ (i + k) * (x * y) + B ^ (i + k) * c := by
      rw [← Nat.mul_add, ← Nat.mul_add, ← e, Nat.mul_add, Nat.mul_assoc]
    rw [show i + (k + 1) = i + k + 1 by omega, Nat.pow_succ]
    have e3 : B ^ i * (x * (valL B (b.take k) + B ^ k * y)) = B ^ i * (x * valL B (b.take k)) + B ^ (i + k) * (x * y) := by
      rw [Nat.mul_add, Nat.mul_add, Nat.pow_add, Nat.mul_assoc (B ^ i) (B ^ k), ← Nat.mul_assoc x, Nat.mul_comm x (B ^ k), Nat.mul_assoc]
    rw [e3]
    omega

theorem valL_inj {B : Nat} : ∀ {a b : List Nat}, small B a → small B b → a.length = b.length → valL B a = valL B b → a = b
  | [], [], _, _, _, _ => rfl
  | [], _ :: _, _, _, h, _ => by cases h
  | _ :: _, [], _, _, h, _ => by cases h
  | x :: a, y :: b, ha, hb, hl, hv => by
    have hx : x < B := ha x (by simp)
    have hy : y < B := hb y (by simp)
    simp only [valL] at hv
    have h1 : x = y := by
      have := congrArg (· % B) hv
      simpa [Nat.add_mul_mod_self_left, Nat.mod_eq_of_lt hx, Nat.mod_eq_of_lt hy] using this
    subst h1
    have h2 : valL B a = valL B b := Nat.eq_of_mul_eq_mul_left (show 0 < B by omega) (by omega)
    rw [valL_inj (fun z hz => ha z (by simp [hz])) (fun z hz => hb z (by simp [hz])) (by simpa using hl) h2]

theorem valL_mod {B : Nat} {l : List Nat} (h : small B l) {p : Nat} (hp : p ≤ l.length) : valL B l % B ^ p = valL B (l.take p) := by
  have e := valL_split B l p
  have hl : (l.take p).length = p := by simp; omega
  have hlt := valL_lt (small_take h p)
  rw [hl] at e hlt
  rw [e, Nat.add_mul_mod_self_left, Nat.mod_eq_of_lt hlt]

theorem list_of_parts {a b : List Nat} (p : Nat) (h1 : a.take p = b.take p) (h2 : ∀ i, p ≤ i → a[i]? = b[i]?) : a = b := by
  apply List.ext_getElem?
  intro i
  rcases Nat.lt_or_ge i p with h | h
  · have := congrArg (·[i]?) h1
    simpa [List.getElem?_take, h] using this
  · exact h2 i h

/-- What was taken and given back leaves the row as it was. -/
theorem take_back {B : Nat} (hB : 2 ≤ B) {q : Nat} {v : List Nat} (hv : small B v) {j : Nat} {u : List Nat} (hu : small B u) (k : Nat) (hk : j + k ≤ u.length) :
    (rowTo B q v j (takeTo B q v j u k).1 k).1 = u := by
  obtain ⟨t1, t2, t3, t4⟩ := takeTo_spec hB (q := q) hv j hu k hk
  obtain ⟨r1, r2, r3, r4⟩ := rowTo_any hB (x := q) hv j t2 k (by omega)
  have hkeep : ∀ i, j + k ≤ i → (rowTo B q v j (takeTo B q v j u k).1 k).1[i]? = u[i]? := fun i hi => by
    rw [rowTo_keeps i k (.inr hi), takeTo_keeps i k (.inr hi)]
  generalize (takeTo B q v j u k) = t at *
  generalize (rowTo B q v j t.1 k) = r at *
  refine list_of_parts (j + k) ?_ hkeep
  refine valL_inj (small_take r2 _) (small_take hu _) (by simp; omega) ?_
  rw [← valL_mod r2 (by omega), ← valL_mod hu hk]
  have e : valL B r.1 + B ^ (j + k) * r.2 = valL B u + B ^ (j + k) * t.2 := by omega
  have := congrArg (· % B ^ (j + k)) e
  simpa [Nat.add_mul_mod_self_left] using this

theorem valL_drop_getD (l : List Nat) (k : Nat) (B : Nat) (h : k < l.length) : valL B (l.drop k) = l[k]?.getD 0 + B * valL B (l.drop (k + 1)) := by
  rw [valL_drop_succ l k B h]; simp [h]

/-- The digits from j on, when what they stand for is below B times V and V has n digits: the window of n + 1 digits is all. -/
theorem window {B : Nat} (hB : 2 ≤ B) {u v : List Nat} (hv : small B v) {j : Nat} (hj : j + v.length + 1 ≤ u.length) (hD : valL B (u.drop j) < B * valL B v) :
    valL B (u.drop (j + (v.length + 1))) = 0 := by
  have e := valL_split B (u.drop j) (v.length + 1)
  have hl : ((u.drop j).take (v.length + 1)).length = v.length + 1 := by simp; omega
  rw [hl, List.drop_drop] at e
  have hV := valL_lt hv
  rcases Nat.eq_zero_or_pos (valL B (u.drop (j + (v.length + 1)))) with h | h
  · exact h
  · have h1 : B ^ (v.length + 1) * 1 ≤ B ^ (v.length + 1) * valL B (u.drop (j + (v.length + 1))) := Nat.mul_le_mul_left _ h
    have h2 : B * valL B v + B ≤ B ^ (v.length + 1) := by
      rw [Nat.pow_succ, Nat.mul_comm _ B, ← Nat.mul_succ]; exact Nat.mul_le_mul_left _ hV
    omega

/-- What taking leaves. -/
theorem take_step {B : Nat} (hB : 2 ≤ B) {q : Nat} {u v : List Nat} (hu : small B u) (hv : small B v) {j : Nat} (hj : j + v.length + 1 ≤ u.length) (hD : valL B (u.drop j) < B * valL B v) :
    ((takeTo B q v j u (v.length + 1)).2 = 0 → valL B ((takeTo B q v j u (v.length + 1)).1.drop j) + q * valL B v = valL B (u.drop j) ∧
      valL B (takeTo B q v j u (v.length + 1)).1 + B ^ j * (q * valL B v) = valL B u) ∧
    ((takeTo B q v j u (v.length + 1)).2 ≠ 0 → valL B (u.drop j) < q * valL B v) := by
  have hw := window hB hv hj hD
  obtain ⟨t1, t2, t3, t4⟩ := takeTo_spec hB (q := q) hv j hu (v.length + 1) (by omega)
  rw [List.take_of_length_le (show v.length ≤ v.length + 1 by omega)] at t4
  have hk1 : (takeTo B q v j u (v.length + 1)).1.take j = u.take j := by
    apply List.ext_getElem?
    intro i
    rw [List.getElem?_take, List.getElem?_take]
    split
    · exact takeTo_keeps i _ (.inl (by assumption))
    · rfl
  have hk2 : (takeTo B q v j u (v.length + 1)).1.drop (j + (v.length + 1)) = u.drop (j + (v.length + 1)) := by
    apply List.ext_getElem?
    intro i
    rw [List.getElem?_drop, List.getElem?_drop]
    exact takeTo_keeps _ _ (.inr (by omega))
  generalize takeTo B q v j u (v.length + 1) = t at *
  have e1 := valL_split B t.1 j
  have e2 := valL_split B u j
  have l1 : (u.take j).length = j := by simp; omega
  rw [hk1, l1] at e1
  rw [l1] at e2
  have e3 := valL_split B (t.1.drop j) (v.length + 1)
  have l2 : ((t.1.drop j).take (v.length + 1)).length = v.length + 1 := by simp; omega
  have hlt := valL_lt (small_take (small_drop t2 j) (v.length + 1))
  rw [l2] at hlt
  rw [List.drop_drop, hk2, hw, Nat.mul_zero, Nat.add_zero] at e3
  rw [← e3] at hlt
  have hB0 : 0 < B ^ j := Nat.pow_pos (by omega)
  have key : valL B (t.1.drop j) + q * valL B v = valL B (u.drop j) + B ^ (v.length + 1) * t.2 := by
    apply Nat.eq_of_mul_eq_mul_left hB0
    rw [Nat.mul_add, Nat.mul_add, ← Nat.mul_assoc (B ^ j) (B ^ (v.length + 1)), ← Nat.pow_add]
    omega
  constructor
  · intro h0
    rw [h0, Nat.mul_zero, Nat.add_zero] at key t4
    exact ⟨key, t4⟩
  · intro h0
    have : B ^ (v.length + 1) * 1 ≤ B ^ (v.length + 1) * t.2 := Nat.mul_le_mul_left _ (by omega)
    omega

/-- The first digits of the window, and the rest below them. -/
theorem window_top {B : Nat} (hB : 2 ≤ B) {u v : List Nat} (hu : small B u) (hv : small B v) {j n : Nat} (hn : v.length = n + 2) (hj : j + v.length + 1 ≤ u.length) (hD : valL B (u.drop j) < B * valL B v) :
    (∃ low, low < B ^ n ∧ valL B (u.drop j) = low + B ^ n * (u[j + n]?.getD 0 + B * (u[j + n + 1]?.getD 0 + B * u[j + n + 2]?.getD 0))) ∧
    (∃ low, low < B ^ n ∧ valL B v = low + B ^ n * (v[n]?.getD 0 + B * v[n + 1]?.getD 0)) := by
  have hw := window hB hv hj hD
  constructor
  · refine ⟨valL B ((u.drop j).take n), ?_, ?_⟩
    · have := valL_lt (small_take (small_drop hu j) n)
      rw [show ((u.drop j).take n).length = n by simp; omega] at this
      exact this
    · have e := valL_split B (u.drop j) n
      rw [show ((u.drop j).take n).length = n by simp; omega, List.drop_drop, valL_drop_getD u (j + n) B (by omega), valL_drop_getD u (j + n + 1) B (by omega), valL_drop_getD u (j + n + 1 + 1) B (by omega), show j + n + 1 + 1 + 1 = j + (v.length + 1) by omega, hw] at e
      simpa using e
  · refine ⟨valL B (v.take n), ?_, ?_⟩
    · have := valL_lt (small_take hv n)
      rw [show (v.take n).length = n by simp; omega] at this
      exact this
    · have e := valL_split B v n
      rw [show (v.take n).length = n by simp; omega, valL_drop_getD v n B (by omega), valL_drop_getD v (n + 1) B (by omega), List.drop_eq_nil_of_le (by omega)] at e
      simpa [valL] using e

/-- The first estimate: not below the quotient, and not great. -/
theorem est_init {B : Nat} (hB : 2 ≤ B) {u v : List Nat} (hu : small B u) (hv : small B v) {j n : Nat} (hn : v.length = n + 2) (hj : j + v.length + 1 ≤ u.length) (hD : valL B (u.drop j) < B * valL B v) (h0 : 0 < v[n + 1]?.getD 0) :
    valL B (u.drop j) / valL B v ≤ (u[j + n + 2]?.getD 0 * B + u[j + n + 1]?.getD 0) / v[n + 1]?.getD 0 ∧ (u[j + n + 2]?.getD 0 * B + u[j + n + 1]?.getD 0) / v[n + 1]?.getD 0 < 2 * B := by
  obtain ⟨⟨lu, h1, e1⟩, ⟨lv, h2, e2⟩⟩ := window_top hB hu hv hn hj hD
  have s0 := small_getD hu (by omega) (j + n)
  have s1 := small_getD hu (by omega) (j + n + 1)
  have s2 := small_getD hv (by omega) n
  generalize u[j + n]?.getD 0 = x0 at *
  generalize u[j + n + 1]?.getD 0 = x1 at *
  generalize u[j + n + 2]?.getD 0 = x2 at *
  generalize v[n]?.getD 0 = y0 at *
  generalize v[n + 1]?.getD 0 = y1 at *
  generalize valL B (u.drop j) = D at *
  generalize valL B v = V at *
  have hP : 0 < B ^ n := Nat.pow_pos (by omega)
  generalize B ^ n = P at *
  have hle : x2 ≤ y1 := by
    rcases Nat.lt_or_ge y1 x2 with h | h
    · have a1 : P * (B * (B * (y1 + 1))) ≤ P * (B * (B * x2)) := Nat.mul_le_mul_left _ (Nat.mul_le_mul_left _ (Nat.mul_le_mul_left _ h))
      have a2 : lv + P * (y0 + B * y1) + 1 ≤ P * (B * (y1 + 1)) := by
        have a3 : P * (y0 + 1) ≤ P * B := Nat.mul_le_mul_left _ s2
        rw [Nat.mul_succ] at a3
        rw [Nat.mul_add, Nat.mul_succ, Nat.mul_add]
        omega
      have a4 := Nat.mul_le_mul_left B a2
      have a5 : P * (x0 + B * (x1 + B * x2)) = P * x0 + P * (B * x1) + P * (B * (B * x2)) := by rw [Nat.mul_add B, ← Nat.add_assoc, Nat.mul_add, Nat.mul_add]
      have a6 : B * (P * (B * (y1 + 1))) = P * (B * (B * (y1 + 1))) := Nat.mul_left_comm _ _ _
      rw [Nat.mul_succ, ← e2, a6] at a4
      omega
    · exact h
  constructor
  · rw [Nat.le_div_iff_mul_le h0]
    have hq : D / V * V ≤ D := Nat.div_mul_le_self _ _
    generalize D / V = q at *
    rcases Nat.lt_or_ge (x2 * B + x1) (q * y1) with h | h
    · have a1 : P * B * (x2 * B + x1 + 1) ≤ P * B * (q * y1) := Nat.mul_le_mul_left _ h
      have a2 : P * B * (q * y1) ≤ q * V := by
        rw [e2, Nat.mul_add q, Nat.mul_add P, Nat.mul_add q]
        have : P * B * (q * y1) = q * (P * (B * y1)) := by
          rw [Nat.mul_left_comm, Nat.mul_assoc]
        omega
      have a3 : D < P * B * (x2 * B + x1 + 1) := by
        have a4 : P * (x0 + 1) ≤ P * B := Nat.mul_le_mul_left _ s0
        rw [Nat.mul_succ] at a4
        have a5 : P * (x0 + B * (x1 + B * x2)) = P * x0 + P * B * (x2 * B + x1) := by
          rw [Nat.mul_add, Nat.mul_assoc, Nat.add_comm x1, Nat.mul_comm B x2]
        rw [Nat.mul_succ]
        omega
      omega
    · exact h
  · apply Nat.div_lt_of_lt_mul
    have a1 : x2 * B ≤ y1 * B := Nat.mul_le_mul_right _ hle
    have a2 : 1 * B ≤ y1 * B := Nat.mul_le_mul_right _ h0
    have : y1 * (2 * B) = y1 * B + y1 * B := by rw [Nat.mul_left_comm, Nat.two_mul]
    omega

/-- An estimate that is seen to be too great is greater than the quotient. -/
theorem est_dec {B : Nat} (hB : 2 ≤ B) {u v : List Nat} (hu : small B u) (hv : small B v) {j n q r : Nat} (hn : v.length = n + 2) (hj : j + v.length + 1 ≤ u.length) (hD : valL B (u.drop j) < B * valL B v)
    (hqr : q * v[n + 1]?.getD 0 + r = u[j + n + 2]?.getD 0 * B + u[j + n + 1]?.getD 0) (h : B ≤ q ∨ r * B + u[j + n]?.getD 0 < q * v[n]?.getD 0) : valL B (u.drop j) / valL B v < q := by
  have hV : 0 < valL B v := by
    rcases Nat.eq_zero_or_pos (valL B v) with h | h
    · rw [h] at hD; simp at hD
    · exact h
  rw [Nat.div_lt_iff_lt_mul hV]
  rcases h with h | h
  · exact Nat.lt_of_lt_of_le hD (Nat.mul_le_mul_right _ h)
  · obtain ⟨⟨lu, h1, e1⟩, ⟨lv, h2, e2⟩⟩ := window_top hB hu hv hn hj hD
    generalize u[j + n]?.getD 0 = x0 at *
    generalize u[j + n + 1]?.getD 0 = x1 at *
    generalize u[j + n + 2]?.getD 0 = x2 at *
    generalize v[n]?.getD 0 = y0 at *
    generalize v[n + 1]?.getD 0 = y1 at *
    generalize valL B (u.drop j) = D at *
    generalize valL B v = V at *
    generalize B ^ n = P at *
    have a1 : P * (r * B + x0 + 1) ≤ P * (q * y0) := Nat.mul_le_mul_left _ h
    rw [Nat.mul_succ] at a1
    have a2 : q * V = q * lv + P * (q * y0) + P * (B * (q * y1)) := by
      rw [e2, Nat.mul_add q, Nat.mul_add P, Nat.mul_add q, Nat.mul_left_comm q P, Nat.mul_left_comm q P, Nat.mul_left_comm q B, Nat.add_assoc]
    have a3 : P * (B * (q * y1)) + P * (r * B) = P * (B * (x2 * B + x1)) := by
      rw [← hqr, Nat.mul_add B, Nat.mul_add P, Nat.mul_comm r B]
    have a4 : D = lu + P * x0 + P * (B * (x2 * B + x1)) := by
      rw [e1, Nat.mul_add P, Nat.add_comm x1, Nat.mul_comm B x2, Nat.add_assoc]
    rw [Nat.mul_add] at a1
    omega

/-- The state of the long division when the digits from j on are done. -/
structure DivAt (B : Nat) (u0 v : List Nat) (m : Nat) (j : Nat) (u Q : List Nat) : Prop where
  ul : u.length = u0.length
  us : small B u
  ql : Q.length = m
  qs : small B Q
  val : valL B u + valL B v * valL B Q = valL B u0
  high : valL B (u.drop j) < valL B v
  zero : ∀ i, i < j → Q[i]?.getD 0 = 0

theorem DivAt.below {B : Nat} (hB : 2 ≤ B) {u0 v : List Nat} {m j : Nat} {u Q : List Nat} (h : DivAt B u0 v m (j + 1) u Q) (hj : j < u.length) : valL B (u.drop j) < B * valL B v := by
  have s0 := small_getD h.us (by omega) j
  rw [valL_drop_getD u j B hj]
  have := Nat.mul_le_mul_left B h.high
  rw [Nat.mul_succ] at this
  omega

/-- One digit. -/
theorem DivAt.step {B : Nat} (hB : 2 ≤ B) {u0 v : List Nat} {m j q : Nat} {u Q : List Nat} (h : DivAt B u0 v m (j + 1) u Q) (hv : small B v) (hjm : j < m) (hj : j + v.length + 1 ≤ u.length)
    (hq : valL B (u.drop j) / valL B v ≤ q) (hc : (takeTo B q v j u (v.length + 1)).2 = 0) : DivAt B u0 v m j (takeTo B q v j u (v.length + 1)).1 (Q.set j q) ∧ q < B := by
  have hD := h.below hB (by omega)
  have hV : 0 < valL B v := Nat.lt_of_le_of_lt (Nat.zero_le _) h.high
  obtain ⟨e1, e2⟩ := (take_step hB (q := q) h.us hv hj hD).1 hc
  obtain ⟨t1, t2, t3, t4⟩ := takeTo_spec hB (q := q) hv j h.us (v.length + 1) (by omega)
  have hqe : valL B (u.drop j) / valL B v = q := by
    refine Nat.le_antisymm hq ?_
    rw [Nat.le_div_iff_mul_le hV]; omega
  have hqB : q < B := by rw [← hqe]; exact Nat.div_lt_of_lt_mul (by rw [Nat.mul_comm]; exact hD)
  refine ⟨⟨by rw [t1, h.ul], t2, by simp [h.ql], small_set h.qs _ hqB, ?_, ?_, fun i hi => by rw [List.getElem?_set_ne (by omega)]; exact h.zero i (by omega)⟩, hqB⟩
  · have e3 := valL_set B Q j q (by rw [h.ql]; exact hjm)
    rw [h.zero j (by omega), Nat.mul_zero, Nat.add_zero] at e3
    rw [e3, Nat.mul_add, ← h.val, ← e2, Nat.mul_left_comm (valL B v), Nat.mul_comm (valL B v) q]
    omega
  · have := Nat.div_add_mod (valL B (u.drop j)) (valL B v)
    have hm := Nat.mod_lt (valL B (u.drop j)) hV
    rw [hqe, Nat.mul_comm] at this
    omega

/-- The end. -/
theorem DivAt.out {B : Nat} {u0 v : List Nat} {m : Nat} {u Q : List Nat} (h : DivAt B u0 v m 0 u Q) : valL B Q = valL B u0 / valL B v ∧ valL B u = valL B u0 % valL B v := by
  have hh := h.high
  rw [List.drop_zero] at hh
  have := h.val
  rw [Nat.add_comm] at this
  constructor
  · rw [← this, Nat.mul_add_div (by omega), Nat.div_eq_of_lt hh, Nat.add_zero]
  · rw [← this, Nat.mul_add_mod, Nat.mod_eq_of_lt hh]

end Go.Proofs.YtapfekcbbhhieaaGreatDoor.Limb
