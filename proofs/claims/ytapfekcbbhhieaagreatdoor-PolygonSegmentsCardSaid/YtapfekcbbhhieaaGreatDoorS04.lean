/-
  A region that draws its order: if each operation, whatever others have come up, leaves one and the same value, and a world of the class that the listed operations name, then every order ends as the text's own.
-/
import Derived.Test.YtapfekcbbhhieaaGreatDoorS03
namespace Go.Proofs.YtapfekcbbhhieaaGreatDoor
open Go
variable {P : Program} {ops : Array Oper}

/-- How one operation ends: with the value v, in a world of C. -/
def acUpon (P : Program) (C : World → Prop) (v : Value) : Result Next → Prop
  | .ok (.value u) w' => u = v ∧ C w'
  | .ok .skip w' => v = undef ∧ C w'
  | .ok (.enter f args) w' => Calls P f args w' (fun e w'' => e = .returned v ∧ C w'')
  | _ => False

/-- What is known of the listed ones when number i comes up. -/
structure AcAt (ops : Array Oper) (i : Nat) (L : Array Bool) : Prop where
  size : L.size = ops.size
  self : L.getD i false = false
  done : ∀ j, Region.waitsFor .any ops i j = true → L.getD j false = true
  closed : ∀ i j, L.getD i false = true → Region.waitsFor .any ops i j = true → L.getD j false = true

def dstOf (ops : Array Oper) (i : Nat) : Option Tmp := (ops[i]?).bind (·.dst)
def looksOf (ops : Array Oper) (i : Nat) : List Tmp := match ops[i]? with | some o => o.looksAt ops | none => []

/-- The check: no two write one temporary; who looks at a temporary of the region stands before or behind its writer by an edge; edges lead back. -/
def acB (ops : Array Oper) : Bool :=
  Region.noSelect ops && (List.range ops.size).all fun i => (List.range ops.size).all fun j =>
    (i == j || match dstOf ops j with
      | none => true
      | some d => (dstOf ops i != some d) && (!(looksOf ops i).contains d || (if j < i then Region.waitsFor .any ops i j else Region.waitsFor .any ops j i)))

/-- Edges lead back. -/
def backB (ops : Array Oper) : Bool := (List.range ops.size).all fun i => match ops[i]? with | some (o : Oper) => o.after.all fun (e : Edge) => decide (e.on < i) | none => true

/-- The state when L are listed. -/
def actOf (ops : Array Oper) (vs : Nat → Value) (a : Act) (L : Array Bool) : Nat → Act
  | 0 => a
  | k + 1 => if L.getD k false then (actOf ops vs a L k).put (dstOf ops k) (vs k) else actOf ops vs a L k

theorem put_size (a : Act) (d : Option Tmp) (v : Value) : (a.put d v).tmps.size = a.tmps.size := by cases d <;> simp [Act.put]

theorem actOf_size (vs : Nat → Value) (a : Act) (L : Array Bool) : ∀ k, (actOf ops vs a L k).tmps.size = a.tmps.size
  | 0 => rfl
  | k + 1 => by
    simp only [actOf]
    split
    · rw [put_size, actOf_size vs a L k]
    · exact actOf_size vs a L k

theorem put_get (a : Act) (d : Option Tmp) (v : Value) (t : Nat) : (a.put d v).tmps[t]? = if d = some t ∧ t < a.tmps.size then some v else a.tmps[t]? := by
  cases d with
  | none => simp [Act.put]
  | some d =>
    simp only [Act.put, Array.getElem?_setIfInBounds, Option.some.injEq]
    by_cases h : d = t
    · subst h
      by_cases h2 : d < a.tmps.size
      · simp [h2]
      · simp [h2]
    · simp [h]

theorem actOf_get (vs : Nat → Value) (a : Act) (L L' : Array Bool) (t : Nat) : ∀ k, (∀ j, j < k → dstOf ops j = some t → L.getD j false = L'.getD j false) → (actOf ops vs a L k).tmps[t]? = (actOf ops vs a L' k).tmps[t]?
  | 0, _ => rfl
  | k + 1, h => by
    have ih := actOf_get vs a L L' t k (fun j hj => h j (by omega))
    simp only [actOf]
    by_cases hd : dstOf ops k = some t
    · rw [h k (by omega) hd]
      split
      · rw [put_get, put_get, actOf_size, actOf_size, ih]
      · exact ih
    · have e : ∀ b : Act, (b.put (dstOf ops k) (vs k)).tmps[t]? = b.tmps[t]? := fun b => by rw [put_get, if_neg (fun h => hd h.1)]
      split <;> split
      · rw [e, e]; exact ih
      · rw [e]; exact ih
      · rw [e]; exact ih
      · exact ih

theorem getD_set (L : Array Bool) (i j : Nat) (hi : i < L.size) : (L.setIfInBounds i true).getD j false = if i = j then true else L.getD j false := by
  have hg : ∀ (M : Array Bool), M.getD j false = (M[j]?).getD false := fun M => by simp
  rw [hg, hg, Array.getElem?_setIfInBounds]
  by_cases h : i = j
  · subst h; simp [hi]
  · simp [h]

theorem actOf_set (vs : Nat → Value) (a : Act) (L : Array Bool) (i : Nat) (hi : i < L.size) (hL : L.getD i false = false) (hd : ∀ j d, j ≠ i → dstOf ops i = some d → dstOf ops j ≠ some d) :
    ∀ k, actOf ops vs a (L.setIfInBounds i true) k = if i < k then (actOf ops vs a L k).put (dstOf ops i) (vs i) else actOf ops vs a L k
  | 0 => by simp [actOf]
  | k + 1 => by
    have ih := actOf_set vs a L i hi hL hd k
    unfold actOf
    rw [getD_set L i k hi, ih]
    rcases Nat.lt_trichotomy i k with h | h | h
    · rw [if_neg (show ¬ i = k by omega), if_pos h, if_pos (show i < k + 1 by omega)]
      split
      · exact Act.put_comm _ _ _ (fun d e => hd k d (by omega) e)
      · rfl
    · subst h
      rw [if_pos rfl, if_neg (Nat.lt_irrefl _), if_pos rfl, if_pos (Nat.lt_succ_self _), hL]
      simp
    · rw [if_neg (show ¬ i = k by omega), if_neg (show ¬ i < k by omega), if_neg (show ¬ i < k + 1 by omega)]

/-- The first k are listed. -/
def firstK (n k : Nat) : Array Bool := (Array.range n).map fun i => decide (i < k)
theorem firstK_get (n k j : Nat) : (firstK n k).getD j false = (decide (j < n) && decide (j < k)) := by
  simp only [firstK, Array.getD_eq_getD_getElem?]
  by_cases h : j < n
  · simp [h]
  · simp [h]

theorem execOp_same {a b : Act} {o : Oper} (hs : ∀ cs b, o.op ≠ .select cs b) (h : ∀ t ∈ o.looksAt ops, a.tmps[t]? = b.tmps[t]?) :
    execOp a.eval o = execOp b.eval o ∧ Region.wanted o (yielded ops a.tmps) = Region.wanted o (yielded ops b.tmps) := by
  constructor
  · refine execOp_congr o hs fun x hx => ?_
    cases x with
    | tmp t =>
      have := h t (List.mem_append_left _ (List.mem_filterMap.2 ⟨.tmp t, by simpa using hx, rfl⟩))
      simp [Act.eval, Array.getD_eq_getD_getElem?, this]
    | _ => rfl
  · unfold Region.wanted
    cases hg : o.guard with
    | none => rfl
    | some g =>
      obtain ⟨g, want⟩ := g
      have e : yielded ops a.tmps g = yielded ops b.tmps g := by
        unfold yielded
        cases hd : (ops[g]?).bind (·.dst) with
        | none => rfl
        | some t =>
          have := h t (List.mem_append_right _ (by rw [hg]; simp [hd]))
          simp [this]
      simp [e]

theorem acB_spec (hB : (acB ops && backB ops) = true) : Region.noSelect ops = true ∧ (∀ i j d, i < ops.size → j < ops.size → i ≠ j → dstOf ops j = some d → dstOf ops i ≠ some d) ∧
    (∀ i j d, i < ops.size → j < ops.size → i ≠ j → dstOf ops j = some d → d ∈ looksOf ops i → (j < i ∧ Region.waitsFor .any ops i j = true) ∨ (i < j ∧ Region.waitsFor .any ops j i = true)) ∧
    (∀ (i : Nat) (o : Oper), ops[i]? = some o → ∀ (e : Edge), e ∈ o.after → e.on < i) := by
  simp only [acB, backB, Bool.and_eq_true, List.all_eq_true, List.mem_range] at hB
  obtain ⟨⟨h1, h2⟩, h4⟩ := hB
  refine ⟨h1, fun i j d hi hj hne hd => ?_, fun i j d hi hj hne hd hl => ?_, fun i o ho e he => ?_⟩
  · have := h2 i hi j hj
    rw [hd] at this
    simp [hne] at this
    exact this.1
  · have := h2 i hi j hj
    rw [hd] at this
    simp [hne] at this
    have h3 := this.2
    rcases h3 with h3 | h3
    · exact absurd hl h3
    · by_cases hji : j < i
      · simp [hji] at h3; exact .inl ⟨hji, h3⟩
      · simp [hji] at h3; exact .inr ⟨by omega, h3⟩
  · have := h4 i (Array.getElem?_eq_some_iff.1 ho).1
    rw [ho] at this
    have := Array.all_eq_true'.1 this e he
    simpa using this

/-- What each operation owes. -/
def AcStep (P : Program) (ops : Array Oper) (C : Array Bool → World → Prop) (i : Nat) (o : Oper) (a : Act) (v : Value) : Prop :=
  ∀ L w, AcAt ops i L → C L w → if Region.wanted o (yielded ops a.tmps) then acUpon P (C (L.setIfInBounds i true)) v ((execOp a.eval o).run P w) else v = undef ∧ C (L.setIfInBounds i true) w

theorem wp_of_ac {o : Oper} {a : Act} {v : Value} {w : World} {C : World → Prop} {K : Act → World → Prop} {Q : Exit → Act → World → Prop} (hK : ∀ w', C w' → K (a.put o.dst v) w') (h : acUpon P C v ((execOp a.eval o).run P w)) : o.wp P a w K Q := by
  unfold Oper.wp
  generalize (execOp a.eval o).run P w = r at *
  cases r with
  | ok x w' =>
    cases x <;> simp only [acUpon] at h <;> simp only [Oper.upon]
    · obtain ⟨rfl, h⟩ := h; exact hK _ h
    · obtain ⟨rfl, h⟩ := h; exact hK _ h
    · exact h.mono fun e w'' ⟨he, hc⟩ => by subst he; exact hK _ hc
  | halt x w' => simp only [acUpon] at h

/-- The listed ones are closed: what one waits for is listed. -/
def closedL (ops : Array Oper) (L : Array Bool) : Prop := ∀ i j, L.getD i false = true → Region.waitsFor .any ops i j = true → L.getD j false = true

theorem waits_edge {i : Nat} {o : Oper} (ho : ops[i]? = some o) {e : Edge} (he : e ∈ o.after) (hb : Region.binds .any e = true) : Region.waitsFor .any ops i e.on = true := by
  unfold Region.waitsFor
  simp only [ho]
  exact Array.any_eq_true'.2 ⟨e, he, by simp [hb]⟩

theorem wpAny_ac {Q : Exit → Act → World → Prop} {C : Array Bool → World → Prop} (hB : (acB ops && backB ops) = true) (vs : Nat → Value) (a : Act)
    (step : ∀ i o, ops[i]? = some o → AcStep P ops C i o (actOf ops vs a (firstK ops.size i) ops.size) (vs i))
    (hend : ∀ L w, (∀ i, i < ops.size → L.getD i false = true) → C L w → Q .normal (actOf ops vs a (firstK ops.size ops.size) ops.size) w) :
    ∀ (fuel : Nat) (L : Array Bool) (w : World), L.size = ops.size → closedL ops L → ((List.range ops.size).filter fun i => !L.getD i false).length ≤ fuel → C L w → wpAny P .any ops Q fuel L (actOf ops vs a L ops.size) w := by
  obtain ⟨hsel, hdist, hlook, hback⟩ := acB_spec hB
  have hq : ∀ L w, (∀ i, i < ops.size → L.getD i false = true) → C L w → Q .normal (actOf ops vs a L ops.size) w := by
    intro L w hall hC
    have e : actOf ops vs a L ops.size = actOf ops vs a (firstK ops.size ops.size) ops.size := by
      have : ∀ k, k ≤ ops.size → actOf ops vs a L k = actOf ops vs a (firstK ops.size ops.size) k := by
        intro k
        induction k with
        | zero => intro _; rfl
        | succ k ih =>
          intro hk
          simp only [actOf]
          rw [ih (by omega), hall k (by omega), firstK_get]
          simp [show k < ops.size by omega]
      exact this _ (Nat.le_refl _)
    rw [e]; exact hend L w hall hC
  have hready : ∀ L, L.size = ops.size → Region.ready .any ops L = [] → ∀ i, i < ops.size → L.getD i false = true := by
    intro L hsz h0 i
    induction i using Nat.strongRecOn with
    | _ i ih =>
      intro hi
      cases hl : L.getD i false with
      | true => rfl
      | false =>
        have hm : i ∈ Region.ready .any ops L := by
          refine mem_ready.2 ⟨getD_in (by omega) hl, ops[i], by simp [hi], fun e he hb => ?_⟩
          have hlt := hback i (ops[i]) (show ops[i]? = some (ops[i]) from Array.getElem?_eq_getElem hi) e he
          exact ih e.on hlt (Nat.lt_trans hlt hi)
        rw [h0] at hm; cases hm
  intro fuel
  induction fuel with
  | zero =>
    intro L w hsz hcl hcount hC
    have hall : ∀ i, i < ops.size → L.getD i false = true := by
      intro i hi
      cases hl : L.getD i false with
      | true => rfl
      | false =>
        have : i ∈ (List.range ops.size).filter fun i => !L.getD i false := List.mem_filter.2 ⟨List.mem_range.2 hi, by rw [hl]; rfl⟩
        rw [List.length_eq_zero_iff.1 (Nat.le_zero.1 hcount)] at this; cases this
    refine ⟨?_, hq L w hall hC⟩
    apply List.eq_nil_iff_forall_not_mem.2
    intro i hi
    obtain ⟨h1, o, ho, _⟩ := mem_ready.1 hi
    have := hall i (Array.getElem?_eq_some_iff.1 ho).1
    rw [getD_both h1] at this; cases this
  | succ fuel ih =>
    intro L w hsz hcl hcount hC
    refine ⟨fun h0 => hq L w (hready L hsz h0) hC, fun i hi => ?_⟩
    obtain ⟨h1, o, ho, hall⟩ := mem_ready.1 hi
    have hin : i < ops.size := (Array.getElem?_eq_some_iff.1 ho).1
    have hLi := getD_both h1
    have hdone : ∀ j, Region.waitsFor .any ops i j = true → L.getD j false = true := by
      intro j hw
      obtain ⟨o', ho', e, he, hb, rfl⟩ := Region.waitsFor_spec hw
      have : o' = o := Option.some.inj (ho'.symm.trans ho)
      subst this
      exact hall e he hb
    have hopen : ∀ j, Region.waitsFor .any ops j i = true → L.getD j false = false := by
      intro j hw
      cases hl : L.getD j false with
      | false => rfl
      | true => rw [hcl j i hl hw] at hLi; cases hLi
    have hat : AcAt ops i L := ⟨hsz, hLi, hdone, hcl⟩
    have hst := step i o ho L w hat hC
    have hset := actOf_set vs a L i (by omega) hLi (fun j d hne hd hj => by
      rcases Nat.lt_or_ge j ops.size with hjn | hjn
      · exact hdist i j d hin hjn (Ne.symm hne) hj hd
      · simp [dstOf, Array.getElem?_eq_none hjn] at hj) ops.size
    rw [if_pos hin] at hset
    have hsame := execOp_same (ops := ops) (a := actOf ops vs a L ops.size) (b := actOf ops vs a (firstK ops.size i) ops.size) (o := o) (fun cs b => Region.noSelect_spec hsel i o cs b ho) (fun t ht => by
      refine actOf_get vs a L _ t ops.size fun j hj hd => ?_
      rw [firstK_get]
      by_cases hji : j = i
      · subst hji; rw [hLi]; simp
      · have := hlook i j t hin hj (Ne.symm hji) hd (by simpa [looksOf, ho] using ht)
        rcases this with ⟨h2, h3⟩ | ⟨h2, h3⟩
        · rw [hdone j h3]; simp [hj, h2]
        · rw [hopen j h3]; simp; omega)
    have hnext : ∀ w', C (L.setIfInBounds i true) w' → wpAny P .any ops Q fuel (L.setIfInBounds i true) ((actOf ops vs a L ops.size).put o.dst (vs i)) w' := by
      intro w' hC'
      have hd : o.dst = dstOf ops i := by simp [dstOf, ho]
      rw [hd, ← hset]
      refine ih _ w' (by simpa using hsz) ?_ ?_ hC'
      · intro x y hx hw
        rw [getD_set L i _ (by omega)] at hx ⊢
        split
        · rfl
        · split at hx
          · rename_i h; subst h; exact hdone y hw
          · exact hcl x y hx hw
      · have e : ((List.range ops.size).filter fun x => !(L.setIfInBounds i true).getD x false) = ((List.range ops.size).filter fun x => !L.getD x false).filter fun x => decide (x ≠ i) := by
          rw [List.filter_filter]
          refine List.filter_congr fun x _ => ?_
          rw [getD_set L i x (by omega)]
          by_cases h : i = x
          · subst h; simp
          · simp [h, Ne.symm h]
        rw [e]
        have := (List.length_filter_lt_length_iff_exists (l := (List.range ops.size).filter fun x => !L.getD x false) (p := fun x => decide (x ≠ i))).2 ⟨i, List.mem_filter.2 ⟨List.mem_range.2 hin, by rw [hLi]; rfl⟩, by simp⟩
        omega
    unfold wpOp
    simp only [ho]
    rw [hsame.2]
    by_cases hw : Region.wanted o (yielded ops (actOf ops vs a (firstK ops.size i) ops.size).tmps) = true
    · rw [if_pos hw] at hst ⊢
      rw [← hsame.1] at hst
      exact .inl (wp_of_ac hnext hst)
    · rw [if_neg hw] at hst ⊢
      rw [hst.1] at hnext
      exact hnext _ hst.2

/-- What is known of the listed ones when number i comes up. -/
structure AcF (ops : Array Oper) (i : Nat) (f : Nat → Bool) : Prop where
  self : f i = false
  done : ∀ j, Region.waitsFor .any ops i j = true → f j = true
  closed : ∀ i j, f i = true → Region.waitsFor .any ops i j = true → f j = true
theorem AcF.no {i : Nat} {f : Nat → Bool} (h : AcF ops i f) {j k : Nat} (h0 : f k = false) (hw : Region.waitsFor .any ops j k = true) : f j = false := by
  cases hj : f j with
  | false => rfl
  | true => rw [h.closed j k hj hw] at h0; cases h0

/-- What number i owes, with the listed ones as a test. -/
def AcOwes (P : Program) (ops : Array Oper) (C : (Nat → Bool) → World → Prop) (i : Nat) (o : Oper) (a : Act) (v : Value) : Prop :=
  ∀ f w, AcF ops i f → C f w →
    if Region.wanted o (yielded ops a.tmps) then acUpon P (C (fun j => if i = j then true else f j)) v ((execOp a.eval o).run P w) else v = undef ∧ C (fun j => if i = j then true else f j) w

def AcL (P : Program) (ops : Array Oper) (C : (Nat → Bool) → World → Prop) (K : Act → World → Prop) : Nat → List Oper → Act → Prop
  | _, [], a => ∀ f w, (∀ i, i < ops.size → f i = true) → C f w → K a w
  | k, o :: rest, a => ∃ v, AcOwes P ops C k o a v ∧ AcL P ops C K (k + 1) rest (a.put o.dst v)

theorem acL_nil {C : (Nat → Bool) → World → Prop} {K : Act → World → Prop} {k : Nat} {a : Act} (h : ∀ f w, (∀ i, i < ops.size → f i = true) → C f w → K a w) : AcL P ops C K k [] a := h

/-- An operation that only reads. -/
theorem acL_read {C : (Nat → Bool) → World → Prop} {K : Act → World → Prop} {k : Nat} {o : Oper} {rest : List Oper} {a : Act} {v : Value} (hw : Region.wanted o (yielded ops a.tmps) = true)
    (hset : ∀ f w, C f w → C (fun j => if k = j then true else f j) w)
    (hy : ∀ f w, AcF ops k f → C f w → (execOp a.eval o).run P w = .ok (.value v) w)
    (h : AcL P ops C K (k + 1) rest (a.put o.dst v)) : AcL P ops C K k (o :: rest) a := by
  refine ⟨v, fun f w hf hC => ?_, h⟩
  rw [if_pos hw, hy f w hf hC]
  exact ⟨rfl, hset f w hC⟩

/-- An operation that ends in a known value, in a world of the class. -/
theorem acL_value {C : (Nat → Bool) → World → Prop} {K : Act → World → Prop} {k : Nat} {o : Oper} {rest : List Oper} {a : Act} (v : Value) (hw : Region.wanted o (yielded ops a.tmps) = true)
    (hy : ∀ f w, AcF ops k f → C f w → ∀ C' : World → Prop, (∀ w', C (fun j => if k = j then true else f j) w' → C' w') → acUpon P C' v ((execOp a.eval o).run P w))
    (h : AcL P ops C K (k + 1) rest (a.put o.dst v)) : AcL P ops C K k (o :: rest) a := by
  refine ⟨v, fun f w hf hC => ?_, h⟩
  rw [if_pos hw]
  exact hy f w hf hC _ fun _ h => h

def putsTo (vs : Nat → Value) : Nat → List Oper → Act → Nat → Act
  | _, _, a, 0 => a
  | _, [], a, _ + 1 => a
  | k, o :: l, a, i + 1 => putsTo vs (k + 1) l (a.put o.dst (vs k)) i

theorem putsTo_snoc (vs : Nat → Value) : ∀ (l : List Oper) (k : Nat) (a : Act) (i : Nat), i < l.length → putsTo vs k l a (i + 1) = (putsTo vs k l a i).put ((l[i]?).bind (·.dst)) (vs (k + i))
  | [], _, _, _, h => absurd h (Nat.not_lt_zero _)
  | o :: l, k, a, 0, _ => by cases l <;> simp [putsTo]
  | o :: l, k, a, i + 1, h => by
    have := putsTo_snoc vs l (k + 1) (a.put o.dst (vs k)) i (by simpa using h)
    simp only [putsTo] at this ⊢
    rw [this]
    simp [Nat.add_comm, Nat.add_left_comm]

theorem acL_spec {C : (Nat → Bool) → World → Prop} {K : Act → World → Prop} : ∀ (l : List Oper) (k : Nat) (a : Act), AcL P ops C K k l a →
    ∃ vs : Nat → Value, (∀ i o, l[i]? = some o → AcOwes P ops C (k + i) o (putsTo vs k l a i) (vs (k + i))) ∧ (∀ f w, (∀ i, i < ops.size → f i = true) → C f w → K (putsTo vs k l a l.length) w)
  | [], k, a, h => ⟨fun _ => undef, fun i o h => by simp at h, h⟩
  | o :: l, k, a, ⟨v, hv, h⟩ => by
    obtain ⟨vs, h1, h2⟩ := acL_spec l (k + 1) _ h
    have hc : ∀ (l : List Oper) (vs vs' : Nat → Value) (k : Nat) (a : Act) (i : Nat), (∀ j, k ≤ j → vs j = vs' j) → putsTo vs k l a i = putsTo vs' k l a i := by
      intro l
      induction l with
      | nil => intro vs vs' k a i _; cases i <;> rfl
      | cons o l ih =>
        intro vs vs' k a i he
        cases i with
        | zero => rfl
        | succ i => simp only [putsTo]; rw [he k (Nat.le_refl _)]; exact ih vs vs' (k + 1) _ i fun j hj => he j (by omega)
    have hvs : ∀ j, k + 1 ≤ j → (if j = k then v else vs j) = vs j := fun j hj => if_neg (by omega)
    refine ⟨fun j => if j = k then v else vs j, fun i o' ho => ?_, ?_⟩
    · cases i with
      | zero =>
        obtain rfl : o = o' := by simpa using ho
        simpa [putsTo] using hv
      | succ i =>
        have := h1 i o' (by simpa using ho)
        simp only [putsTo]
        rw [hc l _ vs (k + 1) _ i hvs]
        simp only [if_true]
        rw [if_neg (by omega)]
        rw [show k + (i + 1) = k + 1 + i by omega]
        exact this
    · simp only [putsTo, List.length_cons]
      rw [hc l _ vs (k + 1) _ _ hvs]
      simpa using h2

theorem actOf_putsTo (vs : Nat → Value) (l : List Oper) (a : Act) (i : Nat) (hi : i ≤ l.length) : ∀ k, k ≤ l.length → actOf l.toArray vs a (firstK l.length i) k = putsTo vs 0 l a (min i k)
  | 0, _ => by simp [actOf, putsTo]
  | k + 1, hk => by
    have ih := actOf_putsTo vs l a i hi k (by omega)
    simp only [actOf]
    rw [firstK_get, ih]
    by_cases h : k < i
    · simp only [show k < l.length by omega, h, decide_true, Bool.and_self, if_true]
      rw [Nat.min_eq_right (by omega), Nat.min_eq_right (by omega), putsTo_snoc vs l 0 a k (by omega)]
      simp [dstOf]
    · simp only [h, decide_false, Bool.and_false, Bool.false_eq_true, if_false]
      rw [Nat.min_eq_left (by omega), Nat.min_eq_left (by omega)]

theorem wpAny_acL {K : Act → World → Prop} {Q : Exit → Act → World → Prop} (hQ : ∀ a w, K a w → Q .normal a w) {l : List Oper} (C : (Nat → Bool) → World → Prop) (hB : (acB l.toArray && backB l.toArray) = true) {a : Act} {w : World} (hC : C (fun _ => false) w) (h : AcL P l.toArray C K 0 l a) :
    wpAny P .any l.toArray Q l.toArray.size (Array.replicate l.toArray.size false) a w := by
  obtain ⟨vs, h1, h2⟩ := acL_spec l 0 a h
  have e0 : actOf l.toArray vs a (Array.replicate l.toArray.size false) l.toArray.size = a := by
    have : ∀ k, actOf l.toArray vs a (Array.replicate l.toArray.size false) k = a := by
      intro k
      induction k with
      | zero => rfl
      | succ k ih =>
        have : (Array.replicate l.toArray.size false).getD k false = false := by
          simp only [Array.getD]; split <;> simp
        simp only [actOf, this, Bool.false_eq_true, if_false]; exact ih
    exact this _
  have := wpAny_ac (P := P) (ops := l.toArray) (Q := Q) (C := fun L w => C (fun j => L.getD j false) w) hB vs a ?_ ?_ l.toArray.size (Array.replicate l.toArray.size false) w (by simp) ?_ ?_ ?_
  · rw [e0] at this; exact this
  · intro i o ho L w hat hc
    have hi : i < l.length := by
      have := (Array.getElem?_eq_some_iff.1 ho).1
      simpa using this
    have hst := h1 i o (by simpa using ho) (fun j => L.getD j false) w (by rw [Nat.zero_add]; exact ⟨hat.self, hat.done, hat.closed⟩) hc
    have ea : actOf l.toArray vs a (firstK l.toArray.size i) l.toArray.size = putsTo vs 0 l a i := by
      have := actOf_putsTo vs l a i (by omega) l.length (Nat.le_refl _)
      rw [Nat.min_eq_left (by omega)] at this
      simpa using this
    have es : (fun j => (L.setIfInBounds i true).getD j false) = (fun j => if i = j then true else L.getD j false) := by
      funext j
      exact getD_set L i j (by rw [hat.size]; simpa using hi)
    rw [ea]
    simp only [es]
    simpa using hst
  · intro L w hall hc
    have ea : actOf l.toArray vs a (firstK l.toArray.size l.toArray.size) l.toArray.size = putsTo vs 0 l a l.length := by
      have := actOf_putsTo vs l a l.length (Nat.le_refl _) l.length (Nat.le_refl _)
      rw [Nat.min_self] at this
      simpa using this
    rw [ea]
    exact hQ _ _ (h2 _ w hall hc)
  · intro i j hi
    have : (Array.replicate l.toArray.size false).getD i false = false := by simp only [Array.getD]; split <;> simp
    rw [this] at hi; cases hi
  · refine Nat.le_trans (List.length_filter_le _ _) (by simp)
  · have : (fun j => (Array.replicate l.toArray.size false).getD j false) = fun _ => false := by
      funext j
      simp only [Array.getD]; split <;> simp
    simpa only [this] using hC

/-- A region that draws its order. -/
theorem wp_region_ac {id : Nat} {Q : Exit → Act → World → Prop} {a : Act} {w : World} {l : List Oper} (C : (Nat → Bool) → World → Prop) (hm : P.follows .mixedOrders = true) (hB : (acB l.toArray && backB l.toArray) = true) (hC : C (fun _ => false) { w with drawn := w.drawn + 1 })
    (h : AcL P l.toArray C (Q .normal) 0 l a) : (Code.region id l.toArray true).wp P Q a w :=
  wp_region_any hm (wpAny_acL (fun _ _ h => h) C hB hC h)

theorem wpIn_region_ac {l n id : Nat} {Q : Exit → Act → World → Prop} {a : Act} {w : World} {ol : List Oper} (C : (Nat → Bool) → World → Prop) (hm : P.follows .mixedOrders = true) (hB : (acB ol.toArray && backB ol.toArray) = true) (hnd : noDefer ol.toArray = true) (hC : C (fun _ => false) { w with drawn := w.drawn + 1 })
    (h : AcL P ol.toArray C (Q .normal) 0 ol a) : (Code.region id ol.toArray true).wpIn (Fence.wide.inRound l) n P Q a w :=
  wpIn_region_any hm (wpAnyIn_of_wpAny hnd (Q := fun e a w => e = .normal ∧ Q .normal a w) (fun e a w h h' => h h'.1) (fun a w h => h.2) _ _ _ _ (wpAny_acL (fun _ _ h => ⟨rfl, h⟩) C hB hC h))

end Go.Proofs.YtapfekcbbhhieaaGreatDoor
