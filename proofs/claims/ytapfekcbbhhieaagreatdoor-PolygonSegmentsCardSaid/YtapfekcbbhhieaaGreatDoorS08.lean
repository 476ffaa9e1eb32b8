/-
  Steps through a drawn region whose operations ahead of the last ones only read: behind a name that does not unfold.
  integer.digits, read.
-/
import Derived.Test.YtapfekcbbhhieaaGreatDoorS03
import Derived.Test.YtapfekcbbhhieaaGreatDoorS07
namespace Go.Proofs.YtapfekcbbhhieaaGreatDoor
open Go
variable {P : Program} {ops : Array Oper}

structure SQ (P : Program) (ops : Array Oper) (w : World) (Q : Act → Prop) (l : List Oper) (a : Act) : Prop where
  out : wpStill P ops w Q l a
theorem SQ.read {w : World} {Q : Act → Prop} {a : Act} {o : Oper} {rest : List Oper} {v : Value} (hw : Region.wanted o (yielded ops a.tmps) = true)
    (hy : (execOp a.eval o).run P w = .ok (.value v) w) (h : SQ P ops w Q rest (a.put o.dst v)) : SQ P ops w Q (o :: rest) a := ⟨by
  simp only [wpStill, hw, if_true]
  unfold Oper.still
  rw [hy]
  exact ⟨rfl, h.out⟩⟩
theorem SQ.skip {w : World} {Q : Act → Prop} {a : Act} {o : Oper} {rest : List Oper} (hw : Region.wanted o (yielded ops a.tmps) = false)
    (h : SQ P ops w Q rest (a.put o.dst undef)) : SQ P ops w Q (o :: rest) a := ⟨by
  simp only [wpStill, hw, Bool.false_eq_true, if_false]
  exact h.out⟩
theorem SQ.call {w : World} {Q : Act → Prop} {a : Act} {o : Oper} {rest : List Oper} {v : Value} {f : FuncId} {args : Array Value} (hw : Region.wanted o (yielded ops a.tmps) = true)
    (hy : (execOp a.eval o).run P w = .ok (.enter f args) w) (hc : Calls P f args w (fun e w'' => e = .returned v ∧ w'' = w)) (h : SQ P ops w Q rest (a.put o.dst v)) : SQ P ops w Q (o :: rest) a := ⟨by
  simp only [wpStill, hw, if_true]
  unfold Oper.still
  rw [hy]
  exact ⟨rfl, v, hc, h.out⟩⟩
theorem SQ.nil {w : World} {Q : Act → Prop} {a : Act} (h : Q a) : SQ P ops w Q [] a := ⟨wpStill_nil h⟩
theorem wpIn_sq {l m id : Nat} {Q : Exit → Act → World → Prop} {a : Act} {w : World} {ol : List Oper} (n : Nat) (hm : P.follows .mixedOrders = true) (hB : Region.lexTailB .any ol.toArray n = true) (hnd : noDefer ol.toArray = true)
    (h : SQ P ol.toArray w.drew (fun a' => wpList P ol.toArray (fun e a w => e = .normal ∧ Q .normal a w) (ol.drop n) a' w.drew) (ol.take n) a) : (Code.region id ol.toArray true).wpIn (Fence.wide.inRound l) m P Q a w := wpIn_region_still_tail n hm hB hnd h.out
theorem wp_sq {id : Nat} {Q : Exit → Act → World → Prop} {a : Act} {w : World} {l : List Oper} (n : Nat) (hm : P.follows .mixedOrders = true) (hB : Region.lexTailB .any l.toArray n = true)
    (h : SQ P l.toArray w.drew (fun a' => wpList P l.toArray Q (l.drop n) a' w.drew) (l.take n) a) : (Code.region id l.toArray true).wp P Q a w := wp_region_still_tail n hm hB h.out

/-- A region whose first n operations read what S names, and whose others stand in a chain that keeps S. -/
theorem wp_region_held {id : Nat} {Q : Exit → Act → World → Prop} {a : Act} {w : World} {ol : List Oper} (n : Nat) (S : World → Prop) (hm : P.follows .mixedOrders = true)
    (hB : (Region.noSelect ol.toArray && decide (n < ol.length) && heldLex ol.toArray n 0 (Array.replicate ol.length false) && Region.seqB .any ol.toArray (ol.length - n) n (listedTo n 0 (Array.replicate ol.length false))) = true)
    (hS : S w.drew)
    (h : wpHeldL P ol.toArray S (fun a' => wpTailS P ol.toArray (fun e a w => e = .normal ∧ Q .normal a w) S (ol.drop n) a' w.drew) (ol.take n) a) :
    (Code.region id ol.toArray true).wp P Q a w := by
  simp only [Bool.and_eq_true, decide_eq_true_eq] at hB
  obtain ⟨⟨⟨hsel, hn⟩, hlex⟩, hseq⟩ := hB
  have htl : (ol.take n).length = n := by simp; omega
  have hdl : (ol.drop n).length = ol.length - n := by simp
  refine wp_mono (Q := fun e a w => e = .normal ∧ Q .normal a w) (wp_region_any hm (wpAny_of_held _ _ _ _ (S := S) ?_)) (fun e a w h => by obtain ⟨rfl, h⟩ := h; exact h)
  have H := held_head (P := P) (ops := ol.toArray) (S := S) (Q := fun e a w => e = .normal ∧ Q .normal a w) hsel (fun c a b w h => absurd h.1 (by intro e; cases e)) hS (ol.length - n) (ol.take n) 0 (Array.replicate ol.length false) a
    (fun j hj => by have hj' : j < n := by rw [htl] at hj; exact hj
                    simp [hj']) (by rw [htl]; exact hlex) (by
      rw [htl]
      refine wpHeldL_mono ?_ _ _ h
      intro a' h'
      have := held_tail (P := P) (ops := ol.toArray) (Q := fun e a w => e = .normal ∧ Q .normal a w) (S := S) (ol.drop n) n _ a' _ (fun j => by simp [List.getElem?_drop]) (by rw [hdl]; exact hseq) h'
      rwa [hdl] at this)
  rw [htl, show n + (ol.length - n) = ol.length by omega] at H
  simpa using H

/-! ### Any order, by a list of steps: an operation that only reads what S names is taken as soon as it may be; any other has to be the only one that may come up -/

def permB (ops : Array Oper) : List (Nat × Bool) → Array Bool → Bool
  | [], listed => (Region.ready .any ops listed).isEmpty
  | (k, true) :: r, listed => Region.free .any ops listed k && (Region.ready .any ops listed).contains k && permB ops r (listed.setIfInBounds k true)
  | (k, false) :: r, listed => decide (Region.ready .any ops listed = [k]) && permB ops r (listed.setIfInBounds k true)

def wpMix (P : Program) (ops : Array Oper) (Q : Exit → Act → World → Prop) (S : World → Prop) : List (Nat × Bool) → Act → World → Prop
  | [], a, w => Q .normal a w
  | (k, true) :: r, a, w => ∃ o v, ops[k]? = some o ∧ YieldsIf P ops S o v a ∧ wpMix P ops Q S r (a.put o.dst v) w
  | (k, false) :: r, a, w => ∃ o, ops[k]? = some o ∧ if Region.wanted o (yielded ops a.tmps) then o.wp P a w (fun a' w' => S w' ∧ wpMix P ops Q S r a' w') Q else S w ∧ wpMix P ops Q S r (a.put o.dst undef) w

theorem mix_any {S : World → Prop} {Q : Exit → Act → World → Prop} (hs : Region.noSelect ops = true) (hQ : ∀ c a b w, Q (.panic c) a w → Q (.panic c) b w) :
    ∀ (l : List (Nat × Bool)) (listed : Array Bool) (a : Act) (w : World), permB ops l listed = true → S w → wpMix P ops Q S l a w → wpAnyH P .any ops Q S l.length listed a w
  | [], listed, a, w, hB, _, h => ⟨by simpa [permB] using hB, h⟩
  | (k, true) :: r, listed, a, w, hB, hS, ⟨o, v, ho, hy, h⟩ => by
    simp only [permB, Bool.and_eq_true] at hB
    exact wpAnyH_take ho hs hB.1.1 hB.1.2 (fun c a w h => hQ c _ _ w h) hy hS (mix_any hs hQ r _ _ _ hB.2 hS h)
  | (k, false) :: r, listed, a, w, hB, hS, ⟨o, ho, h⟩ => by
    simp only [permB, Bool.and_eq_true, decide_eq_true_eq] at hB
    refine wpAnyH_all hB.1 (by simp) fun i hi => ?_
    obtain rfl : i = k := by simpa using hi
    have hrec : ∀ a' w', (S w' ∧ wpMix P ops Q S r a' w') → (S w' ∧ wpAnyH P .any ops Q S r.length (listed.setIfInBounds i true) a' w') := fun a' w' h' => ⟨h'.1, mix_any hs hQ r _ _ _ hB.2 h'.1 h'.2⟩
    refine wpOp_mono hrec ?_
    unfold wpOp
    simp only [ho]
    by_cases hw : Region.wanted o (yielded ops a.tmps) = true
    · simp only [hw, if_true] at h ⊢; exact .inl h
    · simp only [hw, Bool.false_eq_true, if_false] at h ⊢; exact h

structure MQ (P : Program) (ops : Array Oper) (Q : Exit → Act → World → Prop) (S : World → Prop) (l : List (Nat × Bool)) (a : Act) (w : World) : Prop where
  out : wpMix P ops Q S l a w
section
variable {Q : Exit → Act → World → Prop} {S : World → Prop} {r : List (Nat × Bool)} {a : Act} {w : World} {k : Nat} {o : Oper} {v : Value}
theorem MQ.nil (h : Q .normal a w) : MQ P ops Q S [] a w := ⟨h⟩
theorem MQ.take (ho : ops[k]? = some o) (hw : Region.wanted o (yielded ops a.tmps) = true) (hy : ∀ w, S w → (execOp a.eval o).run P w = .ok (.value v) w) (h : MQ P ops Q S r (a.put o.dst v) w) : MQ P ops Q S ((k, true) :: r) a w :=
  ⟨o, v, ho, .inl ⟨hw, hy⟩, h.out⟩
theorem MQ.skip (ho : ops[k]? = some o) (hw : Region.wanted o (yielded ops a.tmps) = false) (h : MQ P ops Q S r (a.put o.dst undef) w) : MQ P ops Q S ((k, true) :: r) a w :=
  ⟨o, undef, ho, .inr ⟨hw, rfl⟩, h.out⟩
theorem MQ.only (ho : ops[k]? = some o) (hw : Region.wanted o (yielded ops a.tmps) = true)
    (h : ∀ K : Act → World → Prop, (∀ a' w', S w' → MQ P ops Q S r a' w' → K a' w') → o.wp P a w K Q) : MQ P ops Q S ((k, false) :: r) a w :=
  ⟨o, ho, by simp only [hw, if_true]; exact h _ fun a' w' h1 h2 => ⟨h1, h2.out⟩⟩
end

theorem wp_mix {id : Nat} {Q : Exit → Act → World → Prop} {a : Act} {w : World} {ops : Array Oper} (l : List (Nat × Bool)) (S : World → Prop) (hm : P.follows .mixedOrders = true)
    (hB : (Region.noSelect ops && decide (l.length = ops.size) && permB ops l (Array.replicate ops.size false)) = true) (hS : S w.drew)
    (h : MQ P ops (fun e a w => e = .normal ∧ Q .normal a w) S l a w.drew) : (Code.region id ops true).wp P Q a w := by
  simp only [Bool.and_eq_true, decide_eq_true_eq] at hB
  obtain ⟨⟨hsel, hn⟩, hp⟩ := hB
  refine wp_mono (Q := fun e a w => e = .normal ∧ Q .normal a w) (wp_region_any hm (wpAny_of_held _ _ _ _ (S := S) ?_)) (fun e a w h => by obtain ⟨rfl, h⟩ := h; exact h)
  have H := mix_any (P := P) hsel (fun c a b w h => absurd h.1 (by intro e; cases e)) l _ _ _ hp hS h.out
  rw [hn] at H
  exact H

theorem wpIn_mix {l' m id : Nat} {Q : Exit → Act → World → Prop} {a : Act} {w : World} {ops : Array Oper} (l : List (Nat × Bool)) (S : World → Prop) (hm : P.follows .mixedOrders = true)
    (hB : (Region.noSelect ops && decide (l.length = ops.size) && permB ops l (Array.replicate ops.size false)) = true) (hnd : noDefer ops = true) (hS : S w.drew)
    (h : MQ P ops (fun e a w => e = .normal ∧ Q .normal a w) S l a w.drew) : (Code.region id ops true).wpIn (Fence.wide.inRound l') m P Q a w := by
  simp only [Bool.and_eq_true, decide_eq_true_eq] at hB
  obtain ⟨⟨hsel, hn⟩, hp⟩ := hB
  refine wpIn_region_any hm (wpAnyIn_of_wpAny hnd (Q := fun e a w => e = .normal ∧ Q .normal a w) (fun e a w h h' => h h'.1) (fun a w h => h.2) _ _ _ _ (wpAny_of_held _ _ _ _ (S := S) ?_))
  have H := mix_any (P := P) hsel (fun c a b w h => absurd h.1 (by intro e; cases e)) l _ _ _ hp hS h.out
  rw [hn] at H
  exact H
end Go.Proofs.YtapfekcbbhhieaaGreatDoor

namespace Go.Proofs.YtapfekcbbhhieaaGreatDoor
open Go.RowKit Go.Shelf Lib Str Limb
attribute [local go_sem] Oper.semAt_some

set_option maxHeartbeats 400000 in
/-- integer.digits: the closure, over the string in a variable of its own. -/
theorem digits_any (s : ByteArray) (w : World) :
    Calls Tryz.prog 101 #[.string s] w fun e w' => e = .returned (.func (.func 141) #[] #[.pointer (some ⟨w.heap.size, 0, none⟩)]) ∧ w.alloc (.cells #[.string s] 9) = w' := by
  go_enter Tryz.func101, Tryz.ntmps101
  go_wp2
  go_ret
  exact ⟨rfl, rfl⟩

theorem ba_get (l : List UInt8) (i : Nat) (h : i < (⟨l.toArray⟩ : ByteArray).size) (h2 : i < l.length) : (⟨l.toArray⟩ : ByteArray)[i]'h = l[i]'h2 := rfl
theorem dig_byte (l : List UInt8) (h : ∀ c ∈ l, 48 ≤ c.toNat ∧ c.toNat ≤ 57) (s : ByteArray) (hs : s = ⟨l.toArray⟩) (k : Nat) (hk : k < l.length) (hb : s.size - 1 - k < s.size) :
    ((s[s.size - 1 - k]'hb).toNat : Int) = (((digL l)[k]?.getD 0 : Nat) : Int) + 48 ∧ (digL l)[k]?.getD 0 < 10 := by
  have e := digL_at l k hk
  have hl : s.size = l.length := by rw [hs]; show l.toArray.size = _; simp
  have h1 : s[s.size - 1 - k]'hb = l[l.length - 1 - k]'(by omega) := by
    subst hs
    rw [ba_get l _ hb (by omega)]
    simp only [hl]
  have := h _ (List.getElem_mem (show l.length - 1 - k < l.length by omega))
  rw [h1, e]; omega

set_option maxRecDepth 100000 in
set_option maxHeartbeats 1000000 in
/-- The digits of a string, from the last one on. -/
theorem digits_ix (Bs : Nat) (l : List UInt8) (hl : ∀ c ∈ l, 48 ≤ c.toNat ∧ c.toNat ≤ 57) (hlen : l.length ≤ 100000) (Rd : World → Prop) (hRd : ∀ W, Rd W → W.cell? ⟨Bs, 0, none⟩ = some (St l)) :
    IterC Fence.wide 2 Tryz.prog 141 #[.pointer (some ⟨Bs, 0, none⟩)] Rd (fun k args => args = #[I k, I ((digL l)[k]?.getD 0)]) l.length := by
  intro lp J Jx W hJr _ hY h0
  obtain ⟨s, hs⟩ : ∃ s : ByteArray, s = ⟨l.toArray⟩ := ⟨_, rfl⟩
  have hsz : l.length = s.size := by rw [hs]; show _ = l.toArray.size; simp
  have hbyte := fun k => dig_byte l hl s hs k
  rw [hsz] at hbyte hlen hY ⊢
  change ∀ W, Rd W → W.cell? ⟨Bs, 0, none⟩ = some (.string ⟨l.toArray⟩) at hRd
  rw [← hs] at hRd
  have hb := hRd W (hJr 0 W h0)
  have HRd := Lib.hid hRd; clear hRd
  have HY := Lib.hid hY; clear hY
  have HJR := Lib.hid hJr; clear hJr
  have HBY := Lib.hid hbyte; clear hbyte
  clear hs hsz
  refine callsIn_of_wp Tryz.func141 rfl trivial ?_ rfl
  simp only [Tryz.ntmps141, List.size_toArray, List.length_cons, List.length_nil, Nat.reduceAdd, Nat.reduceSub, Array.replicate_succ, Array.replicate_zero, List.push_toArray, List.append_toArray, List.nil_append, List.cons_append]
  gi_wp2
  gi_loopw [6] (fun i wr => ∃ (k : Nat), k ≤ s.size ∧ i = .int .i64 (k : Int) ∧ Hid (J k wr))
    (fun i _ => s.size - (RowKit.intOf i).toNat)
  case atStart => exact ⟨0, Nat.zero_le _, rfl, h0⟩
  case round =>
    clear hb
    obtain ⟨k, hk, rfl, hJ⟩ := hrel
    by_cases hlt : k < s.size
    · have hbox := HRd.out wr (HJR.out k wr hJ.out)
      have hn1 : s.size - 1 - k < s.size := by omega
      obtain ⟨e1, e2⟩ := HBY.out k hlt hn1
      obtain ⟨fn, tmps, assign, body, hy, hR⟩ := HY.out k _ wr hJ.out hlt rfl
      gi_wp2
      refine hR.mono ?_
      rintro e W3 (⟨rfl, hJ3⟩ | ⟨rfl, hJx3⟩)
      · have HJ3 := Lib.hid hJ3; clear hJ3
        gi_wp2
        go_roundw
        case rel => exact ⟨k + 1, by omega, by go_num, HJ3.out⟩
        case measure => simp [RowKit.intOf]; omega
      · have HJx3 := Lib.hid hJx3; clear hJx3
        gi_wp2
        refine bodyPost_ret (results_none rfl _ _ _) rfl ?_
        exact ⟨⟨_, rfl⟩, .inr HJx3.out⟩
    · obtain rfl : k = s.size := by omega
      gi_wp2
      go_end0
      exact ⟨⟨_, rfl⟩, .inl hJ.out⟩

/-- THE LOOP over integer.digits, an outermost one. -/
theorem digits_loop {g : Operand} {ps : Array Tmp} {assign body : Code} {Q : Exit → Act → World → Prop} {a : Act} {w : World}
    (Bs : Nat) (l : List UInt8) (hl : ∀ c ∈ l, 48 ≤ c.toNat ∧ c.toNat ≤ 57) (hlen : l.length ≤ 100000)
    (hg : a.eval g = .func (.func 141) #[] #[.pointer (some ⟨Bs, 0, none⟩)]) (hps : ps.size = 2)
    {B : Nat} (hB : B ≤ w.heap.size) (I' : Nat → World → Prop) (Ix : Code → Nat → World → Prop) (hI : ∀ k W W', I' k W → CellsKept W W' → Below B W W' → I' k W') (hIx : ∀ c k W W', Ix c k W → CellsKept W W' → Below B W W' → Ix c k W')
    (hRd : ∀ k W, I' k W → W.cell? ⟨Bs, 0, none⟩ = some (St l)) (h0 : I' 0 w) (a₁ : Nat → Nat → Act)
    (hassign : ∀ (lp k d : Nat) (W : World) (K : Act → World → Prop), K (a₁ k d) W →
      assign.wpIn (Fence.wide.inRound lp) 1 Tryz.prog (Exit.then K (fun _ _ _ => False)) { tmps := (ps.zip #[I k, I d]).foldl (fun t (p, v) => t.setIfInBounds p v) a.tmps, defers := [] } W)
    (hbody : ∀ (lp k d : Nat) (W : World), w.heap.size ≤ lp → I' k W → k < l.length → d = (digL l)[k]?.getD 0 → d < 10 → body.wpIn (Fence.wide.inRound lp) 1 Tryz.prog (postIx w.heap.size I' Ix k W) (a₁ k d) W)
    (hdone : ∀ (D : Nat) (W : World), w.heap.size ≤ D → I' l.length W → W.heap[D]? = some (.deferred (some [])) → Q .normal { a with defers := { target := .collected D, args := #[] } :: a.defers } W)
    (hstop : ∀ (D : Nat) (c : Code) (k : Nat) (W : World), w.heap.size ≤ D → Ix c k W → W.heap[D]? = some (.deferred (some [])) → c.wpIn Fence.wide 3 Tryz.prog Q { a with defers := { target := .collected D, args := #[] } :: a.defers } W) :
    (Code.rangeFunc g ps assign body).wpIn Fence.wide 3 Tryz.prog Q a w :=
  range_ix (n := 3) rfl (by omega) hg trivial (enters_of Tryz.func141 (by kernel_rfl) rfl) (digits_ix Bs l hl hlen _ (fun W h => h))
    (fun k args h => by subst h; exact hps.symm) hB I' Ix hI hIx hRd h0 (fun k _ => a₁ k ((digL l)[k]?.getD 0))
    (fun lp k args W K h hK => by subst h; exact hassign lp k _ W K hK)
    (fun lp k args W h1 h2 h3 h4 h5 => hbody lp k _ W h1 h3 h4 rfl (small_getD (digL_small hl) (by omega) k))
    hdone hstop

/-- A slice of the call's own, known as the limbs of a number. -/
def OwnLimbs (w : World) (n : Nat) (v : Value) (w' : World) : Prop := Sl w' v ((limbs B9 n).map I) ∧ Below w.heap.size w w'

theorem Boxed.put {W : World} {B : Nat} {t : TypeId} {v : Value} (h : Boxed W B t v) (u : Value) : Boxed (W.setCell ⟨B, 0, none⟩ u) B t u := by
  unfold Boxed at *; simp [World.setCell, Array.getElem?_modify, h]

/-- The world while a numeral is read: k digits have been, u is the unit. -/
structure ReadI (w : World) (z m : Nat) (b : Bool) (l : List UInt8) (k u : Nat) (W : World) : Prop where
  st : W.heap[z]? = some (.cells #[.bool b, .slice (some ⟨w.heap.size + 1, 0, none⟩) m m] 95 (0, 0))
  un : Boxed W (z + 1) 3 (I u)
  sb : Boxed W (z + 2) 9 (St l)
  row : Row W (w.heap.size + 1) m (readTo 9 (digL l) m k)
  res : W.heap[w.heap.size]? = some (.cells #[.bool false, .slice none 0 0] 95 (0, 0))
  below : Below w.heap.size w W

section
variable {w W W' : World} {z m k u : Nat} {b : Bool} {l : List UInt8}
theorem ReadI.kept (h : ReadI w z m b l k u W) (hk : CellsKept W W') (hb : Below w.heap.size W W') : ReadI w z m b l k u W' :=
  ⟨hk _ _ _ _ h.st, hk.boxed h.un, hk.boxed h.sb, hk.row h.row, hk _ _ _ _ h.res, h.below.trans hb⟩
theorem ReadI.drew (h : ReadI w z m b l k u W) : ReadI w z m b l k u W.drew := h.kept (fun _ _ _ _ h => h) (Below.refl _ _).drew
theorem ReadI.unit (h : ReadI w z m b l k u W) (hz : w.heap.size + 1 < z) (u' : Nat) : ReadI w z m b l k u' (W.setCell ⟨z + 1, 0, none⟩ (I u')) :=
  ⟨(Below.heap_setCell W ⟨z + 1, 0, none⟩ _ z (by show z ≠ z + 1; omega)).trans h.st, Boxed.put h.un _, h.sb.other (by omega) _, h.row.other (by show w.heap.size + 1 ≠ z + 1; omega) _,
    (Below.heap_setCell W ⟨z + 1, 0, none⟩ _ w.heap.size (by show w.heap.size ≠ z + 1; omega)).trans h.res, h.below.setCell (p := ⟨z + 1, 0, none⟩) (by show w.heap.size ≤ z + 1; omega) _⟩
theorem ReadI.limb (h : ReadI w z m b l k u W) (hz : w.heap.size + 1 < z) {y : Nat} (hy : y = (readTo 9 (digL l) m k)[k / 9]?.getD 0 + (digL l)[k]?.getD 0 * 10 ^ (k % 9)) : ReadI w z m b l (k + 1) u (W.setCell ⟨w.heap.size + 1, k / 9, none⟩ (I y)) :=
  ⟨(Below.heap_setCell W ⟨w.heap.size + 1, k / 9, none⟩ _ z (by show z ≠ w.heap.size + 1; omega)).trans h.st, (Below.heap_setCell W ⟨w.heap.size + 1, k / 9, none⟩ _ (z + 1) (by show z + 1 ≠ w.heap.size + 1; omega)).trans h.un, (Below.heap_setCell W ⟨w.heap.size + 1, k / 9, none⟩ _ (z + 2) (by show z + 2 ≠ w.heap.size + 1; omega)).trans h.sb, by subst hy; exact h.row.set (k / 9) _,
    (Below.heap_setCell W ⟨w.heap.size + 1, k / 9, none⟩ _ w.heap.size (by show w.heap.size ≠ w.heap.size + 1; omega)).trans h.res, h.below.setCell (p := ⟨w.heap.size + 1, k / 9, none⟩) (by show w.heap.size ≤ w.heap.size + 1; omega) _⟩
end

theorem pow9_le (k : Nat) : 10 ^ (k % 9) ≤ 100000000 := by
  have : 10 ^ (k % 9) ≤ 10 ^ 8 := Nat.pow_le_pow_right (by omega) (by have := Nat.mod_lt k (show 0 < 9 by omega); omega)
  exact this
theorem pow9_next (k : Nat) (h : (k + 1) % 9 ≠ 0) : 10 ^ (k % 9) * 10 = 10 ^ ((k + 1) % 9) := by
  rw [show (k + 1) % 9 = k % 9 + 1 by omega, Nat.pow_succ]

theorem Sl.set {w : World} {v : Value} {l : List Nat} (h : Sl w v (l.map I)) {p : Addr} {c : Value} (hc : w.cell? p = some c) (hn : ∀ x, c ≠ I x) (u : Value) : Sl (w.setCell p u) v (l.map I) := by
  obtain ⟨q, cap, e, hcap, hcs⟩ := h
  refine ⟨q, cap, e, hcap, fun i x hx => ?_⟩
  obtain ⟨b', off, ep, h'⟩ := hcs i x hx
  refine ⟨b', off, ep, ?_⟩
  rw [World.cell?_setCell_other]
  · exact h'
  · rintro rfl
    rw [hc] at h'
    cases h'
    rw [List.getElem?_map] at hx
    cases hl : l[i]? with
    | none => rw [hl] at hx; cases hx
    | some y => rw [hl] at hx; cases hx; exact hn y rfl

theorem Sl.trim_at {w : World} {p : Option Addr} {cap n : Nat} {l : List Nat} (h : Sl w (.slice p n cap) (l.map I)) (hn : l.length = n) : Sl w (.slice p (trimL l).length cap) ((trimL l).map I) := by
  subst hn; exact Sl.trim h

set_option maxRecDepth 100000 in
set_option maxHeartbeats 1000000 in
/-- integer.read. -/
theorem read_any (x : Int) (w : World) (hl : digs x ≤ 700) :
    Calls Tryz.prog 59 #[St (itoa x)] w fun e w' => ∃ v, e = .returned (.agg #[.bool (decide (x < 0)), v]) ∧ Sl w' v ((limbs B9 x.natAbs).map I) ∧ Below w.heap.size w w' := by
  have hcp := Tryz.strings_CutPrefix ⟨(itoa x).toArray⟩ ⟨#[45]⟩
  rw [show (⟨(itoa x).toArray⟩ : ByteArray).data.toList = itoa x from rfl, show (⟨#[45]⟩ : ByteArray).data.toList = [45] from rfl, trimPrefix_itoa, hasPrefix_itoa] at hcp
  have HCP := Lib.hid hcp; clear hcp
  obtain ⟨l, hll⟩ : ∃ l, l = decDigits x.natAbs := ⟨_, rfl⟩
  have hdl := decDigits_digit x.natAbs
  rw [← hll] at hdl HCP
  have hlen : l.length ≤ 700 := by rw [hll]; exact hl
  have HLL := Lib.hid hll; clear hll
  obtain ⟨s, hs⟩ : ∃ s : ByteArray, s = ⟨l.toArray⟩ := ⟨_, rfl⟩
  have hsz : (s.size : Int) = l.length := by rw [hs]; show (l.toArray.size : Int) = _; simp
  rw [← hs] at HCP
  have HS := Lib.hid hs; clear hs
  have HSZ := Lib.hid hsz
  have hszb : s.size ≤ 700 := by omega
  clear hsz
  refine (callsIn_wide (n := 3)).1 ?_
  refine callsIn_of_wp_marks Tryz.func59 rfl trivial ?_ rfl
  simp only [Tryz.ntmps59, List.size_toArray, List.length_cons, List.length_nil, Nat.reduceAdd, Nat.reduceSub, Array.replicate_succ, Array.replicate_zero, List.push_toArray, List.append_toArray, List.nil_append, List.cons_append]
  gi_wp2_with (refine ⟨trivial, ?_⟩; gi_at_call 90; refine (callsIn_wide.2 (HCP.out _)).mono ?_)
  rintro e w1 ⟨rfl, rfl⟩
  obtain ⟨m, hm⟩ : ∃ m, m = (s.size + 9 - 1) / 9 := ⟨_, rfl⟩
  have hmi : ((s.size : Int) + 9 - 1) / 9 = (m : Int) := by omega
  have hmb : m ≤ 100 := by omega
  have hm9 : s.size ≤ 9 * m := by omega
  obtain ⟨w2, hmk, hrow, hb2⟩ := run_make_ints (w.alloc (.cells #[.bool false, .slice none 0 0] 95)) w.heap.size m (by simp) (by omega)
  rw [← hmi] at hmk
  have HMI := Lib.hid hmi; clear hmi
  have HM := Lib.hid hm; clear hm
  have hB2 : Below w.heap.size w w2 := ((Below.refl _ w).alloc (Nat.le_refl _) _).trans (hb2.mono (by simp))
  have bR : w2.heap[w.heap.size]? = some (.cells #[.bool false, .slice none 0 0] 95 (0, 0)) := (hb2.block _ (by simp)).trans (World.alloc_heap_new w _)
  simp only [World.size_alloc] at hrow hmk
  clear hb2
  gi_wp2_with (refine ⟨trivial, ?_⟩; gi_at_call 101; refine (callsIn_wide.2 (digits_any s _)).mono ?_)
  rintro e w5 ⟨rfl, rfl⟩
  have hz := hrow.lt
  have hI0 : ReadI w w2.heap.size m (decide (x < 0)) l 0 1 (((w2.alloc (.cells #[.bool (decide (x < 0)), .slice (some ⟨w.heap.size + 1, 0, none⟩) m m] 95)).alloc (.cells #[.int .i64 1] 3)).alloc (.cells #[.string s] 9)) := by
    have hz0 := hB2.size
    refine ⟨?_, ?_, ?_, ((hrow.alloc _).alloc _).alloc _, ?_, ((hB2.alloc hB2.size _).alloc (by simp; omega) _).alloc (by simp; omega) _⟩
    · exact (Below.heap_alloc _ _ _ (by simp only [World.size_alloc]; omega)).trans ((Below.heap_alloc _ _ _ (by simp only [World.size_alloc]; omega)).trans (World.alloc_heap_new w2 _))
    · have := Boxed.new (w2.alloc (.cells #[.bool (decide (x < 0)), .slice (some ⟨w.heap.size + 1, 0, none⟩) m m] 95)) 3 (.int .i64 1)
      rw [World.size_alloc] at this
      exact this.alloc _
    · have := Boxed.new ((w2.alloc (.cells #[.bool (decide (x < 0)), .slice (some ⟨w.heap.size + 1, 0, none⟩) m m] 95)).alloc (.cells #[.int .i64 1] 3)) 9 (.string s)
      rw [World.size_alloc, World.size_alloc, HS.out] at this
      rw [HS.out]; exact this
    · exact (Below.heap_alloc _ _ _ (by simp only [World.size_alloc]; omega)).trans ((Below.heap_alloc _ _ _ (by simp only [World.size_alloc]; omega)).trans ((Below.heap_alloc _ _ _ (by omega)).trans bR))
  have hs5 : ((w2.alloc (.cells #[.bool (decide (x < 0)), .slice (some ⟨w.heap.size + 1, 0, none⟩) m m] 95)).alloc (.cells #[.int .i64 1] 3)).heap.size = w2.heap.size + 2 := by simp
  rw [hs5]
  have hm9' : l.length ≤ 9 * m := by have := HSZ.out; omega
  clear hs5 hmk hrow bR hB2 hm9
  generalize ((w2.alloc (.cells #[.bool (decide (x < 0)), .slice (some ⟨w.heap.size + 1, 0, none⟩) m m] 95)).alloc (.cells #[.int .i64 1] 3)).alloc (.cells #[.string s] 9) = W5 at *
  generalize w2.heap.size = z at *
  clear w2
  generalize hbx : decide (x < 0) = b at *
  have HBX := Lib.hid hbx; clear hbx
  gi_wp2
  refine digits_loop (z + 2) l hdl (by omega) rfl rfl (B := w.heap.size) hI0.below.size (fun k W => ∃ u, ReadI w z m b l k u W ∧ (k % 9 ≠ 0 → u = 10 ^ (k % 9)) ∧ u ≤ 1000000000) (fun _ _ _ => False)
    (fun k W W' h hk hb => let ⟨u, h1, h2⟩ := h; ⟨u, h1.kept hk hb, h2⟩) (fun _ _ _ _ h _ _ => h) (fun k W h => let ⟨u, h1, _⟩ := h; h1.sb.cell) ⟨1, hI0, by simp, by omega⟩ ?a1 ?assign ?body ?done ?stop
  case stop => exact fun _ _ _ _ _ h _ => h.elim
  case assign =>
    intro lp k d W K hK
    gi_wp2
    exact hK
  case body =>
    rintro lp k d W hlp ⟨u, hI, hu1, hu2⟩ hk hd hd10
    obtain ⟨r1, r2, -, r4, -⟩ := readTo_spec (p := 9) (by omega) (digL_small hdl) (m := m) (by rw [digL_len]; exact hm9') k (by rw [digL_len]; omega)
    have hkm : k / 9 < m := by omega
    have hp := pow9_le k
    have hpn := pow9_next k
    have HPN := Lib.hid hpn; clear hpn
    obtain ⟨y, hy⟩ : ∃ y, y = (readTo 9 (digL l) m k)[k / 9]?.getD 0 := ⟨_, rfl⟩
    have hyb : y < 1000000000 := by rw [hy]; exact small_getD r2 (by decide) _
    have HU1 := Lib.hid hu1; clear hu1
    have hlr := hI.row.cell (getD_some (show k / 9 < (readTo 9 (digL l) m k).length by rw [r1]; exact hkm))
    rw [← hy] at hlr
    have hfr := hI.row.frozen (k / 9)
    have HY := Lib.hid hy; clear hy r1 r2 r4
    have HDD := Lib.hid hd; clear hd
    have cx : W.cell? ⟨z, 1, none⟩ = some (.slice (some ⟨w.heap.size + 1, 0, none⟩) m m) := by simp [World.cell?, hI.st]
    have bu := hI.un
    have cu := bu.cell; have fu := bu.frozen
    obtain ⟨q, hq⟩ : ∃ q, q = k / 9 := ⟨_, rfl⟩
    rw [← hq] at hkm hlr hfr
    have w1 : IntKind.i64.wrap ((k : Int) / 9) = (q : Int) := (IntWalk.i64_in _ (by omega)).trans (by omega)
    have HQ := Lib.hid hq; clear hq
    obtain ⟨P, hP⟩ : ∃ P, P = 10 ^ (k % 9) := ⟨_, rfl⟩
    rw [← hP] at hp HPN HU1
    have HP := Lib.hid hP; clear hP
    by_cases hk9 : k % 9 = 0
    · have hb9 : (((k : Int) % 9) == 0) = true := by rw [beq_iff_eq]; omega
      have HK9 := Lib.hid hk9; clear hk9
      have cu1 := cell_eq (u := .int .i64 1) cu
      have cx1 := (cell_ne W (b := z) (b' := z + 1) 1 0 (.int .i64 1) (by omega)).trans cx
      have cl1 := (cell_ne W (b := w.heap.size + 1) (b' := z + 1) q 0 (.int .i64 1) (by omega)).trans hlr
      have hI1 := Lib.hid (show ReadI w z m b l k 1 (W.setCell ⟨z + 1, 0, none⟩ (.int .i64 1)) from hI.unit hz 1)
      have w2 : IntKind.i64.wrap (d : Int) = (d : Int) := IntWalk.i64_in _ (by omega)
      have w3 : IntKind.i64.wrap ((y : Int) + d) = (y : Int) + d := IntWalk.i64_in _ (by omega)
      have W1 := Lib.hid w1; have W2 := Lib.hid w2; have W3 := Lib.hid w3
      clear w1 w2 w3
      gi_wp2
      clear cu cx hlr
      have w1 := W1.out; have w2 := W2.out; have w3 := W3.out
      (refine wpIn_sq 11 (by kernel_rfl) (by kernel_rfl) (by kernel_rfl) ?_; simp only [List.take_succ_cons, List.take_zero, List.drop_succ_cons, List.drop_zero]; (repeat (first | (apply SQ.read (by rfl); (focus (go_simp; try with_reducible rfl)); try simp only [Act.put, List.setIfInBounds_toArray, List.set_cons_zero, List.set_cons_succ]) | (apply SQ.skip (by rfl); try simp only [Act.put, List.setIfInBounds_toArray, List.set_cons_zero, List.set_cons_succ]))); refine SQ.nil ?_)
      clear cx1 w1 w2 w3 W1 W2 W3 cu1
      have hI2 := hI1.out.limb hz (y := y + d) (by
        rw [← HY.out, ← HDD.out, ← HP.out, show P = 1 by rw [HP.out, HK9.out], Nat.mul_one])
      rw [← HQ.out] at hI2
      have bu2 := hI2.un
      have cu2 := bu2.cell; have fu2 := bu2.frozen
      rw [show I (y + d) = Value.int .i64 ((y : Int) + d) by simp [I]] at hI2 cu2 fu2
      have HI2 := Lib.hid hI2
      clear hI1 bu2 bu fu
      go_wp2
      gi_wp2
      exact ⟨((KeepsOthers.setCell W _ _).trans ((KeepsOthers.setCell _ _ _).trans ((KeepsOthers.setCell _ _ _).trans (KeepsOthers.drew _)))).from _, 10, (HI2.out.unit hz 10).drew,
        fun h => by rw [← HPN.out h, show P = 1 by rw [HP.out, HK9.out]], by omega⟩
    · have hb9 : (((k : Int) % 9) == 0) = false := by rw [beq_eq_false_iff_ne]; omega
      have hu := HU1.out hk9
      have HK9 := Lib.hid hk9; clear hk9
      subst hu
      obtain ⟨p, hp'⟩ : ∃ p, p = d * u := ⟨_, rfl⟩
      have hpb : p ≤ 900000000 := by rw [hp']; exact Nat.mul_le_mul (show d ≤ 9 by omega) hp
      have hI1 := Lib.hid hI
      have w2 : IntKind.i64.wrap ((d : Int) * (u : Int)) = (p : Int) := (IntWalk.i64_in _ (by rw [← Int.natCast_mul, ← hp']; omega)).trans (by rw [hp']; simp)
      have w3 : IntKind.i64.wrap ((y : Int) + p) = (y : Int) + p := IntWalk.i64_in _ (by omega)
      have HPD := Lib.hid hp'; clear hp'
      have W1 := Lib.hid w1; have W2 := Lib.hid w2; have W3 := Lib.hid w3
      clear w1 w2 w3
      gi_wp2
      have w1 := W1.out; have w2 := W2.out; have w3 := W3.out
      (refine wpIn_sq 11 (by kernel_rfl) (by kernel_rfl) (by kernel_rfl) ?_; simp only [List.take_succ_cons, List.take_zero, List.drop_succ_cons, List.drop_zero]; (repeat (first | (apply SQ.read (by rfl); (focus (go_simp; try with_reducible rfl)); try simp only [Act.put, List.setIfInBounds_toArray, List.set_cons_zero, List.set_cons_succ]) | (apply SQ.skip (by rfl); try simp only [Act.put, List.setIfInBounds_toArray, List.set_cons_zero, List.set_cons_succ]))); refine SQ.nil ?_)
      clear cx w1 w2 w3 W1 W2 W3 cu
      have hI2 := hI1.out.limb hz (y := y + p) (by
        rw [← HY.out, ← HDD.out, ← HP.out, HPD.out])
      rw [← HQ.out] at hI2
      have bu2 := hI2.un
      have cu2 := bu2.cell; have fu2 := bu2.frozen
      rw [show I (y + p) = Value.int .i64 ((y : Int) + p) by simp [I]] at hI2 cu2 fu2
      have HI2 := Lib.hid hI2
      clear hI1 bu2 bu fu hI
      go_wp2
      gi_wp2
      have hf := (HI2.out.unit hz (u * 10)).drew
      rw [show I (u * 10) = Value.int .i64 ((u : Int) * 10) by simp [I]] at hf
      exact ⟨((KeepsOthers.setCell W _ _).trans ((KeepsOthers.setCell _ _ _).trans (KeepsOthers.drew _))).from _, u * 10, hf, fun h => HPN.out h, by omega⟩
  case done =>
    rintro D W hD ⟨u, hI, -, -⟩ hK
    have hr := hI.row
    have hrl := read_limbs (p := 9) (by omega) x.natAbs m (by rw [← HLL.out]; exact hm9')
    rw [← HLL.out] at hrl
    obtain ⟨L, hL⟩ : ∃ L, L = readTo 9 (digL l) m l.length := ⟨_, rfl⟩
    rw [← hL] at hr hrl
    have hrl9 : trimL L = limbs B9 x.natAbs := hrl
    have hLl : L.length = m := by rw [hL]; exact (readTo_spec (p := 9) (by omega) (digL_small hdl) (m := m) (by rw [digL_len]; exact hm9') l.length (by rw [digL_len]; omega)).1
    have hsl := hr.sl
    rw [hLl] at hsl
    have htr := trim_sl (some ⟨w.heap.size + 1, 0, none⟩) m m L W hsl (by omega)
    rw [hrl9] at htr
    have HTR := Lib.hid htr; clear htr
    have hst := hsl.trim_at hLl
    rw [hrl9] at hst
    have HSL := Lib.hid hst; clear hst hsl hr hrl hrl9 hLl hL
    have HI := Lib.hid hI
    have cx : W.cell? ⟨z, 1, none⟩ = some (.slice (some ⟨w.heap.size + 1, 0, none⟩) m m) := by simp [World.cell?, hI.st]
    have fx : W.frozen? ⟨z, 1, none⟩ = false := by simp [World.frozen?, hI.st]
    have cx0 : W.cell? ⟨z, 0, none⟩ = some (.bool b) := by simp [World.cell?, hI.st]
    have cr0 : W.cell? ⟨w.heap.size, 0, none⟩ = some (.bool false) := by simp [World.cell?, hI.res]
    have cr1 : W.cell? ⟨w.heap.size, 1, none⟩ = some (.slice none 0 0) := by simp [World.cell?, hI.res]
    have fr0 : W.frozen? ⟨w.heap.size, 0, none⟩ = false := by simp [World.frozen?, hI.res]
    have fr1 : W.frozen? ⟨w.heap.size, 1, none⟩ = false := by simp [World.frozen?, hI.res]
    have hne : w.heap.size ≠ z := by omega
    have hne2 : z ≠ w.heap.size := by omega
    clear hI
    have HK := Lib.hid hK; clear hK
    gi_wp2_with (refine ⟨trivial, ?_⟩; gi_at_call 102; refine (callsIn_wide.2 HTR.out).mono ?_)
    rintro e w9 ⟨rfl, rfl⟩
    gi_wp2
    have hK3 := (((KeepsOthers.setCell W ⟨z, 1, none⟩ (.slice (some ⟨w.heap.size + 1, 0, none⟩) (limbs B9 x.natAbs).length m)).trans (KeepsOthers.setCell _ ⟨w.heap.size, 0, none⟩ (.bool b))).trans (KeepsOthers.setCell _ ⟨w.heap.size, 1, none⟩ (.slice (some ⟨w.heap.size + 1, 0, none⟩) (limbs B9 x.natAbs).length m))).same D _ HK.out rfl
    refine ⟨by simp, .inl ⟨_, _, rfl, run_takeDeferred hK3, ?_⟩⟩
    have d0 := (cell_ne W (b := w.heap.size) (b' := z) 0 1 (.slice (some ⟨w.heap.size + 1, 0, none⟩) (limbs B9 x.natAbs).length m) hne).trans cr0
    have d1 := (cell_ne W (b := w.heap.size) (b' := z) 1 1 (.slice (some ⟨w.heap.size + 1, 0, none⟩) (limbs B9 x.natAbs).length m) hne).trans cr1
    have e1 := (World.cell?_setCell_other _ _ _ (.bool b) (show (⟨w.heap.size, 0, none⟩ : Addr) ≠ ⟨w.heap.size, 1, none⟩ by simp)).trans d1
    have e0 := cell_eq (u := .bool b) d0
    have g0 := (kept_put hK3).cell ((World.cell?_setCell_other _ _ _ _ (show (⟨w.heap.size, 1, none⟩ : Addr) ≠ ⟨w.heap.size, 0, none⟩ by simp)).trans e0)
    have g1 := (kept_put hK3).cell (cell_eq (u := .slice (some ⟨w.heap.size + 1, 0, none⟩) (limbs B9 x.natAbs).length m) e1)
    have hs1 := HSL.out.set cx (fun x => by simp [I]) (.slice (some ⟨w.heap.size + 1, 0, none⟩) (limbs B9 x.natAbs).length m)
    have hs2 := hs1.set d0 (fun x => by simp [I]) (.bool b)
    have hs3 := hs2.set e1 (fun x => by simp [I]) (.slice (some ⟨w.heap.size + 1, 0, none⟩) (limbs B9 x.natAbs).length m)
    refine ⟨.agg #[.bool b, .slice (some ⟨w.heap.size + 1, 0, none⟩) (limbs B9 x.natAbs).length m], ?_, _, by rw [HBX.out], (kept_put hK3).sl hs3, below_put (((HI.out.below.setCell (p := ⟨z, 1, none⟩) (by show w.heap.size ≤ z; omega) _).setCell (p := ⟨w.heap.size, 0, none⟩) (by simp) _).setCell (p := ⟨w.heap.size, 1, none⟩) (by simp) _) (by have := hI0.below.size; omega) hK3⟩
    simp [results, Tryz.f59, go_sem, g0, g1]
end Go.Proofs.YtapfekcbbhhieaaGreatDoor
