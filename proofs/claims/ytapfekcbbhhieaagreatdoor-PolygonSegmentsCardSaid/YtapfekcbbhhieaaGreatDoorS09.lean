/-
  integer.write, result.
  integer.result, add.
-/
import Derived.Test.YtapfekcbbhhieaaGreatDoorS08
namespace Go.Proofs.YtapfekcbbhhieaaGreatDoor
open Go.RowKit Go.Shelf Lib Str Limb
attribute [local go_sem] Oper.semAt_some

theorem ownsRowF_kept {W W' : World} (h : CellsKept W W') {B : Nat} {e : TypeId} {v : Value} {n : Nat} {xs : List Value} (ho : W.ownsRowF B e 1 v n xs) : W'.ownsRowF B e 1 v n xs := by
  obtain ⟨h1, h2⟩ := ho
  refine ⟨h1, h2.imp id ?_⟩
  rintro ⟨g, cap, cur, fz, e1, e2, e3, e4⟩
  exact ⟨g, cap, cur, fz, e1, e2, h _ _ _ _ e3, e4⟩
theorem BuilderAtF.kept {W W' : World} (h : CellsKept W W') {T e : TypeId} {B b : Nat} {p : Value} {bs : List Value} (ho : BuilderAtF T e B b p bs W) : BuilderAtF T e B b p bs W' := by
  obtain ⟨h1, v, h2, h3, h4⟩ := ho
  exact ⟨h1, v, h _ _ _ _ h2, ownsRowF_kept h h3, h4⟩
theorem IsBuilderF.kept {W W' : World} (h : CellsKept W W') {T e : TypeId} {B b : Nat} {bs : List Value} (ho : IsBuilderF T e B b bs W) : IsBuilderF T e B b bs W' :=
  ho.imp (BuilderAtF.kept h) (BuilderAtF.kept h)
theorem builder_new (W : World) (B : Nat) (hB : B ≤ W.heap.size) : IsBuilderF 187 5 B W.heap.size (byteCells []) (W.alloc (.cells #[.pointer none, .slice none 0 0] 187)) :=
  .inl ⟨hB, .slice none 0 0, World.alloc_heap_new _ _, ⟨rfl, .inl ⟨rfl, rfl⟩⟩, by simp [Value.ownBlock]⟩
theorem builder_blk {W : World} {T e : TypeId} {B b : Nat} {bs : List Value} (h : IsBuilderF T e B b bs W) : ∃ cs, W.heap[b]? = some (.cells cs T (0, 0)) := by
  rcases h with ⟨_, v, h, _⟩ | ⟨_, v, h, _⟩ <;> exact ⟨_, h⟩
theorem keeps_others {W W' : World} {T e : TypeId} {B b : Nat} {bs : List Value} (h : IsBuilderF T e B b bs W) (hb : Below B W W') (hk : OthersKept e (some b) W W') (B' : Nat) : KeepsFrom B' W W' :=
  ⟨hb.size, fun k o _ hko ho => by
    refine hk k o hko (fun e => ?_) (fun c fz e => by subst e; cases ho)
    cases e
    obtain ⟨cs, hcs⟩ := builder_blk h
    rw [hcs] at hko; cases hko; cases ho⟩
theorem kept_blk {W W' : World} {T e t : TypeId} {B b k : Nat} {bs : List Value} {cs : Array Value} (h : IsBuilderF T e B b bs W) (hk : OthersKept e (some b) W W') (hb : W.heap[k]? = some (.cells cs t (0, 0))) (h1 : t ≠ T) (h2 : t ≠ e) : W'.heap[k]? = some (.cells cs t (0, 0)) := by
  refine hk k _ hb (fun e => ?_) (fun c fz e => by cases e; exact h2 rfl)
  cases e
  obtain ⟨cs', hcs⟩ := builder_blk h
  rw [hcs] at hb; cases hb; exact h1 rfl

/-- The world while a number is written. -/
structure WriI (w : World) (b1 b Bs : Nat) (m : Bool) (va : Value) (out : List UInt8) (W : World) : Prop where
  st : W.heap[b1]? = some (.cells #[.bool m, va] 95 (0, 0))
  bd : IsBuilderF 187 5 w.heap.size b (byteCells out) W
  bb : Boxed W Bs 93 va
  below : Below w.heap.size w W

section
variable {w W W' : World} {b1 b Bs : Nat} {m : Bool} {va : Value} {out out' : List UInt8}
theorem WriI.kept (h : WriI w b1 b Bs m va out W) (hk : CellsKept W W') (hb : Below w.heap.size W W') : WriI w b1 b Bs m va out W' :=
  ⟨hk _ _ _ _ h.st, IsBuilderF.kept hk h.bd, hk.boxed h.bb, h.below.trans hb⟩
theorem WriI.grow (h : WriI w b1 b Bs m va out W) (hb : Below W.heap.size W W') : WriI w b1 b Bs m va out W' := h.kept (cellsKept_below hb) (hb.mono h.below.size)
theorem WriI.more (h : WriI w b1 b Bs m va out W) (hd : IsBuilderF 187 5 w.heap.size b (byteCells out') W') (hb : Below w.heap.size W W') (hk : OthersKept 5 (some b) W W') : WriI w b1 b Bs m va out' W' :=
  ⟨kept_blk h.bd hk h.st (by decide) (by decide), hd, kept_blk h.bd hk h.bb (by decide) (by decide), h.below.trans hb⟩
end

theorem repeat48 : ∀ c, repeatL [48] c = List.replicate c 48
  | 0 => rfl
  | c + 1 => by rw [repeatL, repeat48 c]; rfl

/-- What has been written when k limbs have been. -/
def outTo (m : Bool) (l : List Nat) (k : Nat) : List UInt8 := (if m then [45] else []) ++ (if k = 0 then [] else decDigits (valL B9 (l.drop (l.length - k))))

theorem outTo_zero (m : Bool) (l : List Nat) : outTo m l 0 = (if m then [45] else []) := by simp [outTo]
theorem outTo_pos (m : Bool) (l : List Nat) {k : Nat} (h : k ≠ 0) : outTo m l k = (if m then [45] else []) ++ decDigits (valL B9 (l.drop (l.length - k))) := by simp [outTo, h]
theorem outTo_first (m : Bool) {l : List Nat} (h : 0 < l.length) : outTo m l 0 ++ decDigits (l[l.length - 1]?.getD 0) = outTo m l 1 := by
  rw [outTo_zero, outTo_pos m l (by omega), valL_drop_succ l (l.length - 1) B9 (by omega), List.drop_of_length_le (by omega)]
  simp [valL, show l.length - 1 < l.length by omega]
theorem outTo_next (m : Bool) {n k : Nat} (hk : k < (limbs B9 n).length) (h0 : k ≠ 0) :
    (outTo m (limbs B9 n) k ++ List.replicate (9 - (decDigits ((limbs B9 n)[(limbs B9 n).length - 1 - k]?.getD 0)).length) 48) ++ decDigits ((limbs B9 n)[(limbs B9 n).length - 1 - k]?.getD 0) = outTo m (limbs B9 n) (k + 1) := by
  have hs := limbs_small (B := B9) (by decide) n
  have hx := small_getD hs (by decide) ((limbs B9 n).length - 1 - k)
  have hpos := drop_last_pos (B := B9) (by decide) (n := n) (k := (limbs B9 n).length - k) (by omega)
  have hw := write_step (p := 9) hs ((limbs B9 n).length - 1 - k) (by omega) (by rw [show (limbs B9 n).length - 1 - k + 1 = (limbs B9 n).length - k by omega]; exact hpos)
  rw [outTo_pos m _ h0, outTo_pos m _ (by omega), show (limbs B9 n).length - (k + 1) = (limbs B9 n).length - 1 - k by omega]
  have hw' : decDigits (valL B9 ((limbs B9 n).drop ((limbs B9 n).length - 1 - k))) = decDigits (valL B9 ((limbs B9 n).drop ((limbs B9 n).length - k))) ++ padD 9 ((limbs B9 n)[(limbs B9 n).length - 1 - k]?.getD 0) := by
    rw [show (limbs B9 n).length - k = (limbs B9 n).length - 1 - k + 1 by omega]; exact hw
  rw [hw', padD_dec 9 _ (by omega) hx]
  simp [List.append_assoc]
theorem outTo_all (m : Bool) {n : Nat} (h : 0 < n) : outTo m (limbs B9 n) (limbs B9 n).length = itoa (if m then -(n : Int) else n) := by
  have hl : (limbs B9 n).length ≠ 0 := fun e => by have := (limbs_nil_iff (B := B9) (by decide) n).1 (List.length_eq_zero_iff.1 e); omega
  rw [outTo_pos m _ hl, Nat.sub_self, List.drop_zero, limbs_val (by decide)]
  cases m
  · simp [Str.itoa_nonneg]
  · simp [Str.itoa_neg n h]
theorem outTo_len (m : Bool) (n k : Nat) (h0 : 0 < n) : (outTo m (limbs B9 n) k).length ≤ 9 * (limbs B9 n).length + 1 := by
  have h3 : (if m then [45] else [] : List UInt8).length ≤ 1 := by cases m <;> simp
  by_cases hk : k = 0
  · subst hk; rw [outTo_zero]; omega
  · rw [outTo_pos m _ hk, List.length_append]
    by_cases hl : (limbs B9 n).length = 0
    · have := (limbs_nil_iff (B := B9) (by decide) n).1 (List.length_eq_zero_iff.1 hl)
      omega
    · have h1 := valL_lt (small_drop (limbs_small (B := B9) (by decide) n) ((limbs B9 n).length - k))
      have h2 : B9 ^ ((limbs B9 n).drop ((limbs B9 n).length - k)).length ≤ B9 ^ (limbs B9 n).length := Nat.pow_le_pow_right (by decide) (by simp)
      have h4 := (dec_len_le_iff (valL B9 ((limbs B9 n).drop ((limbs B9 n).length - k))) (9 * (limbs B9 n).length) (by omega)).2 (by rw [Nat.pow_mul]; exact Nat.lt_of_lt_of_le h1 h2)
      omega

set_option maxHeartbeats 400000 in
theorem write_zero (m : Bool) (va : Value) (w : World) (ha : Sl w va (([] : List Nat).map I)) :
    Calls Tryz.prog 103 #[.agg #[.bool m, va]] w fun e w' => e = .returned (St [48]) ∧ Below w.heap.size w w' := by
  obtain ⟨pa, ca, rfl, -⟩ := ha
  refine (callsIn_wide (n := 3)).1 ?_
  refine callsIn_of_wp_marks Tryz.func103 rfl trivial ?_ rfl
  simp only [Tryz.ntmps103, List.size_toArray, List.length_cons, List.length_nil, Nat.reduceAdd, Nat.reduceSub, Array.replicate_succ, Array.replicate_zero, List.push_toArray, List.append_toArray, List.nil_append, List.cons_append]
  gi_wp2
  exact ⟨.string ⟨#[48]⟩, by simp [results, Tryz.f103, go_sem], rfl, (Below.refl _ w).alloc (Nat.le_refl _) _⟩

set_option maxRecDepth 100000 in
set_option maxHeartbeats 1000000 in
theorem write_pos (m : Bool) (va : Value) (n : Nat) (z : Int) (hz : z = if m then -(n : Int) else n) (w : World) (hw : Wd w) (ha : Sl w va ((limbs B9 n).map I)) (h0 : 0 < n) (hlen : (limbs B9 n).length ≤ 1000) :
    Calls Tryz.prog 103 #[.agg #[.bool m, va]] w fun e w' => e = .returned (St (itoa z)) ∧ Below w.heap.size w w' := by
  have HZ := Lib.hid hz; clear hz
  obtain ⟨pa, ca, rfl, -⟩ := id ha
  simp only [List.length_map] at *
  have HA := Lib.hid ha; clear ha
  have hl0 : 0 < (limbs B9 n).length := Nat.pos_of_ne_zero fun e => by have := (limbs_nil_iff (B := B9) (by decide) n).1 (List.length_eq_zero_iff.1 e); omega
  obtain ⟨len, hL⟩ : ∃ k, k = (limbs B9 n).length := ⟨_, rfl⟩
  rw [← hL] at HA hl0 hlen ⊢
  have HL := Lib.hid hL; clear hL
  have HW := Lib.hid hw; clear hw
  have hne : ((len : Int) == 0) = false := by rw [beq_eq_false_iff_ne]; omega
  refine (callsIn_wide (n := 3)).1 ?_
  refine callsIn_of_wp_marks Tryz.func103 rfl trivial ?_ rfl
  simp only [Tryz.ntmps103, List.size_toArray, List.length_cons, List.length_nil, Nat.reduceAdd, Nat.reduceSub, Array.replicate_succ, Array.replicate_zero, List.push_toArray, List.append_toArray, List.nil_append, List.cons_append]
  cases m
  · gi_wp2_with (refine ⟨trivial, ?_⟩; gi_at_call 131; refine (callsIn_wide.2 (back_any _ _ _ _ _ rfl)).mono ?_; rintro e w' ⟨rfl, rfl⟩)
    have hI : WriI w w.heap.size (w.heap.size + 1) (w.heap.size + 1 + 1) false (.slice pa len ca) (outTo false (limbs B9 n) 0) (((w.alloc (.cells #[.bool false, .slice pa len ca] 95)).alloc (.cells #[.pointer none, .slice none 0 0] 187)).alloc (.cells #[.slice pa len ca] 93)) := by
      have h1 := builder_new (w.alloc (.cells #[.bool false, .slice pa len ca] 95)) w.heap.size (by simp)
      have h2 := Boxed.new ((w.alloc (.cells #[.bool false, .slice pa len ca] 95)).alloc (.cells #[.pointer none, .slice none 0 0] 187)) 93 (.slice pa len ca)
      simp only [World.size_alloc] at h1 h2
      refine ⟨?_, by rw [outTo_zero]; exact h1.alloc _, h2, (((Below.refl _ w).alloc (Nat.le_refl _) _).alloc (by simp) _).alloc (by simp; omega) _⟩
      exact (Below.heap_alloc _ _ _ (by simp only [World.size_alloc]; omega)).trans ((Below.heap_alloc _ _ _ (by simp only [World.size_alloc]; omega)).trans (World.alloc_heap_new w _))
    generalize (((w.alloc (.cells #[.bool false, .slice pa len ca] 95)).alloc (.cells #[.pointer none, .slice none 0 0] 187)).alloc (.cells #[.slice pa len ca] 93)) = W5 at *
    obtain ⟨Bs, hBs⟩ : ∃ Bs, Bs = w.heap.size + 1 + 1 := ⟨_, rfl⟩
    rw [← hBs] at hI ⊢
    clear hBs
    have hW5 := hI.below.size
    refine back_loop Bs len ca pa (fun i x => x = (((limbs B9 n)[i]?.getD 0 : Nat) : Int)) (RdSl Bs (.slice pa len ca) (limbs B9 n)) (by omega)
      (fun W h => by have := RdSl.read (l := limbs B9 n) (cap := ca) (p := pa) (by rw [← HL.out]; exact h); rw [← HL.out] at this; exact this) rfl rfl (B := w.heap.size) hI.below.size
      (fun k W => WriI w w.heap.size (w.heap.size + 1) Bs false (.slice pa len ca) (outTo false (limbs B9 n) k) W) (fun _ _ _ => False)
      (fun k W W' h hk hb => h.kept hk hb) (fun _ _ _ _ h _ _ => h) (fun k W h => ⟨h.bb.cell, HA.out.below h.below⟩) hI ?_ ?assignfalse ?bodyfalse ?donefalse ?stopfalse
    case stopfalse => exact fun _ _ _ _ _ h _ => h.elim
    case assignfalse =>
      intro lp j x W K hK
      gi_wp2
      exact hK
    case bodyfalse =>
      rintro lp k j x W hlp - hI hk hj hx
      have hxs := small_getD (limbs_small (B := B9) (by decide) n) (by decide) j
      obtain ⟨y, hy⟩ : ∃ y, y = (limbs B9 n)[j]?.getD 0 := ⟨_, rfl⟩
      rw [← hy] at hx hxs
      subst hx
      have hy9 : y < 1000000000 := hxs
      have HY := Lib.hid hy; clear hy hxs
      have hsi : (decDigits y).length ≤ 9 := (dec_len_le_iff y 9 (by omega)).2 hy9
      have hsi1 : 1 ≤ (decDigits y).length := by have := digs_pos (y : Int); unfold digs at this; simpa using this
      have hit := fun W hW => itoa_b (y : Int) (by omega) (by omega) W hW
      rw [Str.itoa_nonneg] at hit
      have HIT := Lib.hid hit; clear hit
      obtain ⟨s, hs⟩ : ∃ s : ByteArray, s = ⟨(decDigits y).toArray⟩ := ⟨_, rfl⟩
      have hsz : s.size = (decDigits y).length := by rw [hs]; show (decDigits y).toArray.size = _; simp
      rw [← hs] at HIT
      have HS := Lib.hid hs; clear hs
      have hs9 : s.size ≤ 9 := by omega
      have hs1 : 1 ≤ s.size := by omega
      have HSZ := Lib.hid hsz; clear hsz hsi hsi1
      have hol := outTo_len false n k h0
      rw [← HL.out] at hol
      have cs := hI.st
      have c1 : W.cell? ⟨w.heap.size, 1, none⟩ = some (.slice pa len ca) := by simp [World.cell?, cs]
      clear cs
      gi_wp2_with (refine ⟨trivial, ?_⟩; gi_at_call 19; refine (CallsIn.inRound lp (callsIn_wide.2 (HIT.out W (HW.out.below hI.below)))).mono ?_)
      rintro e W1 ⟨rfl, hb1⟩
      have hI1 := hI.grow hb1
      have kW1 := (keeps_of_below hb1).from W5.heap.size
      clear c1 hb1
      have cs := hI1.st
      have c1 : W1.cell? ⟨w.heap.size, 1, none⟩ = some (.slice pa len ca) := by simp [World.cell?, cs]
      clear cs
      have hws := fun bs W h1 h2 h3 => Tryz.WriteString_k w.heap.size (w.heap.size + 1) (byteCells bs) s W h1 h2 h3
      simp only [strCells_eq, ← byteCells_append] at hws
      rw [show s.data.toList = decDigits y by rw [HS.out]] at hws
      have HWS := Lib.hid hws; clear hws
      by_cases hk0 : k = 0
      · have hjl : ¬ (j : Int) < (len : Int) - 1 := by omega
        gi_wp2_with (refine ⟨trivial, ?_⟩; gi_at_call 143; refine (CallsIn.inRound lp (callsIn_wide.2 (HWS.out _ W1 hI1.bd (by rw [byteCells_length]; omega) hI1.below.size))).mono ?_)
        rintro e W2 ⟨rfl, hbd, hb2, hk2⟩
        have hI2 := hI1.more (.inr hbd) hb2 hk2
        have kW2 := kW1.trans (keeps_others hI1.bd hb2 hk2 W5.heap.size)
        clear hbd hb2 hk2 c1 kW1
        have HI2 := Lib.hid hI2; clear hI2
        have KW2 := Lib.hid kW2; clear kW2
        have HK0 := Lib.hid hk0; clear hk0 hI hI1
        have HJ := Lib.hid hj; clear hj
        gi_wp2
        refine ⟨KW2.out, ?_⟩
        have hf := HI2.out
        have e := outTo_first false (l := limbs B9 n) (by rw [← HL.out]; omega)
        rw [HY.out, HJ.out, HK0.out, HL.out, Nat.sub_zero, e, ← HL.out] at hf
        rw [HK0.out]; exact hf
      · have hjl : (j : Int) < (len : Int) - 1 := by omega
        obtain ⟨c, hc⟩ : ∃ c, c = 9 - s.size := ⟨_, rfl⟩
        have hci : (9 : Int) - s.size = (c : Int) := by omega
        have hrp := fun W => Tryz.strings_Repeat ⟨#[48]⟩ c W (by omega) (by show 1 * c ≤ _; omega)
        rw [show (⟨#[48]⟩ : ByteArray).data.toList = [48] from rfl, ← hci] at hrp
        obtain ⟨z, hz⟩ : ∃ z : ByteArray, z = ⟨(repeatL [48] c).toArray⟩ := ⟨_, rfl⟩
        rw [← hz] at hrp
        have HRP := Lib.hid hrp; clear hrp
        have hwz := fun bs W h1 h2 h3 => Tryz.WriteString_k w.heap.size (w.heap.size + 1) (byteCells bs) z W h1 h2 h3
        simp only [strCells_eq, ← byteCells_append] at hwz
        rw [show z.data.toList = List.replicate c 48 by rw [hz]; exact repeat48 c] at hwz
        have HWZ := Lib.hid hwz; clear hwz
        have hzs : z.size = c := by rw [hz]; show (repeatL [48] c).toArray.size = _; rw [repeat48]; simp
        have HZS := Lib.hid hzs; clear hzs hz
        have HC := Lib.hid hc; have HCI := Lib.hid hci
        have hc9 : c ≤ 9 := by omega
        clear hc hci
        gi_wp2_with (refine ⟨trivial, ?_⟩; gi_at_call 144; refine (CallsIn.inRound lp (callsIn_wide.2 (HRP.out W1))).mono ?_)
        rintro e W2 ⟨rfl, hb2⟩
        have hI2 := hI1.grow hb2
        have kW2 := kW1.trans ((keeps_of_below hb2).from W5.heap.size)
        clear hb2 c1 kW1 hI1 hI
        gi_wp2_with (refine ⟨trivial, ?_⟩; gi_at_call 143; refine (CallsIn.inRound lp (callsIn_wide.2 (HWZ.out _ W2 hI2.bd (by rw [byteCells_length, HZS.out]; omega) hI2.below.size))).mono ?_)
        rintro e W3 ⟨rfl, hbd, hb3, hk3⟩
        have hI3 := hI2.more (.inr hbd) hb3 hk3
        have kW3 := kW2.trans (keeps_others hI2.bd hb3 hk3 W5.heap.size)
        clear hbd hb3 hk3 kW2 hI2
        gi_wp2_with (refine ⟨trivial, ?_⟩; gi_at_call 143; refine (CallsIn.inRound lp (callsIn_wide.2 (HWS.out _ W3 hI3.bd (by rw [byteCells_length, List.length_append, List.length_replicate]; omega) hI3.below.size))).mono ?_)
        rintro e W4 ⟨rfl, hbd, hb4, hk4⟩
        have hI4 := hI3.more (.inr hbd) hb4 hk4
        have kW4 := kW3.trans (keeps_others hI3.bd hb4 hk4 W5.heap.size)
        clear hbd hb4 hk4 kW3 hI3
        have HI4 := Lib.hid hI4; clear hI4
        have KW4 := Lib.hid kW4; clear kW4
        have HK0 := Lib.hid hk0; clear hk0
        have HJ := Lib.hid hj; clear hj
        gi_wp2
        refine ⟨KW4.out, ?_⟩
        have hf := HI4.out
        have e := outTo_next false (n := n) (k := k) (by rw [← HL.out]; exact hk) HK0.out
        rw [HC.out, HSZ.out, HY.out, HJ.out, HL.out, e, ← HL.out] at hf
        exact hf
    case donefalse =>
      rintro D W hD hI hK
      have hout := outTo_all false h0
      have hz := HZ.out
      simp at hz
      simp at hout
      rw [← HL.out, ← hz] at hout
      clear hz
      have hd := hI.bd
      have hst := Tryz.String_k w.heap.size (w.heap.size + 1) (outTo false (limbs B9 n) len) W hd hI.below.size
      rw [hout] at hst
      have HST := Lib.hid hst; clear hst hout
      have HI := Lib.hid hI
      have HK := Lib.hid hK; clear hK
      clear hd hI
      gi_wp2_with (refine ⟨trivial, ?_⟩; gi_at_call 145; refine (callsIn_wide.2 HST.out).mono ?_)
      rintro e W9 ⟨rfl, hx9, hb9, hk9⟩
      clear hx9
      have hK9 := (keeps_others HI.out.bd hb9 hk9 0).same D _ (Nat.zero_le _) HK.out rfl
      have HK9 := Lib.hid hK9; clear hK9
      have HB9 := Lib.hid (HI.out.below.trans hb9); clear hb9 hk9
      gi_wp2
      refine ⟨by simp, .inl ⟨_, _, rfl, run_takeDeferred HK9.out, ?_⟩⟩
      exact ⟨_, by simp [results, Tryz.f103, go_sem], rfl, below_put HB9.out (by have := Below.size HI.out.below; omega) HK9.out⟩
  · have hwb := fun W h1 h2 => Tryz.WriteByte_k w.heap.size (w.heap.size + 1) (byteCells []) 45 W h1 (by simp [byteCells]) h2
    have HWB := Lib.hid hwb; clear hwb
    have h1 := builder_new (w.alloc (.cells #[.bool true, .slice pa len ca] 95)) w.heap.size (by simp)
    simp only [World.size_alloc] at h1
    gi_wp2_with (refine ⟨trivial, ?_⟩; gi_at_call 142; refine (callsIn_wide.2 (HWB.out _ h1 (by simp only [World.size_alloc]; omega))).mono ?_)
    rintro e w1 rfl hbd hb1 hk1
    have hS : w1.heap[w.heap.size]? = some (.cells #[.bool true, .slice pa len ca] 95 (0, 0)) := kept_blk h1 hk1 ((Below.heap_alloc _ _ _ (by simp)).trans (World.alloc_heap_new w _)) (by decide) (by decide)
    have hB1 : Below w.heap.size w w1 := (((Below.refl _ w).alloc (Nat.le_refl _) _).alloc (by simp) _).trans hb1
    have cs1 : w1.cell? ⟨w.heap.size, 1, none⟩ = some (.slice pa len ca) := by simp [World.cell?, hS]
    clear h1 hk1 hb1
    gi_wp2_with (refine ⟨trivial, ?_⟩; gi_at_call 131; refine (callsIn_wide.2 (back_any _ _ _ _ _ rfl)).mono ?_; rintro e w' ⟨rfl, rfl⟩)
    have hI : WriI w w.heap.size (w.heap.size + 1) w1.heap.size true (.slice pa len ca) (outTo true (limbs B9 n) 0) (w1.alloc (.cells #[.slice pa len ca] 93)) :=
      ⟨(Below.heap_alloc _ _ _ (Array.getElem?_eq_some_iff.1 hS).1).trans hS, by rw [outTo_zero]; exact IsBuilderF.alloc (.inr hbd) _, Boxed.new w1 _ _, hB1.alloc hB1.size _⟩
    clear hS cs1 hB1 hbd
    generalize w1.alloc (.cells #[.slice pa len ca] 93) = W5 at *
    generalize w1.heap.size = Bs at *
    have hW5 := hI.below.size
    refine back_loop Bs len ca pa (fun i x => x = (((limbs B9 n)[i]?.getD 0 : Nat) : Int)) (RdSl Bs (.slice pa len ca) (limbs B9 n)) (by omega)
      (fun W h => by have := RdSl.read (l := limbs B9 n) (cap := ca) (p := pa) (by rw [← HL.out]; exact h); rw [← HL.out] at this; exact this) rfl rfl (B := w.heap.size) hI.below.size
      (fun k W => WriI w w.heap.size (w.heap.size + 1) Bs true (.slice pa len ca) (outTo true (limbs B9 n) k) W) (fun _ _ _ => False)
      (fun k W W' h hk hb => h.kept hk hb) (fun _ _ _ _ h _ _ => h) (fun k W h => ⟨h.bb.cell, HA.out.below h.below⟩) hI ?_ ?assigntrue ?bodytrue ?donetrue ?stoptrue
    case stoptrue => exact fun _ _ _ _ _ h _ => h.elim
    case assigntrue =>
      intro lp j x W K hK
      gi_wp2
      exact hK
    case bodytrue =>
      rintro lp k j x W hlp - hI hk hj hx
      have hxs := small_getD (limbs_small (B := B9) (by decide) n) (by decide) j
      obtain ⟨y, hy⟩ : ∃ y, y = (limbs B9 n)[j]?.getD 0 := ⟨_, rfl⟩
      rw [← hy] at hx hxs
      subst hx
      have hy9 : y < 1000000000 := hxs
      have HY := Lib.hid hy; clear hy hxs
      have hsi : (decDigits y).length ≤ 9 := (dec_len_le_iff y 9 (by omega)).2 hy9
      have hsi1 : 1 ≤ (decDigits y).length := by have := digs_pos (y : Int); unfold digs at this; simpa using this
      have hit := fun W hW => itoa_b (y : Int) (by omega) (by omega) W hW
      rw [Str.itoa_nonneg] at hit
      have HIT := Lib.hid hit; clear hit
      obtain ⟨s, hs⟩ : ∃ s : ByteArray, s = ⟨(decDigits y).toArray⟩ := ⟨_, rfl⟩
      have hsz : s.size = (decDigits y).length := by rw [hs]; show (decDigits y).toArray.size = _; simp
      rw [← hs] at HIT
      have HS := Lib.hid hs; clear hs
      have hs9 : s.size ≤ 9 := by omega
      have hs1 : 1 ≤ s.size := by omega
      have HSZ := Lib.hid hsz; clear hsz hsi hsi1
      have hol := outTo_len true n k h0
      rw [← HL.out] at hol
      have cs := hI.st
      have c1 : W.cell? ⟨w.heap.size, 1, none⟩ = some (.slice pa len ca) := by simp [World.cell?, cs]
      clear cs
      gi_wp2_with (refine ⟨trivial, ?_⟩; gi_at_call 19; refine (CallsIn.inRound lp (callsIn_wide.2 (HIT.out W (HW.out.below hI.below)))).mono ?_)
      rintro e W1 ⟨rfl, hb1⟩
      have hI1 := hI.grow hb1
      have kW1 := (keeps_of_below hb1).from W5.heap.size
      clear c1 hb1
      have cs := hI1.st
      have c1 : W1.cell? ⟨w.heap.size, 1, none⟩ = some (.slice pa len ca) := by simp [World.cell?, cs]
      clear cs
      have hws := fun bs W h1 h2 h3 => Tryz.WriteString_k w.heap.size (w.heap.size + 1) (byteCells bs) s W h1 h2 h3
      simp only [strCells_eq, ← byteCells_append] at hws
      rw [show s.data.toList = decDigits y by rw [HS.out]] at hws
      have HWS := Lib.hid hws; clear hws
      by_cases hk0 : k = 0
      · have hjl : ¬ (j : Int) < (len : Int) - 1 := by omega
        gi_wp2_with (refine ⟨trivial, ?_⟩; gi_at_call 143; refine (CallsIn.inRound lp (callsIn_wide.2 (HWS.out _ W1 hI1.bd (by rw [byteCells_length]; omega) hI1.below.size))).mono ?_)
        rintro e W2 ⟨rfl, hbd, hb2, hk2⟩
        have hI2 := hI1.more (.inr hbd) hb2 hk2
        have kW2 := kW1.trans (keeps_others hI1.bd hb2 hk2 W5.heap.size)
        clear hbd hb2 hk2 c1 kW1
        have HI2 := Lib.hid hI2; clear hI2
        have KW2 := Lib.hid kW2; clear kW2
        have HK0 := Lib.hid hk0; clear hk0 hI hI1
        have HJ := Lib.hid hj; clear hj
        gi_wp2
        refine ⟨KW2.out, ?_⟩
        have hf := HI2.out
        have e := outTo_first true (l := limbs B9 n) (by rw [← HL.out]; omega)
        rw [HY.out, HJ.out, HK0.out, HL.out, Nat.sub_zero, e, ← HL.out] at hf
        rw [HK0.out]; exact hf
      · have hjl : (j : Int) < (len : Int) - 1 := by omega
        obtain ⟨c, hc⟩ : ∃ c, c = 9 - s.size := ⟨_, rfl⟩
        have hci : (9 : Int) - s.size = (c : Int) := by omega
        have hrp := fun W => Tryz.strings_Repeat ⟨#[48]⟩ c W (by omega) (by show 1 * c ≤ _; omega)
        rw [show (⟨#[48]⟩ : ByteArray).data.toList = [48] from rfl, ← hci] at hrp
        obtain ⟨z, hz⟩ : ∃ z : ByteArray, z = ⟨(repeatL [48] c).toArray⟩ := ⟨_, rfl⟩
        rw [← hz] at hrp
        have HRP := Lib.hid hrp; clear hrp
        have hwz := fun bs W h1 h2 h3 => Tryz.WriteString_k w.heap.size (w.heap.size + 1) (byteCells bs) z W h1 h2 h3
        simp only [strCells_eq, ← byteCells_append] at hwz
        rw [show z.data.toList = List.replicate c 48 by rw [hz]; exact repeat48 c] at hwz
        have HWZ := Lib.hid hwz; clear hwz
        have hzs : z.size = c := by rw [hz]; show (repeatL [48] c).toArray.size = _; rw [repeat48]; simp
        have HZS := Lib.hid hzs; clear hzs hz
        have HC := Lib.hid hc; have HCI := Lib.hid hci
        have hc9 : c ≤ 9 := by omega
        clear hc hci
        gi_wp2_with (refine ⟨trivial, ?_⟩; gi_at_call 144; refine (CallsIn.inRound lp (callsIn_wide.2 (HRP.out W1))).mono ?_)
        rintro e W2 ⟨rfl, hb2⟩
        have hI2 := hI1.grow hb2
        have kW2 := kW1.trans ((keeps_of_below hb2).from W5.heap.size)
        clear hb2 c1 kW1 hI1 hI
        gi_wp2_with (refine ⟨trivial, ?_⟩; gi_at_call 143; refine (CallsIn.inRound lp (callsIn_wide.2 (HWZ.out _ W2 hI2.bd (by rw [byteCells_length, HZS.out]; omega) hI2.below.size))).mono ?_)
        rintro e W3 ⟨rfl, hbd, hb3, hk3⟩
        have hI3 := hI2.more (.inr hbd) hb3 hk3
        have kW3 := kW2.trans (keeps_others hI2.bd hb3 hk3 W5.heap.size)
        clear hbd hb3 hk3 kW2 hI2
        gi_wp2_with (refine ⟨trivial, ?_⟩; gi_at_call 143; refine (CallsIn.inRound lp (callsIn_wide.2 (HWS.out _ W3 hI3.bd (by rw [byteCells_length, List.length_append, List.length_replicate]; omega) hI3.below.size))).mono ?_)
        rintro e W4 ⟨rfl, hbd, hb4, hk4⟩
        have hI4 := hI3.more (.inr hbd) hb4 hk4
        have kW4 := kW3.trans (keeps_others hI3.bd hb4 hk4 W5.heap.size)
        clear hbd hb4 hk4 kW3 hI3
        have HI4 := Lib.hid hI4; clear hI4
        have KW4 := Lib.hid kW4; clear kW4
        have HK0 := Lib.hid hk0; clear hk0
        have HJ := Lib.hid hj; clear hj
        gi_wp2
        refine ⟨KW4.out, ?_⟩
        have hf := HI4.out
        have e := outTo_next true (n := n) (k := k) (by rw [← HL.out]; exact hk) HK0.out
        rw [HC.out, HSZ.out, HY.out, HJ.out, HL.out, e, ← HL.out] at hf
        exact hf
    case donetrue =>
      rintro D W hD hI hK
      have hout := outTo_all true h0
      have hz := HZ.out
      simp at hz
      simp at hout
      rw [← HL.out, ← hz] at hout
      clear hz
      have hd := hI.bd
      have hst := Tryz.String_k w.heap.size (w.heap.size + 1) (outTo true (limbs B9 n) len) W hd hI.below.size
      rw [hout] at hst
      have HST := Lib.hid hst; clear hst hout
      have HI := Lib.hid hI
      have HK := Lib.hid hK; clear hK
      clear hd hI
      gi_wp2_with (refine ⟨trivial, ?_⟩; gi_at_call 145; refine (callsIn_wide.2 HST.out).mono ?_)
      rintro e W9 ⟨rfl, hx9, hb9, hk9⟩
      clear hx9
      have hK9 := (keeps_others HI.out.bd hb9 hk9 0).same D _ (Nat.zero_le _) HK.out rfl
      have HK9 := Lib.hid hK9; clear hK9
      have HB9 := Lib.hid (HI.out.below.trans hb9); clear hb9 hk9
      gi_wp2
      refine ⟨by simp, .inl ⟨_, _, rfl, run_takeDeferred HK9.out, ?_⟩⟩
      exact ⟨_, by simp [results, Tryz.f103, go_sem], rfl, below_put HB9.out (by have := Below.size HI.out.below; omega) HK9.out⟩

/-- integer.write. -/
theorem write_any (m : Bool) (va : Value) (n : Nat) (w : World) (hw : Wd w) (ha : Sl w va ((limbs B9 n).map I)) (hlen : (limbs B9 n).length ≤ 1000) :
    Calls Tryz.prog 103 #[.agg #[.bool m, va]] w fun e w' => e = .returned (St (itoa (if m then -(n : Int) else n))) ∧ Below w.heap.size w w' := by
  rcases Nat.eq_zero_or_pos n with rfl | h
  · rw [limbs_zero] at ha
    refine (write_zero m va w ha).mono ?_
    rintro e w' ⟨rfl, h⟩
    exact ⟨by cases m <;> simp [itoa_zero], h⟩
  · exact write_pos m va n _ rfl w hw ha h hlen
end Go.Proofs.YtapfekcbbhhieaaGreatDoor

namespace Go.Proofs.YtapfekcbbhhieaaGreatDoor
open Go.RowKit Go.Shelf Lib Str Limb
attribute [local go_sem] Oper.semAt_some

/-- A number with its sign. -/
def sgn (m : Bool) (n : Nat) : Int := if m then -(n : Int) else n
theorem sgn_false (n : Nat) : sgn false n = n := by simp [sgn]
theorem sgn_true (n : Nat) : sgn true n = -(n : Int) := by simp [sgn]
theorem sgn_abs (m : Bool) (n : Nat) : (sgn m n).natAbs = n := by cases m <;> simp [sgn]
theorem sgn_self (x : Int) : sgn (decide (x < 0)) x.natAbs = x := by
  unfold sgn
  by_cases h : x < 0
  · simp [h]; omega
  · simp [h]; omega
theorem sgn_not (x : Int) : sgn (!decide (x < 0)) x.natAbs = -x := by
  unfold sgn
  by_cases h : x < 0
  · simp [h]; omega
  · simp [h]; omega

theorem limbs_digs {n k : Nat} (hk : 0 < k) (h : (decDigits n).length ≤ 9 * k) : (limbs B9 n).length ≤ k := by
  refine limbs_len_le (by decide) ?_
  rw [show B9 = 10 ^ 9 from rfl, ← Nat.pow_mul]
  exact (dec_len_le_iff n (9 * k) (by omega)).1 h

/-- What an operation on numerals answers: the numeral, or nothing if it is too long; and the error. -/
def resL (z : Int) : List UInt8 := if digs z ≤ 300 then itoa z else []
def resE (z : Int) : Int := if digs z ≤ 300 then 0 else 4
theorem resL_ok {z : Int} (h : digs z ≤ 300) : resL z = itoa z := if_pos h
theorem resE_ok {z : Int} (h : digs z ≤ 300) : resE z = 0 := if_pos h
theorem digs_add {x y : Int} {k : Nat} (hk : 0 < k) (hx : digs x ≤ k) (hy : digs y ≤ k) : digs (x + y) ≤ k + 1 := by
  rw [digs_le_iff _ _ (by omega), Nat.pow_succ]
  rw [digs_le_iff _ _ hk] at hx hy
  have := Int.natAbs_add_le x y
  omega
theorem digs_neg (x : Int) : digs (-x) = digs x := by unfold digs; rw [Int.natAbs_neg]
theorem digs_mul {x y : Int} {i j : Nat} (hi : 0 < i) (hj : 0 < j) (hx : digs x ≤ i) (hy : digs y ≤ j) : digs (x * y) ≤ i + j := by
  rw [digs_le_iff _ _ (by omega), Int.natAbs_mul, Nat.pow_add]
  rw [digs_le_iff _ _ hi] at hx
  rw [digs_le_iff _ _ hj] at hy
  exact Nat.mul_lt_mul'' hx hy
theorem abs_limbs {z : Int} {k : Nat} (hk : 0 < k) (h : digs z ≤ 9 * k) : (limbs B9 z.natAbs).length ≤ k := limbs_digs hk h

set_option maxHeartbeats 400000 in
theorem result_ok (m : Bool) (va : Value) (n : Nat) (w : World) (hw : Wd w) (ha : Sl w va ((limbs B9 n).map I)) (hlen : (limbs B9 n).length ≤ 1000) (h : digs (sgn m n) ≤ 300) :
    Calls Tryz.prog 60 #[.agg #[.bool m, va]] w fun e w' => e = .returned (.tuple #[St (itoa (sgn m n)), .int .i64 0]) ∧ Below w.heap.size w w' := by
  obtain ⟨pa, ca, rfl, -⟩ := id ha
  simp only [List.length_map] at *
  have hwr := fun W h1 h2 => write_any m (.slice pa (limbs B9 n).length ca) n W h1 h2 hlen
  have htp := fun W => Tryz.strings_TrimPrefix ⟨(itoa (sgn m n)).toArray⟩ ⟨#[45]⟩ W
  rw [show (⟨(itoa (sgn m n)).toArray⟩ : ByteArray).data.toList = itoa (sgn m n) from rfl, show (⟨#[45]⟩ : ByteArray).data.toList = [45] from rfl, trimPrefix_itoa] at htp
  obtain ⟨s, hs⟩ : ∃ s : ByteArray, s = ⟨(decDigits (sgn m n).natAbs).toArray⟩ := ⟨_, rfl⟩
  have hsz : s.size = digs (sgn m n) := by rw [hs]; show (decDigits (sgn m n).natAbs).toArray.size = _; simp [digs]
  rw [← hs] at htp
  change ∀ W, _ → _ → Calls _ _ _ _ (fun e w' => e = .returned (St (itoa (sgn m n))) ∧ _) at hwr
  generalize sgn m n = z at *
  have hsb : ¬ (300 < (s.size : Int)) := by omega
  have hsb2 : (s.size : Int) ≤ 300 := by omega
  have HWR := Lib.hid hwr; clear hwr
  have HTP := Lib.hid htp; clear htp
  have HA := Lib.hid ha; clear ha
  have HW := Lib.hid hw; clear hw hs hsz h
  generalize (limbs B9 n).length = len at *
  go_enter Tryz.func60, Tryz.ntmps60
  go_wp2_with fail
  have hb0 : Below w.heap.size w (w.alloc (.cells #[.bool m, .slice pa len ca] 95)) := (Below.refl _ w).alloc (Nat.le_refl _) _
  refine (HWR.out _ (HW.out.below hb0) (HA.out.below hb0)).mono ?_
  rintro e w1 ⟨rfl, hb1⟩
  have hB := hb0.trans (hb1.mono (by simp))
  clear hb0 hb1
  go_wp2_with fail
  refine (HTP.out w1).mono ?_
  rintro e w2 ⟨rfl, rfl⟩
  go_wp2_with fail
  go_ret2
  exact ⟨rfl, hB⟩
set_option maxHeartbeats 400000 in
theorem result_long (m : Bool) (va : Value) (n : Nat) (w : World) (hw : Wd w) (ha : Sl w va ((limbs B9 n).map I)) (hlen : (limbs B9 n).length ≤ 1000) (h : 300 < digs (sgn m n)) :
    Calls Tryz.prog 60 #[.agg #[.bool m, va]] w fun e w' => e = .returned (.tuple #[St [], .int .i64 4]) ∧ Below w.heap.size w w' := by
  obtain ⟨pa, ca, rfl, -⟩ := id ha
  simp only [List.length_map] at *
  have hwr := fun W h1 h2 => write_any m (.slice pa (limbs B9 n).length ca) n W h1 h2 hlen
  have htp := fun W => Tryz.strings_TrimPrefix ⟨(itoa (sgn m n)).toArray⟩ ⟨#[45]⟩ W
  rw [show (⟨(itoa (sgn m n)).toArray⟩ : ByteArray).data.toList = itoa (sgn m n) from rfl, show (⟨#[45]⟩ : ByteArray).data.toList = [45] from rfl, trimPrefix_itoa] at htp
  obtain ⟨s, hs⟩ : ∃ s : ByteArray, s = ⟨(decDigits (sgn m n).natAbs).toArray⟩ := ⟨_, rfl⟩
  have hsz : s.size = digs (sgn m n) := by rw [hs]; show (decDigits (sgn m n).natAbs).toArray.size = _; simp [digs]
  rw [← hs] at htp
  change ∀ W, _ → _ → Calls _ _ _ _ (fun e w' => e = .returned (St (itoa (sgn m n))) ∧ _) at hwr
  generalize sgn m n = z at *
  have hsb : (300 < (s.size : Int)) := by omega
  have HWR := Lib.hid hwr; clear hwr
  have HTP := Lib.hid htp; clear htp
  have HA := Lib.hid ha; clear ha
  have HW := Lib.hid hw; clear hw hs hsz h
  generalize (limbs B9 n).length = len at *
  go_enter Tryz.func60, Tryz.ntmps60
  go_wp2_with fail
  have hb0 : Below w.heap.size w (w.alloc (.cells #[.bool m, .slice pa len ca] 95)) := (Below.refl _ w).alloc (Nat.le_refl _) _
  refine (HWR.out _ (HW.out.below hb0) (HA.out.below hb0)).mono ?_
  rintro e w1 ⟨rfl, hb1⟩
  have hB := hb0.trans (hb1.mono (by simp))
  clear hb0 hb1
  go_wp2_with fail
  refine (HTP.out w1).mono ?_
  rintro e w2 ⟨rfl, rfl⟩
  go_wp2_with fail
  go_ret2
  exact ⟨rfl, hB⟩
/-- integer.result. -/
theorem result_any (m : Bool) (va : Value) (n : Nat) (w : World) (hw : Wd w) (ha : Sl w va ((limbs B9 n).map I)) (hlen : (limbs B9 n).length ≤ 1000) :
    Calls Tryz.prog 60 #[.agg #[.bool m, va]] w fun e w' => e = .returned (.tuple #[St (resL (sgn m n)), .int .i64 (resE (sgn m n))]) ∧ Below w.heap.size w w' := by
  unfold resL resE
  by_cases h : digs (sgn m n) ≤ 300
  · rw [if_pos h, if_pos h]; exact result_ok m va n w hw ha hlen h
  · rw [if_neg h, if_neg h]; exact result_long m va n w hw ha hlen (by omega)
end Go.Proofs.YtapfekcbbhhieaaGreatDoor
