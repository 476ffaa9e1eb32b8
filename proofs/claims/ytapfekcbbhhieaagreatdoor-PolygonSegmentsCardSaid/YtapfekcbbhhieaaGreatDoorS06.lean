/-
  integer.restore, integer.take, integer.estimate.
  integer.estimate.
  A loop over an iterator that yields its elements in an order that is known: the law, the element's number in hand.
-/
import Derived.Test.YtapfekcbbhhieaaGreatDoorS05
import Derived.Test.YtapfekcbbhhieaaGreatDoorS03
namespace Go.Proofs.YtapfekcbbhhieaaGreatDoor
open Go.RowKit Lib Str Limb

/-- Of what was there, the block g alone may have turned. -/
structure Only (g : Nat) (a w : World) : Prop where
  os : w.os = a.os
  tape : w.tape = a.tape
  output : w.output = a.output
  size : a.heap.size ≤ w.heap.size
  block : ∀ k, k < a.heap.size → k ≠ g → w.heap[k]? = a.heap[k]?

theorem Only.refl (g : Nat) (w : World) : Only g w w := ⟨rfl, rfl, rfl, Nat.le_refl _, fun _ _ _ => rfl⟩
theorem Only.trans {g : Nat} {a b c : World} (h : Only g a b) (k : Only g b c) : Only g a c :=
  ⟨k.os.trans h.os, k.tape.trans h.tape, k.output.trans h.output, Nat.le_trans h.size k.size, fun i hi hne => (k.block i (Nat.lt_of_lt_of_le hi h.size) hne).trans (h.block i hi hne)⟩
theorem Only.drewN {g : Nat} {a w : World} (h : Only g a w) (n : Nat) : Only g a (w.drewN n) := ⟨h.os, h.tape, h.output, h.size, h.block⟩
theorem Only.drew {g : Nat} {a w : World} (h : Only g a w) : Only g a w.drew := ⟨h.os, h.tape, h.output, h.size, h.block⟩
theorem Only.setCell {g o : Nat} {a w : World} (h : Only g a w) (u : Value) : Only g a (w.setCell ⟨g, o, none⟩ u) :=
  h.trans ⟨rfl, rfl, rfl, by simp [World.setCell], fun k _ hne => Below.heap_setCell _ _ _ _ hne⟩
theorem Only.below {g B : Nat} {a b w : World} (h : Below B a b) (hB : B ≤ a.heap.size) (hg : B ≤ g) (k : Only g b w) : Below B a w :=
  ⟨k.os.trans h.os, k.tape.trans h.tape, k.output.trans h.output, Nat.le_trans h.size k.size, fun i hi => (k.block i (by have := h.size; omega) (by omega)).trans (h.block i hi)⟩
theorem Only.row {g g' cap : Nat} {a w : World} {l : List Nat} (h : Only g a w) (hr : Row a g' cap l) (hne : g' ≠ g) : Row w g' cap l := by
  obtain ⟨cur, h1, h2⟩ := hr
  exact ⟨cur, (h.block g' (Array.getElem?_eq_some_iff.1 h1).1 hne).trans h1, h2⟩

theorem take_neg (z c q y : Nat) (n : Int) (hn : n = (z : Int) - c - (q : Int) * y) (h : n < 0) :
    (-n + 1000000000 - 1) / 1000000000 = (((c + q * y - z + (B9 - 1)) / B9 : Nat) : Int) ∧ Value.int .i64 (n + (-n + 1000000000 - 1) / 1000000000 * 1000000000) = I (z + (c + q * y - z + (B9 - 1)) / B9 * B9 - (c + q * y)) := by
  rw [← Int.natCast_mul] at hn
  generalize q * y = P at *
  have e : (-n + 1000000000 - 1) / 1000000000 = (((c + P - z + (B9 - 1)) / B9 : Nat) : Int) := by
    unfold B9; omega
  refine ⟨e, ?_⟩
  rw [e]
  unfold I B9
  congr 1
  omega

theorem take_pos (z c q y : Nat) (n : Int) (hn : n = (z : Int) - c - (q : Int) * y) (h : ¬ n < 0) :
    (c + q * y - z + (B9 - 1)) / B9 = 0 ∧ Value.int .i64 n = I (z + (c + q * y - z + (B9 - 1)) / B9 * B9 - (c + q * y)) := by
  rw [← Int.natCast_mul] at hn
  generalize q * y = P at *
  have e : (c + P - z + (B9 - 1)) / B9 = 0 := by
    unfold B9; omega
  refine ⟨e, ?_⟩
  rw [e]
  unfold I
  congr 1
  omega

set_option maxRecDepth 100000 in
set_option maxHeartbeats 2000000 in
/-- integer.restore. -/
theorem restore_any (g cap : Nat) (u v : List Nat) (vb : Value) (j q : Nat) (w : World) (hrow : Row w g cap u) (hvb : ∀ W, Only g w W → Sl W vb (v.map I)) (su : small B9 u) (sv : small B9 v)
    (hj : j + v.length + 1 ≤ u.length) (lu : u.length ≤ 2500) (lv : v.length ≤ 1000) (hq : q ≤ 2 * B9) :
    Calls Tryz.prog 134 #[.slice (some ⟨g, 0, none⟩) u.length cap, vb, I j, I q] w fun e w' => e = .returned (.slice (some ⟨g, 0, none⟩) u.length cap) ∧ Row w' g cap (rowTo B9 q v j u (v.length + 1)).1 ∧ Only g w w' := by
  obtain ⟨pb, cb, rfl, hcb, -⟩ := hvb w (Only.refl g w)
  simp only [List.length_map] at *
  have HV := Lib.hid hvb; clear hvb hcb
  have SU := Lib.hid su; clear su
  have SV := Lib.hid sv; clear sv
  obtain ⟨N, hN⟩ : ∃ N, N = u.length := ⟨_, rfl⟩
  rw [← hN] at hj lu ⊢
  have HN := Lib.hid hN; clear hN
  go_enter Tryz.func134, Tryz.ntmps134
  go_wp2
  go_loopw [9, 15] (fun c i wr => ∃ k : Nat, k ≤ v.length + 1 ∧ i = .int .i64 k ∧ c = I (rowTo B9 q v j u k).2 ∧ Row wr g cap (rowTo B9 q v j u k).1 ∧ Only g w wr)
    (fun _ i _ => v.length + 1 - (RowKit.intOf i).toNat)
  case atStart => exact ⟨0, Nat.zero_le _, rfl, rfl, hrow, Only.refl _ _⟩
  case round =>
    clear hrow
    obtain ⟨k, hkk, rfl, rfl, hrow, hO⟩ := hrel
    by_cases hlk : k < v.length + 1
    · obtain ⟨r1, r2, r3, -⟩ := rowTo_any (B := B9) (by decide) (x := q) SV.out j SU.out k (by rw [← HN.out]; omega)
      have hys := small_getD SV.out (by decide) k
      have hst : rowTo B9 q v j u (k + 1) = ((rowTo B9 q v j u k).1.set (j + k) (((rowTo B9 q v j u k).1[j + k]?.getD 0 + q * v[k]?.getD 0 + (rowTo B9 q v j u k).2) % B9), ((rowTo B9 q v j u k).1[j + k]?.getD 0 + q * v[k]?.getD 0 + (rowTo B9 q v j u k).2) / B9) := rfl
      have HST2 := Lib.hid hst; clear hst
      generalize rowTo B9 q v j u k = r at *
      obtain ⟨l, c⟩ := r
      dsimp only at *
      have hlen : j + k < l.length := by rw [r1, ← HN.out]; omega
      have hcell := hrow.cell (getD_some hlen)
      have hfz := hrow.frozen (j + k)
      have hzs := small_getD r2 (by decide) (j + k)
      have hq' : q ≤ 2000000000 := hq
      have hc' : c ≤ 2000000000 := Nat.le_trans r3 hq
      have hz' : l[j + k]?.getD 0 < 1000000000 := hzs
      have hy' : v[k]?.getD 0 < 1000000000 := hys
      have hb2 : j + k < N := by omega
      have hiN : (0 : Int) ≤ (j : Int) + k := by omega
      have hiN2 : (j : Int) + k < N := by omega
      have hyq := fun W => limb_any (.slice pb v.length cb) v k W
      have HYQ := Lib.hid hyq; clear hyq
      have HROW := Lib.hid hrow
      have HQ := Lib.hid hq
      clear r1 r2 r3 hzs hys hrow hlen hq
      generalize hzz : l[j + k]?.getD 0 = z at *
      have HZZ := Lib.hid hzz; clear hzz
      have hp0 : (0 : Int) ≤ (q : Int) * (v[k]?.getD 0 : Nat) := by rw [← Int.natCast_mul]; omega
      have hp1 : (q : Int) * (v[k]?.getD 0 : Nat) ≤ 1999999998000000000 := by
        have := Nat.mul_le_mul hq' (show v[k]?.getD 0 ≤ 999999999 by omega)
        rw [← Int.natCast_mul]; omega
      generalize hyy : v[k]?.getD 0 = y at *
      have HYY := Lib.hid hyy; clear hyy
      have e1 : IntKind.i64.wrap ((q : Int) * y) = (q : Int) * y := IntWalk.i64_in _ (by omega)
      have e2 : IntKind.i64.wrap ((z : Int) + (q : Int) * y) = (z : Int) + (q : Int) * y := IntWalk.i64_in _ (by omega)
      have e3 : IntKind.i64.wrap ((z : Int) + (q : Int) * y + c) = (z : Int) + (q : Int) * y + c := IntWalk.i64_in _ (by omega)
      have e4 : IntKind.i64.wrap ((j : Int) + k) = (j : Int) + k := IntWalk.i64_in _ (by omega)
      have e5 : ((j : Int) + k).toNat = j + k := by omega
      have E1 := Lib.hid e1; have E2 := Lib.hid e2; have E3 := Lib.hid e3; have E4 := Lib.hid e4; have E5 := Lib.hid e5
      clear e1 e2 e3 e4 e5
      go_wp2
      have e1 := E1.out; have e2 := E2.out; have e3 := E3.out; have e4 := E4.out; have e5 := E5.out
      go_quiet ((go_at_call 105; exact Calls.quiet_of_same (same_q (HYQ.out _ (HV.out _ (hO.drewN _)) (by omega)))))
      clear e1 e2 e3 e4 e5
      go_wp2
      go_roundw
      case rel =>
        refine ⟨k + 1, by omega, by go_num, ?_, ?_, ?_⟩
        · rw [HST2.out]; simp [B9]
        · rw [HST2.out]
          have := Row.set (w := wr.drewN nq) (show Row (wr.drewN nq) g cap l from HROW.out) (j + k) ((z + q * y + c) % B9)
          have e : I ((z + q * y + c) % B9) = .int .i64 (((z : Int) + q * y + c) % 1000000000) := by simp [I, B9]
          rw [e] at this
          exact this
        · exact (hO.drewN _).setCell _
      case measure => simp [RowKit.intOf]; omega
    · obtain rfl : k = v.length + 1 := by omega
      have HROW := Lib.hid hrow; clear hrow
      go_wp2
      go_ret
      exact ⟨rfl, HROW.out, hO⟩
set_option maxRecDepth 100000 in
set_option maxHeartbeats 2000000 in
/-- integer.take. -/
theorem take_any (g cap : Nat) (u v : List Nat) (vb : Value) (j q : Nat) (w : World) (hrow : Row w g cap u) (hvb : ∀ W, Only g w W → Sl W vb (v.map I)) (su : small B9 u) (sv : small B9 v)
    (hj : j + v.length + 1 ≤ u.length) (lu : u.length ≤ 2500) (lv : v.length ≤ 1000) (hq : q ≤ 2 * B9) :
    Calls Tryz.prog 133 #[.slice (some ⟨g, 0, none⟩) u.length cap, vb, I j, I q] w fun e w' => e = .returned (.bool (decide (0 < (takeTo B9 q v j u (v.length + 1)).2))) ∧ Row w' g cap (takeTo B9 q v j u (v.length + 1)).1 ∧ Only g w w' := by
  obtain ⟨pb, cb, rfl, hcb, -⟩ := hvb w (Only.refl g w)
  simp only [List.length_map] at *
  have HV := Lib.hid hvb; clear hvb hcb
  have SU := Lib.hid su; clear su
  have SV := Lib.hid sv; clear sv
  obtain ⟨N, hN⟩ : ∃ N, N = u.length := ⟨_, rfl⟩
  rw [← hN] at hj lu ⊢
  have HN := Lib.hid hN; clear hN
  go_enter Tryz.func133, Tryz.ntmps133
  go_wp2
  go_loopw [9, 15] (fun c i wr => ∃ k : Nat, k ≤ v.length + 1 ∧ i = .int .i64 k ∧ c = I (takeTo B9 q v j u k).2 ∧ Row wr g cap (takeTo B9 q v j u k).1 ∧ Only g w wr)
    (fun _ i _ => v.length + 1 - (RowKit.intOf i).toNat)
  case atStart => exact ⟨0, Nat.zero_le _, rfl, rfl, hrow, Only.refl _ _⟩
  case round =>
    clear hrow
    obtain ⟨k, hkk, rfl, rfl, hrow, hO⟩ := hrel
    by_cases hlk : k < v.length + 1
    · obtain ⟨r1, r2, r3, -⟩ := takeTo_spec (B := B9) (by decide) (q := q) SV.out j SU.out k (by rw [← HN.out]; omega)
      have hys := small_getD SV.out (by decide) k
      have hst : takeTo B9 q v j u (k + 1) = ((takeTo B9 q v j u k).1.set (j + k) ((takeTo B9 q v j u k).1[j + k]?.getD 0 + ((takeTo B9 q v j u k).2 + q * v[k]?.getD 0 - (takeTo B9 q v j u k).1[j + k]?.getD 0 + (B9 - 1)) / B9 * B9 - ((takeTo B9 q v j u k).2 + q * v[k]?.getD 0)), ((takeTo B9 q v j u k).2 + q * v[k]?.getD 0 - (takeTo B9 q v j u k).1[j + k]?.getD 0 + (B9 - 1)) / B9) := rfl
      have HST2 := Lib.hid hst; clear hst
      generalize takeTo B9 q v j u k = r at *
      obtain ⟨l, c⟩ := r
      dsimp only at *
      have hlen : j + k < l.length := by rw [r1, ← HN.out]; omega
      have hcell := hrow.cell (getD_some hlen)
      have hfz := hrow.frozen (j + k)
      have hzs := small_getD r2 (by decide) (j + k)
      have hq' : q ≤ 2000000000 := hq
      have hc' : c ≤ 2000000000 := Nat.le_trans r3 hq
      have hz' : l[j + k]?.getD 0 < 1000000000 := hzs
      have hy' : v[k]?.getD 0 < 1000000000 := hys
      have hb2 : j + k < N := by omega
      have hiN : (0 : Int) ≤ (j : Int) + k := by omega
      have hiN2 : (j : Int) + k < N := by omega
      have hyq := fun W => limb_any (.slice pb v.length cb) v k W
      have HYQ := Lib.hid hyq; clear hyq
      have HROW := Lib.hid hrow
      have HQ := Lib.hid hq
      clear r1 r2 r3 hzs hys hrow hlen hq
      generalize hzz : l[j + k]?.getD 0 = z at *
      have HZZ := Lib.hid hzz; clear hzz
      have hp0 : (0 : Int) ≤ (q : Int) * (v[k]?.getD 0 : Nat) := by rw [← Int.natCast_mul]; omega
      have hp1 : (q : Int) * (v[k]?.getD 0 : Nat) ≤ 1999999998000000000 := by
        have := Nat.mul_le_mul hq' (show v[k]?.getD 0 ≤ 999999999 by omega)
        rw [← Int.natCast_mul]; omega
      generalize hyy : v[k]?.getD 0 = y at *
      have HYY := Lib.hid hyy; clear hyy
      have e1 : IntKind.i64.wrap ((q : Int) * y) = (q : Int) * y := IntWalk.i64_in _ (by omega)
      have e2 : IntKind.i64.wrap ((z : Int) - c) = (z : Int) - c := IntWalk.i64_in _ (by omega)
      have e3 : IntKind.i64.wrap ((z : Int) - c - (q : Int) * y) = (z : Int) - c - (q : Int) * y := IntWalk.i64_in _ (by omega)
      have e4 : IntKind.i64.wrap ((j : Int) + k) = (j : Int) + k := IntWalk.i64_in _ (by omega)
      have e5 : ((j : Int) + k).toNat = j + k := by omega
      have E1 := Lib.hid e1; have E2 := Lib.hid e2; have E3 := Lib.hid e3; have E4 := Lib.hid e4; have E5 := Lib.hid e5
      clear e1 e2 e3 e4 e5
      go_wp2
      have e1 := E1.out; have e2 := E2.out; have e3 := E3.out; have e4 := E4.out; have e5 := E5.out
      go_quiet ((go_at_call 105; exact Calls.quiet_of_same (same_q (HYQ.out _ (HV.out _ (hO.drewN _)) (by omega)))))
      clear e1 e2 e3 e4 e5 E1 E2 E3
      obtain ⟨n, hn⟩ : ∃ n : Int, n = (z : Int) - c - (q : Int) * y := ⟨_, rfl⟩
      rw [← hn]
      have hn1 : n < 1000000000 := by omega
      have hn2 : -3000000000000000000 < n := by omega
      have HN4 := Lib.hid hn; clear hn hp0 hp1
      have e4 := E4.out; have e5 := E5.out
      by_cases hneg : n < 0
      · go_wp2
        go_roundw
        case rel =>
          obtain ⟨f1, f2⟩ := take_neg z c q y n HN4.out hneg
          refine ⟨k + 1, by omega, by go_num, ?_, ?_, ?_⟩
          · rw [HST2.out, f1]
          · rw [HST2.out, f2]
            exact Row.set (w := wr.drewN nq) (show Row (wr.drewN nq) g cap l from HROW.out) (j + k) (z + (c + q * y - z + (B9 - 1)) / B9 * B9 - (c + q * y))
          · exact (hO.drewN _).setCell _
        case measure => simp [RowKit.intOf]; omega
      · go_wp2
        go_roundw
        case rel =>
          obtain ⟨f1, f2⟩ := take_pos z c q y n HN4.out hneg
          refine ⟨k + 1, by omega, by go_num, ?_, ?_, ?_⟩
          · rw [HST2.out, f1]; rfl
          · rw [HST2.out, f2]
            exact Row.set (w := wr.drewN nq) (show Row (wr.drewN nq) g cap l from HROW.out) (j + k) (z + (c + q * y - z + (B9 - 1)) / B9 * B9 - (c + q * y))
          · exact (hO.drewN _).setCell _
        case measure => simp [RowKit.intOf]; omega
    · obtain rfl : k = v.length + 1 := by omega
      have HROW := Lib.hid hrow; clear hrow
      go_wp2
      go_ret
      exact ⟨by simp, HROW.out, hO⟩
end Go.Proofs.YtapfekcbbhhieaaGreatDoor

namespace Go.Proofs.YtapfekcbbhhieaaGreatDoor
open Go.RowKit Lib Str Limb

/-- One operation that only reads, of a drawn region. -/
theorem quiet_read {P : Program} {ops : Array Oper} {C : World → Prop} {Q : Act → Prop} {a : Act} {o : Oper} {rest : List Oper} {v : Value} (hw : Region.wanted o (yielded ops a.tmps) = true)
    (hy : ∀ w, C w → (execOp a.eval o).run P w = .ok (.value v) w) (h : wpQuiet P ops C Q rest (a.put o.dst v)) : wpQuiet P ops C Q (o :: rest) a := by
  simp only [wpQuiet, hw, if_true]
  exact ⟨v, fun w hC => by unfold Oper.quietAt; rw [hy w hC]; exact ⟨rfl, rfl⟩, h⟩

theorem quiet_skip {P : Program} {ops : Array Oper} {C : World → Prop} {Q : Act → Prop} {a : Act} {o : Oper} {rest : List Oper} (hw : Region.wanted o (yielded ops a.tmps) = false)
    (h : wpQuiet P ops C Q rest (a.put o.dst undef)) : wpQuiet P ops C Q (o :: rest) a := by
  simp only [wpQuiet, hw, Bool.false_eq_true, if_false]
  exact h

/-- The same behind a name that does not unfold. -/
structure WQ (P : Program) (ops : Array Oper) (C : World → Prop) (Q : Act → Prop) (l : List Oper) (a : Act) : Prop where
  out : wpQuiet P ops C Q l a
theorem WQ.read {P : Program} {ops : Array Oper} {C : World → Prop} {Q : Act → Prop} {a : Act} {o : Oper} {rest : List Oper} {v : Value} (hw : Region.wanted o (yielded ops a.tmps) = true)
    (hy : ∀ w, C w → (execOp a.eval o).run P w = .ok (.value v) w) (h : WQ P ops C Q rest (a.put o.dst v)) : WQ P ops C Q (o :: rest) a := ⟨quiet_read hw hy h.out⟩
theorem WQ.skip {P : Program} {ops : Array Oper} {C : World → Prop} {Q : Act → Prop} {a : Act} {o : Oper} {rest : List Oper} (hw : Region.wanted o (yielded ops a.tmps) = false)
    (h : WQ P ops C Q rest (a.put o.dst undef)) : WQ P ops C Q (o :: rest) a := ⟨quiet_skip hw h.out⟩
theorem WQ.nil {P : Program} {ops : Array Oper} {C : World → Prop} {Q : Act → Prop} {a : Act} (h : Q a) : WQ P ops C Q [] a := ⟨wpQuiet_nil h⟩

theorem est_sum (x1 x2 : Nat) (t1 : x1 < 1000000000) (t2 : x2 < 1000000000) :
    IntKind.i64.wrap ((x2 : Int) * 1000000000) = (x2 : Int) * 1000000000 ∧ IntKind.i64.wrap ((x2 : Int) * 1000000000 + x1) = (x2 : Int) * 1000000000 + x1 ∧ (0 : Int) ≤ (x2 : Int) * 1000000000 + x1 :=
  ⟨IntWalk.i64_in _ (by omega), IntWalk.i64_in _ (by omega), by omega⟩

theorem est_nums (x1 x2 y1 : Nat) (t1 : x1 < 1000000000) (t2 : x2 < 1000000000) (t4 : y1 < 1000000000) (h0 : 0 < y1) (i2 : (x2 * 1000000000 + x1) / y1 < 2 * 1000000000) :
    IntKind.i64.wrap (((x2 : Int) * 1000000000 + x1).tdiv (y1 : Int)) = (((x2 * 1000000000 + x1) / y1 : Nat) : Int) ∧
    IntKind.i64.wrap (((x2 : Int) * 1000000000 + x1).tmod (y1 : Int)) = (((x2 * 1000000000 + x1) % y1 : Nat) : Int) := by
  have nn : (0 : Int) ≤ (x2 : Int) * 1000000000 + x1 := by omega
  have e : (x2 : Int) * 1000000000 + x1 = ((x2 * 1000000000 + x1 : Nat) : Int) := by omega
  have hm : (x2 * 1000000000 + x1) % y1 < y1 := Nat.mod_lt _ h0
  constructor
  · rw [Int.tdiv_eq_ediv_of_nonneg nn, e, ← Int.natCast_ediv]
    generalize (x2 * 1000000000 + x1) / y1 = Y at *
    clear e nn hm
    exact IntWalk.i64_in _ (by omega)
  · rw [Int.tmod_eq_emod_of_nonneg nn, e, ← Int.natCast_emod]
    generalize (x2 * 1000000000 + x1) % y1 = Y at *
    clear e nn i2
    exact IntWalk.i64_in _ (by omega)

theorem est_f1 (q y0 : Nat) (h : q < 2000000000) (t : y0 < 1000000000) : IntKind.i64.wrap ((q : Int) * (y0 : Int)) = (q : Int) * y0 := by
  have hm : q * y0 ≤ 2000000000 * 999999999 := Nat.mul_le_mul (by omega) (by omega)
  rw [← Int.natCast_mul]
  generalize q * y0 = Y at *
  exact IntWalk.i64_in _ (by omega)
theorem est_f2 (r x0 y1 : Nat) (h : r < 1000000000) (t : x0 < 1000000000) (t' : y1 < 1000000000) : IntKind.i64.wrap ((r : Int) * 1000000000) = (r : Int) * 1000000000 ∧ IntKind.i64.wrap ((r : Int) * 1000000000 + x0) = (r : Int) * 1000000000 + x0 ∧ IntKind.i64.wrap ((r : Int) + y1) = (r : Int) + y1 :=
  ⟨IntWalk.i64_in _ (by omega), IntWalk.i64_in _ (by omega), IntWalk.i64_in _ (by omega)⟩
theorem est_f3 (q : Nat) (h : q < 2000000000) : IntKind.i64.wrap ((q : Int) - 1) = (q : Int) - 1 := IntWalk.i64_in _ (by omega)
theorem est_g (q y0 r x0 : Nat) (h : ¬ r * 1000000000 + x0 < q * y0) : ¬ (r : Int) * 1000000000 + x0 < (q : Int) * y0 := by rw [← Int.natCast_mul]; omega
theorem est_g' (q y0 r x0 : Nat) (h : r * 1000000000 + x0 < q * y0) : (r : Int) * 1000000000 + x0 < (q : Int) * y0 := by rw [← Int.natCast_mul]; omega
theorem est_b (q : Nat) (h : q < 1000000000) : decide ((1000000000 : Int) ≤ (q : Int)) = false := by simp; omega
theorem est_b' (q : Nat) (h : 1000000000 ≤ q) : decide ((1000000000 : Int) ≤ (q : Int)) = true := by simp; omega
theorem est_c (r : Nat) (h : r < 1000000000) : decide ((r : Int) < 1000000000) = true := by simp; omega
theorem est_r (r y1 : Nat) (h : r + y1 < 1000000000) : decide ((1000000000 : Int) ≤ (r : Int) + y1) = false := by simp; omega
theorem est_r' (r y1 : Nat) (h : ¬ r + y1 < 1000000000) : decide ((1000000000 : Int) ≤ (r : Int) + y1) = true := by simp; omega
theorem Below_drewN {B : Nat} {a w : World} (h : Below B a w) (n : Nat) : Below B a (w.drewN n) := h.trans ⟨rfl, rfl, rfl, Nat.le_refl _, fun _ _ => rfl⟩
theorem est_n (r y1 q x : Nat) (h : q * y1 + r = x) (h1 : 1 ≤ q) : (q - 1) * y1 + (r + y1) = x := by
  obtain ⟨p, rfl⟩ : ∃ p, q = p + 1 := ⟨q - 1, by omega⟩
  rw [Nat.add_mul] at h; simp; omega

set_option maxRecDepth 100000 in
set_option maxHeartbeats 1000000 in
/-- integer.estimate. -/
theorem estimate_any (g cap gv capv : Nat) (u v : List Nat) (j n : Nat) (w : World) (hru : Row w g cap u) (hrv : Row w gv capv v) (su : small B9 u) (sv : small B9 v) (hn : v.length = n + 2)
    (hj : j + v.length + 1 ≤ u.length) (lu : u.length ≤ 2500) (lv : v.length ≤ 1000) (hD : valL B9 (u.drop j) < B9 * valL B9 v) (h0 : 0 < v[n + 1]?.getD 0) :
    Calls Tryz.prog 132 #[.slice (some ⟨g, 0, none⟩) u.length cap, .slice (some ⟨gv, 0, none⟩) v.length capv, I j] w fun e w' =>
      ∃ q : Nat, e = .returned (I q) ∧ valL B9 (u.drop j) / valL B9 v ≤ q ∧ q ≤ 2 * B9 ∧ Below w.heap.size w w' := by
  obtain ⟨i1, i2⟩ := est_init (B := B9) (by decide) su sv hn hj hD h0
  have hdec := fun q r h1 h2 => est_dec (B := B9) (q := q) (r := r) (by decide) su sv hn hj hD h1 h2
  have HDEC := Lib.hid hdec; clear hdec hD
  have s0 := small_getD su (by decide) (j + n)
  have s1 := small_getD su (by decide) (j + n + 1)
  have s2 := small_getD su (by decide) (j + n + 2)
  have s3 := small_getD sv (by decide) n
  have s4 := small_getD sv (by decide) (n + 1)
  have c0 := hru.cell (getD_some (show j + n < u.length by omega))
  have c1 := hru.cell (getD_some (show j + n + 1 < u.length by omega))
  have c2 := hru.cell (getD_some (show j + n + 2 < u.length by omega))
  have c3 := hrv.cell (getD_some (show n < v.length by omega))
  have c4 := hrv.cell (getD_some (show n + 1 < v.length by omega))
  generalize valL B9 (u.drop j) / valL B9 v = qT at *
  generalize u[j + n]?.getD 0 = x0 at *
  generalize u[j + n + 1]?.getD 0 = x1 at *
  generalize u[j + n + 2]?.getD 0 = x2 at *
  generalize v[n]?.getD 0 = y0 at *
  generalize v[n + 1]?.getD 0 = y1 at *
  clear hru hrv su sv
  generalize u.length = m at *
  generalize v.length = k at *
  have t0 : x0 < 1000000000 := s0
  have t1 : x1 < 1000000000 := s1
  have t2 : x2 < 1000000000 := s2
  have t3 : y0 < 1000000000 := s3
  have t4 : y1 < 1000000000 := s4
  have hB9 : B9 = 1000000000 := rfl
  rw [hB9] at i1 i2 HDEC ⊢
  clear s0 s1 s2 s3 s4 hB9
  have w1 : IntKind.i64.wrap ((j : Int) + (k : Int)) = (j : Int) + k := IntWalk.i64_in _ (by omega)
  have w2 : IntKind.i64.wrap ((j : Int) + (k : Int) - 1) = (j : Int) + k - 1 := IntWalk.i64_in _ (by omega)
  have w3 : IntKind.i64.wrap ((j : Int) + (k : Int) - 2) = (j : Int) + k - 2 := IntWalk.i64_in _ (by omega)
  have w4 : IntKind.i64.wrap ((k : Int) - 1) = (k : Int) - 1 := IntWalk.i64_in _ (by omega)
  have w5 : IntKind.i64.wrap ((k : Int) - 2) = (k : Int) - 2 := IntWalk.i64_in _ (by omega)
  have n1 : ((j : Int) + (k : Int)).toNat = j + n + 2 := by omega
  have n2 : ((j : Int) + (k : Int) - 1).toNat = j + n + 1 := by omega
  have n3 : ((j : Int) + (k : Int) - 2).toNat = j + n := by omega
  have n4 : ((k : Int) - 1).toNat = n + 1 := by omega
  have n5 : ((k : Int) - 2).toNat = n := by omega
  have l1 : (0 : Int) ≤ (j : Int) + k ∧ (j : Int) + k < m := by omega
  have l2 : (0 : Int) ≤ (j : Int) + k - 1 ∧ (j : Int) + k - 1 < m := by omega
  have l3 : (0 : Int) ≤ (j : Int) + k - 2 ∧ (j : Int) + k - 2 < m := by omega
  have l4 : (0 : Int) ≤ (k : Int) - 1 ∧ (k : Int) - 1 < k := by omega
  have l5 : (0 : Int) ≤ (k : Int) - 2 ∧ (k : Int) - 2 < k := by omega
  obtain ⟨l1a, l1b⟩ := l1
  obtain ⟨l2a, l2b⟩ := l2
  obtain ⟨l3a, l3b⟩ := l3
  obtain ⟨l4a, l4b⟩ := l4
  obtain ⟨l5a, l5b⟩ := l5
  have l2c : (1 : Int) ≤ (j : Int) + k := by omega
  have l3c : (2 : Int) ≤ (j : Int) + k := by omega
  have l4c : (1 : Int) ≤ (k : Int) := by omega
  have l5c : (2 : Int) ≤ (k : Int) := by omega
  have hy0 : ¬ y1 = 0 := by omega
  obtain ⟨b1, b2, nn⟩ := est_sum x1 x2 t1 t2
  obtain ⟨b3, b4⟩ := est_nums x1 x2 y1 t1 t2 t4 h0 i2
  have HNK := Lib.hid hn; clear hn
  go_enter Tryz.func132, Tryz.ntmps132
  go_wp2
  (refine wp_region_quiet_lit (by kernel_rfl) (by kernel_rfl) (WQ.out ?_)
   repeat (first | (apply WQ.read (by rfl); (focus (rintro W ⟨n, rfl⟩; go_simp; try with_reducible rfl)); try simp only [Act.put, List.setIfInBounds_toArray, List.set_cons_zero, List.set_cons_succ]))
   refine WQ.nil ?_
   rintro _ ⟨nq, rfl⟩)
  go_wp2
  (refine wp_region_quiet_lit (by kernel_rfl) (by kernel_rfl) (WQ.out ?_)
   repeat (first | (apply WQ.read (by rfl); (focus (rintro W ⟨n, rfl⟩; go_simp; try with_reducible rfl)); try simp only [Act.put, List.setIfInBounds_toArray, List.set_cons_zero, List.set_cons_succ]))
   refine WQ.nil ?_
   rintro _ ⟨nq2, rfl⟩)
  go_wp2
  have v1 : Value.int .i64 (((x2 : Int) * 1000000000 + x1) / (y1 : Int)) = I ((x2 * 1000000000 + x1) / y1) := by simp [I]
  have v2 : Value.int .i64 (((x2 : Int) * 1000000000 + x1).tmod (y1 : Int)) = I ((x2 * 1000000000 + x1) % y1) := by rw [Int.tmod_eq_emod_of_nonneg nn]; simp [I]
  rw [v1, v2]
  have hqr : (x2 * 1000000000 + x1) / y1 * y1 + (x2 * 1000000000 + x1) % y1 = x2 * 1000000000 + x1 := by rw [Nat.mul_comm]; exact Nat.div_add_mod _ _
  have hrl : (x2 * 1000000000 + x1) % y1 < 1000000000 := Nat.lt_trans (Nat.mod_lt _ h0) t4
  clear v1 v2 b1 b2 b3 b4 nn
  generalize (x2 * 1000000000 + x1) / y1 = q0 at *
  generalize (x2 * 1000000000 + x1) % y1 = r0 at *
  go_loopw [9, 10] (fun a b wr => ∃ q r : Nat, a = I q ∧ b = I r ∧ qT ≤ q ∧ q < 2000000000 ∧ r < 1000000000 ∧ q * y1 + r = x2 * 1000000000 + x1 ∧ ∃ nd, wr = w.drewN nd)
    (fun a _ _ => (RowKit.intOf a).toNat)
  case atStart => exact ⟨q0, r0, rfl, rfl, i1, i2, hrl, hqr, _, World.drewN_drewN _ _ _⟩
  case round =>
    obtain ⟨q, r, rfl, rfl, hq1, hq2, hr, hqr2, nd, rfl⟩ := hrel
    have f1 := est_f1 q y0 hq2 t3
    obtain ⟨f2, f3, f4⟩ := est_f2 r x0 y1 hr t0 t4
    have f5 := est_f3 q hq2
    have HQR := Lib.hid hqr2; clear hqr2 hqr
    have HQ0 := Lib.hid i1; clear i1 i2 hrl
    by_cases hA : 1000000000 ≤ q
    · have hlt := HDEC.out q r HQR.out (.inl hA)
      have k1 := est_b' q hA
      have q1' : 1 ≤ q := by omega
      have HLT := Lib.hid hlt; clear hlt hA
      go_wp2
      (refine wp_region_quiet_lit (by kernel_rfl) (by kernel_rfl) (WQ.out ?_)
       repeat (first | (apply WQ.read (by rfl); (focus (rintro W ⟨n, rfl⟩; go_simp; try with_reducible rfl)); try simp only [Act.put, List.setIfInBounds_toArray, List.set_cons_zero, List.set_cons_succ]) | (apply WQ.skip (by rfl); try simp only [Act.put, List.setIfInBounds_toArray, List.set_cons_zero, List.set_cons_succ]))
       refine WQ.nil ?_
       rintro _ ⟨nq3, rfl⟩)
      clear k1
      have f6 := est_n r y1 q _ HQR.out q1'
      have HF6 := Lib.hid f6; clear f6
      go_wp2
      (refine wp_region_quiet_lit (by kernel_rfl) (by kernel_rfl) (WQ.out ?_)
       repeat (first | (apply WQ.read (by rfl); (focus (rintro W ⟨n, rfl⟩; go_simp; try with_reducible rfl)); try simp only [Act.put, List.setIfInBounds_toArray, List.set_cons_zero, List.set_cons_succ]) | (apply WQ.skip (by rfl); try simp only [Act.put, List.setIfInBounds_toArray, List.set_cons_zero, List.set_cons_succ]))
       refine WQ.nil ?_
       rintro _ ⟨nq4, rfl⟩)
      clear f1 f2 f3
      by_cases hR : r + y1 < 1000000000
      · have kR := est_r r y1 hR
        have HR := Lib.hid hR; clear hR
        go_wp2
        go_roundw
        case rel => exact ⟨q - 1, r + y1, by show Value.int .i64 _ = Value.int .i64 _; congr 1; omega, by simp [I], by have := HLT.out; omega, by omega, HR.out, HF6.out, _, by first | exact World.drewN_drewN _ _ _ | rfl⟩
        case measure => simp [RowKit.intOf]; omega
      · have kR := est_r' r y1 hR
        clear hR
        go_wp2
        go_ret
        refine ⟨q - 1, ?_, by have := HLT.out; omega, by omega, ?_⟩
        · show Ending.returned (Value.int .i64 _) = Ending.returned (Value.int .i64 _); congr 2; omega
        · exact Below_drewN (Below.refl _ _) _
    · have g1 : q < 1000000000 := by omega
      have k1 := est_b q g1
      have k2 := est_c r hr
      by_cases hB : r * 1000000000 + x0 < q * y0
      · have hlt := HDEC.out q r HQR.out (.inr hB)
        have k3 : decide ((r : Int) * 1000000000 + x0 < (q : Int) * y0) = true := decide_eq_true (est_g' q y0 r x0 hB)
        have q1' : 1 ≤ q := by omega
        have HLT := Lib.hid hlt; clear hlt hA hB
        go_wp2
        (refine wp_region_quiet_lit (by kernel_rfl) (by kernel_rfl) (WQ.out ?_)
         repeat (first | (apply WQ.read (by rfl); (focus (rintro W ⟨n, rfl⟩; go_simp; try with_reducible rfl)); try simp only [Act.put, List.setIfInBounds_toArray, List.set_cons_zero, List.set_cons_succ]) | (apply WQ.skip (by rfl); try simp only [Act.put, List.setIfInBounds_toArray, List.set_cons_zero, List.set_cons_succ]))
         refine WQ.nil ?_
         rintro _ ⟨nq3, rfl⟩)
        clear k1 k2 k3
        have f6 := est_n r y1 q _ HQR.out q1'
        have HF6 := Lib.hid f6; clear f6
        go_wp2
        (refine wp_region_quiet_lit (by kernel_rfl) (by kernel_rfl) (WQ.out ?_)
         repeat (first | (apply WQ.read (by rfl); (focus (rintro W ⟨n, rfl⟩; go_simp; try with_reducible rfl)); try simp only [Act.put, List.setIfInBounds_toArray, List.set_cons_zero, List.set_cons_succ]) | (apply WQ.skip (by rfl); try simp only [Act.put, List.setIfInBounds_toArray, List.set_cons_zero, List.set_cons_succ]))
         refine WQ.nil ?_
         rintro _ ⟨nq4, rfl⟩)
        clear f1 f2 f3
        by_cases hR : r + y1 < 1000000000
        · have kR := est_r r y1 hR
          have HR := Lib.hid hR; clear hR
          go_wp2
          go_roundw
          case rel => exact ⟨q - 1, r + y1, by show Value.int .i64 _ = Value.int .i64 _; congr 1; omega, by simp [I], by have := HLT.out; omega, by omega, HR.out, HF6.out, _, by first | exact World.drewN_drewN _ _ _ | rfl⟩
          case measure => simp [RowKit.intOf]; omega
        · have kR := est_r' r y1 hR
          clear hR
          go_wp2
          go_ret
          refine ⟨q - 1, ?_, by have := HLT.out; omega, by omega, ?_⟩
          · show Ending.returned (Value.int .i64 _) = Ending.returned (Value.int .i64 _); congr 2; omega
          · exact Below_drewN (Below.refl _ _) _
      · have k3 : decide ((r : Int) * 1000000000 + x0 < (q : Int) * y0) = false := decide_eq_false (est_g q y0 r x0 hB)
        clear hA hB
        go_wp2
        (refine wp_region_quiet_lit (by kernel_rfl) (by kernel_rfl) (WQ.out ?_)
         repeat (first | (apply WQ.read (by rfl); (focus (rintro W ⟨n, rfl⟩; go_simp; try with_reducible rfl)); try simp only [Act.put, List.setIfInBounds_toArray, List.set_cons_zero, List.set_cons_succ]) | (apply WQ.skip (by rfl); try simp only [Act.put, List.setIfInBounds_toArray, List.set_cons_zero, List.set_cons_succ]))
         refine WQ.nil ?_
         rintro _ ⟨nq3, rfl⟩)
        go_wp2
        go_ret
        exact ⟨q, rfl, hq1, by omega, Below_drewN (Below_drewN (Below.refl _ _) _) _⟩
end Go.Proofs.YtapfekcbbhhieaaGreatDoor

namespace Go.Proofs.YtapfekcbbhhieaaGreatDoor
open Go.RowKit Go.Shelf
attribute [local go_sem] Oper.semAt_some

/-- An iterator yields element after element, whatever the round does, as long as what it reads stays. -/
def IterC (F : Fence) (n : Nat) (P : Program) (gf : Nat) (lb : Array Value) (Rd : World → Prop) (R : Nat → Array Value → Prop) (len : Nat) : Prop :=
  ∀ (l : Nat) (J : Nat → World → Prop) (Jx : World → Prop) (W : World), (∀ k W1, J k W1 → Rd W1) → (∀ k W1 W2, J k W1 → Below W1.heap.size W1 W2 → J k W2) →
    (∀ k args W1, J k W1 → k < len → R k args → YieldAt F (n - 1) P l args W1 fun e W' => (e = .returned (.bool true) ∧ J (k + 1) W') ∨ (e = .returned (.bool false) ∧ Jx W')) →
    J 0 W → CallsIn F n P gf (#[.func (.yield l) #[] #[]] ++ lb) W fun e W' => (∃ v, e = .returned v) ∧ (J len W' ∨ Jx W')

/-- How a round may end. -/
def postIx (B : Nat) (I : Nat → World → Prop) (Ix : Code → Nat → World → Prop) (k : Nat) (W : World) : Exit → Act → World → Prop
  | .normal, _, W' => KeepsFrom B W W' ∧ I (k + 1) W'
  | .ret, _, W' => KeepsFrom B W W' ∧ Ix .ret k W'
  | .exit id, _, W' => KeepsFrom B W W' ∧ Ix (.exit id) k W'
  | .goto t, _, W' => KeepsFrom B W W' ∧ Ix (.goto t) k W'
  | .panic _, _, _ => False
  | .outgrown, _, _ => False

theorem keeps_putObj {W : World} {l : Nat} {o : Obj} (o' : Obj) (h : W.heap[l]? = some o) (hc : o.isCells = false) : CellsKept W (W.putObj l o') :=
  cellsKept_grown (grownBy_putObj' W l o') (fun r e => by cases e; exact ⟨o, h, hc⟩)
theorem below_putObj {B : Nat} {W : World} {l : Nat} {o : Obj} (o' : Obj) (h : W.heap[l]? = some o) (hB : B ≤ l) : Below B W (W.putObj l o') :=
  (Below.refl B W).grown (grownBy_putObj' W l o') (by have := (Array.getElem?_eq_some_iff.1 h).1; omega) (fun k e => by cases e; omega)
theorem cellsKept_below {W W' : World} (h : Below W.heap.size W W') : CellsKept W W' := fun k cs t fz hk => by
  rw [h.block k (Array.getElem?_eq_some_iff.1 hk).1]; exact hk

/-- THE LOOP: what its rounds, its end and its ways out owe. -/
theorem range_ix {F : Fence} {n : Nat} {P : Program} {g : Operand} {ps : Array Tmp} {assign body : Code} {Q : Exit → Act → World → Prop} {a : Act} {w : World}
    (hro : F.round = none) (h1 : 1 ≤ n) {gf : Nat} {lb : Array Value} (hg : a.eval g = .func (.func gf) #[] lb) (hFg : F.fn gf) (eg : ∀ args w, (callFunc gf args).run P w = .ok (.enter gf args) w)
    {Rd : World → Prop} {R : Nat → Array Value → Prop} {len : Nat} (hseq : IterC F (n - 1) P gf lb Rd R len) (hps : ∀ k args, R k args → args.size = ps.size)
    {B : Nat} (hB : B ≤ w.heap.size) (I : Nat → World → Prop) (Ix : Code → Nat → World → Prop) (hI : ∀ k W W', I k W → CellsKept W W' → Below B W W' → I k W') (hIx : ∀ c k W W', Ix c k W → CellsKept W W' → Below B W W' → Ix c k W')
    (hRd : ∀ k W, I k W → Rd W) (h0 : I 0 w) (a₁ : Nat → Array Value → Act)
    (hassign : ∀ (l k : Nat) (args : Array Value) (W : World) (K : Act → World → Prop), R k args → K (a₁ k args) W →
      assign.wpIn (F.inRound l) (n - 1 - 1) P (Exit.then K (fun _ _ _ => False)) { tmps := (ps.zip args).foldl (fun t (p, v) => t.setIfInBounds p v) a.tmps, defers := [] } W)
    (hbody : ∀ (l k : Nat) (args : Array Value) (W : World), w.heap.size ≤ l → (∃ r, W.heap[l]? = some (.loop r)) → I k W → k < len → R k args → body.wpIn (F.inRound l) (n - 1 - 1) P (postIx w.heap.size I Ix k W) (a₁ k args) W)
    (hdone : ∀ (D : Nat) (W : World), w.heap.size ≤ D → I len W → W.heap[D]? = some (.deferred (some [])) → Q .normal { a with defers := { target := .collected D, args := #[] } :: a.defers } W)
    (hstop : ∀ (D : Nat) (c : Code) (k : Nat) (W : World), w.heap.size ≤ D → Ix c k W → W.heap[D]? = some (.deferred (some [])) → c.wpIn F n P Q { a with defers := { target := .collected D, args := #[] } :: a.defers } W) :
    (Code.rangeFunc g ps assign body).wpIn F n P Q a w := by
  refine wpIn_rangeFunc fun fn hfn => ?_
  rw [hro]
  obtain ⟨z, hz⟩ : ∃ z, z = w.heap.size := ⟨_, rfl⟩
  let rec' : LoopState → Option Code → Obj := fun st pe => .loop { state := st, pending := pe, fn, tmps := a.tmps, params := ps, assign, body, defers := z }
  have hnc : ∀ st pe, (rec' st pe).isCells = false := fun _ _ => rfl
  -- the two blocks of the loop's own
  have hbk : ∀ st, ((w.alloc (.deferred (some []))).alloc (rec' st none)).heap[z + 1]? = some (rec' st none) ∧ ((w.alloc (.deferred (some []))).alloc (rec' st none)).heap[z]? = some (.deferred (some [])) := fun st => by
    subst hz
    refine ⟨?_, ?_⟩
    · have := World.alloc_heap_new (w.alloc (.deferred (some []))) (rec' st none); rwa [World.size_alloc] at this
    · exact (Below.heap_alloc _ _ _ (by simp)).trans (World.alloc_heap_new w _)
  have hstart : Below w.heap.size w ((w.alloc (.deferred (some []))).alloc (rec' .ready none)) := ((Below.refl _ w).alloc (Nat.le_refl _) _).alloc (by simp) _
  let bk : LoopState → Option Code → World → Prop := fun st pe W => W.heap[z + 1]? = some (rec' st pe) ∧ W.heap[z]? = some (.deferred (some []))
  have hturn : ∀ st pe st' pe' W, bk st pe W → bk st' pe' (W.putObj (z + 1) (rec' st' pe')) := fun st pe st' pe' W h =>
    ⟨World.putObj_heap_same (Array.getElem?_eq_some_iff.1 h.1).1, (World.putObj_heap_other (by omega)).trans h.2⟩
  refine ⟨z + 1, [{ target := .collected z, args := #[] }], (w.alloc (.deferred (some []))).alloc (rec' .ready none), { target := .fn (.func gf) lb, args := #[.func (.yield (z + 1)) #[] #[]] }, (w.alloc (.deferred (some []))).alloc (rec' .ready none), gf,
    #[.func (.yield (z + 1)) #[] #[]] ++ lb, (w.alloc (.deferred (some []))).alloc (rec' .ready none), ?_, ?_, ?_, ?_, fun _ => h1, ?_⟩
  · subst hz; exact run_enterLoop_outer _ _ _ _ _
  · simp only [resolve, hg]
    simp [go_sem]
  · intro f' hf'; simp [Target.leads] at hf'; subst hf'; exact hFg
  · simp [invoke, go_sem, eg]
  refine (hseq (z + 1) (fun k W => I k W ∧ bk .ready none W) (fun W => ∃ c k, Ix c k W ∧ bk .done (some c) W) _ (fun k W1 h => hRd k W1 h.1) (fun k W1 W2 h hb => ?_) ?_ ?_).mono ?_
  · exact ⟨hI k W1 W2 h.1 (cellsKept_below hb) (hb.mono (by have := (Array.getElem?_eq_some_iff.1 h.2.2).1; omega)),
      (hb.block _ (Array.getElem?_eq_some_iff.1 h.2.1).1).trans h.2.1, (hb.block _ (Array.getElem?_eq_some_iff.1 h.2.2).1).trans h.2.2⟩
  · rintro k args W ⟨hi, hbW⟩ hk hR
    have hy := run_yield (P := P) (args := args) hbW.1 (hps k args hR)
    refine ⟨fn, _, assign, body, hy, roundIn_of_wpIn hfn (hassign _ k args W _ hR ?_)⟩
    refine ⟨_, run_beginRound hbW.1 rfl, ?_⟩
    have hb2 : bk .busy none (W.putObj (z + 1) (rec' .busy none)) := hturn _ _ _ _ _ hbW
    have hi2 := hI k _ _ hi (keeps_putObj (rec' .busy none) hbW.1 rfl) (below_putObj (B := B) (rec' .busy none) hbW.1 (by omega))
    refine wpIn_mono (hbody _ k args _ (by omega) ⟨_, hb2.1⟩ hi2 hk hR) ?_
    have fin : ∀ (jump : Option Code) (W3 : World), KeepsFrom w.heap.size (W.putObj (z + 1) (rec' .busy none)) W3 →
        (Instr.endRound (z + 1) jump).run P W3 = .ok (.bool jump.isNone) (W3.putObj (z + 1) (rec' (if jump.isNone then .ready else .done) jump)) ∧
        CellsKept W3 (W3.putObj (z + 1) (rec' (if jump.isNone then .ready else .done) jump)) ∧ Below B W3 (W3.putObj (z + 1) (rec' (if jump.isNone then .ready else .done) jump)) ∧
        bk (if jump.isNone then .ready else .done) jump (W3.putObj (z + 1) (rec' (if jump.isNone then .ready else .done) jump)) := fun jump W3 hk3 => by
      have hb3 : bk .busy none W3 := ⟨hk3.same _ _ (by omega) hb2.1 rfl, hk3.same _ _ (by omega) hb2.2 rfl⟩
      exact ⟨run_endRound jump hb3.1, keeps_putObj _ hb3.1 rfl, below_putObj _ hb3.1 (by omega), hturn _ _ _ _ _ hb3⟩
    rintro e a3 W3 hp
    cases e with
    | normal =>
      obtain ⟨hk3, hi3⟩ := hp
      obtain ⟨hr, hc, hbl, hb4⟩ := fin none W3 hk3
      exact ⟨_, _, hr, .inl ⟨rfl, hI _ _ _ hi3 hc hbl, hb4⟩⟩
    | ret =>
      obtain ⟨hk3, hi3⟩ := hp
      obtain ⟨hr, hc, hbl, hb4⟩ := fin (some .ret) W3 hk3
      exact ⟨_, _, hr, .inr ⟨rfl, _, _, hIx _ _ _ _ hi3 hc hbl, hb4⟩⟩
    | exit id =>
      obtain ⟨hk3, hi3⟩ := hp
      obtain ⟨hr, hc, hbl, hb4⟩ := fin (some (.exit id)) W3 hk3
      exact ⟨_, _, hr, .inr ⟨rfl, _, _, hIx _ _ _ _ hi3 hc hbl, hb4⟩⟩
    | goto t =>
      obtain ⟨hk3, hi3⟩ := hp
      obtain ⟨hr, hc, hbl, hb4⟩ := fin (some (.goto t)) W3 hk3
      exact ⟨_, _, hr, .inr ⟨rfl, _, _, hIx _ _ _ _ hi3 hc hbl, hb4⟩⟩
    | panic ch => exact hp.elim
    | outgrown => exact hp.elim
  · exact ⟨hI 0 _ _ h0 (cellsKept_below hstart) (hstart.mono hB), hbk .ready⟩
  · rintro e W2 ⟨⟨v, rfl⟩, (⟨hi, hb4⟩ | ⟨c, k, hi, hb4⟩)⟩
    · exact ⟨none, _, run_endLoop hb4.1 (by simp), hdone z _ (by omega) (hI _ _ _ hi (keeps_putObj _ hb4.1 rfl) (below_putObj _ hb4.1 (by omega))) ((World.putObj_heap_other (by omega)).trans hb4.2)⟩
    · exact ⟨some c, _, run_endLoop hb4.1 (by simp), hstop z c k _ (by omega) (hIx _ _ _ _ hi (keeps_putObj _ hb4.1 rfl) (below_putObj _ hb4.1 (by omega))) ((World.putObj_heap_other (by omega)).trans hb4.2)⟩

set_option maxRecDepth 100000 in
set_option maxHeartbeats 1000000 in
/-- slices.Backward over []int. -/
theorem back_ix (Bs len cap : Nat) (p : Option Addr) (V : Nat → Int → Prop) (Rd : World → Prop) (hlen : len ≤ 3000)
    (hRd : ∀ W, Rd W → W.cell? ⟨Bs, 0, none⟩ = some (.slice p len cap) ∧ ∀ i, i < len → ∃ b off x, p = some ⟨b, off, none⟩ ∧ V i x ∧ W.cell? ⟨b, off + i, none⟩ = some (.int .i64 x)) :
    IterC Fence.wide 2 Tryz.prog 182 #[.pointer (some ⟨Bs, 0, none⟩)] Rd (fun k args => ∃ x, args = #[.int .i64 ((len - 1 - k : Nat) : Int), .int .i64 x] ∧ V (len - 1 - k) x) len := by
  intro l J Jx W hJr _ hY h0
  refine callsIn_of_wp Tryz.func182 rfl trivial ?_ rfl
  simp only [Tryz.ntmps182, List.size_toArray, List.length_cons, List.length_nil, Nat.reduceAdd, Nat.reduceSub, Array.replicate_succ, Array.replicate_zero, List.push_toArray, List.append_toArray, List.nil_append, List.cons_append]
  have hb := (hRd W (hJr 0 W h0)).1
  have HRd := Lib.hid hRd; clear hRd
  have HY := Lib.hid hY; clear hY
  have HJR := Lib.hid hJr; clear hJr
  gi_wp2
  gi_loopw [3] (fun i wr => ∃ (k : Nat), k ≤ len ∧ i = .int .i64 ((len : Int) - 1 - k) ∧ Hid (J k wr))
    (fun i _ => (RowKit.intOf i + 1).toNat)
  case atStart => exact ⟨0, Nat.zero_le _, by simp, h0⟩
  case round =>
    clear hb
    obtain ⟨k, hk, rfl, hJ⟩ := hrel
    by_cases hlt : k < len
    · obtain ⟨hbox, hcs⟩ := HRd.out wr (HJR.out k wr hJ.out)
      obtain ⟨b, off, x, rfl, hV, hcell⟩ := hcs (len - 1 - k) (by omega)
      obtain ⟨fn, tmps, assign, body, hy, hR⟩ := HY.out k _ wr hJ.out hlt ⟨x, rfl, hV⟩
      clear hcs hV
      have hi2 : (((len - 1 - k : Nat) : Int)) = (len : Int) - 1 - k := by omega
      rw [hi2] at hy
      clear hi2
      gi_wp2
      refine hR.mono ?_
      rintro e W3 (⟨rfl, hJ3⟩ | ⟨rfl, hJx3⟩)
      · have HJ3 := Lib.hid hJ3; clear hJ3
        gi_wp2
        go_roundw
        case rel => exact ⟨k + 1, by omega, by first | go_num | (simp; omega), HJ3.out⟩
        case measure => simp [RowKit.intOf]; omega
      · have HJx3 := Lib.hid hJx3; clear hJx3
        gi_wp2
        refine bodyPost_ret (results_none rfl _ _ _) rfl ?_
        exact ⟨⟨_, rfl⟩, .inr HJx3.out⟩
    · obtain rfl : k = len := by omega
      gi_wp2
      go_end0
      exact ⟨⟨_, rfl⟩, .inl hJ.out⟩

/-- THE LOOP over slices.Backward, an outermost one. -/
theorem back_loop {g : Operand} {ps : Array Tmp} {assign body : Code} {Q : Exit → Act → World → Prop} {a : Act} {w : World}
    (Bs len cap : Nat) (p : Option Addr) (V : Nat → Int → Prop) (Rd : World → Prop) (hlen : len ≤ 3000)
    (hRdc : ∀ W, Rd W → W.cell? ⟨Bs, 0, none⟩ = some (.slice p len cap) ∧ ∀ i, i < len → ∃ b off x, p = some ⟨b, off, none⟩ ∧ V i x ∧ W.cell? ⟨b, off + i, none⟩ = some (.int .i64 x))
    (hg : a.eval g = .func (.func 182) #[] #[.pointer (some ⟨Bs, 0, none⟩)]) (hps : ps.size = 2)
    {B : Nat} (hB : B ≤ w.heap.size) (I : Nat → World → Prop) (Ix : Code → Nat → World → Prop) (hI : ∀ k W W', I k W → CellsKept W W' → Below B W W' → I k W') (hIx : ∀ c k W W', Ix c k W → CellsKept W W' → Below B W W' → Ix c k W')
    (hRd : ∀ k W, I k W → Rd W) (h0 : I 0 w) (a₁ : Nat → Int → Act)
    (hassign : ∀ (l j : Nat) (x : Int) (W : World) (K : Act → World → Prop), K (a₁ j x) W →
      assign.wpIn (Fence.wide.inRound l) 1 Tryz.prog (Exit.then K (fun _ _ _ => False)) { tmps := (ps.zip #[.int .i64 (j : Int), .int .i64 x]).foldl (fun t (p, v) => t.setIfInBounds p v) a.tmps, defers := [] } W)
    (hbody : ∀ (l k j : Nat) (x : Int) (W : World), w.heap.size ≤ l → (∃ r, W.heap[l]? = some (.loop r)) → I k W → k < len → j = len - 1 - k → V j x → body.wpIn (Fence.wide.inRound l) 1 Tryz.prog (postIx w.heap.size I Ix k W) (a₁ j x) W)
    (hdone : ∀ (D : Nat) (W : World), w.heap.size ≤ D → I len W → W.heap[D]? = some (.deferred (some [])) → Q .normal { a with defers := { target := .collected D, args := #[] } :: a.defers } W)
    (hstop : ∀ (D : Nat) (c : Code) (k : Nat) (W : World), w.heap.size ≤ D → Ix c k W → W.heap[D]? = some (.deferred (some [])) → c.wpIn Fence.wide 3 Tryz.prog Q { a with defers := { target := .collected D, args := #[] } :: a.defers } W) :
    (Code.rangeFunc g ps assign body).wpIn Fence.wide 3 Tryz.prog Q a w :=
  range_ix (n := 3) rfl (by omega) hg trivial (enters_of Tryz.func182 (by kernel_rfl) rfl) (back_ix Bs len cap p V Rd hlen hRdc)
    (fun k args h => by obtain ⟨x, rfl, _⟩ := h; exact hps.symm) hB I Ix hI hIx hRd h0 (fun _ args => a₁ ((args.getD 0 undef) |> RowKit.intOf).toNat (RowKit.intOf (args.getD 1 undef)))
    (fun l k args W K h hK => by obtain ⟨x, rfl, _⟩ := h; exact hassign l (len - 1 - k) x W K (by simpa [RowKit.intOf] using hK))
    (fun l k args W h1 h2 h3 h4 h5 => by obtain ⟨x, rfl, hV⟩ := h5; simpa [RowKit.intOf] using hbody l k (len - 1 - k) x W h1 h2 h3 h4 rfl hV)
    hdone hstop
end Go.Proofs.YtapfekcbbhhieaaGreatDoor
