/-
  integer.trim, limb, plus, minus, combine, times.
  integer.times.
  slices.Backward over []int: the iterator's contract, whatever the loop's body does.
  Regions that draw their order, inside the round of a loop over a function: each order that the text allows is the text's own, where the operations only read and call, up to a last chain of operations.
-/
import Derived.Test.YtapfekcbbhhieaaGreatDoorS02
import Derived.Deep.Quiet
import Derived.RangeFuncNested
import Derived.RangeFuncBound
import Derived.RangeFuncCalls
import Derived.RangeFuncLeaves
import Derived.RangeFuncBox
import Derived.RangeFuncWrites
import Derived.Shelf.Abstract
import Derived.Shelf.RegionOpen
import Derived.OwnWalkIn
import Derived.TacticsInMore
import Derived.LoopNIn
import Derived.LoopIn
import Derived.Sort.EveryDepth
import Derived.OrdersIn
import Derived.Orders
import Derived.OrdersHeld
import Derived.StillTail
import Derived.StillTailTactics
import Derived.Deep.QuietTactic
namespace Go.Proofs.YtapfekcbbhhieaaGreatDoor
open Go.RowKit Lib Str Limb

set_option maxHeartbeats 400000 in
/-- integer.trim. -/
theorem trim_any (v : Value) (l : List Nat) (w : World) (h : Sl w v (l.map I)) (hl : l.length ≤ 3000) :
    Calls Tryz.prog 102 #[v] w fun e w' => e = .returned (cutTo v (trimL l).length) ∧ w = w' := by
  rcases h.cases with ⟨h0, p, cap, rfl⟩ | ⟨h0, b, off, cap, rfl, hcap, hb, hc⟩
  · have : l = [] := by simpa using h0
    subst this
    go_enter Tryz.func102, Tryz.ntmps102
    go_wp2
    go_loop [0] (fun s => s = .slice p 0 cap) (fun _ => 0)
    case atStart => rfl
    case round =>
      subst hrel
      go_wp2
      go_ret
      exact ⟨rfl, rfl⟩
  · rw [List.length_map] at hcap ⊢
    have HC := Lib.hid hc; clear hc h
    go_enter Tryz.func102, Tryz.ntmps102
    go_wp2
    go_loop [0] (fun s => ∃ k : Nat, k ≤ l.length ∧ s = .slice (some ⟨b, off, none⟩) k cap ∧ Hid (trimL (l.take k) = trimL l)) (fun s => slLen s)
    case atStart => exact ⟨l.length, Nat.le_refl _, rfl, by show trimL (l.take l.length) = _; rw [List.take_length]⟩
    case round =>
      obtain ⟨k, hk, rfl, ht⟩ := hrel
      rcases Nat.eq_zero_or_pos k with rfl | hp
      · have e : (trimL l).length = 0 := by rw [← ht.out]; simp [trimL_nil]
        have E := Lib.hid e; clear e
        go_wp2
        go_ret
        exact ⟨by rw [E.out]; rfl, rfl⟩
      · obtain ⟨m, rfl⟩ : ∃ m, k = m + 1 := ⟨k - 1, by omega⟩
        have hm : m < l.length := by omega
        have hx : l[m]? = some l[m] := by simp [hm]
        have hcell := HC.out m (I l[m]) (by simp [hm])
        have hsn : trimL (l.take (m + 1)) = trimL (l.take m ++ [l[m]]) := by rw [List.take_succ_eq_append_getElem hm]
        by_cases hz : l[m] = 0
        · rw [hz] at hcell hsn
          have HS : Hid (trimL (l.take m) = trimL l) := by rw [← ht.out, hsn, trimL_zero]; rfl
          clear hsn hx hz ht
          go_wp2
          go_round
          case rel => exact ⟨m, by omega, rfl, HS⟩
          case measure => simp [slLen]
        · have HS : Hid ((trimL l).length = m + 1) := by
            rw [← ht.out, hsn, trimL_nz _ hz]; show (l.take m ++ [l[m]]).length = m + 1
            simp; omega
          have hz' : (((l[m] : Nat) : Int) == 0) = false := by rw [beq_eq_false_iff_ne]; omega
          clear hsn hx ht
          go_wp2
          go_ret
          exact ⟨by rw [HS.out]; rfl, rfl⟩

theorem trim_sl (p : Option Addr) (n cap : Nat) (l : List Nat) (w : World) (h : Sl w (.slice p n cap) (l.map I)) (hl : l.length ≤ 3000) :
    Calls Tryz.prog 102 #[.slice p n cap] w fun e w' => e = .returned (.slice p (trimL l).length cap) ∧ w = w' := trim_any _ l w h hl

set_option maxHeartbeats 400000 in
/-- integer.limb. -/
theorem limb_any (v : Value) (l : List Nat) (i : Nat) (w : World) (h : Sl w v (l.map I)) (hl : l.length ≤ 3000) :
    Calls Tryz.prog 105 #[v, I i] w fun e w' => e = .returned (I (l[i]?.getD 0)) ∧ w = w' := by
  by_cases hi : i < l.length
  · rcases h.cases with ⟨h0, p, cap, rfl⟩ | ⟨h0, b, off, cap, rfl, hcap, hb, hc⟩
    · have : l = [] := by simpa using h0
      subst this; simp at hi
    · have hcell := hc i (I (l[i]?.getD 0)) (by simp [hi])
      clear hc h
      rw [List.length_map]
      generalize l[i]?.getD 0 = x at *
      go_enter Tryz.func105, Tryz.ntmps105
      go_wp2
      go_ret
      exact ⟨rfl, rfl⟩
  · have : l[i]?.getD 0 = 0 := by rw [List.getElem?_eq_none (by omega)]; rfl
    rw [this]
    obtain ⟨p, cap, rfl, hcap, _⟩ := h
    rw [List.length_map]
    go_enter Tryz.func105, Tryz.ntmps105
    go_wp2
    go_ret
    exact ⟨rfl, rfl⟩

/-- The base of the limbs. -/
def B9 : Nat := 1000000000

theorem infoInt : (Tryz.prog.info? 3).map (fun i => (i.zero, i.size, i.bytes)) = some (some (.int .i64 0), 1, 8) := by kernel_rfl

/-- A slice of the call's own that reads as a list. -/
def OwnRes (w : World) (l : List Nat) (e : Ending) (w' : World) : Prop :=
  ∃ v, e = .returned v ∧ w'.ownsRow w.heap.size 3 1 v l.length (l.map I) ∧ Below w.heap.size w w'

theorem ownsRow_trim {w : World} {base k : Nat} {v : Value} {o : List Nat} (h : w.ownsRow base 3 1 v k (o.map I)) (hk : o.length = k) :
    w.ownsRow base 3 1 (cutTo v (trimL o).length) (trimL o).length ((trimL o).map I) := by
  have ht := trimL_len o
  obtain ⟨hl, h⟩ := h
  refine ⟨by simp, ?_⟩
  rcases h with ⟨rfl, rfl⟩ | ⟨g, cap, cur, rfl, hb, hg, hn, hm, hs, e⟩
  · have := List.length_eq_zero_iff.1 hk
    subst this
    exact .inl ⟨rfl, rfl⟩
  · refine .inr ⟨g, cap, cur, rfl, hb, hg, by omega, hm, hs, ?_⟩
    conv => rhs; rw [trimL_take]
    rw [List.map_take, ← e, List.take_take]
    congr 1; omega

set_option maxHeartbeats 400000 in
/-- integer.plus. -/
theorem plus_any (x y c : Nat) (hx : x < B9) (hy : y < B9) (hc : c ≤ 1) (w : World) :
    Calls Tryz.prog 93 #[I x, I y, I c] w fun e w' => e = .returned (.tuple #[I (plusF B9 x y c).1, I (plusF B9 x y c).2]) ∧ w = w' := by
  unfold B9 at *
  go_enter Tryz.func93, Tryz.ntmps93
  go_wp2
  go_ret2
  exact ⟨by simp [plusF], rfl⟩

set_option maxHeartbeats 400000 in
/-- integer.minus. -/
theorem minus_any (x y c : Nat) (hx : x < B9) (hy : y < B9) (hc : c ≤ 1) (w : World) :
    Calls Tryz.prog 94 #[I x, I y, I c] w fun e w' => e = .returned (.tuple #[I (minusF B9 x y c).1, I (minusF B9 x y c).2]) ∧ w = w' := by
  unfold B9 at *
  by_cases h : y + c ≤ x
  · have h1 : (0 : Int) ≤ (x : Int) - y - c := by omega
    have e : minusF 1000000000 x y c = (x - y - c, 0) := by unfold minusF; rw [if_pos h]
    have e2 : ((x - y - c : Nat) : Int) = (x : Int) - y - c := by omega
    rw [e]
    have E2 := Lib.hid e2; clear e2 e
    go_enter Tryz.func94, Tryz.ntmps94
    go_wp2
    go_ret2
    exact ⟨by show Ending.returned (.tuple #[.int .i64 _, .int .i64 _]) = Ending.returned (.tuple #[.int .i64 _, .int .i64 _]); rw [E2.out]; rfl, rfl⟩
  · have h1 : (x : Int) - y - c < 0 := by omega
    have e : minusF 1000000000 x y c = (x + 1000000000 - y - c, 1) := by unfold minusF; rw [if_neg h]
    have e2 : ((x + 1000000000 - y - c : Nat) : Int) = (x : Int) - y - c + 1000000000 := by omega
    rw [e]
    have E2 := Lib.hid e2; clear e2 e
    go_enter Tryz.func94, Tryz.ntmps94
    go_wp2
    go_ret2
    exact ⟨by show Ending.returned (.tuple #[.int .i64 _, .int .i64 _]) = Ending.returned (.tuple #[.int .i64 _, .int .i64 _]); rw [E2.out]; rfl, rfl⟩

set_option maxRecDepth 100000 in
set_option maxHeartbeats 1000000 in
/-- integer.combine with integer.plus. -/
theorem combine_plus (va vb : Value) (a b : List Nat) (w : World) (ha : Sl w va (a.map I)) (hb : Sl w vb (b.map I)) (sa : small B9 a) (sb : small B9 b) (la : a.length ≤ 1000) (lb : b.length ≤ 1000) :
    Calls Tryz.prog 92 #[va, vb, .func (.func 93) #[] #[]] w (OwnRes w ((trimL (combTo (plusF B9) a b (max a.length b.length + 1)).1))) := by
  obtain ⟨i0, hi, hz0, hz1, hz2⟩ := info_parts infoInt
  have ha' := ha; have hb' := hb
  obtain ⟨pa, ca, rfl, hca, hcella⟩ := ha
  obtain ⟨pb, cb, rfl, hcb, hcellb⟩ := hb
  have HA := Lib.hid ha'; clear ha' hcella hca
  have HB := Lib.hid hb'; clear hb' hcellb hcb
  have SA := Lib.hid sa; clear sa
  have SB := Lib.hid sb; clear sb
  simp only [List.length_map] at *
  obtain ⟨M, hM⟩ : ∃ M, M = max a.length b.length := ⟨_, rfl⟩
  have HM := Lib.hid hM
  have hmax : max (a.length : Int) (b.length : Int) = (M : Int) := by omega
  have hM2 : M ≤ 1000 := by omega
  rw [← hM]
  clear hM
  go_enter Tryz.func92, Tryz.ntmps92
  go_wp2
  go_loopw [7, 8, 18] (fun v c i wr => ∃ k : Nat, k ≤ M + 1 ∧ i = .int .i64 k ∧ c = I (combTo (plusF B9) a b k).2 ∧ wr.ownsRow w.heap.size 3 1 v k ((combTo (plusF B9) a b k).1.map I) ∧ Below w.heap.size w wr)
    (fun _ _ i _ => M + 1 - (RowKit.intOf i).toNat)
  case atStart => exact ⟨0, Nat.zero_le _, rfl, rfl, World.ownsRow_nil _ _ _ _, Below.refl _ _⟩
  case round =>
    obtain ⟨k, hk, rfl, rfl, hown, hB⟩ := hrel
    clear hmax
    by_cases hlt : k < M + 1
    · obtain ⟨p1, p2, p3⟩ := plusTo (B := B9) (by decide) SA.out SB.out k
      have hx := small_getD SA.out (by decide) k
      have hy := small_getD SB.out (by decide) k
      have hst : combTo (plusF B9) a b (k + 1) = ((combTo (plusF B9) a b k).1 ++ [(plusF B9 (a[k]?.getD 0) (b[k]?.getD 0) (combTo (plusF B9) a b k).2).1], (plusF B9 (a[k]?.getD 0) (b[k]?.getD 0) (combTo (plusF B9) a b k).2).2) := rfl
      have HST := Lib.hid hst; clear hst p1 p3
      generalize (combTo (plusF B9) a b k).1 = o at *
      generalize (combTo (plusF B9) a b k).2 = c at *
      have HW := HA.out.below hB
      go_wp2_with fail
      refine (limb_any _ a k wr (HA.out.below hB) (by omega)).mono ?_
      rintro e w1 ⟨rfl, rfl⟩
      go_wp2_with fail
      refine (limb_any _ b k wr (HB.out.below hB) (by omega)).mono ?_
      rintro e w1 ⟨rfl, rfl⟩
      go_wp2_with fail
      refine (plus_any (a[k]?.getD 0) (b[k]?.getD 0) c hx hy p2 wr).mono ?_
      rintro e w1 ⟨rfl, rfl⟩
      go_wp2_with (at_builtin; refine wpList_append_own _ rfl _ _ 93 rfl w.heap.size 3 i0 (.int .i64 0) 1 8 Tryz.underlying93 hi hz0 hz1 hz2 rfl (by decide) _ _ _ rfl (hown.alloc _) ⟨wr.heap.size, 0, none⟩ 1 1 [I (plusF B9 (a[k]?.getD 0) (b[k]?.getD 0) c).1] rfl rfl (news_one _ _ _) (one_int _) (by unfold maxLen; omega) (by omega) (by have := hB.size; simp; omega) ?_)
      intro v' w1 hown' hgrow _
      have hB1 : Below w.heap.size w w1 := (hB.alloc hB.size _).grown hgrow (by have := hB.size; simp; omega) (fun q e => (hown.lt q e).1)
      clear hgrow hB hown
      go_wp2
      go_roundw
      case rel => exact ⟨k + 1, by omega, by go_num, by rw [HST.out], by rw [HST.out]; simpa using hown', hB1⟩
      case measure => simp [RowKit.intOf]; omega
    · have hk' : k = M + 1 := by omega
      have hl : (combTo (plusF B9) a b k).1.length = k := combTo_len _ _ _ _
      have HK := Lib.hid hk'; clear hk'
      obtain ⟨o, ho⟩ : ∃ o, o = (combTo (plusF B9) a b k).1 := ⟨_, rfl⟩
      rw [← ho] at hown hl
      have HO := Lib.hid ho; clear ho
      have HL := Lib.hid hl; clear hl
      go_wp2_with fail
      refine (trim_any _ o wr (Sl.of_own hown) (by rw [HL.out]; omega)).mono ?_
      rintro e w1 ⟨rfl, rfl⟩
      go_wp2_with fail
      go_ret
      rw [← HK.out, ← HO.out]
      exact ⟨_, rfl, ownsRow_trim hown HL.out, hB⟩

set_option maxRecDepth 100000 in
set_option maxHeartbeats 1000000 in
/-- integer.combine with integer.minus. -/
theorem combine_minus (va vb : Value) (a b : List Nat) (w : World) (ha : Sl w va (a.map I)) (hb : Sl w vb (b.map I)) (sa : small B9 a) (sb : small B9 b) (la : a.length ≤ 1000) (lb : b.length ≤ 1000) :
    Calls Tryz.prog 92 #[va, vb, .func (.func 94) #[] #[]] w (OwnRes w ((trimL (combTo (minusF B9) a b (max a.length b.length + 1)).1))) := by
  obtain ⟨i0, hi, hz0, hz1, hz2⟩ := info_parts infoInt
  have ha' := ha; have hb' := hb
  obtain ⟨pa, ca, rfl, hca, hcella⟩ := ha
  obtain ⟨pb, cb, rfl, hcb, hcellb⟩ := hb
  have HA := Lib.hid ha'; clear ha' hcella hca
  have HB := Lib.hid hb'; clear hb' hcellb hcb
  have SA := Lib.hid sa; clear sa
  have SB := Lib.hid sb; clear sb
  simp only [List.length_map] at *
  obtain ⟨M, hM⟩ : ∃ M, M = max a.length b.length := ⟨_, rfl⟩
  have HM := Lib.hid hM
  have hmax : max (a.length : Int) (b.length : Int) = (M : Int) := by omega
  have hM2 : M ≤ 1000 := by omega
  rw [← hM]
  clear hM
  go_enter Tryz.func92, Tryz.ntmps92
  go_wp2
  go_loopw [7, 8, 18] (fun v c i wr => ∃ k : Nat, k ≤ M + 1 ∧ i = .int .i64 k ∧ c = I (combTo (minusF B9) a b k).2 ∧ wr.ownsRow w.heap.size 3 1 v k ((combTo (minusF B9) a b k).1.map I) ∧ Below w.heap.size w wr)
    (fun _ _ i _ => M + 1 - (RowKit.intOf i).toNat)
  case atStart => exact ⟨0, Nat.zero_le _, rfl, rfl, World.ownsRow_nil _ _ _ _, Below.refl _ _⟩
  case round =>
    obtain ⟨k, hk, rfl, rfl, hown, hB⟩ := hrel
    clear hmax
    by_cases hlt : k < M + 1
    · obtain ⟨p1, p2, p3⟩ := minusTo (B := B9) (by decide) SA.out SB.out k
      have hx := small_getD SA.out (by decide) k
      have hy := small_getD SB.out (by decide) k
      have hst : combTo (minusF B9) a b (k + 1) = ((combTo (minusF B9) a b k).1 ++ [(minusF B9 (a[k]?.getD 0) (b[k]?.getD 0) (combTo (minusF B9) a b k).2).1], (minusF B9 (a[k]?.getD 0) (b[k]?.getD 0) (combTo (minusF B9) a b k).2).2) := rfl
      have HST := Lib.hid hst; clear hst p1 p3
      generalize (combTo (minusF B9) a b k).1 = o at *
      generalize (combTo (minusF B9) a b k).2 = c at *
      have HW := HA.out.below hB
      go_wp2_with fail
      refine (limb_any _ a k wr (HA.out.below hB) (by omega)).mono ?_
      rintro e w1 ⟨rfl, rfl⟩
      go_wp2_with fail
      refine (limb_any _ b k wr (HB.out.below hB) (by omega)).mono ?_
      rintro e w1 ⟨rfl, rfl⟩
      go_wp2_with fail
      refine (minus_any (a[k]?.getD 0) (b[k]?.getD 0) c hx hy p2 wr).mono ?_
      rintro e w1 ⟨rfl, rfl⟩
      go_wp2_with (at_builtin; refine wpList_append_own _ rfl _ _ 93 rfl w.heap.size 3 i0 (.int .i64 0) 1 8 Tryz.underlying93 hi hz0 hz1 hz2 rfl (by decide) _ _ _ rfl (hown.alloc _) ⟨wr.heap.size, 0, none⟩ 1 1 [I (minusF B9 (a[k]?.getD 0) (b[k]?.getD 0) c).1] rfl rfl (news_one _ _ _) (one_int _) (by unfold maxLen; omega) (by omega) (by have := hB.size; simp; omega) ?_)
      intro v' w1 hown' hgrow _
      have hB1 : Below w.heap.size w w1 := (hB.alloc hB.size _).grown hgrow (by have := hB.size; simp; omega) (fun q e => (hown.lt q e).1)
      clear hgrow hB hown
      go_wp2
      go_roundw
      case rel => exact ⟨k + 1, by omega, by go_num, by rw [HST.out], by rw [HST.out]; simpa using hown', hB1⟩
      case measure => simp [RowKit.intOf]; omega
    · have hk' : k = M + 1 := by omega
      have hl : (combTo (minusF B9) a b k).1.length = k := combTo_len _ _ _ _
      have HK := Lib.hid hk'; clear hk'
      obtain ⟨o, ho⟩ : ∃ o, o = (combTo (minusF B9) a b k).1 := ⟨_, rfl⟩
      rw [← ho] at hown hl
      have HO := Lib.hid ho; clear ho
      have HL := Lib.hid hl; clear hl
      go_wp2_with fail
      refine (trim_any _ o wr (Sl.of_own hown) (by rw [HL.out]; omega)).mono ?_
      rintro e w1 ⟨rfl, rfl⟩
      go_wp2_with fail
      go_ret
      rw [← HK.out, ← HO.out]
      exact ⟨_, rfl, ownsRow_trim hown HL.out, hB⟩

end Go.Proofs.YtapfekcbbhhieaaGreatDoor

namespace Go.Proofs.YtapfekcbbhhieaaGreatDoor
open Go.RowKit Lib Str Limb

set_option maxRecDepth 100000 in
set_option maxHeartbeats 2000000 in
/-- integer.times. -/
theorem times_any (va vb : Value) (a b : List Nat) (w : World) (ha : Sl w va (a.map I)) (hb : Sl w vb (b.map I)) (sa : small B9 a) (sb : small B9 b) (la : a.length ≤ 1000) (lb : b.length ≤ 1000) :
    Calls Tryz.prog 62 #[va, vb] w (OwnRes w (trimL (timesTo B9 a b a.length))) := by
  obtain ⟨i0, hi, hz0, hz1, hz2⟩ := info_parts infoInt
  have ha' := ha; have hb' := hb
  obtain ⟨pa, ca, rfl, hca, hcella⟩ := ha
  obtain ⟨pb, cb, rfl, hcb, hcellb⟩ := hb
  have HA := Lib.hid ha'; clear ha' hcella hca
  have HB := Lib.hid hb'; clear hb' hcellb hcb
  have SA := Lib.hid sa; clear sa
  have SB := Lib.hid sb; clear sb
  simp only [List.length_map] at *
  go_enter Tryz.func62, Tryz.ntmps62
  go_wp2_with (at_make; refine wpList_make_full _ rfl _ _ 93 rfl w.heap.size 3 i0 (.int .i64 0) 1 Tryz.underlying93 hi hz0 hz1 .i64 .i64 _ _ (a.length + b.length + 1) rfl rfl (by omega) (by omega) (by rw [hz2]; omega) (by unfold maxLen; omega) (Nat.le_refl _) ?_)
  intro w0 hown hgrow
  rw [toList_madeCells_one, ← show (List.replicate (a.length + b.length + 1) 0).map I = List.replicate (a.length + b.length + 1) (.int .i64 0) by simp] at hown
  obtain ⟨hrow, -⟩ := Row.of_own hown
  have hB0 : Below w.heap.size w w0 := (Below.refl _ _).grown hgrow (Nat.le_refl _) (fun _ e => by cases e)
  clear hown hgrow
  obtain ⟨N, hN⟩ : ∃ N, N = a.length + b.length + 1 := ⟨_, rfl⟩
  have hN2 : (a.length : Int) + b.length + 1 = N := by omega
  rw [← hN] at hrow ⊢
  have HN := Lib.hid hN; clear hN
  obtain ⟨g, hg⟩ : ∃ g, g = w.heap.size := ⟨_, rfl⟩
  rw [← hg] at hrow ⊢
  have HG := Lib.hid hg; clear hg
  clear hN2
  go_wp2
  go_loopw [20] (fun i wr => ∃ k : Nat, k ≤ a.length ∧ i = .int .i64 k ∧ Row wr g N (timesTo B9 a b k) ∧ Below w.heap.size w wr)
    (fun i _ => a.length - (RowKit.intOf i).toNat)
  case atStart => exact ⟨0, Nat.zero_le _, rfl, by rw [timesTo, ← HN.out]; exact hrow, hB0⟩
  case round =>
    clear hrow hB0
    obtain ⟨i, hk, rfl, hrow, hB⟩ := hrel
    by_cases hlt : i < a.length
    · obtain ⟨ba, offa, rfl, hba, hcapa, hcx⟩ := (HA.out.below hB).at hlt
      have hxs := small_getD SA.out (by decide) i
      obtain ⟨ts1, ts2, -⟩ := timesTo_spec (B := B9) (by decide) SA.out SB.out i hk
      have hst : timesTo B9 a b (i + 1) = (rowTo B9 (a[i]?.getD 0) b i (timesTo B9 a b i) (b.length + 1)).1 := rfl
      rw [← HN.out] at ts1
      have HST := Lib.hid hst; clear hst
      generalize timesTo B9 a b i = L at *
      generalize a[i]?.getD 0 = x at *
      have TS1 := Lib.hid ts1; clear ts1
      have TS2 := Lib.hid ts2; clear ts2
      have hx' : x < 1000000000 := hxs
      clear hxs
      go_wp2
      obtain ⟨wo, hwo⟩ : ∃ wo : World, wo = wr := ⟨_, rfl⟩
      have HWO := Lib.hid hwo; clear hwo
      go_loopw [8, 28] (fun c j wr => ∃ k : Nat, k ≤ b.length + 1 ∧ j = .int .i64 k ∧ c = I (rowTo B9 x b i L k).2 ∧ Row wr g N (rowTo B9 x b i L k).1 ∧ Below w.heap.size w wr)
        (fun _ j _ => b.length + 1 - (RowKit.intOf j).toNat)
      case atStart => exact ⟨0, Nat.zero_le _, rfl, rfl, hrow, hB⟩
      case round =>
        clear hrow hB hcx
        obtain ⟨k, hkk, rfl, rfl, hrow, hB⟩ := hrel
        have HN3 : N = a.length + b.length + 1 := HN.out
        by_cases hlk : k < b.length + 1
        · obtain ⟨r1, r2, r3, -⟩ := rowTo_spec (B := B9) (by decide) (show x < B9 from hx') SB.out i TS2.out k (by rw [TS1.out]; omega)
          have hys := small_getD SB.out (by decide) k
          have hst : rowTo B9 x b i L (k + 1) = ((rowTo B9 x b i L k).1.set (i + k) (((rowTo B9 x b i L k).1[i + k]?.getD 0 + x * b[k]?.getD 0 + (rowTo B9 x b i L k).2) % B9), ((rowTo B9 x b i L k).1[i + k]?.getD 0 + x * b[k]?.getD 0 + (rowTo B9 x b i L k).2) / B9) := rfl
          have HST2 := Lib.hid hst; clear hst
          generalize rowTo B9 x b i L k = r at *
          obtain ⟨l, c⟩ := r
          dsimp only at *
          have hlen : i + k < l.length := by rw [r1, TS1.out]; omega
          have hcell := hrow.cell (getD_some hlen)
          have hfz := hrow.frozen (i + k)
          have hzs := small_getD r2 (by decide) (i + k)
          have hc' : c < 1000000000 := r3
          have hz' : l[i + k]?.getD 0 < 1000000000 := hzs
          have hy' : b[k]?.getD 0 < 1000000000 := hys
          have hb2 : i + k < N := by omega
          have hiN : (0 : Int) ≤ (i : Int) + k := by omega
          have hiN2 : (i : Int) + k < N := by omega
          have hyq := fun W => limb_any (.slice pb b.length cb) b k W
          have HYQ := Lib.hid hyq; clear hyq
          have HROW := Lib.hid hrow
          have HL := Lib.hid hlen
          clear r1 r2 r3 hzs hys hrow hlen HN3
          generalize hzz : l[i + k]?.getD 0 = z at *
          have HZZ := Lib.hid hzz; clear hzz
          go_wp2
          have hp0 : (0 : Int) ≤ (x : Int) * (b[k]?.getD 0 : Nat) := by rw [← Int.natCast_mul]; omega
          have hp1 : (x : Int) * (b[k]?.getD 0 : Nat) ≤ 999999998000000001 := by
            have := Nat.mul_le_mul (show x ≤ 999999999 by omega) (show b[k]?.getD 0 ≤ 999999999 by omega)
            rw [← Int.natCast_mul]; omega
          generalize b[k]?.getD 0 = y at *
          have e1 : IntKind.i64.wrap ((x : Int) * y) = (x : Int) * y := IntWalk.i64_in _ (by omega)
          have e2 : IntKind.i64.wrap ((z : Int) + (x : Int) * y) = (z : Int) + (x : Int) * y := IntWalk.i64_in _ (by omega)
          have e3 : IntKind.i64.wrap ((z : Int) + (x : Int) * y + c) = (z : Int) + (x : Int) * y + c := IntWalk.i64_in _ (by omega)
          have e4 : IntKind.i64.wrap ((i : Int) + k) = (i : Int) + k := IntWalk.i64_in _ (by omega)
          have e5 : ((i : Int) + k).toNat = i + k := by omega
          go_quiet ((go_at_call 105; exact Calls.quiet_of_same (same_q (HYQ.out _ ((HB.out.below (hB.trans (below_drewN (Below.refl _ _) _)))) (by omega)))))
          clear e1 e2 e3 e4 e5
          go_wp2
          go_roundw
          case rel =>
            refine ⟨k + 1, by omega, by go_num, ?_, ?_, ?_⟩
            · rw [HST2.out]; simp [B9]
            · rw [HST2.out]
              have := Row.set (w := wr.drewN nq) (show Row (wr.drewN nq) g N l from HROW.out) (i + k) ((z + x * y + c) % B9)
              have e : I ((z + x * y + c) % B9) = .int .i64 (((z : Int) + x * y + c) % 1000000000) := by simp [I, B9]
              rw [e] at this
              exact this
            · exact (below_drewN hB _).setCell (by rw [HG.out]; exact Nat.le_refl _) _
          case measure => simp [RowKit.intOf]; omega
        · obtain rfl : k = b.length + 1 := by omega
          have HROW := Lib.hid hrow; clear hrow
          go_wp2
          go_roundw
          case rel => exact ⟨i + 1, by omega, by go_num, by rw [HST.out]; exact HROW.out, hB⟩
          case measure => simp [RowKit.intOf]; omega
    · obtain rfl : i = a.length := by omega
      obtain ⟨ts1, ts2, -⟩ := timesTo_spec (B := B9) (by decide) SA.out SB.out a.length hk
      rw [← HN.out] at ts1
      generalize timesTo B9 a b a.length = L at *
      have TS1 := Lib.hid ts1; clear ts1
      have hsl := hrow.sl
      rw [TS1.out] at hsl
      have HSL := Lib.hid hsl; clear hsl
      have HROW := Lib.hid hrow; clear hrow
      go_wp2_with fail
      refine (trim_any _ L wr HSL.out (by rw [TS1.out, HN.out]; omega)).mono ?_
      rintro e w1 ⟨rfl, rfl⟩
      go_wp2_with fail
      go_ret
      have := ownsRow_trim (HROW.out.own (base := w.heap.size) (by rw [HG.out]; exact Nat.le_refl _)) rfl
      rw [TS1.out] at this
      exact ⟨_, rfl, this, hB⟩
end Go.Proofs.YtapfekcbbhhieaaGreatDoor

namespace Go.Proofs.YtapfekcbbhhieaaGreatDoor
open Go.RowKit Go.Shelf
attribute [local go_sem] Oper.semAt_some

/-- The blocks of cells are as they were. -/
def CellsKept (W W' : World) : Prop := ∀ (k : Nat) (cs : Array Value) (t : TypeId) (fz : Nat × Nat), W.heap[k]? = some (Obj.cells cs t fz) → W'.heap[k]? = some (Obj.cells cs t fz)

theorem CellsKept.cell {W W' : World} (h : CellsKept W W') {b o : Nat} {v : Value} (hc : W.cell? ⟨b, o, none⟩ = some v) : W'.cell? ⟨b, o, none⟩ = some v := by
  have hc' := hc
  unfold World.cell? at hc
  cases hb : W.heap[b]? with
  | none => rw [hb] at hc; cases hc
  | some x =>
    rw [hb] at hc
    cases x <;> first | (cases hc; done) | skip
    rw [← hc']
    exact World.cell?_of_block (a := ⟨b, o, none⟩) ((h _ _ _ _ hb).trans hb.symm)
theorem CellsKept.frozen {W W' : World} (h : CellsKept W W') {b o : Nat} {v : Value} (hc : W.cell? ⟨b, o, none⟩ = some v) (hf : W.frozen? ⟨b, o, none⟩ = false) : W'.frozen? ⟨b, o, none⟩ = false := by
  have hc' := hc
  unfold World.cell? at hc
  cases hb : W.heap[b]? with
  | none => rw [hb] at hc; cases hc
  | some x =>
    rw [hb] at hc
    cases x <;> first | (cases hc; done) | skip
    rw [← hf]
    exact World.frozen?_of_block (a := ⟨b, o, none⟩) ((h _ _ _ _ hb).trans hb.symm)
theorem CellsKept.sl {W W' : World} (h : CellsKept W W') {v : Value} {xs : List Value} (hs : Sl W v xs) : Sl W' v xs := by
  obtain ⟨p, cap, e, hcap, hc⟩ := hs
  exact ⟨p, cap, e, hcap, fun i x hx => let ⟨b, off, ep, h'⟩ := hc i x hx; ⟨b, off, ep, h.cell h'⟩⟩
theorem CellsKept.row {W W' : World} (h : CellsKept W W') {g cap : Nat} {l : List Nat} (hs : Row W g cap l) : Row W' g cap l := by
  obtain ⟨cur, hg, hr⟩ := hs
  exact ⟨cur, h _ _ _ _ hg, hr⟩
theorem CellsKept.wd {W W' : World} (h : CellsKept W W') (hs : Wd W) : Wd W' := by
  obtain ⟨ht, m, hm⟩ := hs
  refine ⟨?_, m, h.cell hm⟩
  have hg : Tryz.prog.globalNamed "internal/strconv.uint64pow10" = some 0 := by kernel_rfl
  unfold Lib.TabIs World.var? at *
  rw [hg] at ht ⊢
  simp only [Option.bind_some] at *
  cases hb : W.heap[(0 : Nat)]? with
  | none => rw [hb] at ht; cases ht
  | some x =>
    rw [hb] at ht
    cases x <;> first | (cases ht; done) | skip
    rw [h _ _ _ _ hb]; exact ht

theorem cellsKept_grown {W W' : World} {row : Option Nat} (hg : W.grownBy W' row) (hr : ∀ r, row = some r → ∃ o : Obj, W.heap[r]? = some o ∧ o.isCells = false) : CellsKept W W' := by
  intro k cs t fz hk
  rw [hg.block k (Array.getElem?_eq_some_iff.1 hk).1 (fun e => by
    obtain ⟨o, ho, hc⟩ := hr k e.symm
    rw [hk] at ho; cases ho; cases hc)]
  exact hk

theorem own_of {β : Type} {I : β → World → Prop} (h : ∀ s W W', CellsKept W W' → I s W → I s W') : Own I :=
  fun s W W' row hs hg hr => h s W W' (cellsKept_grown hg hr) hs

theorem keeps_of_below {W W' : World} (h : Below W.heap.size W W') : KeepsOthers W W' :=
  ⟨h.size, fun k o hk _ => by rw [h.block k (Array.getElem?_eq_some_iff.1 hk).1]; exact hk⟩

/-- What has come when k rounds are over. -/
def upto {α : Type} (f : Nat → α) (k : Nat) : List α := (List.range k).map f
theorem upto_succ {α : Type} (f : Nat → α) (k : Nat) : upto f (k + 1) = upto f k ++ [f k] := by simp [upto, List.range_succ]
theorem upto_zero {α : Type} (f : Nat → α) : upto f 0 = [] := rfl
theorem upto_length {α : Type} (f : Nat → α) (k : Nat) : (upto f k).length = k := by simp [upto]

/-- An index and a value. -/
def At (len : Nat) (V : Nat → Int → Prop) : Type := { p : Nat × Int // p.1 < len ∧ V p.1 p.2 }

set_option maxRecDepth 100000 in
set_option maxHeartbeats 2000000 in
theorem back1_in (l Bs len cap : Nat) (p : Option Addr) (V : Nat → Int → Prop) (Rd : World → Prop) (hlen : len ≤ 3000)
    (hRd : ∀ W, Rd W → W.cell? ⟨Bs, 0, none⟩ = some (.slice p len cap) ∧ ∀ i, i < len → ∃ b off x, p = some ⟨b, off, none⟩ ∧ V i x ∧ W.cell? ⟨b, off + i, none⟩ = some (.int .i64 x))
    (J Jx : List (At len V) → World → Prop)
    (hY : ∀ pre x W, J pre W → pre.length < len → YieldAt Fence.wide (2 - 1) Tryz.prog l #[.int .i64 (x.1.1 : Int), .int .i64 x.1.2] W fun e W' =>
      (e = .returned (.bool true) ∧ J (pre ++ [x]) W' ∧ (Rd W → Rd W')) ∨ (e = .returned (.bool false) ∧ Jx (pre ++ [x]) W'))
    (W : World) (hr : Rd W) (h0 : J [] W) :
    CallsIn Fence.wide 2 Tryz.prog 182 #[.func (.yield l) #[] #[], .pointer (some ⟨Bs, 0, none⟩)] W fun e W' => (∃ v, e = .returned v) ∧
      ((∃ ys : List (At len V), ys.map (·.1.1) = upto (fun k => len - 1 - k) len ∧ J ys W') ∨ (∃ pre : List (At len V), (∃ k, k ≤ len ∧ pre.map (·.1.1) = upto (fun k => len - 1 - k) k) ∧ Jx pre W')) := by
  refine callsIn_of_wp Tryz.func182 rfl trivial ?_ rfl
  simp only [Tryz.ntmps182, List.size_toArray, List.length_cons, List.length_nil, Nat.reduceAdd, Nat.reduceSub, Array.replicate_succ, Array.replicate_zero, List.push_toArray, List.append_toArray, List.nil_append, List.cons_append]
  have hb := (hRd W hr).1
  have HRd := Lib.hid hRd; clear hRd
  have HY := Lib.hid hY; clear hY
  gi_wp2
  gi_loopw [3] (fun i wr => ∃ (k : Nat) (pre : List (At len V)), k ≤ len ∧ i = .int .i64 ((len : Int) - 1 - k) ∧ Hid (pre.map (·.1.1) = upto (fun k => len - 1 - k) k) ∧ Hid (J pre wr) ∧ Hid (Rd wr))
    (fun i _ => (RowKit.intOf i + 1).toNat)
  case atStart => exact ⟨0, [], Nat.zero_le _, by simp, rfl, h0, hr⟩
  case round =>
    clear hb
    obtain ⟨k, pre, hk, rfl, hp, hJ, hr'⟩ := hrel
    have hpl : pre.length = k := by have := congrArg List.length hp.out; simpa [upto_length] using this
    by_cases hlt : k < len
    · obtain ⟨hbox, hcs⟩ := HRd.out wr hr'.out
      obtain ⟨b, off, x, rfl, hV, hcell⟩ := hcs (len - 1 - k) (by omega)
      obtain ⟨x0, hx1, hx2⟩ : ∃ x0 : At len V, x0.1.1 = len - 1 - k ∧ x0.1.2 = x := ⟨⟨(len - 1 - k, x), by show len - 1 - k < len; omega, hV⟩, rfl, rfl⟩
      obtain ⟨fn, tmps, assign, body, hy, hR⟩ := HY.out pre x0 wr hJ.out (by rw [hpl]; exact hlt)
      clear hpl hcs hV
      have hi2 : (((len - 1 - k : Nat) : Int)) = (len : Int) - 1 - k := by omega
      rw [hx1, hx2, hi2] at hy
      have HX1 := Lib.hid hx1; clear hi2 hx1 hx2
      gi_wp2
      refine hR.mono ?_
      rintro e W3 (⟨rfl, hJ3, hk3⟩ | ⟨rfl, hJx3⟩)
      · have HJ3 := Lib.hid hJ3; clear hJ3
        have HK3 := Lib.hid hk3; clear hk3
        gi_wp2
        go_roundw
        case rel => exact ⟨k + 1, _, by omega, by first | go_num | (simp; omega), by show List.map _ _ = _; rw [List.map_append, hp.out, upto_succ, ← HX1.out]; rfl, HJ3.out, HK3.out hr'.out⟩
        case measure => simp [RowKit.intOf]; omega
      · have HJx3 := Lib.hid hJx3; clear hJx3
        gi_wp2
        refine bodyPost_ret (results_none rfl _ _ _) rfl ?_
        exact ⟨⟨_, rfl⟩, .inr ⟨_, ⟨k + 1, by omega, by rw [List.map_append, hp.out, upto_succ, ← HX1.out]; rfl⟩, HJx3.out⟩⟩
    · obtain rfl : k = len := by omega
      clear hpl
      gi_wp2
      go_end0
      exact ⟨⟨_, rfl⟩, .inl ⟨_, hp.out, hJ.out⟩⟩

set_option maxHeartbeats 400000 in
/-- slices.Backward: the closure, over the slice in a variable of its own. -/
theorem back_any (v : Value) (w : World) (p : Option Addr) (n cap : Nat) (hv : v = .slice p n cap) :
    Calls Tryz.prog 131 #[v] w fun e w' => e = .returned (.func (.func 182) #[] #[.pointer (some ⟨w.heap.size, 0, none⟩)]) ∧ w.alloc (.cells #[v] 93) = w' := by
  subst hv
  go_enter Tryz.func131, Tryz.ntmps131
  go_wp2
  go_ret
  exact ⟨rfl, rfl⟩

/-- What is asked of a loop over slices.Backward, in a world w. -/
theorem back_stops (Bs len cap : Nat) (p : Option Addr) (V : Nat → Int → Prop) (Rd : World → Prop) (hlen : len ≤ 3000)
    (hRd : ∀ W, Rd W → W.cell? ⟨Bs, 0, none⟩ = some (.slice p len cap) ∧ ∀ i, i < len → ∃ b off x, p = some ⟨b, off, none⟩ ∧ V i x ∧ W.cell? ⟨b, off + i, none⟩ = some (.int .i64 x))
    (w : World) (hw : ∀ W, Below w.heap.size w W → Rd W) :
    SeqStopsK Fence.wide (3 - 1) Tryz.prog 182 #[.pointer (some ⟨Bs, 0, none⟩)] (fun x : At len V => #[Value.int .i64 (x.1.1 : Int), Value.int .i64 x.1.2]) (fun W W' => Rd W → Rd W')
      (fun ys => ys.map (·.1.1) = upto (fun k => len - 1 - k) len) (fun pre => ∃ k, k ≤ len ∧ pre.map (·.1.1) = upto (fun k => len - 1 - k) k) len w :=
  fun l J Jx W hW _ _ hY h0 => back1_in l Bs len cap p V Rd hlen hRd J Jx hY W (hw W hW) h0

/-- THE LOOP over slices.Backward: what its body, its end and its ways out owe. -/
theorem range_back {g : Operand} {ps : Array Tmp} {assign body : Code} {Q : Exit → Act → World → Prop} {a : Act} {w : World}
    (w0 : World) (hB : Below w0.heap.size w0 w) (Bs len cap : Nat) (p : Option Addr) (V : Nat → Int → Prop) (Rd : World → Prop) (hlen : len ≤ 3000)
    (hRd : ∀ W, Rd W → W.cell? ⟨Bs, 0, none⟩ = some (.slice p len cap) ∧ ∀ i, i < len → ∃ b off x, p = some ⟨b, off, none⟩ ∧ V i x ∧ W.cell? ⟨b, off + i, none⟩ = some (.int .i64 x))
    (hw : ∀ W, Below w.heap.size w W → Rd W) (hRk : ∀ W W', CellsKept W W' → Rd W → Rd W')
    (hg : a.eval g = .func (.func 182) #[] #[.pointer (some ⟨Bs, 0, none⟩)]) (hps : ps.size = 2)
    (I : List (At len V) → World → Prop) (Ix : Code → List (At len V) → World → Prop) (hI : ∀ s W W', CellsKept W W' → I s W → I s W') (hIx : ∀ c s W W', CellsKept W W' → Ix c s W → Ix c s W') (h0 : I [] w)
    (a₁ : At len V → Act)
    (hassign : ∀ (l : Nat) (x : At len V) (W : World) (K : Act → World → Prop), K (a₁ x) W →
      assign.wpIn (Fence.wide.inRound l) 1 Tryz.prog (Exit.then K (fun _ _ _ => False)) { tmps := (ps.zip #[Value.int .i64 (x.1.1 : Int), Value.int .i64 x.1.2]).foldl (fun t (p, v) => t.setIfInBounds p v) a.tmps, defers := [] } W)
    (hbody : ∀ (l : Nat) (pre : List (At len V)) (x : At len V) (W : World), I pre W → Below w0.heap.size w0 W → pre.length < len →
      body.wpIn (Fence.wide.inRound l) 1 Tryz.prog (ownPostG w.heap.size (fun W W' => Rd W → Rd W') (fun s W => I s W ∧ Below w0.heap.size w0 W) (fun c s W => Ix c s W ∧ Below w0.heap.size w0 W) (pre ++ [x]) W) (a₁ x) W)
    (hdone : ∀ (D : Nat) (xs : List (At len V)) (W : World), w.heap.size ≤ D → xs.map (·.1.1) = upto (fun k => len - 1 - k) len → I xs W → Below w0.heap.size w0 W → W.heap[D]? = some (.deferred (some [])) →
      Q .normal { a with defers := { target := .collected D, args := #[] } :: a.defers } W)
    (hstop : ∀ (D : Nat) (c : Code) (pre : List (At len V)) (W : World), w.heap.size ≤ D → (∃ k, k ≤ len ∧ pre.map (·.1.1) = upto (fun k => len - 1 - k) k) → Ix c pre W → Below w0.heap.size w0 W → W.heap[D]? = some (.deferred (some [])) →
      c.wpIn Fence.wide 3 Tryz.prog Q { a with defers := { target := .collected D, args := #[] } :: a.defers } W) :
    (Code.rangeFunc g ps assign body).wpIn Fence.wide 3 Tryz.prog Q a w :=
  wpIn_rangeFunc_ownG rfl (by omega) hg trivial (enters_of Tryz.func182 (by kernel_rfl) rfl)
    (back_stops Bs len cap p V Rd hlen hRd w hw) (fun h k x => k (h x))
    (fun W l o o' _ h1 h2 _ hr => hRk W _ (cellsKept_grown (grownBy_putObj' W l o') (fun r e => by cases e; exact ⟨o, h1, h2⟩)) hr)
    (Below.refl _ _) (fun _ => hps.symm)
    (fun s W => I s W ∧ Below w0.heap.size w0 W) (fun c s W => Ix c s W ∧ Below w0.heap.size w0 W)
    (OwnFrom.and ((own_of hI).from _) (ownFrom_below (Nat.le_refl _) hB.size)) (fun c => OwnFrom.and ((own_of (hIx c)).from _) (ownFrom_below (Nat.le_refl _) hB.size))
    ⟨h0, hB⟩ a₁ hassign (fun l pre x W h hp => hbody l pre x W h.1 h.2 hp) (fun D xs W hD hs h hK => hdone D xs W hD hs h.1 h.2 hK) (fun D c pre W hD hs h hK => hstop D c pre W hD hs h.1 h.2 hK)

/-- Behind the loop the block for deferred calls is put away. -/
theorem below_put {w0 W : World} {D : Nat} (h : Below w0.heap.size w0 W) (hD : w0.heap.size ≤ D) (hK : W.heap[D]? = some (.deferred (some []))) : Below w0.heap.size w0 (W.putObj D (.deferred none)) :=
  h.trans (belowK_b (w := w0) (Nat.le_refl _) W D _ _ hD hK rfl rfl)

theorem kept_put {W : World} {D : Nat} (hK : W.heap[D]? = some (.deferred (some []))) : CellsKept W (W.putObj D (.deferred none)) :=
  cellsKept_grown (grownBy_putObj' W D _) (fun r e => by cases e; exact ⟨_, hK, rfl⟩)

/-- What is read of a slice that reads as a list. -/
def RdSl (Bs : Nat) (v : Value) (l : List Nat) (W : World) : Prop := W.cell? ⟨Bs, 0, none⟩ = some v ∧ Sl W v (l.map I)

theorem RdSl.read {Bs cap : Nat} {p : Option Addr} {l : List Nat} {W : World} (h : RdSl Bs (.slice p l.length cap) l W) :
    W.cell? ⟨Bs, 0, none⟩ = some (.slice p l.length cap) ∧ ∀ i, i < l.length → ∃ b off x, p = some ⟨b, off, none⟩ ∧ x = ((l[i]?.getD 0 : Nat) : Int) ∧ W.cell? ⟨b, off + i, none⟩ = some (.int .i64 x) :=
  ⟨h.1, fun i hi => let ⟨b, off, e, _, _, hc⟩ := h.2.at hi; ⟨b, off, _, e, rfl, hc⟩⟩

theorem upto_rev_mem {len i : Nat} (h : i < len) : i ∈ upto (fun k => len - 1 - k) len := by
  simp only [upto, List.mem_map, List.mem_range]; exact ⟨len - 1 - i, by omega, by omega⟩
end Go.Proofs.YtapfekcbbhhieaaGreatDoor

namespace Go.Proofs.YtapfekcbbhhieaaGreatDoor
open Go
variable {P : Program} {ops : Array Oper}

/-- No operation is a 'defer'. -/
def noDefer (ops : Array Oper) : Bool := ops.all fun o => match o.op with | .defer _ => false | _ => true

theorem rowsIn_of {l n : Nat} {row : String} {args : Array Value} {w : World} {R : Value → World → Prop} (h : Rows P row args w R) : RowsIn (Fence.wide.inRound l) n P row args w R := by
  intro c cs _
  obtain ⟨v, w', hR, hs⟩ := h c cs
  exact ⟨v, w', hR, stepsIn_wide.2 hs⟩

theorem wpOpIn_of_wpOp {l n : Nat} (hnd : noDefer ops = true) {i : Nat} {K K' : Act → World → Prop} {Q Q' : Exit → Act → World → Prop} (hQ : ∀ e a w, e ≠ .normal → ¬ Q e a w) {a : Act} {w : World}
    (hK : ∀ a w, K a w → K' a w) (h : wpOp P ops Q i K a w) : wpOpIn (Fence.wide.inRound l) n P ops Q' i K' a w := by
  unfold wpOp at h
  unfold wpOpIn
  cases ho : ops[i]? with
  | none => simp only [ho] at h ⊢; exact hK _ _ h
  | some o =>
    simp only [ho] at h ⊢
    by_cases hw : Region.wanted o (yielded ops a.tmps) = true
    · simp only [hw, if_true] at h ⊢
      have hlet : ¬ LetsOut Q := fun ⟨a', w', hq⟩ => hQ _ _ _ (by intro e; cases e) hq
      rcases h with h | ⟨_, h⟩
      · refine ⟨fun _ _ => trivial, ?_⟩
        have hd : ∀ c, o.op ≠ .defer c := by
          intro c e
          have := Array.all_eq_true'.1 hnd o (Array.mem_of_getElem? ho)
          rw [e] at this; cases this
        rw [Oper.semAt_eq _ _ _ hd]
        unfold Oper.wp at h
        generalize (execOp a.eval o).run P w = r at *
        cases r with
        | ok x w' =>
          cases x <;> simp only [Oper.upon] at h <;> simp only [Oper.uponIn]
          all_goals first
            | exact hK _ _ h
            | (refine ⟨(by intro h'; cases h'), CallsIn.inRound l (callsIn_wide.2 (h.mono ?_))⟩
               intro e w'' he
               cases e with
               | returned v => exact hK _ _ he
               | panicked c => exact absurd he (hQ _ _ _ (by intro e; cases e))
               | outgrown => exact absurd he hlet)
            | (refine ⟨(by intro h'; cases h'), rowsIn_of (h.mono ?_)⟩
               intro v w'' he; exact hK _ _ he)
        | halt x w' =>
          cases x <;> simp only [Oper.upon] at h
          exact absurd h (hQ _ _ _ (by intro e; cases e))
      · exact absurd h hlet
    · simp only [hw, Bool.false_eq_true, if_false] at h ⊢
      exact ⟨fun _ _ => trivial, hK _ _ h⟩

theorem wpAnyIn_of_wpAny {l n : Nat} (hnd : noDefer ops = true) {md : Region.Mode} {Q Q' : Exit → Act → World → Prop} (hQ : ∀ e a w, e ≠ .normal → ¬ Q e a w) (hN : ∀ a w, Q .normal a w → Q' .normal a w) :
    ∀ (fuel : Nat) (listed : Array Bool) (a : Act) (w : World), wpAny P md ops Q fuel listed a w → wpAnyIn (Fence.wide.inRound l) n P md ops Q' fuel listed a w
  | 0, _, _, _, h => ⟨h.1, hN _ _ h.2⟩
  | fuel + 1, _, _, _, h => ⟨fun h0 => hN _ _ (h.1 h0), fun i hi => wpOpIn_of_wpOp hnd hQ (fun a w h => wpAnyIn_of_wpAny hnd hQ hN fuel _ a w h) (h.2 i hi)⟩

/-- A region whose operations only read, or call what only makes memory (the class C of worlds). -/
theorem wpIn_region_quiet {l n id : Nat} {Q : Exit → Act → World → Prop} {a : Act} {w : World} (C : World → Prop) (hm : P.follows .mixedOrders = true) (hB : Region.lexB .any ops = true) (hnd : noDefer ops = true) (hC : C { w with drawn := w.drawn + 1 })
    (h : wpQuiet P ops C (fun a' => ∀ w', C w' → Q .normal a' w') ops.toList a) : (Code.region id ops true).wpIn (Fence.wide.inRound l) n P Q a w := by
  simp only [Region.lexB, Bool.and_eq_true] at hB
  refine wpIn_region_any hm (wpAnyIn_of_wpAny hnd (Q := fun e a w => e = .normal ∧ Q .normal a w) (fun e a w h h' => h h'.1) (fun a w h => h.2) _ _ _ _ ?_)
  refine wpAny_of_quiet (Q := fun a' => ∀ w', C w' → Q .normal a' w') (fun _ w' hw' h => ⟨rfl, h w' hw'⟩) _ _ _ _ hC ?_
  have := wpAnyQ_lex (C := C) (md := .any) hB.1 ops.toList 0 (Array.replicate ops.size false) a (by simp) (by simpa using hB.2) h
  simpa using this

/-- A region whose first n operations only read, and whose others stand in a chain. -/
theorem wpIn_region_still_tail {l m id : Nat} {Q : Exit → Act → World → Prop} {a : Act} {w : World} {ol : List Oper} (n : Nat) (hm : P.follows .mixedOrders = true) (hB : Region.lexTailB .any ol.toArray n = true) (hnd : noDefer ol.toArray = true)
    (h : wpStill P ol.toArray { w with drawn := w.drawn + 1 } (fun a' => wpList P ol.toArray (fun e a w => e = .normal ∧ Q .normal a w) (ol.drop n) a' { w with drawn := w.drawn + 1 }) (ol.take n) a) : (Code.region id ol.toArray true).wpIn (Fence.wide.inRound l) m P Q a w := by
  simp only [Region.lexTailB, Bool.and_eq_true, decide_eq_true_eq] at hB
  obtain ⟨⟨⟨⟨hsel, hn⟩, hs⟩, hc⟩, hlex⟩ := hB
  have hn' : n < ol.length := by simpa using hn
  have htl : (ol.take n).length = n := by simp; omega
  have hdl : (ol.drop n).length = ol.toArray.size - n := by simp
  have inv0 : HeadInv .any ol.toArray n (Array.replicate ol.toArray.size false) :=
    ⟨by simp, fun j oj _ hl => (by rw [getD_replicate_false] at hl; cases hl), fun t _ ht => getD_in (by simpa using ht) (getD_replicate_false _ _)⟩
  have H := wpAnyL_lex (md := .any) (g := ol.toArray.size - n) hsel hs hc hn (ol.take n) 0 _ a (fun j hj => by
    have hj' : j < n := by rw [htl] at hj; exact hj
    simp [hj']) (by simpa using htl) inv0 (by rw [htl]; exact hlex) h
  refine wpIn_region_any hm (wpAnyIn_of_wpAny hnd (Q := fun e a w => e = .normal ∧ Q .normal a w) (fun e a w h h' => h h'.1) (fun a w h => h.2) _ _ _ _ ?_)
  have := wpAny_of_head (Q' := fun e a w => e = .normal ∧ Q .normal a w) (g := ol.toArray.size - n) (fun listed a' hL => by
    have := wpAny_of_seq (md := .any) (Q' := fun e a w => e = .normal ∧ Q .normal a w) (ol.drop n) n listed a' { w with drawn := w.drawn + 1 } (fun j => by simp [List.getElem?_drop]) (by rw [hdl]; exact hL.1) hL.2
    rwa [hdl] at this) _ _ _ H
  rw [htl, show n + (ol.toArray.size - n) = ol.toArray.size by omega] at this
  exact this

/-- The first operations, in the text's order: each leaves its value in every world that meets S, and does nothing else. -/
def wpHeldL (P : Program) (ops : Array Oper) (S : World → Prop) (K : Act → Prop) : List Oper → Act → Prop
  | [], a => K a
  | o :: rest, a => ∃ v, YieldsIf P ops S o v a ∧ wpHeldL P ops S K rest (a.put o.dst v)

theorem wpHeldL_mono {S : World → Prop} {K K' : Act → Prop} (hK : ∀ a, K a → K' a) : ∀ (l : List Oper) (a : Act), wpHeldL P ops S K l a → wpHeldL P ops S K' l a
  | [], _, h => hK _ h
  | _ :: l, _, ⟨v, hy, h⟩ => ⟨v, hy, wpHeldL_mono hK l _ h⟩

theorem wpHeldL_nil {S : World → Prop} {K : Act → Prop} {a : Act} (h : K a) : wpHeldL P ops S K [] a := h
theorem wpHeldL_step {S : World → Prop} {K : Act → Prop} {a : Act} {o : Oper} {l : List Oper} {v : Value} (hw : Region.wanted o (yielded ops a.tmps) = true) (hy : ∀ w, S w → (execOp a.eval o).run P w = .ok (.value v) w)
    (h : wpHeldL P ops S K l (a.put o.dst v)) : wpHeldL P ops S K (o :: l) a := ⟨v, .inl ⟨hw, hy⟩, h⟩

/-- They may be taken first, one behind the other. -/
def heldLex (ops : Array Oper) : Nat → Nat → Array Bool → Bool
  | 0, _, _ => true
  | m + 1, k, listed => Region.free .any ops listed k && (Region.ready .any ops listed).contains k && heldLex ops m (k + 1) (listed.setIfInBounds k true)

/-- What is listed behind them. -/
def listedTo : Nat → Nat → Array Bool → Array Bool
  | 0, _, listed => listed
  | m + 1, k, listed => listedTo m (k + 1) (listed.setIfInBounds k true)

theorem held_head {S : World → Prop} {Q : Exit → Act → World → Prop} {w : World} (hs : Region.noSelect ops = true) (hQ : ∀ c a b w, Q (.panic c) a w → Q (.panic c) b w) (hS : S w) (g : Nat) :
    ∀ (l : List Oper) (k : Nat) (listed : Array Bool) (a : Act), (∀ j, j < l.length → l[j]? = ops[k + j]?) → heldLex ops l.length k listed = true →
      wpHeldL P ops S (fun a' => wpAnyH P .any ops Q S g (listedTo l.length k listed) a' w) l a → wpAnyH P .any ops Q S (l.length + g) listed a w
  | [], k, listed, a, _, _, h => by rw [List.length_nil, Nat.zero_add]; exact h
  | o :: l, k, listed, a, hl, hB, ⟨v, hy, h⟩ => by
    have h0 : ops[k]? = some o := by simpa using (hl 0 (by simp)).symm
    simp only [List.length_cons, heldLex, Bool.and_eq_true] at hB
    rw [List.length_cons, show l.length + 1 + g = (l.length + g) + 1 by omega]
    refine wpAnyH_take h0 hs hB.1.1 hB.1.2 (fun c a w h => hQ c _ _ w h) hy hS ?_
    exact held_head hs hQ hS g l (k + 1) _ _ (fun j hj => by have := hl (j + 1) (by simpa using hj); simpa [Nat.add_assoc, Nat.add_comm 1 j] using this) hB.2 h

/-- The last operations, in their chain; behind each S holds. -/
def wpTailS (P : Program) (ops : Array Oper) (Q : Exit → Act → World → Prop) (S : World → Prop) : List Oper → Act → World → Prop
  | [], a, w => Q .normal a w
  | o :: rest, a, w => if Region.wanted o (yielded ops a.tmps) then o.wp P a w (fun a' w' => S w' ∧ wpTailS P ops Q S rest a' w') Q else S w ∧ wpTailS P ops Q S rest (a.put o.dst undef) w

theorem wpTailS_step {Q : Exit → Act → World → Prop} {S : World → Prop} {o : Oper} {rest : List Oper} {a : Act} {w : World} (hw : Region.wanted o (yielded ops a.tmps) = true)
    (h : ∀ K : Act → World → Prop, (∀ a' w', S w' → wpTailS P ops Q S rest a' w' → K a' w') → o.wp P a w K Q) : wpTailS P ops Q S (o :: rest) a w := by
  simp only [wpTailS, hw, if_true]
  exact h _ fun a' w' h1 h2 => ⟨h1, h2⟩
theorem wpTailS_nil {Q : Exit → Act → World → Prop} {S : World → Prop} {a : Act} {w : World} (h : Q .normal a w) : wpTailS P ops Q S [] a w := h

theorem held_tail {S : World → Prop} {Q : Exit → Act → World → Prop} : ∀ (l : List Oper) (k : Nat) (listed : Array Bool) (a : Act) (w : World), (∀ j, l[j]? = ops[k + j]?) →
    Region.seqB .any ops l.length k listed = true → wpTailS P ops Q S l a w → wpAnyH P .any ops Q S l.length listed a w
  | [], _, _, _, _, _, hB, h => ⟨by simpa [Region.seqB] using hB, h⟩
  | o :: l, k, listed, a, w, hl, hB, h => by
    have h0 : ops[k]? = some o := by simpa using (hl 0).symm
    simp only [List.length_cons, Region.seqB, Bool.and_eq_true, decide_eq_true_eq] at hB
    refine wpAnyH_all hB.1 (by simp) fun i hi => ?_
    have hik : i = k := by simpa using hi
    subst hik
    have hrec : ∀ a' w', (S w' ∧ wpTailS P ops Q S l a' w') → (S w' ∧ wpAnyH P .any ops Q S l.length (listed.setIfInBounds i true) a' w') := fun a' w' h' =>
      ⟨h'.1, held_tail l (i + 1) _ a' w' (fun j => by have := hl (j + 1); simpa [Nat.add_assoc, Nat.add_comm 1 j] using this) hB.2 h'.2⟩
    refine wpOp_mono hrec ?_
    unfold wpOp
    simp only [h0]
    simp only [wpTailS] at h
    by_cases hw : Region.wanted o (yielded ops a.tmps) = true
    · simp only [hw, if_true] at h ⊢; exact .inl h
    · simp only [hw, Bool.false_eq_true, if_false] at h ⊢; exact h

/-- A region whose first n operations read what S names, and whose others stand in a chain that keeps S. -/
theorem wpIn_region_held {l m id : Nat} {Q : Exit → Act → World → Prop} {a : Act} {w : World} {ol : List Oper} (n : Nat) (S : World → Prop) (hm : P.follows .mixedOrders = true)
    (hB : (Region.noSelect ol.toArray && noDefer ol.toArray && decide (n < ol.length) && heldLex ol.toArray n 0 (Array.replicate ol.length false) && Region.seqB .any ol.toArray (ol.length - n) n (listedTo n 0 (Array.replicate ol.length false))) = true)
    (hS : S { w with drawn := w.drawn + 1 })
    (h : wpHeldL P ol.toArray S (fun a' => wpTailS P ol.toArray (fun e a w => e = .normal ∧ Q .normal a w) S (ol.drop n) a' { w with drawn := w.drawn + 1 }) (ol.take n) a) :
    (Code.region id ol.toArray true).wpIn (Fence.wide.inRound l) m P Q a w := by
  simp only [Bool.and_eq_true, decide_eq_true_eq] at hB
  obtain ⟨⟨⟨⟨hsel, hnd⟩, hn⟩, hlex⟩, hseq⟩ := hB
  have htl : (ol.take n).length = n := by simp; omega
  have hdl : (ol.drop n).length = ol.length - n := by simp
  refine wpIn_region_any hm (wpAnyIn_of_wpAny hnd (Q := fun e a w => e = .normal ∧ Q .normal a w) (fun e a w h h' => h h'.1) (fun a w h => h.2) _ _ _ _ (wpAny_of_held _ _ _ _ (S := S) ?_))
  have H := held_head (P := P) (ops := ol.toArray) (S := S) (Q := fun e a w => e = .normal ∧ Q .normal a w) hsel (fun c a b w h => absurd h.1 (by intro e; cases e)) hS (ol.length - n) (ol.take n) 0 (Array.replicate ol.length false) a
    (fun j hj => by have hj' : j < n := by rw [htl] at hj; exact hj
                    simp [hj']) (by rw [htl]; exact hlex) (by
      rw [htl]
      refine wpHeldL_mono ?_ _ _ h
      intro a' h'
      have := held_tail (P := P) (ops := ol.toArray) (Q := fun e a w => e = .normal ∧ Q .normal a w) (S := S) (ol.drop n) n _ a' _ (fun j => by simp [List.getElem?_drop]) (by rw [hdl]; exact hseq) h'
      rwa [hdl] at this)
  rw [htl, show n + (ol.length - n) = ol.length by omega] at H
  simpa using H
end Go.Proofs.YtapfekcbbhhieaaGreatDoor
