/-
  root.native, negative, check.
  root.nativeNormal at a square; rational.Of at an integer.
  From a row's conditions to what the walks ask: the listed variables' cells; a point among the arguments.
  kingpostref02: digits, small, gcd, split.
  kingpostref02.split.
-/
import Derived.Test.YtapfekcbbhhieaaGreatDoorS17
import Derived.Test.YtapfekcbbhhieaaGreatDoorRows
import Derived.Test.YtapfekcbbhhieaaGreatDoorS12
import Derived.ProofKit
import Derived.Lib.LaidU8
import Derived.HandedShaped
import Derived.Lay
import Derived.Shelf.Vars
import Derived.Carry
namespace Go.Proofs.YtapfekcbbhhieaaGreatDoor
open Go.RowKit Go.Shelf Lib Str Limb
attribute [local go_sem] Oper.semAt_some

set_option maxHeartbeats 400000 in
theorem negative_ok (q : Rat) (h : 0 ≤ q.num) (w : World) :
    Calls Tryz.prog 208 #[St (numS q)] w fun e w' => e = .returned (.bool false) ∧ w' = w := by
  have hp : Lib.hasPrefix (numS q) [45] = false := by
    obtain ⟨c, r, e, hc, _⟩ := dec_head q.num.natAbs
    have e1 : itoa q.num = decDigits q.num.natAbs := by
      rcases itoa_form q.num with ⟨_, e⟩ | ⟨h', _⟩
      · exact e
      · omega
    have hc5 : c ≠ 45 := fun h => by subst h; simp at hc
    unfold numS
    rw [e1, e]
    simp [Lib.hasPrefix, List.isPrefixOf, Ne.symm hc5]
  have hc := Tryz.strings_HasPrefix ⟨(numS q).toArray⟩ ⟨#[45]⟩ w
  rw [show (⟨(numS q).toArray⟩ : ByteArray).data.toList = numS q from rfl, show (⟨#[45]⟩ : ByteArray).data.toList = [45] from rfl, hp] at hc
  show Calls _ _ #[.string ⟨(numS q).toArray⟩] _ _
  generalize (⟨(numS q).toArray⟩ : ByteArray) = u at *
  have HC := Lib.hid hc; clear hc hp
  go_enter Tryz.func208, Tryz.ntmps208
  go_wp2_with fail
  refine HC.out.mono ?_
  rintro e w' ⟨rfl, rfl⟩
  go_wp2_with fail
  go_ret
  exact ⟨rfl, rfl⟩

set_option maxHeartbeats 400000 in
theorem native_ok (n : Nat) (hl : (decDigits n).length ≤ 17) (w : World) (hw : Wd w) :
    Calls Tryz.prog 160 #[St (decDigits n)] w fun e w' => e = .returned (.tuple #[I n, .bool true]) ∧ Below w.heap.size w w' := by
  have hc := atoi_b (n : Int) (by rw [Str.itoa_nonneg]; omega) w
  rw [Str.itoa_nonneg] at hc
  have hsz : ¬ (17 : Int) < (⟨(decDigits n).toArray⟩ : ByteArray).size := by
    have : (⟨(decDigits n).toArray⟩ : ByteArray).size = (decDigits n).length := by show (decDigits n).toArray.size = _; simp
    omega
  show Calls _ _ #[.string ⟨(decDigits n).toArray⟩] _ _
  generalize (⟨(decDigits n).toArray⟩ : ByteArray) = u at *
  have HC := Lib.hid hc; clear hc hl
  go_enter Tryz.func160, Tryz.ntmps160
  go_wp2_with fail
  refine HC.out.mono ?_
  rintro e w1 ⟨rfl, hb⟩
  go_wp2_with fail
  (refine wp_region_quiet_lit (by kernel_rfl) (by kernel_rfl) (WQ.out ?_); (repeat (first | (apply WQ.read (by rfl); (focus (rintro W ⟨n, rfl⟩; go_simp; try with_reducible rfl)); try simp only [Act.put, List.setIfInBounds_toArray, List.set_cons_zero, List.set_cons_succ]) | (apply WQ.skip (by rfl); try simp only [Act.put, List.setIfInBounds_toArray, List.set_cons_zero, List.set_cons_succ]))); refine WQ.nil ?_; rintro _ ⟨nq, rfl⟩)
  go_wp2_with fail
  go_ret2
  exact ⟨rfl, Below_drewN hb nq⟩

/-- A pair's box. -/
structure PairS (w : World) (u v : List UInt8) (pb : Nat) (W : World) : Prop where
  bel : Below w.heap.size w W
  lt : pb < W.heap.size
  hp : W.heap[pb]? = some (.cells #[St u, St v] 197 (0, 0))
theorem PairS.next {w : World} {u v : List UInt8} {pb : Nat} {W W' : World} (h : PairS w u v pb W) (hb : Below W.heap.size W W') : PairS w u v pb W' :=
  ⟨h.bel.trans (hb.mono h.bel.size), Nat.lt_of_lt_of_le h.lt hb.size, (hb.block _ h.lt).trans h.hp⟩
theorem PairS.c0 {w : World} {u v : List UInt8} {pb : Nat} {W : World} (h : PairS w u v pb W) : W.cell? ⟨pb, 0, none⟩ = some (St u) := by rw [Go.Joins.cell_of_block h.hp]; rfl
theorem PairS.c1 {w : World} {u v : List UInt8} {pb : Nat} {W : World} (h : PairS w u v pb W) : W.cell? ⟨pb, 1, none⟩ = some (St v) := by rw [Go.Joins.cell_of_block h.hp]; rfl

set_option maxRecDepth 100000 in
set_option maxHeartbeats 2000000 in
theorem rootCheck_walk (p1 p2 : Option Addr) (cap1 cap2 n1 n2 : Nat) (q1 q2 : Nat → Rat) (h1 : n1 ≤ 100) (h2 : n2 ≤ 100)
    (C : Hid (∀ k, k < n1 → ∀ W : World, Wd W → Calls Tryz.prog 65 #[St (numS (q1 k))] W fun e w' => e = .returned (.int .i64 0) ∧ Below W.heap.size W w'))
    (O : Hid (∀ k, k < n1 → ∀ W : World, Wd W → Calls Tryz.prog 159 #[St (numS (q1 k))] W fun e w' => e = .returned (.agg #[St (itoa (q1 k).num), St (decDigits (q1 k).den)]) ∧ Below W.heap.size W w'))
    (Z : Hid (∀ k, k < n1 → digs (q1 k).num ≤ 90 ∧ (decDigits (q1 k).den).length ≤ 90))
    (N : Hid (∀ k, k < n2 → ∀ W : World, Calls Tryz.prog 208 #[St (numS (q2 k))] W fun e w' => e = .returned (.bool false) ∧ w' = W))
    (w : World) (HW : Hid (Wd w)) (HP1 : Hid (RowNums p1 n1 q1 w)) (HP2 : Hid (RowNums p2 n2 q2 w)) :
    Calls Tryz.prog 158 #[.slice p1 n1 cap1, .slice p2 n2 cap2] w fun e w' => e = .returned (.int .i64 0) ∧ Below w.heap.size w w' := by
  go_enter Tryz.func158, Tryz.ntmps158
  go_wp2_with fail
  go_loopw [13] (fun i wr => ∃ (k : Nat), k ≤ n1 ∧ i = .int .i64 (k : Int) ∧ Hid (Below w.heap.size w wr))
    (fun i _ => n1 - (RowKit.intOf i).toNat)
  case atStart => exact ⟨0, Nat.zero_le _, rfl, Below.refl _ _⟩
  case round =>
    obtain ⟨k, hk, rfl, hB⟩ := hrel
    by_cases hlt : k < n1
    · obtain ⟨b, off, rfl, c0⟩ := (HP1.out.keep (cellsKept_below (hB.out.mono (Nat.le_refl _)))) k hlt
      have HC := Lib.hid (C.out k hlt); have HO := Lib.hid (O.out k hlt)
      obtain ⟨z1, z2⟩ := Z.out k hlt
      obtain ⟨t, ht⟩ : ∃ t : ByteArray, t = ⟨(trimPrefix (⟨(itoa (q1 k).num).toArray⟩ : ByteArray).data.toList (⟨#[45]⟩ : ByteArray).data.toList).toArray⟩ := ⟨_, rfl⟩
      have hts : t.size ≤ 90 := by
        rw [ht]; show (trimPrefix (itoa (q1 k).num) [45]).toArray.size ≤ 90
        rw [trimPrefix_itoa]; simpa [digs] using z1
      have hvs : (⟨(decDigits (q1 k).den).toArray⟩ : ByteArray).size ≤ 90 := by show (decDigits (q1 k).den).toArray.size ≤ 90; simpa using z2
      have hmx : max (t.size : Int) ((decDigits (q1 k).den).length : Int) ≤ 90 := by omega
      have HT0 := Lib.hid ht
      clear ht z1 z2
      generalize numS (q1 k) = x at *
      generalize itoa (q1 k).num = u at *
      generalize decDigits (q1 k).den = v at *
      have HT : Hid (Value.string ⟨(trimPrefix (⟨u.toArray⟩ : ByteArray).data.toList (⟨#[45]⟩ : ByteArray).data.toList).toArray⟩ = .string t) := Lib.hid (by rw [HT0.out])
      clear HT0
      go_wp2_with fail
      refine (HC.out wr (HW.out.below hB.out)).mono ?_
      rintro e w2 ⟨rfl, hb2⟩
      have hB2 := Lib.hid (hB.out.trans (hb2.mono hB.out.size)); clear hb2
      go_wp2_with fail
      refine (HO.out w2 (HW.out.below hB2.out)).mono ?_
      rintro e w3 ⟨rfl, hb3⟩
      have hB3 := Lib.hid (hB2.out.trans (hb3.mono hB2.out.size)); clear hb3 hB2 hB
      go_wp2_with fail
      obtain ⟨w4, hw4⟩ : ∃ w4, w4 = w3.alloc (.cells #[St u, St v] 197) := ⟨_, rfl⟩
      rw [← hw4]
      obtain ⟨pb, hpb⟩ : ∃ pb, pb = w3.heap.size := ⟨_, rfl⟩
      have HP5 : Hid (PairS w u v pb w4) := by
        have ha : Below w3.heap.size w3 w4 := by rw [hw4]; exact (Below.refl _ w3).alloc (Nat.le_refl _) _
        exact Lib.hid ⟨hB3.out.trans (ha.mono hB3.out.size), by rw [hw4, hpb]; simp, by rw [hw4, hpb]; exact World.alloc_heap_new w3 _⟩
      rw [← hpb]
      clear hw4 hB3 hpb
      refine wp_region_ac (fun _ W => PairS w u v pb W) (by kernel_rfl) (by kernel_rfl) (by have h := HP5.out; exact h.next (Below.refl _ _).drew) ?_
      refine acL_read (v := .pointer (some ⟨pb, 0, none⟩)) (by rfl) (fun f W' h => h) (fun f W' hf h => by go_simp) ?_
      try simp only [Act.put, List.setIfInBounds_toArray, List.set_cons_zero, List.set_cons_succ]
      refine acL_read (v := St u) (by rfl) (fun f W' h => h) (fun f W' hf h => by have h0 := h.c0; go_simp) ?_
      try simp only [Act.put, List.setIfInBounds_toArray, List.set_cons_zero, List.set_cons_succ]
      refine acL_value (.string t) (by rfl) (fun f W' hf h C' hC' => by
          go_simp
          refine (Tryz.strings_TrimPrefix _ _ _).mono ?_
          rintro e w' ⟨rfl, hw1⟩
          have hw2 := hw1.symm; subst hw2
          refine ⟨?_, hC' _ h⟩
          rw [HT.out]) ?_
      try simp only [Act.put, List.setIfInBounds_toArray, List.set_cons_zero, List.set_cons_succ]
      refine acL_read (v := .int .i64 t.size) (by rfl) (fun f W' h => h) (fun f W' hf h => by go_simp) ?_
      try simp only [Act.put, List.setIfInBounds_toArray, List.set_cons_zero, List.set_cons_succ]
      refine acL_read (v := .pointer (some ⟨pb, 1, none⟩)) (by rfl) (fun f W' h => h) (fun f W' hf h => by go_simp) ?_
      try simp only [Act.put, List.setIfInBounds_toArray, List.set_cons_zero, List.set_cons_succ]
      refine acL_read (v := St v) (by rfl) (fun f W' h => h) (fun f W' hf h => by have h0 := h.c1; go_simp) ?_
      try simp only [Act.put, List.setIfInBounds_toArray, List.set_cons_zero, List.set_cons_succ]
      refine acL_read (v := .int .i64 (⟨v.toArray⟩ : ByteArray).size) (by rfl) (fun f W' h => h) (fun f W' hf h => by go_simp) ?_
      try simp only [Act.put, List.setIfInBounds_toArray, List.set_cons_zero, List.set_cons_succ]
      refine acL_read (v := .int .i64 (max (t.size : Int) ((⟨v.toArray⟩ : ByteArray).size : Int))) (by rfl) (fun f W' h => h) (fun f W' hf h => by go_simp) ?_
      try simp only [Act.put, List.setIfInBounds_toArray, List.set_cons_zero, List.set_cons_succ]
      refine acL_read (v := .bool false) (by rfl) (fun f W' h => h) (fun f W' hf h => by go_simp) ?_
      try simp only [Act.put, List.setIfInBounds_toArray, List.set_cons_zero, List.set_cons_succ]
      refine acL_nil fun f W4 hf h => ?_
      have hB4 := Lib.hid h.bel
      clear h hf f HP5
      go_wp2_with fail
      go_roundw
      case rel => exact ⟨k + 1, by omega, by go_num, hB4⟩
      case measure => simp [RowKit.intOf]; omega
    · clear hk
      go_wp2_with fail
      clear HP1 C O Z
      go_loopw [36] (fun i wr => ∃ (k : Nat), k ≤ n2 ∧ i = .int .i64 (k : Int) ∧ Hid (Below w.heap.size w wr))
        (fun i _ => n2 - (RowKit.intOf i).toNat)
      case atStart => exact ⟨0, Nat.zero_le _, rfl, hB⟩
      case round =>
        clear hB
        obtain ⟨j, hj, rfl, hB⟩ := hrel
        by_cases hlt2 : j < n2
        · obtain ⟨b, off, rfl, c0⟩ := (HP2.out.keep (cellsKept_below (hB.out.mono (Nat.le_refl _)))) j hlt2
          have HN := Lib.hid (N.out j hlt2)
          generalize numS (q2 j) = x at *
          go_wp2_with fail
          refine (HN.out _).mono ?_
          rintro e w2 ⟨rfl, hw1⟩
          have hw2 := hw1.symm; subst hw2; clear hw1
          go_wp2_with fail
          go_roundw
          case rel => exact ⟨j + 1, by omega, by go_num, hB⟩
          case measure => simp [RowKit.intOf]; omega
        · go_wp2_with fail
          go_ret
          exact ⟨rfl, hB.out⟩
end Go.Proofs.YtapfekcbbhhieaaGreatDoor

namespace Go.Proofs.YtapfekcbbhhieaaGreatDoor
open Go.RowKit Go.Shelf Lib Str Limb
attribute [local go_sem] Oper.semAt_some

def prL : List Nat := [2, 3, 5, 7, 11, 13, 17, 19, 23, 29, 31, 37, 41, 43, 47, 53, 59, 61, 67, 71, 73, 79, 83, 89, 97]
def prN (i : Nat) : Nat := prL.getD i 0
def prS (i : Nat) : List UInt8 := ([[50], [51], [53], [55], [49, 49], [49, 51], [49, 55], [49, 57], [50, 51], [50, 57], [51, 49], [51, 55], [52, 49], [52, 51], [52, 55], [53, 51], [53, 57], [54, 49], [54, 55], [55, 49], [55, 51], [55, 57], [56, 51], [56, 57], [57, 55]] : List (List UInt8)).getD i []
def prV : Array Value := #[.string ⟨#[50]⟩, .string ⟨#[51]⟩, .string ⟨#[53]⟩, .string ⟨#[55]⟩, .string ⟨#[49, 49]⟩, .string ⟨#[49, 51]⟩, .string ⟨#[49, 55]⟩, .string ⟨#[49, 57]⟩, .string ⟨#[50, 51]⟩, .string ⟨#[50, 57]⟩, .string ⟨#[51, 49]⟩, .string ⟨#[51, 55]⟩, .string ⟨#[52, 49]⟩, .string ⟨#[52, 51]⟩, .string ⟨#[52, 55]⟩, .string ⟨#[53, 51]⟩, .string ⟨#[53, 57]⟩, .string ⟨#[54, 49]⟩, .string ⟨#[54, 55]⟩, .string ⟨#[55, 49]⟩, .string ⟨#[55, 51]⟩, .string ⟨#[55, 57]⟩, .string ⟨#[56, 51]⟩, .string ⟨#[56, 57]⟩, .string ⟨#[57, 55]⟩]
theorem prS_dec : ∀ i, i < 25 → prS i = decDigits (prN i)
  | 0, _ => by show [50] = decDigits 2; rw [decDigits_small (by omega)]; rfl
  | 1, _ => by show [51] = decDigits 3; rw [decDigits_small (by omega)]; rfl
  | 2, _ => by show [53] = decDigits 5; rw [decDigits_small (by omega)]; rfl
  | 3, _ => by show [55] = decDigits 7; rw [decDigits_small (by omega)]; rfl
  | 4, _ => by show [49, 49] = decDigits 11; rw [decDigits_big (by omega), decDigits_small (by omega)]; rfl
  | 5, _ => by show [49, 51] = decDigits 13; rw [decDigits_big (by omega), decDigits_small (by omega)]; rfl
  | 6, _ => by show [49, 55] = decDigits 17; rw [decDigits_big (by omega), decDigits_small (by omega)]; rfl
  | 7, _ => by show [49, 57] = decDigits 19; rw [decDigits_big (by omega), decDigits_small (by omega)]; rfl
  | 8, _ => by show [50, 51] = decDigits 23; rw [decDigits_big (by omega), decDigits_small (by omega)]; rfl
  | 9, _ => by show [50, 57] = decDigits 29; rw [decDigits_big (by omega), decDigits_small (by omega)]; rfl
  | 10, _ => by show [51, 49] = decDigits 31; rw [decDigits_big (by omega), decDigits_small (by omega)]; rfl
  | 11, _ => by show [51, 55] = decDigits 37; rw [decDigits_big (by omega), decDigits_small (by omega)]; rfl
  | 12, _ => by show [52, 49] = decDigits 41; rw [decDigits_big (by omega), decDigits_small (by omega)]; rfl
  | 13, _ => by show [52, 51] = decDigits 43; rw [decDigits_big (by omega), decDigits_small (by omega)]; rfl
  | 14, _ => by show [52, 55] = decDigits 47; rw [decDigits_big (by omega), decDigits_small (by omega)]; rfl
  | 15, _ => by show [53, 51] = decDigits 53; rw [decDigits_big (by omega), decDigits_small (by omega)]; rfl
  | 16, _ => by show [53, 57] = decDigits 59; rw [decDigits_big (by omega), decDigits_small (by omega)]; rfl
  | 17, _ => by show [54, 49] = decDigits 61; rw [decDigits_big (by omega), decDigits_small (by omega)]; rfl
  | 18, _ => by show [54, 55] = decDigits 67; rw [decDigits_big (by omega), decDigits_small (by omega)]; rfl
  | 19, _ => by show [55, 49] = decDigits 71; rw [decDigits_big (by omega), decDigits_small (by omega)]; rfl
  | 20, _ => by show [55, 51] = decDigits 73; rw [decDigits_big (by omega), decDigits_small (by omega)]; rfl
  | 21, _ => by show [55, 57] = decDigits 79; rw [decDigits_big (by omega), decDigits_small (by omega)]; rfl
  | 22, _ => by show [56, 51] = decDigits 83; rw [decDigits_big (by omega), decDigits_small (by omega)]; rfl
  | 23, _ => by show [56, 57] = decDigits 89; rw [decDigits_big (by omega), decDigits_small (by omega)]; rfl
  | 24, _ => by show [57, 55] = decDigits 97; rw [decDigits_big (by omega), decDigits_small (by omega)]; rfl
  | n + 25, h => absurd h (by omega)
theorem prN_le : ∀ i, i < 25 → 2 ≤ prN i ∧ prN i ≤ 97 := by decide
theorem prV_at (i : Nat) (hi : i < 25) (w : World) : (Instr.index 245 (.agg prV) (.int .i64 (i : Int))).run Tryz.prog w = .ok (St (prS i)) w :=
  match i, hi with
  | 0, _ => by kernel_rfl
  | 1, _ => by kernel_rfl
  | 2, _ => by kernel_rfl
  | 3, _ => by kernel_rfl
  | 4, _ => by kernel_rfl
  | 5, _ => by kernel_rfl
  | 6, _ => by kernel_rfl
  | 7, _ => by kernel_rfl
  | 8, _ => by kernel_rfl
  | 9, _ => by kernel_rfl
  | 10, _ => by kernel_rfl
  | 11, _ => by kernel_rfl
  | 12, _ => by kernel_rfl
  | 13, _ => by kernel_rfl
  | 14, _ => by kernel_rfl
  | 15, _ => by kernel_rfl
  | 16, _ => by kernel_rfl
  | 17, _ => by kernel_rfl
  | 18, _ => by kernel_rfl
  | 19, _ => by kernel_rfl
  | 20, _ => by kernel_rfl
  | 21, _ => by kernel_rfl
  | 22, _ => by kernel_rfl
  | 23, _ => by kernel_rfl
  | 24, _ => by kernel_rfl
  | n + 25, h => absurd h (by omega)

/-- The primes lie in the world. -/
structure Pw (w : World) : Prop where
  prim : w.var? Tryz.prog "kingpost/root.primes" = some prV
theorem Pw.below {w w' : World} (h : Pw w) (hb : Below w.heap.size w w') : Pw w' := by
  have hg : Tryz.prog.globalNamed "kingpost/root.primes" = some 1 := by kernel_rfl
  exact ⟨var?_below hb hg (var_lt hg h.prim) h.prim⟩
theorem Pw.cell {w : World} (h : Pw w) (i : Nat) : w.cell? ⟨1, i, none⟩ = prV[i]? := by
  have hg : Tryz.prog.globalNamed "kingpost/root.primes" = some 1 := by kernel_rfl
  exact World.var?_cell hg h.prim i

theorem Pw.block {w : World} (h : Pw w) : ∃ t fz, w.heap[1]? = some (.cells prV t fz) := by
  have hg : Tryz.prog.globalNamed "kingpost/root.primes" = some 1 := by kernel_rfl
  have hv := h.prim
  unfold World.var? at hv
  rw [hg] at hv
  simp only [Option.bind_some] at hv
  cases hb : w.heap[(1 : Nat)]? with
  | none => rw [hb] at hv; cases hv
  | some x =>
    rw [hb] at hv
    cases x with
    | cells cs t fz => simp at hv; subst hv; exact ⟨t, fz, rfl⟩
    | _ => cases hv
set_option maxHeartbeats 400000 in
theorem of_one (n : Nat) (hn : n ≤ 60000) (w : World) (hw : Wd w) :
    Calls Tryz.prog 7 #[I n, .int .i64 1] w fun e w' => e = .returned (.tuple #[St (decDigits n), .int .i64 0]) ∧ Below w.heap.size w w' := by
  have hc := itoa_b (n : Int) (by omega) (by omega) w hw
  rw [Str.itoa_nonneg] at hc
  have HC := Lib.hid hc; clear hc
  go_enter Tryz.func7, Tryz.ntmps7
  go_wp2_with fail
  refine HC.out.mono ?_
  rintro e w1 ⟨rfl, hb⟩
  go_wp2_with fail
  go_ret2
  exact ⟨rfl, hb⟩

set_option maxHeartbeats 400000 in
theorem nativeRoot_one (w : World) : Calls Tryz.prog 209 #[.int .i64 1] w fun e w' => e = .returned (.int .i64 1) ∧ w' = w := by
  go_enter Tryz.func209, Tryz.ntmps209
  go_wp2_with fail
  go_ret
  exact ⟨rfl, rfl⟩

theorem sq_step {c l p : Nat} (hp : p * p ∣ l) : (c * p) * (c * p) * (l / (p * p)) = c * c * l := by
  obtain ⟨k, rfl⟩ := hp
  by_cases h : p * p = 0
  · rw [h]; simp
  · rw [Nat.mul_div_cancel_left _ (by omega)]
    simp only [Nat.mul_assoc, Nat.mul_left_comm, Nat.mul_comm]

set_option maxRecDepth 100000 in
set_option maxHeartbeats 4000000 in
theorem nativeNormal_sq (r : Nat) (hr : 0 < r) (hr2 : r ≤ 200) (H1 : Hid (∀ c l : Nat, c * c * l = r * r → (∀ i, i < 25 → ¬ prN i * prN i ∣ l) → c = r ∧ l = 1))
    (AT : Hid (∀ i, i < 25 → ∀ W : World, Calls Tryz.prog 100 #[St (prS i)] W fun e w' => e = .returned (.tuple #[I (prN i), .nilIface]) ∧ Below W.heap.size W w'))
    (w : World) (HW : Hid (Wd w)) (HP : Hid (Pw w)) :
    Calls Tryz.prog 161 #[I (r * r : Nat), .int .i64 1] w fun e w' => e = .returned (.tuple #[St (decDigits r), St [49]]) ∧ Below w.heap.size w w' := by
  have hm : r * r ≤ 200 * 200 := Nat.mul_le_mul hr2 hr2
  obtain ⟨N, hN⟩ : ∃ N, N = r * r := ⟨_, rfl⟩
  have hN0 : 0 < N := by rw [hN]; exact Nat.mul_pos hr hr
  have hN9 : N ≤ 40000 := by rw [hN]; omega
  obtain ⟨tt, fz, hblk⟩ := HP.out.block
  rw [← hN] at H1 ⊢
  have HN := Lib.hid hN; clear hN hm
  have hwm : IntKind.i64.wrap ((N : Int) * 1) = N := by rw [Int.mul_one]; exact IntWalk.i64_in _ (by omega)
  go_enter Tryz.func161, Tryz.ntmps161
  go_wp2_with (refine wpList_load_row rfl 245 (.global 1) rfl 1 rfl tt prV fz (.array 25 9) hblk (by kernel_rfl) rfl (by kernel_rfl) ?_)
  have hB0 := Below.refl w.heap.size w
  go_loopw [6, 7, 19] (fun c lf i wr => ∃ k cN lN : Nat, k ≤ 25 ∧ c = I cN ∧ lf = I lN ∧ i = .int .i64 (k : Int) ∧ Hid (cN * cN * lN = N) ∧ Hid (∀ j, j < k → ¬ prN j * prN j ∣ lN) ∧ Hid (Below w.heap.size w wr))
    (fun _ _ i _ => 25 - (RowKit.intOf i).toNat)
  case atStart => exact ⟨0, 1, N, by omega, rfl, rfl, rfl, Lib.hid (by omega), Lib.hid (fun j h => by omega), Lib.hid hB0⟩
  case round =>
    clear hB0 hwm hblk
    obtain ⟨k, cN, lN, hk, rfl, rfl, rfl, hE, hD, hB⟩ := hrel
    by_cases hlt : k < 25
    · have hx := fun w => prV_at k hlt w
      obtain ⟨g1, g2⟩ := prN_le k hlt
      have hat := Lib.hid (AT.out k hlt)
      obtain ⟨p, hp⟩ : ∃ p, p = prN k := ⟨_, rfl⟩
      rw [← hp] at g1 g2 hat
      have HPk := Lib.hid hp; clear hp
      generalize prS k = y at *
      have hwp : IntKind.i64.wrap ((p : Int) * (p : Int)) = ((p * p : Nat) : Int) := by
        have : p * p ≤ 97 * 97 := Nat.mul_le_mul g2 g2
        rw [← Int.natCast_mul]; exact IntWalk.i64_in _ (by omega)
      have hpp : 4 ≤ p * p := Nat.mul_le_mul g1 g1
      obtain ⟨pp, hpp2⟩ : ∃ pp, pp = p * p := ⟨_, rfl⟩
      rw [← hpp2] at hwp hpp
      have HPP := Lib.hid hpp2; clear hpp2
      go_wp2_with fail
      refine (hat.out wr).mono ?_
      rintro e w2 ⟨rfl, hb2⟩
      have hB2 := Lib.hid (hB.out.trans (hb2.mono hB.out.size)); clear hb2 hB hx hat
      go_wp2_with fail
      go_loopw [6, 7] (fun c lf wr => ∃ cN lN : Nat, c = I cN ∧ lf = I lN ∧ Hid (cN * cN * lN = N) ∧ Hid (∀ j, j < k → ¬ prN j * prN j ∣ lN) ∧ Hid (Below w.heap.size w wr))
        (fun _ lf _ => (RowKit.intOf lf).toNat)
      case atStart => exact ⟨cN, lN, rfl, rfl, hE, hD, hB2⟩
      case round =>
        clear hE hD hB2
        obtain ⟨cN, lN, rfl, rfl, hE, hD, hB⟩ := hrel
        have hl0 : 0 < lN := Nat.pos_of_ne_zero (fun h => by have := hE.out; rw [h] at this; simp at this; omega)
        have hpp0 : ¬ pp = 0 := by omega
        have hle : lN ≤ N := by rw [← hE.out]; exact Nat.le_mul_of_pos_left _ (Nat.pos_of_ne_zero (fun h => by have := hE.out; rw [h] at this; simp at this; omega))
        have hmod : (lN : Int).tmod (pp : Int) = ((lN % pp : Nat) : Int) := rfl
        have hdiv : (lN : Int).tdiv (pp : Int) = ((lN / pp : Nat) : Int) := rfl
        have hwz : ∀ z : Nat, z ≤ lN → IntKind.i64.wrap (z : Int) = (z : Int) := fun z hz => IntWalk.i64_in _ (by omega)
        have hwm := hwz _ (Nat.mod_le lN pp)
        have hwd := hwz _ (Nat.div_le_self lN pp)
        have hwq : IntKind.i64.wrap ((lN : Int) / (pp : Int)) = ((lN / pp : Nat) : Int) := by rw [← Int.natCast_ediv]; exact hwd
        have HWQ := Lib.hid hwq
        clear hwz hwq
        by_cases hd : pp ∣ lN
        · have hm0 : (((lN % pp : Nat) : Int) == 0) = true := by rw [Nat.mod_eq_zero_of_dvd hd]; rfl
          have hnext := sq_step (c := cN) (l := lN) (p := p) (by rw [← HPP.out]; exact hd)
          rw [← HPP.out, hE.out] at hnext
          have hl1 : 0 < lN / pp := Nat.pos_of_ne_zero (fun h => by rw [h] at hnext; simp at hnext; omega)
          have hcp : cN * p ≤ N := by
            rw [← hnext]
            exact Nat.le_trans (Nat.le_mul_self _) (Nat.le_mul_of_pos_right _ hl1)
          have hwc : IntKind.i64.wrap ((cN : Int) * (p : Int)) = ((cN * p : Nat) : Int) := by rw [← Int.natCast_mul]; exact IntWalk.i64_in _ (by omega)
          have hlt2 : lN / pp < lN := Nat.div_lt_self hl0 (by omega)
          have hkeep : ∀ j, j < k → ¬ prN j * prN j ∣ lN / pp := fun j hj h => hD.out j hj (Nat.dvd_trans h (Nat.div_dvd_of_dvd hd))
          have HNX := Lib.hid hnext; have HK := Lib.hid hkeep; have HL := Lib.hid hlt2
          clear hnext hkeep hd hlt2 hl1 hcp
          go_wp2
          (refine wp_region_quiet_lit (by kernel_rfl) (by kernel_rfl) (WQ.out ?_); (repeat (first | (apply WQ.read (by rfl); (focus (rintro W ⟨n, rfl⟩; go_simp; try with_reducible rfl)); try simp only [Act.put, List.setIfInBounds_toArray, List.set_cons_zero, List.set_cons_succ]) | (apply WQ.skip (by rfl); try simp only [Act.put, List.setIfInBounds_toArray, List.set_cons_zero, List.set_cons_succ]))); refine WQ.nil ?_; rintro _ ⟨nq, rfl⟩)
          go_wp2
          go_roundw
          case rel => exact ⟨cN * p, lN / pp, by first | rfl | simp, by first | (rw [HWQ.out]) | rfl | simp, HNX, HK, Lib.hid (Below_drewN hB.out _)⟩
          case measure =>
            rw [HWQ.out]
            show (lN / pp : Nat) < lN
            exact HL.out
        · have hm0 : (((lN % pp : Nat) : Int) == 0) = false := by
            rw [beq_eq_false_iff_ne]; intro h; exact hd (Nat.dvd_of_mod_eq_zero (by omega))
          have hkeep : ∀ j, j < k + 1 → ¬ prN j * prN j ∣ lN := fun j hj h => by
            by_cases e : j = k
            · subst e; rw [← HPk.out, ← HPP.out] at h; exact hd h
            · exact hD.out j (by omega) h
          have HK := Lib.hid hkeep; clear hkeep hd
          go_wp2
          go_roundw
          case rel => exact ⟨k + 1, cN, lN, by omega, rfl, rfl, by go_num, hE, HK, hB⟩
          case measure => simp [RowKit.intOf]; omega
    · have hk25 : k = 25 := by omega
      obtain ⟨rfl, rfl⟩ := H1.out cN lN hE.out (fun i hi => hD.out i (by omega))
      have hw1 : IntKind.i64.wrap ((1 : Int) * 1) = 1 := by decide
      have hwc : IntKind.i64.wrap ((cN : Int) * 1) = (cN : Int) := by rw [Int.mul_one]; exact IntWalk.i64_in _ (by omega)
      clear hk25 hE hD AT H1
      go_wp2_with fail
      refine (nativeRoot_one wr).mono ?_
      rintro e w2 ⟨rfl, hw1⟩
      have hw2 := hw1.symm; subst hw2; clear hw1
      go_wp2_with fail
      refine (of_one cN (by omega) wr (HW.out.below hB.out)).mono ?_
      rintro e w3 ⟨rfl, hb3⟩
      have hB3 := hB.out.trans (hb3.mono hB.out.size)
      go_wp2_with fail
      have hit := itoa_b 1 (by omega) (by omega) w3 (HW.out.below hB3)
      rw [show Lib.itoa 1 = [49] from by show Lib.itoa ((1 : Nat) : Int) = _; rw [Str.itoa_nonneg, decDigits_small (by omega)]; rfl] at hit
      refine hit.mono ?_
      rintro e w4 ⟨rfl, hb4⟩
      have hB4 := hB3.trans (hb4.mono hB3.size)
      clear hit hb3 hb4
      go_wp2_with fail
      go_ret2
      exact ⟨rfl, hB4⟩
end Go.Proofs.YtapfekcbbhhieaaGreatDoor

namespace Go.Proofs.YtapfekcbbhhieaaGreatDoor
open Go.RowKit Go.Shelf Lib Str Limb
open Go.ChangeShapes Go.WideShapes Go.ChangeAt

/-- A row whose variables are listed, with the world's shape at hand. -/
theorem returns_laid_shaped {H : Type} {enc : TypeId × Value → H} {a : Assume} {C : Checked} {os : Os} {f : FuncId} {fn : Func} {s : ChangeSpec} {conds : List PathCond} {apart fresh handsOn again : Bool} {X : World → Array Value → Prop}
    (hX : ∀ (w w' : World) (args : Array Value), w.heap = w'.heap → X w args → X w' args)
    (own : ownKnob C.prog.godebug = none) (started : os.Started) (noInit : C.prog.inits.idxOf? f = none) (hfn : C.prog.funcs[f]? = some fn)
    (witness : ∃ (w : World) (tape : Tape) (i : Input), w.os = os ∧ (w.forCall tape i).Shaped C.prog ∧ i.vars = [] ∧ Input.okWide C.prog (w.forCall tape i) .any w.heap.size f i ∧
      ((s.pre enc C.prog fn conds apart (w.forCall tape i).memory i.args ∧ X (w.forCall tape i).memory i.args) ∧ sizedMet enc C.prog fn (OpenSpec.ofChange s) apart (w.forCall tape i).memory i.args) ∧ a.holds C.prog (lone (Frame.enter C.prog f i.args .normal) [] (w.forCall tape i)))
    (contract : ∀ (W : World) (args : Array Value) (ds gs : List (DataW H)) (before : List MemPlace) (base : Nat),
      (∀ (j : Nat) t v, fn.params[j]? = some t → args[j]? = some v → Value.okWide C.prog W .any base t v) →
      DataW.Whole enc C.prog fn.params.toList s.vars apart W args.toList ds gs before → X W args → W.ShapedOpen C.prog →
      Calls C.prog f args W fun e W' => ∃ v, e = .returned v ∧ s.post enc C.prog fn apart fresh handsOn again W args v W') :
    ReturnsInHanded a C os f .any (fun w args => (s.pre enc C.prog fn conds apart w args ∧ X w args) ∧ sizedMet enc C.prog fn (OpenSpec.ofChange s) apart w args) (s.post enc C.prog fn apart fresh handsOn again) := by
  refine returnsInHanded_of_calls own started noInit witness ?_
  rintro w tape i _ hsh _ ⟨_, _, _, fn', hfn', _, _, _, _, hval⟩ ⟨⟨⟨ds, gs, before, hw, _⟩, hx⟩, _⟩ _
  obtain rfl : fn' = fn := Option.some.inj (hfn'.symm.trans hfn)
  refine (contract (w.forCall tape i) i.args ds gs before w.heap.size hval (DataW.Whole.of_heap (w' := w.forCall tape i) (by rfl) hw) (hX _ _ _ (by rfl) hx) hsh).mono ?_
  rintro e W' ⟨v, rfl, hp⟩
  exact ChangeSpec.post_blind hp

/-- An array of strings that reads so holds these strings. -/
theorem cells_of_strs {H : Type} {enc : TypeId × Value → H} {P : Program} {w : World} {base : Nat} {sp : Nat → Bool} {held : Bool} {fuel : Nat} {t e : TypeId} {n : Nat} {cs : List Value} {ss : List (List UInt8)} {p : List MemPlace}
    (ht : P.underlying t = some (.array n e)) (he : P.underlying e = some .string) (hce : P.cellsOf e = 1) (hct : P.cellsOf t = n) (hsl : ss.length = n)
    (h : DataW.trod enc P w base sp held fuel t cs = some (.agg (ss.map fun s => .lit (.string s)), p)) : cs = ss.map fun s => Value.string ⟨s.toArray⟩ := by
  have hcl : cs.length = n := by
    cases fuel with
    | zero => simp [DataW.trod] at h
    | succ fuel =>
      have h0 := h
      simp only [DataW.trod, ht, hce, hct, Nat.mul_one] at h0
      split at h0
      · rename_i hl; exact hl
      · cases h0
  apply List.ext_getElem?
  intro i
  by_cases hi : i < n
  · obtain ⟨fu, d, q, hd, htr⟩ := array_elem ht h i hi
    rw [hce] at htr
    obtain ⟨s, hs, hx, _⟩ := DataW.trod_string he htr
    simp only [Prod.mk.injEq] at hx
    obtain ⟨rfl, _⟩ := hx
    have h1 : cs[i]? = some (.string s) := by
      have := congrArg (·[0]?) hs
      simpa [List.getElem?_take, List.getElem?_drop] using this
    rw [List.getElem?_map, Option.map_eq_some_iff] at hd
    obtain ⟨l, hl, e⟩ := hd
    simp only [DataW.lit.injEq, Lit.string.injEq] at e
    rw [h1, List.getElem?_map, hl, e]
    rfl
  · rw [List.getElem?_eq_none (by omega), List.getElem?_eq_none (by simp; omega)]

set_option maxRecDepth 100000 in
/-- What the shelf asks of the world, from the listed variables and the world's shape. -/
theorem wd_of {l : List (String × DataW Unit)} {W : World} (hL : laidMet Tryz.prog l W) (hm : ("internal/strconv.uint64pow10", Rows.laid_internal_strconv_uint64pow10) ∈ l) (hs : W.ShapedOpen Tryz.prog) : Wd W := by
  obtain ⟨g, t, cs, fuel, p, hg, ht, hv, hd⟩ := Lib.laidMet.reads hL hm
  obtain rfl : g = 0 := Option.some.inj (hg.symm.trans (by kernel_rfl))
  obtain rfl : t = 219 := Option.some.inj (ht.symm.trans (by kernel_rfl))
  have e : (Rows.laid_internal_strconv_uint64pow10 : DataW Unit) = Lib.tabData .u64 Lib.pow10Tab := by kernel_rfl
  rw [e] at hd
  have hc := Lib.cells_of_tab (n := 20) Tryz.underlying219 Tryz.underlying169 (by kernel_rfl) (by kernel_rfl) hd
  refine ⟨?_, Proofs.cell_of_shapedOpen_int (t := 3) (zero := #[.int .i64 0]) hs (of_decide_eq_true (by kernel_rfl)) (by kernel_rfl) rfl (by kernel_rfl) (by kernel_rfl) Tryz.underlying3⟩
  unfold Lib.TabIs
  rw [hv, ← hc]

set_option maxRecDepth 100000 in
theorem prV_list : prV.toList = ([[50], [51], [53], [55], [49, 49], [49, 51], [49, 55], [49, 57], [50, 51], [50, 57], [51, 49], [51, 55], [52, 49], [52, 51], [52, 55], [53, 51], [53, 57], [54, 49], [54, 55], [55, 49], [55, 51], [55, 57], [56, 51], [56, 57], [57, 55]] : List (List UInt8)).map fun s => Value.string ⟨s.toArray⟩ := by kernel_rfl

set_option maxRecDepth 100000 in
theorem pw_of {l : List (String × DataW Unit)} {W : World} (hL : laidMet Tryz.prog l W) (hm : ("kingpost/root.primes", Rows.laid_kingpost_root_primes) ∈ l) : Pw W := by
  obtain ⟨g, t, cs, fuel, p, hg, ht, hv, hd⟩ := Lib.laidMet.reads hL hm
  obtain rfl : g = 1 := Option.some.inj (hg.symm.trans (by kernel_rfl))
  obtain rfl : t = 245 := Option.some.inj (ht.symm.trans (by kernel_rfl))
  have e : (Rows.laid_kingpost_root_primes : DataW Unit) = .agg (([[50], [51], [53], [55], [49, 49], [49, 51], [49, 55], [49, 57], [50, 51], [50, 57], [51, 49], [51, 55], [52, 49], [52, 51], [52, 55], [53, 51], [53, 57], [54, 49], [54, 55], [55, 49], [55, 51], [55, 57], [56, 51], [56, 57], [57, 55]] : List (List UInt8)).map fun s => .lit (.string s)) := by kernel_rfl
  rw [e] at hd
  have hc := cells_of_strs (n := 25) Tryz.underlying245 Tryz.underlying9 (by kernel_rfl) (by kernel_rfl) (by decide) hd
  obtain rfl : cs = prV := Array.toList_inj.1 (hc.trans prV_list.symm)
  exact ⟨hv⟩
theorem own_knob : ownKnob Tryz.prog.godebug = none := by kernel_rfl
theorem laid_out : laidOutB Tryz.prog = true := by kernel_rfl

set_option maxRecDepth 100000 in
/-- A point among the arguments. -/
theorem point_open {H : Type} {enc : TypeId × Value → H} {W : World} {base : Nat} {sp : Nat → Bool} {held : Bool} {r : Reach} {b0 : Nat} {v : Value} {d : DataW H} {ps : List MemPlace}
    (hval : Value.okWide Tryz.prog W r b0 24 v) (hd : DataW.Trod enc Tryz.prog W base sp held 24 v d ps) : ∃ x y : List UInt8, v = .agg #[St x, St y] ∧ ps = [] := by
  obtain ⟨cs, rfl, hs⟩ := okWide_struct Tryz.underlying24 hval
  rw [show Tryz.prog.cellsOf 24 = 2 by kernel_rfl] at hs
  obtain ⟨fuel, hf⟩ := hd
  obtain ⟨y0, y1, n, hx, _, h0, h1⟩ := trod_struct2 Tryz.underlying24 hf
  obtain ⟨s0, e0, rfl, _⟩ := DataW.trod_string Tryz.underlying22 h0
  obtain ⟨s1, e1, rfl, _⟩ := DataW.trod_string Tryz.underlying22 h1
  simp only [Prod.mk.injEq, List.append_nil] at hx
  refine ⟨s0.data.toList, s1.data.toList, ?_, hx.2⟩
  rw [show Tryz.prog.cellsOf 22 = 1 by kernel_rfl] at e0 e1
  obtain ⟨l⟩ := cs
  match l, hs with
  | [c0, c1], _ =>
    have k0 : c0 = .string s0 := by simpa [Value.cells] using e0
    have k1 : c1 = .string s1 := by simpa [Value.cells] using e1
    subst k0; subst k1
    simp [St]
end Go.Proofs.YtapfekcbbhhieaaGreatDoor

namespace Go.Proofs.YtapfekcbbhhieaaGreatDoor
open Go.RowKit Go.Shelf Lib Str Limb
attribute [local go_sem] Oper.semAt_some

set_option maxHeartbeats 1000000 in
/-- kingpostref02.gcd. -/
theorem xgcd_any (a b : Nat) (ha : a < 1000000000000000000) (hb : b < 1000000000000000000) (w : World) :
    Calls Tryz.prog 72 #[I a, I b] w fun e w' => ∃ nd, e = .returned (I (Nat.gcd a b)) ∧ w' = w.drewN nd := by
  obtain ⟨g, hg⟩ : ∃ g, g = Nat.gcd a b := ⟨_, rfl⟩
  rw [← hg]
  have HG := Lib.hid hg; clear hg
  go_enter Tryz.func72, Tryz.ntmps72
  go_wp2
  go_loopw [0, 1] (fun x y wr => ∃ m n : Nat, x = I m ∧ y = I n ∧ Hid (Nat.gcd m n = g) ∧ m < 1000000000000000000 ∧ n < 1000000000000000000 ∧ ∃ nd, wr = w.drewN nd)
    (fun _ y _ => (RowKit.intOf y).toNat)
  case atStart => exact ⟨a, b, rfl, rfl, HG.out.symm, ha, hb, 0, rfl⟩
  case round =>
    clear ha hb
    obtain ⟨m, n, rfl, rfl, hgm, m1, n1, nd, rfl⟩ := hrel
    by_cases h0 : n = 0
    · subst h0
      have hm : m = g := by have := hgm.out; rw [Nat.gcd_zero_right] at this; exact this
      have HM := Lib.hid hm; clear hm
      go_wp2
      go_ret
      exact ⟨nd, by rw [HM.out]; rfl, rfl⟩
    · have hn0 : ((n : Int) != 0) = true := by simp; omega
      obtain ⟨t, ht⟩ : ∃ t, t = m % n := ⟨_, rfl⟩
      have ht1 : t < n := by rw [ht]; exact Nat.mod_lt _ (by omega)
      have hgt := gcd_nat_step m n
      rw [← ht] at hgt
      have hwr : IntKind.i64.wrap ((m : Int).tmod n) = (t : Int) := by
        rw [Int.tmod_eq_emod_of_nonneg (by omega), ← Int.natCast_emod, ← ht]; exact IntWalk.i64_in _ (by omega)
      have hwe : ((m : Int).tmod n) = (t : Int) := by rw [Int.tmod_eq_emod_of_nonneg (by omega), ← Int.natCast_emod, ← ht]
      have HGT := Lib.hid hgt; have HW := Lib.hid hwe; clear hgt ht hwe
      go_wp2
      (refine wp_region_quiet_lit (by kernel_rfl) (by kernel_rfl) (WQ.out ?_); (repeat (first | (apply WQ.read (by rfl); (focus (rintro W ⟨n, rfl⟩; go_simp; try with_reducible rfl)); try simp only [Act.put, List.setIfInBounds_toArray, List.set_cons_zero, List.set_cons_succ]) | (apply WQ.skip (by rfl); try simp only [Act.put, List.setIfInBounds_toArray, List.set_cons_zero, List.set_cons_succ]))); refine WQ.nil ?_; rintro _ ⟨nq, rfl⟩)
      go_wp2
      go_roundw
      case rel => exact ⟨n, t, rfl, by first | rfl | (rw [HW.out]) | (show Value.int .i64 _ = Value.int .i64 _; congr 1; have := HW.out; rw [← this, Int.tmod_eq_emod_of_nonneg (by omega)]), HGT.out.trans hgm.out, n1, by omega, _, World.drewN_drewN _ _ _⟩
      case measure => first | (show ((m : Int).tmod n).toNat < (n : Int).toNat; rw [HW.out]; omega) | (simp [RowKit.intOf]; omega)

theorem byte_at (l : List UInt8) (s : ByteArray) (hs : s = ⟨l.toArray⟩) : s.size = l.length ∧ ∀ k (hk : k < l.length) (hb : k < s.size), s[k]'hb = l[k]'hk := by
  subst hs
  exact ⟨by show l.toArray.size = _; simp, fun k hk hb => rfl⟩

/-- Which strings are digits, byte by byte. -/
theorem isNum_bytes (l : List UInt8) : isNum l ↔ l.length ≠ 0 ∧ ¬ (1 < l.length ∧ l.head? = some 48) ∧ ∀ k (hk : k < l.length), 48 ≤ (l[k]'hk).toNat ∧ (l[k]'hk).toNat ≤ 57 := by
  constructor
  · rintro ⟨h1, h2, h3⟩
    exact ⟨fun h => h1 (List.length_eq_zero_iff.1 h), fun ⟨h4, h5⟩ => by have := h3 h5; omega, fun k hk => h2 _ (List.getElem_mem hk)⟩
  · rintro ⟨h1, h2, h3⟩
    refine ⟨fun h => h1 (by rw [h]; rfl), fun c hc => ?_, fun h => ?_⟩
    · obtain ⟨k, hk, rfl⟩ := List.getElem_of_mem hc
      exact h3 k hk
    · exact Nat.le_antisymm (Nat.le_of_not_lt fun h4 => h2 ⟨h4, h⟩) (by omega)

set_option maxRecDepth 100000 in
set_option maxHeartbeats 1000000 in
theorem xdigits_any (l : List UInt8) (hl : l.length ≤ 1000000) (w : World) :
    Calls Tryz.prog 71 #[St l] w fun e w' => ∃ b, e = .returned (.bool b) ∧ (b = true ↔ isNum l) ∧ w' = w := by
  rw [isNum_bytes]
  obtain ⟨s, hs⟩ : ∃ s : ByteArray, s = ⟨l.toArray⟩ := ⟨_, rfl⟩
  obtain ⟨b1, b2⟩ := byte_at l s hs
  show Calls _ _ #[.string ⟨l.toArray⟩] _ _
  rw [← hs]
  have hh : ∀ hb : 0 < s.size, l.head? = some 48 ↔ (s[0]'hb).toNat = 48 := fun hb => by
    have h0 : 0 < l.length := by omega
    rw [b2 0 h0 hb, List.head?_eq_getElem?, List.getElem?_eq_getElem h0]
    constructor
    · intro h; injection h with h; rw [h]; rfl
    · intro h; congr 1; exact UInt8.toNat_inj.1 (by rw [h]; rfl)
  obtain ⟨Q, hQ⟩ : ∃ Q : Prop, Q = (l.length ≠ 0 ∧ ¬ (1 < l.length ∧ l.head? = some 48) ∧ ∀ k (hk : k < l.length), 48 ≤ (l[k]'hk).toNat ∧ (l[k]'hk).toNat ≤ 57) := ⟨_, rfl⟩
  rw [← hQ]
  have q1 : s.size = 0 → ¬ Q := fun h => by rw [hQ]; exact fun k => k.1 (by omega)
  have q2 : ∀ hb : 0 < s.size, 1 < s.size → (s[0]'hb).toNat = 48 → ¬ Q := fun hb h h' => by rw [hQ]; exact fun k => k.2.1 ⟨by omega, (hh hb).2 h'⟩
  have q3 : ∀ k (hb : k < s.size), ((s[k]'hb).toNat < 48 ∨ 57 < (s[k]'hb).toNat) → ¬ Q := fun k hb h => by
    rw [hQ]; intro k'
    have := k'.2.2 k (by omega); rw [b2 k (by omega) hb] at h; omega
  have q4 : ∀ hb : 0 < s.size, ¬ (1 < s.size ∧ (s[0]'hb).toNat = 48) → (∀ k (hb : k < s.size), 48 ≤ (s[k]'hb).toNat ∧ (s[k]'hb).toNat ≤ 57) → Q := fun hb h h' => by
    rw [hQ]; exact ⟨by omega, fun ⟨k1, k2⟩ => h ⟨by omega, (hh hb).1 k2⟩, fun k hk => by have := h' k (by omega); rwa [b2 k hk (by omega)] at this⟩
  have hsz : s.size ≤ 1000000 := by omega
  have Q1 := Lib.hid q1; have Q2 := Lib.hid q2; have Q3 := Lib.hid q3; have Q4 := Lib.hid q4
  clear q1 q2 q3 q4 hh hQ b1 b2 hs hl
  go_enter Tryz.func71, Tryz.ntmps71
  by_cases h0 : s.size = 0
  · have h0' : ((s.size : Int) == 0) = true := by simpa using h0
    go_wp2
    go_ret
    exact ⟨false, rfl, ⟨fun h => by simp at h, fun h => absurd h (Q1.out h0)⟩, rfl⟩
  · have h0' : ((s.size : Int) == 0) = false := by simpa using h0
    have h00 : 0 < s.size := by omega
    by_cases h1 : 1 < s.size
    · have h1' : (1 : Int) < s.size := by omega
      by_cases h2 : (s[0]'h00).toNat = 48
      · have h2' : (((s[0]'h00).toNat : Int) == 48) = true := by rw [h2]; rfl
        have HN := Lib.hid (Q2.out h00 h1 h2); clear h2
        go_wp2
        go_ret
        exact ⟨false, rfl, ⟨fun h => by simp at h, fun h => absurd h HN.out⟩, rfl⟩
      · have h2' : (((s[0]'h00).toNat : Int) == 48) = false := by rw [beq_eq_false_iff_ne]; omega
        have HN := Lib.hid h2; clear h2
        go_wp2
        go_loop [3] (fun i => ∃ k : Nat, k ≤ s.size ∧ i = .int .i64 k ∧ Hid (∀ j (hb : j < s.size), j < k → 48 ≤ (s[j]'hb).toNat ∧ (s[j]'hb).toNat ≤ 57)) (fun i => s.size - (RowKit.intOf i).toNat)
        case atStart => exact ⟨0, Nat.zero_le _, rfl, fun j _ h => by omega⟩
        case round =>
          obtain ⟨k, hk, rfl, hP⟩ := hrel
          by_cases hlt : k < s.size
          · by_cases d1 : (s[k]'hlt).toNat < 48
            · have e1 : (((s[k]'hlt).toNat : Int)) < 48 := by omega
              have HN := Lib.hid (Q3.out k hlt (.inl d1)); clear d1
              go_wp2
              go_ret
              first | exact .inl ⟨rfl, HN.out, rfl⟩ | exact ⟨false, rfl, ⟨fun h => by simp at h, fun h => absurd h HN.out⟩, rfl⟩
            · by_cases d2 : 57 < (s[k]'hlt).toNat
              · have e1 : (48 : Int) ≤ (s[k]'hlt).toNat := by omega
                have e2 : (57 : Int) < (s[k]'hlt).toNat := by omega
                have HN := Lib.hid (Q3.out k hlt (.inr d2)); clear d1 d2
                go_wp2
                go_ret
                first | exact .inl ⟨rfl, HN.out, rfl⟩ | exact ⟨false, rfl, ⟨fun h => by simp at h, fun h => absurd h HN.out⟩, rfl⟩
              · have e1 : (48 : Int) ≤ (s[k]'hlt).toNat := by omega
                have e2 : ((s[k]'hlt).toNat : Int) ≤ 57 := by omega
                have hnext : ∀ j (hb : j < s.size), j < k + 1 → 48 ≤ (s[j]'hb).toNat ∧ (s[j]'hb).toNat ≤ 57 := fun j hb h => by
                  by_cases e : j = k
                  · subst e; omega
                  · exact hP.out j hb (by omega)
                have HN := Lib.hid hnext; clear hnext d1 d2
                go_wp2
                go_round
                case rel => exact ⟨k + 1, by omega, by go_num, HN⟩
                case measure => simp [RowKit.intOf]; omega
          · have hq := Q4.out h00 (fun h => HN.out h.2) (fun j hb => hP.out j hb (by omega))
            have HQ := Lib.hid hq; clear hq
            go_wp2
            go_ret
            first | exact .inr ⟨rfl, HQ.out, rfl⟩ | exact ⟨true, rfl, ⟨fun _ => HQ.out, fun _ => rfl⟩, rfl⟩
    · have h1' : ¬ (1 : Int) < s.size := by omega
      go_wp2
      go_loop [3] (fun i => ∃ k : Nat, k ≤ s.size ∧ i = .int .i64 k ∧ Hid (∀ j (hb : j < s.size), j < k → 48 ≤ (s[j]'hb).toNat ∧ (s[j]'hb).toNat ≤ 57)) (fun i => s.size - (RowKit.intOf i).toNat)
      case atStart => exact ⟨0, Nat.zero_le _, rfl, fun j _ h => by omega⟩
      case round =>
        obtain ⟨k, hk, rfl, hP⟩ := hrel
        by_cases hlt : k < s.size
        · by_cases d1 : (s[k]'hlt).toNat < 48
          · have e1 : (((s[k]'hlt).toNat : Int)) < 48 := by omega
            have HN := Lib.hid (Q3.out k hlt (.inl d1)); clear d1
            go_wp2
            go_ret
            first | exact .inl ⟨rfl, HN.out, rfl⟩ | exact ⟨false, rfl, ⟨fun h => by simp at h, fun h => absurd h HN.out⟩, rfl⟩
          · by_cases d2 : 57 < (s[k]'hlt).toNat
            · have e1 : (48 : Int) ≤ (s[k]'hlt).toNat := by omega
              have e2 : (57 : Int) < (s[k]'hlt).toNat := by omega
              have HN := Lib.hid (Q3.out k hlt (.inr d2)); clear d1 d2
              go_wp2
              go_ret
              first | exact .inl ⟨rfl, HN.out, rfl⟩ | exact ⟨false, rfl, ⟨fun h => by simp at h, fun h => absurd h HN.out⟩, rfl⟩
            · have e1 : (48 : Int) ≤ (s[k]'hlt).toNat := by omega
              have e2 : ((s[k]'hlt).toNat : Int) ≤ 57 := by omega
              have hnext : ∀ j (hb : j < s.size), j < k + 1 → 48 ≤ (s[j]'hb).toNat ∧ (s[j]'hb).toNat ≤ 57 := fun j hb h => by
                by_cases e : j = k
                · subst e; omega
                · exact hP.out j hb (by omega)
              have HN := Lib.hid hnext; clear hnext d1 d2
              go_wp2
              go_round
              case rel => exact ⟨k + 1, by omega, by go_num, HN⟩
              case measure => simp [RowKit.intOf]; omega
        · have hq := Q4.out h00 (fun h => h1 h.1) (fun j hb => hP.out j hb (by omega))
          have HQ := Lib.hid hq; clear hq
          go_wp2
          go_ret
          first | exact .inr ⟨rfl, HQ.out, rfl⟩ | exact ⟨true, rfl, ⟨fun _ => HQ.out, fun _ => rfl⟩, rfl⟩

set_option maxRecDepth 100000 in
set_option maxHeartbeats 1000000 in
theorem xsmall_any (l : List UInt8) (hd : ∀ c ∈ l, 48 ≤ c.toNat ∧ c.toNat ≤ 57) (hl : l.length ≤ 9) (w : World) :
    Calls Tryz.prog 73 #[St l] w fun e w' => e = .returned (I (val l)) ∧ w' = w := by
  obtain ⟨s, hs⟩ : ∃ s : ByteArray, s = ⟨l.toArray⟩ := ⟨_, rfl⟩
  obtain ⟨b1, b2⟩ := byte_at l s hs
  have hvt := fun k hk => val_take_lt (l := l) hd (k := k) hk
  have hst : ∀ k (hb : k < s.size), 48 ≤ (s[k]'hb).toNat ∧ (s[k]'hb).toNat ≤ 57 ∧ val (l.take (k + 1)) = 10 * val (l.take k) + ((s[k]'hb).toNat - 48) := fun k hb => by
    have hk : k < l.length := by omega
    rw [b2 k hk hb, List.take_succ_eq_append_getElem hk, val_snoc]
    exact ⟨(hd _ (List.getElem_mem hk)).1, (hd _ (List.getElem_mem hk)).2, rfl⟩
  have hfull : val (l.take s.size) = val l := by rw [b1, List.take_length]
  show Calls _ _ #[.string ⟨l.toArray⟩] _ _
  rw [← hs]
  have hs9 : s.size ≤ 9 := by omega
  generalize hvf : (fun k => val (l.take k)) = vf at *
  have hvt' : ∀ k, k ≤ 9 → vf k < 1000000000 := by rw [← hvf]; exact hvt
  have hst' : ∀ k (hb : k < s.size), 48 ≤ (s[k]'hb).toNat ∧ (s[k]'hb).toNat ≤ 57 ∧ vf (k + 1) = 10 * vf k + ((s[k]'hb).toNat - 48) := by rw [← hvf]; exact hst
  have hfull' : vf s.size = val l := by rw [← hvf]; exact hfull
  have hv0 : vf 0 = 0 := by rw [← hvf]; rfl
  generalize val l = vl at *
  have VT := Lib.hid hvt'; have ST := Lib.hid hst'; have HF := Lib.hid hfull'; have V0 := Lib.hid hv0
  clear hvt' hst' hfull' hv0 hvt hst hfull hvf b1 b2 hs hd hl
  go_enter Tryz.func73, Tryz.ntmps73
  go_wp2
  go_loop [3, 4] (fun a i => ∃ k : Nat, k ≤ s.size ∧ i = .int .i64 k ∧ a = .int .i64 (vf k : Nat)) (fun _ i => s.size - (RowKit.intOf i).toNat)
  case atStart => exact ⟨0, Nat.zero_le _, rfl, by rw [V0.out]; rfl⟩
  case round =>
    obtain ⟨k, hk, rfl, rfl⟩ := hrel
    by_cases hlt : k < s.size
    · obtain ⟨c1, c2, c3⟩ := ST.out k hlt
      have hv := VT.out k (by omega)
      generalize vf k = v at *
      have C3 := Lib.hid c3; clear c3
      have d1 : (48 : Int) ≤ (s[k].toNat : Int) := by omega
      have d2 : (s[k].toNat : Int) ≤ 57 := by omega
      go_wp2
      go_round
      case rel => exact ⟨k + 1, by omega, by go_num, by rw [C3.out]; show Value.int .i64 _ = Value.int .i64 _; congr 1; omega⟩
      case measure => simp [RowKit.intOf]; omega
    · have hk' : k = s.size := by omega
      have HK := Lib.hid hk'; clear hk'
      go_wp2
      go_ret
      exact ⟨by rw [HK.out, HF.out]; rfl, rfl⟩
end Go.Proofs.YtapfekcbbhhieaaGreatDoor

namespace Go.Proofs.YtapfekcbbhhieaaGreatDoor
open Go.RowKit Go.Shelf Lib Str Limb
attribute [local go_sem] Oper.semAt_some

theorem extract_pre (l : List UInt8) (k : Nat) : ((⟨l.toArray⟩ : ByteArray).extract 0 k) = ⟨(l.take k).toArray⟩ := by
  apply ByteArray.ext
  rw [ByteArray.data_extract]
  simp
theorem extract_post (l : List UInt8) (k : Nat) : ((⟨l.toArray⟩ : ByteArray).extract k (⟨l.toArray⟩ : ByteArray).size) = ⟨(l.drop k).toArray⟩ := by
  have : (⟨l.toArray⟩ : ByteArray).size = l.length := by show l.toArray.size = _; simp
  rw [this]
  apply ByteArray.ext
  rw [ByteArray.data_extract]
  simp [List.take_of_length_le]

/-- The first slash. -/
theorem first_slash (b : List UInt8) (k : Nat) (hk : k < b.length) (h1 : ∀ j (hj : j < b.length), j < k → b[j]'hj ≠ 47) (h2 : b[k]'hk = 47) :
    b.takeWhile (· != 47) = b.take k ∧ (b.dropWhile (· != 47)).tail = b.drop (k + 1) ∧ (47 : UInt8) ∈ b := by
  have e : b = b.take k ++ 47 :: b.drop (k + 1) := by
    rw [← h2, List.getElem_cons_drop, List.take_append_drop]
  have hn : (47 : UInt8) ∉ b.take k := by
    intro h
    obtain ⟨j, hj, e⟩ := List.getElem_of_mem h
    rw [List.getElem_take] at e
    simp at hj
    exact h1 j (by omega) (by omega) e
  obtain ⟨t1, t2⟩ := take_no (b := b.drop (k + 1)) hn
  refine ⟨?_, ?_, by rw [e]; simp⟩
  · conv => lhs; rw [e]
    exact t1
  · conv => lhs; rw [e]
    rw [t2]; rfl
theorem no_slash (b : List UInt8) (h1 : ∀ j (hj : j < b.length), b[j]'hj ≠ 47) : b.takeWhile (· != 47) = b ∧ (b.dropWhile (· != 47)).tail = [] ∧ (47 : UInt8) ∉ b := by
  have hn : (47 : UInt8) ∉ b := fun h => by
    obtain ⟨j, hj, e⟩ := List.getElem_of_mem h
    exact h1 j hj e
  refine ⟨take_all hn, ?_, hn⟩
  have : b.dropWhile (· != 47) = [] := by
    have h2 := List.takeWhile_append_dropWhile (p := (· != (47 : UInt8))) (l := b)
    rw [take_all hn] at h2
    exact List.append_right_eq_self.1 h2
  rw [this]; rfl

/-- What split answers. -/
def splitV (m : Bool) (b : List UInt8) : Value := .tuple #[.bool m, St (b.takeWhile (· != 47)), St ((b.dropWhile (· != 47)).tail), .bool (decide ((47 : UInt8) ∈ b))]

set_option maxRecDepth 100000 in
set_option maxHeartbeats 1000000 in
theorem xsplit_plain (b : List UInt8) (hm : b.head? ≠ some 45) (hl : b.length ≤ 1000000) (w : World) :
    Calls Tryz.prog 70 #[St b] w fun e w' => e = .returned (splitV false b) ∧ Below w.heap.size w w' := by
  obtain ⟨t, ht⟩ : ∃ t : ByteArray, t = ⟨b.toArray⟩ := ⟨_, rfl⟩
  obtain ⟨b1, b2⟩ := byte_at b t ht
  have kf : ∀ k (hk : k < t.size), (t[k]'hk).toNat = 47 → (∀ j (hb : j < t.size), j < k → (t[j]'hb).toNat ≠ 47) → splitV false b = .tuple #[.bool false, .string (t.extract 0 k), .string (t.extract (k + 1) t.size), .bool true] := fun k hk h1 h2 => by
    have hk' : k < b.length := by omega
    obtain ⟨e1, e2, e3⟩ := first_slash b k hk' (fun j hj hjk he => h2 j (by omega) hjk (by rw [b2 j hj (by omega), he]; rfl)) (UInt8.toNat_inj.1 (by rw [← b2 k hk' hk, h1]; rfl))
    unfold splitV
    rw [e1, e2, decide_eq_true e3, ht, extract_pre, extract_post]
  have kn : (∀ j (hb : j < t.size), (t[j]'hb).toNat ≠ 47) → splitV false b = .tuple #[.bool false, .string t, .string ⟨#[]⟩, .bool false] := fun h2 => by
    obtain ⟨e1, e2, e3⟩ := no_slash b (fun j hj he => h2 j (by omega) (by rw [b2 j hj (by omega), he]; rfl))
    unfold splitV
    rw [e1, e2, decide_eq_false e3, ht]
  have KF := Lib.hid kf; have KN := Lib.hid kn
  clear kf kn
  have h0 : t.size = 0 ∨ 0 < t.size ∧ ∀ hb : 0 < t.size, (((t[0]'hb).toNat : Int) == 45) = false := by
    by_cases h : t.size = 0
    · exact .inl h
    · refine .inr ⟨by omega, fun hb => ?_⟩
      rw [beq_eq_false_iff_ne]
      intro h'
      have hb0 : 0 < b.length := by omega
      refine hm ?_
      rw [List.head?_eq_getElem?, List.getElem?_eq_getElem hb0]
      congr 1
      rw [b2 0 hb0 hb] at h'
      exact UInt8.toNat_inj.1 (by have : (45 : UInt8).toNat = 45 := rfl; omega)
  have hsz : t.size ≤ 1000000 := by omega
  show Calls _ _ #[.string ⟨b.toArray⟩] _ _
  rw [← ht]
  clear b1 b2 ht hl hm
  generalize splitV false b = v at *
  go_enter Tryz.func70, Tryz.ntmps70
  rcases h0 with h0 | ⟨h0, h1⟩
  · have h0' : ¬ (0 : Int) < t.size := by omega
    have h9 := KN.out fun j hb => by omega
    have HN := Lib.hid h9; clear h9
    go_wp2
    refine wp_loop_rounds 1 ?_
    rw [rounds_succ]
    go_wp2
    refine bodyPost_ret (v := .tuple #[.bool false, .string t, .string ⟨#[]⟩, .bool false]) (by simp [results, Tryz.results70, go_sem]) rfl ⟨by rw [HN.out], Below.refl _ _⟩
  · have h1' := h1 h0
    have h0' : (0 : Int) < t.size := by omega
    clear h1
    go_wp2
    go_loop [8] (fun i => ∃ k : Nat, k ≤ t.size ∧ i = .int .i64 k ∧ Hid (∀ j (hb : j < t.size), j < k → (t[j]'hb).toNat ≠ 47)) (fun i => t.size - (RowKit.intOf i).toNat)
    case atStart => exact ⟨0, Nat.zero_le _, rfl, fun j _ h => by omega⟩
    case round =>
      clear h1'
      obtain ⟨k, hk, rfl, hP⟩ := hrel
      by_cases hlt : k < t.size
      · by_cases d1 : (t[k]'hlt).toNat = 47
        · have e1 : (((t[k]'hlt).toNat : Int) == 47) = true := by rw [d1]; rfl
          have h9 := KF.out k hlt d1 hP.out
          have HN := Lib.hid h9; clear d1 h9
          have hki : (k : Int) ≤ t.size := by omega
          have hki1 : (k : Int) + 1 ≤ t.size := by omega
          have hk0 : (0 : Int) ≤ (k : Int) + 1 := by omega
          have hwk : IntKind.i64.wrap ((k : Int) + 1) = (k : Int) + 1 := IntWalk.i64_in _ ⟨by omega, by omega⟩
          go_wp2
          (refine wp_region_quiet_lit (by kernel_rfl) (by kernel_rfl) (WQ.out ?_); (repeat (first | (apply WQ.read (by rfl); (focus (rintro W ⟨n, rfl⟩; go_simp; try with_reducible rfl)); try simp only [Act.put, List.setIfInBounds_toArray, List.set_cons_zero, List.set_cons_succ]) | (apply WQ.skip (by rfl); try simp only [Act.put, List.setIfInBounds_toArray, List.set_cons_zero, List.set_cons_succ]))); refine WQ.nil ?_; rintro _ ⟨nq, rfl⟩)
          go_wp2
          refine bodyPost_ret (v := .tuple #[.bool false, .string (t.extract 0 k), .string (t.extract (k + 1) t.size), .bool true]) (by simp [results, Tryz.results70, go_sem]) rfl ⟨by rw [HN.out], Below_drewN (Below.refl _ _) _⟩
        · have e1 : (((t[k]'hlt).toNat : Int) == 47) = false := by rw [beq_eq_false_iff_ne]; omega
          have hnext : ∀ j (hb : j < t.size), j < k + 1 → (t[j]'hb).toNat ≠ 47 := fun j hb h => by
            by_cases e : j = k
            · subst e; exact d1
            · exact hP.out j hb (by omega)
          have HN := Lib.hid hnext; clear hnext d1
          go_wp2
          go_round
          case rel => exact ⟨k + 1, by omega, by go_num, HN⟩
          case measure => simp [RowKit.intOf]; omega
      · have h9 := KN.out fun j hb => hP.out j hb (by omega)
        have HN := Lib.hid h9; clear h9
        go_wp2
        refine bodyPost_ret (v := .tuple #[.bool false, .string t, .string ⟨#[]⟩, .bool false]) (by simp [results, Tryz.results70, go_sem]) rfl ⟨by rw [HN.out], Below.refl _ _⟩

set_option maxRecDepth 100000 in
set_option maxHeartbeats 1000000 in
theorem xsplit_minus (b : List UInt8) (hl : b.length ≤ 1000000) (w : World) :
    Calls Tryz.prog 70 #[St (45 :: b)] w fun e w' => e = .returned (splitV true b) ∧ Below w.heap.size w w' := by
  obtain ⟨t, ht⟩ : ∃ t : ByteArray, t = ⟨b.toArray⟩ := ⟨_, rfl⟩
  obtain ⟨b1, b2⟩ := byte_at b t ht
  have kf : ∀ k (hk : k < t.size), (t[k]'hk).toNat = 47 → (∀ j (hb : j < t.size), j < k → (t[j]'hb).toNat ≠ 47) → splitV true b = .tuple #[.bool true, .string (t.extract 0 k), .string (t.extract (k + 1) t.size), .bool true] := fun k hk h1 h2 => by
    have hk' : k < b.length := by omega
    obtain ⟨e1, e2, e3⟩ := first_slash b k hk' (fun j hj hjk he => h2 j (by omega) hjk (by rw [b2 j hj (by omega), he]; rfl)) (UInt8.toNat_inj.1 (by rw [← b2 k hk' hk, h1]; rfl))
    unfold splitV
    rw [e1, e2, decide_eq_true e3, ht, extract_pre, extract_post]
  have kn : (∀ j (hb : j < t.size), (t[j]'hb).toNat ≠ 47) → splitV true b = .tuple #[.bool true, .string t, .string ⟨#[]⟩, .bool false] := fun h2 => by
    obtain ⟨e1, e2, e3⟩ := no_slash b (fun j hj he => h2 j (by omega) (by rw [b2 j hj (by omega), he]; rfl))
    unfold splitV
    rw [e1, e2, decide_eq_false e3, ht]
  have KF := Lib.hid kf; have KN := Lib.hid kn
  clear kf kn
  obtain ⟨s, hs⟩ : ∃ s : ByteArray, s = ⟨((45 : UInt8) :: b).toArray⟩ := ⟨_, rfl⟩
  obtain ⟨s1, s2, s3, s4, s5⟩ := neg_facts b s hs
  have h45 := s4 s2
  have hsl : (1 : Int) ≤ s.size := by omega
  have hs0 : (0 : Int) < s.size := by omega
  rw [← ht] at s5
  have hsz : t.size ≤ 1000000 := by omega
  show Calls _ _ #[.string ⟨((45 : UInt8) :: b).toArray⟩] _ _
  rw [← hs]
  clear b1 b2 ht hl s1 s3 s4 hs
  generalize splitV true b = v at *
  go_enter Tryz.func70, Tryz.ntmps70
  go_wp2
  go_loop [8] (fun i => ∃ k : Nat, k ≤ t.size ∧ i = .int .i64 k ∧ Hid (∀ j (hb : j < t.size), j < k → (t[j]'hb).toNat ≠ 47)) (fun i => t.size - (RowKit.intOf i).toNat)
  case atStart => exact ⟨0, Nat.zero_le _, rfl, fun j _ h => by omega⟩
  case round =>
    clear h45 hsl hs0 s5
    obtain ⟨k, hk, rfl, hP⟩ := hrel
    by_cases hlt : k < t.size
    · by_cases d1 : (t[k]'hlt).toNat = 47
      · have e1 : (((t[k]'hlt).toNat : Int) == 47) = true := by rw [d1]; rfl
        have h9 := KF.out k hlt d1 hP.out
        have HN := Lib.hid h9; clear d1 h9
        have hki : (k : Int) ≤ t.size := by omega
        have hki1 : (k : Int) + 1 ≤ t.size := by omega
        have hk0 : (0 : Int) ≤ (k : Int) + 1 := by omega
        have hwk : IntKind.i64.wrap ((k : Int) + 1) = (k : Int) + 1 := IntWalk.i64_in _ ⟨by omega, by omega⟩
        go_wp2
        (refine wp_region_quiet_lit (by kernel_rfl) (by kernel_rfl) (WQ.out ?_); (repeat (first | (apply WQ.read (by rfl); (focus (rintro W ⟨n, rfl⟩; go_simp; try with_reducible rfl)); try simp only [Act.put, List.setIfInBounds_toArray, List.set_cons_zero, List.set_cons_succ]) | (apply WQ.skip (by rfl); try simp only [Act.put, List.setIfInBounds_toArray, List.set_cons_zero, List.set_cons_succ]))); refine WQ.nil ?_; rintro _ ⟨nq, rfl⟩)
        go_wp2
        refine bodyPost_ret (v := .tuple #[.bool true, .string (t.extract 0 k), .string (t.extract (k + 1) t.size), .bool true]) (by simp [results, Tryz.results70, go_sem]) rfl ⟨by rw [HN.out], Below_drewN (Below.refl _ _) _⟩
      · have e1 : (((t[k]'hlt).toNat : Int) == 47) = false := by rw [beq_eq_false_iff_ne]; omega
        have hnext : ∀ j (hb : j < t.size), j < k + 1 → (t[j]'hb).toNat ≠ 47 := fun j hb h => by
          by_cases e : j = k
          · subst e; exact d1
          · exact hP.out j hb (by omega)
        have HN := Lib.hid hnext; clear hnext d1
        go_wp2
        go_round
        case rel => exact ⟨k + 1, by omega, by go_num, HN⟩
        case measure => simp [RowKit.intOf]; omega
    · have h9 := KN.out fun j hb => hP.out j hb (by omega)
      have HN := Lib.hid h9; clear h9
      go_wp2
      refine bodyPost_ret (v := .tuple #[.bool true, .string t, .string ⟨#[]⟩, .bool false]) (by simp [results, Tryz.results70, go_sem]) rfl ⟨by rw [HN.out], Below.refl _ _⟩

theorem xsplit_any (l : List UInt8) (hl : l.length ≤ 1000000) (w : World) :
    Calls Tryz.prog 70 #[St l] w fun e w' => e = .returned (.tuple #[.bool (decide (l.head? = some 45)), St (upS l), St (dnS l), .bool (decide ((47 : UInt8) ∈ bare l))]) ∧ Below w.heap.size w w' := by
  rcases bare_cases l with ⟨h1, h2⟩ | ⟨h1, h2⟩
  · rw [decide_eq_true h1]
    have := xsplit_minus (bare l) (by have := congrArg List.length h2; simp at this; omega) w
    rw [← h2] at this
    exact this
  · rw [decide_eq_false h1]
    have := xsplit_plain (bare l) (by rw [← h2]; exact h1) (by rw [← h2]; exact hl) w
    rw [← h2] at this
    unfold upS dnS
    rw [← h2]
    exact this
end Go.Proofs.YtapfekcbbhhieaaGreatDoor
