/-
  kingpostref01: Check, small, Gcd at short numerals without a sign.
  kingpostref02.Check.
  The law of AcB inside a fence: operations may be calls of yield.
  polygon.sides: the iterator's contract.
-/
import Derived.Test.YtapfekcbbhhieaaGreatDoorS18
import Derived.Test.YtapfekcbbhhieaaGreatDoorS16
import Derived.Test.YtapfekcbbhhieaaGreatDoorS17
import Derived.OwnWalkIn
namespace Go.Proofs.YtapfekcbbhhieaaGreatDoor
open Go.RowKit Go.Shelf Lib Str Limb
attribute [local go_sem] Oper.semAt_some

set_option maxRecDepth 100000 in
set_option maxHeartbeats 1000000 in
/-- kingpostref01.Check at digits. -/
theorem y1Check_dec (n : Nat) (hl : (decDigits n).length ≤ 300) (w : World) :
    Calls Tryz.prog 146 #[St (decDigits n)] w fun e w' => e = .returned (.int .i64 0) ∧ w' = w := by
  obtain ⟨s, hs⟩ : ∃ s : ByteArray, s = ⟨(decDigits n ++ []).toArray⟩ := ⟨_, rfl⟩
  obtain ⟨b1, b2, -⟩ := runs_byte (runs_nil n) s hs
  have hzero : (decDigits n).length ≤ 1 ∨ ∀ hb : 0 < s.size, (s[0]'hb).toNat ≠ 48 := first_nz n [] s hs
  have hb2 : ∀ k (hb : k < s.size), 48 ≤ (s[k]'hb).toNat ∧ (s[k]'hb).toNat ≤ 57 := fun k hb => ⟨(b2 k (by simp at b1; omega) hb).1, (b2 k (by simp at b1; omega) hb).2.1⟩
  have hpos : 1 ≤ (decDigits n).length := by have := digs_pos (n : Int); unfold digs at this; simpa using this
  rw [List.append_nil] at hs
  have hlen : (decDigits n).length = s.size := by rw [b1]; simp
  show Calls _ _ #[.string ⟨(decDigits n).toArray⟩] _ _
  rw [hlen] at hl hzero hpos
  rw [← hs]
  have B2 := Lib.hid hb2
  clear b1 b2 hb2 hs hlen
  have h0 : 0 < s.size := by omega
  have h0' : (0 : Int) < s.size := by omega
  have hz : ((0 : Int) == s.size) = false := by rw [beq_eq_false_iff_ne]; omega
  have h45 : (((s[0]'h0).toNat : Int) == 45) = false := by rw [beq_eq_false_iff_ne]; have := (B2.out 0 h0).1; omega
  have hf : (((s[0]'h0).toNat : Int) == 48) = true ∧ ¬ (1 : Int) < s.size ∨ (((s[0]'h0).toNat : Int) == 48) = false := by
    by_cases h : (s[0]'h0).toNat = 48
    · left
      refine ⟨by rw [h]; rfl, ?_⟩
      rcases hzero with h1 | h1
      · omega
      · exact absurd h (h1 h0)
    · right; rw [beq_eq_false_iff_ne]; omega
  have hwl : IntKind.i64.wrap ((s.size : Int) - 0) = (s.size : Int) := by rw [Int.sub_zero]; exact IntWalk.i64_in _ ⟨by omega, by omega⟩
  have hwl2 : IntKind.i64.wrap (s.size : Int) = (s.size : Int) := IntWalk.i64_in _ ⟨by omega, by omega⟩
  have h300 : ¬ (300 : Int) < s.size := by omega
  clear hzero
  go_enter Tryz.func146, Tryz.ntmps146
  rcases hf with ⟨f1, f2⟩ | f1
  all_goals (
  go_wp2
  go_loop [4] (fun i => ∃ k : Nat, k ≤ s.size ∧ i = .int .i64 k) (fun i => s.size - (RowKit.intOf i).toNat)
  case atStart => exact ⟨0, Nat.zero_le _, rfl⟩
  case round =>
    obtain ⟨k, hk, rfl⟩ := hrel
    by_cases hlt : k < s.size
    · obtain ⟨c1, c2⟩ := B2.out k hlt
      have d1 : (48 : Int) ≤ (s[k].toNat : Int) := by omega
      have d2 : (s[k].toNat : Int) ≤ 57 := by omega
      go_wp2
      go_round
      case rel => exact ⟨k + 1, by omega, by go_num⟩
      case measure => simp [RowKit.intOf]; omega
    · go_wp2
      go_ret
      first | exact ⟨rfl, rfl⟩ | exact rfl | trivial)

set_option maxHeartbeats 400000 in
theorem y1both_dec (m n : Nat) (hm : (decDigits m).length ≤ 300) (hn : (decDigits n).length ≤ 300) (w : World) :
    Calls Tryz.prog 107 #[St (decDigits m), St (decDigits n)] w fun e w' => e = .returned (.int .i64 0) ∧ w' = w := by
  have c1 := y1Check_dec m hm w; have c2 := y1Check_dec n hn w
  generalize decDigits m = x at *
  generalize decDigits n = y at *
  have C1 := Lib.hid c1; have C2 := Lib.hid c2
  clear c1 c2 hm hn
  go_enter Tryz.func107, Tryz.ntmps107
  go_wp2_with fail
  refine C1.out.mono ?_
  rintro e w' ⟨rfl, rfl⟩
  go_wp2_with fail
  refine C2.out.mono ?_
  rintro e w'' ⟨rfl, rfl⟩
  go_wp2_with fail
  go_ret
  exact ⟨rfl, rfl⟩

theorem val_take_lt17 {l : List UInt8} (h : ∀ c ∈ l, 48 ≤ c.toNat ∧ c.toNat ≤ 57) {k : Nat} (hk : k ≤ 17) : val (l.take k) < 100000000000000000 := by
  have h1 := val_lt (l.take k) (fun c hc => h c (List.mem_of_mem_take hc))
  have h2 : (10 : Nat) ^ (l.take k).length ≤ 10 ^ 17 := Nat.pow_le_pow_right (by omega) (by simp; omega)
  exact Nat.lt_of_lt_of_le h1 h2

set_option maxRecDepth 100000 in
set_option maxHeartbeats 1000000 in
theorem y1small_dec (n : Nat) (hl : (decDigits n).length ≤ 17) (w : World) :
    Calls Tryz.prog 147 #[St (decDigits n)] w fun e w' => e = .returned (.tuple #[I n, .bool true]) ∧ w' = w := by
  obtain ⟨l, hll⟩ : ∃ l, l = decDigits n := ⟨_, rfl⟩
  have hd := decDigits_digit n
  have hvn := val_dec n
  have hpos : 1 ≤ (decDigits n).length := by have := digs_pos (n : Int); unfold digs at this; simpa using this
  rw [← hll] at hd hvn hl hpos ⊢
  obtain ⟨s, hs⟩ : ∃ s : ByteArray, s = ⟨l.toArray⟩ := ⟨_, rfl⟩
  obtain ⟨b1, b2⟩ := byte_at l s hs
  have hvt := fun k hk => val_take_lt17 (l := l) hd (k := k) hk
  have hst : ∀ k (hb : k < s.size), 48 ≤ (s[k]'hb).toNat ∧ (s[k]'hb).toNat ≤ 57 ∧ val (l.take (k + 1)) = 10 * val (l.take k) + ((s[k]'hb).toNat - 48) := fun k hb => by
    have hk : k < l.length := by omega
    rw [b2 k hk hb, List.take_succ_eq_append_getElem hk, val_snoc]
    exact ⟨(hd _ (List.getElem_mem hk)).1, (hd _ (List.getElem_mem hk)).2, rfl⟩
  have hfull : val (l.take s.size) = n := by rw [b1, List.take_length]; exact hvn
  show Calls _ _ #[.string ⟨l.toArray⟩] _ _
  rw [← hs]
  have hs17 : s.size ≤ 17 := by omega
  have hs0 : 0 < s.size := by omega
  generalize hvf : (fun k => val (l.take k)) = vf at *
  have hvt' : ∀ k, k ≤ 17 → vf k < 100000000000000000 := by rw [← hvf]; exact hvt
  have hst' : ∀ k (hb : k < s.size), 48 ≤ (s[k]'hb).toNat ∧ (s[k]'hb).toNat ≤ 57 ∧ vf (k + 1) = 10 * vf k + ((s[k]'hb).toNat - 48) := by rw [← hvf]; exact hst
  have hfull' : vf s.size = n := by rw [← hvf]; exact hfull
  have hv0 : vf 0 = 0 := by rw [← hvf]; rfl
  have VT := Lib.hid hvt'; have ST := Lib.hid hst'; have HF := Lib.hid hfull'; have V0 := Lib.hid hv0
  have h45 : (((s[0]'hs0).toNat : Int) == 45) = false := by rw [beq_eq_false_iff_ne]; have := (hst' 0 hs0).1; omega
  clear hvt' hst' hfull' hv0 hvt hst hfull hvf b1 b2 hs hd hl hll hvn hpos
  go_enter Tryz.func147, Tryz.ntmps147
  go_wp2
  go_loop [4, 5] (fun a i => ∃ k : Nat, k ≤ s.size ∧ i = .int .i64 k ∧ a = .int .i64 (vf k : Nat)) (fun _ i => s.size - (RowKit.intOf i).toNat)
  case atStart => exact ⟨0, Nat.zero_le _, rfl, by rw [V0.out]; rfl⟩
  case round =>
    obtain ⟨k, hk, rfl, rfl⟩ := hrel
    by_cases hlt : k < s.size
    · obtain ⟨c1, c2, c3⟩ := ST.out k hlt
      have hv := VT.out k (by omega)
      generalize vf k = v at *
      have C3 := Lib.hid c3; clear c3
      have d1 : (48 : Int) ≤ (s[k].toNat : Int) := by omega
      have d2 : (s[k].toNat : Int) ≤ 57 := by omega
      have d3 : ((s[k].toNat : Int) != 45) = true := by simp; omega
      go_wp2
      go_round
      case rel => exact ⟨k + 1, by omega, by go_num, by rw [C3.out]; show Value.int .i64 _ = Value.int .i64 _; congr 1; omega⟩
      case measure => simp [RowKit.intOf]; omega
    · have hk' : k = s.size := by omega
      have HK := Lib.hid hk'; clear hk'
      go_wp2
      go_ret2
      exact ⟨by rw [HK.out, HF.out]; rfl, rfl⟩

set_option maxHeartbeats 400000 in
theorem y1two_dec (m n : Nat) (hm : (decDigits m).length ≤ 17) (hn : (decDigits n).length ≤ 17) (w : World) :
    Calls Tryz.prog 108 #[St (decDigits m), St (decDigits n)] w fun e w' => e = .returned (.tuple #[I m, I n, .bool true]) ∧ w' = w := by
  have c1 := y1small_dec m hm w; have c2 := y1small_dec n hn w
  generalize decDigits m = x at *
  generalize decDigits n = y at *
  have C1 := Lib.hid c1; have C2 := Lib.hid c2
  clear c1 c2 hm hn
  go_enter Tryz.func108, Tryz.ntmps108
  go_wp2_with fail
  refine C1.out.mono ?_
  rintro e w' ⟨rfl, rfl⟩
  go_wp2_with fail
  refine C2.out.mono ?_
  rintro e w'' ⟨rfl, rfl⟩
  go_wp2_with fail
  go_ret3
  exact ⟨rfl, rfl⟩
end Go.Proofs.YtapfekcbbhhieaaGreatDoor

namespace Go.Proofs.YtapfekcbbhhieaaGreatDoor
open Go.RowKit Go.Shelf Lib Str Limb
attribute [local go_sem] Oper.semAt_some

set_option maxRecDepth 100000 in
set_option maxHeartbeats 1000000 in
theorem y1Gcd_dec (x y : Nat) (hx : (decDigits x).length ≤ 17) (hy : (decDigits y).length ≤ 17) (w : World) (hw : Wd w) :
    Calls Tryz.prog 74 #[St (decDigits x), St (decDigits y)] w fun e w' => e = .returned (.tuple #[St (decDigits (Nat.gcd x y)), .int .i64 0]) ∧ Below w.heap.size w w' := by
  have x3 := (dec_len_le_iff x 17 (by omega)).1 hx
  have y3 := (dec_len_le_iff y 17 (by omega)).1 hy
  have x2 : (x : Int) < 1000000000000000000 := by omega
  have y2 : (y : Int) < 1000000000000000000 := by omega
  clear x3 y3
  have x1 : -1000000000000000000 < (x : Int) := by omega
  have y1 : -1000000000000000000 < (y : Int) := by omega
  have hb := fun W => y1both_dec x y (by omega) (by omega) W
  have hs := fun W => y1two_dec x y hx hy W
  have HB := Lib.hid hb; clear hb
  have HS := Lib.hid hs; clear hs hx hy
  have HW := Lib.hid hw; clear hw
  obtain ⟨g, hg⟩ : ∃ g, g = Nat.gcd x y := ⟨_, rfl⟩
  rw [← hg]
  have hg2 : g = Int.gcd (x : Int) (y : Int) := by rw [hg]; rfl
  have HG := Lib.hid hg2; clear hg hg2
  have hB2 : Below w.heap.size w w := Below.refl _ w
  rw [← Str.itoa_nonneg g]
  generalize decDigits x = sx at *
  generalize decDigits y = sy at *
  go_enter Tryz.func74, Tryz.ntmps74
  go_wp2_with fail
  refine (HB.out w).mono ?_
  rintro e w1 ⟨rfl, hw1⟩
  have hw2 := hw1.symm; subst hw2
  go_wp2_with fail
  refine (HS.out _).mono ?_
  rintro e w2 ⟨rfl, hw1⟩
  have hw2 := hw1.symm; subst hw2
  go_wp2_with fail
  go_loopw [7, 8] (fun a b wr => ∃ m n : Int, a = .int .i64 m ∧ b = .int .i64 n ∧ Hid (Int.gcd m n = g) ∧ (-1000000000000000000 < m ∧ m < 1000000000000000000) ∧ (-1000000000000000000 < n ∧ n < 1000000000000000000) ∧ Hid (Below w.heap.size w wr))
    (fun _ b _ => (RowKit.intOf b).natAbs)
  case atStart => exact ⟨x, y, rfl, rfl, HG.out.symm, ⟨x1, x2⟩, ⟨y1, y2⟩, hB2⟩
  case round =>
    clear x1 x2 y1 y2 hB2
    obtain ⟨m, n, rfl, rfl, hgm, ⟨m1, m2⟩, ⟨n1, n2⟩, hBr⟩ := hrel
    by_cases h0 : n = 0
    · subst h0
      have hgm' : Int.gcd m 0 = g := hgm.out
      rw [Int.gcd_zero_right] at hgm'
      have hmx : max m (-m) = (g : Int) := by omega
      have HM := Lib.hid hgm'; clear hgm hgm'
      have hg1 : (g : Int) ≤ 1000000000000000000 := by omega
      have hneg : IntKind.i64.wrap (-m) = -m := IntWalk.i64_in _ (by omega)
      go_wp2_with fail
      refine (itoa_b (g : Int) (by omega) (by omega) wr (HW.out.below hBr.out)).mono ?_
      rintro e w3 ⟨rfl, hb3⟩
      have hB3 := hBr.out.trans (hb3.mono hBr.out.size)
      clear hb3
      go_wp2_with fail
      go_ret2
      exact ⟨rfl, hB3⟩
    · have hn0 : (n != 0) = true := by simpa using h0
      have ht1 : (m.tmod n).natAbs < n.natAbs := by rw [Int.natAbs_tmod]; exact Nat.mod_lt _ (by omega)
      obtain ⟨t, ht⟩ : ∃ t, t = m.tmod n := ⟨_, rfl⟩
      have hgt := gcd_step m n
      rw [← ht] at ht1 hgt
      have hwr : IntKind.i64.wrap (m.tmod n) = t := by rw [← ht]; exact IntWalk.i64_in _ (by omega)
      have HGT := Lib.hid hgt; have HT := Lib.hid ht; clear hgt ht hwr
      go_wp2
      (refine wp_region_quiet_lit (by kernel_rfl) (by kernel_rfl) (WQ.out ?_); (repeat (first | (apply WQ.read (by rfl); (focus (rintro W ⟨n, rfl⟩; go_simp; try with_reducible rfl)); try simp only [Act.put, List.setIfInBounds_toArray, List.set_cons_zero, List.set_cons_succ]) | (apply WQ.skip (by rfl); try simp only [Act.put, List.setIfInBounds_toArray, List.set_cons_zero, List.set_cons_succ]))); refine WQ.nil ?_; rintro _ ⟨nq, rfl⟩)
      go_wp2
      go_roundw
      case rel => exact ⟨n, t, rfl, by rw [HT.out], HGT.out.trans hgm.out, ⟨n1, n2⟩, by omega, Below_drewN hBr.out _⟩
      case measure => show (m.tmod n).natAbs < n.natAbs; rw [← HT.out]; exact ht1


/-- What the tests of Check ask. -/
theorem okS_cases (l : List UInt8) : okS l ↔ isNum (upS l) ∧ ¬ (l.head? = some 45 ∧ upS l = [48]) ∧ ((47 : UInt8) ∉ bare l ∨ (isNum (dnS l) ∧ dnS l ≠ [48] ∧ dnS l ≠ [49] ∧ Nat.gcd (val (upS l)) (val (dnS l)) = 1)) := by
  unfold okS hasS
  constructor
  · rintro ⟨h1, h2, h3⟩
    refine ⟨h1, h2, ?_⟩
    by_cases h : (47 : UInt8) ∈ bare l
    · exact .inr (h3 h)
    · exact .inl h
  · rintro ⟨h1, h2, h3⟩
    refine ⟨h1, h2, fun h => ?_⟩
    rcases h3 with h3 | h3
    · exact absurd h h3
    · exact h3

theorem beq_list (l : List UInt8) (s : ByteArray) (hs : s = ⟨l.toArray⟩) (k : List UInt8) : (s.toList == k) = decide (l = k) := by
  rw [hs, ByteArray.toList_eq]
  by_cases h : l = k
  · subst h; simp
  · rw [decide_eq_false h]; simpa using h

set_option maxRecDepth 100000 in
set_option maxHeartbeats 4000000 in
theorem xCheck_walk (x u v : ByteArray) (m sl b1 b2 z1 z2 z3 : Bool) (g : Nat) (Q : Prop) (hu : u.size ≤ 17) (hv : v.size ≤ 17)
    (HQ : Hid (Q ↔ b1 = true ∧ ¬ (m = true ∧ z3 = true) ∧ (sl = false ∨ (b2 = true ∧ z1 = false ∧ z2 = false ∧ g = 1))))
    (e1 : (v.toList == [48]) = z1) (e2 : (v.toList == [49]) = z2) (e3 : (u.toList == [48]) = z3)
    (SP : Hid (∀ W : World, Calls Tryz.prog 70 #[.string x] W fun e w' => e = .returned (.tuple #[.bool m, .string u, .string v, .bool sl]) ∧ Below W.heap.size W w'))
    (D1 : Hid (∀ W : World, Calls Tryz.prog 71 #[.string u] W fun e w' => e = .returned (.bool b1) ∧ w' = W))
    (D2 : Hid (∀ W : World, Calls Tryz.prog 71 #[.string v] W fun e w' => e = .returned (.bool b2) ∧ w' = W))
    (SG : Hid (b1 = true → b2 = true → u.size ≤ 9 → v.size ≤ 9 → ∃ n d : Nat, (∀ W : World, Calls Tryz.prog 73 #[.string u] W fun e w' => e = .returned (I n) ∧ w' = W) ∧ (∀ W : World, Calls Tryz.prog 73 #[.string v] W fun e w' => e = .returned (I d) ∧ w' = W) ∧
      ∀ W : World, Calls Tryz.prog 72 #[I n, I d] W fun e w' => e = .returned (I g) ∧ Below W.heap.size W w'))
    (BG : Hid (b1 = true → b2 = true → ∃ t : ByteArray, (t.toList == [49]) = decide (g = 1) ∧ ∀ W : World, Wd W → Calls Tryz.prog 74 #[.string u, .string v] W fun e w' => e = .returned (.tuple #[.string t, .int .i64 0]) ∧ Below W.heap.size W w'))
    (w : World) (HW : Hid (Wd w)) :
    Calls Tryz.prog 39 #[.string x] w fun e w' => ∃ r : Int, e = .returned (.int .i64 r) ∧ (r = 0 ↔ Q) ∧ Below w.heap.size w w' := by
  have u300 : ¬ (300 : Int) < u.size := by omega
  have v300 : ¬ (300 : Int) < v.size := by omega
  go_enter Tryz.func39, Tryz.ntmps39
  go_wp2_with fail
  refine (SP.out w).mono ?_
  rintro e w1 ⟨rfl, hB⟩
  go_wp2_with fail
  refine (D1.out w1).mono ?_
  rintro e w2 ⟨rfl, hw⟩
  have hw2 := hw.symm; subst hw2; clear hw
  cases b1
  · have HN := Lib.hid (by rw [HQ.out]; simp : ¬ Q)
    go_wp2_with fail
    all_goals first | (exact absurd (Option.some.inj ‹some undef = some (Value.bool _)›) (fun h => Value.noConfusion h)) | skip
    go_ret
    exact ⟨11, rfl, ⟨fun h => by simp at h, fun h => absurd h HN.out⟩, hB⟩
  · cases sl
    · cases m
      · have HN := Lib.hid (by rw [HQ.out]; simp : Q)
        go_wp2_with fail
        all_goals first | (exact absurd (Option.some.inj ‹some undef = some (Value.bool _)›) (fun h => Value.noConfusion h)) | skip
        go_ret
        exact ⟨0, rfl, ⟨fun _ => HN.out, fun _ => rfl⟩, hB⟩
      · cases z3
        · have HN := Lib.hid (by rw [HQ.out]; simp : Q)
          go_wp2_with fail
          all_goals first | (exact absurd (Option.some.inj ‹some undef = some (Value.bool _)›) (fun h => Value.noConfusion h)) | skip
          go_ret
          exact ⟨0, rfl, ⟨fun _ => HN.out, fun _ => rfl⟩, hB⟩
        · have HN := Lib.hid (by rw [HQ.out]; simp : ¬ Q)
          go_wp2_with fail
          all_goals first | (exact absurd (Option.some.inj ‹some undef = some (Value.bool _)›) (fun h => Value.noConfusion h)) | skip
          go_ret
          exact ⟨11, rfl, ⟨fun h => by simp at h, fun h => absurd h HN.out⟩, hB⟩
    · go_wp2_with fail
      all_goals first | (exact absurd (Option.some.inj ‹some undef = some (Value.bool _)›) (fun h => Value.noConfusion h)) | skip
      refine (D2.out _).mono ?_
      rintro e w2 ⟨rfl, hw⟩
      have hw2 := hw.symm; subst hw2; clear hw
      cases b2
      · have HN := Lib.hid (by rw [HQ.out]; simp : ¬ Q)
        go_wp2_with fail
        all_goals first | (exact absurd (Option.some.inj ‹some undef = some (Value.bool _)›) (fun h => Value.noConfusion h)) | skip
        go_ret
        exact ⟨11, rfl, ⟨fun h => by simp at h, fun h => absurd h HN.out⟩, hB⟩
      · cases z1
        · cases z2
          · cases m
            · by_cases h9 : u.size ≤ 9
              · by_cases k9 : v.size ≤ 9
                · have hu9 : (u.size : Int) ≤ 9 := by omega
                  have hv9 : (v.size : Int) ≤ 9 := by omega
                  obtain ⟨n, d, s1, s2, s3⟩ := SG.out (by simp) (by simp) (by omega) (by omega)
                  have S1 := Lib.hid s1; have S2 := Lib.hid s2; have S3 := Lib.hid s3; clear s1 s2 s3
                  go_wp2_with fail
                  all_goals first | (exact absurd (Option.some.inj ‹some undef = some (Value.bool _)›) (fun h => Value.noConfusion h)) | skip
                  refine (S1.out _).mono ?_
                  rintro e w2 ⟨rfl, hw⟩
                  have hw2 := hw.symm; subst hw2; clear hw
                  go_wp2_with fail
                  refine (S2.out _).mono ?_
                  rintro e w2 ⟨rfl, hw⟩
                  have hw2 := hw.symm; subst hw2; clear hw
                  go_wp2_with fail
                  refine (S3.out _).mono ?_
                  rintro e w2 ⟨rfl, hb2⟩
                  have hB := hB.trans (hb2.mono hB.size)
                  clear hb2
                  by_cases hg : g = 1
                  · have HN := Lib.hid (by rw [HQ.out]; simp [hg] : Q)
                    have hgb : ((g : Int) != 1) = false := by subst hg; rfl
                    clear hg
                    go_wp2_with fail
                    go_ret
                    exact ⟨0, rfl, ⟨fun _ => HN.out, fun _ => rfl⟩, hB⟩
                  · have HN := Lib.hid (by rw [HQ.out]; simp [hg] : ¬ Q)
                    have hgb : ((g : Int) != 1) = true := by simp; omega
                    clear hg
                    go_wp2_with fail
                    go_ret
                    exact ⟨11, rfl, ⟨fun h => by simp at h, fun h => absurd h HN.out⟩, hB⟩
                · have hu9 : (u.size : Int) ≤ 9 := by omega
                  have hv9 : ¬ (v.size : Int) ≤ 9 := by omega
                  obtain ⟨t, t1, t2⟩ := BG.out (by simp) (by simp)
                  have T2 := Lib.hid (t2 w1 (HW.out.below hB)); clear t2
                  go_wp2_with fail
                  all_goals first | (exact absurd (Option.some.inj ‹some undef = some (Value.bool _)›) (fun h => Value.noConfusion h)) | skip
                  refine T2.out.mono ?_
                  rintro e w2 ⟨rfl, hb2⟩
                  have hB := hB.trans (hb2.mono hB.size)
                  clear hb2 T2
                  by_cases hg : g = 1
                  · have HN := Lib.hid (by rw [HQ.out]; simp [hg] : Q)
                    rw [decide_eq_true hg] at t1
                    clear hg
                    go_wp2_with fail
                    go_ret
                    exact ⟨0, rfl, ⟨fun _ => HN.out, fun _ => rfl⟩, hB⟩
                  · have HN := Lib.hid (by rw [HQ.out]; simp [hg] : ¬ Q)
                    rw [decide_eq_false hg] at t1
                    clear hg
                    go_wp2_with fail
                    go_ret
                    exact ⟨11, rfl, ⟨fun h => by simp at h, fun h => absurd h HN.out⟩, hB⟩
              · have hu9 : ¬ (u.size : Int) ≤ 9 := by omega
                obtain ⟨t, t1, t2⟩ := BG.out (by simp) (by simp)
                have T2 := Lib.hid (t2 w1 (HW.out.below hB)); clear t2
                go_wp2_with fail
                all_goals first | (exact absurd (Option.some.inj ‹some undef = some (Value.bool _)›) (fun h => Value.noConfusion h)) | skip
                refine T2.out.mono ?_
                rintro e w2 ⟨rfl, hb2⟩
                have hB := hB.trans (hb2.mono hB.size)
                clear hb2 T2
                by_cases hg : g = 1
                · have HN := Lib.hid (by rw [HQ.out]; simp [hg] : Q)
                  rw [decide_eq_true hg] at t1
                  clear hg
                  go_wp2_with fail
                  go_ret
                  exact ⟨0, rfl, ⟨fun _ => HN.out, fun _ => rfl⟩, hB⟩
                · have HN := Lib.hid (by rw [HQ.out]; simp [hg] : ¬ Q)
                  rw [decide_eq_false hg] at t1
                  clear hg
                  go_wp2_with fail
                  go_ret
                  exact ⟨11, rfl, ⟨fun h => by simp at h, fun h => absurd h HN.out⟩, hB⟩
            · cases z3
              · by_cases h9 : u.size ≤ 9
                · by_cases k9 : v.size ≤ 9
                  · have hu9 : (u.size : Int) ≤ 9 := by omega
                    have hv9 : (v.size : Int) ≤ 9 := by omega
                    obtain ⟨n, d, s1, s2, s3⟩ := SG.out (by simp) (by simp) (by omega) (by omega)
                    have S1 := Lib.hid s1; have S2 := Lib.hid s2; have S3 := Lib.hid s3; clear s1 s2 s3
                    go_wp2_with fail
                    all_goals first | (exact absurd (Option.some.inj ‹some undef = some (Value.bool _)›) (fun h => Value.noConfusion h)) | skip
                    refine (S1.out _).mono ?_
                    rintro e w2 ⟨rfl, hw⟩
                    have hw2 := hw.symm; subst hw2; clear hw
                    go_wp2_with fail
                    refine (S2.out _).mono ?_
                    rintro e w2 ⟨rfl, hw⟩
                    have hw2 := hw.symm; subst hw2; clear hw
                    go_wp2_with fail
                    refine (S3.out _).mono ?_
                    rintro e w2 ⟨rfl, hb2⟩
                    have hB := hB.trans (hb2.mono hB.size)
                    clear hb2
                    by_cases hg : g = 1
                    · have HN := Lib.hid (by rw [HQ.out]; simp [hg] : Q)
                      have hgb : ((g : Int) != 1) = false := by subst hg; rfl
                      clear hg
                      go_wp2_with fail
                      go_ret
                      exact ⟨0, rfl, ⟨fun _ => HN.out, fun _ => rfl⟩, hB⟩
                    · have HN := Lib.hid (by rw [HQ.out]; simp [hg] : ¬ Q)
                      have hgb : ((g : Int) != 1) = true := by simp; omega
                      clear hg
                      go_wp2_with fail
                      go_ret
                      exact ⟨11, rfl, ⟨fun h => by simp at h, fun h => absurd h HN.out⟩, hB⟩
                  · have hu9 : (u.size : Int) ≤ 9 := by omega
                    have hv9 : ¬ (v.size : Int) ≤ 9 := by omega
                    obtain ⟨t, t1, t2⟩ := BG.out (by simp) (by simp)
                    have T2 := Lib.hid (t2 w1 (HW.out.below hB)); clear t2
                    go_wp2_with fail
                    all_goals first | (exact absurd (Option.some.inj ‹some undef = some (Value.bool _)›) (fun h => Value.noConfusion h)) | skip
                    refine T2.out.mono ?_
                    rintro e w2 ⟨rfl, hb2⟩
                    have hB := hB.trans (hb2.mono hB.size)
                    clear hb2 T2
                    by_cases hg : g = 1
                    · have HN := Lib.hid (by rw [HQ.out]; simp [hg] : Q)
                      rw [decide_eq_true hg] at t1
                      clear hg
                      go_wp2_with fail
                      go_ret
                      exact ⟨0, rfl, ⟨fun _ => HN.out, fun _ => rfl⟩, hB⟩
                    · have HN := Lib.hid (by rw [HQ.out]; simp [hg] : ¬ Q)
                      rw [decide_eq_false hg] at t1
                      clear hg
                      go_wp2_with fail
                      go_ret
                      exact ⟨11, rfl, ⟨fun h => by simp at h, fun h => absurd h HN.out⟩, hB⟩
                · have hu9 : ¬ (u.size : Int) ≤ 9 := by omega
                  obtain ⟨t, t1, t2⟩ := BG.out (by simp) (by simp)
                  have T2 := Lib.hid (t2 w1 (HW.out.below hB)); clear t2
                  go_wp2_with fail
                  all_goals first | (exact absurd (Option.some.inj ‹some undef = some (Value.bool _)›) (fun h => Value.noConfusion h)) | skip
                  refine T2.out.mono ?_
                  rintro e w2 ⟨rfl, hb2⟩
                  have hB := hB.trans (hb2.mono hB.size)
                  clear hb2 T2
                  by_cases hg : g = 1
                  · have HN := Lib.hid (by rw [HQ.out]; simp [hg] : Q)
                    rw [decide_eq_true hg] at t1
                    clear hg
                    go_wp2_with fail
                    go_ret
                    exact ⟨0, rfl, ⟨fun _ => HN.out, fun _ => rfl⟩, hB⟩
                  · have HN := Lib.hid (by rw [HQ.out]; simp [hg] : ¬ Q)
                    rw [decide_eq_false hg] at t1
                    clear hg
                    go_wp2_with fail
                    go_ret
                    exact ⟨11, rfl, ⟨fun h => by simp at h, fun h => absurd h HN.out⟩, hB⟩
              · have HN := Lib.hid (by rw [HQ.out]; simp : ¬ Q)
                go_wp2_with fail
                all_goals first | (exact absurd (Option.some.inj ‹some undef = some (Value.bool _)›) (fun h => Value.noConfusion h)) | skip
                go_ret
                exact ⟨11, rfl, ⟨fun h => by simp at h, fun h => absurd h HN.out⟩, hB⟩
          · have HN := Lib.hid (by rw [HQ.out]; simp : ¬ Q)
            go_wp2_with fail
            all_goals first | (exact absurd (Option.some.inj ‹some undef = some (Value.bool _)›) (fun h => Value.noConfusion h)) | skip
            go_ret
            exact ⟨11, rfl, ⟨fun h => by simp at h, fun h => absurd h HN.out⟩, hB⟩
        · have HN := Lib.hid (by rw [HQ.out]; simp : ¬ Q)
          go_wp2_with fail
          all_goals first | (exact absurd (Option.some.inj ‹some undef = some (Value.bool _)›) (fun h => Value.noConfusion h)) | skip
          go_ret
          exact ⟨11, rfl, ⟨fun h => by simp at h, fun h => absurd h HN.out⟩, hB⟩

theorem dec_one (g : Nat) : decDigits g = [49] ↔ g = 1 := by
  have e : decDigits 1 = [49] := by rw [decDigits_small (by omega)]; rfl
  constructor
  · intro h; exact dec_inj (h.trans e.symm)
  · rintro rfl; exact e

/-- kingpostref02.Check at any short string. -/
theorem xCheck_any (l : List UInt8) (hu : (upS l).length ≤ 17) (hv : (dnS l).length ≤ 17) (hl : l.length ≤ 1000) (w : World) (hw : Wd w) :
    Calls Tryz.prog 39 #[St l] w fun e w' => ∃ r : Int, e = .returned (.int .i64 r) ∧ (r = 0 ↔ okS l) ∧ Below w.heap.size w w' := by
  classical
  have sz : ∀ k : List UInt8, (⟨k.toArray⟩ : ByteArray).size = k.length := fun k => by show k.toArray.size = _; simp
  have hd : ∀ k : List UInt8, k.length ≤ 17 → ∀ W, Calls Tryz.prog 71 #[.string ⟨k.toArray⟩] W (fun e w' => e = .returned (.bool (decide (isNum k))) ∧ w' = W) := fun k hk W => by
    refine (xdigits_any k (by omega) W).mono ?_
    rintro e w' ⟨b, rfl, h, rfl⟩
    refine ⟨?_, rfl⟩
    congr 2
    cases b
    · rw [eq_comm, decide_eq_false_iff_not]; intro h'; exact absurd (h.2 h') (by simp)
    · rw [eq_comm, decide_eq_true_iff]; exact h.1 rfl
  refine xCheck_walk ⟨l.toArray⟩ ⟨(upS l).toArray⟩ ⟨(dnS l).toArray⟩ (decide (l.head? = some 45)) (decide ((47 : UInt8) ∈ bare l)) (decide (isNum (upS l))) (decide (isNum (dnS l))) (decide (dnS l = [48])) (decide (dnS l = [49])) (decide (upS l = [48]))
    (Nat.gcd (val (upS l)) (val (dnS l))) (okS l) (by rw [sz]; exact hu) (by rw [sz]; exact hv) (Lib.hid ?_) (beq_list _ _ rfl _) (beq_list _ _ rfl _) (beq_list _ _ rfl _)
    (Lib.hid fun W => xsplit_any l (by omega) W) (Lib.hid fun W => hd _ hu W) (Lib.hid fun W => hd _ hv W) (Lib.hid fun h1 h2 h3 h4 => ?_) (Lib.hid fun h1 h2 => ?_) w (Lib.hid hw)
  · rw [okS_cases]
    simp only [decide_eq_true_eq, decide_eq_false_iff_not, ne_eq]
  · rw [sz] at h3 h4
    have n1 : isNum (upS l) := of_decide_eq_true h1
    have n2 : isNum (dnS l) := of_decide_eq_true h2
    refine ⟨val (upS l), val (dnS l), fun W => xsmall_any _ n1.2.1 h3 W, fun W => xsmall_any _ n2.2.1 h4 W, fun W => ?_⟩
    have b1 := Nat.lt_of_lt_of_le (val_lt _ n1.2.1) (Nat.pow_le_pow_right (by omega) h3 : 10 ^ (upS l).length ≤ 10 ^ 9)
    have b2 := Nat.lt_of_lt_of_le (val_lt _ n2.2.1) (Nat.pow_le_pow_right (by omega) h4 : 10 ^ (dnS l).length ≤ 10 ^ 9)
    refine (xgcd_any _ _ (by omega) (by omega) W).mono ?_
    rintro e w' ⟨nd, rfl, rfl⟩
    exact ⟨rfl, Below_drewN (Below.refl _ _) _⟩
  · have n1 : isNum (upS l) := of_decide_eq_true h1
    have n2 : isNum (dnS l) := of_decide_eq_true h2
    refine ⟨⟨(decDigits (Nat.gcd (val (upS l)) (val (dnS l)))).toArray⟩, ?_, fun W hW => ?_⟩
    · rw [beq_list _ _ rfl]
      exact decide_eq_decide.2 (dec_one _)
    · have := y1Gcd_dec (val (upS l)) (val (dnS l)) (by rw [dec_val n1]; exact hu) (by rw [dec_val n2]; exact hv) W hW
      rwa [dec_val n1, dec_val n2] at this
end Go.Proofs.YtapfekcbbhhieaaGreatDoor

namespace Go.Proofs.YtapfekcbbhhieaaGreatDoor
open Go
variable {F : Fence} {n : Nat} {P : Program} {ops : Array Oper} {β : Type}

/-- How one operation ends. -/
def acUponN (F : Fence) (n : Nat) (P : Program) (C : Value → World → Prop) : Result Next → Prop
  | .ok (.value u) w' => C u w'
  | .ok .skip w' => C undef w'
  | .ok (.enter f args) w' => (F.depth.isSome = true → 1 ≤ n) ∧ CallsIn F (n - 1) P f args w' (fun e w'' => ∃ v, e = .returned v ∧ C v w'')
  | .ok (.round l f tmps assign body) w' => (F.depth.isSome = true → 1 ≤ n) ∧ RoundIn F (n - 1) P l f tmps assign body w' (fun e w'' => ∃ v, e = .returned v ∧ C v w'')
  | _ => False

theorem wp_of_acn {o : Oper} {a : Act} {w : World} {C : Value → World → Prop} {K : Act → World → Prop} {Q : Exit → Act → World → Prop} (hF : ∀ f, F.fn f) (hro : F.round = none) (hK : ∀ v w', C v w' → K (a.put o.dst v) w') (h : acUponN F n P C ((execOp a.eval o).run P w)) : o.wpIn F n P a w K Q := by
  refine ⟨fun f _ => hF f, ?_⟩
  rw [hro, Oper.semAt_none]
  generalize (execOp a.eval o).run P w = r at *
  cases r with
  | ok x w' =>
    cases x <;> simp only [acUponN] at h <;> simp only [Oper.uponIn]
    · exact hK _ _ h
    · exact hK _ _ h
    · exact ⟨h.1, CallsIn.mono h.2 fun e w'' ⟨v, he, hc⟩ => by subst he; exact hK _ _ hc⟩
    · exact ⟨h.1, RoundIn.mono h.2 fun e w'' ⟨v, he, hc⟩ => by subst he; exact hK _ _ hc⟩
  | halt x w' => simp only [acUponN] at h

/-- What each operation owes. -/
def AcStepN (F : Fence) (n : Nat) (P : Program) (ops : Array Oper) (vs : β → Nat → Value) (C : β → Array Bool → World → Prop) (i : Nat) (o : Oper) (a : Act) (b : β) : Prop :=
  ∀ L w, AcAt ops i L → C b L w → if Region.wanted o (yielded ops a.tmps) then acUponN F n P (acNext vs C i L b) ((execOp a.eval o).run P w) else acNext vs C i L b undef w

theorem wpAnyIn_acn (hF : ∀ f, F.fn f) (hro : F.round = none) {Q : Exit → Act → World → Prop} {C : β → Array Bool → World → Prop} (hB : (acB ops && backB ops) = true) (vs : β → Nat → Value) (a : Act)
    (step : ∀ b i o, ops[i]? = some o → AcStepN F n P ops vs C i o (actOf ops (vs b) a (firstK ops.size i) ops.size) b)
    (hend : ∀ b L w, (∀ i, i < ops.size → L.getD i false = true) → C b L w → Q .normal (actOf ops (vs b) a (firstK ops.size ops.size) ops.size) w) :
    ∀ (fuel : Nat) (L : Array Bool) (w : World) (b : β), L.size = ops.size → closedL ops L → ((List.range ops.size).filter fun i => !L.getD i false).length ≤ fuel → C b L w → wpAnyIn F n P .any ops Q fuel L (actOf ops (vs b) a L ops.size) w := by
  obtain ⟨hsel, hdist, hlook, hback⟩ := acB_spec hB
  have hq : ∀ b L w, (∀ i, i < ops.size → L.getD i false = true) → C b L w → Q .normal (actOf ops (vs b) a L ops.size) w := by
    intro b L w hall hC
    have e : actOf ops (vs b) a L ops.size = actOf ops (vs b) a (firstK ops.size ops.size) ops.size := by
      have : ∀ k, k ≤ ops.size → actOf ops (vs b) a L k = actOf ops (vs b) a (firstK ops.size ops.size) k := by
        intro k
        induction k with
        | zero => intro _; rfl
        | succ k ih =>
          intro hk
          simp only [actOf]
          rw [ih (by omega), hall k (by omega), firstK_get]
          simp [show k < ops.size by omega]
      exact this _ (Nat.le_refl _)
    rw [e]; exact hend b L w hall hC
  have hready : ∀ L, L.size = ops.size → Region.ready .any ops L = [] → ∀ i, i < ops.size → L.getD i false = true := by
    intro L hsz h0 i
    induction i using Nat.strongRecOn with
    | _ i ih =>
      intro hi
      cases hl : L.getD i false with
      | true => rfl
      | false =>
        have hm : i ∈ Region.ready .any ops L := by
          refine mem_ready.2 ⟨getD_in (by omega) hl, ops[i], by simp [hi], fun e he hb => ?_⟩
          have hlt := hback i (ops[i]) (show ops[i]? = some (ops[i]) from Array.getElem?_eq_getElem hi) e he
          exact ih e.on hlt (Nat.lt_trans hlt hi)
        rw [h0] at hm; cases hm
  intro fuel
  induction fuel with
  | zero =>
    intro L w b hsz hcl hcount hC
    have hall : ∀ i, i < ops.size → L.getD i false = true := by
      intro i hi
      cases hl : L.getD i false with
      | true => rfl
      | false =>
        have : i ∈ (List.range ops.size).filter fun i => !L.getD i false := List.mem_filter.2 ⟨List.mem_range.2 hi, by rw [hl]; rfl⟩
        rw [List.length_eq_zero_iff.1 (Nat.le_zero.1 hcount)] at this; cases this
    refine ⟨?_, hq b L w hall hC⟩
    apply List.eq_nil_iff_forall_not_mem.2
    intro i hi
    obtain ⟨h1, o, ho, _⟩ := mem_ready.1 hi
    have := hall i (Array.getElem?_eq_some_iff.1 ho).1
    rw [getD_both h1] at this; cases this
  | succ fuel ih =>
    intro L w b hsz hcl hcount hC
    refine ⟨fun h0 => hq b L w (hready L hsz h0) hC, fun i hi => ?_⟩
    obtain ⟨h1, o, ho, hall⟩ := mem_ready.1 hi
    have hin : i < ops.size := (Array.getElem?_eq_some_iff.1 ho).1
    have hLi := getD_both h1
    have hdone : ∀ j, Region.waitsFor .any ops i j = true → L.getD j false = true := by
      intro j hw
      obtain ⟨o', ho', e, he, hb, rfl⟩ := Region.waitsFor_spec hw
      have : o' = o := Option.some.inj (ho'.symm.trans ho)
      subst this
      exact hall e he hb
    have hopen : ∀ j, Region.waitsFor .any ops j i = true → L.getD j false = false := by
      intro j hw
      cases hl : L.getD j false with
      | false => rfl
      | true => rw [hcl j i hl hw] at hLi; cases hLi
    have hat : AcAt ops i L := ⟨hsz, hLi, hdone, hcl⟩
    have hst := step b i o ho L w hat hC
    have hset := fun b' => actOf_set (vs b') a L i (by omega) hLi (fun j d hne hd hj => by
      rcases Nat.lt_or_ge j ops.size with hjn | hjn
      · exact hdist i j d hin hjn (Ne.symm hne) hj hd
      · simp [dstOf, Array.getElem?_eq_none hjn] at hj) ops.size
    simp only [if_pos hin] at hset
    have hsame := execOp_same (ops := ops) (a := actOf ops (vs b) a L ops.size) (b := actOf ops (vs b) a (firstK ops.size i) ops.size) (o := o) (fun cs b => Region.noSelect_spec hsel i o cs b ho) (fun t ht => by
      refine actOf_get (vs b) a L _ t ops.size fun j hj hd => ?_
      rw [firstK_get]
      by_cases hji : j = i
      · subst hji; rw [hLi]; simp
      · have := hlook i j t hin hj (Ne.symm hji) hd (by simpa [looksOf, ho] using ht)
        rcases this with ⟨h2, h3⟩ | ⟨h2, h3⟩
        · rw [hdone j h3]; simp [hj, h2]
        · rw [hopen j h3]; simp; omega)
    have hnext : ∀ v w', acNext vs C i L b v w' → wpAnyIn F n P .any ops Q fuel (L.setIfInBounds i true) ((actOf ops (vs b) a L ops.size).put o.dst v) w' := by
      rintro v w' ⟨b', hagree, rfl, hC'⟩
      have hd : o.dst = dstOf ops i := by simp [dstOf, ho]
      rw [hd, actOf_agree (vs b) (vs b') a L (fun j hj => (hagree j hj).symm) ops.size, ← hset b']
      refine ih _ w' b' (by simpa using hsz) ?_ ?_ hC'
      · intro x y hx hw
        rw [getD_set L i _ (by omega)] at hx ⊢
        split
        · rfl
        · split at hx
          · rename_i h; subst h; exact hdone y hw
          · exact hcl x y hx hw
      · have e : ((List.range ops.size).filter fun x => !(L.setIfInBounds i true).getD x false) = ((List.range ops.size).filter fun x => !L.getD x false).filter fun x => decide (x ≠ i) := by
          rw [List.filter_filter]
          refine List.filter_congr fun x _ => ?_
          rw [getD_set L i x (by omega)]
          by_cases h : i = x
          · subst h; simp
          · simp [h, Ne.symm h]
        rw [e]
        have := (List.length_filter_lt_length_iff_exists (l := (List.range ops.size).filter fun x => !L.getD x false) (p := fun x => decide (x ≠ i))).2 ⟨i, List.mem_filter.2 ⟨List.mem_range.2 hin, by rw [hLi]; rfl⟩, by simp⟩
        omega
    unfold wpOpIn
    simp only [ho]
    rw [hsame.2]
    by_cases hw : Region.wanted o (yielded ops (actOf ops (vs b) a (firstK ops.size i) ops.size).tmps) = true
    · rw [if_pos hw] at hst ⊢
      rw [← hsame.1] at hst
      exact wp_of_acn hF hro hnext hst
    · rw [if_neg hw] at hst ⊢
      exact ⟨fun f _ => hF f, hnext _ _ hst⟩

def AcOwesN (F : Fence) (n : Nat) (P : Program) (ops : Array Oper) (vs : β → Nat → Value) (C : β → (Nat → Bool) → World → Prop) (i : Nat) (o : Oper) (a : Act) (b : β) : Prop :=
  ∀ f w, AcF ops i f → C b f w →
    if Region.wanted o (yielded ops a.tmps) then acUponN F n P (acNextF vs C i f b) ((execOp a.eval o).run P w) else acNextF vs C i f b undef w

def AcLN (F : Fence) (n : Nat) (P : Program) (ops : Array Oper) (vs : β → Nat → Value) (C : β → (Nat → Bool) → World → Prop) (K : Act → World → Prop) (b : β) : Nat → List Oper → Act → Prop
  | _, [], a => ∀ f w, (∀ i, i < ops.size → f i = true) → C b f w → K a w
  | k, o :: rest, a => AcOwesN F n P ops vs C k o a b ∧ AcLN F n P ops vs C K b (k + 1) rest (a.put o.dst (vs b k))

section
variable {vs : β → Nat → Value} {C : β → (Nat → Bool) → World → Prop} {K : Act → World → Prop} {k : Nat} {o : Oper} {rest : List Oper} {a : Act} {b : β}
theorem acN_nil (h : ∀ f w, (∀ i, i < ops.size → f i = true) → C b f w → K a w) : AcLN F n P ops vs C K b k [] a := h
/-- An operation that only reads. -/
theorem acN_read (v : Value) (hv : vs b k = v) (hw : Region.wanted o (yielded ops a.tmps) = true)
    (hset : ∀ f w, C b f w → C b (fun j => if k = j then true else f j) w)
    (hy : ∀ f w, AcF ops k f → C b f w → (execOp a.eval o).run P w = .ok (.value v) w)
    (h : AcLN F n P ops vs C K b (k + 1) rest (a.put o.dst v)) : AcLN F n P ops vs C K b k (o :: rest) a := by
  subst hv
  refine ⟨fun f w hf hC => ?_, h⟩
  rw [if_pos hw, hy f w hf hC]
  exact ⟨b, fun _ _ => rfl, rfl, hset f w hC⟩
/-- An operation that ends in the value that the ghost names. -/
theorem acN_value (v : Value) (hv : vs b k = v) (hw : Region.wanted o (yielded ops a.tmps) = true)
    (hy : ∀ f w, AcF ops k f → C b f w → ∀ C' : Value → World → Prop, (∀ w', C b (fun j => if k = j then true else f j) w' → C' v w') → acUponN F n P C' ((execOp a.eval o).run P w))
    (h : AcLN F n P ops vs C K b (k + 1) rest (a.put o.dst v)) : AcLN F n P ops vs C K b k (o :: rest) a := by
  subst hv
  refine ⟨fun f w hf hC => ?_, h⟩
  rw [if_pos hw]
  exact hy f w hf hC _ fun w' h' => ⟨b, fun _ _ => rfl, rfl, h'⟩
/-- An operation that turns the ghost. -/
theorem acN_new (v : Value) (hv : vs b k = v) (hw : Region.wanted o (yielded ops a.tmps) = true)
    (hy : ∀ f w, AcF ops k f → C b f w → ∀ C' : Value → World → Prop, (∀ b' w', (∀ j, f j = true → vs b' j = vs b j) → C b' (fun j => if k = j then true else f j) w' → C' (vs b' k) w') → acUponN F n P C' ((execOp a.eval o).run P w))
    (h : AcLN F n P ops vs C K b (k + 1) rest (a.put o.dst v)) : AcLN F n P ops vs C K b k (o :: rest) a := by
  subst hv
  refine ⟨fun f w hf hC => ?_, h⟩
  rw [if_pos hw]
  exact hy f w hf hC _ fun b' w' hj h' => ⟨b', hj, rfl, h'⟩
end

theorem acLN_spec {vs : β → Nat → Value} {C : β → (Nat → Bool) → World → Prop} {K : Act → World → Prop} {b : β} : ∀ (l : List Oper) (k : Nat) (a : Act), AcLN F n P ops vs C K b k l a →
    (∀ i o, l[i]? = some o → AcOwesN F n P ops vs C (k + i) o (putsTo (vs b) k l a i) b) ∧ (∀ f w, (∀ i, i < ops.size → f i = true) → C b f w → K (putsTo (vs b) k l a l.length) w)
  | [], k, a, h => ⟨fun i o h => by simp at h, h⟩
  | o :: l, k, a, ⟨hv, h⟩ => by
    obtain ⟨h1, h2⟩ := acLN_spec l (k + 1) _ h
    refine ⟨fun i o' ho => ?_, ?_⟩
    · cases i with
      | zero =>
        obtain rfl : o = o' := by simpa using ho
        simpa [putsTo] using hv
      | succ i =>
        have := h1 i o' (by simpa using ho)
        simp only [putsTo]
        rw [show k + (i + 1) = k + 1 + i by omega]
        exact this
    · simp only [putsTo, List.length_cons]
      exact h2

theorem wpAnyIn_acLN (hF : ∀ f, F.fn f) (hro : F.round = none) {K : Act → World → Prop} {Q : Exit → Act → World → Prop} (hQ : ∀ a w, K a w → Q .normal a w) {l : List Oper} (vs : β → Nat → Value) (C : β → (Nat → Bool) → World → Prop) (hB : (acB l.toArray && backB l.toArray) = true) {a : Act} {w : World} (b0 : β) (hC : C b0 (fun _ => false) w) (h : ∀ b, AcLN F n P l.toArray vs C K b 0 l a) :
    wpAnyIn F n P .any l.toArray Q l.toArray.size (Array.replicate l.toArray.size false) a w := by
  have e0 : actOf l.toArray (vs b0) a (Array.replicate l.toArray.size false) l.toArray.size = a := by
    have : ∀ k, actOf l.toArray (vs b0) a (Array.replicate l.toArray.size false) k = a := by
      intro k
      induction k with
      | zero => rfl
      | succ k ih =>
        have : (Array.replicate l.toArray.size false).getD k false = false := by
          simp only [Array.getD]; split <;> simp
        simp only [actOf, this, Bool.false_eq_true, if_false]; exact ih
    exact this _
  have := wpAnyIn_acn (n := n) hF hro (P := P) (ops := l.toArray) (Q := Q) (C := fun b L w => C b (fun j => L.getD j false) w) hB vs a ?_ ?_ l.toArray.size (Array.replicate l.toArray.size false) w b0 (by simp) ?_ ?_ ?_
  · rw [e0] at this; exact this
  · intro b i o ho L w hat hc
    have h1 := (acLN_spec l 0 a (h b)).1
    have hi : i < l.length := by
      have := (Array.getElem?_eq_some_iff.1 ho).1
      simpa using this
    have hst := h1 i o (by simpa using ho) (fun j => L.getD j false) w (by rw [Nat.zero_add]; exact ⟨hat.self, hat.done, hat.closed⟩) hc
    have ea : actOf l.toArray (vs b) a (firstK l.toArray.size i) l.toArray.size = putsTo (vs b) 0 l a i := by
      have := actOf_putsTo (vs b) l a i (by omega) l.length (Nat.le_refl _)
      rw [Nat.min_eq_left (by omega)] at this
      simpa using this
    have es : (fun j => (L.setIfInBounds i true).getD j false) = (fun j => if i = j then true else L.getD j false) := by
      funext j
      exact getD_set L i j (by rw [hat.size]; simpa using hi)
    rw [Nat.zero_add] at hst
    rw [ea]
    unfold acNextF at hst
    unfold acNext
    simp only [es]
    exact hst
  · intro b L w hall hc
    have h2 := (acLN_spec l 0 a (h b)).2
    have ea : actOf l.toArray (vs b) a (firstK l.toArray.size l.toArray.size) l.toArray.size = putsTo (vs b) 0 l a l.length := by
      have := actOf_putsTo (vs b) l a l.length (Nat.le_refl _) l.length (Nat.le_refl _)
      rw [Nat.min_self] at this
      simpa using this
    rw [ea]
    exact hQ _ _ (h2 _ w hall hc)
  · intro i j hi
    have : (Array.replicate l.toArray.size false).getD i false = false := by simp only [Array.getD]; split <;> simp
    rw [this] at hi; cases hi
  · refine Nat.le_trans (List.length_filter_le _ _) (by simp)
  · have : (fun j => (Array.replicate l.toArray.size false).getD j false) = fun _ => false := by
      funext j
      simp only [Array.getD]; split <;> simp
    simpa only [this] using hC

/-- A region that draws its order. -/
theorem wpIn_region_acn {id : Nat} {Q : Exit → Act → World → Prop} {a : Act} {w : World} {l : List Oper} (hF : ∀ f, F.fn f) (hro : F.round = none) (vs : β → Nat → Value) (C : β → (Nat → Bool) → World → Prop) (hm : P.follows .mixedOrders = true) (hB : (acB l.toArray && backB l.toArray) = true) (b0 : β) (hC : C b0 (fun _ => false) { w with drawn := w.drawn + 1 })
    (h : ∀ b, AcLN F n P l.toArray vs C (Q .normal) b 0 l a) : (Code.region id l.toArray true).wpIn F n P Q a w :=
  wpIn_region_any hm (wpAnyIn_acLN hF hro (fun _ _ h => h) vs C hB b0 hC h)

end Go.Proofs.YtapfekcbbhhieaaGreatDoor

namespace Go.Proofs.YtapfekcbbhhieaaGreatDoor
open Go.RowKit Go.Shelf Lib Str Limb
attribute [local go_sem] Oper.semAt_some

set_option maxHeartbeats 400000 in
/-- polygon.sides: the closure, over the list in a variable of its own. -/
theorem sides_any (v : Value) (w : World) (p : Option Addr) (n cap : Nat) (hv : v = .slice p n cap) :
    Calls Tryz.prog 32 #[v] w fun e w' => e = .returned (.func (.func 64) #[] #[.pointer (some ⟨w.heap.size, 0, none⟩)]) ∧ w.alloc (.cells #[v] 26) = w' := by
  subst hv
  go_enter Tryz.func32, Tryz.ntmps32
  go_wp2
  go_ret
  exact ⟨rfl, rfl⟩

theorem below_cell {W W' : World} (h : Below W.heap.size W W') {b o : Nat} {v : Value} (hc : W.cell? ⟨b, o, none⟩ = some v) : W'.cell? ⟨b, o, none⟩ = some v := (cellsKept_below h).cell hc
def ptOf (l : List (List UInt8 × List UInt8)) (i : Nat) : List UInt8 × List UInt8 := l[i]?.getD ([], [])
/-- A list of points (texts) lies in the world, under a box. -/
def PtsAt (Bs : Nat) (p : Option Addr) (cap : Nat) (l : List (List UInt8 × List UInt8)) (W : World) : Prop :=
  W.cell? ⟨Bs, 0, none⟩ = some (.slice p l.length cap) ∧ ∀ i, i < l.length → ∃ b off, p = some ⟨b, off, none⟩ ∧ W.cell? ⟨b, off + i * 2, none⟩ = some (St (ptOf l i).1) ∧ W.cell? ⟨b, off + i * 2 + 1, none⟩ = some (St (ptOf l i).2)

/-- The side that begins at the k-th corner. -/
def sideOf (l : List (List UInt8 × List UInt8)) (k : Nat) : Value :=
  .agg #[St (ptOf l k).1, St (ptOf l k).2, St (ptOf l ((k + 1) % l.length)).1, St (ptOf l ((k + 1) % l.length)).2]

set_option maxRecDepth 100000 in
set_option maxHeartbeats 1000000 in
theorem sides_ix (n : Nat) (hn : 1 ≤ n) (Bs : Nat) (l : List (List UInt8 × List UInt8)) (hlen : l.length ≤ 5000) (Rd : World → Prop) (p : Option Addr) (cap : Nat) (hRd : ∀ W, Rd W → PtsAt Bs p cap l W) :
    IterC Fence.wide n Tryz.prog 64 #[.pointer (some ⟨Bs, 0, none⟩)] Rd (fun k args => args = #[I k, sideOf l k]) l.length := by
  intro lp J Jx W hJr hJb hY h0
  refine callsIn_of_wp Tryz.func64 rfl trivial ?_ rfl
  simp only [Tryz.ntmps64, List.size_toArray, List.length_cons, List.length_nil, Nat.reduceAdd, Nat.reduceSub, Array.replicate_succ, Array.replicate_zero, List.push_toArray, List.append_toArray, List.nil_append, List.cons_append]
  obtain ⟨hb, hcs⟩ := hRd W (hJr 0 W h0)
  obtain ⟨N, hN⟩ : ∃ N, N = l.length := ⟨_, rfl⟩
  have HRd := Lib.hid fun k W h => hRd W (hJr k W h); clear hRd hJr
  have HY := Lib.hid hY; clear hY
  have HJB := Lib.hid hJb; clear hJb
  rw [← hN] at hb hlen HY ⊢
  have HN := Lib.hid hN; clear hN hcs
  gi_wp2
  gi_loopw [7] (fun i wr => ∃ (k : Nat), k ≤ N ∧ i = .int .i64 (k : Int) ∧ Hid (J k wr))
    (fun i _ => N - (RowKit.intOf i).toNat)
  case atStart => exact ⟨0, Nat.zero_le _, rfl, h0⟩
  case round =>
    clear hb
    obtain ⟨k, hk, rfl, hJ⟩ := hrel
    by_cases hlt : k < N
    · have hlN : l.length = N := HN.out.symm
      obtain ⟨hb, hc⟩ := HRd.out k wr hJ.out
      have hk2 : (k + 1) % N < N := Nat.mod_lt _ (by omega)
      obtain ⟨b, off, rfl, c0, c1⟩ := hc k (by omega)
      obtain ⟨b', off', e, d0, d1⟩ := hc ((k + 1) % N) (by omega)
      cases e
      rw [hlN] at hb
      have HY1 := Lib.hid fun W h => HY.out k #[I k, sideOf l k] W h hlt rfl
      unfold sideOf at HY1
      rw [hlN] at HY1
      clear HY HRd hc
      generalize (ptOf l k).1 = x1 at c0 HY1
      generalize (ptOf l k).2 = y1 at c1 HY1
      generalize (ptOf l ((k + 1) % N)).1 = x2 at d0 HY1
      generalize (ptOf l ((k + 1) % N)).2 = y2 at d1 HY1
      clear hlN HN
      have hm : Int.tmod ((k : Int) + 1) (N : Int) = ((k + 1) % N : Nat) := by
        rw [show ((k : Int) + 1) = ((k + 1 : Nat) : Int) by omega]; rfl
      generalize (k + 1) % N = j at hk2 d0 d1 hm
      have hN0 : ¬ N = 0 := by omega
      have hwr : IntKind.i64.wrap ((k : Int) + 1) = (k : Int) + 1 := IntWalk.i64_in _ ⟨by omega, by omega⟩
      obtain ⟨W4, hW4⟩ : ∃ W4, W4 = wr.alloc (.cells #[St x1, St y1] 24) := ⟨_, rfl⟩
      have hB4 : Below wr.heap.size wr W4 := by rw [hW4]; exact (Below.refl _ wr).alloc (Nat.le_refl _) _
      have A4 : W4.heap[wr.heap.size]? = some (.cells #[St x1, St y1] 24 (0, 0)) := by rw [hW4]; exact World.alloc_heap_new wr _
      have e0 : W4.drew.cell? ⟨wr.heap.size, 0, none⟩ = some (St x1) := by show W4.cell? _ = _; simp [World.cell?, A4]
      have e1 : W4.drew.cell? ⟨wr.heap.size, 1, none⟩ = some (St y1) := by show W4.cell? _ = _; simp [World.cell?, A4]
      have hb4 : W4.drew.cell? ⟨Bs, 0, none⟩ = some (.slice (some ⟨b, off, none⟩) N cap) := below_cell hB4 hb
      have d04 : W4.drew.cell? ⟨b, off + j * 2, none⟩ = some (St x2) := below_cell hB4 d0
      have d14 : W4.drew.cell? ⟨b, off + j * 2 + 1, none⟩ = some (St y2) := below_cell hB4 d1
      have hJ4 := HJB.out k wr W4.drew hJ.out hB4.drew
      obtain ⟨fn, tmps, assign, body, hy, hR⟩ := HY1.out W4.drew hJ4
      have HW4 := Lib.hid hW4; clear hW4 HY1 A4
      gi_wp2
      rw [← HW4.out]
      refine wpIn_region_acn (fun _ => trivial) rfl (fun (g : Bool) i => ([ .func (.yield lp) #[] #[], .int .i64 (k : Int), .agg #[St x1, St y1], .slice (some ⟨b, off, none⟩) N cap, .int .i64 (k : Int), .int .i64 ((k : Int) + 1), .slice (some ⟨b, off, none⟩) N cap, .int .i64 (N : Int), .int .i64 (j : Int), .pointer (some ⟨b, off + j * 2, none⟩), .agg #[St x2, St y2], .agg #[St x1, St y1, St x2, St y2], .bool g, .bool !g] : List Value).getD i undef)
        (fun g f W' => (f 12 = false → W' = W4.drew) ∧ (f 12 = true → (g = true ∧ J (k + 1) W') ∨ (g = false ∧ Jx W'))) (by kernel_rfl) (by kernel_rfl) true ⟨fun _ => rfl, fun h => by cases h⟩ fun g => ?_
      refine acN_read (.func (.yield lp) #[] #[]) (by rfl) (by rfl) (fun f W' h => ⟨h.1, h.2⟩) (fun f W' hf h => by
        obtain rfl := h.1 (hf.no (j := 12) hf.self (by kernel_rfl))
        go_simp) ?_
      try simp only [Act.put, List.setIfInBounds_toArray, List.set_cons_zero, List.set_cons_succ]
      refine acN_read (.int .i64 (k : Int)) (by rfl) (by rfl) (fun f W' h => ⟨h.1, h.2⟩) (fun f W' hf h => by
        obtain rfl := h.1 (hf.no (j := 12) hf.self (by kernel_rfl))
        go_simp) ?_
      try simp only [Act.put, List.setIfInBounds_toArray, List.set_cons_zero, List.set_cons_succ]
      refine acN_read (.agg #[St x1, St y1]) (by rfl) (by rfl) (fun f W' h => ⟨h.1, h.2⟩) (fun f W' hf h => by
        obtain rfl := h.1 (hf.no (j := 12) (hf.no (j := 11) hf.self (by kernel_rfl)) (by kernel_rfl))
        go_simp) ?_
      try simp only [Act.put, List.setIfInBounds_toArray, List.set_cons_zero, List.set_cons_succ]
      refine acN_read (.slice (some ⟨b, off, none⟩) N cap) (by rfl) (by rfl) (fun f W' h => ⟨h.1, h.2⟩) (fun f W' hf h => by
        obtain rfl := h.1 (hf.no (j := 12) (hf.no (j := 11) (hf.no (j := 10) (hf.no (j := 9) hf.self (by kernel_rfl)) (by kernel_rfl)) (by kernel_rfl)) (by kernel_rfl))
        go_simp) ?_
      try simp only [Act.put, List.setIfInBounds_toArray, List.set_cons_zero, List.set_cons_succ]
      refine acN_read (.int .i64 (k : Int)) (by rfl) (by rfl) (fun f W' h => ⟨h.1, h.2⟩) (fun f W' hf h => by
        obtain rfl := h.1 (hf.no (j := 12) (hf.no (j := 11) (hf.no (j := 10) (hf.no (j := 9) (hf.no (j := 8) (hf.no (j := 5) hf.self (by kernel_rfl)) (by kernel_rfl)) (by kernel_rfl)) (by kernel_rfl)) (by kernel_rfl)) (by kernel_rfl))
        go_simp) ?_
      try simp only [Act.put, List.setIfInBounds_toArray, List.set_cons_zero, List.set_cons_succ]
      refine acN_read (.int .i64 ((k : Int) + 1)) (by rfl) (by rfl) (fun f W' h => ⟨h.1, h.2⟩) (fun f W' hf h => by
        obtain rfl := h.1 (hf.no (j := 12) (hf.no (j := 11) (hf.no (j := 10) (hf.no (j := 9) (hf.no (j := 8) hf.self (by kernel_rfl)) (by kernel_rfl)) (by kernel_rfl)) (by kernel_rfl)) (by kernel_rfl))
        go_simp) ?_
      try simp only [Act.put, List.setIfInBounds_toArray, List.set_cons_zero, List.set_cons_succ]
      refine acN_read (.slice (some ⟨b, off, none⟩) N cap) (by rfl) (by rfl) (fun f W' h => ⟨h.1, h.2⟩) (fun f W' hf h => by
        obtain rfl := h.1 (hf.no (j := 12) (hf.no (j := 11) (hf.no (j := 10) (hf.no (j := 9) (hf.no (j := 8) (hf.no (j := 7) hf.self (by kernel_rfl)) (by kernel_rfl)) (by kernel_rfl)) (by kernel_rfl)) (by kernel_rfl)) (by kernel_rfl))
        go_simp) ?_
      try simp only [Act.put, List.setIfInBounds_toArray, List.set_cons_zero, List.set_cons_succ]
      refine acN_read (.int .i64 (N : Int)) (by rfl) (by rfl) (fun f W' h => ⟨h.1, h.2⟩) (fun f W' hf h => by
        obtain rfl := h.1 (hf.no (j := 12) (hf.no (j := 11) (hf.no (j := 10) (hf.no (j := 9) (hf.no (j := 8) hf.self (by kernel_rfl)) (by kernel_rfl)) (by kernel_rfl)) (by kernel_rfl)) (by kernel_rfl))
        go_simp) ?_
      try simp only [Act.put, List.setIfInBounds_toArray, List.set_cons_zero, List.set_cons_succ]
      refine acN_read (.int .i64 (j : Int)) (by rfl) (by rfl) (fun f W' h => ⟨h.1, h.2⟩) (fun f W' hf h => by
        obtain rfl := h.1 (hf.no (j := 12) (hf.no (j := 11) (hf.no (j := 10) (hf.no (j := 9) hf.self (by kernel_rfl)) (by kernel_rfl)) (by kernel_rfl)) (by kernel_rfl))
        go_simp) ?_
      try simp only [Act.put, List.setIfInBounds_toArray, List.set_cons_zero, List.set_cons_succ]
      refine acN_read (.pointer (some ⟨b, off + j * 2, none⟩)) (by rfl) (by rfl) (fun f W' h => ⟨h.1, h.2⟩) (fun f W' hf h => by
        obtain rfl := h.1 (hf.no (j := 12) (hf.no (j := 11) (hf.no (j := 10) hf.self (by kernel_rfl)) (by kernel_rfl)) (by kernel_rfl))
        go_simp) ?_
      try simp only [Act.put, List.setIfInBounds_toArray, List.set_cons_zero, List.set_cons_succ]
      refine acN_read (.agg #[St x2, St y2]) (by rfl) (by rfl) (fun f W' h => ⟨h.1, h.2⟩) (fun f W' hf h => by
        obtain rfl := h.1 (hf.no (j := 12) (hf.no (j := 11) hf.self (by kernel_rfl)) (by kernel_rfl))
        go_simp) ?_
      try simp only [Act.put, List.setIfInBounds_toArray, List.set_cons_zero, List.set_cons_succ]
      refine acN_read (.agg #[St x1, St y1, St x2, St y2]) (by rfl) (by rfl) (fun f W' h => ⟨h.1, h.2⟩) (fun f W' hf h => by
        obtain rfl := h.1 (hf.no (j := 12) hf.self (by kernel_rfl))
        go_simp) ?_
      try simp only [Act.put, List.setIfInBounds_toArray, List.set_cons_zero, List.set_cons_succ]
      refine acN_new (.bool g) (by rfl) (by rfl) (fun f W' hf h C' hC' => by
        obtain rfl := h.1 hf.self
        go_simp
        refine ⟨fun _ => by omega, hR.mono ?_⟩
        rintro e W3 (⟨rfl, hJ3⟩ | ⟨rfl, hJx3⟩)
        · refine ⟨_, rfl, hC' true W3 (fun i hi => ?_) ⟨fun h => (by cases h), fun _ => .inl ⟨rfl, hJ3⟩⟩⟩
          match i, hi with
          | 0, _ | 1, _ | 2, _ | 3, _ | 4, _ | 5, _ | 6, _ | 7, _ | 8, _ | 9, _ | 10, _ | 11, _ => rfl
          | 12, hi => rw [hf.self] at hi; cases hi
          | 13, hi => rw [hf.no (j := 13) hf.self (by kernel_rfl)] at hi; cases hi
          | _ + 14, _ => rfl
        · refine ⟨_, rfl, hC' false W3 (fun i hi => ?_) ⟨fun h => (by cases h), fun _ => .inr ⟨rfl, hJx3⟩⟩⟩
          match i, hi with
          | 0, _ | 1, _ | 2, _ | 3, _ | 4, _ | 5, _ | 6, _ | 7, _ | 8, _ | 9, _ | 10, _ | 11, _ => rfl
          | 12, hi => rw [hf.self] at hi; cases hi
          | 13, hi => rw [hf.no (j := 13) hf.self (by kernel_rfl)] at hi; cases hi
          | _ + 14, _ => rfl) ?_
      try simp only [Act.put, List.setIfInBounds_toArray, List.set_cons_zero, List.set_cons_succ]
      refine acN_read (.bool !g) (by rfl) (by rfl) (fun f W' h => ⟨h.1, h.2⟩) (fun f W' hf h => by go_simp) ?_
      try simp only [Act.put, List.setIfInBounds_toArray, List.set_cons_zero, List.set_cons_succ]
      refine acN_nil fun f W5 hf h => ?_
      rcases h.2 (hf 12 (by decide)) with ⟨rfl, hJ5⟩ | ⟨rfl, hJx5⟩
      · have HJ5 := Lib.hid hJ5; clear hJ5 hf h
        gi_wp2
        go_roundw
        case rel => exact ⟨k + 1, by omega, by go_num, HJ5.out⟩
        case measure => simp [RowKit.intOf]; omega
      · have HJx5 := Lib.hid hJx5; clear hJx5 hf h
        gi_wp2
        refine bodyPost_ret (results_none rfl _ _ _) rfl ?_
        exact ⟨⟨_, rfl⟩, .inr HJx5.out⟩
    · obtain rfl : k = N := by omega
      gi_wp2
      go_end0
      exact ⟨⟨_, rfl⟩, .inl hJ.out⟩
end Go.Proofs.YtapfekcbbhhieaaGreatDoor
