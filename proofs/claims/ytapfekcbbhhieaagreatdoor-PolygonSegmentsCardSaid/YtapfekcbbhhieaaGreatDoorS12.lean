/-
  rational.nativeOf, at a numeral.
  (rational.native).number.
  rational.digits, cut, at a numeral.
-/
import Derived.Test.YtapfekcbbhhieaaGreatDoorS11
namespace Go.Proofs.YtapfekcbbhhieaaGreatDoor
open Go.RowKit Go.Shelf Lib Str Limb
attribute [local go_sem] Oper.semAt_some

theorem runs_nil (n : Nat) : Runs (decDigits n) [] := ⟨decDigits_digit n, .inl rfl⟩
theorem runs_slash (n : Nat) (t : List UInt8) : Runs (decDigits n) (47 :: t) := ⟨decDigits_digit n, .inr ⟨47, t, rfl, .inl (by decide)⟩⟩

theorem str_facts (a : List UInt8) (hne : a ≠ []) (s : ByteArray) (hs : s = ⟨a.toArray⟩) : s.toList.isEmpty = false ∧ 0 < s.size ∧ s.size = a.length ∧ ∀ hb : 0 < s.size, s[0]'hb = a.head hne := by
  subst hs
  obtain ⟨c, r, rfl⟩ : ∃ c r, a = c :: r := by
    cases a with
    | nil => exact absurd rfl hne
    | cons c r => exact ⟨c, r, rfl⟩
  have h1 : (⟨(c :: r).toArray⟩ : ByteArray).size = r.length + 1 := by show (c :: r).toArray.size = _; simp
  exact ⟨by rw [ByteArray.toList_eq]; simp, by omega, by rw [h1]; simp, fun hb => ba0 c r hb⟩
theorem extract_one (c : UInt8) (r : List UInt8) : ((⟨(c :: r).toArray⟩ : ByteArray).extract 1 (⟨(c :: r).toArray⟩ : ByteArray).size) = ⟨r.toArray⟩ := by
  have := extract_app [c] r
  simpa using this

set_option maxRecDepth 100000 in
set_option maxHeartbeats 1000000 in
theorem nativeOf_int (n : Nat) (hl : (decDigits n).length ≤ 8) (w : World) :
    Calls Tryz.prog 52 #[St (decDigits n)] w fun e w' => e = .returned (.tuple #[.agg #[I n, .int .i64 1], .bool true]) ∧ Below w.heap.size w w' := by
  obtain ⟨s, hs⟩ : ∃ s : ByteArray, s = ⟨(decDigits n).toArray⟩ := ⟨_, rfl⟩
  obtain ⟨s1, s2, s3, s4⟩ := str_facts _ (decDigits_ne n) s hs
  have hc := nativeInt_yes n [] (runs_nil n) hl (by simp)
  rw [List.append_nil] at hc
  show Calls _ _ #[.string ⟨(decDigits n).toArray⟩] _ _
  have hc' : ∀ w, Calls Tryz.prog 95 #[.string s] w fun e w' => ∃ nd, e = .returned (.tuple #[I n, St [], .bool true]) ∧ w' = w.drewN nd := by rw [hs]; exact hc
  rw [← hs]
  obtain ⟨c, r, hd, hc1, hc2⟩ := dec_head n
  have h45 : (((s[0]'s2).toNat : Int) == 45) = false := by
    rw [beq_eq_false_iff_ne, s4 s2]
    simp only [hd, List.head_cons]; omega
  have HC := Lib.hid hc'
  clear hc hc' hs s3 s4 hd
  go_enter Tryz.func52, Tryz.ntmps52
  go_wp2_with fail
  refine (HC.out _).mono ?_
  rintro e w1 ⟨nd, rfl, rfl⟩
  go_wp2_with fail
  have hB : Below w.heap.size w (((((w.alloc (.cells #[.int .i64 0, .int .i64 0] 55)).drewN nd).setCell ⟨w.heap.size, 0, none⟩ (.int .i64 n)).setCell ⟨w.heap.size, 1, none⟩ (.int .i64 1)).alloc (.cells #[.int .i64 n, .int .i64 1] 55)) :=
    (((Below_drewN ((Below.refl _ w).alloc (Nat.le_refl _) _) nd).setCell (p := ⟨w.heap.size, 0, none⟩) (by simp) _).setCell (p := ⟨w.heap.size, 1, none⟩) (by simp) _).alloc (by simp [World.setCell, World.drewN]) _
  exact bodyPost_ret (v := .tuple #[.agg #[I n, .int .i64 1], .bool true]) (by simp [results, Tryz.results52, go_sem]) rfl ⟨rfl, hB⟩

theorem neg_facts (l : List UInt8) (s : ByteArray) (hs : s = ⟨((45 : UInt8) :: l).toArray⟩) : s.toList.isEmpty = false ∧ 0 < s.size ∧ s.size = l.length + 1 ∧ (∀ hb : 0 < s.size, (((s[0]'hb).toNat : Int) == 45) = true) ∧ s.extract 1 s.size = ⟨l.toArray⟩ := by
  obtain ⟨s1, s2, s3, s4⟩ := str_facts (45 :: l) (by simp) s hs
  exact ⟨s1, s2, by simpa using s3, fun hb => by rw [s4 hb]; rfl, by rw [hs]; exact extract_one _ _⟩

set_option maxRecDepth 100000 in
set_option maxHeartbeats 1000000 in
theorem nativeOf_neg (n : Nat) (h0 : 0 < n) (hl : (decDigits n).length ≤ 8) (w : World) :
    Calls Tryz.prog 52 #[St (45 :: decDigits n)] w fun e w' => e = .returned (.tuple #[.agg #[.int .i64 (-(n : Int)), .int .i64 1], .bool true]) ∧ Below w.heap.size w w' := by
  obtain ⟨s, hs⟩ : ∃ s : ByteArray, s = ⟨(45 :: decDigits n).toArray⟩ := ⟨_, rfl⟩
  obtain ⟨s1, s2, s3, s4, s5⟩ := neg_facts _ s hs
  have hc := nativeInt_yes n [] (runs_nil n) hl (by simp)
  rw [List.append_nil] at hc
  show Calls _ _ #[.string ⟨(45 :: decDigits n).toArray⟩] _ _
  obtain ⟨u, hu⟩ : ∃ u : ByteArray, u = ⟨(decDigits n).toArray⟩ := ⟨_, rfl⟩
  have hus : u.size = (decDigits n).length := by rw [hu]; show (decDigits n).toArray.size = _; simp
  have hc' : ∀ w, Calls Tryz.prog 95 #[.string u] w fun e w' => ∃ nd, e = .returned (.tuple #[I n, St [], .bool true]) ∧ w' = w.drewN nd := by rw [hu]; exact hc
  rw [← hs]
  rw [← hu] at s5
  have h45 := s4 s2
  have hsz1 : (1 : Int) ≤ s.size := by omega
  have hlt : (u.size : Int) < s.size := by omega
  have hn0 : ((n : Int) == 0) = false := by rw [beq_eq_false_iff_ne]; omega
  have hnb : n < 1000000000 := Nat.lt_of_lt_of_le ((dec_len_le_iff n 8 (by omega)).1 hl) (by omega)
  have HC := Lib.hid hc'
  clear hc hc' hs s3 s4 hu hus hl
  go_enter Tryz.func52, Tryz.ntmps52
  go_wp2_with fail
  refine (HC.out _).mono ?_
  rintro e w1 ⟨nd, rfl, rfl⟩
  go_wp2_with fail
  refine bodyPost_ret (v := .tuple #[.agg #[.int .i64 (-(n : Int)), .int .i64 1], .bool true]) (by simp [results, Tryz.results52, go_sem]) rfl ⟨rfl, ?_⟩
  repeat (first | exact Below.refl _ _ | refine Below.alloc ?_ (by simp [World.setCell, World.drewN]) _ | refine Below_drewN ?_ _ | refine Below.setCell ?_ (by simp) _)

set_option maxRecDepth 100000 in
set_option maxHeartbeats 1000000 in
theorem nativeOf_frac (n d : Nat) (hl : (decDigits n).length ≤ 8) (hl2 : (decDigits d).length ≤ 8) (hd : 2 ≤ d) (hg : Nat.gcd n d = 1) (w : World) :
    Calls Tryz.prog 52 #[St (decDigits n ++ 47 :: decDigits d)] w fun e w' => e = .returned (.tuple #[.agg #[I n, I d], .bool true]) ∧ Below w.heap.size w w' := by
  obtain ⟨s, hs⟩ : ∃ s : ByteArray, s = ⟨(decDigits n ++ 47 :: decDigits d).toArray⟩ := ⟨_, rfl⟩
  obtain ⟨s1, s2, s3, s4⟩ := str_facts (decDigits n ++ 47 :: decDigits d) (by simp) s hs
  obtain ⟨r, hr⟩ : ∃ r : ByteArray, r = ⟨(47 :: decDigits d).toArray⟩ := ⟨_, rfl⟩
  obtain ⟨r1, r2, r3, r4⟩ := str_facts (47 :: decDigits d) (by simp) r hr
  have r5 : r.extract 1 r.size = ⟨(decDigits d).toArray⟩ := by rw [hr]; exact extract_one _ _
  have hc := nativeInt_yes n (47 :: decDigits d) (runs_slash n _) hl (by simp; omega)
  have hc2 := nativeInt_yes d [] (runs_nil d) hl2 (by simp)
  rw [List.append_nil] at hc2
  have hgc := fun W => rgcd_any n d (Nat.lt_of_lt_of_le ((dec_len_le_iff n 8 (by omega)).1 hl) (by omega)) (Nat.lt_of_lt_of_le ((dec_len_le_iff d 8 (by omega)).1 hl2) (by omega)) W
  rw [hg] at hgc
  show Calls _ _ #[.string ⟨(decDigits n ++ 47 :: decDigits d).toArray⟩] _ _
  obtain ⟨u, hu⟩ : ∃ u : ByteArray, u = ⟨(decDigits n ++ 47 :: decDigits d).toArray⟩ := ⟨_, rfl⟩
  obtain ⟨v, hv⟩ : ∃ v : ByteArray, v = ⟨(decDigits d).toArray⟩ := ⟨_, rfl⟩
  have hus : u.size = (decDigits n ++ 47 :: decDigits d).length := by rw [hu]; show (decDigits n ++ 47 :: decDigits d).toArray.size = _; simp
  have hc' : ∀ w, Calls Tryz.prog 95 #[.string u] w fun e w' => ∃ nd, e = .returned (.tuple #[I n, .string r, .bool true]) ∧ w' = w.drewN nd := by rw [hu, hr]; exact hc
  have hc2' : ∀ w, Calls Tryz.prog 95 #[.string v] w fun e w' => ∃ nd, e = .returned (.tuple #[I d, St [], .bool true]) ∧ w' = w.drewN nd := by rw [hv]; exact hc2
  rw [← hs]
  rw [← hv] at r5
  have r47 : (((r[0]'r2).toNat : Int) != 47) = false := by rw [r4 r2]; rfl
  have r1' : (1 : Int) ≤ r.size := by omega
  obtain ⟨c, q, hdn, hc1, hc2⟩ := dec_head n
  have h45 : (((s[0]'s2).toNat : Int) == 45) = false := by
    rw [beq_eq_false_iff_ne, s4 s2]
    simp only [hdn, List.cons_append, List.head_cons]; omega
  have hsu : s = u := hs.trans hu.symm
  have hnb : n < 1000000000 := Nat.lt_of_lt_of_le ((dec_len_le_iff n 8 (by omega)).1 hl) (by omega)
  have hd2 : ¬ (d : Int) < 2 := by omega
  have HC := Lib.hid hc'; have HC2 := Lib.hid hc2'; have HG := Lib.hid hgc
  clear hc hc' hc2 hc2' hgc hs hr r3 r4 hu hus hl hl2 hg hv s3 s4 hdn
  subst hsu
  go_enter Tryz.func52, Tryz.ntmps52
  go_wp2_with fail
  refine (HC.out _).mono ?_
  rintro e w1 ⟨nd, rfl, rfl⟩
  go_wp2_with fail
  refine (HC2.out _).mono ?_
  rintro e w1 ⟨nd2, rfl, rfl⟩
  go_wp2_with fail
  refine (HG.out _).mono ?_
  rintro e w1 ⟨nd3, rfl, rfl⟩
  go_wp2_with fail
  refine bodyPost_ret (v := .tuple #[.agg #[I n, I d], .bool true]) (by simp [results, Tryz.results52, go_sem]) rfl ⟨rfl, ?_⟩
  repeat (first | exact Below.refl _ _ | refine Below.alloc ?_ (by simp [World.setCell, World.drewN]) _ | refine Below_drewN ?_ _ | refine Below.setCell ?_ (by simp) _)

set_option maxRecDepth 100000 in
set_option maxHeartbeats 1000000 in
theorem nativeOf_negfrac (n d : Nat) (h0 : 0 < n) (hl : (decDigits n).length ≤ 8) (hl2 : (decDigits d).length ≤ 8) (hd : 2 ≤ d) (hg : Nat.gcd n d = 1) (w : World) :
    Calls Tryz.prog 52 #[St (45 :: (decDigits n ++ 47 :: decDigits d))] w fun e w' => e = .returned (.tuple #[.agg #[.int .i64 (-(n : Int)), I d], .bool true]) ∧ Below w.heap.size w w' := by
  obtain ⟨s, hs⟩ : ∃ s : ByteArray, s = ⟨(45 :: (decDigits n ++ 47 :: decDigits d)).toArray⟩ := ⟨_, rfl⟩
  obtain ⟨s1, s2, s3, s4, s5⟩ := neg_facts _ s hs
  obtain ⟨r, hr⟩ : ∃ r : ByteArray, r = ⟨(47 :: decDigits d).toArray⟩ := ⟨_, rfl⟩
  obtain ⟨r1, r2, r3, r4⟩ := str_facts (47 :: decDigits d) (by simp) r hr
  have r5 : r.extract 1 r.size = ⟨(decDigits d).toArray⟩ := by rw [hr]; exact extract_one _ _
  have hc := nativeInt_yes n (47 :: decDigits d) (runs_slash n _) hl (by simp; omega)
  have hc2 := nativeInt_yes d [] (runs_nil d) hl2 (by simp)
  rw [List.append_nil] at hc2
  have hgc := fun W => rgcd_any n d (Nat.lt_of_lt_of_le ((dec_len_le_iff n 8 (by omega)).1 hl) (by omega)) (Nat.lt_of_lt_of_le ((dec_len_le_iff d 8 (by omega)).1 hl2) (by omega)) W
  rw [hg] at hgc
  show Calls _ _ #[.string ⟨(45 :: (decDigits n ++ 47 :: decDigits d)).toArray⟩] _ _
  obtain ⟨u, hu⟩ : ∃ u : ByteArray, u = ⟨(decDigits n ++ 47 :: decDigits d).toArray⟩ := ⟨_, rfl⟩
  obtain ⟨v, hv⟩ : ∃ v : ByteArray, v = ⟨(decDigits d).toArray⟩ := ⟨_, rfl⟩
  have hus : u.size = (decDigits n ++ 47 :: decDigits d).length := by rw [hu]; show (decDigits n ++ 47 :: decDigits d).toArray.size = _; simp
  have hc' : ∀ w, Calls Tryz.prog 95 #[.string u] w fun e w' => ∃ nd, e = .returned (.tuple #[I n, .string r, .bool true]) ∧ w' = w.drewN nd := by rw [hu, hr]; exact hc
  have hc2' : ∀ w, Calls Tryz.prog 95 #[.string v] w fun e w' => ∃ nd, e = .returned (.tuple #[I d, St [], .bool true]) ∧ w' = w.drewN nd := by rw [hv]; exact hc2
  rw [← hs]
  rw [← hv] at r5
  have r47 : (((r[0]'r2).toNat : Int) != 47) = false := by rw [r4 r2]; rfl
  have r1' : (1 : Int) ≤ r.size := by omega
  rw [← hu] at s5
  have h45 := s4 s2
  have hsz1 : (1 : Int) ≤ s.size := by omega
  have hlt : (u.size : Int) < s.size := by omega
  have hn0 : ((n : Int) == 0) = false := by rw [beq_eq_false_iff_ne]; omega
  have hnb : n < 1000000000 := Nat.lt_of_lt_of_le ((dec_len_le_iff n 8 (by omega)).1 hl) (by omega)
  have hd2 : ¬ (d : Int) < 2 := by omega
  have HC := Lib.hid hc'; have HC2 := Lib.hid hc2'; have HG := Lib.hid hgc
  clear hc hc' hc2 hc2' hgc hs hr r3 r4 hu hus hl hl2 hg hv s3 s4
  go_enter Tryz.func52, Tryz.ntmps52
  go_wp2_with fail
  refine (HC.out _).mono ?_
  rintro e w1 ⟨nd, rfl, rfl⟩
  go_wp2_with fail
  refine (HC2.out _).mono ?_
  rintro e w1 ⟨nd2, rfl, rfl⟩
  go_wp2_with fail
  refine (HG.out _).mono ?_
  rintro e w1 ⟨nd3, rfl, rfl⟩
  go_wp2_with fail
  refine bodyPost_ret (v := .tuple #[.agg #[.int .i64 (-(n : Int)), I d], .bool true]) (by simp [results, Tryz.results52, go_sem]) rfl ⟨rfl, ?_⟩
  repeat (first | exact Below.refl _ _ | refine Below.alloc ?_ (by simp [World.setCell, World.drewN]) _ | refine Below_drewN ?_ _ | refine Below.setCell ?_ (by simp) _)

set_option maxRecDepth 100000 in
set_option maxHeartbeats 1000000 in
theorem nativeOf_long (n : Nat) (t : List UInt8) (hr : Runs (decDigits n) t) (hl : 8 < (decDigits n).length) (hl2 : (decDigits n).length ≤ 1000000) (ht : t.length ≤ 1000000) (w : World) :
    Calls Tryz.prog 52 #[St (decDigits n ++ t)] w fun e w' => e = .returned (.tuple #[.agg #[.int .i64 0, .int .i64 0], .bool false]) ∧ Below w.heap.size w w' := by
  obtain ⟨s, hs⟩ : ∃ s : ByteArray, s = ⟨(decDigits n ++ t).toArray⟩ := ⟨_, rfl⟩
  obtain ⟨s1, s2, s3, s4⟩ := str_facts (decDigits n ++ t) (by simp [decDigits_ne]) s hs
  have hc := nativeInt_no n t hr hl hl2 ht
  show Calls _ _ #[.string ⟨(decDigits n ++ t).toArray⟩] _ _
  have hc' : ∀ w, Calls Tryz.prog 95 #[.string s] w fun e w' => e = .returned (.tuple #[.int .i64 0, St [], .bool false]) ∧ w' = w := by rw [hs]; exact hc
  rw [← hs]
  obtain ⟨c, q, hdn, hc1, hc2⟩ := dec_head n
  have h45 : (((s[0]'s2).toNat : Int) == 45) = false := by
    rw [beq_eq_false_iff_ne, s4 s2]
    simp only [hdn, List.cons_append, List.head_cons]; omega
  have HC := Lib.hid hc'
  clear hc hc' hs s3 s4 hdn hl hl2 hr
  go_enter Tryz.func52, Tryz.ntmps52
  go_wp2_with fail
  refine (HC.out _).mono ?_
  rintro e w1 ⟨rfl, rfl⟩
  go_wp2_with fail
  refine bodyPost_ret (v := .tuple #[.agg #[.int .i64 0, .int .i64 0], .bool false]) (by simp [results, Tryz.results52, go_sem]) rfl ⟨rfl, ?_⟩
  repeat (first | exact Below.refl _ _ | refine Below.alloc ?_ (by simp [World.setCell, World.drewN]) _ | refine Below_drewN ?_ _ | refine Below.setCell ?_ (by simp) _)

set_option maxRecDepth 100000 in
set_option maxHeartbeats 1000000 in
theorem nativeOf_neglong (n : Nat) (t : List UInt8) (hr : Runs (decDigits n) t) (hl : 8 < (decDigits n).length) (hl2 : (decDigits n).length ≤ 1000000) (ht : t.length ≤ 1000000) (w : World) :
    Calls Tryz.prog 52 #[St (45 :: (decDigits n ++ t))] w fun e w' => e = .returned (.tuple #[.agg #[.int .i64 0, .int .i64 0], .bool false]) ∧ Below w.heap.size w w' := by
  obtain ⟨s, hs⟩ : ∃ s : ByteArray, s = ⟨(45 :: (decDigits n ++ t)).toArray⟩ := ⟨_, rfl⟩
  obtain ⟨s1, s2, s3, s4, s5⟩ := neg_facts _ s hs
  have hc := nativeInt_no n t hr hl hl2 ht
  show Calls _ _ #[.string ⟨(45 :: (decDigits n ++ t)).toArray⟩] _ _
  obtain ⟨u, hu⟩ : ∃ u : ByteArray, u = ⟨(decDigits n ++ t).toArray⟩ := ⟨_, rfl⟩
  have hus : u.size = (decDigits n ++ t).length := by rw [hu]; show (decDigits n ++ t).toArray.size = _; simp
  have hc' : ∀ w, Calls Tryz.prog 95 #[.string u] w fun e w' => e = .returned (.tuple #[.int .i64 0, St [], .bool false]) ∧ w' = w := by rw [hu]; exact hc
  rw [← hs]
  rw [← hu] at s5
  have h45 := s4 s2
  have hsz1 : (1 : Int) ≤ s.size := by omega
  have hlt : (u.size : Int) < s.size := by omega
  have HC := Lib.hid hc'
  clear hc hc' hs s3 s4 hu hus hl hl2 hr
  go_enter Tryz.func52, Tryz.ntmps52
  go_wp2_with fail
  refine (HC.out _).mono ?_
  rintro e w1 ⟨rfl, rfl⟩
  go_wp2_with fail
  refine bodyPost_ret (v := .tuple #[.agg #[.int .i64 0, .int .i64 0], .bool false]) (by simp [results, Tryz.results52, go_sem]) rfl ⟨rfl, ?_⟩
  repeat (first | exact Below.refl _ _ | refine Below.alloc ?_ (by simp [World.setCell, World.drewN]) _ | refine Below_drewN ?_ _ | refine Below.setCell ?_ (by simp) _)

set_option maxRecDepth 100000 in
set_option maxHeartbeats 1000000 in
theorem nativeOf_fraclong (n d : Nat) (hl : (decDigits n).length ≤ 8) (hl2 : 8 < (decDigits d).length) (hl3 : (decDigits d).length ≤ 900000) (w : World) :
    Calls Tryz.prog 52 #[St (decDigits n ++ 47 :: decDigits d)] w fun e w' => e = .returned (.tuple #[.agg #[.int .i64 0, .int .i64 0], .bool false]) ∧ Below w.heap.size w w' := by
  obtain ⟨s, hs⟩ : ∃ s : ByteArray, s = ⟨(decDigits n ++ 47 :: decDigits d).toArray⟩ := ⟨_, rfl⟩
  obtain ⟨s1, s2, s3, s4⟩ := str_facts (decDigits n ++ 47 :: decDigits d) (by simp) s hs
  obtain ⟨r, hr⟩ : ∃ r : ByteArray, r = ⟨(47 :: decDigits d).toArray⟩ := ⟨_, rfl⟩
  obtain ⟨r1, r2, r3, r4⟩ := str_facts (47 :: decDigits d) (by simp) r hr
  have r5 : r.extract 1 r.size = ⟨(decDigits d).toArray⟩ := by rw [hr]; exact extract_one _ _
  have hc := nativeInt_yes n (47 :: decDigits d) (runs_slash n _) hl (by simp; omega)
  have hc2 := nativeInt_no d [] (runs_nil d) hl2 (by omega) (by simp)
  rw [List.append_nil] at hc2
  show Calls _ _ #[.string ⟨(decDigits n ++ 47 :: decDigits d).toArray⟩] _ _
  obtain ⟨u, hu⟩ : ∃ u : ByteArray, u = ⟨(decDigits n ++ 47 :: decDigits d).toArray⟩ := ⟨_, rfl⟩
  obtain ⟨v, hv⟩ : ∃ v : ByteArray, v = ⟨(decDigits d).toArray⟩ := ⟨_, rfl⟩
  have hus : u.size = (decDigits n ++ 47 :: decDigits d).length := by rw [hu]; show (decDigits n ++ 47 :: decDigits d).toArray.size = _; simp
  have hc' : ∀ w, Calls Tryz.prog 95 #[.string u] w fun e w' => ∃ nd, e = .returned (.tuple #[I n, .string r, .bool true]) ∧ w' = w.drewN nd := by rw [hu, hr]; exact hc
  have hc2' : ∀ w, Calls Tryz.prog 95 #[.string v] w fun e w' => e = .returned (.tuple #[.int .i64 0, St [], .bool false]) ∧ w' = w := by rw [hv]; exact hc2
  rw [← hs]
  rw [← hv] at r5
  have r47 : (((r[0]'r2).toNat : Int) != 47) = false := by rw [r4 r2]; rfl
  have r1' : (1 : Int) ≤ r.size := by omega
  obtain ⟨c, q, hdn, hc1, hc2⟩ := dec_head n
  have h45 : (((s[0]'s2).toNat : Int) == 45) = false := by
    rw [beq_eq_false_iff_ne, s4 s2]
    simp only [hdn, List.cons_append, List.head_cons]; omega
  have hsu : s = u := hs.trans hu.symm
  have hnb : n < 1000000000 := Nat.lt_of_lt_of_le ((dec_len_le_iff n 8 (by omega)).1 hl) (by omega)
  have HC := Lib.hid hc'; have HC2 := Lib.hid hc2'
  clear hc hc' hc2 hc2' hs hr r3 r4 hu hus hl hl2 hl3 hv s3 s4 hdn
  subst hsu
  go_enter Tryz.func52, Tryz.ntmps52
  go_wp2_with fail
  refine (HC.out _).mono ?_
  rintro e w1 ⟨nd, rfl, rfl⟩
  go_wp2_with fail
  refine (HC2.out _).mono ?_
  rintro e w1 ⟨rfl, rfl⟩
  go_wp2_with fail
  refine bodyPost_ret (v := .tuple #[.agg #[.int .i64 0, .int .i64 0], .bool false]) (by simp [results, Tryz.results52, go_sem]) rfl ⟨rfl, ?_⟩
  repeat (first | exact Below.refl _ _ | refine Below.alloc ?_ (by simp [World.setCell, World.drewN]) _ | refine Below_drewN ?_ _ | refine Below.setCell ?_ (by simp) _)

set_option maxRecDepth 100000 in
set_option maxHeartbeats 1000000 in
theorem nativeOf_negfraclong (n d : Nat) (h0 : 0 < n) (hl : (decDigits n).length ≤ 8) (hl2 : 8 < (decDigits d).length) (hl3 : (decDigits d).length ≤ 900000) (w : World) :
    Calls Tryz.prog 52 #[St (45 :: (decDigits n ++ 47 :: decDigits d))] w fun e w' => e = .returned (.tuple #[.agg #[.int .i64 0, .int .i64 0], .bool false]) ∧ Below w.heap.size w w' := by
  obtain ⟨s, hs⟩ : ∃ s : ByteArray, s = ⟨(45 :: (decDigits n ++ 47 :: decDigits d)).toArray⟩ := ⟨_, rfl⟩
  obtain ⟨s1, s2, s3, s4, s5⟩ := neg_facts _ s hs
  obtain ⟨r, hr⟩ : ∃ r : ByteArray, r = ⟨(47 :: decDigits d).toArray⟩ := ⟨_, rfl⟩
  obtain ⟨r1, r2, r3, r4⟩ := str_facts (47 :: decDigits d) (by simp) r hr
  have r5 : r.extract 1 r.size = ⟨(decDigits d).toArray⟩ := by rw [hr]; exact extract_one _ _
  have hc := nativeInt_yes n (47 :: decDigits d) (runs_slash n _) hl (by simp; omega)
  have hc2 := nativeInt_no d [] (runs_nil d) hl2 (by omega) (by simp)
  rw [List.append_nil] at hc2
  show Calls _ _ #[.string ⟨(45 :: (decDigits n ++ 47 :: decDigits d)).toArray⟩] _ _
  obtain ⟨u, hu⟩ : ∃ u : ByteArray, u = ⟨(decDigits n ++ 47 :: decDigits d).toArray⟩ := ⟨_, rfl⟩
  obtain ⟨v, hv⟩ : ∃ v : ByteArray, v = ⟨(decDigits d).toArray⟩ := ⟨_, rfl⟩
  have hus : u.size = (decDigits n ++ 47 :: decDigits d).length := by rw [hu]; show (decDigits n ++ 47 :: decDigits d).toArray.size = _; simp
  have hc' : ∀ w, Calls Tryz.prog 95 #[.string u] w fun e w' => ∃ nd, e = .returned (.tuple #[I n, .string r, .bool true]) ∧ w' = w.drewN nd := by rw [hu, hr]; exact hc
  have hc2' : ∀ w, Calls Tryz.prog 95 #[.string v] w fun e w' => e = .returned (.tuple #[.int .i64 0, St [], .bool false]) ∧ w' = w := by rw [hv]; exact hc2
  rw [← hs]
  rw [← hv] at r5
  have r47 : (((r[0]'r2).toNat : Int) != 47) = false := by rw [r4 r2]; rfl
  have r1' : (1 : Int) ≤ r.size := by omega
  rw [← hu] at s5
  have h45 := s4 s2
  have hsz1 : (1 : Int) ≤ s.size := by omega
  have hlt : (u.size : Int) < s.size := by omega
  have hn0 : ((n : Int) == 0) = false := by rw [beq_eq_false_iff_ne]; omega
  have hnb : n < 1000000000 := Nat.lt_of_lt_of_le ((dec_len_le_iff n 8 (by omega)).1 hl) (by omega)
  have HC := Lib.hid hc'; have HC2 := Lib.hid hc2'
  clear hc hc' hc2 hc2' hs hr r3 r4 hu hus hl hl2 hl3 hv s3 s4
  go_enter Tryz.func52, Tryz.ntmps52
  go_wp2_with fail
  refine (HC.out _).mono ?_
  rintro e w1 ⟨nd, rfl, rfl⟩
  go_wp2_with fail
  refine (HC2.out _).mono ?_
  rintro e w1 ⟨rfl, rfl⟩
  go_wp2_with fail
  refine bodyPost_ret (v := .tuple #[.agg #[.int .i64 0, .int .i64 0], .bool false]) (by simp [results, Tryz.results52, go_sem]) rfl ⟨rfl, ?_⟩
  repeat (first | exact Below.refl _ _ | refine Below.alloc ?_ (by simp [World.setCell, World.drewN]) _ | refine Below_drewN ?_ _ | refine Below.setCell ?_ (by simp) _)

/-- A number with short parts. -/
def shortQ (q : Rat) : Prop := digs q.num ≤ 8 ∧ (decDigits q.den).length ≤ 8

theorem numS_pos {q : Rat} (h : 0 ≤ q.num) : numS q = decDigits q.num.natAbs ++ (if q.den = 1 then [] else 47 :: decDigits q.den) := by
  rcases itoa_form q.num with ⟨_, e⟩ | ⟨h', _⟩
  · unfold numS; rw [e]
  · omega
theorem numS_neg {q : Rat} (h : q.num < 0) : numS q = 45 :: (decDigits q.num.natAbs ++ (if q.den = 1 then [] else 47 :: decDigits q.den)) := by
  rcases itoa_form q.num with ⟨h', _⟩ | ⟨_, e⟩
  · omega
  · unfold numS; rw [e]; rfl

/-- rational.nativeOf at a numeral with short parts. -/
theorem nativeOf_yes (q : Rat) (h : shortQ q) (w : World) :
    Calls Tryz.prog 52 #[St (numS q)] w fun e w' => e = .returned (.tuple #[.agg #[.int .i64 q.num, I q.den], .bool true]) ∧ Below w.heap.size w w' := by
  obtain ⟨h1, h2⟩ := h
  have h1 : (decDigits q.num.natAbs).length ≤ 8 := h1
  have hd0 := q.den_nz
  rcases Int.lt_or_le q.num 0 with hn | hn
  · rw [numS_neg hn]
    have hv : q.num = -(q.num.natAbs : Int) := by omega
    by_cases hd : q.den = 1
    · rw [if_pos hd, List.append_nil, hd]
      have := nativeOf_neg q.num.natAbs (by omega) h1 w
      rw [← hv] at this; exact this
    · rw [if_neg hd]
      have := nativeOf_negfrac q.num.natAbs q.den (by omega) h1 h2 (by omega) q.reduced w
      rw [← hv] at this; exact this
  · rw [numS_pos hn]
    have hv : I q.num.natAbs = .int .i64 q.num := by show Value.int .i64 _ = Value.int .i64 _; congr 1; omega
    by_cases hd : q.den = 1
    · rw [if_pos hd, List.append_nil, hd]
      have := nativeOf_int q.num.natAbs h1 w
      rw [hv] at this; exact this
    · rw [if_neg hd]
      have := nativeOf_frac q.num.natAbs q.den h1 h2 (by omega) q.reduced w
      rw [hv] at this; exact this
/-- rational.nativeOf at any other numeral. -/
theorem nativeOf_no (q : Rat) (h : ¬ shortQ q) (hl : digs q.num ≤ 800000) (hl2 : (decDigits q.den).length ≤ 800000) (w : World) :
    Calls Tryz.prog 52 #[St (numS q)] w fun e w' => e = .returned (.tuple #[.agg #[.int .i64 0, .int .i64 0], .bool false]) ∧ Below w.heap.size w w' := by
  have hl : (decDigits q.num.natAbs).length ≤ 800000 := hl
  have hr : Runs (decDigits q.num.natAbs) (if q.den = 1 then [] else 47 :: decDigits q.den) := by
    split
    · exact runs_nil _
    · exact runs_slash _ _
  have ht : (if q.den = 1 then [] else 47 :: decDigits q.den : List UInt8).length ≤ 1000000 := by split <;> simp; omega
  have hd1 : q.den = 1 → (decDigits q.den).length ≤ 8 := fun e => by rw [e, decDigits_small (by omega)]; simp
  rcases Int.lt_or_le q.num 0 with hn | hn
  · rw [numS_neg hn]
    by_cases h1 : (decDigits q.num.natAbs).length ≤ 8
    · have h2 : 8 < (decDigits q.den).length := by
        rcases Nat.lt_or_ge 8 (decDigits q.den).length with h' | h'
        · exact h'
        · exact absurd ⟨h1, h'⟩ h
      have hd : q.den ≠ 1 := fun e => by have := hd1 e; omega
      rw [if_neg hd]
      exact nativeOf_negfraclong _ _ (by omega) h1 h2 (by omega) w
    · exact nativeOf_neglong _ _ hr (by omega) (by omega) ht w
  · rw [numS_pos hn]
    by_cases h1 : (decDigits q.num.natAbs).length ≤ 8
    · have h2 : 8 < (decDigits q.den).length := by
        rcases Nat.lt_or_ge 8 (decDigits q.den).length with h' | h'
        · exact h'
        · exact absurd ⟨h1, h'⟩ h
      have hd : q.den ≠ 1 := fun e => by have := hd1 e; omega
      rw [if_neg hd]
      exact nativeOf_fraclong _ _ h1 h2 (by omega) w
    · exact nativeOf_long _ _ hr (by omega) (by omega) ht w
end Go.Proofs.YtapfekcbbhhieaaGreatDoor

namespace Go.Proofs.YtapfekcbbhhieaaGreatDoor
open Go.RowKit Go.Shelf Lib Str Limb
attribute [local go_sem] Oper.semAt_some

theorem make_parts (n : Int) (D : Nat) (hD : 0 < D) : ∃ (g qd : Nat) (qn : Int), g = Nat.gcd n.natAbs D ∧ 0 < g ∧ g ≤ D ∧ n.tdiv g = qn ∧ D / g = qd ∧ ((D : Int).tdiv g) = (qd : Int) ∧ qn.natAbs ≤ n.natAbs ∧ qd ≤ D ∧ numS (Rat.divInt n D) = itoa qn ++ (if qd = 1 then [] else 47 :: itoa (qd : Int)) := by
  have hg : 0 < Nat.gcd n.natAbs D := Nat.gcd_pos_of_pos_right _ hD
  have hm := numS_make n (D : Int) (by omega)
  have e1 : Int.gcd n (D : Int) = Nat.gcd n.natAbs D := by unfold Int.gcd; rw [Int.natAbs_natCast]
  rw [e1] at hm
  have hdv : ((Nat.gcd n.natAbs D : Nat) : Int) ∣ n := Int.ofNat_dvd_left.2 (Nat.gcd_dvd_left _ _)
  have e2 : n.tdiv (Nat.gcd n.natAbs D : Nat) = n / (Nat.gcd n.natAbs D : Nat) := Int.tdiv_eq_ediv_of_dvd hdv
  refine ⟨_, _, _, rfl, hg, Nat.le_of_dvd hD (Nat.gcd_dvd_right _ _), rfl, rfl, ?_, ?_, Nat.div_le_self _ _, ?_⟩
  · rw [Int.tdiv_eq_ediv_of_nonneg (by omega), Int.natCast_ediv]
  · rw [Int.natAbs_tdiv, Int.natAbs_natCast]; exact Nat.div_le_self _ _
  · rw [hm, e2, Int.natCast_ediv]
    congr 1
    by_cases h : D / Nat.gcd n.natAbs D = 1
    · rw [if_pos h, if_pos (by rw [← Int.natCast_ediv, h]; rfl)]
    · rw [if_neg h, if_neg (by rw [← Int.natCast_ediv]; omega)]

theorem itoa_size (x : Int) (h : -1000000000000000000 < x ∧ x < 1000000000000000000) : (itoa x).length ≤ 20 := by
  have h1 := itoa_len_hi x
  have h2 := digs_small (z := x) (by omega)
  omega
theorem cat_str (a b c : List UInt8) : ((⟨a.toArray⟩ : ByteArray) ++ (⟨b.toArray⟩ : ByteArray)) ++ (⟨c.toArray⟩ : ByteArray) = ⟨(a ++ b ++ c).toArray⟩ := by
  apply ByteArray.ext; simp

theorem cat_slash (a b : List UInt8) : Value.string ((⟨a.toArray⟩ : ByteArray) ++ (⟨#[47]⟩ : ByteArray) ++ (⟨b.toArray⟩ : ByteArray)) = St (a ++ 47 :: b) := by
  rw [show (⟨#[47]⟩ : ByteArray) = ⟨([47] : List UInt8).toArray⟩ from rfl, cat_str, List.append_assoc]; rfl

set_option maxRecDepth 100000 in
set_option maxHeartbeats 1000000 in
theorem number_pos (n : Int) (D : Nat) (hD : 0 < D) (hn : -100000000000000000 < n ∧ n < 100000000000000000) (hD2 : D < 100000000000000000) (w : World) (hw : Wd w) :
    Calls Tryz.prog 53 #[.agg #[.int .i64 n, I D]] w fun e w' => e = .returned (St (numS (Rat.divInt n D))) ∧ Below w.heap.size w w' := by
  obtain ⟨g, qd, qn, hg, hg0, hgD, hqn, hqd, hqd', hqa, hqb, hm⟩ := make_parts n D hD
  obtain ⟨n1, n2⟩ := hn
  rw [hm]
  have hgc := fun W => rgcd_any n.natAbs D (by omega) (by omega) W
  rw [← hg] at hgc
  have hmax : max n (-n) = ((n.natAbs : Nat) : Int) := by omega
  have w1 : IntKind.i64.wrap (n.tdiv (g : Int)) = qn := by rw [hqn]; exact IntWalk.i64_in _ (by omega)
  have w2 : IntKind.i64.wrap ((D : Int) / (g : Int)) = (qd : Int) := by rw [← Int.tdiv_eq_ediv_of_nonneg (by omega), hqd']; exact IntWalk.i64_in _ (by omega)
  have w3 : IntKind.i64.wrap (-n) = -n := IntWalk.i64_in _ (by omega)
  have hg1 : ¬ g = 0 := by omega
  have hi1 := fun W hW => itoa_b qn (by omega) (by omega) W hW
  have hi2 := fun W hW => itoa_b (qd : Int) (by omega) (by omega) W hW
  obtain ⟨s1, hs1⟩ : ∃ s1 : ByteArray, s1 = ⟨(itoa qn).toArray⟩ := ⟨_, rfl⟩
  obtain ⟨s2, hs2⟩ : ∃ s2 : ByteArray, s2 = ⟨(itoa (qd : Int)).toArray⟩ := ⟨_, rfl⟩
  have hz1 : s1.size ≤ 20 := by rw [hs1]; show (itoa qn).toArray.size ≤ 20; have := itoa_size qn (by omega); simpa using this
  have hz2 : s2.size ≤ 20 := by rw [hs2]; show (itoa (qd : Int)).toArray.size ≤ 20; have := itoa_size (qd : Int) (by omega); simpa using this
  rw [← hs1] at hi1
  rw [← hs2] at hi2
  have HS1 := Lib.hid hs1; have HS2 := Lib.hid hs2
  clear hs1 hs2
  have HGC := Lib.hid hgc; have HI1 := Lib.hid hi1; have HI2 := Lib.hid hi2; have HW := Lib.hid hw
  have W1 := Lib.hid w1; have W2 := Lib.hid w2
  have hqa' : -100000000000000000 < qn ∧ qn < 100000000000000000 := by omega
  clear hg hqn hqd hqd' hqa hm hgc w1 w2 hi1 hi2 hw
  by_cases h1 : qd = 1
  · have hb1 : ((qd : Int) == 1) = true := by rw [beq_iff_eq]; omega
    rw [if_pos h1, List.append_nil]
    clear h1
    go_enter Tryz.func53, Tryz.ntmps53
    go_wp2_with fail
    refine (HGC.out _).mono ?_
    rintro e w4 ⟨nd, rfl, rfl⟩
    have w1 := W1.out; have w2 := W2.out
    go_wp2_with fail
    (refine wp_region_quiet_lit (by kernel_rfl) (by kernel_rfl) (WQ.out ?_); (repeat (first | (apply WQ.read (by rfl); (focus (rintro W ⟨n, rfl⟩; go_simp; try with_reducible rfl)); try simp only [Act.put, List.setIfInBounds_toArray, List.set_cons_zero, List.set_cons_succ]) | (apply WQ.skip (by rfl); try simp only [Act.put, List.setIfInBounds_toArray, List.set_cons_zero, List.set_cons_succ]))); refine WQ.nil ?_; rintro _ ⟨nq, rfl⟩)
    clear w1 w2
    go_wp2_with fail
    have hB := Below_drewN ((Below.refl _ w).alloc (Nat.le_refl _) (.cells #[.int .i64 n, I D] 55)) (nd + nq)
    refine (HI1.out _ (HW.out.below hB)).mono ?_
    rintro e w5 ⟨rfl, hb5⟩
    have hB5 := hB.trans (hb5.mono hB.size)
    clear hb5 hB
    go_wp2_with fail
    go_ret
    exact ⟨by rw [HS1.out]; rfl, hB5⟩
  · have hb1 : ((qd : Int) == 1) = false := by rw [beq_eq_false_iff_ne]; omega
    rw [if_neg h1]
    clear h1
    go_enter Tryz.func53, Tryz.ntmps53
    go_wp2_with fail
    refine (HGC.out _).mono ?_
    rintro e w4 ⟨nd, rfl, rfl⟩
    have w1 := W1.out; have w2 := W2.out
    go_wp2_with fail
    (refine wp_region_quiet_lit (by kernel_rfl) (by kernel_rfl) (WQ.out ?_); (repeat (first | (apply WQ.read (by rfl); (focus (rintro W ⟨n, rfl⟩; go_simp; try with_reducible rfl)); try simp only [Act.put, List.setIfInBounds_toArray, List.set_cons_zero, List.set_cons_succ]) | (apply WQ.skip (by rfl); try simp only [Act.put, List.setIfInBounds_toArray, List.set_cons_zero, List.set_cons_succ]))); refine WQ.nil ?_; rintro _ ⟨nq, rfl⟩)
    clear w1 w2
    go_wp2_with fail
    have hB := Below_drewN ((Below.refl _ w).alloc (Nat.le_refl _) (.cells #[.int .i64 n, I D] 55)) (nd + nq)
    refine (HI1.out _ (HW.out.below hB)).mono ?_
    rintro e w5 ⟨rfl, hb5⟩
    have hB5 := hB.trans (hb5.mono hB.size)
    clear hb5 hB
    go_wp2_with fail
    refine (HI2.out _ (HW.out.below hB5)).mono ?_
    rintro e w6 ⟨rfl, hb6⟩
    have hB6 := hB5.trans (hb6.mono hB5.size)
    clear hb6 hB5
    go_wp2_with fail
    go_ret
    refine ⟨?_, hB6⟩
    rw [HS1.out, HS2.out]
    exact ret_eq (cat_slash _ _)

set_option maxRecDepth 100000 in
set_option maxHeartbeats 1000000 in
theorem number_neg (n : Int) (D : Nat) (hD : 0 < D) (hn : -100000000000000000 < n ∧ n < 100000000000000000) (hD2 : D < 100000000000000000) (w : World) (hw : Wd w) :
    Calls Tryz.prog 53 #[.agg #[.int .i64 n, .int .i64 (-(D : Int))]] w fun e w' => e = .returned (St (numS (Rat.divInt (-n) D))) ∧ Below w.heap.size w w' := by
  obtain ⟨g, qd, qn, hg, hg0, hgD, hqn, hqd, hqd', hqa, hqb, hm⟩ := make_parts (-n) D hD
  obtain ⟨n1, n2⟩ := hn
  rw [hm]
  have hgc := fun W => rgcd_any n.natAbs D (by omega) (by omega) W
  rw [Int.natAbs_neg] at hg
  rw [← hg] at hgc
  have hmax : max (-n) n = ((n.natAbs : Nat) : Int) := by omega
  have w4 : IntKind.i64.wrap n = n := IntWalk.i64_in _ (by omega)
  have hqi : -(n.tdiv (g : Int)) = qn := by rw [← hqn, Int.neg_tdiv]
  have w1 : IntKind.i64.wrap (-(n.tdiv (g : Int))) = qn := by rw [hqi]; exact IntWalk.i64_in _ (by omega)
  have w1' : IntKind.i64.wrap ((-n).tdiv (g : Int)) = qn := by rw [hqn]; exact IntWalk.i64_in _ (by omega)
  have w2 : IntKind.i64.wrap ((D : Int) / (g : Int)) = (qd : Int) := by rw [← Int.tdiv_eq_ediv_of_nonneg (by omega), hqd']; exact IntWalk.i64_in _ (by omega)
  have w3 : IntKind.i64.wrap (-n) = -n := IntWalk.i64_in _ (by omega)
  have hg1 : ¬ g = 0 := by omega
  have hi1 := fun W hW => itoa_b qn (by omega) (by omega) W hW
  have hi2 := fun W hW => itoa_b (qd : Int) (by omega) (by omega) W hW
  obtain ⟨s1, hs1⟩ : ∃ s1 : ByteArray, s1 = ⟨(itoa qn).toArray⟩ := ⟨_, rfl⟩
  obtain ⟨s2, hs2⟩ : ∃ s2 : ByteArray, s2 = ⟨(itoa (qd : Int)).toArray⟩ := ⟨_, rfl⟩
  have hz1 : s1.size ≤ 20 := by rw [hs1]; show (itoa qn).toArray.size ≤ 20; have := itoa_size qn (by omega); simpa using this
  have hz2 : s2.size ≤ 20 := by rw [hs2]; show (itoa (qd : Int)).toArray.size ≤ 20; have := itoa_size (qd : Int) (by omega); simpa using this
  rw [← hs1] at hi1
  rw [← hs2] at hi2
  have HS1 := Lib.hid hs1; have HS2 := Lib.hid hs2
  clear hs1 hs2
  have HGC := Lib.hid hgc; have HI1 := Lib.hid hi1; have HI2 := Lib.hid hi2; have HW := Lib.hid hw
  have W1' := Lib.hid w1'; have W1 := Lib.hid w1; have W2 := Lib.hid w2
  have hqa' : -100000000000000000 < qn ∧ qn < 100000000000000000 := by omega
  clear hg hqn hqd hqd' hqa hm hgc hqi w1 w1' w2 hi1 hi2 hw
  by_cases h1 : qd = 1
  · have hb1 : ((qd : Int) == 1) = true := by rw [beq_iff_eq]; omega
    rw [if_pos h1, List.append_nil]
    clear h1
    go_enter Tryz.func53, Tryz.ntmps53
    go_wp2_with fail
    refine (HGC.out _).mono ?_
    rintro e w4 ⟨nd, rfl, rfl⟩
    have w1 := W1.out; have w1' := W1'.out; have w2 := W2.out
    go_wp2_with fail
    (refine wp_region_quiet_lit (by kernel_rfl) (by kernel_rfl) (WQ.out ?_); (repeat (first | (apply WQ.read (by rfl); (focus (rintro W ⟨n, rfl⟩; go_simp; try with_reducible rfl)); try simp only [Act.put, List.setIfInBounds_toArray, List.set_cons_zero, List.set_cons_succ]) | (apply WQ.skip (by rfl); try simp only [Act.put, List.setIfInBounds_toArray, List.set_cons_zero, List.set_cons_succ]))); refine WQ.nil ?_; rintro _ ⟨nq, rfl⟩)
    clear w1 w1' w2
    go_wp2_with fail
    have hB := Below_drewN ((Below.refl _ w).alloc (Nat.le_refl _) (.cells #[.int .i64 (-n), I D] 55)) (nd + nq)
    refine (HI1.out _ (HW.out.below hB)).mono ?_
    rintro e w5 ⟨rfl, hb5⟩
    have hB5 := hB.trans (hb5.mono hB.size)
    clear hb5 hB
    go_wp2_with fail
    go_ret
    exact ⟨by rw [HS1.out]; rfl, hB5⟩
  · have hb1 : ((qd : Int) == 1) = false := by rw [beq_eq_false_iff_ne]; omega
    rw [if_neg h1]
    clear h1
    go_enter Tryz.func53, Tryz.ntmps53
    go_wp2_with fail
    refine (HGC.out _).mono ?_
    rintro e w4 ⟨nd, rfl, rfl⟩
    have w1 := W1.out; have w1' := W1'.out; have w2 := W2.out
    go_wp2_with fail
    (refine wp_region_quiet_lit (by kernel_rfl) (by kernel_rfl) (WQ.out ?_); (repeat (first | (apply WQ.read (by rfl); (focus (rintro W ⟨n, rfl⟩; go_simp; try with_reducible rfl)); try simp only [Act.put, List.setIfInBounds_toArray, List.set_cons_zero, List.set_cons_succ]) | (apply WQ.skip (by rfl); try simp only [Act.put, List.setIfInBounds_toArray, List.set_cons_zero, List.set_cons_succ]))); refine WQ.nil ?_; rintro _ ⟨nq, rfl⟩)
    clear w1 w1' w2
    go_wp2_with fail
    have hB := Below_drewN ((Below.refl _ w).alloc (Nat.le_refl _) (.cells #[.int .i64 (-n), I D] 55)) (nd + nq)
    refine (HI1.out _ (HW.out.below hB)).mono ?_
    rintro e w5 ⟨rfl, hb5⟩
    have hB5 := hB.trans (hb5.mono hB.size)
    clear hb5 hB
    go_wp2_with fail
    refine (HI2.out _ (HW.out.below hB5)).mono ?_
    rintro e w6 ⟨rfl, hb6⟩
    have hB6 := hB5.trans (hb6.mono hB5.size)
    clear hb6 hB5
    go_wp2_with fail
    go_ret
    refine ⟨?_, hB6⟩
    rw [HS1.out, HS2.out]
    exact ret_eq (cat_slash _ _)

theorem divInt_neg_neg (n d : Int) (hd : d < 0) : Rat.divInt n d = Rat.divInt (-n) ((d.natAbs : Nat) : Int) := by
  rw [divInt_mk _ _ (by omega), if_pos hd, divInt_mk _ _ (by omega), if_neg (by omega), Int.natAbs_natCast]

/-- (rational.native).number. -/
theorem nativeNumber_any (n d : Int) (hd : d ≠ 0) (hn : -100000000000000000 < n ∧ n < 100000000000000000) (hd2 : -100000000000000000 < d ∧ d < 100000000000000000) (w : World) (hw : Wd w) :
    Calls Tryz.prog 53 #[.agg #[.int .i64 n, .int .i64 d]] w fun e w' => e = .returned (St (numS (Rat.divInt n d))) ∧ Below w.heap.size w w' := by
  rcases Int.lt_or_gt_of_ne hd with h | h
  · obtain ⟨D, rfl⟩ : ∃ D : Nat, d = -(D : Int) := ⟨d.natAbs, by omega⟩
    rw [divInt_neg_neg _ _ h, show ((-(D : Int)).natAbs) = D by omega]
    exact number_neg n D (by omega) hn (by omega) w hw
  · obtain ⟨D, rfl⟩ : ∃ D : Nat, d = (D : Int) := ⟨d.natAbs, by omega⟩
    exact number_pos n D (by omega) hn (by omega) w hw
end Go.Proofs.YtapfekcbbhhieaaGreatDoor

namespace Go.Proofs.YtapfekcbbhhieaaGreatDoor
open Go.RowKit Go.Shelf Lib Str Limb
attribute [local go_sem] Oper.semAt_some

set_option maxRecDepth 100000 in
set_option maxHeartbeats 1000000 in
/-- rational.digits at digits. -/
theorem rdigits_any (n : Nat) (hl : (decDigits n).length ≤ 1000000) (w : World) :
    Calls Tryz.prog 136 #[St (decDigits n)] w fun e w' => e = .returned (I (decDigits n).length) ∧ w' = w := by
  obtain ⟨s, hs⟩ : ∃ s : ByteArray, s = ⟨(decDigits n ++ []).toArray⟩ := ⟨_, rfl⟩
  obtain ⟨b1, b2, -⟩ := runs_byte (runs_nil n) s hs
  have hzero : (decDigits n).length ≤ 1 ∨ ∀ hb : 0 < s.size, (s[0]'hb).toNat ≠ 48 := first_nz n [] s hs
  have hb2 : ∀ k (hb : k < s.size), 48 ≤ (s[k]'hb).toNat ∧ (s[k]'hb).toNat ≤ 57 := fun k hb => ⟨(b2 k (by simp at b1; omega) hb).1, (b2 k (by simp at b1; omega) hb).2.1⟩
  rw [List.append_nil] at hs
  have hlen : (decDigits n).length = s.size := by rw [b1]; simp
  show Calls _ _ #[.string ⟨(decDigits n).toArray⟩] _ _
  rw [hlen] at hl hzero ⊢
  rw [← hs]
  have B2 := Lib.hid hb2
  clear b1 b2 hb2 hs hlen
  go_enter Tryz.func136, Tryz.ntmps136
  go_wp2
  go_loop [3] (fun i => ∃ k : Nat, k ≤ s.size ∧ i = .int .i64 k) (fun i => s.size - (RowKit.intOf i).toNat)
  case atStart => exact ⟨0, Nat.zero_le _, rfl⟩
  case round =>
    obtain ⟨k, hk, rfl⟩ := hrel
    by_cases hlt : k < s.size
    · obtain ⟨c1, c2⟩ := B2.out k hlt
      have d1 : (48 : Int) ≤ (s[k].toNat : Int) := by omega
      have d2 : (s[k].toNat : Int) ≤ 57 := by omega
      go_wp2
      go_round
      case rel => exact ⟨k + 1, by omega, by go_num⟩
      case measure => simp [RowKit.intOf]; omega
    · obtain ⟨q, hq⟩ : ∃ q, q = s.size := ⟨_, rfl⟩
      have hkq : k = q := by omega
      subst hkq
      have HQ := Lib.hid hq; clear hq
      rcases hzero with h1 | h1
      · have h1' : ¬ (1 : Int) < k := by have := HQ.out; omega
        go_wp2
        go_ret
        exact ⟨show Ending.returned (I k) = .returned (I s.size) from by rw [← HQ.out], rfl⟩
      · by_cases h2 : 1 < k
        · have h2' : (1 : Int) < k := by omega
          have hs0 : 0 < s.size := by omega
          have h3 : (((s[0]'hs0).toNat : Int) == 48) = false := by rw [beq_eq_false_iff_ne]; have := h1 hs0; omega
          clear h1
          go_wp2
          go_ret
          exact ⟨show Ending.returned (I k) = .returned (I s.size) from by rw [← HQ.out], rfl⟩
        · have h1' : ¬ (1 : Int) < k := by omega
          clear h1
          go_wp2
          go_ret
          exact ⟨show Ending.returned (I k) = .returned (I s.size) from by rw [← HQ.out], rfl⟩

theorem cut_yes (a b : List UInt8) (h : (47 : UInt8) ∉ a) : cut (a ++ 47 :: b) [47] = (a, b, true) := by
  have hi : index (a ++ 47 :: b) [47] = (a.length : Int) := by
    refine index_first (by simp) (by simp [occAt, List.drop_left]) fun j hj => ?_
    rw [Bool.eq_false_iff]
    intro hc
    have := occAt_head rfl hc
    rw [List.getElem?_append_left hj] at this
    exact h (List.mem_of_getElem? this)
  unfold cut
  rw [hi, if_pos (by omega)]
  simp
theorem cut_no (a : List UInt8) (h : (47 : UInt8) ∉ a) : cut a [47] = (a, [], false) := by
  have hi : index a [47] = -1 := by
    refine index_none fun j hj => ?_
    rw [Bool.eq_false_iff]
    intro hc
    exact h (List.mem_of_getElem? (occAt_head rfl hc))
  unfold cut
  rw [hi, if_neg (by omega)]
theorem cut_numS (q : Rat) : cut (numS q) [47] = (itoa q.num, (if q.den = 1 then [] else decDigits q.den), decide (q.den ≠ 1)) := by
  by_cases h : q.den = 1
  · rw [numS_one h, cut_no _ (itoa_no_slash _), if_pos h]; simp [h]
  · rw [numS_frac h, cut_yes _ _ (itoa_no_slash _), if_neg h]; simp [h]

theorem dec_beq {n : Nat} {s : ByteArray} (hs : s = ⟨(decDigits n).toArray⟩) (k : Nat) (hk : k < 10) (h : n ≠ k) : (s.toList == [UInt8.ofNat (48 + k)]) = false := by
  rw [beq_eq_false_iff_ne, hs, ByteArray.toList_eq, ← decDigits_small hk]
  intro e
  exact h (dec_inj (by simpa using e))
theorem toList_of {l : List UInt8} {s : ByteArray} (hs : s = ⟨l.toArray⟩) : s.toList = l := by rw [hs, ByteArray.toList_eq]

set_option maxRecDepth 100000 in
set_option maxHeartbeats 1000000 in
theorem cut_frac (q : Rat) (hq : q.den ≠ 1) (hl : digs q.num ≤ 800000) (hl2 : (decDigits q.den).length ≤ 800000) (w : World) (hw : Wd w) :
    Calls Tryz.prog 97 #[St (numS q)] w fun e w' => e = .returned (.tuple #[.agg #[St (itoa q.num), St (decDigits q.den)], .bool true]) ∧ Below w.heap.size w w' := by
  have hl : (decDigits q.num.natAbs).length ≤ 800000 := hl
  obtain ⟨s, hs⟩ : ∃ s : ByteArray, s = ⟨(numS q).toArray⟩ := ⟨_, rfl⟩
  obtain ⟨sn, hsn⟩ : ∃ s : ByteArray, s = ⟨(itoa q.num).toArray⟩ := ⟨_, rfl⟩
  obtain ⟨sd, hsd⟩ : ∃ s : ByteArray, s = ⟨(decDigits q.den).toArray⟩ := ⟨_, rfl⟩
  obtain ⟨own, hown⟩ : ∃ s : ByteArray, s = ⟨(decDigits q.num.natAbs).toArray⟩ := ⟨_, rfl⟩
  have hssz : s.size < 4294967281 := by
    rw [hs]; show (numS q).toArray.size < _
    have h1 := itoa_len_hi q.num
    unfold digs at h1
    unfold numS
    rw [if_neg hq]; simp; omega
  have hcut : ∀ W : World, Wd W → Calls Tryz.prog 135 #[.string s, .string ⟨#[47]⟩] W fun e w' => e = .returned (.tuple #[.string sn, .string sd, .bool true]) ∧ ∃ n, w' = W.drewN n := by
    intro W hW
    obtain ⟨m, hm⟩ := hW.maxl
    have := Tryz.strings_Cut s ⟨#[47]⟩ m W hssz hm
    rw [show s.data.toList = numS q from by rw [hs], show (⟨#[47]⟩ : ByteArray).data.toList = [47] from rfl, cut_numS] at this
    rw [hsn, hsd]
    simpa [hq] using this
  have hcp : ∀ W : World, Calls Tryz.prog 90 #[.string sn, .string ⟨#[45]⟩] W fun e w' => e = .returned (.tuple #[.string own, .bool (decide (q.num < 0))]) ∧ w' = W := by
    intro W
    have := Tryz.strings_CutPrefix sn ⟨#[45]⟩ W
    rw [show sn.data.toList = itoa q.num from by rw [hsn], show (⟨#[45]⟩ : ByteArray).data.toList = [45] from rfl, trimPrefix_itoa, hasPrefix_itoa] at this
    rw [hown]; exact this
  have hd1 : ∀ W : World, Calls Tryz.prog 136 #[.string own] W fun e w' => e = .returned (I own.size) ∧ w' = W := by
    intro W
    have := rdigits_any q.num.natAbs (by omega) W
    rw [show (decDigits q.num.natAbs).length = own.size from by rw [hown]; exact List.size_toArray.symm] at this
    rw [hown] at this ⊢; exact this
  have hd2 : ∀ W : World, Calls Tryz.prog 136 #[.string sd] W fun e w' => e = .returned (I sd.size) ∧ w' = W := by
    intro W
    have := rdigits_any q.den (by omega) W
    rw [show (decDigits q.den).length = sd.size from by rw [hsd]; exact List.size_toArray.symm] at this
    rw [hsd] at this ⊢; exact this
  have z1 := str_facts _ (decDigits_ne q.num.natAbs) own hown
  have z2 := str_facts _ (decDigits_ne q.den) sd hsd
  have e1 : ((own.size : Int) == 0) = false := by rw [beq_eq_false_iff_ne]; have := z1.2.1; omega
  have e2 : ((sd.size : Int) == 0) = false := by rw [beq_eq_false_iff_ne]; have := z2.2.1; omega
  have l1 : own.size ≤ 800000 := by rw [z1.2.2.1]; exact hl
  have l2 : sd.size ≤ 800000 := by rw [z2.2.2.1]; exact hl2
  have q1 : (sd.toList == [48]) = false := dec_beq hsd 0 (by omega) q.den_nz
  have q2 : (sd.toList == [49]) = false := dec_beq hsd 1 (by omega) hq
  show Calls _ _ #[.string ⟨(numS q).toArray⟩] _ fun e w' => e = .returned (.tuple #[.agg #[.string ⟨(itoa q.num).toArray⟩, .string ⟨(decDigits q.den).toArray⟩], .bool true]) ∧ Below w.heap.size w w'
  rw [← hs, ← hsn, ← hsd]
  have CUT := Lib.hid hcut; have CP := Lib.hid hcp; have D1 := Lib.hid hd1; have D2 := Lib.hid hd2; have HW := Lib.hid hw
  have hneg : decide (q.num < 0) = false ∨ decide (q.num < 0) = true ∧ (own.toList == [48]) = false := by
    by_cases h : q.num < 0
    · exact .inr ⟨decide_eq_true h, dec_beq hown 0 (by omega) (by omega)⟩
    · exact .inl (decide_eq_false h)
  clear hcut hcp hd1 hd2 hw z1 z2 hs hsn hsd hown hl hl2 hssz
  rcases hneg with hneg | ⟨hneg, hneg2⟩
  · rw [hneg] at CP
    clear hneg
    go_enter Tryz.func97, Tryz.ntmps97
    go_wp2_with fail
    refine (CUT.out _ (HW.out.below ((Below.refl _ w).alloc (Nat.le_refl _) _))).mono ?_
    rintro e w1 ⟨rfl, nd, rfl⟩
    go_wp2_with fail
    refine (CP.out _).mono ?_
    rintro e w1 ⟨rfl, rfl⟩
    go_wp2_with fail
    refine (D1.out _).mono ?_
    rintro e w1 ⟨rfl, rfl⟩
    go_wp2_with fail
    refine (D2.out _).mono ?_
    rintro e w1 ⟨rfl, rfl⟩
    go_wp2_with fail
    refine bodyPost_ret (v := .tuple #[.agg #[.string sn, .string sd], .bool true]) (by simp [results, Tryz.results97, go_sem]) rfl ⟨rfl, ?_⟩
    repeat (first | exact Below.refl _ _ | refine Below.alloc ?_ (by simp [World.setCell, World.drewN]) _ | refine Below_drewN ?_ _ | refine Below.setCell ?_ (by simp) _)
  · rw [hneg] at CP
    clear hneg
    go_enter Tryz.func97, Tryz.ntmps97
    go_wp2_with fail
    refine (CUT.out _ (HW.out.below ((Below.refl _ w).alloc (Nat.le_refl _) _))).mono ?_
    rintro e w1 ⟨rfl, nd, rfl⟩
    go_wp2_with fail
    refine (CP.out _).mono ?_
    rintro e w1 ⟨rfl, rfl⟩
    go_wp2_with fail
    refine (D1.out _).mono ?_
    rintro e w1 ⟨rfl, rfl⟩
    go_wp2_with fail
    refine (D2.out _).mono ?_
    rintro e w1 ⟨rfl, rfl⟩
    go_wp2_with fail
    refine bodyPost_ret (v := .tuple #[.agg #[.string sn, .string sd], .bool true]) (by simp [results, Tryz.results97, go_sem]) rfl ⟨rfl, ?_⟩
    repeat (first | exact Below.refl _ _ | refine Below.alloc ?_ (by simp [World.setCell, World.drewN]) _ | refine Below_drewN ?_ _ | refine Below.setCell ?_ (by simp) _)
set_option maxRecDepth 100000 in
set_option maxHeartbeats 1000000 in
theorem cut_int (q : Rat) (hq : q.den = 1) (hl : digs q.num ≤ 800000) (w : World) (hw : Wd w) :
    Calls Tryz.prog 97 #[St (numS q)] w fun e w' => e = .returned (.tuple #[.agg #[St (itoa q.num), St [49]], .bool true]) ∧ Below w.heap.size w w' := by
  have hl : (decDigits q.num.natAbs).length ≤ 800000 := hl
  obtain ⟨s, hs⟩ : ∃ s : ByteArray, s = ⟨(numS q).toArray⟩ := ⟨_, rfl⟩
  obtain ⟨sn, hsn⟩ : ∃ s : ByteArray, s = ⟨(itoa q.num).toArray⟩ := ⟨_, rfl⟩
  obtain ⟨own, hown⟩ : ∃ s : ByteArray, s = ⟨(decDigits q.num.natAbs).toArray⟩ := ⟨_, rfl⟩
  have hssz : s.size < 4294967281 := by
    rw [hs]; show (numS q).toArray.size < _
    have h1 := itoa_len_hi q.num
    unfold digs at h1
    unfold numS
    rw [if_pos hq]; simp; omega
  have hcut : ∀ W : World, Wd W → Calls Tryz.prog 135 #[.string s, .string ⟨#[47]⟩] W fun e w' => e = .returned (.tuple #[.string sn, St [], .bool false]) ∧ ∃ n, w' = W.drewN n := by
    intro W hW
    obtain ⟨m, hm⟩ := hW.maxl
    have := Tryz.strings_Cut s ⟨#[47]⟩ m W hssz hm
    rw [show s.data.toList = numS q from by rw [hs], show (⟨#[47]⟩ : ByteArray).data.toList = [47] from rfl, cut_numS] at this
    rw [hsn]
    simpa [hq] using this
  have hcp : ∀ W : World, Calls Tryz.prog 90 #[.string sn, .string ⟨#[45]⟩] W fun e w' => e = .returned (.tuple #[.string own, .bool (decide (q.num < 0))]) ∧ w' = W := by
    intro W
    have := Tryz.strings_CutPrefix sn ⟨#[45]⟩ W
    rw [show sn.data.toList = itoa q.num from by rw [hsn], show (⟨#[45]⟩ : ByteArray).data.toList = [45] from rfl, trimPrefix_itoa, hasPrefix_itoa] at this
    rw [hown]; exact this
  have hd1 : ∀ W : World, Calls Tryz.prog 136 #[.string own] W fun e w' => e = .returned (I own.size) ∧ w' = W := by
    intro W
    have := rdigits_any q.num.natAbs (by omega) W
    rw [show (decDigits q.num.natAbs).length = own.size from by rw [hown]; exact List.size_toArray.symm] at this
    rw [hown] at this ⊢; exact this
  have z1 := str_facts _ (decDigits_ne q.num.natAbs) own hown
  have e1 : ((own.size : Int) == 0) = false := by rw [beq_eq_false_iff_ne]; have := z1.2.1; omega
  have l1 : own.size ≤ 800000 := by rw [z1.2.2.1]; exact hl
  show Calls _ _ #[.string ⟨(numS q).toArray⟩] _ fun e w' => e = .returned (.tuple #[.agg #[.string ⟨(itoa q.num).toArray⟩, St [49]], .bool true]) ∧ Below w.heap.size w w'
  rw [← hs, ← hsn]
  have CUT := Lib.hid hcut; have CP := Lib.hid hcp; have D1 := Lib.hid hd1; have HW := Lib.hid hw
  have hneg : decide (q.num < 0) = false ∨ decide (q.num < 0) = true ∧ (own.toList == [48]) = false := by
    by_cases h : q.num < 0
    · exact .inr ⟨decide_eq_true h, dec_beq hown 0 (by omega) (by omega)⟩
    · exact .inl (decide_eq_false h)
  clear hcut hcp hd1 hw z1 hs hsn hown hl hssz
  rcases hneg with hneg | ⟨hneg, hneg2⟩
  · rw [hneg] at CP
    clear hneg
    go_enter Tryz.func97, Tryz.ntmps97
    go_wp2_with fail
    refine (CUT.out _ (HW.out.below ((Below.refl _ w).alloc (Nat.le_refl _) _))).mono ?_
    rintro e w1 ⟨rfl, nd, rfl⟩
    go_wp2_with fail
    refine (CP.out _).mono ?_
    rintro e w1 ⟨rfl, rfl⟩
    go_wp2_with fail
    refine (D1.out _).mono ?_
    rintro e w1 ⟨rfl, rfl⟩
    go_wp2_with fail
    refine bodyPost_ret (v := .tuple #[.agg #[.string sn, St [49]], .bool true]) (by simp [results, Tryz.results97, go_sem]) rfl ⟨rfl, ?_⟩
    repeat (first | exact Below.refl _ _ | refine Below.alloc ?_ (by simp [World.setCell, World.drewN]) _ | refine Below_drewN ?_ _ | refine Below.setCell ?_ (by simp) _)
  · rw [hneg] at CP
    clear hneg
    go_enter Tryz.func97, Tryz.ntmps97
    go_wp2_with fail
    refine (CUT.out _ (HW.out.below ((Below.refl _ w).alloc (Nat.le_refl _) _))).mono ?_
    rintro e w1 ⟨rfl, nd, rfl⟩
    go_wp2_with fail
    refine (CP.out _).mono ?_
    rintro e w1 ⟨rfl, rfl⟩
    go_wp2_with fail
    refine (D1.out _).mono ?_
    rintro e w1 ⟨rfl, rfl⟩
    go_wp2_with fail
    refine bodyPost_ret (v := .tuple #[.agg #[.string sn, St [49]], .bool true]) (by simp [results, Tryz.results97, go_sem]) rfl ⟨rfl, ?_⟩
    repeat (first | exact Below.refl _ _ | refine Below.alloc ?_ (by simp [World.setCell, World.drewN]) _ | refine Below_drewN ?_ _ | refine Below.setCell ?_ (by simp) _)

/-- rational.cut at a numeral. -/
theorem cut_any (q : Rat) (hl : digs q.num ≤ 800000) (hl2 : (decDigits q.den).length ≤ 800000) (w : World) (hw : Wd w) :
    Calls Tryz.prog 97 #[St (numS q)] w fun e w' => e = .returned (.tuple #[.agg #[St (itoa q.num), St (decDigits q.den)], .bool true]) ∧ Below w.heap.size w w' := by
  by_cases h : q.den = 1
  · rw [h, decDigits_small (by omega)]; exact cut_int q h hl w hw
  · exact cut_frac q h hl hl2 w hw
end Go.Proofs.YtapfekcbbhhieaaGreatDoor
