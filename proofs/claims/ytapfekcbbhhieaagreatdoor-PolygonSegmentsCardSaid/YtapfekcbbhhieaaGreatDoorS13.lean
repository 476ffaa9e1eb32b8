/-
  rational.read, Check, Parts, at a numeral.
  rational.opposite, number.
  The native closures of rational; crossed.
-/
import Derived.Test.YtapfekcbbhhieaaGreatDoorS12
namespace Go.Proofs.YtapfekcbbhhieaaGreatDoor
open Go.RowKit Go.Shelf Lib Str Limb
attribute [local go_sem] Oper.semAt_some

/-- A number with parts of at most 300 digits. -/
def okQ (q : Rat) : Prop := digs q.num ≤ 300 ∧ (decDigits q.den).length ≤ 300
theorem okQ_short {q : Rat} (h : shortQ q) : okQ q := ⟨Nat.le_trans h.1 (by omega), Nat.le_trans h.2 (by omega)⟩

set_option maxRecDepth 100000 in
set_option maxHeartbeats 1000000 in
theorem read_short (q : Rat) (h : shortQ q) (w : World) (hw : Wd w) :
    Calls Tryz.prog 54 #[St (numS q)] w fun e w' => e = .returned (.tuple #[.agg #[St (itoa q.num), St (decDigits q.den)], .int .i64 0]) ∧ Below w.heap.size w w' := by
  have hc := fun W hW => cut_any q (Nat.le_trans h.1 (by omega)) (Nat.le_trans h.2 (by omega)) W hW
  have hn := fun W => nativeOf_yes q h W
  generalize numS q = s at hc hn ⊢
  generalize itoa q.num = sn at hc ⊢
  generalize decDigits q.den = sd at hc ⊢
  generalize q.num = n at hn
  generalize q.den = d at hn
  have HC := Lib.hid hc; have HN := Lib.hid hn; have HW := Lib.hid hw
  clear hc hn hw h
  go_enter Tryz.func54, Tryz.ntmps54
  go_wp2_with fail
  refine (HC.out _ (HW.out.below ((Below.refl _ w).alloc (Nat.le_refl _) _))).mono ?_
  rintro e w1 ⟨rfl, hb1⟩
  have hB1 : Below w.heap.size w w1 := ((Below.refl _ w).alloc (Nat.le_refl _) _).trans (hb1.mono (by simp))
  have z1 : w.heap.size < w1.heap.size := by have := hb1.size; simp at this; omega
  have R1 : w1.heap[w.heap.size]? = some (.cells #[St [], St []] 62 (0, 0)) := (hb1.block _ (by simp)).trans (World.alloc_heap_new w _)
  clear hb1
  go_wp2_with fail
  refine (HN.out _).mono ?_
  rintro e w2 ⟨rfl, hb2⟩
  have z2 : w1.heap.size < w2.heap.size := by have := hb2.size; simp at this; omega
  have hB2 : Below w.heap.size w w2 := (hB1.alloc hB1.size _).trans (hb2.mono (by simp; omega))
  have R2 : w2.heap[w.heap.size]? = some (.cells #[St [], St []] 62 (0, 0)) := (hb2.block _ (by simp; omega)).trans ((Below.heap_alloc _ _ _ (by omega)).trans R1)
  have P2 : w2.heap[w1.heap.size]? = some (.cells #[St sn, St sd] 62 (0, 0)) := (hb2.block _ (by simp)).trans (World.alloc_heap_new w1 _)
  have P20 : w2.cell? ⟨w1.heap.size, 0, none⟩ = some (St sn) := by simp [World.cell?, P2]
  have P21 : w2.cell? ⟨w1.heap.size, 1, none⟩ = some (St sd) := by simp [World.cell?, P2]
  have R20 : w2.cell? ⟨w.heap.size, 0, none⟩ = some (St []) := by simp [World.cell?, R2]
  have R21 : w2.cell? ⟨w.heap.size, 1, none⟩ = some (St []) := by simp [World.cell?, R2]
  have F20 : w2.frozen? ⟨w.heap.size, 0, none⟩ = false := by simp [World.frozen?, R2]
  have F21 : w2.frozen? ⟨w.heap.size, 1, none⟩ = false := by simp [World.frozen?, R2]
  have z3 : w.heap.size < w2.heap.size := by omega
  clear R1 hB1 hb2 P2
  go_wp2_with fail
  refine bodyPost_ret (v := .tuple #[.agg #[St sn, St sd], .int .i64 0]) (by simp [results, Tryz.results54, go_sem, R20, R21, z3]) rfl ⟨rfl, ?_⟩
  repeat (first | exact hB2 | exact Below.refl _ _ | refine Below.alloc ?_ (by simp [World.setCell, World.drewN] <;> omega) _ | refine Below_drewN ?_ _ | refine Below.setCell ?_ (by simp) _)

set_option maxRecDepth 100000 in
set_option maxHeartbeats 1000000 in
theorem read_long_int (q : Rat) (h : ¬ shortQ q) (hk : okQ q) (hd : q.den = 1) (hl : digs q.num ≤ 800000) (hl2 : (decDigits q.den).length ≤ 800000) (w : World) (hw : Wd w) :
    Calls Tryz.prog 54 #[St (numS q)] w fun e w' => e = .returned (.tuple #[.agg #[St (itoa q.num), St (decDigits q.den)], .int .i64 0]) ∧ Below w.heap.size w w' := by
  have hc := fun W hW => cut_any q hl hl2 W hW
  have hn := fun W => nativeOf_no q h hl hl2 W
  obtain ⟨sn, hsn⟩ : ∃ s : ByteArray, s = ⟨(itoa q.num).toArray⟩ := ⟨_, rfl⟩
  obtain ⟨sd, hsd⟩ : ∃ s : ByteArray, s = ⟨(decDigits q.den).toArray⟩ := ⟨_, rfl⟩
  obtain ⟨own, hown⟩ : ∃ s : ByteArray, s = ⟨(decDigits q.num.natAbs).toArray⟩ := ⟨_, rfl⟩
  have htp : ∀ W : World, Calls Tryz.prog 98 #[.string sn, .string ⟨#[45]⟩] W fun e w' => e = .returned (.string own) ∧ w' = W := by
    intro W
    have := Tryz.strings_TrimPrefix sn ⟨#[45]⟩ W
    rw [show sn.data.toList = itoa q.num from by rw [hsn], show (⟨#[45]⟩ : ByteArray).data.toList = [45] from rfl, trimPrefix_itoa] at this
    rw [hown]; exact this
  have l1 : own.size = digs q.num := by rw [hown]; exact List.size_toArray
  have l2 : sd.size = (decDigits q.den).length := by rw [hsd]; exact List.size_toArray
  have s1 : ¬ (300 : Int) < own.size := by have := hk.1; omega
  have s2 : ¬ (300 : Int) < sd.size := by have := hk.2; omega
  have s3 : (sd.toList == [49]) = true := by rw [toList_of hsd, hd, decDigits_small (by omega)]; rfl
  have hc : ∀ W, Wd W → Calls Tryz.prog 97 #[St (numS q)] W fun e w' => e = .returned (.tuple #[.agg #[.string sn, .string sd], .bool true]) ∧ Below W.heap.size W w' := by rw [hsn, hsd]; exact hc
  rw [show St (itoa q.num) = .string sn from by rw [hsn], show St (decDigits q.den) = .string sd from by rw [hsd]]
  generalize numS q = s at hc hn ⊢
  have HC := Lib.hid hc; have HN := Lib.hid hn; have HW := Lib.hid hw; have TP := Lib.hid htp
  clear hc hn hw h hsn hsd hown htp l1 l2 hl hl2 hk hd
  go_enter Tryz.func54, Tryz.ntmps54
  go_wp2_with fail
  refine (HC.out _ (HW.out.below ((Below.refl _ w).alloc (Nat.le_refl _) _))).mono ?_
  rintro e w1 ⟨rfl, hb1⟩
  have hB1 : Below w.heap.size w w1 := ((Below.refl _ w).alloc (Nat.le_refl _) _).trans (hb1.mono (by simp))
  have z1 : w.heap.size < w1.heap.size := by have := hb1.size; simp at this; omega
  have R1 : w1.heap[w.heap.size]? = some (.cells #[St [], St []] 62 (0, 0)) := (hb1.block _ (by simp)).trans (World.alloc_heap_new w _)
  clear hb1
  go_wp2_with fail
  refine (HN.out _).mono ?_
  rintro e w2 ⟨rfl, hb2⟩
  have z2 : w1.heap.size < w2.heap.size := by have := hb2.size; simp at this; omega
  have hB2 : Below w.heap.size w w2 := (hB1.alloc hB1.size _).trans (hb2.mono (by simp; omega))
  have R2 : w2.heap[w.heap.size]? = some (.cells #[St [], St []] 62 (0, 0)) := (hb2.block _ (by simp; omega)).trans ((Below.heap_alloc _ _ _ (by omega)).trans R1)
  have P2 : w2.heap[w1.heap.size]? = some (.cells #[.string sn, .string sd] 62 (0, 0)) := (hb2.block _ (by simp)).trans (World.alloc_heap_new w1 _)
  have P20 : w2.cell? ⟨w1.heap.size, 0, none⟩ = some (.string sn) := by simp [World.cell?, P2]
  have P21 : w2.cell? ⟨w1.heap.size, 1, none⟩ = some (.string sd) := by simp [World.cell?, P2]
  have R20 : w2.cell? ⟨w.heap.size, 0, none⟩ = some (St []) := by simp [World.cell?, R2]
  have R21 : w2.cell? ⟨w.heap.size, 1, none⟩ = some (St []) := by simp [World.cell?, R2]
  have F20 : w2.frozen? ⟨w.heap.size, 0, none⟩ = false := by simp [World.frozen?, R2]
  have F21 : w2.frozen? ⟨w.heap.size, 1, none⟩ = false := by simp [World.frozen?, R2]
  have z3 : w.heap.size < w2.heap.size := by omega
  clear R1 hB1 hb2
  go_wp2_with fail
  refine (TP.out _).mono ?_
  rintro e w3 ⟨rfl, rfl⟩
  go_wp2_with fail
  refine bodyPost_ret (v := .tuple #[.agg #[.string sn, .string sd], .int .i64 0]) (by simp [results, Tryz.results54, go_sem, R20, R21, z3]) rfl ⟨rfl, ?_⟩
  repeat (first | exact hB2 | exact Below.refl _ _ | refine Below.alloc ?_ (by simp [World.setCell, World.drewN] <;> omega) _ | refine Below_drewN ?_ _ | refine Below.setCell ?_ (by simp) _)

set_option maxRecDepth 100000 in
set_option maxHeartbeats 1000000 in
theorem read_big_num (q : Rat) (h : ¬ shortQ q) (hb : 300 < digs q.num) (hl : digs q.num ≤ 800000) (hl2 : (decDigits q.den).length ≤ 800000) (w : World) (hw : Wd w) :
    Calls Tryz.prog 54 #[St (numS q)] w fun e w' => e = .returned (.tuple #[.agg #[St [], St []], .int .i64 4]) ∧ Below w.heap.size w w' := by
  have hc := fun W hW => cut_any q hl hl2 W hW
  have hn := fun W => nativeOf_no q h hl hl2 W
  obtain ⟨sn, hsn⟩ : ∃ s : ByteArray, s = ⟨(itoa q.num).toArray⟩ := ⟨_, rfl⟩
  obtain ⟨sd, hsd⟩ : ∃ s : ByteArray, s = ⟨(decDigits q.den).toArray⟩ := ⟨_, rfl⟩
  obtain ⟨own, hown⟩ : ∃ s : ByteArray, s = ⟨(decDigits q.num.natAbs).toArray⟩ := ⟨_, rfl⟩
  have htp : ∀ W : World, Calls Tryz.prog 98 #[.string sn, .string ⟨#[45]⟩] W fun e w' => e = .returned (.string own) ∧ w' = W := by
    intro W
    have := Tryz.strings_TrimPrefix sn ⟨#[45]⟩ W
    rw [show sn.data.toList = itoa q.num from by rw [hsn], show (⟨#[45]⟩ : ByteArray).data.toList = [45] from rfl, trimPrefix_itoa] at this
    rw [hown]; exact this
  have l1 : own.size = digs q.num := by rw [hown]; exact List.size_toArray
  have l2 : sd.size = (decDigits q.den).length := by rw [hsd]; exact List.size_toArray
  have s1 : (300 : Int) < own.size := by omega
  have hc : ∀ W, Wd W → Calls Tryz.prog 97 #[St (numS q)] W fun e w' => e = .returned (.tuple #[.agg #[.string sn, .string sd], .bool true]) ∧ Below W.heap.size W w' := by rw [hsn, hsd]; exact hc
  generalize numS q = s at hc hn ⊢
  have HC := Lib.hid hc; have HN := Lib.hid hn; have HW := Lib.hid hw; have TP := Lib.hid htp
  clear hc hn hw h hsn hsd hown htp l1 l2 hl hl2 hb
  go_enter Tryz.func54, Tryz.ntmps54
  go_wp2_with fail
  refine (HC.out _ (HW.out.below ((Below.refl _ w).alloc (Nat.le_refl _) _))).mono ?_
  rintro e w1 ⟨rfl, hb1⟩
  have hB1 : Below w.heap.size w w1 := ((Below.refl _ w).alloc (Nat.le_refl _) _).trans (hb1.mono (by simp))
  have z1 : w.heap.size < w1.heap.size := by have := hb1.size; simp at this; omega
  have R1 : w1.heap[w.heap.size]? = some (.cells #[St [], St []] 62 (0, 0)) := (hb1.block _ (by simp)).trans (World.alloc_heap_new w _)
  clear hb1
  go_wp2_with fail
  refine (HN.out _).mono ?_
  rintro e w2 ⟨rfl, hb2⟩
  have z2 : w1.heap.size < w2.heap.size := by have := hb2.size; simp at this; omega
  have hB2 : Below w.heap.size w w2 := (hB1.alloc hB1.size _).trans (hb2.mono (by simp; omega))
  have R2 : w2.heap[w.heap.size]? = some (.cells #[St [], St []] 62 (0, 0)) := (hb2.block _ (by simp; omega)).trans ((Below.heap_alloc _ _ _ (by omega)).trans R1)
  have P2 : w2.heap[w1.heap.size]? = some (.cells #[.string sn, .string sd] 62 (0, 0)) := (hb2.block _ (by simp)).trans (World.alloc_heap_new w1 _)
  have P20 : w2.cell? ⟨w1.heap.size, 0, none⟩ = some (.string sn) := by simp [World.cell?, P2]
  have P21 : w2.cell? ⟨w1.heap.size, 1, none⟩ = some (.string sd) := by simp [World.cell?, P2]
  have R20 : w2.cell? ⟨w.heap.size, 0, none⟩ = some (St []) := by simp [World.cell?, R2]
  have R21 : w2.cell? ⟨w.heap.size, 1, none⟩ = some (St []) := by simp [World.cell?, R2]
  have F20 : w2.frozen? ⟨w.heap.size, 0, none⟩ = false := by simp [World.frozen?, R2]
  have F21 : w2.frozen? ⟨w.heap.size, 1, none⟩ = false := by simp [World.frozen?, R2]
  have z3 : w.heap.size < w2.heap.size := by omega
  clear R1 hB1 hb2
  go_wp2_with fail
  refine (TP.out _).mono ?_
  rintro e w3 ⟨rfl, rfl⟩
  go_wp2_with fail
  refine bodyPost_ret (v := .tuple #[.agg #[St [], St []], .int .i64 4]) (by simp [results, Tryz.results54, go_sem, R20, R21, z3]) rfl ⟨rfl, ?_⟩
  repeat (first | exact hB2 | exact Below.refl _ _ | refine Below.alloc ?_ (by simp [World.setCell, World.drewN] <;> omega) _ | refine Below_drewN ?_ _ | refine Below.setCell ?_ (by simp) _)

set_option maxRecDepth 100000 in
set_option maxHeartbeats 1000000 in
theorem read_big_den (q : Rat) (h : ¬ shortQ q) (hb2 : digs q.num ≤ 300) (hb : 300 < (decDigits q.den).length) (hl : digs q.num ≤ 800000) (hl2 : (decDigits q.den).length ≤ 800000) (w : World) (hw : Wd w) :
    Calls Tryz.prog 54 #[St (numS q)] w fun e w' => e = .returned (.tuple #[.agg #[St [], St []], .int .i64 4]) ∧ Below w.heap.size w w' := by
  have hc := fun W hW => cut_any q hl hl2 W hW
  have hn := fun W => nativeOf_no q h hl hl2 W
  obtain ⟨sn, hsn⟩ : ∃ s : ByteArray, s = ⟨(itoa q.num).toArray⟩ := ⟨_, rfl⟩
  obtain ⟨sd, hsd⟩ : ∃ s : ByteArray, s = ⟨(decDigits q.den).toArray⟩ := ⟨_, rfl⟩
  obtain ⟨own, hown⟩ : ∃ s : ByteArray, s = ⟨(decDigits q.num.natAbs).toArray⟩ := ⟨_, rfl⟩
  have htp : ∀ W : World, Calls Tryz.prog 98 #[.string sn, .string ⟨#[45]⟩] W fun e w' => e = .returned (.string own) ∧ w' = W := by
    intro W
    have := Tryz.strings_TrimPrefix sn ⟨#[45]⟩ W
    rw [show sn.data.toList = itoa q.num from by rw [hsn], show (⟨#[45]⟩ : ByteArray).data.toList = [45] from rfl, trimPrefix_itoa] at this
    rw [hown]; exact this
  have l1 : own.size = digs q.num := by rw [hown]; exact List.size_toArray
  have l2 : sd.size = (decDigits q.den).length := by rw [hsd]; exact List.size_toArray
  have s1 : ¬ (300 : Int) < own.size := by omega
  have s2 : (300 : Int) < sd.size := by omega
  have hc : ∀ W, Wd W → Calls Tryz.prog 97 #[St (numS q)] W fun e w' => e = .returned (.tuple #[.agg #[.string sn, .string sd], .bool true]) ∧ Below W.heap.size W w' := by rw [hsn, hsd]; exact hc
  generalize numS q = s at hc hn ⊢
  have HC := Lib.hid hc; have HN := Lib.hid hn; have HW := Lib.hid hw; have TP := Lib.hid htp
  clear hc hn hw h hsn hsd hown htp l1 l2 hl hl2 hb hb2
  go_enter Tryz.func54, Tryz.ntmps54
  go_wp2_with fail
  refine (HC.out _ (HW.out.below ((Below.refl _ w).alloc (Nat.le_refl _) _))).mono ?_
  rintro e w1 ⟨rfl, hb1⟩
  have hB1 : Below w.heap.size w w1 := ((Below.refl _ w).alloc (Nat.le_refl _) _).trans (hb1.mono (by simp))
  have z1 : w.heap.size < w1.heap.size := by have := hb1.size; simp at this; omega
  have R1 : w1.heap[w.heap.size]? = some (.cells #[St [], St []] 62 (0, 0)) := (hb1.block _ (by simp)).trans (World.alloc_heap_new w _)
  clear hb1
  go_wp2_with fail
  refine (HN.out _).mono ?_
  rintro e w2 ⟨rfl, hb2⟩
  have z2 : w1.heap.size < w2.heap.size := by have := hb2.size; simp at this; omega
  have hB2 : Below w.heap.size w w2 := (hB1.alloc hB1.size _).trans (hb2.mono (by simp; omega))
  have R2 : w2.heap[w.heap.size]? = some (.cells #[St [], St []] 62 (0, 0)) := (hb2.block _ (by simp; omega)).trans ((Below.heap_alloc _ _ _ (by omega)).trans R1)
  have P2 : w2.heap[w1.heap.size]? = some (.cells #[.string sn, .string sd] 62 (0, 0)) := (hb2.block _ (by simp)).trans (World.alloc_heap_new w1 _)
  have P20 : w2.cell? ⟨w1.heap.size, 0, none⟩ = some (.string sn) := by simp [World.cell?, P2]
  have P21 : w2.cell? ⟨w1.heap.size, 1, none⟩ = some (.string sd) := by simp [World.cell?, P2]
  have R20 : w2.cell? ⟨w.heap.size, 0, none⟩ = some (St []) := by simp [World.cell?, R2]
  have R21 : w2.cell? ⟨w.heap.size, 1, none⟩ = some (St []) := by simp [World.cell?, R2]
  have F20 : w2.frozen? ⟨w.heap.size, 0, none⟩ = false := by simp [World.frozen?, R2]
  have F21 : w2.frozen? ⟨w.heap.size, 1, none⟩ = false := by simp [World.frozen?, R2]
  have z3 : w.heap.size < w2.heap.size := by omega
  clear R1 hB1 hb2
  go_wp2_with fail
  refine (TP.out _).mono ?_
  rintro e w3 ⟨rfl, rfl⟩
  go_wp2_with fail
  refine bodyPost_ret (v := .tuple #[.agg #[St [], St []], .int .i64 4]) (by simp [results, Tryz.results54, go_sem, R20, R21, z3]) rfl ⟨rfl, ?_⟩
  repeat (first | exact hB2 | exact Below.refl _ _ | refine Below.alloc ?_ (by simp [World.setCell, World.drewN] <;> omega) _ | refine Below_drewN ?_ _ | refine Below.setCell ?_ (by simp) _)

set_option maxRecDepth 100000 in
set_option maxHeartbeats 1000000 in
theorem read_long_frac (q : Rat) (h : ¬ shortQ q) (hk : okQ q) (hd : q.den ≠ 1) (hl : digs q.num ≤ 800000) (hl2 : (decDigits q.den).length ≤ 800000) (w : World) (hw : Wd w) :
    Calls Tryz.prog 54 #[St (numS q)] w fun e w' => e = .returned (.tuple #[.agg #[St (itoa q.num), St (decDigits q.den)], .int .i64 0]) ∧ Below w.heap.size w w' := by
  have hc := fun W hW => cut_any q hl hl2 W hW
  have hn := fun W => nativeOf_no q h hl hl2 W
  obtain ⟨sn, hsn⟩ : ∃ s : ByteArray, s = ⟨(itoa q.num).toArray⟩ := ⟨_, rfl⟩
  obtain ⟨sd, hsd⟩ : ∃ s : ByteArray, s = ⟨(decDigits q.den).toArray⟩ := ⟨_, rfl⟩
  obtain ⟨own, hown⟩ : ∃ s : ByteArray, s = ⟨(decDigits q.num.natAbs).toArray⟩ := ⟨_, rfl⟩
  have htp : ∀ W : World, Calls Tryz.prog 98 #[.string sn, .string ⟨#[45]⟩] W fun e w' => e = .returned (.string own) ∧ w' = W := by
    intro W
    have := Tryz.strings_TrimPrefix sn ⟨#[45]⟩ W
    rw [show sn.data.toList = itoa q.num from by rw [hsn], show (⟨#[45]⟩ : ByteArray).data.toList = [45] from rfl, trimPrefix_itoa] at this
    rw [hown]; exact this
  have l1 : own.size = digs q.num := by rw [hown]; exact List.size_toArray
  have l2 : sd.size = (decDigits q.den).length := by rw [hsd]; exact List.size_toArray
  have s1 : ¬ (300 : Int) < own.size := by have := hk.1; omega
  have s2 : ¬ (300 : Int) < sd.size := by have := hk.2; omega
  have s3 : (sd.toList == [49]) = false := dec_beq hsd 1 (by omega) hd
  have hg : ∀ W : World, Wd W → Calls Tryz.prog 50 #[.string sn, .string sd] W fun e w' => e = .returned (.tuple #[St [49], .int .i64 0]) ∧ Below W.heap.size W w' := by
    intro W hW
    have h2 : digs (q.den : Int) ≤ 300 := hk.2
    have := Gcd_any q.num q.den hk.1 h2 W hW
    rw [show (Int.gcd q.num (q.den : Int) : Int) = 1 from by have := q.reduced; unfold Int.gcd; rw [Int.natAbs_natCast]; unfold Nat.Coprime at this; rw [this]; rfl, itoa_one, Str.itoa_nonneg q.den] at this
    rw [hsn, hsd]; exact this
  have hc : ∀ W, Wd W → Calls Tryz.prog 97 #[St (numS q)] W fun e w' => e = .returned (.tuple #[.agg #[.string sn, .string sd], .bool true]) ∧ Below W.heap.size W w' := by rw [hsn, hsd]; exact hc
  rw [show St (itoa q.num) = .string sn from by rw [hsn], show St (decDigits q.den) = .string sd from by rw [hsd]]
  generalize numS q = s at hc hn ⊢
  have HC := Lib.hid hc; have HN := Lib.hid hn; have HW := Lib.hid hw; have TP := Lib.hid htp; have GC := Lib.hid hg
  clear hc hn hw h hsn hsd hown htp hg l1 l2 hl hl2 hk hd
  go_enter Tryz.func54, Tryz.ntmps54
  go_wp2_with fail
  refine (HC.out _ (HW.out.below ((Below.refl _ w).alloc (Nat.le_refl _) _))).mono ?_
  rintro e w1 ⟨rfl, hb1⟩
  have hB1 : Below w.heap.size w w1 := ((Below.refl _ w).alloc (Nat.le_refl _) _).trans (hb1.mono (by simp))
  have z1 : w.heap.size < w1.heap.size := by have := hb1.size; simp at this; omega
  have R1 : w1.heap[w.heap.size]? = some (.cells #[St [], St []] 62 (0, 0)) := (hb1.block _ (by simp)).trans (World.alloc_heap_new w _)
  clear hb1
  go_wp2_with fail
  refine (HN.out _).mono ?_
  rintro e w2 ⟨rfl, hb2⟩
  have z2 : w1.heap.size < w2.heap.size := by have := hb2.size; simp at this; omega
  have hB2 : Below w.heap.size w w2 := (hB1.alloc hB1.size _).trans (hb2.mono (by simp; omega))
  have R2 : w2.heap[w.heap.size]? = some (.cells #[St [], St []] 62 (0, 0)) := (hb2.block _ (by simp; omega)).trans ((Below.heap_alloc _ _ _ (by omega)).trans R1)
  have P2 : w2.heap[w1.heap.size]? = some (.cells #[.string sn, .string sd] 62 (0, 0)) := (hb2.block _ (by simp)).trans (World.alloc_heap_new w1 _)
  have P20 : w2.cell? ⟨w1.heap.size, 0, none⟩ = some (.string sn) := by simp [World.cell?, P2]
  have P21 : w2.cell? ⟨w1.heap.size, 1, none⟩ = some (.string sd) := by simp [World.cell?, P2]
  have R20 : w2.cell? ⟨w.heap.size, 0, none⟩ = some (St []) := by simp [World.cell?, R2]
  have R21 : w2.cell? ⟨w.heap.size, 1, none⟩ = some (St []) := by simp [World.cell?, R2]
  have F20 : w2.frozen? ⟨w.heap.size, 0, none⟩ = false := by simp [World.frozen?, R2]
  have F21 : w2.frozen? ⟨w.heap.size, 1, none⟩ = false := by simp [World.frozen?, R2]
  have z3 : w.heap.size < w2.heap.size := by omega
  clear R1 hB1 hb2
  go_wp2_with fail
  refine (TP.out _).mono ?_
  rintro e w3 ⟨rfl, rfl⟩
  go_wp2_with fail
  have hb3' : Below w.heap.size w (w2.alloc (.cells #[.int .i64 0, .int .i64 0] 55)) := hB2.alloc hB2.size _
  refine (GC.out _ (HW.out.below hb3')).mono ?_
  rintro e w3 ⟨rfl, hb3⟩
  have z4 : w2.heap.size < w3.heap.size := by have := hb3.size; simp at this; omega
  have hB3 := hb3'.trans (hb3.mono (by simp; omega))
  have R3 : w3.heap[w.heap.size]? = some (.cells #[St [], St []] 62 (0, 0)) := (hb3.block _ (by simp; omega)).trans ((Below.heap_alloc _ _ _ (by omega)).trans R2)
  have P3 : w3.heap[w1.heap.size]? = some (.cells #[.string sn, .string sd] 62 (0, 0)) := (hb3.block _ (by simp; omega)).trans ((Below.heap_alloc _ _ _ (by omega)).trans P2)
  clear P20 P21 R20 R21 F20 F21
  have P20 : w3.cell? ⟨w1.heap.size, 0, none⟩ = some (.string sn) := by simp [World.cell?, P3]
  have P21 : w3.cell? ⟨w1.heap.size, 1, none⟩ = some (.string sd) := by simp [World.cell?, P3]
  have R20 : w3.cell? ⟨w.heap.size, 0, none⟩ = some (St []) := by simp [World.cell?, R3]
  have R21 : w3.cell? ⟨w.heap.size, 1, none⟩ = some (St []) := by simp [World.cell?, R3]
  have F20 : w3.frozen? ⟨w.heap.size, 0, none⟩ = false := by simp [World.frozen?, R3]
  have F21 : w3.frozen? ⟨w.heap.size, 1, none⟩ = false := by simp [World.frozen?, R3]
  have z5 : w.heap.size < w3.heap.size := by omega
  clear R2 P2 R3 P3 hb3 hb3' hB2
  go_wp2_with fail
  refine bodyPost_ret (v := .tuple #[.agg #[.string sn, .string sd], .int .i64 0]) (by simp [results, Tryz.results54, go_sem, R20, R21, z5]) rfl ⟨rfl, ?_⟩
  repeat (first | exact hB3 | exact Below.refl _ _ | refine Below.alloc ?_ (by simp [World.setCell, World.drewN] <;> omega) _ | refine Below_drewN ?_ _ | refine Below.setCell ?_ (by simp) _)

/-- rational.read at a numeral. -/
theorem read_ok (q : Rat) (h : okQ q) (w : World) (hw : Wd w) :
    Calls Tryz.prog 54 #[St (numS q)] w fun e w' => e = .returned (.tuple #[.agg #[St (itoa q.num), St (decDigits q.den)], .int .i64 0]) ∧ Below w.heap.size w w' := by
  by_cases hs : shortQ q
  · exact read_short q hs w hw
  · by_cases hd : q.den = 1
    · exact read_long_int q hs h hd (Nat.le_trans h.1 (by omega)) (Nat.le_trans h.2 (by omega)) w hw
    · exact read_long_frac q hs h hd (Nat.le_trans h.1 (by omega)) (Nat.le_trans h.2 (by omega)) w hw
theorem rread_big (q : Rat) (h : ¬ okQ q) (hl : digs q.num ≤ 800000) (hl2 : (decDigits q.den).length ≤ 800000) (w : World) (hw : Wd w) :
    Calls Tryz.prog 54 #[St (numS q)] w fun e w' => e = .returned (.tuple #[.agg #[St [], St []], .int .i64 4]) ∧ Below w.heap.size w w' := by
  have hs : ¬ shortQ q := fun hs => h (okQ_short hs)
  by_cases h1 : digs q.num ≤ 300
  · have h2 : 300 < (decDigits q.den).length := by
      rcases Nat.lt_or_ge 300 (decDigits q.den).length with h' | h'
      · exact h'
      · exact absurd ⟨h1, h'⟩ h
    exact read_big_den q hs h1 h2 hl hl2 w hw
  · exact read_big_num q hs (by omega) hl hl2 w hw

set_option maxHeartbeats 1000000 in
/-- rational.Check at a numeral. -/
theorem check_ok (q : Rat) (h : okQ q) (w : World) (hw : Wd w) :
    Calls Tryz.prog 65 #[St (numS q)] w fun e w' => e = .returned (.int .i64 0) ∧ Below w.heap.size w w' := by
  have hc := fun W hW => read_ok q h W hW
  generalize numS q = s at hc ⊢
  have HC := Lib.hid hc; clear hc h
  go_enter Tryz.func65, Tryz.ntmps65
  go_wp2_with fail
  refine (HC.out _ hw).mono ?_
  rintro e w1 ⟨rfl, hb1⟩
  go_wp2_with fail
  go_ret
  exact ⟨rfl, hb1.alloc hb1.size _⟩
end Go.Proofs.YtapfekcbbhhieaaGreatDoor

namespace Go.Proofs.YtapfekcbbhhieaaGreatDoor
open Go.RowKit Go.Shelf Lib Str Limb
attribute [local go_sem] Oper.semAt_some

theorem cat_minus (a : List UInt8) : Value.string ((⟨#[45]⟩ : ByteArray) ++ (⟨a.toArray⟩ : ByteArray)) = St (45 :: a) := by
  congr 1

set_option maxHeartbeats 1000000 in
/-- rational.opposite. -/
theorem opposite_any (x : Int) (hx : digs x ≤ 800000) (w : World) :
    Calls Tryz.prog 49 #[St (itoa x)] w fun e w' => e = .returned (St (itoa (-x))) ∧ Below w.heap.size w w' := by
  obtain ⟨s, hs⟩ : ∃ s : ByteArray, s = ⟨(itoa x).toArray⟩ := ⟨_, rfl⟩
  obtain ⟨own, hown⟩ : ∃ s : ByteArray, s = ⟨(decDigits x.natAbs).toArray⟩ := ⟨_, rfl⟩
  have hcp : ∀ W : World, Calls Tryz.prog 90 #[.string s, .string ⟨#[45]⟩] W fun e w' => e = .returned (.tuple #[.string own, .bool (decide (x < 0))]) ∧ w' = W := by
    intro W
    have := Tryz.strings_CutPrefix s ⟨#[45]⟩ W
    rw [show s.data.toList = itoa x from by rw [hs], show (⟨#[45]⟩ : ByteArray).data.toList = [45] from rfl, trimPrefix_itoa, hasPrefix_itoa] at this
    rw [hown]; exact this
  have z : s.size ≤ 800001 := by
    rw [hs]; show (itoa x).toArray.size ≤ _
    have := itoa_len_hi x
    simp; omega
  have HCP := Lib.hid hcp
  rw [show St (itoa x) = .string s from by rw [hs]]
  rcases Int.lt_trichotomy x 0 with hn | h0 | hp
  · have ho : St (itoa (-x)) = .string own := by rw [hown, show -x = ((x.natAbs : Nat) : Int) from by omega, Str.itoa_nonneg]
    have ht : (s.toList == [48]) = false := by
      rw [beq_eq_false_iff_ne, toList_of hs]; intro e
      have := itoa_inj (e.trans itoa_zero.symm); omega
    rw [ho]
    rw [decide_eq_true hn] at hcp
    have HCP := Lib.hid hcp
    clear ho hs hown hcp hn hx
    go_enter Tryz.func49, Tryz.ntmps49
    go_wp2_with fail
    refine (HCP.out _).mono ?_
    rintro e w1 ⟨rfl, rfl⟩
    go_wp2_with fail
    go_ret
    exact ⟨rfl, Below.refl _ _⟩
  · subst h0
    have ht : (s.toList == [48]) = true := by rw [toList_of hs, itoa_zero]; rfl
    rw [show -(0 : Int) = 0 from rfl, show St (itoa 0) = .string s from by rw [hs]]
    clear hs hown hcp hx
    go_enter Tryz.func49, Tryz.ntmps49
    go_wp2_with fail
    go_ret
    exact ⟨rfl, Below.refl _ _⟩
  · have ho : St (itoa (-x)) = .string ((⟨#[45]⟩ : ByteArray) ++ s) := by
      rw [hs, cat_minus, show x = ((x.natAbs : Nat) : Int) from by omega, Str.itoa_neg _ (by omega), Str.itoa_nonneg]
    have ht : (s.toList == [48]) = false := by
      rw [beq_eq_false_iff_ne, toList_of hs]; intro e
      have := itoa_inj (e.trans itoa_zero.symm); omega
    rw [ho]
    rw [decide_eq_false (by omega)] at hcp
    have HCP := Lib.hid hcp
    clear ho hs hown hcp hp hx
    go_enter Tryz.func49, Tryz.ntmps49
    go_wp2_with fail
    refine (HCP.out _).mono ?_
    rintro e w1 ⟨rfl, rfl⟩
    go_wp2_with fail
    go_ret
    exact ⟨rfl, Below.refl _ _⟩

set_option maxRecDepth 100000 in
set_option maxHeartbeats 1000000 in
theorem number_w011 (a b sg : ByteArray) (hp : ∀ W : World, Calls Tryz.prog 48 #[.string b, .string ⟨#[45]⟩] W fun e w' => e = .returned (.bool false) ∧ w' = W)
    (gc : ∀ W : World, Wd W → Calls Tryz.prog 50 #[.string a, .string b] W fun e w' => e = .returned (.tuple #[.string sg, .int .i64 0]) ∧ Below W.heap.size W w')
    (g1 : (sg.toList == [49]) = true)
    (d1 : (b.toList == [49]) = true)
    (w : World) (hw : Wd w) :
    Calls Tryz.prog 20 #[.string a, .string b] w fun e w' => e = .returned (.tuple #[.string a, .int .i64 0]) ∧ Below w.heap.size w w' := by
  have HP := Lib.hid hp; have GC := Lib.hid gc; have HW := Lib.hid hw
  clear hp gc hw
  have hB0 := Below.refl w.heap.size w
  go_enter Tryz.func20, Tryz.ntmps20
  go_wp2_with fail
  refine (HP.out _).mono ?_
  rintro e w0 ⟨rfl, rfl⟩
  go_wp2_with fail
  refine (GC.out _ (HW.out.below hB0)).mono ?_
  rintro e w1 ⟨rfl, hb1⟩
  have hB1 := hB0.trans (hb1.mono hB0.size)
  clear hb1
  go_wp2_with fail
  go_ret2
  exact ⟨rfl, hB1⟩

set_option maxRecDepth 100000 in
set_option maxHeartbeats 1000000 in
theorem number_w010 (a b sg : ByteArray) (hp : ∀ W : World, Calls Tryz.prog 48 #[.string b, .string ⟨#[45]⟩] W fun e w' => e = .returned (.bool false) ∧ w' = W)
    (gc : ∀ W : World, Wd W → Calls Tryz.prog 50 #[.string a, .string b] W fun e w' => e = .returned (.tuple #[.string sg, .int .i64 0]) ∧ Below W.heap.size W w')
    (g1 : (sg.toList == [49]) = true)
    (d1 : (b.toList == [49]) = false) (z1 : a.size ≤ 400) (z2 : b.size ≤ 400)
    (w : World) (hw : Wd w) :
    Calls Tryz.prog 20 #[.string a, .string b] w fun e w' => e = .returned (.tuple #[.string (a ++ ⟨#[47]⟩ ++ b), .int .i64 0]) ∧ Below w.heap.size w w' := by
  have HP := Lib.hid hp; have GC := Lib.hid gc; have HW := Lib.hid hw
  clear hp gc hw
  have hB0 := Below.refl w.heap.size w
  go_enter Tryz.func20, Tryz.ntmps20
  go_wp2_with fail
  refine (HP.out _).mono ?_
  rintro e w0 ⟨rfl, rfl⟩
  go_wp2_with fail
  refine (GC.out _ (HW.out.below hB0)).mono ?_
  rintro e w1 ⟨rfl, hb1⟩
  have hB1 := hB0.trans (hb1.mono hB0.size)
  clear hb1
  go_wp2_with fail
  go_ret2
  exact ⟨rfl, hB1⟩

set_option maxRecDepth 100000 in
set_option maxHeartbeats 1000000 in
theorem number_w001 (a b sg sqn sqd : ByteArray) (hp : ∀ W : World, Calls Tryz.prog 48 #[.string b, .string ⟨#[45]⟩] W fun e w' => e = .returned (.bool false) ∧ w' = W)
    (gc : ∀ W : World, Wd W → Calls Tryz.prog 50 #[.string a, .string b] W fun e w' => e = .returned (.tuple #[.string sg, .int .i64 0]) ∧ Below W.heap.size W w')
    (g1 : (sg.toList == [49]) = false)
    (dvn : ∀ W : World, Wd W → Calls Tryz.prog 51 #[.string a, .string sg] W fun e w' => e = .returned (.tuple #[.string sqn, St [48], .int .i64 0]) ∧ Below W.heap.size W w')
    (dvd : ∀ W : World, Wd W → Calls Tryz.prog 51 #[.string b, .string sg] W fun e w' => e = .returned (.tuple #[.string sqd, St [48], .int .i64 0]) ∧ Below W.heap.size W w')
    (d1 : (sqd.toList == [49]) = true)
    (w : World) (hw : Wd w) :
    Calls Tryz.prog 20 #[.string a, .string b] w fun e w' => e = .returned (.tuple #[.string sqn, .int .i64 0]) ∧ Below w.heap.size w w' := by
  have HP := Lib.hid hp; have GC := Lib.hid gc; have HW := Lib.hid hw; have DVN := Lib.hid dvn; have DVD := Lib.hid dvd
  clear hp gc dvn dvd hw
  have hB0 := Below.refl w.heap.size w
  go_enter Tryz.func20, Tryz.ntmps20
  go_wp2_with fail
  refine (HP.out _).mono ?_
  rintro e w0 ⟨rfl, rfl⟩
  go_wp2_with fail
  refine (GC.out _ (HW.out.below hB0)).mono ?_
  rintro e w1 ⟨rfl, hb1⟩
  have hB1 := hB0.trans (hb1.mono hB0.size)
  clear hb1
  go_wp2_with fail
  refine (DVN.out _ (HW.out.below hB1)).mono ?_
  rintro e w2 ⟨rfl, hb2⟩
  have hB2 := hB1.trans (hb2.mono hB1.size)
  clear hb2
  go_wp2_with fail
  refine (DVD.out _ (HW.out.below hB2)).mono ?_
  rintro e w3 ⟨rfl, hb3⟩
  have hB3 := hB2.trans (hb3.mono hB2.size)
  clear hb3
  go_wp2_with fail
  go_ret2
  exact ⟨rfl, hB3⟩

set_option maxRecDepth 100000 in
set_option maxHeartbeats 1000000 in
theorem number_w000 (a b sg sqn sqd : ByteArray) (hp : ∀ W : World, Calls Tryz.prog 48 #[.string b, .string ⟨#[45]⟩] W fun e w' => e = .returned (.bool false) ∧ w' = W)
    (gc : ∀ W : World, Wd W → Calls Tryz.prog 50 #[.string a, .string b] W fun e w' => e = .returned (.tuple #[.string sg, .int .i64 0]) ∧ Below W.heap.size W w')
    (g1 : (sg.toList == [49]) = false)
    (dvn : ∀ W : World, Wd W → Calls Tryz.prog 51 #[.string a, .string sg] W fun e w' => e = .returned (.tuple #[.string sqn, St [48], .int .i64 0]) ∧ Below W.heap.size W w')
    (dvd : ∀ W : World, Wd W → Calls Tryz.prog 51 #[.string b, .string sg] W fun e w' => e = .returned (.tuple #[.string sqd, St [48], .int .i64 0]) ∧ Below W.heap.size W w')
    (d1 : (sqd.toList == [49]) = false) (z1 : sqn.size ≤ 400) (z2 : sqd.size ≤ 400)
    (w : World) (hw : Wd w) :
    Calls Tryz.prog 20 #[.string a, .string b] w fun e w' => e = .returned (.tuple #[.string (sqn ++ ⟨#[47]⟩ ++ sqd), .int .i64 0]) ∧ Below w.heap.size w w' := by
  have HP := Lib.hid hp; have GC := Lib.hid gc; have HW := Lib.hid hw; have DVN := Lib.hid dvn; have DVD := Lib.hid dvd
  clear hp gc dvn dvd hw
  have hB0 := Below.refl w.heap.size w
  go_enter Tryz.func20, Tryz.ntmps20
  go_wp2_with fail
  refine (HP.out _).mono ?_
  rintro e w0 ⟨rfl, rfl⟩
  go_wp2_with fail
  refine (GC.out _ (HW.out.below hB0)).mono ?_
  rintro e w1 ⟨rfl, hb1⟩
  have hB1 := hB0.trans (hb1.mono hB0.size)
  clear hb1
  go_wp2_with fail
  refine (DVN.out _ (HW.out.below hB1)).mono ?_
  rintro e w2 ⟨rfl, hb2⟩
  have hB2 := hB1.trans (hb2.mono hB1.size)
  clear hb2
  go_wp2_with fail
  refine (DVD.out _ (HW.out.below hB2)).mono ?_
  rintro e w3 ⟨rfl, hb3⟩
  have hB3 := hB2.trans (hb3.mono hB2.size)
  clear hb3
  go_wp2_with fail
  go_ret2
  exact ⟨rfl, hB3⟩

set_option maxRecDepth 100000 in
set_option maxHeartbeats 1000000 in
theorem number_w111 (a b sx sy sg : ByteArray) (hp : ∀ W : World, Calls Tryz.prog 48 #[.string b, .string ⟨#[45]⟩] W fun e w' => e = .returned (.bool true) ∧ w' = W)
    (opx : ∀ W : World, Wd W → Calls Tryz.prog 49 #[.string a] W fun e w' => e = .returned (.string sx) ∧ Below W.heap.size W w')
    (opy : ∀ W : World, Wd W → Calls Tryz.prog 49 #[.string b] W fun e w' => e = .returned (.string sy) ∧ Below W.heap.size W w')
    (gc : ∀ W : World, Wd W → Calls Tryz.prog 50 #[.string sx, .string sy] W fun e w' => e = .returned (.tuple #[.string sg, .int .i64 0]) ∧ Below W.heap.size W w')
    (g1 : (sg.toList == [49]) = true)
    (d1 : (sy.toList == [49]) = true)
    (w : World) (hw : Wd w) :
    Calls Tryz.prog 20 #[.string a, .string b] w fun e w' => e = .returned (.tuple #[.string sx, .int .i64 0]) ∧ Below w.heap.size w w' := by
  have HP := Lib.hid hp; have GC := Lib.hid gc; have HW := Lib.hid hw; have OPX := Lib.hid opx; have OPY := Lib.hid opy
  clear hp gc opx opy hw
  have hB0 := Below.refl w.heap.size w
  go_enter Tryz.func20, Tryz.ntmps20
  go_wp2_with fail
  refine (HP.out _).mono ?_
  rintro e w0 ⟨rfl, rfl⟩
  go_wp2_with fail
  refine (OPX.out _ (HW.out.below hB0)).mono ?_
  rintro e w1 ⟨rfl, hb1⟩
  have hB1 := hB0.trans (hb1.mono hB0.size)
  clear hb1
  go_wp2_with fail
  refine (OPY.out _ (HW.out.below hB1)).mono ?_
  rintro e w2 ⟨rfl, hb2⟩
  have hB2 := hB1.trans (hb2.mono hB1.size)
  clear hb2
  go_wp2_with fail
  refine (GC.out _ (HW.out.below hB2)).mono ?_
  rintro e w3 ⟨rfl, hb3⟩
  have hB3 := hB2.trans (hb3.mono hB2.size)
  clear hb3
  go_wp2_with fail
  go_ret2
  exact ⟨rfl, hB3⟩

set_option maxRecDepth 100000 in
set_option maxHeartbeats 1000000 in
theorem number_w110 (a b sx sy sg : ByteArray) (hp : ∀ W : World, Calls Tryz.prog 48 #[.string b, .string ⟨#[45]⟩] W fun e w' => e = .returned (.bool true) ∧ w' = W)
    (opx : ∀ W : World, Wd W → Calls Tryz.prog 49 #[.string a] W fun e w' => e = .returned (.string sx) ∧ Below W.heap.size W w')
    (opy : ∀ W : World, Wd W → Calls Tryz.prog 49 #[.string b] W fun e w' => e = .returned (.string sy) ∧ Below W.heap.size W w')
    (gc : ∀ W : World, Wd W → Calls Tryz.prog 50 #[.string sx, .string sy] W fun e w' => e = .returned (.tuple #[.string sg, .int .i64 0]) ∧ Below W.heap.size W w')
    (g1 : (sg.toList == [49]) = true)
    (d1 : (sy.toList == [49]) = false) (z1 : sx.size ≤ 400) (z2 : sy.size ≤ 400)
    (w : World) (hw : Wd w) :
    Calls Tryz.prog 20 #[.string a, .string b] w fun e w' => e = .returned (.tuple #[.string (sx ++ ⟨#[47]⟩ ++ sy), .int .i64 0]) ∧ Below w.heap.size w w' := by
  have HP := Lib.hid hp; have GC := Lib.hid gc; have HW := Lib.hid hw; have OPX := Lib.hid opx; have OPY := Lib.hid opy
  clear hp gc opx opy hw
  have hB0 := Below.refl w.heap.size w
  go_enter Tryz.func20, Tryz.ntmps20
  go_wp2_with fail
  refine (HP.out _).mono ?_
  rintro e w0 ⟨rfl, rfl⟩
  go_wp2_with fail
  refine (OPX.out _ (HW.out.below hB0)).mono ?_
  rintro e w1 ⟨rfl, hb1⟩
  have hB1 := hB0.trans (hb1.mono hB0.size)
  clear hb1
  go_wp2_with fail
  refine (OPY.out _ (HW.out.below hB1)).mono ?_
  rintro e w2 ⟨rfl, hb2⟩
  have hB2 := hB1.trans (hb2.mono hB1.size)
  clear hb2
  go_wp2_with fail
  refine (GC.out _ (HW.out.below hB2)).mono ?_
  rintro e w3 ⟨rfl, hb3⟩
  have hB3 := hB2.trans (hb3.mono hB2.size)
  clear hb3
  go_wp2_with fail
  go_ret2
  exact ⟨rfl, hB3⟩

set_option maxRecDepth 100000 in
set_option maxHeartbeats 1000000 in
theorem number_w101 (a b sx sy sg sqn sqd : ByteArray) (hp : ∀ W : World, Calls Tryz.prog 48 #[.string b, .string ⟨#[45]⟩] W fun e w' => e = .returned (.bool true) ∧ w' = W)
    (opx : ∀ W : World, Wd W → Calls Tryz.prog 49 #[.string a] W fun e w' => e = .returned (.string sx) ∧ Below W.heap.size W w')
    (opy : ∀ W : World, Wd W → Calls Tryz.prog 49 #[.string b] W fun e w' => e = .returned (.string sy) ∧ Below W.heap.size W w')
    (gc : ∀ W : World, Wd W → Calls Tryz.prog 50 #[.string sx, .string sy] W fun e w' => e = .returned (.tuple #[.string sg, .int .i64 0]) ∧ Below W.heap.size W w')
    (g1 : (sg.toList == [49]) = false)
    (dvn : ∀ W : World, Wd W → Calls Tryz.prog 51 #[.string sx, .string sg] W fun e w' => e = .returned (.tuple #[.string sqn, St [48], .int .i64 0]) ∧ Below W.heap.size W w')
    (dvd : ∀ W : World, Wd W → Calls Tryz.prog 51 #[.string sy, .string sg] W fun e w' => e = .returned (.tuple #[.string sqd, St [48], .int .i64 0]) ∧ Below W.heap.size W w')
    (d1 : (sqd.toList == [49]) = true)
    (w : World) (hw : Wd w) :
    Calls Tryz.prog 20 #[.string a, .string b] w fun e w' => e = .returned (.tuple #[.string sqn, .int .i64 0]) ∧ Below w.heap.size w w' := by
  have HP := Lib.hid hp; have GC := Lib.hid gc; have HW := Lib.hid hw; have OPX := Lib.hid opx; have OPY := Lib.hid opy; have DVN := Lib.hid dvn; have DVD := Lib.hid dvd
  clear hp gc opx opy dvn dvd hw
  have hB0 := Below.refl w.heap.size w
  go_enter Tryz.func20, Tryz.ntmps20
  go_wp2_with fail
  refine (HP.out _).mono ?_
  rintro e w0 ⟨rfl, rfl⟩
  go_wp2_with fail
  refine (OPX.out _ (HW.out.below hB0)).mono ?_
  rintro e w1 ⟨rfl, hb1⟩
  have hB1 := hB0.trans (hb1.mono hB0.size)
  clear hb1
  go_wp2_with fail
  refine (OPY.out _ (HW.out.below hB1)).mono ?_
  rintro e w2 ⟨rfl, hb2⟩
  have hB2 := hB1.trans (hb2.mono hB1.size)
  clear hb2
  go_wp2_with fail
  refine (GC.out _ (HW.out.below hB2)).mono ?_
  rintro e w3 ⟨rfl, hb3⟩
  have hB3 := hB2.trans (hb3.mono hB2.size)
  clear hb3
  go_wp2_with fail
  refine (DVN.out _ (HW.out.below hB3)).mono ?_
  rintro e w4 ⟨rfl, hb4⟩
  have hB4 := hB3.trans (hb4.mono hB3.size)
  clear hb4
  go_wp2_with fail
  refine (DVD.out _ (HW.out.below hB4)).mono ?_
  rintro e w5 ⟨rfl, hb5⟩
  have hB5 := hB4.trans (hb5.mono hB4.size)
  clear hb5
  go_wp2_with fail
  go_ret2
  exact ⟨rfl, hB5⟩

set_option maxRecDepth 100000 in
set_option maxHeartbeats 1000000 in
theorem number_w100 (a b sx sy sg sqn sqd : ByteArray) (hp : ∀ W : World, Calls Tryz.prog 48 #[.string b, .string ⟨#[45]⟩] W fun e w' => e = .returned (.bool true) ∧ w' = W)
    (opx : ∀ W : World, Wd W → Calls Tryz.prog 49 #[.string a] W fun e w' => e = .returned (.string sx) ∧ Below W.heap.size W w')
    (opy : ∀ W : World, Wd W → Calls Tryz.prog 49 #[.string b] W fun e w' => e = .returned (.string sy) ∧ Below W.heap.size W w')
    (gc : ∀ W : World, Wd W → Calls Tryz.prog 50 #[.string sx, .string sy] W fun e w' => e = .returned (.tuple #[.string sg, .int .i64 0]) ∧ Below W.heap.size W w')
    (g1 : (sg.toList == [49]) = false)
    (dvn : ∀ W : World, Wd W → Calls Tryz.prog 51 #[.string sx, .string sg] W fun e w' => e = .returned (.tuple #[.string sqn, St [48], .int .i64 0]) ∧ Below W.heap.size W w')
    (dvd : ∀ W : World, Wd W → Calls Tryz.prog 51 #[.string sy, .string sg] W fun e w' => e = .returned (.tuple #[.string sqd, St [48], .int .i64 0]) ∧ Below W.heap.size W w')
    (d1 : (sqd.toList == [49]) = false) (z1 : sqn.size ≤ 400) (z2 : sqd.size ≤ 400)
    (w : World) (hw : Wd w) :
    Calls Tryz.prog 20 #[.string a, .string b] w fun e w' => e = .returned (.tuple #[.string (sqn ++ ⟨#[47]⟩ ++ sqd), .int .i64 0]) ∧ Below w.heap.size w w' := by
  have HP := Lib.hid hp; have GC := Lib.hid gc; have HW := Lib.hid hw; have OPX := Lib.hid opx; have OPY := Lib.hid opy; have DVN := Lib.hid dvn; have DVD := Lib.hid dvd
  clear hp gc opx opy dvn dvd hw
  have hB0 := Below.refl w.heap.size w
  go_enter Tryz.func20, Tryz.ntmps20
  go_wp2_with fail
  refine (HP.out _).mono ?_
  rintro e w0 ⟨rfl, rfl⟩
  go_wp2_with fail
  refine (OPX.out _ (HW.out.below hB0)).mono ?_
  rintro e w1 ⟨rfl, hb1⟩
  have hB1 := hB0.trans (hb1.mono hB0.size)
  clear hb1
  go_wp2_with fail
  refine (OPY.out _ (HW.out.below hB1)).mono ?_
  rintro e w2 ⟨rfl, hb2⟩
  have hB2 := hB1.trans (hb2.mono hB1.size)
  clear hb2
  go_wp2_with fail
  refine (GC.out _ (HW.out.below hB2)).mono ?_
  rintro e w3 ⟨rfl, hb3⟩
  have hB3 := hB2.trans (hb3.mono hB2.size)
  clear hb3
  go_wp2_with fail
  refine (DVN.out _ (HW.out.below hB3)).mono ?_
  rintro e w4 ⟨rfl, hb4⟩
  have hB4 := hB3.trans (hb4.mono hB3.size)
  clear hb4
  go_wp2_with fail
  refine (DVD.out _ (HW.out.below hB4)).mono ?_
  rintro e w5 ⟨rfl, hb5⟩
  have hB5 := hB4.trans (hb5.mono hB4.size)
  clear hb5
  go_wp2_with fail
  go_ret2
  exact ⟨rfl, hB5⟩


theorem bytes_of {l : List UInt8} {s : ByteArray} (h : s = ⟨l.toArray⟩) : St l = .string s := by rw [h]
theorem itoa_beq {n : Int} {s : ByteArray} (hs : s = ⟨(itoa n).toArray⟩) (b : Bool) (h : (n = 1) ↔ b = true) : (s.toList == [49]) = b := by
  rw [toList_of hs]
  cases b with
  | true => rw [beq_iff_eq, h.2 rfl, itoa_one]
  | false => rw [beq_eq_false_iff_ne]; intro e; exact absurd (h.1 (itoa_inj (e.trans itoa_one.symm))) (by simp)
theorem digs_le_of {x y : Int} (h : x.natAbs ≤ y.natAbs) : digs x ≤ digs y := by
  unfold digs
  have hy := (dec_len_le_iff y.natAbs (digs y) (digs_pos y)).1 (Nat.le_refl _)
  exact (dec_len_le_iff x.natAbs (digs y) (digs_pos y)).2 (Nat.lt_of_le_of_lt h hy)

set_option maxHeartbeats 1000000 in
/-- rational.number. -/
theorem rnumber_any (x y : Int) (hy : y ≠ 0) (hx3 : digs x ≤ 300) (hy3 : digs y ≤ 300) (w : World) (hw : Wd w) :
    Calls Tryz.prog 20 #[St (itoa x), St (itoa y)] w fun e w' => e = .returned (.tuple #[St (numS (Rat.divInt x y)), .int .i64 0]) ∧ Below w.heap.size w w' := by
  have key : ∀ X Y : Int, 0 < Y → Rat.divInt X Y = Rat.divInt x y → digs X ≤ 300 → digs Y ≤ 300 → (∀ (sx sy : ByteArray) (_ : sx = ⟨(itoa X).toArray⟩) (_ : sy = ⟨(itoa Y).toArray⟩) (sg sqn sqd : ByteArray)
      (_ : ∀ W : World, Wd W → Calls Tryz.prog 50 #[.string sx, .string sy] W fun e w' => e = .returned (.tuple #[.string sg, .int .i64 0]) ∧ Below W.heap.size W w')
      (res : ByteArray) (_ : St (numS (Rat.divInt x y)) = .string res)
      (_ : ((sg.toList == [49]) = true ∧ (sy.toList == [49]) = true ∧ res = sx) ∨ ((sg.toList == [49]) = true ∧ (sy.toList == [49]) = false ∧ sx.size ≤ 400 ∧ sy.size ≤ 400 ∧ res = sx ++ ⟨#[47]⟩ ++ sy) ∨
        ((sg.toList == [49]) = false ∧ (∀ W : World, Wd W → Calls Tryz.prog 51 #[.string sx, .string sg] W fun e w' => e = .returned (.tuple #[.string sqn, St [48], .int .i64 0]) ∧ Below W.heap.size W w') ∧
          (∀ W : World, Wd W → Calls Tryz.prog 51 #[.string sy, .string sg] W fun e w' => e = .returned (.tuple #[.string sqd, St [48], .int .i64 0]) ∧ Below W.heap.size W w') ∧
          (((sqd.toList == [49]) = true ∧ res = sqn) ∨ ((sqd.toList == [49]) = false ∧ sqn.size ≤ 400 ∧ sqd.size ≤ 400 ∧ res = sqn ++ ⟨#[47]⟩ ++ sqd)))),
      Calls Tryz.prog 20 #[St (itoa x), St (itoa y)] w fun e w' => e = .returned (.tuple #[.string res, .int .i64 0]) ∧ Below w.heap.size w w') →
      Calls Tryz.prog 20 #[St (itoa x), St (itoa y)] w fun e w' => e = .returned (.tuple #[St (numS (Rat.divInt x y)), .int .i64 0]) ∧ Below w.heap.size w w' := by
    intro X Y hY hXY hX3 hY3 H
    obtain ⟨g, hg⟩ : ∃ g : Nat, g = Int.gcd X Y := ⟨_, rfl⟩
    have hg0 : 0 < g := by rw [hg]; exact Int.gcd_pos_of_ne_zero_right _ (by omega)
    have hgX : (g : Int) ∣ X := by rw [hg]; exact Int.gcd_dvd_left _ _
    have hgY : (g : Int) ∣ Y := by rw [hg]; exact Int.gcd_dvd_right _ _
    have hm := numS_make X Y hY
    rw [hXY, ← hg] at hm
    have hXe : X = X / (g : Int) * g := (Int.ediv_mul_cancel hgX).symm
    have hYe : Y = Y / (g : Int) * g := (Int.ediv_mul_cancel hgY).symm
    have hqn3 : digs (X / (g : Int)) ≤ 300 := Nat.le_trans (digs_le_of (by rw [Int.natAbs_ediv_of_dvd hgX]; exact Nat.div_le_self _ _)) hX3
    have hqd3 : digs (Y / (g : Int)) ≤ 300 := Nat.le_trans (digs_le_of (by rw [Int.natAbs_ediv_of_dvd hgY]; exact Nat.div_le_self _ _)) hY3
    have hg3 : digs (g : Int) ≤ 300 := Nat.le_trans (digs_le_of (by have := Int.le_of_dvd hY hgY; omega)) hY3
    have hsz : ∀ (z : Int) (s : ByteArray), s = ⟨(itoa z).toArray⟩ → digs z ≤ 300 → s.size ≤ 400 := by
      intro z s hs hz
      have h1 := itoa_len_hi z
      have : s.size = (itoa z).length := by rw [hs]; exact List.size_toArray
      omega
    obtain ⟨sx, hsx⟩ : ∃ s : ByteArray, s = ⟨(itoa X).toArray⟩ := ⟨_, rfl⟩
    obtain ⟨sy, hsy⟩ : ∃ s : ByteArray, s = ⟨(itoa Y).toArray⟩ := ⟨_, rfl⟩
    obtain ⟨sg, hsg⟩ : ∃ s : ByteArray, s = ⟨(itoa (g : Int)).toArray⟩ := ⟨_, rfl⟩
    obtain ⟨sqn, hsqn⟩ : ∃ s : ByteArray, s = ⟨(itoa (X / (g : Int))).toArray⟩ := ⟨_, rfl⟩
    obtain ⟨sqd, hsqd⟩ : ∃ s : ByteArray, s = ⟨(itoa (Y / (g : Int))).toArray⟩ := ⟨_, rfl⟩
    have hgc : ∀ W : World, Wd W → Calls Tryz.prog 50 #[.string sx, .string sy] W fun e w' => e = .returned (.tuple #[.string sg, .int .i64 0]) ∧ Below W.heap.size W w' := by
      intro W hW
      have := Gcd_any X Y hX3 hY3 W hW
      rw [hsx, hsy, hsg, hg]; exact this
    have hdn : ∀ W : World, Wd W → Calls Tryz.prog 51 #[.string sx, .string sg] W fun e w' => e = .returned (.tuple #[.string sqn, St [48], .int .i64 0]) ∧ Below W.heap.size W w' := by
      intro W hW
      have := Divide_exact X g _ hXe (by omega) hX3 hg3 W hW
      rw [hsx, hsg, hsqn]; exact this
    have hdd : ∀ W : World, Wd W → Calls Tryz.prog 51 #[.string sy, .string sg] W fun e w' => e = .returned (.tuple #[.string sqd, St [48], .int .i64 0]) ∧ Below W.heap.size W w' := by
      intro W hW
      have := Divide_exact Y g _ hYe (by omega) hY3 hg3 W hW
      rw [hsy, hsg, hsqd]; exact this
    have hres : ∃ res : ByteArray, St (numS (Rat.divInt x y)) = .string res := ⟨_, rfl⟩
    obtain ⟨res, hr⟩ := hres
    rw [hr]
    refine H sx sy hsx hsy sg sqn sqd hgc res hr ?_
    have hsg1 := fun b h => itoa_beq hsg b h
    have hres' : ∀ r : ByteArray, Value.string r = St (numS (Rat.divInt x y)) → res = r := fun r h => by rw [hr] at h; injection h with h; exact h.symm
    by_cases hg1 : g = 1
    · have eX : X / (g : Int) = X := by rw [hg1]; exact Int.ediv_one X
      have eY : Y / (g : Int) = Y := by rw [hg1]; exact Int.ediv_one Y
      rw [eX, eY] at hm
      have h1 := hsg1 true (by simp [hg1])
      by_cases hY1 : Y = 1
      · refine .inl ⟨h1, itoa_beq hsy true (by simp [hY1]), hres' _ ?_⟩
        rw [hm, if_pos hY1, List.append_nil, hsx]
      · refine .inr (.inl ⟨h1, itoa_beq hsy false (by simp [hY1]), hsz _ _ hsx hX3, hsz _ _ hsy hY3, hres' _ ?_⟩)
        rw [hm, if_neg hY1, hsx, hsy, cat_slash]
    · refine .inr (.inr ⟨hsg1 false (by simp; omega), hdn, hdd, ?_⟩)
      by_cases hY1 : Y / (g : Int) = 1
      · refine .inl ⟨itoa_beq hsqd true (by simp [hY1]), hres' _ ?_⟩
        rw [hm, if_pos hY1, List.append_nil, hsqn]
      · refine .inr ⟨itoa_beq hsqd false (by simp [hY1]), hsz _ _ hsqn hqn3, hsz _ _ hsqd hqd3, hres' _ ?_⟩
        rw [hm, if_neg hY1, hsqn, hsqd, cat_slash]
  have hhp : ∀ (b : ByteArray) (_ : b = ⟨(itoa y).toArray⟩) (W : World), Calls Tryz.prog 48 #[.string b, .string ⟨#[45]⟩] W fun e w' => e = .returned (.bool (decide (y < 0))) ∧ w' = W := by
    intro b hb W
    have := Tryz.strings_HasPrefix b ⟨#[45]⟩ W
    rw [show b.data.toList = itoa y from by rw [hb], show (⟨#[45]⟩ : ByteArray).data.toList = [45] from rfl, hasPrefix_itoa] at this
    exact this
  rcases Int.lt_or_lt_of_ne hy with hn | hp
  · refine key (-x) (-y) (by omega) ?_ (by unfold digs at *; rw [Int.natAbs_neg]; exact hx3) (by unfold digs at *; rw [Int.natAbs_neg]; exact hy3) ?_
    · rw [divInt_neg_neg x y hn, show -y = ((y.natAbs : Nat) : Int) from by omega]
    intro sx sy hsx hsy sg sqn sqd gc res hr h
    obtain ⟨a, ha⟩ : ∃ s : ByteArray, s = ⟨(itoa x).toArray⟩ := ⟨_, rfl⟩
    obtain ⟨b, hb⟩ : ∃ s : ByteArray, s = ⟨(itoa y).toArray⟩ := ⟨_, rfl⟩
    rw [bytes_of ha, bytes_of hb]
    have hp := hhp b hb
    rw [decide_eq_true hn] at hp
    have opx : ∀ W : World, Wd W → Calls Tryz.prog 49 #[.string a] W fun e w' => e = .returned (.string sx) ∧ Below W.heap.size W w' := by
      intro W _; rw [ha, hsx]; exact opposite_any x (by omega) W
    have opy : ∀ W : World, Wd W → Calls Tryz.prog 49 #[.string b] W fun e w' => e = .returned (.string sy) ∧ Below W.heap.size W w' := by
      intro W _; rw [hb, hsy]; exact opposite_any y (by omega) W
    rcases h with ⟨h1, h2, rfl⟩ | ⟨h1, h2, h3, h4, rfl⟩ | ⟨h1, h2, h3, ⟨h4, rfl⟩ | ⟨h4, h5, h6, rfl⟩⟩
    · exact number_w111 a b _ sy sg hp opx opy gc h1 h2 w hw
    · exact number_w110 a b sx sy sg hp opx opy gc h1 h2 h3 h4 w hw
    · exact number_w101 a b sx sy sg _ sqd hp opx opy gc h1 h2 h3 h4 w hw
    · exact number_w100 a b sx sy sg sqn sqd hp opx opy gc h1 h2 h3 h4 h5 h6 w hw
  · refine key x y hp rfl hx3 hy3 ?_
    intro sx sy hsx hsy sg sqn sqd gc res hr h
    rw [bytes_of hsx, bytes_of hsy]
    have hp' := hhp sy hsy
    rw [decide_eq_false (by omega)] at hp'
    rcases h with ⟨h1, h2, rfl⟩ | ⟨h1, h2, h3, h4, rfl⟩ | ⟨h1, h2, h3, ⟨h4, rfl⟩ | ⟨h4, h5, h6, rfl⟩⟩
    · exact number_w011 _ sy sg hp' gc h1 h2 w hw
    · exact number_w010 sx sy sg hp' gc h1 h2 h3 h4 w hw
    · exact number_w001 sx sy sg _ sqd hp' gc h1 h2 h3 h4 w hw
    · exact number_w000 sx sy sg sqn sqd hp' gc h1 h2 h3 h4 h5 h6 w hw
end Go.Proofs.YtapfekcbbhhieaaGreatDoor

namespace Go.Proofs.YtapfekcbbhhieaaGreatDoor
open Go.RowKit Go.Shelf Lib Str Limb
attribute [local go_sem] Oper.semAt_some

theorem mul_near {x y : Int} (hx : -100000000 < x ∧ x < 100000000) (hy : -100000000 < y ∧ y < 100000000) : -10000000000000000 < x * y ∧ x * y < 10000000000000000 := by
  have h1 : x.natAbs ≤ 99999999 := by omega
  have h2 : y.natAbs ≤ 99999999 := by omega
  have h3 : (x * y).natAbs ≤ 99999999 * 99999999 := by rw [Int.natAbs_mul]; exact Nat.mul_le_mul h1 h2
  omega

set_option maxHeartbeats 1000000 in
theorem nadd (n1 d1 n2 d2 : Int) (a1 : -100000000 < n1 ∧ n1 < 100000000) (b1 : -100000000 < d1 ∧ d1 < 100000000) (a2 : -100000000 < n2 ∧ n2 < 100000000) (b2 : -100000000 < d2 ∧ d2 < 100000000) (w : World) :
    Calls Tryz.prog 29 #[.agg #[.int .i64 n1, .int .i64 d1], .agg #[.int .i64 n2, .int .i64 d2]] w fun e w' => e = .returned (.agg #[.int .i64 (n1 * d2 + n2 * d1), .int .i64 (d1 * d2)]) ∧ Below w.heap.size w w' := by
  have p0 := mul_near a1 b2
  have v0 : IntKind.i64.wrap (n1 * d2) = n1 * d2 := IntWalk.i64_in _ (by omega)
  have p1 := mul_near a2 b1
  have v1 : IntKind.i64.wrap (n2 * d1) = n2 * d1 := IntWalk.i64_in _ (by omega)
  have p2 := mul_near b1 b2
  have v2 : IntKind.i64.wrap (d1 * d2) = d1 * d2 := IntWalk.i64_in _ (by omega)
  have v3 : IntKind.i64.wrap (n1 * d2 + n2 * d1) = n1 * d2 + n2 * d1 := IntWalk.i64_in _ (by omega)
  clear p0 p1 p2
  clear a1 b1 a2 b2
  go_enter Tryz.func29, Tryz.ntmps29
  go_wp2_with fail
  refine bodyPost_ret (v := .agg #[.int .i64 (n1 * d2 + n2 * d1), .int .i64 (d1 * d2)]) (by simp [results, Tryz.results29, go_sem]) rfl ⟨rfl, ?_⟩
  repeat (first | exact Below.refl _ _ | refine Below.alloc ?_ (by simp [World.setCell, World.drewN] <;> omega) _ | refine Below_drewN ?_ _ | refine Below.setCell ?_ (by simp <;> omega) _)

set_option maxHeartbeats 1000000 in
theorem nsub (n1 d1 n2 d2 : Int) (a1 : -100000000 < n1 ∧ n1 < 100000000) (b1 : -100000000 < d1 ∧ d1 < 100000000) (a2 : -100000000 < n2 ∧ n2 < 100000000) (b2 : -100000000 < d2 ∧ d2 < 100000000) (w : World) :
    Calls Tryz.prog 22 #[.agg #[.int .i64 n1, .int .i64 d1], .agg #[.int .i64 n2, .int .i64 d2]] w fun e w' => e = .returned (.agg #[.int .i64 (n1 * d2 - n2 * d1), .int .i64 (d1 * d2)]) ∧ Below w.heap.size w w' := by
  have p0 := mul_near a1 b2
  have v0 : IntKind.i64.wrap (n1 * d2) = n1 * d2 := IntWalk.i64_in _ (by omega)
  have p1 := mul_near a2 b1
  have v1 : IntKind.i64.wrap (n2 * d1) = n2 * d1 := IntWalk.i64_in _ (by omega)
  have p2 := mul_near b1 b2
  have v2 : IntKind.i64.wrap (d1 * d2) = d1 * d2 := IntWalk.i64_in _ (by omega)
  have v3 : IntKind.i64.wrap (n1 * d2 - n2 * d1) = n1 * d2 - n2 * d1 := IntWalk.i64_in _ (by omega)
  clear p0 p1 p2
  clear a1 b1 a2 b2
  go_enter Tryz.func22, Tryz.ntmps22
  go_wp2_with fail
  refine bodyPost_ret (v := .agg #[.int .i64 (n1 * d2 - n2 * d1), .int .i64 (d1 * d2)]) (by simp [results, Tryz.results22, go_sem]) rfl ⟨rfl, ?_⟩
  repeat (first | exact Below.refl _ _ | refine Below.alloc ?_ (by simp [World.setCell, World.drewN] <;> omega) _ | refine Below_drewN ?_ _ | refine Below.setCell ?_ (by simp <;> omega) _)

set_option maxHeartbeats 1000000 in
theorem nmul (n1 d1 n2 d2 : Int) (a1 : -100000000 < n1 ∧ n1 < 100000000) (b1 : -100000000 < d1 ∧ d1 < 100000000) (a2 : -100000000 < n2 ∧ n2 < 100000000) (b2 : -100000000 < d2 ∧ d2 < 100000000) (w : World) :
    Calls Tryz.prog 26 #[.agg #[.int .i64 n1, .int .i64 d1], .agg #[.int .i64 n2, .int .i64 d2]] w fun e w' => e = .returned (.agg #[.int .i64 (n1 * n2), .int .i64 (d1 * d2)]) ∧ Below w.heap.size w w' := by
  have p0 := mul_near a1 a2
  have v0 : IntKind.i64.wrap (n1 * n2) = n1 * n2 := IntWalk.i64_in _ (by omega)
  have p1 := mul_near b1 b2
  have v1 : IntKind.i64.wrap (d1 * d2) = d1 * d2 := IntWalk.i64_in _ (by omega)
  clear p0 p1
  clear a1 b1 a2 b2
  go_enter Tryz.func26, Tryz.ntmps26
  go_wp2_with fail
  refine bodyPost_ret (v := .agg #[.int .i64 (n1 * n2), .int .i64 (d1 * d2)]) (by simp [results, Tryz.results26, go_sem]) rfl ⟨rfl, ?_⟩
  repeat (first | exact Below.refl _ _ | refine Below.alloc ?_ (by simp [World.setCell, World.drewN] <;> omega) _ | refine Below_drewN ?_ _ | refine Below.setCell ?_ (by simp <;> omega) _)

set_option maxHeartbeats 1000000 in
theorem ndiv (n1 d1 n2 d2 : Int) (a1 : -100000000 < n1 ∧ n1 < 100000000) (b1 : -100000000 < d1 ∧ d1 < 100000000) (a2 : -100000000 < n2 ∧ n2 < 100000000) (b2 : -100000000 < d2 ∧ d2 < 100000000) (w : World) :
    Calls Tryz.prog 67 #[.agg #[.int .i64 n1, .int .i64 d1], .agg #[.int .i64 n2, .int .i64 d2]] w fun e w' => e = .returned (.agg #[.int .i64 (n1 * d2), .int .i64 (d1 * n2)]) ∧ Below w.heap.size w w' := by
  have p0 := mul_near a1 b2
  have v0 : IntKind.i64.wrap (n1 * d2) = n1 * d2 := IntWalk.i64_in _ (by omega)
  have p1 := mul_near b1 a2
  have v1 : IntKind.i64.wrap (d1 * n2) = d1 * n2 := IntWalk.i64_in _ (by omega)
  clear p0 p1
  clear a1 b1 a2 b2
  go_enter Tryz.func67, Tryz.ntmps67
  go_wp2_with fail
  refine bodyPost_ret (v := .agg #[.int .i64 (n1 * d2), .int .i64 (d1 * n2)]) (by simp [results, Tryz.results67, go_sem]) rfl ⟨rfl, ?_⟩
  repeat (first | exact Below.refl _ _ | refine Below.alloc ?_ (by simp [World.setCell, World.drewN] <;> omega) _ | refine Below_drewN ?_ _ | refine Below.setCell ?_ (by simp <;> omega) _)

set_option maxRecDepth 100000 in
set_option maxHeartbeats 1000000 in
/-- rational.crossed. -/
theorem crossed_ok (n1 n2 : Int) (d1 d2 : Nat) (h1 : digs n1 ≤ 300) (h2 : digs n2 ≤ 300) (h3 : (decDigits d1).length ≤ 300) (h4 : (decDigits d2).length ≤ 300) (k1 : digs (n1 * d2) ≤ 300) (w : World) (hw : Wd w) :
    Calls Tryz.prog 56 #[.agg #[St (itoa n1), St (decDigits d1)], .agg #[St (itoa n2), St (decDigits d2)]] w fun e w' =>
      e = .returned (.tuple #[St (itoa (n1 * d2)), St (resL (n2 * d1)), .int .i64 (resE (n2 * d1))]) ∧ Below w.heap.size w w' := by
  have m1 := fun W hW => Mul_any n1 d2 h1 (by unfold digs; rw [Int.natAbs_natCast]; exact h4) W hW
  have m2 := fun W hW => Mul_any n2 d1 h2 (by unfold digs; rw [Int.natAbs_natCast]; exact h3) W hW
  rw [resL_ok k1, resE_ok k1, Str.itoa_nonneg] at m1
  rw [Str.itoa_nonneg] at m2
  generalize itoa n1 = s1 at m1 ⊢
  generalize itoa n2 = s2 at m2 ⊢
  generalize decDigits d1 = t1 at m2 ⊢
  generalize decDigits d2 = t2 at m1 ⊢
  generalize itoa (n1 * d2) = u at m1 ⊢
  generalize resL (n2 * d1) = v at m2 ⊢
  generalize resE (n2 * d1) = x at m2 ⊢
  have M1 := Lib.hid m1; have M2 := Lib.hid m2; have HW := Lib.hid hw
  clear m1 m2 hw h1 h2 h3 h4 k1
  obtain ⟨W3, hW3⟩ : ∃ W3, W3 = (w.alloc (.cells #[St s1, St t1] 62)).alloc (.cells #[St s2, St t2] 62) := ⟨_, rfl⟩
  have hB0 : Below w.heap.size w W3 := by rw [hW3]; exact ((Below.refl _ w).alloc (Nat.le_refl _) _).alloc (by simp) _
  have z0 : W3.heap.size = w.heap.size + 1 + 1 := by rw [hW3]; simp
  have A3 : W3.heap[w.heap.size]? = some (.cells #[St s1, St t1] 62 (0, 0)) := by
    rw [hW3]; exact (Below.heap_alloc _ _ _ (by simp only [World.size_alloc]; omega)).trans (World.alloc_heap_new w _)
  have B3 : W3.heap[w.heap.size + 1]? = some (.cells #[St s2, St t2] 62 (0, 0)) := by
    have := World.alloc_heap_new (w.alloc (.cells #[St s1, St t1] 62)) (.cells #[St s2, St t2] 62 (0, 0))
    rw [World.size_alloc] at this
    rw [hW3]; exact this
  have HW3 := Lib.hid hW3; clear hW3
  go_enter Tryz.func56, Tryz.ntmps56
  go_wp2_with fail
  rw [← HW3.out]
  refine (M1.out _ (HW.out.below hB0)).mono ?_
  rintro e w4 ⟨rfl, hb4⟩
  have hB4 := hB0.trans (hb4.mono hB0.size)
  have A4 : w4.heap[w.heap.size]? = some (.cells #[St s1, St t1] 62 (0, 0)) := (hb4.block _ (by omega)).trans A3
  have B4 : w4.heap[w.heap.size + 1]? = some (.cells #[St s2, St t2] 62 (0, 0)) := (hb4.block _ (by omega)).trans B3
  have A41 : w4.cell? ⟨w.heap.size, 1, none⟩ = some (St t1) := by simp [World.cell?, A4]
  have B40 : w4.cell? ⟨w.heap.size + 1, 0, none⟩ = some (St s2) := by simp [World.cell?, B4]
  clear hb4 A3 B3 z0
  go_wp2_with fail
  refine (M2.out _ (HW.out.below hB4)).mono ?_
  rintro e w5 ⟨rfl, hb5⟩
  have hB5 := hB4.trans (hb5.mono hB4.size)
  clear hb5 A4 B4 A41 B40
  go_wp2_with fail
  go_ret3
  exact ⟨rfl, hB5⟩
end Go.Proofs.YtapfekcbbhhieaaGreatDoor
