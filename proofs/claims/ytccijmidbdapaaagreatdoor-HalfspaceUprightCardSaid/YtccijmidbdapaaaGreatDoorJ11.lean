/- rational.both, quick. -/
import Derived.Test.YtccijmidbdapaaaGreatDoorJ10
import Derived.Lib.SmallJoins
set_option maxRecDepth 100000
set_option maxHeartbeats 8000000
open Go renaming World → zA
open Go.Lib renaming decDigits → zD, itoa → zE
open Go.World renaming alloc_heap_new → zG
open Go.Joins renaming cell_of_block → zJ
open Nat renaming le_refl → zN, le_trans → zO
namespace Go.Proofs.YtccijmidbdapaaaGreatDoor
open Go.RowKit Go.Shelf Lib Str Limb
attribute [local go_sem] Oper.semAt_some
theorem zo5 (a b:Rat) (ha:okQ a) (hb:okQ b) (c:Nat) (r:List UInt8) (w:zA) (hw:Wd w)
 (H:∀W:zA,qL w W->Wd W->qJ 96 #[zb1 a,zb1 b,.pointer (some ⟨c,0,none⟩)] W (.tuple #[St r,.int .i64 0])):
 qJ 23 #[St (numS a),St (numS b),.func (.func 96) #[] #[.pointer (some ⟨c,0,none⟩)]] w (.tuple #[St r,.int .i64 0]):=by
 have r1:=λW hW=>zek a ha W hW
 have r2:=λW hW=>zek b hb W hW
 unfold zb1 at H
 generalize numS a=x at r1⊢
 generalize numS b=y at r2⊢
 generalize zE a.num=s1 at H r1
 generalize zE b.num=s2 at H r2
 generalize zD a.den=t1 at H r1
 generalize zD b.den=t2 at H r2
 have R1:=hid r1;have R2:=hid r2;have HH:=hid H;have HW:=hid hw
 clear r1 r2 H hw ha hb
 go_enter Tryz.func23,Tryz.ntmps23
 go_wp2_with fail
 refine(R1.out _ HW.out).mono ?_
 rintro e w1 ⟨rfl,hB1⟩
 have hB1':=hB1.alloc hB1.size (.cells #[.string ⟨s1.toArray⟩,.string ⟨t1.toArray⟩] 69)
 go_wp2_with fail
 refine(R2.out _ (HW.out.below hB1')).mono ?_
 rintro e w2 ⟨rfl,hb2⟩
 have hz1:=hB1.size
 have z2:w1.heap.size<w2.heap.size:=by have:=hb2.size;simp at this;omega
 have hB2:=hB1'.trans (hb2.mono hB1'.size)
 have A2:w2.heap[w1.heap.size]? =some (.cells #[.string ⟨s1.toArray⟩,.string ⟨t1.toArray⟩] 69 (0,0)):=(hb2.block _ (by simp)).trans (zG w1 _)
 have A20:w2.cell? ⟨w1.heap.size,0,none⟩=some (.string ⟨s1.toArray⟩):=by simp[World.cell?,A2]
 have A21:w2.cell? ⟨w1.heap.size,1,none⟩=some (.string ⟨t1.toArray⟩):=by simp[World.cell?,A2]
 have hB3:=hB2.alloc hB2.size (.cells #[.string ⟨s2.toArray⟩,.string ⟨t2.toArray⟩] 69)
 clear hb2 A2 hB1 hB1'
 go_wp2_with fail
 refine(HH.out _ hB3 (HW.out.below hB3)).mono ?_
 rintro e w4 ⟨rfl,hb4⟩
 have hB4:=hB3.trans (hb4.mono hB3.size)
 clear hb4
 go_wp2_with fail
 go_ret2
 exact⟨rfl,hB4⟩
theorem zza (a b:Rat) (ha:okQ a) (hb:okQ b) (r:List UInt8) (w:zA) (hw:Wd w)
 (H:∀W:zA,qL w W->Wd W->qJ 24 #[zb1 a,zb1 b] W (.tuple #[St r,.int .i64 0])):
 qJ 23 #[St (numS a),St (numS b),.func (.func 24) #[] #[]] w (.tuple #[St r,.int .i64 0]):=by
 have r1:=λW hW=>zek a ha W hW
 have r2:=λW hW=>zek b hb W hW
 unfold zb1 at H
 generalize numS a=x at r1⊢
 generalize numS b=y at r2⊢
 generalize zE a.num=s1 at H r1
 generalize zE b.num=s2 at H r2
 generalize zD a.den=t1 at H r1
 generalize zD b.den=t2 at H r2
 have R1:=hid r1;have R2:=hid r2;have HH:=hid H;have HW:=hid hw
 clear r1 r2 H hw ha hb
 go_enter Tryz.func23,Tryz.ntmps23
 go_wp2_with fail
 refine(R1.out _ HW.out).mono ?_
 rintro e w1 ⟨rfl,hB1⟩
 have hB1':=hB1.alloc hB1.size (.cells #[.string ⟨s1.toArray⟩,.string ⟨t1.toArray⟩] 69)
 go_wp2_with fail
 refine(R2.out _ (HW.out.below hB1')).mono ?_
 rintro e w2 ⟨rfl,hb2⟩
 have hz1:=hB1.size
 have z2:w1.heap.size<w2.heap.size:=by have:=hb2.size;simp at this;omega
 have hB2:=hB1'.trans (hb2.mono hB1'.size)
 have A2:w2.heap[w1.heap.size]? =some (.cells #[.string ⟨s1.toArray⟩,.string ⟨t1.toArray⟩] 69 (0,0)):=(hb2.block _ (by simp)).trans (zG w1 _)
 have A20:w2.cell? ⟨w1.heap.size,0,none⟩=some (.string ⟨s1.toArray⟩):=by simp[World.cell?,A2]
 have A21:w2.cell? ⟨w1.heap.size,1,none⟩=some (.string ⟨t1.toArray⟩):=by simp[World.cell?,A2]
 have hB3:=hB2.alloc hB2.size (.cells #[.string ⟨s2.toArray⟩,.string ⟨t2.toArray⟩] 69)
 clear hb2 A2 hB1 hB1'
 go_wp2_with fail
 refine(HH.out _ hB3 (HW.out.below hB3)).mono ?_
 rintro e w4 ⟨rfl,hb4⟩
 have hB4:=hB3.trans (hb4.mono hB3.size)
 clear hb4
 go_wp2_with fail
 go_ret2
 exact⟨rfl,hB4⟩
theorem zzb (a b:Rat) (ha:okQ a) (hb:okQ b) (r:List UInt8) {E:Int} (w:zA) (hw:Wd w)
 (H:∀W:zA,qL w W->Wd W->qJ 107 #[zb1 a,zb1 b] W (.tuple #[St r,.int .i64 E])):
 qJ 23 #[St (numS a),St (numS b),.func (.func 107) #[] #[]] w (.tuple #[St r,.int .i64 E]):=by
 have r1:=λW hW=>zek a ha W hW
 have r2:=λW hW=>zek b hb W hW
 unfold zb1 at H
 generalize numS a=x at r1⊢
 generalize numS b=y at r2⊢
 generalize zE a.num=s1 at H r1
 generalize zE b.num=s2 at H r2
 generalize zD a.den=t1 at H r1
 generalize zD b.den=t2 at H r2
 have R1:=hid r1;have R2:=hid r2;have HH:=hid H;have HW:=hid hw
 clear r1 r2 H hw ha hb
 go_enter Tryz.func23,Tryz.ntmps23
 go_wp2_with fail
 refine(R1.out _ HW.out).mono ?_
 rintro e w1 ⟨rfl,hB1⟩
 have hB1':=hB1.alloc hB1.size (.cells #[.string ⟨s1.toArray⟩,.string ⟨t1.toArray⟩] 69)
 go_wp2_with fail
 refine(R2.out _ (HW.out.below hB1')).mono ?_
 rintro e w2 ⟨rfl,hb2⟩
 have hz1:=hB1.size
 have z2:w1.heap.size<w2.heap.size:=by have:=hb2.size;simp at this;omega
 have hB2:=hB1'.trans (hb2.mono hB1'.size)
 have A2:w2.heap[w1.heap.size]? =some (.cells #[.string ⟨s1.toArray⟩,.string ⟨t1.toArray⟩] 69 (0,0)):=(hb2.block _ (by simp)).trans (zG w1 _)
 have A20:w2.cell? ⟨w1.heap.size,0,none⟩=some (.string ⟨s1.toArray⟩):=by simp[World.cell?,A2]
 have A21:w2.cell? ⟨w1.heap.size,1,none⟩=some (.string ⟨t1.toArray⟩):=by simp[World.cell?,A2]
 have hB3:=hB2.alloc hB2.size (.cells #[.string ⟨s2.toArray⟩,.string ⟨t2.toArray⟩] 69)
 clear hb2 A2 hB1 hB1'
 go_wp2_with fail
 refine(HH.out _ hB3 (HW.out.below hB3)).mono ?_
 rintro e w4 ⟨rfl,hb4⟩
 have hB4:=hB3.trans (hb4.mono hB3.size)
 clear hb4
 go_wp2_with fail
 go_ret2
 exact⟨rfl,hB4⟩
theorem zp2 (a b:Rat) (ha:zbb a) (hb:zbb b) (n d:Int) (r:List UInt8) (w:zA) (hw:Wd w)
 (H:∀W:zA,qJ 94 #[.agg #[.int .i64 a.num,I a.den],.agg #[.int .i64 b.num,I b.den]] W (.agg #[.int .i64 n,.int .i64 d]))
 (N:qK 61 #[.agg #[.int .i64 n,.int .i64 d]] (St r)):
 qJ 21 #[St (numS a),St (numS b),.func (.func 94) #[] #[]] w (.tuple #[St r,.bool true]):=by
 have r1:=λW=>zbm a ha W
 have r2:=λW=>zbm b hb W
 generalize numS a=x at r1⊢
 generalize numS b=y at r2⊢
 generalize a.num=n1 at H r1
 generalize b.num=n2 at H r2
 generalize a.den=d1 at H r1
 generalize b.den=d2 at H r2
 have R1:=hid r1;have R2:=hid r2;have HH:=hid H;have HN:=hid N;have HW:=hid hw
 clear r1 r2 H N hw ha hb
 go_enter Tryz.func21,Tryz.ntmps21
 go_wp2_with fail
 refine(R1.out _).mono ?_
 rintro e w1 ⟨rfl,hB1⟩
 have hB1':=hB1.alloc hB1.size (.cells #[.int .i64 n1,.int .i64 (d1:Int)] 65)
 go_wp2_with fail
 refine(R2.out _).mono ?_
 rintro e w2 ⟨rfl,hb2⟩
 have hz1:=hB1.size
 have z2:w1.heap.size<w2.heap.size:=by have:=hb2.size;simp at this;omega
 have hB2:=hB1'.trans (hb2.mono hB1'.size)
 have A2:w2.heap[w1.heap.size]? =some (.cells #[.int .i64 n1,.int .i64 (d1:Int)] 65 (0,0)):=(hb2.block _ (by simp)).trans (zG w1 _)
 have A20:w2.cell? ⟨w1.heap.size,0,none⟩=some (.int .i64 n1):=by simp[World.cell?,A2]
 have A21:w2.cell? ⟨w1.heap.size,1,none⟩=some (.int .i64 (d1:Int)):=by simp[World.cell?,A2]
 have hB3:=hB2.alloc hB2.size (.cells #[.int .i64 n2,.int .i64 (d2:Int)] 65)
 clear hb2 A2 hB1 hB1'
 go_wp2_with fail
 refine(HH.out _).mono ?_
 rintro e w4 ⟨rfl,hb4⟩
 have hB4:=hB3.trans (hb4.mono hB3.size)
 clear hb4
 go_wp2_with fail
 refine(HN.out _ (HW.out.below hB4)).mono ?_
 rintro e w5 ⟨rfl,hb5⟩
 have hB5:=hB4.trans (hb5.mono hB4.size)
 clear hb5
 go_wp2_with fail
 go_ret2
 exact⟨rfl,hB5⟩
theorem zrb (a b:Rat) (h:¬(zbb a/\zbb b)) (ha:okQ a) (hb:okQ b) (w:zA):
 qJ 21 #[St (numS a),St (numS b),.func (.func 94) #[] #[]] w (.tuple #[St [],.bool false]):=by
 by_cases h1:zbb a
 ·have h2:¬zbb b:=λh2=>h ⟨h1,h2⟩
  have r1:=λW=>zbm a h1 W
  have r2:=λW=>zb5 b h2 (zO hb.1 (by omega)) (zO hb.2 (by omega)) W
  generalize numS a=x at r1⊢
  generalize numS b=y at r2⊢
  generalize a.num=n1 at r1
  generalize a.den=d1 at r1
  have R1:=hid r1;have R2:=hid r2
  clear r1 r2 h1 h2 h ha hb
  go_enter Tryz.func21,Tryz.ntmps21
  go_wp2_with fail
  refine(R1.out _).mono ?_
  rintro e w1 ⟨rfl,hB1⟩
  have hB1':=hB1.alloc hB1.size (.cells #[.int .i64 n1,.int .i64 (d1:Int)] 65)
  go_wp2_with fail
  refine(R2.out _).mono ?_
  rintro e w2 ⟨rfl,hb2⟩
  have hB2:=hB1'.trans (hb2.mono hB1'.size)
  clear hb2 hB1 hB1'
  go_wp2_with fail
  go_ret2
  exact⟨rfl,hB2.alloc hB2.size _⟩
 ·have r1:=λW=>zb5 a h1 (zO ha.1 (by omega)) (zO ha.2 (by omega)) W
  generalize numS a=x at r1⊢
  generalize numS b=y at⊢
  have R1:=hid r1
  clear r1 h1 h ha hb
  go_enter Tryz.func21,Tryz.ntmps21
  go_wp2_with fail
  refine(R1.out _).mono ?_
  rintro e w1 ⟨rfl,hB1⟩
  go_wp2_with fail
  go_ret2
  exact⟨rfl,hB1.alloc hB1.size _⟩
theorem zp3 (a b:Rat) (ha:zbb a) (hb:zbb b) (n d:Int) (r:List UInt8) (w:zA) (hw:Wd w)
 (H:∀W:zA,qJ 46 #[.agg #[.int .i64 a.num,I a.den],.agg #[.int .i64 b.num,I b.den]] W (.agg #[.int .i64 n,.int .i64 d]))
 (N:qK 61 #[.agg #[.int .i64 n,.int .i64 d]] (St r)):
 qJ 21 #[St (numS a),St (numS b),.func (.func 46) #[] #[]] w (.tuple #[St r,.bool true]):=by
 have r1:=λW=>zbm a ha W
 have r2:=λW=>zbm b hb W
 generalize numS a=x at r1⊢
 generalize numS b=y at r2⊢
 generalize a.num=n1 at H r1
 generalize b.num=n2 at H r2
 generalize a.den=d1 at H r1
 generalize b.den=d2 at H r2
 have R1:=hid r1;have R2:=hid r2;have HH:=hid H;have HN:=hid N;have HW:=hid hw
 clear r1 r2 H N hw ha hb
 go_enter Tryz.func21,Tryz.ntmps21
 go_wp2_with fail
 refine(R1.out _).mono ?_
 rintro e w1 ⟨rfl,hB1⟩
 have hB1':=hB1.alloc hB1.size (.cells #[.int .i64 n1,.int .i64 (d1:Int)] 65)
 go_wp2_with fail
 refine(R2.out _).mono ?_
 rintro e w2 ⟨rfl,hb2⟩
 have hz1:=hB1.size
 have z2:w1.heap.size<w2.heap.size:=by have:=hb2.size;simp at this;omega
 have hB2:=hB1'.trans (hb2.mono hB1'.size)
 have A2:w2.heap[w1.heap.size]? =some (.cells #[.int .i64 n1,.int .i64 (d1:Int)] 65 (0,0)):=(hb2.block _ (by simp)).trans (zG w1 _)
 have A20:w2.cell? ⟨w1.heap.size,0,none⟩=some (.int .i64 n1):=by simp[World.cell?,A2]
 have A21:w2.cell? ⟨w1.heap.size,1,none⟩=some (.int .i64 (d1:Int)):=by simp[World.cell?,A2]
 have hB3:=hB2.alloc hB2.size (.cells #[.int .i64 n2,.int .i64 (d2:Int)] 65)
 clear hb2 A2 hB1 hB1'
 go_wp2_with fail
 refine(HH.out _).mono ?_
 rintro e w4 ⟨rfl,hb4⟩
 have hB4:=hB3.trans (hb4.mono hB3.size)
 clear hb4
 go_wp2_with fail
 refine(HN.out _ (HW.out.below hB4)).mono ?_
 rintro e w5 ⟨rfl,hb5⟩
 have hB5:=hB4.trans (hb5.mono hB4.size)
 clear hb5
 go_wp2_with fail
 go_ret2
 exact⟨rfl,hB5⟩
theorem zrc (a b:Rat) (h:¬(zbb a/\zbb b)) (ha:okQ a) (hb:okQ b) (w:zA):
 qJ 21 #[St (numS a),St (numS b),.func (.func 46) #[] #[]] w (.tuple #[St [],.bool false]):=by
 by_cases h1:zbb a
 ·have h2:¬zbb b:=λh2=>h ⟨h1,h2⟩
  have r1:=λW=>zbm a h1 W
  have r2:=λW=>zb5 b h2 (zO hb.1 (by omega)) (zO hb.2 (by omega)) W
  generalize numS a=x at r1⊢
  generalize numS b=y at r2⊢
  generalize a.num=n1 at r1
  generalize a.den=d1 at r1
  have R1:=hid r1;have R2:=hid r2
  clear r1 r2 h1 h2 h ha hb
  go_enter Tryz.func21,Tryz.ntmps21
  go_wp2_with fail
  refine(R1.out _).mono ?_
  rintro e w1 ⟨rfl,hB1⟩
  have hB1':=hB1.alloc hB1.size (.cells #[.int .i64 n1,.int .i64 (d1:Int)] 65)
  go_wp2_with fail
  refine(R2.out _).mono ?_
  rintro e w2 ⟨rfl,hb2⟩
  have hB2:=hB1'.trans (hb2.mono hB1'.size)
  clear hb2 hB1 hB1'
  go_wp2_with fail
  go_ret2
  exact⟨rfl,hB2.alloc hB2.size _⟩
 ·have r1:=λW=>zb5 a h1 (zO ha.1 (by omega)) (zO ha.2 (by omega)) W
  generalize numS a=x at r1⊢
  generalize numS b=y at⊢
  have R1:=hid r1
  clear r1 h1 h ha hb
  go_enter Tryz.func21,Tryz.ntmps21
  go_wp2_with fail
  refine(R1.out _).mono ?_
  rintro e w1 ⟨rfl,hB1⟩
  go_wp2_with fail
  go_ret2
  exact⟨rfl,hB1.alloc hB1.size _⟩
theorem zp4 (a b:Rat) (ha:zbb a) (hb:zbb b) (n d:Int) (r:List UInt8) (w:zA) (hw:Wd w)
 (H:∀W:zA,qJ 22 #[.agg #[.int .i64 a.num,I a.den],.agg #[.int .i64 b.num,I b.den]] W (.agg #[.int .i64 n,.int .i64 d]))
 (N:qK 61 #[.agg #[.int .i64 n,.int .i64 d]] (St r)):
 qJ 21 #[St (numS a),St (numS b),.func (.func 22) #[] #[]] w (.tuple #[St r,.bool true]):=by
 have r1:=λW=>zbm a ha W
 have r2:=λW=>zbm b hb W
 generalize numS a=x at r1⊢
 generalize numS b=y at r2⊢
 generalize a.num=n1 at H r1
 generalize b.num=n2 at H r2
 generalize a.den=d1 at H r1
 generalize b.den=d2 at H r2
 have R1:=hid r1;have R2:=hid r2;have HH:=hid H;have HN:=hid N;have HW:=hid hw
 clear r1 r2 H N hw ha hb
 go_enter Tryz.func21,Tryz.ntmps21
 go_wp2_with fail
 refine(R1.out _).mono ?_
 rintro e w1 ⟨rfl,hB1⟩
 have hB1':=hB1.alloc hB1.size (.cells #[.int .i64 n1,.int .i64 (d1:Int)] 65)
 go_wp2_with fail
 refine(R2.out _).mono ?_
 rintro e w2 ⟨rfl,hb2⟩
 have hz1:=hB1.size
 have z2:w1.heap.size<w2.heap.size:=by have:=hb2.size;simp at this;omega
 have hB2:=hB1'.trans (hb2.mono hB1'.size)
 have A2:w2.heap[w1.heap.size]? =some (.cells #[.int .i64 n1,.int .i64 (d1:Int)] 65 (0,0)):=(hb2.block _ (by simp)).trans (zG w1 _)
 have A20:w2.cell? ⟨w1.heap.size,0,none⟩=some (.int .i64 n1):=by simp[World.cell?,A2]
 have A21:w2.cell? ⟨w1.heap.size,1,none⟩=some (.int .i64 (d1:Int)):=by simp[World.cell?,A2]
 have hB3:=hB2.alloc hB2.size (.cells #[.int .i64 n2,.int .i64 (d2:Int)] 65)
 clear hb2 A2 hB1 hB1'
 go_wp2_with fail
 refine(HH.out _).mono ?_
 rintro e w4 ⟨rfl,hb4⟩
 have hB4:=hB3.trans (hb4.mono hB3.size)
 clear hb4
 go_wp2_with fail
 refine(HN.out _ (HW.out.below hB4)).mono ?_
 rintro e w5 ⟨rfl,hb5⟩
 have hB5:=hB4.trans (hb5.mono hB4.size)
 clear hb5
 go_wp2_with fail
 go_ret2
 exact⟨rfl,hB5⟩
theorem zrd (a b:Rat) (h:¬(zbb a/\zbb b)) (ha:okQ a) (hb:okQ b) (w:zA):
 qJ 21 #[St (numS a),St (numS b),.func (.func 22) #[] #[]] w (.tuple #[St [],.bool false]):=by
 by_cases h1:zbb a
 ·have h2:¬zbb b:=λh2=>h ⟨h1,h2⟩
  have r1:=λW=>zbm a h1 W
  have r2:=λW=>zb5 b h2 (zO hb.1 (by omega)) (zO hb.2 (by omega)) W
  generalize numS a=x at r1⊢
  generalize numS b=y at r2⊢
  generalize a.num=n1 at r1
  generalize a.den=d1 at r1
  have R1:=hid r1;have R2:=hid r2
  clear r1 r2 h1 h2 h ha hb
  go_enter Tryz.func21,Tryz.ntmps21
  go_wp2_with fail
  refine(R1.out _).mono ?_
  rintro e w1 ⟨rfl,hB1⟩
  have hB1':=hB1.alloc hB1.size (.cells #[.int .i64 n1,.int .i64 (d1:Int)] 65)
  go_wp2_with fail
  refine(R2.out _).mono ?_
  rintro e w2 ⟨rfl,hb2⟩
  have hB2:=hB1'.trans (hb2.mono hB1'.size)
  clear hb2 hB1 hB1'
  go_wp2_with fail
  go_ret2
  exact⟨rfl,hB2.alloc hB2.size _⟩
 ·have r1:=λW=>zb5 a h1 (zO ha.1 (by omega)) (zO ha.2 (by omega)) W
  generalize numS a=x at r1⊢
  generalize numS b=y at⊢
  have R1:=hid r1
  clear r1 h1 h ha hb
  go_enter Tryz.func21,Tryz.ntmps21
  go_wp2_with fail
  refine(R1.out _).mono ?_
  rintro e w1 ⟨rfl,hB1⟩
  go_wp2_with fail
  go_ret2
  exact⟨rfl,hB1.alloc hB1.size _⟩
theorem zp5 (a b:Rat) (ha:zbb a) (hb:zbb b) (n d:Int) (r:List UInt8) (w:zA) (hw:Wd w)
 (H:∀W:zA,qJ 106 #[.agg #[.int .i64 a.num,I a.den],.agg #[.int .i64 b.num,I b.den]] W (.agg #[.int .i64 n,.int .i64 d]))
 (N:qK 61 #[.agg #[.int .i64 n,.int .i64 d]] (St r)):
 qJ 21 #[St (numS a),St (numS b),.func (.func 106) #[] #[]] w (.tuple #[St r,.bool true]):=by
 have r1:=λW=>zbm a ha W
 have r2:=λW=>zbm b hb W
 generalize numS a=x at r1⊢
 generalize numS b=y at r2⊢
 generalize a.num=n1 at H r1
 generalize b.num=n2 at H r2
 generalize a.den=d1 at H r1
 generalize b.den=d2 at H r2
 have R1:=hid r1;have R2:=hid r2;have HH:=hid H;have HN:=hid N;have HW:=hid hw
 clear r1 r2 H N hw ha hb
 go_enter Tryz.func21,Tryz.ntmps21
 go_wp2_with fail
 refine(R1.out _).mono ?_
 rintro e w1 ⟨rfl,hB1⟩
 have hB1':=hB1.alloc hB1.size (.cells #[.int .i64 n1,.int .i64 (d1:Int)] 65)
 go_wp2_with fail
 refine(R2.out _).mono ?_
 rintro e w2 ⟨rfl,hb2⟩
 have hz1:=hB1.size
 have z2:w1.heap.size<w2.heap.size:=by have:=hb2.size;simp at this;omega
 have hB2:=hB1'.trans (hb2.mono hB1'.size)
 have A2:w2.heap[w1.heap.size]? =some (.cells #[.int .i64 n1,.int .i64 (d1:Int)] 65 (0,0)):=(hb2.block _ (by simp)).trans (zG w1 _)
 have A20:w2.cell? ⟨w1.heap.size,0,none⟩=some (.int .i64 n1):=by simp[World.cell?,A2]
 have A21:w2.cell? ⟨w1.heap.size,1,none⟩=some (.int .i64 (d1:Int)):=by simp[World.cell?,A2]
 have hB3:=hB2.alloc hB2.size (.cells #[.int .i64 n2,.int .i64 (d2:Int)] 65)
 clear hb2 A2 hB1 hB1'
 go_wp2_with fail
 refine(HH.out _).mono ?_
 rintro e w4 ⟨rfl,hb4⟩
 have hB4:=hB3.trans (hb4.mono hB3.size)
 clear hb4
 go_wp2_with fail
 refine(HN.out _ (HW.out.below hB4)).mono ?_
 rintro e w5 ⟨rfl,hb5⟩
 have hB5:=hB4.trans (hb5.mono hB4.size)
 clear hb5
 go_wp2_with fail
 go_ret2
 exact⟨rfl,hB5⟩
theorem zre (a b:Rat) (h:¬(zbb a/\zbb b)) (ha:okQ a) (hb:okQ b) (w:zA):
 qJ 21 #[St (numS a),St (numS b),.func (.func 106) #[] #[]] w (.tuple #[St [],.bool false]):=by
 by_cases h1:zbb a
 ·have h2:¬zbb b:=λh2=>h ⟨h1,h2⟩
  have r1:=λW=>zbm a h1 W
  have r2:=λW=>zb5 b h2 (zO hb.1 (by omega)) (zO hb.2 (by omega)) W
  generalize numS a=x at r1⊢
  generalize numS b=y at r2⊢
  generalize a.num=n1 at r1
  generalize a.den=d1 at r1
  have R1:=hid r1;have R2:=hid r2
  clear r1 r2 h1 h2 h ha hb
  go_enter Tryz.func21,Tryz.ntmps21
  go_wp2_with fail
  refine(R1.out _).mono ?_
  rintro e w1 ⟨rfl,hB1⟩
  have hB1':=hB1.alloc hB1.size (.cells #[.int .i64 n1,.int .i64 (d1:Int)] 65)
  go_wp2_with fail
  refine(R2.out _).mono ?_
  rintro e w2 ⟨rfl,hb2⟩
  have hB2:=hB1'.trans (hb2.mono hB1'.size)
  clear hb2 hB1 hB1'
  go_wp2_with fail
  go_ret2
  exact⟨rfl,hB2.alloc hB2.size _⟩
 ·have r1:=λW=>zb5 a h1 (zO ha.1 (by omega)) (zO ha.2 (by omega)) W
  generalize numS a=x at r1⊢
  generalize numS b=y at⊢
  have R1:=hid r1
  clear r1 h1 h ha hb
  go_enter Tryz.func21,Tryz.ntmps21
  go_wp2_with fail
  refine(R1.out _).mono ?_
  rintro e w1 ⟨rfl,hB1⟩
  go_wp2_with fail
  go_ret2
  exact⟨rfl,hB1.alloc hB1.size _⟩
theorem zhd {x:Int} {k:Nat} (hk:0<k) (h:x.natAbs<10^k):digs x<=k:=(zaf x.natAbs k hk).2 h
theorem zil {x k:Nat} (hk:0<k) (h:x<10^k):(zD x).length<=k:=(zaf x k hk).2 h
theorem zd0 {q:Rat} {k:Nat} (hk:0<k) (hk3:k<=300) (h:sz q k):okQ q:=
 ⟨zO (zhd hk h.1) hk3,zO (zil hk h.2) hk3⟩
theorem zcv {q:Rat} (h:zbb q):(-100000000<q.num/\q.num<100000000)/\(-100000000<(q.den:Int)/\(q.den:Int)<100000000):=by
 have h1:=(zaf q.num.natAbs 8 (by omega)).1 h.1
 have h2:=(zaf q.den 8 (by omega)).1 h.2
 omega
theorem zzc {x y:Int} {k:Nat} (hk:0<k) (hx:digs x<=k) (hy:digs y<=k):digs (x-y)<=k+1:=by
 rw[Int.sub_eq_add_neg];exact zhz hk hx (by unfold digs at*;rw[Int.natAbs_neg];exact hy)
theorem zcd {x:Int} {d i j:Nat} (hi:0<i) (h1:x.natAbs<10^i) (h2:d<10^j):digs (x*d)<=i+j:=
 zhd (by omega) (by rw[ze0];exact zcc h1 h2)
theorem zje (a b:Rat) (i j:Nat) (hi:0<i) (hj:0<j) (hij:i+j<300) (ha:sz a i) (hb:sz b j) (w:zA) (hw:Wd w):
 qJ 45 #[St (numS a),St (numS b)] w (.tuple #[St (numS (a+b)),.int .i64 0]):=by
 have oa:=zd0 hi (by omega) ha
 have ob:=zd0 hj (by omega) hb
 by_cases h:zbb a/\zbb b
 ·obtain⟨h1,h2⟩:=h
  have e1:=zcv h1
  have e2:=zcv h2
  have hq:=λW hW=>zp2 a b h1 h2 (a.num*b.den+b.num*a.den) (a.den*b.den:Int) (numS (a+b)) W hW
   (λW=>nadd a.num a.den b.num b.den e1.1 e1.2 e2.1 e2.2 W)
   (λW hW=>by
     have p1:=zbs e1.1 e2.2
     have p2:=zbs e2.1 e1.2
     have p3:=zbs e1.2 e2.2
     have:=zd8 (a.num*b.den+b.num*a.den) (a.den*b.den:Int) (Int.mul_ne_zero (by have:=a.den_pos;omega) (by have:=b.den_pos;omega)) (by omega) (by omega) W hW
     rw[<-Int.natCast_mul,<-zf0] at this
     rw[<-Int.natCast_mul];exact this)
  generalize numS a=x at hq⊢
  generalize numS b=y at hq⊢
  generalize numS (a+b)=r at hq⊢
  have HQ:=hid hq;clear hq e1 e2 oa ob ha hb hi hj hij h1 h2
  go_enter Tryz.func45,Tryz.ntmps45
  go_wp2_with fail
  refine(HQ.out _ hw).mono ?_
  rintro e w1 ⟨rfl,hB1⟩
  go_wp2_with fail
  go_ret2
  exact⟨rfl,hB1⟩
 ·have hq:=λW=>zrb a b h oa ob W
  have hbo:=λc W hW H=>zo5 a b oa ob c (numS (a+b)) W hW H
  have k1:digs (a.num*b.den)<=300:=zO (zcd hi ha.1 hb.2) (by omega)
  have k2:digs (b.num*a.den)<=300:=zO (zcd hj hb.1 ha.2) (by omega)
  have k3:digs (a.num*b.den+b.num*a.den)<=300:=by
   have q1:=zcd hi ha.1 hb.2
   have q2:=zcd hj hb.1 ha.2
   rw[Nat.add_comm] at q2
   have:=zhz (show 0<i+j by omega) q1 q2
   omega
  have k4:(zD (a.den*b.den)).length<=300:=zO (zil (by omega) (zcc ha.2 hb.2)) (by omega)
  have hcb:=λc W hc hW=>zy8 a b oa ob k1 k2 k3 k4 c W hc hW
  generalize numS a=x at hq hbo⊢
  generalize numS b=y at hq hbo⊢
  generalize numS (a+b)=r at hbo hcb⊢
  generalize zb1 a=pa at hbo hcb
  generalize zb1 b=pb at hbo hcb
  have HQ:=hid hq;have HBO:=hid hbo;have HCB:=hid hcb;have HW:=hid hw
  clear hq hbo hcb oa ob ha hb hi hj hij h k1 k2 k3 k4 hw
  go_enter Tryz.func45,Tryz.ntmps45
  go_wp2_with fail
  refine(HQ.out _).mono ?_
  rintro e w1 ⟨rfl,hB1⟩
  go_wp2_with fail
  refine(zk4 _ _).mono ?_
  rintro e w2 ⟨t,rfl,rfl⟩
  go_wp2_with fail
  have hB2:=hB1.alloc hB1.size (.cells #[.func (.func 95) #[] #[]] t)
  have hc2:(w1.alloc (.cells #[.func (.func 95) #[] #[]] t)).cell? ⟨w1.heap.size,0,none⟩=some (.func (.func 95) #[] #[]):=by
   have:=zG w1 (.cells #[.func (.func 95) #[] #[]] t (0,0))
   simp only[World.cell?,this];rfl
  refine(HBO.out _ _ (HW.out.below hB2) (λW hb hW=>HCB.out _ W ((hb.cell (p:=⟨w1.heap.size,0,none⟩) (by simp)).trans hc2) hW)).mono ?_
  rintro e w3 ⟨rfl,hb3⟩
  have hB3:=hB2.trans (hb3.mono hB2.size)
  clear hc2 hb3
  go_wp2_with fail
  go_ret2
  exact⟨rfl,hB3⟩
theorem ztz (a b:Rat) (i j:Nat) (hi:0<i) (hj:0<j) (hij:i+j<300) (ha:sz a i) (hb:sz b j) (w:zA) (hw:Wd w):
 qJ 14 #[St (numS a),St (numS b)] w (.tuple #[St (numS (a-b)),.int .i64 0]):=by
 have oa:=zd0 hi (by omega) ha
 have ob:=zd0 hj (by omega) hb
 by_cases h:zbb a/\zbb b
 ·obtain⟨h1,h2⟩:=h
  have e1:=zcv h1
  have e2:=zcv h2
  have hq:=λW hW=>zp3 a b h1 h2 (a.num*b.den-b.num*a.den) (a.den*b.den:Int) (numS (a-b)) W hW
   (λW=>nsub a.num a.den b.num b.den e1.1 e1.2 e2.1 e2.2 W)
   (λW hW=>by
     have p1:=zbs e1.1 e2.2
     have p2:=zbs e2.1 e1.2
     have p3:=zbs e1.2 e2.2
     have:=zd8 (a.num*b.den-b.num*a.den) (a.den*b.den:Int) (Int.mul_ne_zero (by have:=a.den_pos;omega) (by have:=b.den_pos;omega)) (by omega) (by omega) W hW
     rw[<-Int.natCast_mul,<-znk] at this
     rw[<-Int.natCast_mul];exact this)
  generalize numS a=x at hq⊢
  generalize numS b=y at hq⊢
  generalize numS (a-b)=r at hq⊢
  have HQ:=hid hq;clear hq e1 e2 oa ob ha hb hi hj hij h1 h2
  go_enter Tryz.func14,Tryz.ntmps14
  go_wp2_with fail
  refine(HQ.out _ hw).mono ?_
  rintro e w1 ⟨rfl,hB1⟩
  go_wp2_with fail
  go_ret2
  exact⟨rfl,hB1⟩
 ·have hq:=λW=>zrc a b h oa ob W
  have hbo:=λc W hW H=>zo5 a b oa ob c (numS (a-b)) W hW H
  have k1:digs (a.num*b.den)<=300:=zO (zcd hi ha.1 hb.2) (by omega)
  have k2:digs (b.num*a.den)<=300:=zO (zcd hj hb.1 ha.2) (by omega)
  have k3:digs (a.num*b.den-b.num*a.den)<=300:=by
   have q1:=zcd hi ha.1 hb.2
   have q2:=zcd hj hb.1 ha.2
   rw[Nat.add_comm] at q2
   have:=zzc (show 0<i+j by omega) q1 q2
   omega
  have k4:(zD (a.den*b.den)).length<=300:=zO (zil (by omega) (zcc ha.2 hb.2)) (by omega)
  have hcb:=λc W hc hW=>zy9 a b oa ob k1 k2 k3 k4 c W hc hW
  generalize numS a=x at hq hbo⊢
  generalize numS b=y at hq hbo⊢
  generalize numS (a-b)=r at hbo hcb⊢
  generalize zb1 a=pa at hbo hcb
  generalize zb1 b=pb at hbo hcb
  have HQ:=hid hq;have HBO:=hid hbo;have HCB:=hid hcb;have HW:=hid hw
  clear hq hbo hcb oa ob ha hb hi hj hij h k1 k2 k3 k4 hw
  go_enter Tryz.func14,Tryz.ntmps14
  go_wp2_with fail
  refine(HQ.out _).mono ?_
  rintro e w1 ⟨rfl,hB1⟩
  go_wp2_with fail
  refine(zk4 _ _).mono ?_
  rintro e w2 ⟨t,rfl,rfl⟩
  go_wp2_with fail
  have hB2:=hB1.alloc hB1.size (.cells #[.func (.func 48) #[] #[]] t)
  have hc2:(w1.alloc (.cells #[.func (.func 48) #[] #[]] t)).cell? ⟨w1.heap.size,0,none⟩=some (.func (.func 48) #[] #[]):=by
   have:=zG w1 (.cells #[.func (.func 48) #[] #[]] t (0,0))
   simp only[World.cell?,this];rfl
  refine(HBO.out _ _ (HW.out.below hB2) (λW hb hW=>HCB.out _ W ((hb.cell (p:=⟨w1.heap.size,0,none⟩) (by simp)).trans hc2) hW)).mono ?_
  rintro e w3 ⟨rfl,hb3⟩
  have hB3:=hB2.trans (hb3.mono hB2.size)
  clear hc2 hb3
  go_wp2_with fail
  go_ret2
  exact⟨rfl,hB3⟩
theorem zjf (a b:Rat) (i j:Nat) (hi:0<i) (hj:0<j) (hij:i+j<=300) (ha:sz a i) (hb:sz b j) (w:zA) (hw:Wd w):
 qJ 7 #[St (numS a),St (numS b)] w (.tuple #[St (numS (a*b)),.int .i64 0]):=by
 have oa:=zd0 hi (by omega) ha
 have ob:=zd0 hj (by omega) hb
 by_cases h:zbb a/\zbb b
 ·obtain⟨h1,h2⟩:=h
  have e1:=zcv h1
  have e2:=zcv h2
  have hq:=λW hW=>zp4 a b h1 h2 (a.num*b.num) (a.den*b.den:Int) (numS (a*b)) W hW
   (λW=>nmul a.num a.den b.num b.den e1.1 e1.2 e2.1 e2.2 W)
   (λW hW=>by
     have p1:=zbs e1.1 e2.1
     have p3:=zbs e1.2 e2.2
     have:=zd8 (a.num*b.num) (a.den*b.den:Int) (Int.mul_ne_zero (by have:=a.den_pos;omega) (by have:=b.den_pos;omega)) (by omega) (by omega) W hW
     rw[<-Int.natCast_mul,<-zf1] at this
     rw[<-Int.natCast_mul];exact this)
  generalize numS a=x at hq⊢
  generalize numS b=y at hq⊢
  generalize numS (a*b)=r at hq⊢
  have HQ:=hid hq;clear hq e1 e2 oa ob ha hb hi hj hij h1 h2
  go_enter Tryz.func7,Tryz.ntmps7
  go_wp2_with fail
  refine(HQ.out _ hw).mono ?_
  rintro e w1 ⟨rfl,hB1⟩
  go_wp2_with fail
  go_ret2
  exact⟨rfl,hB1⟩
 ·have hq:=λW=>zrd a b h oa ob W
  have k1:digs (a.num*b.num)<=300:=zO (zhd (by omega) (by rw[Int.natAbs_mul];exact zcc ha.1 hb.1)) hij
  have k4:(zD (a.den*b.den)).length<=300:=zO (zil (by omega) (zcc ha.2 hb.2)) hij
  have hbo:=λW hW=>zza a b oa ob (numS (a*b)) W hW (λW' _ hW'=>zt7 a b oa ob k1 k4 W' hW')
  generalize numS a=x at hq hbo⊢
  generalize numS b=y at hq hbo⊢
  generalize numS (a*b)=r at hbo⊢
  have HQ:=hid hq;have HBO:=hid hbo;have HW:=hid hw
  clear hq hbo oa ob ha hb hi hj hij h k1 k4 hw
  go_enter Tryz.func7,Tryz.ntmps7
  go_wp2_with fail
  refine(HQ.out _).mono ?_
  rintro e w1 ⟨rfl,hB1⟩
  go_wp2_with fail
  refine(HBO.out _ (HW.out.below hB1)).mono ?_
  rintro e w3 ⟨rfl,hb3⟩
  have hB3:=hB1.trans (hb3.mono hB1.size)
  clear hb3
  go_wp2_with fail
  go_ret2
  exact⟨rfl,hB3⟩
theorem zoj (a b:Rat) (hb0:b≠0) (i j:Nat) (hi:0<i) (hj:0<j) (hij:i+j<=300) (ha:sz a i) (hb:sz b j) (w:zA) (hw:Wd w):
 qJ 59 #[St (numS a),St (numS b)] w (.tuple #[St (numS (a/b)),.int .i64 0]):=by
 have oa:=zd0 hi (by omega) ha
 have ob:=zd0 hj (by omega) hb
 obtain⟨y,hy⟩:∃y:ByteArray,y=⟨(numS b).toArray⟩:=⟨_,rfl⟩
 have hyz:(y.toList==[48])=false:=by
  rw[beq_eq_false_iff_ne,zfo hy]
  intro e;exact hb0 ((zpy b).1 e)
 by_cases h:zbb a/\zbb b
 ·obtain⟨h1,h2⟩:=h
  have e1:=zcv h1
  have e2:=zcv h2
  have hnz:b.num≠0:=λh=>hb0 (Rat.num_eq_zero.1 h)
  have hq:=λW hW=>zp5 a b h1 h2 (a.num*b.den) (a.den*b.num:Int) (numS (a/b)) W hW
   (λW=>ndiv a.num a.den b.num b.den e1.1 e1.2 e2.1 e2.2 W)
   (λW hW=>by
     have p1:=zbs e1.1 e2.2
     have p3:=zbs e1.2 e2.1
     have:=zd8 (a.num*b.den) (a.den*b.num:Int) (Int.mul_ne_zero (by have:=a.den_pos;omega) hnz) (by omega) (by omega) W hW
     rw[<-zjx a b hb0] at this
     exact this)
  rw[zgf hy] at hq⊢
  generalize numS a=x at hq⊢
  generalize numS (a/b)=r at hq⊢
  have HQ:=hid hq;clear hq e1 e2 oa ob ha hb hi hj hij h1 h2 hy hnz hb0
  go_enter Tryz.func59,Tryz.ntmps59
  go_wp2_with fail
  refine(HQ.out _ hw).mono ?_
  rintro e w1 ⟨rfl,hB1⟩
  go_wp2_with fail
  go_ret2
  exact⟨rfl,hB1⟩
 ·have hq:=λW=>zre a b h oa ob W
  have k1:digs (a.num*b.den)<=300:=zO (zcd hi ha.1 hb.2) hij
  have k2:digs (b.num*a.den)<=300:=zO (zcd hj hb.1 ha.2) (by omega)
  have hbo:=λW hW=>zzb a b oa ob (numS (a/b)) W hW (λW' _ hW'=>z1o a b hb0 oa ob k1 k2 W' hW')
  rw[zgf hy] at hq hbo⊢
  generalize numS a=x at hq hbo⊢
  generalize numS (a/b)=r at hbo⊢
  have HQ:=hid hq;have HBO:=hid hbo;have HW:=hid hw
  clear hq hbo oa ob ha hb hi hj hij h k1 k2 hw hy hb0
  go_enter Tryz.func59,Tryz.ntmps59
  go_wp2_with fail
  refine(HQ.out _).mono ?_
  rintro e w1 ⟨rfl,hB1⟩
  go_wp2_with fail
  refine(HBO.out _ (HW.out.below hB1)).mono ?_
  rintro e w3 ⟨rfl,hb3⟩
  have hB3:=hB1.trans (hb3.mono hB1.size)
  clear hb3
  go_wp2_with fail
  go_ret2
  exact⟨rfl,hB3⟩
end Go.Proofs.YtccijmidbdapaaaGreatDoor
namespace Go.Proofs.YtccijmidbdapaaaGreatDoor.Geo
structure Pt where
 x:Rat
 y:Rat
 deriving DecidableEq
def cmpR (a b:Rat):Int:=if a<b then-1 else if a=b then 0 else 1
theorem zaw (a b:Rat):(a<b/\cmpR a b= -1)\/(a=b/\cmpR a b=0)\/(b<a/\cmpR a b=1):=by
 unfold cmpR
 by_cases h:a<b
 ·exact .inl ⟨h,by rw[if_pos h]⟩
 ·by_cases e:a=b
  ·exact .inr (.inl ⟨e,by rw[if_neg h,if_pos e]⟩)
  ·exact .inr (.inr ⟨by grind,by rw[if_neg h,if_neg e]⟩)
theorem zjn (a:Rat):cmpR a a=0:=by have:=zaw a a;grind
def ordP (p q:Pt):Int:=if cmpR p.x q.x≠0 then cmpR p.x q.x else cmpR p.y q.y
theorem zas (p q:Pt):((p.x<q.x\/p.x=q.x/\p.y<q.y)/\ordP p q= -1)\/(p=q/\ordP p q=0)\/((q.x<p.x\/p.x=q.x/\q.y<p.y)/\ordP p q=1):=by
 unfold ordP
 obtain⟨a,b⟩:=p;obtain⟨c,d⟩:=q
 simp only[Pt.mk.injEq]
 have:=zaw a c;have:=zaw b d
 grind
def turn (a b c:Pt):Int:=cmpR ((b.x-a.x)*(c.y-a.y)) ((b.y-a.y)*(c.x-a.x))
def low (a b:Pt):Pt:=if ordP a b>0 then b else a
def high (a b:Pt):Pt:=if ordP a b>0 then a else b
end Go.Proofs.YtccijmidbdapaaaGreatDoor.Geo
namespace Go.Proofs.YtccijmidbdapaaaGreatDoor
open Go.RowKit Go.Shelf Lib Str Limb Geo
attribute [local go_sem] Oper.semAt_some
theorem z2v (x y s1 s2 t1 t2 u v:List UInt8) (z:Int) (NA:Hid (∀W:zA,qJ 29 #[St x] W (.tuple #[.agg #[.int .i64 0,.int .i64 0],.bool false])))
 (RA:Hid (qK 31 #[St x] (.tuple #[.agg #[St s1,St t1],.int .i64 0])))
 (RB:Hid (qK 31 #[St y] (.tuple #[.agg #[St s2,St t2],.int .i64 0])))
 (CR:Hid (qK 32 #[.agg #[St s1,St t1],.agg #[St s2,St t2]] (.tuple #[St u,St v,.int .i64 0])))
 (CM:Hid (∀W:zA,qJ 33 #[St u,St v] W (.tuple #[.int .i64 z,.int .i64 0])))
 (w:zA) (HW:Hid (Wd w)):
 qJ 9 #[St x,St y] w (.tuple #[.int .i64 z,.int .i64 0]):=by
 go_enter Tryz.func9,Tryz.ntmps9
 go_wp2_with fail
 refine(NA.out _).mono ?_
 rintro e w1 ⟨rfl,hB1⟩
 have hX:=hB1.alloc hB1.size (.cells #[.int .i64 0,.int .i64 0] 65)
 clear hB1
 go_wp2_with fail
 refine(RA.out _ (HW.out.below hX)).mono ?_
 rintro e w5 ⟨rfl,hb5⟩
 have hB5:=hX.trans (hb5.mono hX.size)
 have hB5':=hB5.alloc hB5.size (.cells #[.string ⟨s1.toArray⟩,.string ⟨t1.toArray⟩] 69)
 clear hb5
 go_wp2_with fail
 refine(RB.out _ (HW.out.below hB5')).mono ?_
 rintro e w6 ⟨rfl,hb6⟩
 have hz5:=hB5.size
 have z6:w5.heap.size<w6.heap.size:=by have:=hb6.size;simp at this;omega
 have hB6:=hB5'.trans (hb6.mono hB5'.size)
 have A2:w6.heap[w5.heap.size]? =some (.cells #[.string ⟨s1.toArray⟩,.string ⟨t1.toArray⟩] 69 (0,0)):=(hb6.block _ (by simp)).trans (zG w5 _)
 have A20:w6.cell? ⟨w5.heap.size,0,none⟩=some (.string ⟨s1.toArray⟩):=by simp[World.cell?,A2]
 have A21:w6.cell? ⟨w5.heap.size,1,none⟩=some (.string ⟨t1.toArray⟩):=by simp[World.cell?,A2]
 have hB7:=hB6.alloc hB6.size (.cells #[.string ⟨s2.toArray⟩,.string ⟨t2.toArray⟩] 69)
 clear hb6 A2
 go_wp2_with fail
 refine(CR.out _ (HW.out.below hB7)).mono ?_
 rintro e w8 ⟨rfl,hb8⟩
 have hB8:=hB7.trans (hb8.mono hB7.size)
 clear hb8
 go_wp2_with fail
 refine(CM.out _).mono ?_
 rintro e w9 ⟨rfl,hb9⟩
 have hB9:=hB8.trans (hb9.mono hB8.size)
 clear hb9
 go_wp2_with fail
 go_ret2
 exact⟨rfl,hB9⟩
theorem z2w (x y s1 s2 t1 t2 u v:List UInt8) (z n1 d1:Int) (NA:Hid (∀W:zA,qJ 29 #[St x] W (.tuple #[.agg #[.int .i64 n1,.int .i64 d1],.bool true]))) (NB:Hid (∀W:zA,qJ 29 #[St y] W (.tuple #[.agg #[.int .i64 0,.int .i64 0],.bool false])))
 (RA:Hid (qK 31 #[St x] (.tuple #[.agg #[St s1,St t1],.int .i64 0])))
 (RB:Hid (qK 31 #[St y] (.tuple #[.agg #[St s2,St t2],.int .i64 0])))
 (CR:Hid (qK 32 #[.agg #[St s1,St t1],.agg #[St s2,St t2]] (.tuple #[St u,St v,.int .i64 0])))
 (CM:Hid (∀W:zA,qJ 33 #[St u,St v] W (.tuple #[.int .i64 z,.int .i64 0])))
 (w:zA) (HW:Hid (Wd w)):
 qJ 9 #[St x,St y] w (.tuple #[.int .i64 z,.int .i64 0]):=by
 go_enter Tryz.func9,Tryz.ntmps9
 go_wp2_with fail
 refine(NA.out _).mono ?_
 rintro e w1 ⟨rfl,hB1⟩
 have hB1':=hB1.alloc hB1.size (.cells #[.int .i64 n1,.int .i64 d1] 65)
 clear hB1
 go_wp2_with fail
 refine(NB.out _).mono ?_
 rintro e w2 ⟨rfl,hb2⟩
 have hB2:=hB1'.trans (hb2.mono hB1'.size)
 have hX:=hB2.alloc hB2.size (.cells #[.int .i64 0,.int .i64 0] 65)
 clear hb2 hB1' hB2
 go_wp2_with fail
 refine(RA.out _ (HW.out.below hX)).mono ?_
 rintro e w5 ⟨rfl,hb5⟩
 have hB5:=hX.trans (hb5.mono hX.size)
 have hB5':=hB5.alloc hB5.size (.cells #[.string ⟨s1.toArray⟩,.string ⟨t1.toArray⟩] 69)
 clear hb5
 go_wp2_with fail
 refine(RB.out _ (HW.out.below hB5')).mono ?_
 rintro e w6 ⟨rfl,hb6⟩
 have hz5:=hB5.size
 have z6:w5.heap.size<w6.heap.size:=by have:=hb6.size;simp at this;omega
 have hB6:=hB5'.trans (hb6.mono hB5'.size)
 have A2:w6.heap[w5.heap.size]? =some (.cells #[.string ⟨s1.toArray⟩,.string ⟨t1.toArray⟩] 69 (0,0)):=(hb6.block _ (by simp)).trans (zG w5 _)
 have A20:w6.cell? ⟨w5.heap.size,0,none⟩=some (.string ⟨s1.toArray⟩):=by simp[World.cell?,A2]
 have A21:w6.cell? ⟨w5.heap.size,1,none⟩=some (.string ⟨t1.toArray⟩):=by simp[World.cell?,A2]
 have hB7:=hB6.alloc hB6.size (.cells #[.string ⟨s2.toArray⟩,.string ⟨t2.toArray⟩] 69)
 clear hb6 A2
 go_wp2_with fail
 refine(CR.out _ (HW.out.below hB7)).mono ?_
 rintro e w8 ⟨rfl,hb8⟩
 have hB8:=hB7.trans (hb8.mono hB7.size)
 clear hb8
 go_wp2_with fail
 refine(CM.out _).mono ?_
 rintro e w9 ⟨rfl,hb9⟩
 have hB9:=hB8.trans (hb9.mono hB8.size)
 clear hb9
 go_wp2_with fail
 go_ret2
 exact⟨rfl,hB9⟩
theorem zim (a b:Rat):cmpZ (a.num*b.den) (b.num*a.den)=cmpR a b:=by
 have h1:=Rat.lt_iff a b
 have h2:=Rat.lt_iff b a
 unfold cmpZ
 rcases zaw a b with⟨h,e⟩|⟨h,e⟩|⟨h,e⟩
 ·rw[e,if_pos (h1.1 h)]
 ·subst h;rw[e,if_neg (by omega),if_neg (by omega)]
 ·rw[e,if_neg (by have:=h2.1 h;omega),if_pos (h2.1 h)]
theorem z2x (x y:List UInt8) (n1 d1 n2 d2 p q z:Int) (NA:Hid (∀W:zA,qJ 29 #[St x] W (.tuple #[.agg #[.int .i64 n1,.int .i64 d1],.bool true])))
 (NB:Hid (∀W:zA,qJ 29 #[St y] W (.tuple #[.agg #[.int .i64 n2,.int .i64 d2],.bool true])))
 (v1:IntKind.i64.wrap (n1*d2)=p) (v2:IntKind.i64.wrap (n2*d1)=q)
 (CM:Hid (∀W:zA,Calls Tryz.prog 30 #[.int .i64 p,.int .i64 q] W λe w'=>e=.returned (.int .i64 z)/\w'=W)) (w:zA):
 qJ 9 #[St x,St y] w (.tuple #[.int .i64 z,.int .i64 0]):=by
 go_enter Tryz.func9,Tryz.ntmps9
 go_wp2_with fail
 refine(NA.out _).mono ?_
 rintro e w1 ⟨rfl,hB1⟩
 have hB1':=hB1.alloc hB1.size (.cells #[.int .i64 n1,.int .i64 d1] 65)
 go_wp2_with fail
 refine(NB.out _).mono ?_
 rintro e w2 ⟨rfl,hb2⟩
 have hz1:=hB1.size
 have z2:w1.heap.size<w2.heap.size:=by have:=hb2.size;simp at this;omega
 have hB2:=hB1'.trans (hb2.mono hB1'.size)
 have A2:w2.heap[w1.heap.size]? =some (.cells #[.int .i64 n1,.int .i64 d1] 65 (0,0)):=(hb2.block _ (by simp)).trans (zG w1 _)
 have A20:w2.cell? ⟨w1.heap.size,0,none⟩=some (.int .i64 n1):=by simp[World.cell?,A2]
 have A21:w2.cell? ⟨w1.heap.size,1,none⟩=some (.int .i64 d1):=by simp[World.cell?,A2]
 have hX:=hB2.alloc hB2.size (.cells #[.int .i64 n2,.int .i64 d2] 65)
 clear hb2 A2 hB1 hB1' hB2
 go_wp2_with fail
 refine(CM.out _).mono ?_
 rintro e w3 ⟨rfl,rfl⟩
 go_wp2_with fail
 go_ret2
 exact⟨rfl,hX⟩
theorem zgq (a b:Rat) (i j:Nat) (hi:0<i) (hj:0<j) (hij:i+j<=300) (ha:sz a i) (hb:sz b j) (w:zA) (hw:Wd w):
 qJ 9 #[St (numS a),St (numS b)] w (.tuple #[.int .i64 (cmpR a b),.int .i64 0]):=by
 have oa:=zd0 hi (by omega) ha
 have ob:=zd0 hj (by omega) hb
 have k1:digs (a.num*b.den)<=300:=zO (zcd hi ha.1 hb.2) hij
 have k2:digs (b.num*a.den)<=300:=zO (zcd hj hb.1 ha.2) (by omega)
 have RA:=hid λW hW=>zek a oa W hW
 have RB:=hid λW hW=>zek b ob W hW
 have cr:=λW hW=>zhc a.num b.num a.den b.den oa.1 ob.1 oa.2 ob.2 k1 W hW
 rw[zcf k2,zcg k2] at cr
 have cm:=λW=>zsx (a.num*b.den) (b.num*a.den) k1 k2 W
 rw[zim] at cm
 by_cases h1:zbb a
 ·by_cases h2:zbb b
  ·have e1:=zcv h1
   have e2:=zcv h2
   have p1:=zbs e1.1 e2.2
   have p2:=zbs e2.1 e1.2
   exact z2x _ _ a.num a.den b.num b.den _ _ _ (hid λW=>zbm a h1 W) (hid λW=>zbm b h2 W) (IntWalk.i64_in _ (by omega)) (IntWalk.i64_in _ (by omega))
    (hid λW=>by rw[<-zim];exact Tryz.cmp_Compare_int _ _ W) w
  ·exact z2w _ _ _ _ _ _ _ _ _ a.num a.den (hid λW=>zbm a h1 W) (hid λW=>zb5 b h2 (zO ob.1 (by omega)) (zO ob.2 (by omega)) W) RA RB (hid cr) (hid cm) w (hid hw)
 ·exact z2v _ _ _ _ _ _ _ _ _ (hid λW=>zb5 a h1 (zO oa.1 (by omega)) (zO oa.2 (by omega)) W) RA RB (hid cr) (hid cm) w (hid hw)
theorem zk5 (q:Rat) (h:okQ q) (w:zA) (hw:Wd w):
 qJ 165 #[St (numS q)] w (.tuple #[St (zE q.num),St (zD q.den),.int .i64 0]):=by
 have hc:=zek q h w hw
 generalize numS q=s at hc⊢
 generalize zE q.num=u at hc⊢
 generalize zD q.den=v at hc⊢
 have HC:=hid hc;clear hc h
 go_enter Tryz.func165,Tryz.ntmps165
 go_wp2_with fail
 refine HC.out.mono ?_
 rintro e w1 ⟨rfl,hB⟩
 go_wp2_with fail
 (refine wp_region_quiet_lit (by kernel_rfl) (by kernel_rfl) (WQ.out ?_);(repeat(first|(apply WQ.read (by rfl);(focus(rintro W ⟨n,rfl⟩;go_simp;try with_reducible rfl));try simp only[zzQ])|(apply WQ.skip (by rfl);try simp only[zzQ])));refine WQ.nil ?_;rintro _ ⟨nq,rfl⟩)
 go_wp2_with fail
 go_ret3
 exact⟨rfl,zao (hB.alloc hB.size _) nq⟩
end Go.Proofs.YtccijmidbdapaaaGreatDoor
namespace Go.Proofs.YtccijmidbdapaaaGreatDoor
open Go
variable {P:Program} {ops:Array Oper} {β:Type}
def zfp (P:Program) (C:Value->zA->Prop):Result Next->Prop
 | .ok (.value u) w'=>C u w'
 | .ok .skip w'=>C undef w'
 | .ok (.enter f args) w'=>Calls P f args w' (λe w''=>∃v,e=.returned v/\C v w'')
 |_=>False
theorem zwz {o:Oper} {a:Act} {w:zA} {C:Value->zA->Prop} {K:Act->zA->Prop} {Q:Exit->Act->zA->Prop} (hK:∀v w',C v w'->K (a.put o.dst v) w') (h:zfp P C ((execOp a.eval o).run P w)):o.wp P a w K Q:=by
 unfold Oper.wp
 generalize (execOp a.eval o).run P w=r at*
 cases r with
 |ok x w'=>
  cases x<;>simp only[zfp] at h<;>simp only[Oper.upon]
  ·exact hK _ _ h
  ·exact hK _ _ h
  ·exact h.mono λe w'' ⟨v,he,hc⟩=>by subst he;exact hK _ _ hc
 |halt x w'=>simp only[zfp] at h
def zgx (vs:β->Nat->Value) (C:β->Array Bool->zA->Prop) (i:Nat) (L:Array Bool) (b:β) (v:Value) (w':zA):Prop:=
 ∃b',(∀j,L.getD j false=true->vs b' j=vs b j)/\vs b' i=v/\C b' (L.setIfInBounds i true) w'
def zt8 (P:Program) (ops:Array Oper) (vs:β->Nat->Value) (C:β->Array Bool->zA->Prop) (i:Nat) (o:Oper) (a:Act) (b:β):Prop:=
 ∀L w,AcAt ops i L->C b L w->if Region.wanted o (yielded ops a.tmps) then zfp P (zgx vs C i L b) ((execOp a.eval o).run P w) else zgx vs C i L b undef w
theorem ziw (vs vs':Nat->Value) (a:Act) (L:Array Bool) (h:∀j,L.getD j false=true->vs j=vs' j):∀k,zax ops vs a L k=zax ops vs' a L k
 |0=>rfl
 |k+1=>by
  simp only[zax]
  rw[ziw vs vs' a L h k]
  split
  ·rename_i hk;rw[h k hk]
  ·rfl
theorem zw0 {Q:Exit->Act->zA->Prop} {C:β->Array Bool->zA->Prop} (hB:(acB ops&&zfd ops)=true) (vs:β->Nat->Value) (a:Act)
 (step:∀b i o,ops[i]? =some o->zt8 P ops vs C i o (zax ops (vs b) a (zbw ops.size i) ops.size) b)
 (hend:∀b L w,(∀i,i<ops.size->L.getD i false=true)->C b L w->Q .normal (zax ops (vs b) a (zbw ops.size ops.size) ops.size) w):
 ∀(fuel:Nat) (L:Array Bool) (w:zA) (b:β),L.size=ops.size->zoe ops L->((List.range ops.size).filter λi=>!L.getD i false).length<=fuel->C b L w->wpAny P .any ops Q fuel L (zax ops (vs b) a L ops.size) w:=by
 obtain⟨hsel,hdist,hlook,hback⟩:=zmq hB
 have hq:∀b L w,(∀i,i<ops.size->L.getD i false=true)->C b L w->Q .normal (zax ops (vs b) a L ops.size) w:=by
  intro b L w hall hC
  have e:zax ops (vs b) a L ops.size=zax ops (vs b) a (zbw ops.size ops.size) ops.size:=by
   have:∀k,k<=ops.size->zax ops (vs b) a L k=zax ops (vs b) a (zbw ops.size ops.size) k:=by
    intro k
    induction k with
    |zero=>intro _;rfl
    |succ k ih=>
     intro hk
     simp only[zax]
     rw[ih (by omega),hall k (by omega),zd5]
     simp[show k<ops.size by omega]
   exact this _ (zN _)
  rw[e];exact hend b L w hall hC
 have hready:∀L,L.size=ops.size->Region.ready .any ops L=[]->∀i,i<ops.size->L.getD i false=true:=by
  intro L hsz h0 i
  induction i using Nat.strongRecOn with
  |_ i ih=>
   intro hi
   cases hl:L.getD i false with
   |true=>rfl
   |false=>
    have hm:i∈Region.ready .any ops L:=by
     refine mem_ready.2 ⟨getD_in (by omega) hl,ops[i],by simp[hi],λe he hb=>?_⟩
     have hlt:=hback i (ops[i]) (show ops[i]? =some (ops[i]) from Array.getElem?_eq_getElem hi) e he hb
     exact ih e.on hlt (Nat.lt_trans hlt hi)
    rw[h0] at hm;cases hm
 intro fuel
 induction fuel with
 |zero=>
  intro L w b hsz hcl hcount hC
  have hall:∀i,i<ops.size->L.getD i false=true:=by
   intro i hi
   cases hl:L.getD i false with
   |true=>rfl
   |false=>
    have:i∈(List.range ops.size).filter λi=>!L.getD i false:=List.mem_filter.2 ⟨List.mem_range.2 hi,by rw[hl];rfl⟩
    rw[List.length_eq_zero_iff.1 (Nat.le_zero.1 hcount)] at this;cases this
  refine⟨?_,hq b L w hall hC⟩
  apply List.eq_nil_iff_forall_not_mem.2
  intro i hi
  obtain⟨h1,o,ho,_⟩:=mem_ready.1 hi
  have:=hall i (Array.getElem?_eq_some_iff.1 ho).1
  rw[getD_both h1] at this;cases this
 |succ fuel ih=>
  intro L w b hsz hcl hcount hC
  refine⟨λh0=>hq b L w (hready L hsz h0) hC,λi hi=>?_⟩
  obtain⟨h1,o,ho,hall⟩:=mem_ready.1 hi
  have hin:i<ops.size:=(Array.getElem?_eq_some_iff.1 ho).1
  have hLi:=getD_both h1
  have hdone:∀j,Region.waitsFor .any ops i j=true->L.getD j false=true:=by
   intro j hw
   obtain⟨o',ho',e,he,hb,rfl⟩:=Region.waitsFor_spec hw
   have:o'=o:=Option.some.inj (ho'.symm.trans ho)
   subst this
   exact hall e he hb
  have hopen:∀j,Region.waitsFor .any ops j i=true->L.getD j false=false:=by
   intro j hw
   cases hl:L.getD j false with
   |false=>rfl
   |true=>rw[hcl j i hl hw] at hLi;cases hLi
  have hat:AcAt ops i L:=⟨hsz,hLi,hdone,hcl⟩
  have hst:=step b i o ho L w hat hC
  have hset:=λb'=>zic (vs b') a L i (by omega) hLi (λj d hne hd hj=>by
   rcases Nat.lt_or_ge j ops.size with hjn|hjn
   ·exact hdist i j d hin hjn (Ne.symm hne) hj hd
   ·simp[zcr,Array.getElem?_eq_none hjn] at hj) ops.size
  simp only[if_pos hin] at hset
  have hsame:=zit (ops:=ops) (a:=zax ops (vs b) a L ops.size) (b:=zax ops (vs b) a (zbw ops.size i) ops.size) (o:=o) (λcs b=>Region.noSelect_spec hsel i o cs b ho) (λt ht=>by
   refine zib (vs b) a L _ t ops.size λj hj hd=>?_
   rw[zd5]
   by_cases hji:j=i
   ·subst hji;rw[hLi];simp
   ·have:=hlook i j t hin hj (Ne.symm hji) hd (by simpa [zi8,ho] using ht)
    rcases this with⟨h2,h3⟩|⟨h2,h3⟩
    ·rw[hdone j h3];simp[hj,h2]
    ·rw[hopen j h3];simp;omega)
  have hnext:∀v w',zgx vs C i L b v w'->wpAny P .any ops Q fuel (L.setIfInBounds i true) ((zax ops (vs b) a L ops.size).put o.dst v) w':=by
   rintro v w' ⟨b',hagree,rfl,hC'⟩
   have hd:o.dst=zcr ops i:=by simp[zcr,ho]
   rw[hd,ziw (vs b) (vs b') a L (λj hj=>(hagree j hj).symm) ops.size,<-hset b']
   refine ih _ w' b' (by simpa using hsz) ?_ ?_ hC'
   ·intro x y hx hw
    rw[zdp L i _ (by omega)] at hx⊢
    split
    ·rfl
    ·split at hx
     ·rename_i h;subst h;exact hdone y hw
     ·exact hcl x y hx hw
   ·have e:((List.range ops.size).filter λx=>!(L.setIfInBounds i true).getD x false)=((List.range ops.size).filter λx=>!L.getD x false).filter λx=>decide (x≠i):=by
     rw[List.filter_filter]
     refine List.filter_congr λx _=>?_
     rw[zdp L i x (by omega)]
     by_cases h:i=x
     ·subst h;simp
     ·simp[h,Ne.symm h]
    rw[e]
    have:=(List.length_filter_lt_length_iff_exists (l:=(List.range ops.size).filter λx=>!L.getD x false) (p:=λx=>decide (x≠i))).2 ⟨i,List.mem_filter.2 ⟨List.mem_range.2 hin,by rw[hLi];rfl⟩,by simp⟩
    omega
  unfold wpOp
  simp only[ho]
  rw[hsame.2]
  by_cases hw:Region.wanted o (yielded ops (zax ops (vs b) a (zbw ops.size i) ops.size).tmps)=true
  ·rw[if_pos hw] at hst⊢
   rw[<-hsame.1] at hst
   exact .inl (zwz hnext hst)
  ·rw[if_neg hw] at hst⊢
   exact hnext _ _ hst
def zhn (vs:β->Nat->Value) (C:β->(Nat->Bool)->zA->Prop) (i:Nat) (f:Nat->Bool) (b:β) (v:Value) (w':zA):Prop:=
 ∃b',(∀j,f j=true->vs b' j=vs b j)/\vs b' i=v/\C b' (λj=>if i=j then true else f j) w'
def zt1 (P:Program) (ops:Array Oper) (vs:β->Nat->Value) (C:β->(Nat->Bool)->zA->Prop) (i:Nat) (o:Oper) (a:Act) (b:β):Prop:=
 ∀f w,AcF ops i f->C b f w->
  if Region.wanted o (yielded ops a.tmps) then zfp P (zhn vs C i f b) ((execOp a.eval o).run P w) else zhn vs C i f b undef w
def AcLB (P:Program) (ops:Array Oper) (vs:β->Nat->Value) (C:β->(Nat->Bool)->zA->Prop) (K:Act->zA->Prop) (b:β):Nat->List Oper->Act->Prop
 |_,[],a=>∀f w,(∀i,i<ops.size->f i=true)->C b f w->K a w
 |k,o::rest,a=>zt1 P ops vs C k o a b/\AcLB P ops vs C K b (k+1) rest (a.put o.dst (vs b k))
section
variable {vs:β->Nat->Value} {C:β->(Nat->Bool)->zA->Prop} {K:Act->zA->Prop} {k:Nat} {o:Oper} {rest:List Oper} {a:Act} {b:β}
theorem ze1 (h:∀f w,(∀i,i<ops.size->f i=true)->C b f w->K a w):AcLB P ops vs C K b k [] a:=h
theorem zag (v:Value) (hv:vs b k=v) (hw:Region.wanted o (yielded ops a.tmps)=true)
 (hset:∀f w,C b f w->C b (λj=>if k=j then true else f j) w)
 (hy:∀f w,AcF ops k f->C b f w->(execOp a.eval o).run P w=.ok (.value v) w)
 (h:AcLB P ops vs C K b (k+1) rest (a.put o.dst v)):AcLB P ops vs C K b k (o::rest) a:=by
 subst hv
 refine⟨λf w hf hC=>?_,h⟩
 rw[if_pos hw,hy f w hf hC]
 exact⟨b,λ_ _=>rfl,rfl,hset f w hC⟩
theorem qB (v:Value) (hset:∀f w,C b f w->C b (λj=>if k=j then true else f j) w) (h:AcLB P ops vs C K b (k+1) rest (a.put o.dst v)) (hv:vs b k=v:=by rfl) (hw:Region.wanted o (yielded ops a.tmps)=true:=by rfl) (hy:∀f w,AcF ops k f->C b f w->(execOp a.eval o).run P w=.ok (.value v) w:=by intro f W' hf h;go_simp):AcLB P ops vs C K b k (o::rest) a:=zag v hv hw hset hy h
theorem zbv (v:Value) (hv:vs b k=v) (hw:Region.wanted o (yielded ops a.tmps)=true)
 (hy:∀f w,AcF ops k f->C b f w->∀C':Value->zA->Prop,(∀w',C b (λj=>if k=j then true else f j) w'->C' v w')->zfp P C' ((execOp a.eval o).run P w))
 (h:AcLB P ops vs C K b (k+1) rest (a.put o.dst v)):AcLB P ops vs C K b k (o::rest) a:=by
 subst hv
 refine⟨λf w hf hC=>?_,h⟩
 rw[if_pos hw]
 exact hy f w hf hC _ λw' h'=>⟨b,λ_ _=>rfl,rfl,h'⟩
theorem zdc (v:Value) (hv:vs b k=v) (hw:Region.wanted o (yielded ops a.tmps)=true)
 (hy:∀f w,AcF ops k f->C b f w->∀C':Value->zA->Prop,(∀b' w',(∀j,f j=true->vs b' j=vs b j)->C b' (λj=>if k=j then true else f j) w'->C' (vs b' k) w')->zfp P C' ((execOp a.eval o).run P w))
 (h:AcLB P ops vs C K b (k+1) rest (a.put o.dst v)):AcLB P ops vs C K b k (o::rest) a:=by
 subst hv
 refine⟨λf w hf hC=>?_,h⟩
 rw[if_pos hw]
 exact hy f w hf hC _ λb' w' hj h'=>⟨b',hj,rfl,h'⟩
end
theorem zk6 {vs:β->Nat->Value} {C:β->(Nat->Bool)->zA->Prop} {K:Act->zA->Prop} {b:β}:∀(l:List Oper) (k:Nat) (a:Act),AcLB P ops vs C K b k l a->
 (∀i o,l[i]? =some o->zt1 P ops vs C (k+i) o (zbq (vs b) k l a i) b)/\(∀f w,(∀i,i<ops.size->f i=true)->C b f w->K (zbq (vs b) k l a l.length) w)
 |[],k,a,h=>⟨λi o h=>by simp at h,h⟩
 |o::l,k,a,⟨hv,h⟩=>by
  obtain⟨h1,h2⟩:=zk6 l (k+1) _ h
  refine⟨λi o' ho=>?_,?_⟩
  ·cases i with
   |zero=>
    obtain rfl:o=o':=by simpa using ho
    simpa [zbq] using hv
   |succ i=>
    have:=h1 i o' (by simpa using ho)
    simp only[zbq]
    rw[show k+(i+1)=k+1+i by omega]
    exact this
  ·simp only[zbq,List.length_cons]
   exact h2
theorem znn {K:Act->zA->Prop} {Q:Exit->Act->zA->Prop} (hQ:∀a w,K a w->Q .normal a w) {l:List Oper} (vs:β->Nat->Value) (C:β->(Nat->Bool)->zA->Prop) (hB:(acB l.toArray&&zfd l.toArray)=true) {a:Act} {w:zA} (b0:β) (hC:C b0 (λ_=>false) w) (h:∀b,AcLB P l.toArray vs C K b 0 l a):
 wpAny P .any l.toArray Q l.toArray.size (Array.replicate l.toArray.size false) a w:=by
 have e0:zax l.toArray (vs b0) a (Array.replicate l.toArray.size false) l.toArray.size=a:=by
  have:∀k,zax l.toArray (vs b0) a (Array.replicate l.toArray.size false) k=a:=by
   intro k
   induction k with
   |zero=>rfl
   |succ k ih=>
    have:(Array.replicate l.toArray.size false).getD k false=false:=by
     simp only[Array.getD];split<;>simp
    simp only[zax,this,Bool.false_eq_true,if_false];exact ih
  exact this _
 have:=zw0 (P:=P) (ops:=l.toArray) (Q:=Q) (C:=λb L w=>C b (λj=>L.getD j false) w) hB vs a ?_ ?_ l.toArray.size (Array.replicate l.toArray.size false) w b0 (by simp) ?_ ?_ ?_
 ·rw[e0] at this;exact this
 ·intro b i o ho L w hat hc
  have h1:=(zk6 l 0 a (h b)).1
  have hi:i<l.length:=by
   have:=(Array.getElem?_eq_some_iff.1 ho).1
   simpa using this
  have hst:=h1 i o (by simpa using ho) (λj=>L.getD j false) w (by rw[Nat.zero_add];exact⟨hat.self,hat.done,hat.closed⟩) hc
  have ea:zax l.toArray (vs b) a (zbw l.toArray.size i) l.toArray.size=zbq (vs b) 0 l a i:=by
   have:=zdg (vs b) l a i (by omega) l.length (zN _)
   rw[Nat.min_eq_left (by omega)] at this
   simpa using this
  have es:(λj=>(L.setIfInBounds i true).getD j false)=(λj=>if i=j then true else L.getD j false):=by
   funext j
   exact zdp L i j (by rw[hat.size];simpa using hi)
  rw[Nat.zero_add] at hst
  rw[ea]
  unfold zhn at hst
  unfold zgx
  simp only[es]
  exact hst
 ·intro b L w hall hc
  have h2:=(zk6 l 0 a (h b)).2
  have ea:zax l.toArray (vs b) a (zbw l.toArray.size l.toArray.size) l.toArray.size=zbq (vs b) 0 l a l.length:=by
   have:=zdg (vs b) l a l.length (zN _) l.length (zN _)
   rw[Nat.min_self] at this
   simpa using this
  rw[ea]
  exact hQ _ _ (h2 _ w hall hc)
 ·intro i j hi
  have:(Array.replicate l.toArray.size false).getD i false=false:=by simp only[Array.getD];split<;>simp
  rw[this] at hi;cases hi
 ·refine zO (List.length_filter_le _ _) (by simp)
 ·have:(λj=>(Array.replicate l.toArray.size false).getD j false)= λ_=>false:=by
   funext j
   simp only[Array.getD];split<;>simp
  simpa only[this] using hC
theorem zc4 {id:Nat} {Q:Exit->Act->zA->Prop} {a:Act} {w:zA} {l:List Oper} (vs:β->Nat->Value) (C:β->(Nat->Bool)->zA->Prop) (hm:P.follows .mixedOrders=true) (hB:(acB l.toArray&&zfd l.toArray)=true) (b0:β) (hC:C b0 (λ_=>false) {w with drawn:=w.drawn+1})
 (h:∀b,AcLB P l.toArray vs C (Q .normal) b 0 l a):(Code.region id l.toArray true).wp P Q a w:=
 wp_region_any hm (znn (λ_ _ h=>h) vs C hB b0 hC h)
theorem zgv {l n id:Nat} {Q:Exit->Act->zA->Prop} {a:Act} {w:zA} {ol:List Oper} (vs:β->Nat->Value) (C:β->(Nat->Bool)->zA->Prop) (hm:P.follows .mixedOrders=true) (hB:(acB ol.toArray&&zfd ol.toArray)=true) (hnd:zhj ol.toArray=true) (b0:β) (hC:C b0 (λ_=>false) {w with drawn:=w.drawn+1})
 (h:∀b,AcLB P ol.toArray vs C (Q .normal) b 0 ol a):(Code.region id ol.toArray true).wpIn (Fence.wide.inRound l) n P Q a w:=
 wpIn_region_any hm (zd4 hnd (Q:=λe a w=>e=.normal/\Q .normal a w) (λ_ _ _ h h'=>h h'.1) (λ_ _ h=>h.2) _ _ _ _ (znn (λ_ _ h=>⟨rfl,h⟩) vs C hB b0 hC h))
end Go.Proofs.YtccijmidbdapaaaGreatDoor
namespace Go.Proofs.YtccijmidbdapaaaGreatDoor
open Go.RowKit Go.Shelf Lib Str Limb Geo
attribute [local go_sem] Oper.semAt_some
section
variable {w W W':zA} {x1 y1 x2 y2 x3 y3 x4 y4 lx ly hx hy:List UInt8} {b:Nat×Nat} {f g:Nat->Bool}
end
section
variable {w W W':zA} {x1 y1 x2 y2 x3 y3 x4 y4 fx fy gx gy:List UInt8} {p q:Nat}
end
theorem zok {q:Rat} {k:Nat} (hk:0<k) (h:sz q k):digs q.num<=k/\(zD q.den).length<=k:=⟨(za3 _ _ hk).2 h.1,(zaf _ _ hk).2 h.2⟩
end Go.Proofs.YtccijmidbdapaaaGreatDoor
namespace Go.Proofs.YtccijmidbdapaaaGreatDoor
open Go.RowKit Go.Shelf Lib Str Limb
attribute [local go_sem] Oper.semAt_some
theorem zzg (x u v:List UInt8)
 (PA:Hid (qK 165 #[St x] (.tuple #[St u,St v,.int .i64 0]))) (w:zA) (HW:Hid (Wd w)):
 qJ 136 #[St x] w (.agg #[St u,St v]):=by
 obtain⟨W1,hW1⟩:∃W1,W1=w.alloc (.cells #[St [],St []] 200):=⟨_,rfl⟩
 have hb1:qL w W1:=by rw[hW1];exact(Below.refl _ w).alloc (zN _) _
 have A1:W1.heap[w.heap.size]? =some (.cells #[St [],St []] 200 (0,0)):=by rw[hW1];exact zG w _
 have hz:W1.heap.size=w.heap.size+1:=by rw[hW1];simp
 have HW1:=hid hW1;clear hW1
 go_enter Tryz.func136,Tryz.ntmps136
 go_wp2_with fail
 have h9:=HW1.out
 rw[<-h9]
 clear h9
 refine(PA.out _ (HW.out.below hb1)).mono ?_
 rintro e w2 ⟨rfl,hb2⟩
 have hB2:=hb1.trans (hb2.mono hb1.size)
 have A2:w2.heap[w.heap.size]? =some (.cells #[St [],St []] 200 (0,0)):=(hb2.block _ (by omega)).trans A1
 have b0:w2.cell? ⟨w.heap.size,0,none⟩=some (St []):=by rw[zJ A2];rfl
 have b1:w2.cell? ⟨w.heap.size,1,none⟩=some (St []):=by rw[zJ A2];rfl
 have f0:w2.frozen? ⟨w.heap.size,0,none⟩=false:=Go.Joins.unfrozen_of_block A2 0
 have f1:w2.frozen? ⟨w.heap.size,1,none⟩=false:=Go.Joins.unfrozen_of_block A2 1
 clear A1 A2 hb2
 go_wp2_with fail
 refine bodyPost_ret (v:=.agg #[St u,St v]) (by simp[results,Tryz.results136,go_sem,b0,b1]) rfl ⟨rfl,?_⟩
 repeat(first|exact hB2|refine Below.setCell ?_ (by simp) _)
theorem zio (q:Rat) (h:okQ q) (w:zA) (hw:Wd w):
 qJ 136 #[St (numS q)] w (.agg #[St (zE q.num),St (zD q.den)]):=
 zzg _ _ _ (hid λW hW=>zk5 q h W hW) w (hid hw)
theorem zkh (x:Int) (w:zA):
 qJ 166 #[St (zE x)] w (.int .i64 (digs x:Nat)):=by
 obtain⟨t,ht⟩:∃t:ByteArray,t=⟨(trimPrefix (⟨(zE x).toArray⟩:ByteArray).data.toList [45]).toArray⟩:=⟨_,rfl⟩
 have hs:t.size=digs x:=by
  rw[ht];show(trimPrefix (zE x) [45]).toArray.size=_
  rw[zbi];simp[digs]
 rw[<-hs]
 have HT:=hid ht;clear ht hs
 show Calls _ _ #[.string ⟨(zE x).toArray⟩] _ _
 generalize (⟨(zE x).toArray⟩:ByteArray)=u at*
 go_enter Tryz.func166,Tryz.ntmps166
 go_wp2_with fail
 refine(Tryz.strings_TrimPrefix _ _ _).mono ?_
 rintro e w' ⟨rfl,hw1⟩
 have hw2:=hw1.symm;subst hw2
 have h9:=HT.out
 rw[<-show t=⟨(trimPrefix u.data.toList (⟨#[45]⟩:ByteArray).data.toList).toArray⟩ from h9]
 clear h9 hw1
 go_wp2_with fail
 go_ret
 exact⟨rfl,Below.refl _ _⟩
theorem zw3 (x u v:List UInt8) (a b:Nat) (w:zA) (HW:Hid (Wd w))
 (PA:Hid (qK 165 #[St x] (.tuple #[St u,St v,.int .i64 0])))
 (D1:Hid (∀W:zA,qJ 166 #[St u] W (.int .i64 a)))
 (D2:Hid (∀W:zA,qJ 166 #[St v] W (.int .i64 b))):
 qJ 128 #[St x] w (.int .i64 (max (a:Int) b)):=by
 go_enter Tryz.func128,Tryz.ntmps128
 go_wp2_with fail
 refine(PA.out _ HW.out).mono ?_
 rintro e w1 ⟨rfl,hb1⟩
 go_wp2_with fail
 refine(D1.out _).mono ?_
 rintro e w2 ⟨rfl,hb2⟩
 go_wp2_with fail
 refine(D2.out _).mono ?_
 rintro e w3 ⟨rfl,hb3⟩
 go_wp2_with fail
 go_ret
 have h2:=hb1.trans (hb2.mono hb1.size)
 exact⟨rfl,h2.trans (hb3.mono h2.size)⟩
theorem znp (q:Rat) (h:okQ q) (w:zA) (hw:Wd w):
 qJ 128 #[St (numS q)] w (.int .i64 (max (digs q.num:Int) (digs (q.den:Int):Nat))):=
 zw3 _ (zE q.num) (zD q.den) _ _ w (hid hw) (hid λW hW=>zk5 q h W hW) (hid λW=>zkh q.num W) (hid λW=>by have:=zkh (q.den:Int) W;rwa [Str.zad] at this)
end Go.Proofs.YtccijmidbdapaaaGreatDoor
