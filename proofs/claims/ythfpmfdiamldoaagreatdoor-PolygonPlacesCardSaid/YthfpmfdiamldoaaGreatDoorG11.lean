/- rational.both, quick. -/
import Derived.Test.YthfpmfdiamldoaaGreatDoorG10
set_option maxRecDepth 100000
set_option maxHeartbeats 8000000
open Go renaming World → zA
open Go.Lib renaming decDigits → zD
open Go.World renaming alloc_heap_new → zG, size_alloc → zH
open Nat renaming le_trans → zO
namespace Go.Proofs.YthfpmfdiamldoaaGreatDoor
open Go.RowKit Go.Shelf Lib Str Limb
attribute [local go_sem] Oper.semAt_some
theorem zo5 (a b:Rat) (ha:okQ a) (hb:okQ b) (c:Nat) (r:List UInt8) (w:zA) (hw:Wd w)
 (H:∀W:zA,qL w W->Wd W->qJ 116 #[zb1 a,zb1 b,.pointer (some ⟨c,0,none⟩)] W (.tuple #[St r,.int .i64 0])):
 qJ 63 #[St (numS a),St (numS b),.func (.func 116) #[] #[.pointer (some ⟨c,0,none⟩)]] w (.tuple #[St r,.int .i64 0]):=by
 have r1:=λW hW=>zek a ha W hW
 have r2:=λW hW=>zek b hb W hW
 unfold zb1 at H
 generalize numS a=x at r1⊢
 generalize numS b=y at r2⊢
 generalize itoa a.num=s1 at H r1
 generalize itoa b.num=s2 at H r2
 generalize zD a.den=t1 at H r1
 generalize zD b.den=t2 at H r2
 have R1:=hid r1;have R2:=hid r2;have HH:=hid H;have HW:=hid hw
 clear r1 r2 H hw ha hb
 go_enter Tryz.func63,Tryz.ntmps63
 go_wp2_with fail
 refine(R1.out _ HW.out).mono ?_
 rintro e w1 ⟨rfl,hB1⟩
 have hB1':=hB1.alloc hB1.size (.cells #[.string ⟨s1.toArray⟩,.string ⟨t1.toArray⟩] 82)
 go_wp2_with fail
 refine(R2.out _ (HW.out.below hB1')).mono ?_
 rintro e w2 ⟨rfl,hb2⟩
 have hz1:=hB1.size
 have z2:w1.heap.size<w2.heap.size:=by have:=hb2.size;simp at this;omega
 have hB2:=hB1'.trans (hb2.mono hB1'.size)
 have A2:w2.heap[w1.heap.size]? =some (.cells #[.string ⟨s1.toArray⟩,.string ⟨t1.toArray⟩] 82 (0,0)):=(hb2.block _ (by simp)).trans (zG w1 _)
 have A20:w2.cell? ⟨w1.heap.size,0,none⟩=some (.string ⟨s1.toArray⟩):=by simp[World.cell?,A2]
 have A21:w2.cell? ⟨w1.heap.size,1,none⟩=some (.string ⟨t1.toArray⟩):=by simp[World.cell?,A2]
 have hB3:=hB2.alloc hB2.size (.cells #[.string ⟨s2.toArray⟩,.string ⟨t2.toArray⟩] 82)
 clear hb2 A2 hB1 hB1'
 go_wp2_with fail
 refine(HH.out _ hB3 (HW.out.below hB3)).mono ?_
 rintro e w4 ⟨rfl,hb4⟩
 have hB4:=hB3.trans (hb4.mono hB3.size)
 clear hb4
 go_wp2_with fail
 go_ret2
 exact⟨rfl,hB4⟩
theorem zza (a b:Rat) (ha:okQ a) (hb:okQ b) (r:List UInt8) (w:zA) (hw:Wd w)
 (H:∀W:zA,qL w W->Wd W->qJ 67 #[zb1 a,zb1 b] W (.tuple #[St r,.int .i64 0])):
 qJ 63 #[St (numS a),St (numS b),.func (.func 67) #[] #[]] w (.tuple #[St r,.int .i64 0]):=by
 have r1:=λW hW=>zek a ha W hW
 have r2:=λW hW=>zek b hb W hW
 unfold zb1 at H
 generalize numS a=x at r1⊢
 generalize numS b=y at r2⊢
 generalize itoa a.num=s1 at H r1
 generalize itoa b.num=s2 at H r2
 generalize zD a.den=t1 at H r1
 generalize zD b.den=t2 at H r2
 have R1:=hid r1;have R2:=hid r2;have HH:=hid H;have HW:=hid hw
 clear r1 r2 H hw ha hb
 go_enter Tryz.func63,Tryz.ntmps63
 go_wp2_with fail
 refine(R1.out _ HW.out).mono ?_
 rintro e w1 ⟨rfl,hB1⟩
 have hB1':=hB1.alloc hB1.size (.cells #[.string ⟨s1.toArray⟩,.string ⟨t1.toArray⟩] 82)
 go_wp2_with fail
 refine(R2.out _ (HW.out.below hB1')).mono ?_
 rintro e w2 ⟨rfl,hb2⟩
 have hz1:=hB1.size
 have z2:w1.heap.size<w2.heap.size:=by have:=hb2.size;simp at this;omega
 have hB2:=hB1'.trans (hb2.mono hB1'.size)
 have A2:w2.heap[w1.heap.size]? =some (.cells #[.string ⟨s1.toArray⟩,.string ⟨t1.toArray⟩] 82 (0,0)):=(hb2.block _ (by simp)).trans (zG w1 _)
 have A20:w2.cell? ⟨w1.heap.size,0,none⟩=some (.string ⟨s1.toArray⟩):=by simp[World.cell?,A2]
 have A21:w2.cell? ⟨w1.heap.size,1,none⟩=some (.string ⟨t1.toArray⟩):=by simp[World.cell?,A2]
 have hB3:=hB2.alloc hB2.size (.cells #[.string ⟨s2.toArray⟩,.string ⟨t2.toArray⟩] 82)
 clear hb2 A2 hB1 hB1'
 go_wp2_with fail
 refine(HH.out _ hB3 (HW.out.below hB3)).mono ?_
 rintro e w4 ⟨rfl,hb4⟩
 have hB4:=hB3.trans (hb4.mono hB3.size)
 clear hb4
 go_wp2_with fail
 go_ret2
 exact⟨rfl,hB4⟩
theorem zzb (a b:Rat) (ha:okQ a) (hb:okQ b) (r:List UInt8) {E:Int} (w:zA) (hw:Wd w)
 (H:∀W:zA,qL w W->Wd W->qJ 71 #[zb1 a,zb1 b] W (.tuple #[St r,.int .i64 E])):
 qJ 63 #[St (numS a),St (numS b),.func (.func 71) #[] #[]] w (.tuple #[St r,.int .i64 E]):=by
 have r1:=λW hW=>zek a ha W hW
 have r2:=λW hW=>zek b hb W hW
 unfold zb1 at H
 generalize numS a=x at r1⊢
 generalize numS b=y at r2⊢
 generalize itoa a.num=s1 at H r1
 generalize itoa b.num=s2 at H r2
 generalize zD a.den=t1 at H r1
 generalize zD b.den=t2 at H r2
 have R1:=hid r1;have R2:=hid r2;have HH:=hid H;have HW:=hid hw
 clear r1 r2 H hw ha hb
 go_enter Tryz.func63,Tryz.ntmps63
 go_wp2_with fail
 refine(R1.out _ HW.out).mono ?_
 rintro e w1 ⟨rfl,hB1⟩
 have hB1':=hB1.alloc hB1.size (.cells #[.string ⟨s1.toArray⟩,.string ⟨t1.toArray⟩] 82)
 go_wp2_with fail
 refine(R2.out _ (HW.out.below hB1')).mono ?_
 rintro e w2 ⟨rfl,hb2⟩
 have hz1:=hB1.size
 have z2:w1.heap.size<w2.heap.size:=by have:=hb2.size;simp at this;omega
 have hB2:=hB1'.trans (hb2.mono hB1'.size)
 have A2:w2.heap[w1.heap.size]? =some (.cells #[.string ⟨s1.toArray⟩,.string ⟨t1.toArray⟩] 82 (0,0)):=(hb2.block _ (by simp)).trans (zG w1 _)
 have A20:w2.cell? ⟨w1.heap.size,0,none⟩=some (.string ⟨s1.toArray⟩):=by simp[World.cell?,A2]
 have A21:w2.cell? ⟨w1.heap.size,1,none⟩=some (.string ⟨t1.toArray⟩):=by simp[World.cell?,A2]
 have hB3:=hB2.alloc hB2.size (.cells #[.string ⟨s2.toArray⟩,.string ⟨t2.toArray⟩] 82)
 clear hb2 A2 hB1 hB1'
 go_wp2_with fail
 refine(HH.out _ hB3 (HW.out.below hB3)).mono ?_
 rintro e w4 ⟨rfl,hb4⟩
 have hB4:=hB3.trans (hb4.mono hB3.size)
 clear hb4
 go_wp2_with fail
 go_ret2
 exact⟨rfl,hB4⟩
theorem zp2 (a b:Rat) (ha:zbb a) (hb:zbb b) (n d:Int) (r:List UInt8) (w:zA) (hw:Wd w)
 (H:∀W:zA,qJ 62 #[.agg #[.int .i64 a.num,I a.den],.agg #[.int .i64 b.num,I b.den]] W (.agg #[.int .i64 n,.int .i64 d]))
 (N:qK 115 #[.agg #[.int .i64 n,.int .i64 d]] (St r)):
 qJ 61 #[St (numS a),St (numS b),.func (.func 62) #[] #[]] w (.tuple #[St r,.bool true]):=by
 have r1:=λW=>zbm a ha W
 have r2:=λW=>zbm b hb W
 generalize numS a=x at r1⊢
 generalize numS b=y at r2⊢
 generalize a.num=n1 at H r1
 generalize b.num=n2 at H r2
 generalize a.den=d1 at H r1
 generalize b.den=d2 at H r2
 have R1:=hid r1;have R2:=hid r2;have HH:=hid H;have HN:=hid N;have HW:=hid hw
 clear r1 r2 H N hw ha hb
 go_enter Tryz.func61,Tryz.ntmps61
 go_wp2_with fail
 refine(R1.out _).mono ?_
 rintro e w1 ⟨rfl,hB1⟩
 have hB1':=hB1.alloc hB1.size (.cells #[.int .i64 n1,.int .i64 (d1:Int)] 77)
 go_wp2_with fail
 refine(R2.out _).mono ?_
 rintro e w2 ⟨rfl,hb2⟩
 have hz1:=hB1.size
 have z2:w1.heap.size<w2.heap.size:=by have:=hb2.size;simp at this;omega
 have hB2:=hB1'.trans (hb2.mono hB1'.size)
 have A2:w2.heap[w1.heap.size]? =some (.cells #[.int .i64 n1,.int .i64 (d1:Int)] 77 (0,0)):=(hb2.block _ (by simp)).trans (zG w1 _)
 have A20:w2.cell? ⟨w1.heap.size,0,none⟩=some (.int .i64 n1):=by simp[World.cell?,A2]
 have A21:w2.cell? ⟨w1.heap.size,1,none⟩=some (.int .i64 (d1:Int)):=by simp[World.cell?,A2]
 have hB3:=hB2.alloc hB2.size (.cells #[.int .i64 n2,.int .i64 (d2:Int)] 77)
 clear hb2 A2 hB1 hB1'
 go_wp2_with fail
 refine(HH.out _).mono ?_
 rintro e w4 ⟨rfl,hb4⟩
 have hB4:=hB3.trans (hb4.mono hB3.size)
 clear hb4
 go_wp2_with fail
 refine(HN.out _ (HW.out.below hB4)).mono ?_
 rintro e w5 ⟨rfl,hb5⟩
 have hB5:=hB4.trans (hb5.mono hB4.size)
 clear hb5
 go_wp2_with fail
 go_ret2
 exact⟨rfl,hB5⟩
theorem zrb (a b:Rat) (h:¬(zbb a/\zbb b)) (ha:okQ a) (hb:okQ b) (w:zA):
 qJ 61 #[St (numS a),St (numS b),.func (.func 62) #[] #[]] w (.tuple #[St [],.bool false]):=by
 by_cases h1:zbb a
 ·have h2:¬zbb b:=λh2=>h ⟨h1,h2⟩
  have r1:=λW=>zbm a h1 W
  have r2:=λW=>zb5 b h2 (zO hb.1 (by omega)) (zO hb.2 (by omega)) W
  generalize numS a=x at r1⊢
  generalize numS b=y at r2⊢
  generalize a.num=n1 at r1
  generalize a.den=d1 at r1
  have R1:=hid r1;have R2:=hid r2
  clear r1 r2 h1 h2 h ha hb
  go_enter Tryz.func61,Tryz.ntmps61
  go_wp2_with fail
  refine(R1.out _).mono ?_
  rintro e w1 ⟨rfl,hB1⟩
  have hB1':=hB1.alloc hB1.size (.cells #[.int .i64 n1,.int .i64 (d1:Int)] 77)
  go_wp2_with fail
  refine(R2.out _).mono ?_
  rintro e w2 ⟨rfl,hb2⟩
  have hB2:=hB1'.trans (hb2.mono hB1'.size)
  clear hb2 hB1 hB1'
  go_wp2_with fail
  go_ret2
  exact⟨rfl,hB2.alloc hB2.size _⟩
 ·have r1:=λW=>zb5 a h1 (zO ha.1 (by omega)) (zO ha.2 (by omega)) W
  generalize numS a=x at r1⊢
  generalize numS b=y at⊢
  have R1:=hid r1
  clear r1 h1 h ha hb
  go_enter Tryz.func61,Tryz.ntmps61
  go_wp2_with fail
  refine(R1.out _).mono ?_
  rintro e w1 ⟨rfl,hB1⟩
  go_wp2_with fail
  go_ret2
  exact⟨rfl,hB1.alloc hB1.size _⟩
theorem zp3 (a b:Rat) (ha:zbb a) (hb:zbb b) (n d:Int) (r:List UInt8) (w:zA) (hw:Wd w)
 (H:∀W:zA,qJ 152 #[.agg #[.int .i64 a.num,I a.den],.agg #[.int .i64 b.num,I b.den]] W (.agg #[.int .i64 n,.int .i64 d]))
 (N:qK 115 #[.agg #[.int .i64 n,.int .i64 d]] (St r)):
 qJ 61 #[St (numS a),St (numS b),.func (.func 152) #[] #[]] w (.tuple #[St r,.bool true]):=by
 have r1:=λW=>zbm a ha W
 have r2:=λW=>zbm b hb W
 generalize numS a=x at r1⊢
 generalize numS b=y at r2⊢
 generalize a.num=n1 at H r1
 generalize b.num=n2 at H r2
 generalize a.den=d1 at H r1
 generalize b.den=d2 at H r2
 have R1:=hid r1;have R2:=hid r2;have HH:=hid H;have HN:=hid N;have HW:=hid hw
 clear r1 r2 H N hw ha hb
 go_enter Tryz.func61,Tryz.ntmps61
 go_wp2_with fail
 refine(R1.out _).mono ?_
 rintro e w1 ⟨rfl,hB1⟩
 have hB1':=hB1.alloc hB1.size (.cells #[.int .i64 n1,.int .i64 (d1:Int)] 77)
 go_wp2_with fail
 refine(R2.out _).mono ?_
 rintro e w2 ⟨rfl,hb2⟩
 have hz1:=hB1.size
 have z2:w1.heap.size<w2.heap.size:=by have:=hb2.size;simp at this;omega
 have hB2:=hB1'.trans (hb2.mono hB1'.size)
 have A2:w2.heap[w1.heap.size]? =some (.cells #[.int .i64 n1,.int .i64 (d1:Int)] 77 (0,0)):=(hb2.block _ (by simp)).trans (zG w1 _)
 have A20:w2.cell? ⟨w1.heap.size,0,none⟩=some (.int .i64 n1):=by simp[World.cell?,A2]
 have A21:w2.cell? ⟨w1.heap.size,1,none⟩=some (.int .i64 (d1:Int)):=by simp[World.cell?,A2]
 have hB3:=hB2.alloc hB2.size (.cells #[.int .i64 n2,.int .i64 (d2:Int)] 77)
 clear hb2 A2 hB1 hB1'
 go_wp2_with fail
 refine(HH.out _).mono ?_
 rintro e w4 ⟨rfl,hb4⟩
 have hB4:=hB3.trans (hb4.mono hB3.size)
 clear hb4
 go_wp2_with fail
 refine(HN.out _ (HW.out.below hB4)).mono ?_
 rintro e w5 ⟨rfl,hb5⟩
 have hB5:=hB4.trans (hb5.mono hB4.size)
 clear hb5
 go_wp2_with fail
 go_ret2
 exact⟨rfl,hB5⟩
theorem zrc (a b:Rat) (h:¬(zbb a/\zbb b)) (ha:okQ a) (hb:okQ b) (w:zA):
 qJ 61 #[St (numS a),St (numS b),.func (.func 152) #[] #[]] w (.tuple #[St [],.bool false]):=by
 by_cases h1:zbb a
 ·have h2:¬zbb b:=λh2=>h ⟨h1,h2⟩
  have r1:=λW=>zbm a h1 W
  have r2:=λW=>zb5 b h2 (zO hb.1 (by omega)) (zO hb.2 (by omega)) W
  generalize numS a=x at r1⊢
  generalize numS b=y at r2⊢
  generalize a.num=n1 at r1
  generalize a.den=d1 at r1
  have R1:=hid r1;have R2:=hid r2
  clear r1 r2 h1 h2 h ha hb
  go_enter Tryz.func61,Tryz.ntmps61
  go_wp2_with fail
  refine(R1.out _).mono ?_
  rintro e w1 ⟨rfl,hB1⟩
  have hB1':=hB1.alloc hB1.size (.cells #[.int .i64 n1,.int .i64 (d1:Int)] 77)
  go_wp2_with fail
  refine(R2.out _).mono ?_
  rintro e w2 ⟨rfl,hb2⟩
  have hB2:=hB1'.trans (hb2.mono hB1'.size)
  clear hb2 hB1 hB1'
  go_wp2_with fail
  go_ret2
  exact⟨rfl,hB2.alloc hB2.size _⟩
 ·have r1:=λW=>zb5 a h1 (zO ha.1 (by omega)) (zO ha.2 (by omega)) W
  generalize numS a=x at r1⊢
  generalize numS b=y at⊢
  have R1:=hid r1
  clear r1 h1 h ha hb
  go_enter Tryz.func61,Tryz.ntmps61
  go_wp2_with fail
  refine(R1.out _).mono ?_
  rintro e w1 ⟨rfl,hB1⟩
  go_wp2_with fail
  go_ret2
  exact⟨rfl,hB1.alloc hB1.size _⟩
theorem zp4 (a b:Rat) (ha:zbb a) (hb:zbb b) (n d:Int) (r:List UInt8) (w:zA) (hw:Wd w)
 (H:∀W:zA,qJ 66 #[.agg #[.int .i64 a.num,I a.den],.agg #[.int .i64 b.num,I b.den]] W (.agg #[.int .i64 n,.int .i64 d]))
 (N:qK 115 #[.agg #[.int .i64 n,.int .i64 d]] (St r)):
 qJ 61 #[St (numS a),St (numS b),.func (.func 66) #[] #[]] w (.tuple #[St r,.bool true]):=by
 have r1:=λW=>zbm a ha W
 have r2:=λW=>zbm b hb W
 generalize numS a=x at r1⊢
 generalize numS b=y at r2⊢
 generalize a.num=n1 at H r1
 generalize b.num=n2 at H r2
 generalize a.den=d1 at H r1
 generalize b.den=d2 at H r2
 have R1:=hid r1;have R2:=hid r2;have HH:=hid H;have HN:=hid N;have HW:=hid hw
 clear r1 r2 H N hw ha hb
 go_enter Tryz.func61,Tryz.ntmps61
 go_wp2_with fail
 refine(R1.out _).mono ?_
 rintro e w1 ⟨rfl,hB1⟩
 have hB1':=hB1.alloc hB1.size (.cells #[.int .i64 n1,.int .i64 (d1:Int)] 77)
 go_wp2_with fail
 refine(R2.out _).mono ?_
 rintro e w2 ⟨rfl,hb2⟩
 have hz1:=hB1.size
 have z2:w1.heap.size<w2.heap.size:=by have:=hb2.size;simp at this;omega
 have hB2:=hB1'.trans (hb2.mono hB1'.size)
 have A2:w2.heap[w1.heap.size]? =some (.cells #[.int .i64 n1,.int .i64 (d1:Int)] 77 (0,0)):=(hb2.block _ (by simp)).trans (zG w1 _)
 have A20:w2.cell? ⟨w1.heap.size,0,none⟩=some (.int .i64 n1):=by simp[World.cell?,A2]
 have A21:w2.cell? ⟨w1.heap.size,1,none⟩=some (.int .i64 (d1:Int)):=by simp[World.cell?,A2]
 have hB3:=hB2.alloc hB2.size (.cells #[.int .i64 n2,.int .i64 (d2:Int)] 77)
 clear hb2 A2 hB1 hB1'
 go_wp2_with fail
 refine(HH.out _).mono ?_
 rintro e w4 ⟨rfl,hb4⟩
 have hB4:=hB3.trans (hb4.mono hB3.size)
 clear hb4
 go_wp2_with fail
 refine(HN.out _ (HW.out.below hB4)).mono ?_
 rintro e w5 ⟨rfl,hb5⟩
 have hB5:=hB4.trans (hb5.mono hB4.size)
 clear hb5
 go_wp2_with fail
 go_ret2
 exact⟨rfl,hB5⟩
theorem zrd (a b:Rat) (h:¬(zbb a/\zbb b)) (ha:okQ a) (hb:okQ b) (w:zA):
 qJ 61 #[St (numS a),St (numS b),.func (.func 66) #[] #[]] w (.tuple #[St [],.bool false]):=by
 by_cases h1:zbb a
 ·have h2:¬zbb b:=λh2=>h ⟨h1,h2⟩
  have r1:=λW=>zbm a h1 W
  have r2:=λW=>zb5 b h2 (zO hb.1 (by omega)) (zO hb.2 (by omega)) W
  generalize numS a=x at r1⊢
  generalize numS b=y at r2⊢
  generalize a.num=n1 at r1
  generalize a.den=d1 at r1
  have R1:=hid r1;have R2:=hid r2
  clear r1 r2 h1 h2 h ha hb
  go_enter Tryz.func61,Tryz.ntmps61
  go_wp2_with fail
  refine(R1.out _).mono ?_
  rintro e w1 ⟨rfl,hB1⟩
  have hB1':=hB1.alloc hB1.size (.cells #[.int .i64 n1,.int .i64 (d1:Int)] 77)
  go_wp2_with fail
  refine(R2.out _).mono ?_
  rintro e w2 ⟨rfl,hb2⟩
  have hB2:=hB1'.trans (hb2.mono hB1'.size)
  clear hb2 hB1 hB1'
  go_wp2_with fail
  go_ret2
  exact⟨rfl,hB2.alloc hB2.size _⟩
 ·have r1:=λW=>zb5 a h1 (zO ha.1 (by omega)) (zO ha.2 (by omega)) W
  generalize numS a=x at r1⊢
  generalize numS b=y at⊢
  have R1:=hid r1
  clear r1 h1 h ha hb
  go_enter Tryz.func61,Tryz.ntmps61
  go_wp2_with fail
  refine(R1.out _).mono ?_
  rintro e w1 ⟨rfl,hB1⟩
  go_wp2_with fail
  go_ret2
  exact⟨rfl,hB1.alloc hB1.size _⟩
theorem zp5 (a b:Rat) (ha:zbb a) (hb:zbb b) (n d:Int) (r:List UInt8) (w:zA) (hw:Wd w)
 (H:∀W:zA,qJ 70 #[.agg #[.int .i64 a.num,I a.den],.agg #[.int .i64 b.num,I b.den]] W (.agg #[.int .i64 n,.int .i64 d]))
 (N:qK 115 #[.agg #[.int .i64 n,.int .i64 d]] (St r)):
 qJ 61 #[St (numS a),St (numS b),.func (.func 70) #[] #[]] w (.tuple #[St r,.bool true]):=by
 have r1:=λW=>zbm a ha W
 have r2:=λW=>zbm b hb W
 generalize numS a=x at r1⊢
 generalize numS b=y at r2⊢
 generalize a.num=n1 at H r1
 generalize b.num=n2 at H r2
 generalize a.den=d1 at H r1
 generalize b.den=d2 at H r2
 have R1:=hid r1;have R2:=hid r2;have HH:=hid H;have HN:=hid N;have HW:=hid hw
 clear r1 r2 H N hw ha hb
 go_enter Tryz.func61,Tryz.ntmps61
 go_wp2_with fail
 refine(R1.out _).mono ?_
 rintro e w1 ⟨rfl,hB1⟩
 have hB1':=hB1.alloc hB1.size (.cells #[.int .i64 n1,.int .i64 (d1:Int)] 77)
 go_wp2_with fail
 refine(R2.out _).mono ?_
 rintro e w2 ⟨rfl,hb2⟩
 have hz1:=hB1.size
 have z2:w1.heap.size<w2.heap.size:=by have:=hb2.size;simp at this;omega
 have hB2:=hB1'.trans (hb2.mono hB1'.size)
 have A2:w2.heap[w1.heap.size]? =some (.cells #[.int .i64 n1,.int .i64 (d1:Int)] 77 (0,0)):=(hb2.block _ (by simp)).trans (zG w1 _)
 have A20:w2.cell? ⟨w1.heap.size,0,none⟩=some (.int .i64 n1):=by simp[World.cell?,A2]
 have A21:w2.cell? ⟨w1.heap.size,1,none⟩=some (.int .i64 (d1:Int)):=by simp[World.cell?,A2]
 have hB3:=hB2.alloc hB2.size (.cells #[.int .i64 n2,.int .i64 (d2:Int)] 77)
 clear hb2 A2 hB1 hB1'
 go_wp2_with fail
 refine(HH.out _).mono ?_
 rintro e w4 ⟨rfl,hb4⟩
 have hB4:=hB3.trans (hb4.mono hB3.size)
 clear hb4
 go_wp2_with fail
 refine(HN.out _ (HW.out.below hB4)).mono ?_
 rintro e w5 ⟨rfl,hb5⟩
 have hB5:=hB4.trans (hb5.mono hB4.size)
 clear hb5
 go_wp2_with fail
 go_ret2
 exact⟨rfl,hB5⟩
theorem zre (a b:Rat) (h:¬(zbb a/\zbb b)) (ha:okQ a) (hb:okQ b) (w:zA):
 qJ 61 #[St (numS a),St (numS b),.func (.func 70) #[] #[]] w (.tuple #[St [],.bool false]):=by
 by_cases h1:zbb a
 ·have h2:¬zbb b:=λh2=>h ⟨h1,h2⟩
  have r1:=λW=>zbm a h1 W
  have r2:=λW=>zb5 b h2 (zO hb.1 (by omega)) (zO hb.2 (by omega)) W
  generalize numS a=x at r1⊢
  generalize numS b=y at r2⊢
  generalize a.num=n1 at r1
  generalize a.den=d1 at r1
  have R1:=hid r1;have R2:=hid r2
  clear r1 r2 h1 h2 h ha hb
  go_enter Tryz.func61,Tryz.ntmps61
  go_wp2_with fail
  refine(R1.out _).mono ?_
  rintro e w1 ⟨rfl,hB1⟩
  have hB1':=hB1.alloc hB1.size (.cells #[.int .i64 n1,.int .i64 (d1:Int)] 77)
  go_wp2_with fail
  refine(R2.out _).mono ?_
  rintro e w2 ⟨rfl,hb2⟩
  have hB2:=hB1'.trans (hb2.mono hB1'.size)
  clear hb2 hB1 hB1'
  go_wp2_with fail
  go_ret2
  exact⟨rfl,hB2.alloc hB2.size _⟩
 ·have r1:=λW=>zb5 a h1 (zO ha.1 (by omega)) (zO ha.2 (by omega)) W
  generalize numS a=x at r1⊢
  generalize numS b=y at⊢
  have R1:=hid r1
  clear r1 h1 h ha hb
  go_enter Tryz.func61,Tryz.ntmps61
  go_wp2_with fail
  refine(R1.out _).mono ?_
  rintro e w1 ⟨rfl,hB1⟩
  go_wp2_with fail
  go_ret2
  exact⟨rfl,hB1.alloc hB1.size _⟩
theorem zhd {x:Int} {k:Nat} (hk:0<k) (h:x.natAbs<10^k):digs x<=k:=(zaf x.natAbs k hk).2 h
theorem zil {x k:Nat} (hk:0<k) (h:x<10^k):(zD x).length<=k:=(zaf x k hk).2 h
theorem zd0 {q:Rat} {k:Nat} (hk:0<k) (hk3:k<=300) (h:sz q k):okQ q:=
 ⟨zO (zhd hk h.1) hk3,zO (zil hk h.2) hk3⟩
theorem zcv {q:Rat} (h:zbb q):(-100000000<q.num/\q.num<100000000)/\(-100000000<(q.den:Int)/\(q.den:Int)<100000000):=by
 have h1:=(zaf q.num.natAbs 8 (by omega)).1 h.1
 have h2:=(zaf q.den 8 (by omega)).1 h.2
 omega
theorem zzc {x y:Int} {k:Nat} (hk:0<k) (hx:digs x<=k) (hy:digs y<=k):digs (x-y)<=k+1:=by
 rw[Int.sub_eq_add_neg];exact zhz hk hx (by unfold digs at*;rw[Int.natAbs_neg];exact hy)
theorem zcd {x:Int} {d i j:Nat} (hi:0<i) (h1:x.natAbs<10^i) (h2:d<10^j):digs (x*d)<=i+j:=
 zhd (by omega) (by rw[ze0];exact zcc h1 h2)
theorem zje (a b:Rat) (i j:Nat) (hi:0<i) (hj:0<j) (hij:i+j<300) (ha:sz a i) (hb:sz b j) (w:zA) (hw:Wd w):
 qJ 23 #[St (numS a),St (numS b)] w (.tuple #[St (numS (a+b)),.int .i64 0]):=by
 have oa:=zd0 hi (by omega) ha
 have ob:=zd0 hj (by omega) hb
 by_cases h:zbb a/\zbb b
 ·obtain⟨h1,h2⟩:=h
  have e1:=zcv h1
  have e2:=zcv h2
  have hq:=λW hW=>zp2 a b h1 h2 (a.num*b.den+b.num*a.den) (a.den*b.den:Int) (numS (a+b)) W hW
   (λW=>nadd a.num a.den b.num b.den e1.1 e1.2 e2.1 e2.2 W)
   (λW hW=>by
     have p1:=zbs e1.1 e2.2
     have p2:=zbs e2.1 e1.2
     have p3:=zbs e1.2 e2.2
     have:=zd8 (a.num*b.den+b.num*a.den) (a.den*b.den:Int) (Int.mul_ne_zero (by have:=a.den_pos;omega) (by have:=b.den_pos;omega)) (by omega) (by omega) W hW
     rw[<-Int.natCast_mul,<-zf0] at this
     rw[<-Int.natCast_mul];exact this)
  generalize numS a=x at hq⊢
  generalize numS b=y at hq⊢
  generalize numS (a+b)=r at hq⊢
  have HQ:=hid hq;clear hq e1 e2 oa ob ha hb hi hj hij h1 h2
  go_enter Tryz.func23,Tryz.ntmps23
  go_wp2_with fail
  refine(HQ.out _ hw).mono ?_
  rintro e w1 ⟨rfl,hB1⟩
  go_wp2_with fail
  go_ret2
  exact⟨rfl,hB1⟩
 ·have hq:=λW=>zrb a b h oa ob W
  have hbo:=λc W hW H=>zo5 a b oa ob c (numS (a+b)) W hW H
  have k1:digs (a.num*b.den)<=300:=zO (zcd hi ha.1 hb.2) (by omega)
  have k2:digs (b.num*a.den)<=300:=zO (zcd hj hb.1 ha.2) (by omega)
  have k3:digs (a.num*b.den+b.num*a.den)<=300:=by
   have q1:=zcd hi ha.1 hb.2
   have q2:=zcd hj hb.1 ha.2
   rw[Nat.add_comm] at q2
   have:=zhz (show 0<i+j by omega) q1 q2
   omega
  have k4:(zD (a.den*b.den)).length<=300:=zO (zil (by omega) (zcc ha.2 hb.2)) (by omega)
  have hcb:=λc W hc hW=>zy8 a b oa ob k1 k2 k3 k4 c W hc hW
  generalize numS a=x at hq hbo⊢
  generalize numS b=y at hq hbo⊢
  generalize numS (a+b)=r at hbo hcb⊢
  generalize zb1 a=pa at hbo hcb
  generalize zb1 b=pb at hbo hcb
  have HQ:=hid hq;have HBO:=hid hbo;have HCB:=hid hcb;have HW:=hid hw
  clear hq hbo hcb oa ob ha hb hi hj hij h k1 k2 k3 k4 hw
  go_enter Tryz.func23,Tryz.ntmps23
  go_wp2_with fail
  refine(HQ.out _).mono ?_
  rintro e w1 ⟨rfl,hB1⟩
  go_wp2_with fail
  refine(zk4 _ _).mono ?_
  rintro e w2 ⟨t,rfl,rfl⟩
  go_wp2_with fail
  have hB2:=hB1.alloc hB1.size (.cells #[.func (.func 65) #[] #[]] t)
  have hc2:(w1.alloc (.cells #[.func (.func 65) #[] #[]] t)).cell? ⟨w1.heap.size,0,none⟩=some (.func (.func 65) #[] #[]):=by
   have:=zG w1 (.cells #[.func (.func 65) #[] #[]] t (0,0))
   simp only[World.cell?,this];rfl
  refine(HBO.out _ _ (HW.out.below hB2) (λW hb hW=>HCB.out _ W ((hb.cell (p:=⟨w1.heap.size,0,none⟩) (by simp)).trans hc2) hW)).mono ?_
  rintro e w3 ⟨rfl,hb3⟩
  have hB3:=hB2.trans (hb3.mono hB2.size)
  clear hc2 hb3
  go_wp2_with fail
  go_ret2
  exact⟨rfl,hB3⟩
theorem ztz (a b:Rat) (i j:Nat) (hi:0<i) (hj:0<j) (hij:i+j<300) (ha:sz a i) (hb:sz b j) (w:zA) (hw:Wd w):
 qJ 97 #[St (numS a),St (numS b)] w (.tuple #[St (numS (a-b)),.int .i64 0]):=by
 have oa:=zd0 hi (by omega) ha
 have ob:=zd0 hj (by omega) hb
 by_cases h:zbb a/\zbb b
 ·obtain⟨h1,h2⟩:=h
  have e1:=zcv h1
  have e2:=zcv h2
  have hq:=λW hW=>zp3 a b h1 h2 (a.num*b.den-b.num*a.den) (a.den*b.den:Int) (numS (a-b)) W hW
   (λW=>nsub a.num a.den b.num b.den e1.1 e1.2 e2.1 e2.2 W)
   (λW hW=>by
     have p1:=zbs e1.1 e2.2
     have p2:=zbs e2.1 e1.2
     have p3:=zbs e1.2 e2.2
     have:=zd8 (a.num*b.den-b.num*a.den) (a.den*b.den:Int) (Int.mul_ne_zero (by have:=a.den_pos;omega) (by have:=b.den_pos;omega)) (by omega) (by omega) W hW
     rw[<-Int.natCast_mul,<-znk] at this
     rw[<-Int.natCast_mul];exact this)
  generalize numS a=x at hq⊢
  generalize numS b=y at hq⊢
  generalize numS (a-b)=r at hq⊢
  have HQ:=hid hq;clear hq e1 e2 oa ob ha hb hi hj hij h1 h2
  go_enter Tryz.func97,Tryz.ntmps97
  go_wp2_with fail
  refine(HQ.out _ hw).mono ?_
  rintro e w1 ⟨rfl,hB1⟩
  go_wp2_with fail
  go_ret2
  exact⟨rfl,hB1⟩
 ·have hq:=λW=>zrc a b h oa ob W
  have hbo:=λc W hW H=>zo5 a b oa ob c (numS (a-b)) W hW H
  have k1:digs (a.num*b.den)<=300:=zO (zcd hi ha.1 hb.2) (by omega)
  have k2:digs (b.num*a.den)<=300:=zO (zcd hj hb.1 ha.2) (by omega)
  have k3:digs (a.num*b.den-b.num*a.den)<=300:=by
   have q1:=zcd hi ha.1 hb.2
   have q2:=zcd hj hb.1 ha.2
   rw[Nat.add_comm] at q2
   have:=zzc (show 0<i+j by omega) q1 q2
   omega
  have k4:(zD (a.den*b.den)).length<=300:=zO (zil (by omega) (zcc ha.2 hb.2)) (by omega)
  have hcb:=λc W hc hW=>zy9 a b oa ob k1 k2 k3 k4 c W hc hW
  generalize numS a=x at hq hbo⊢
  generalize numS b=y at hq hbo⊢
  generalize numS (a-b)=r at hbo hcb⊢
  generalize zb1 a=pa at hbo hcb
  generalize zb1 b=pb at hbo hcb
  have HQ:=hid hq;have HBO:=hid hbo;have HCB:=hid hcb;have HW:=hid hw
  clear hq hbo hcb oa ob ha hb hi hj hij h k1 k2 k3 k4 hw
  go_enter Tryz.func97,Tryz.ntmps97
  go_wp2_with fail
  refine(HQ.out _).mono ?_
  rintro e w1 ⟨rfl,hB1⟩
  go_wp2_with fail
  refine(zk4 _ _).mono ?_
  rintro e w2 ⟨t,rfl,rfl⟩
  go_wp2_with fail
  have hB2:=hB1.alloc hB1.size (.cells #[.func (.func 153) #[] #[]] t)
  have hc2:(w1.alloc (.cells #[.func (.func 153) #[] #[]] t)).cell? ⟨w1.heap.size,0,none⟩=some (.func (.func 153) #[] #[]):=by
   have:=zG w1 (.cells #[.func (.func 153) #[] #[]] t (0,0))
   simp only[World.cell?,this];rfl
  refine(HBO.out _ _ (HW.out.below hB2) (λW hb hW=>HCB.out _ W ((hb.cell (p:=⟨w1.heap.size,0,none⟩) (by simp)).trans hc2) hW)).mono ?_
  rintro e w3 ⟨rfl,hb3⟩
  have hB3:=hB2.trans (hb3.mono hB2.size)
  clear hc2 hb3
  go_wp2_with fail
  go_ret2
  exact⟨rfl,hB3⟩
theorem zjf (a b:Rat) (i j:Nat) (hi:0<i) (hj:0<j) (hij:i+j<=300) (ha:sz a i) (hb:sz b j) (w:zA) (hw:Wd w):
 qJ 24 #[St (numS a),St (numS b)] w (.tuple #[St (numS (a*b)),.int .i64 0]):=by
 have oa:=zd0 hi (by omega) ha
 have ob:=zd0 hj (by omega) hb
 by_cases h:zbb a/\zbb b
 ·obtain⟨h1,h2⟩:=h
  have e1:=zcv h1
  have e2:=zcv h2
  have hq:=λW hW=>zp4 a b h1 h2 (a.num*b.num) (a.den*b.den:Int) (numS (a*b)) W hW
   (λW=>nmul a.num a.den b.num b.den e1.1 e1.2 e2.1 e2.2 W)
   (λW hW=>by
     have p1:=zbs e1.1 e2.1
     have p3:=zbs e1.2 e2.2
     have:=zd8 (a.num*b.num) (a.den*b.den:Int) (Int.mul_ne_zero (by have:=a.den_pos;omega) (by have:=b.den_pos;omega)) (by omega) (by omega) W hW
     rw[<-Int.natCast_mul,<-zf1] at this
     rw[<-Int.natCast_mul];exact this)
  generalize numS a=x at hq⊢
  generalize numS b=y at hq⊢
  generalize numS (a*b)=r at hq⊢
  have HQ:=hid hq;clear hq e1 e2 oa ob ha hb hi hj hij h1 h2
  go_enter Tryz.func24,Tryz.ntmps24
  go_wp2_with fail
  refine(HQ.out _ hw).mono ?_
  rintro e w1 ⟨rfl,hB1⟩
  go_wp2_with fail
  go_ret2
  exact⟨rfl,hB1⟩
 ·have hq:=λW=>zrd a b h oa ob W
  have k1:digs (a.num*b.num)<=300:=zO (zhd (by omega) (by rw[Int.natAbs_mul];exact zcc ha.1 hb.1)) hij
  have k4:(zD (a.den*b.den)).length<=300:=zO (zil (by omega) (zcc ha.2 hb.2)) hij
  have hbo:=λW hW=>zza a b oa ob (numS (a*b)) W hW (λW' _ hW'=>z1n a b oa ob k1 k4 W' hW')
  generalize numS a=x at hq hbo⊢
  generalize numS b=y at hq hbo⊢
  generalize numS (a*b)=r at hbo⊢
  have HQ:=hid hq;have HBO:=hid hbo;have HW:=hid hw
  clear hq hbo oa ob ha hb hi hj hij h k1 k4 hw
  go_enter Tryz.func24,Tryz.ntmps24
  go_wp2_with fail
  refine(HQ.out _).mono ?_
  rintro e w1 ⟨rfl,hB1⟩
  go_wp2_with fail
  refine(HBO.out _ (HW.out.below hB1)).mono ?_
  rintro e w3 ⟨rfl,hb3⟩
  have hB3:=hB1.trans (hb3.mono hB1.size)
  clear hb3
  go_wp2_with fail
  go_ret2
  exact⟨rfl,hB3⟩
theorem zoj (a b:Rat) (hb0:b≠0) (i j:Nat) (hi:0<i) (hj:0<j) (hij:i+j<=300) (ha:sz a i) (hb:sz b j) (w:zA) (hw:Wd w):
 qJ 25 #[St (numS a),St (numS b)] w (.tuple #[St (numS (a/b)),.int .i64 0]):=by
 have oa:=zd0 hi (by omega) ha
 have ob:=zd0 hj (by omega) hb
 obtain⟨y,hy⟩:∃y:ByteArray,y=⟨(numS b).toArray⟩:=⟨_,rfl⟩
 have hyz:(y.toList==[48])=false:=by
  rw[beq_eq_false_iff_ne,zfo hy]
  intro e;exact hb0 ((zpy b).1 e)
 by_cases h:zbb a/\zbb b
 ·obtain⟨h1,h2⟩:=h
  have e1:=zcv h1
  have e2:=zcv h2
  have hnz:b.num≠0:=λh=>hb0 (Rat.num_eq_zero.1 h)
  have hq:=λW hW=>zp5 a b h1 h2 (a.num*b.den) (a.den*b.num:Int) (numS (a/b)) W hW
   (λW=>ndiv a.num a.den b.num b.den e1.1 e1.2 e2.1 e2.2 W)
   (λW hW=>by
     have p1:=zbs e1.1 e2.2
     have p3:=zbs e1.2 e2.1
     have:=zd8 (a.num*b.den) (a.den*b.num:Int) (Int.mul_ne_zero (by have:=a.den_pos;omega) hnz) (by omega) (by omega) W hW
     rw[<-zjx a b hb0] at this
     exact this)
  rw[zgf hy] at hq⊢
  generalize numS a=x at hq⊢
  generalize numS (a/b)=r at hq⊢
  have HQ:=hid hq;clear hq e1 e2 oa ob ha hb hi hj hij h1 h2 hy hnz hb0
  go_enter Tryz.func25,Tryz.ntmps25
  go_wp2_with fail
  refine(HQ.out _ hw).mono ?_
  rintro e w1 ⟨rfl,hB1⟩
  go_wp2_with fail
  go_ret2
  exact⟨rfl,hB1⟩
 ·have hq:=λW=>zre a b h oa ob W
  have k1:digs (a.num*b.den)<=300:=zO (zcd hi ha.1 hb.2) hij
  have k2:digs (b.num*a.den)<=300:=zO (zcd hj hb.1 ha.2) (by omega)
  have hbo:=λW hW=>zzb a b oa ob (numS (a/b)) W hW (λW' _ hW'=>z1o a b hb0 oa ob k1 k2 W' hW')
  rw[zgf hy] at hq hbo⊢
  generalize numS a=x at hq hbo⊢
  generalize numS (a/b)=r at hbo⊢
  have HQ:=hid hq;have HBO:=hid hbo;have HW:=hid hw
  clear hq hbo oa ob ha hb hi hj hij h k1 k2 hw hy hb0
  go_enter Tryz.func25,Tryz.ntmps25
  go_wp2_with fail
  refine(HQ.out _).mono ?_
  rintro e w1 ⟨rfl,hB1⟩
  go_wp2_with fail
  refine(HBO.out _ (HW.out.below hB1)).mono ?_
  rintro e w3 ⟨rfl,hb3⟩
  have hB3:=hB1.trans (hb3.mono hB1.size)
  clear hb3
  go_wp2_with fail
  go_ret2
  exact⟨rfl,hB3⟩
end Go.Proofs.YthfpmfdiamldoaaGreatDoor
namespace Go.Proofs.YthfpmfdiamldoaaGreatDoor.Geo
structure Pt where
 x:Rat
 y:Rat
 deriving DecidableEq
def cmpR (a b:Rat):Int:=if a<b then-1 else if a=b then 0 else 1
theorem zaw (a b:Rat):(a<b/\cmpR a b= -1)\/(a=b/\cmpR a b=0)\/(b<a/\cmpR a b=1):=by
 unfold cmpR
 by_cases h:a<b
 ·exact .inl ⟨h,by rw[if_pos h]⟩
 ·by_cases e:a=b
  ·exact .inr (.inl ⟨e,by rw[if_neg h,if_pos e]⟩)
  ·exact .inr (.inr ⟨by grind,by rw[if_neg h,if_neg e]⟩)
theorem zet (a b:Rat):cmpR b a= -cmpR a b:=by
 have:=zaw a b;have:=zaw b a;grind
theorem zeu (a:Rat):cmpR a a=0:=by have:=zaw a a;grind
theorem zgv {a b:Rat}:cmpR a b=0↔a=b:=by have:=zaw a b;grind
theorem zmx (a b c d:Rat) (h:a-b=c-d):cmpR a b=cmpR c d:=by
 have:=zaw a b;have:=zaw c d;grind
def ordP (p q:Pt):Int:=if cmpR p.x q.x≠0 then cmpR p.x q.x else cmpR p.y q.y
theorem zas (p q:Pt):((p.x<q.x\/p.x=q.x/\p.y<q.y)/\ordP p q= -1)\/(p=q/\ordP p q=0)\/((q.x<p.x\/p.x=q.x/\q.y<p.y)/\ordP p q=1):=by
 unfold ordP
 obtain⟨a,b⟩:=p;obtain⟨c,d⟩:=q
 simp only[Pt.mk.injEq]
 have:=zaw a c;have:=zaw b d
 grind
def turn (a b c:Pt):Int:=cmpR ((b.x-a.x)*(c.y-a.y)) ((b.y-a.y)*(c.x-a.x))
theorem zda (a b c:Pt):turn b a c= -turn a b c:=by
 unfold turn;rw[<-zet];exact zmx _ _ _ _ (by grind)
theorem zj3 (a b c:Pt):turn b c a=turn a b c:=by
 unfold turn;exact zmx _ _ _ _ (by grind)
theorem znm (a b c:Pt):turn a b c= -1\/turn a b c=0\/turn a b c=1:=by
 have:=zaw ((b.x-a.x)*(c.y-a.y)) ((b.y-a.y)*(c.x-a.x));unfold turn;grind
theorem zcz (a b:Pt):turn a b a=0:=by unfold turn;rw[zgv];grind
theorem zc8 (a b:Pt):turn a b b=0:=by unfold turn;rw[zgv];grind
theorem zo6 (a b:Pt):turn a a b=0:=by unfold turn;rw[zgv];grind
def low (a b:Pt):Pt:=if ordP a b>0 then b else a
def high (a b:Pt):Pt:=if ordP a b>0 then a else b
def meet (a b c d:Pt):Int:=
 if turn a b c≠0\/turn a b d≠0\/turn c d a≠0\/turn c d b≠0 then
  if turn a b c*turn a b d<=0/\turn c d a*turn c d b<=0 then 1 else 0
 else
  1-ordP (if ordP (low c d) (low a b)>0 then low c d else low a b) (if ordP (high c d) (high a b)<0 then high c d else high a b)
theorem zzd (p q:Pt):(if ordP p q>0 then p else q)=(if ordP q p>0 then q else p):=by have:=zas p q;have:=zas q p;grind
theorem zze (p q:Pt):(if ordP p q<0 then p else q)=(if ordP q p<0 then q else p):=by have:=zas p q;have:=zas q p;grind
theorem zo7 (a b c d:Pt):meet c d a b=meet a b c d:=by
 unfold meet
 rw[zzd (low c d),zze (high c d)]
 have h3:(turn c d a≠0\/turn c d b≠0\/turn a b c≠0\/turn a b d≠0)↔(turn a b c≠0\/turn a b d≠0\/turn c d a≠0\/turn c d b≠0):=by omega
 have h4:(turn c d a*turn c d b<=0/\turn a b c*turn a b d<=0)↔(turn a b c*turn a b d<=0/\turn c d a*turn c d b<=0):=And.comm
 simp only[h3,h4]
theorem zgw (a:Pt):ordP a a=0:=by have:=zas a a;grind
theorem z9y (a:Pt):low a a=a:=by unfold low;split<;>rfl
theorem z9f (a:Pt):high a a=a:=by unfold high;split<;>rfl
end Go.Proofs.YthfpmfdiamldoaaGreatDoor.Geo
namespace Go.Proofs.YthfpmfdiamldoaaGreatDoor
open Go.RowKit Go.Shelf Lib Str Limb Geo
attribute [local go_sem] Oper.semAt_some
theorem z2v (x y s1 s2 t1 t2 u v:List UInt8) (z:Int) (NA:Hid (∀W:zA,qJ 51 #[St x] W (.tuple #[.agg #[.int .i64 0,.int .i64 0],.bool false])))
 (RA:Hid (qK 53 #[St x] (.tuple #[.agg #[St s1,St t1],.int .i64 0])))
 (RB:Hid (qK 53 #[St y] (.tuple #[.agg #[St s2,St t2],.int .i64 0])))
 (CR:Hid (qK 54 #[.agg #[St s1,St t1],.agg #[St s2,St t2]] (.tuple #[St u,St v,.int .i64 0])))
 (CM:Hid (∀W:zA,qJ 28 #[St u,St v] W (.tuple #[.int .i64 z,.int .i64 0])))
 (w:zA) (HW:Hid (Wd w)):
 qJ 20 #[St x,St y] w (.tuple #[.int .i64 z,.int .i64 0]):=by
 go_enter Tryz.func20,Tryz.ntmps20
 go_wp2_with fail
 refine(NA.out _).mono ?_
 rintro e w1 ⟨rfl,hB1⟩
 have hX:=hB1.alloc hB1.size (.cells #[.int .i64 0,.int .i64 0] 77)
 clear hB1
 go_wp2_with fail
 refine(RA.out _ (HW.out.below hX)).mono ?_
 rintro e w5 ⟨rfl,hb5⟩
 have hB5:=hX.trans (hb5.mono hX.size)
 have hB5':=hB5.alloc hB5.size (.cells #[.string ⟨s1.toArray⟩,.string ⟨t1.toArray⟩] 82)
 clear hb5
 go_wp2_with fail
 refine(RB.out _ (HW.out.below hB5')).mono ?_
 rintro e w6 ⟨rfl,hb6⟩
 have hz5:=hB5.size
 have z6:w5.heap.size<w6.heap.size:=by have:=hb6.size;simp at this;omega
 have hB6:=hB5'.trans (hb6.mono hB5'.size)
 have A2:w6.heap[w5.heap.size]? =some (.cells #[.string ⟨s1.toArray⟩,.string ⟨t1.toArray⟩] 82 (0,0)):=(hb6.block _ (by simp)).trans (zG w5 _)
 have A20:w6.cell? ⟨w5.heap.size,0,none⟩=some (.string ⟨s1.toArray⟩):=by simp[World.cell?,A2]
 have A21:w6.cell? ⟨w5.heap.size,1,none⟩=some (.string ⟨t1.toArray⟩):=by simp[World.cell?,A2]
 have hB7:=hB6.alloc hB6.size (.cells #[.string ⟨s2.toArray⟩,.string ⟨t2.toArray⟩] 82)
 clear hb6 A2
 go_wp2_with fail
 refine(CR.out _ (HW.out.below hB7)).mono ?_
 rintro e w8 ⟨rfl,hb8⟩
 have hB8:=hB7.trans (hb8.mono hB7.size)
 clear hb8
 go_wp2_with fail
 refine(CM.out _).mono ?_
 rintro e w9 ⟨rfl,hb9⟩
 have hB9:=hB8.trans (hb9.mono hB8.size)
 clear hb9
 go_wp2_with fail
 go_ret2
 exact⟨rfl,hB9⟩
theorem z2w (x y s1 s2 t1 t2 u v:List UInt8) (z n1 d1:Int) (NA:Hid (∀W:zA,qJ 51 #[St x] W (.tuple #[.agg #[.int .i64 n1,.int .i64 d1],.bool true]))) (NB:Hid (∀W:zA,qJ 51 #[St y] W (.tuple #[.agg #[.int .i64 0,.int .i64 0],.bool false])))
 (RA:Hid (qK 53 #[St x] (.tuple #[.agg #[St s1,St t1],.int .i64 0])))
 (RB:Hid (qK 53 #[St y] (.tuple #[.agg #[St s2,St t2],.int .i64 0])))
 (CR:Hid (qK 54 #[.agg #[St s1,St t1],.agg #[St s2,St t2]] (.tuple #[St u,St v,.int .i64 0])))
 (CM:Hid (∀W:zA,qJ 28 #[St u,St v] W (.tuple #[.int .i64 z,.int .i64 0])))
 (w:zA) (HW:Hid (Wd w)):
 qJ 20 #[St x,St y] w (.tuple #[.int .i64 z,.int .i64 0]):=by
 go_enter Tryz.func20,Tryz.ntmps20
 go_wp2_with fail
 refine(NA.out _).mono ?_
 rintro e w1 ⟨rfl,hB1⟩
 have hB1':=hB1.alloc hB1.size (.cells #[.int .i64 n1,.int .i64 d1] 77)
 clear hB1
 go_wp2_with fail
 refine(NB.out _).mono ?_
 rintro e w2 ⟨rfl,hb2⟩
 have hB2:=hB1'.trans (hb2.mono hB1'.size)
 have hX:=hB2.alloc hB2.size (.cells #[.int .i64 0,.int .i64 0] 77)
 clear hb2 hB1' hB2
 go_wp2_with fail
 refine(RA.out _ (HW.out.below hX)).mono ?_
 rintro e w5 ⟨rfl,hb5⟩
 have hB5:=hX.trans (hb5.mono hX.size)
 have hB5':=hB5.alloc hB5.size (.cells #[.string ⟨s1.toArray⟩,.string ⟨t1.toArray⟩] 82)
 clear hb5
 go_wp2_with fail
 refine(RB.out _ (HW.out.below hB5')).mono ?_
 rintro e w6 ⟨rfl,hb6⟩
 have hz5:=hB5.size
 have z6:w5.heap.size<w6.heap.size:=by have:=hb6.size;simp at this;omega
 have hB6:=hB5'.trans (hb6.mono hB5'.size)
 have A2:w6.heap[w5.heap.size]? =some (.cells #[.string ⟨s1.toArray⟩,.string ⟨t1.toArray⟩] 82 (0,0)):=(hb6.block _ (by simp)).trans (zG w5 _)
 have A20:w6.cell? ⟨w5.heap.size,0,none⟩=some (.string ⟨s1.toArray⟩):=by simp[World.cell?,A2]
 have A21:w6.cell? ⟨w5.heap.size,1,none⟩=some (.string ⟨t1.toArray⟩):=by simp[World.cell?,A2]
 have hB7:=hB6.alloc hB6.size (.cells #[.string ⟨s2.toArray⟩,.string ⟨t2.toArray⟩] 82)
 clear hb6 A2
 go_wp2_with fail
 refine(CR.out _ (HW.out.below hB7)).mono ?_
 rintro e w8 ⟨rfl,hb8⟩
 have hB8:=hB7.trans (hb8.mono hB7.size)
 clear hb8
 go_wp2_with fail
 refine(CM.out _).mono ?_
 rintro e w9 ⟨rfl,hb9⟩
 have hB9:=hB8.trans (hb9.mono hB8.size)
 clear hb9
 go_wp2_with fail
 go_ret2
 exact⟨rfl,hB9⟩
theorem zim (a b:Rat):cmpZ (a.num*b.den) (b.num*a.den)=cmpR a b:=by
 have h1:=Rat.lt_iff a b
 have h2:=Rat.lt_iff b a
 unfold cmpZ
 rcases zaw a b with⟨h,e⟩|⟨h,e⟩|⟨h,e⟩
 ·rw[e,if_pos (h1.1 h)]
 ·subst h;rw[e,if_neg (by omega),if_neg (by omega)]
 ·rw[e,if_neg (by have:=h2.1 h;omega),if_pos (h2.1 h)]
theorem z2x (x y:List UInt8) (n1 d1 n2 d2 p q z:Int) (NA:Hid (∀W:zA,qJ 51 #[St x] W (.tuple #[.agg #[.int .i64 n1,.int .i64 d1],.bool true])))
 (NB:Hid (∀W:zA,qJ 51 #[St y] W (.tuple #[.agg #[.int .i64 n2,.int .i64 d2],.bool true])))
 (v1:IntKind.i64.wrap (n1*d2)=p) (v2:IntKind.i64.wrap (n2*d1)=q)
 (CM:Hid (∀W:zA,Calls Tryz.prog 52 #[.int .i64 p,.int .i64 q] W λe w'=>e=.returned (.int .i64 z)/\w'=W)) (w:zA):
 qJ 20 #[St x,St y] w (.tuple #[.int .i64 z,.int .i64 0]):=by
 go_enter Tryz.func20,Tryz.ntmps20
 go_wp2_with fail
 refine(NA.out _).mono ?_
 rintro e w1 ⟨rfl,hB1⟩
 have hB1':=hB1.alloc hB1.size (.cells #[.int .i64 n1,.int .i64 d1] 77)
 go_wp2_with fail
 refine(NB.out _).mono ?_
 rintro e w2 ⟨rfl,hb2⟩
 have hz1:=hB1.size
 have z2:w1.heap.size<w2.heap.size:=by have:=hb2.size;simp at this;omega
 have hB2:=hB1'.trans (hb2.mono hB1'.size)
 have A2:w2.heap[w1.heap.size]? =some (.cells #[.int .i64 n1,.int .i64 d1] 77 (0,0)):=(hb2.block _ (by simp)).trans (zG w1 _)
 have A20:w2.cell? ⟨w1.heap.size,0,none⟩=some (.int .i64 n1):=by simp[World.cell?,A2]
 have A21:w2.cell? ⟨w1.heap.size,1,none⟩=some (.int .i64 d1):=by simp[World.cell?,A2]
 have hX:=hB2.alloc hB2.size (.cells #[.int .i64 n2,.int .i64 d2] 77)
 clear hb2 A2 hB1 hB1' hB2
 go_wp2_with fail
 refine(CM.out _).mono ?_
 rintro e w3 ⟨rfl,rfl⟩
 go_wp2_with fail
 go_ret2
 exact⟨rfl,hX⟩
theorem zgq (a b:Rat) (i j:Nat) (hi:0<i) (hj:0<j) (hij:i+j<=300) (ha:sz a i) (hb:sz b j) (w:zA) (hw:Wd w):
 qJ 20 #[St (numS a),St (numS b)] w (.tuple #[.int .i64 (cmpR a b),.int .i64 0]):=by
 have oa:=zd0 hi (by omega) ha
 have ob:=zd0 hj (by omega) hb
 have k1:digs (a.num*b.den)<=300:=zO (zcd hi ha.1 hb.2) hij
 have k2:digs (b.num*a.den)<=300:=zO (zcd hj hb.1 ha.2) (by omega)
 have RA:=hid λW hW=>zek a oa W hW
 have RB:=hid λW hW=>zek b ob W hW
 have cr:=λW hW=>zhc a.num b.num a.den b.den oa.1 ob.1 oa.2 ob.2 k1 W hW
 rw[zcf k2,zcg k2] at cr
 have cm:=λW=>zsx (a.num*b.den) (b.num*a.den) k1 k2 W
 rw[zim] at cm
 by_cases h1:zbb a
 ·by_cases h2:zbb b
  ·have e1:=zcv h1
   have e2:=zcv h2
   have p1:=zbs e1.1 e2.2
   have p2:=zbs e2.1 e1.2
   exact z2x _ _ a.num a.den b.num b.den _ _ _ (hid λW=>zbm a h1 W) (hid λW=>zbm b h2 W) (IntWalk.i64_in _ (by omega)) (IntWalk.i64_in _ (by omega))
    (hid λW=>by rw[<-zim];exact Tryz.cmp_Compare_int _ _ W) w
  ·exact z2w _ _ _ _ _ _ _ _ _ a.num a.den (hid λW=>zbm a h1 W) (hid λW=>zb5 b h2 (zO ob.1 (by omega)) (zO ob.2 (by omega)) W) RA RB (hid cr) (hid cm) w (hid hw)
 ·exact z2v _ _ _ _ _ _ _ _ _ (hid λW=>zb5 a h1 (zO oa.1 (by omega)) (zO oa.2 (by omega)) W) RA RB (hid cr) (hid cm) w (hid hw)
theorem zhm (a b:Rat) (i j:Nat) (hi:0<i) (hj:0<j) (hij:i+j<=300) (ha:sz a i) (hb:sz b j) (w:zA) (hw:Wd w):
 qJ 47 #[St (numS a),St (numS b)] w (St (numS (a*b))):=by
 have hc:=zjf a b i j hi hj hij ha hb w hw
 generalize numS (a*b)=r at hc⊢
 generalize numS a=x at hc⊢
 generalize numS b=y at hc⊢
 have HC:=hid hc;clear hc hi hj hij ha hb
 go_enter Tryz.func47,Tryz.ntmps47
 go_wp2_with fail
 refine HC.out.mono ?_
 rintro e w1 ⟨rfl,hB⟩
 go_wp2_with fail
 go_ret
 exact⟨rfl,hB⟩
theorem zgg (a b:Rat) (i j:Nat) (hi:0<i) (hj:0<j) (hij:i+j<300) (ha:sz a i) (hb:sz b j) (w:zA) (hw:Wd w):
 qJ 46 #[St (numS a),St (numS b)] w (St (numS (a-b))):=by
 have hc:=ztz a b i j hi hj hij ha hb w hw
 generalize numS (a-b)=r at hc⊢
 generalize numS a=x at hc⊢
 generalize numS b=y at hc⊢
 have HC:=hid hc;clear hc hi hj hij ha hb
 go_enter Tryz.func46,Tryz.ntmps46
 go_wp2_with fail
 refine HC.out.mono ?_
 rintro e w1 ⟨rfl,hB⟩
 go_wp2_with fail
 go_ret
 exact⟨rfl,hB⟩
theorem zlr (a b:Rat) (i j:Nat) (hi:0<i) (hj:0<j) (hij:i+j<=300) (ha:sz a i) (hb:sz b j) (w:zA) (hw:Wd w):
 qJ 34 #[St (numS a),St (numS b)] w (.int .i64 (cmpR a b)):=by
 have hc:=zgq a b i j hi hj hij ha hb w hw
 generalize cmpR a b=r at hc⊢
 generalize numS a=x at hc⊢
 generalize numS b=y at hc⊢
 have HC:=hid hc;clear hc hi hj hij ha hb
 go_enter Tryz.func34,Tryz.ntmps34
 go_wp2_with fail
 refine HC.out.mono ?_
 rintro e w1 ⟨rfl,hB⟩
 go_wp2_with fail
 go_ret
 exact⟨rfl,hB⟩
theorem zk5 (q:Rat) (h:okQ q) (w:zA) (hw:Wd w):
 qJ 26 #[St (numS q)] w (.tuple #[St (itoa q.num),St (zD q.den),.int .i64 0]):=by
 have hc:=zek q h w hw
 generalize numS q=s at hc⊢
 generalize itoa q.num=u at hc⊢
 generalize zD q.den=v at hc⊢
 have HC:=hid hc;clear hc h
 go_enter Tryz.func26,Tryz.ntmps26
 go_wp2_with fail
 refine HC.out.mono ?_
 rintro e w1 ⟨rfl,hB⟩
 go_wp2_with fail
 (refine wp_region_quiet_lit (by kernel_rfl) (by kernel_rfl) (WQ.out ?_);(repeat(first|(apply WQ.read (by rfl);(focus(rintro W ⟨n,rfl⟩;go_simp;try with_reducible rfl));try simp only[zzQ])|(apply WQ.skip (by rfl);try simp only[zzQ])));refine WQ.nil ?_;rintro _ ⟨nq,rfl⟩)
 go_wp2_with fail
 go_ret3
 exact⟨rfl,zao (hB.alloc hB.size _) nq⟩
def ptV (p:Pt):Value:=.agg #[St (numS p.x),St (numS p.y)]
def szP (p:Pt) (k:Nat):Prop:=sz p.x k/\sz p.y k
theorem zu5 (x1 y1 x2 y2:List UInt8) (m n:Int) (w:zA) (hw:Wd w)
 (c1:qK 34 #[St x1,St x2] (.int .i64 m))
 (c2:qK 34 #[St y1,St y2] (.int .i64 n)):
 qJ 85 #[.agg #[St x1,St y1],.agg #[St x2,St y2]] w (.int .i64 (if m≠0 then m else n)):=by
 have C1:=hid c1;have C2:=hid c2;have HW:=hid hw
 clear c1 c2 hw
 obtain⟨W3,hW3⟩:∃W3,W3=(w.alloc (.cells #[St x1,St y1] 25)).alloc (.cells #[St x2,St y2] 25):=⟨_,rfl⟩
 have hB0:qL w W3:=by rw[hW3];exact((Below.refl _ w).alloc (Nat.le_refl _) _).alloc (by simp) _
 have z0:W3.heap.size=w.heap.size+1+1:=by rw[hW3];simp
 have A3:W3.heap[w.heap.size]? =some (.cells #[St x1,St y1] 25 (0,0)):=by
  rw[hW3];exact(Below.heap_alloc _ _ _ (by simp only[zH];omega)).trans (zG w _)
 have B3:W3.heap[w.heap.size+1]? =some (.cells #[St x2,St y2] 25 (0,0)):=by
  have:=zG (w.alloc (.cells #[St x1,St y1] 25)) (.cells #[St x2,St y2] 25 (0,0))
  rw[zH] at this
  rw[hW3];exact this
 have HW3:=hid hW3;clear hW3
 by_cases hm:m=0
 ·have hm':(m !=0)=false:=by simp[hm]
  rw[if_neg (by omega)]
  clear hm
  go_enter Tryz.func85,Tryz.ntmps85
  go_wp2_with fail
  rw[<-HW3.out]
  refine(C1.out _ (HW.out.below hB0)).mono ?_
  rintro e w4 ⟨rfl,hb4⟩
  have hB4:=hB0.trans (hb4.mono hB0.size)
  have A4:w4.heap[w.heap.size]? =some (.cells #[St x1,St y1] 25 (0,0)):=(hb4.block _ (by omega)).trans A3
  have B4:w4.heap[w.heap.size+1]? =some (.cells #[St x2,St y2] 25 (0,0)):=(hb4.block _ (by omega)).trans B3
  have A41:w4.cell? ⟨w.heap.size,1,none⟩=some (St y1):=by simp[World.cell?,A4]
  have B41:w4.cell? ⟨w.heap.size+1,1,none⟩=some (St y2):=by simp[World.cell?,B4]
  clear hb4 A3 B3 z0 A4 B4
  go_wp2_with fail
  refine(C2.out _ (HW.out.below hB4)).mono ?_
  rintro e w5 ⟨rfl,hb5⟩
  have hB5:=hB4.trans (hb5.mono hB4.size)
  clear hb5
  go_wp2_with fail
  go_ret
  exact⟨rfl,hB5⟩
 ·have hm':(m !=0)=true:=by simp[hm]
  rw[if_pos hm]
  clear hm
  go_enter Tryz.func85,Tryz.ntmps85
  go_wp2_with fail
  rw[<-HW3.out]
  refine(C1.out _ (HW.out.below hB0)).mono ?_
  rintro e w4 ⟨rfl,hb4⟩
  have hB4:=hB0.trans (hb4.mono hB0.size)
  clear hb4 A3 B3 z0
  go_wp2_with fail
  go_ret
  exact⟨rfl,hB4⟩
theorem zmy (p q:Pt) (i j:Nat) (hi:0<i) (hj:0<j) (hij:i+j<=300) (hp:szP p i) (hq:szP q j) (w:zA) (hw:Wd w):
 qJ 85 #[ptV p,ptV q] w (.int .i64 (ordP p q)):=
 zu5 _ _ _ _ _ _ w hw (λW hW=>zlr p.x q.x i j hi hj hij hp.1 hq.1 W hW) (λW hW=>zlr p.y q.y i j hi hj hij hp.2 hq.2 W hW)
structure TurnS (w:zA) (x1 y1 x2 y2 x3 y3:List UInt8) (W:zA):Prop where
 bel:qL w W
 lt:w.heap.size+1+1<W.heap.size
 ha:W.heap[w.heap.size]? =some (.cells #[St x1,St y1] 25 (0,0))
 hb:W.heap[w.heap.size+1]? =some (.cells #[St x2,St y2] 25 (0,0))
 hc:W.heap[w.heap.size+1+1]? =some (.cells #[St x3,St y3] 25 (0,0))
theorem TurnS.a0 {w:zA} {x1 y1 x2 y2 x3 y3:List UInt8} {W:zA} (h:TurnS w x1 y1 x2 y2 x3 y3 W):W.cell? ⟨w.heap.size,0,none⟩=some (St x1):=by have:=h.ha;simp[World.cell?,this]
theorem TurnS.a1 {w:zA} {x1 y1 x2 y2 x3 y3:List UInt8} {W:zA} (h:TurnS w x1 y1 x2 y2 x3 y3 W):W.cell? ⟨w.heap.size,1,none⟩=some (St y1):=by have:=h.ha;simp[World.cell?,this]
theorem TurnS.b0 {w:zA} {x1 y1 x2 y2 x3 y3:List UInt8} {W:zA} (h:TurnS w x1 y1 x2 y2 x3 y3 W):W.cell? ⟨w.heap.size+1,0,none⟩=some (St x2):=by have:=h.hb;simp[World.cell?,this]
theorem TurnS.b1 {w:zA} {x1 y1 x2 y2 x3 y3:List UInt8} {W:zA} (h:TurnS w x1 y1 x2 y2 x3 y3 W):W.cell? ⟨w.heap.size+1,1,none⟩=some (St y2):=by have:=h.hb;simp[World.cell?,this]
theorem TurnS.c0 {w:zA} {x1 y1 x2 y2 x3 y3:List UInt8} {W:zA} (h:TurnS w x1 y1 x2 y2 x3 y3 W):W.cell? ⟨w.heap.size+1+1,0,none⟩=some (St x3):=by have:=h.hc;simp[World.cell?,this]
theorem TurnS.c1 {w:zA} {x1 y1 x2 y2 x3 y3:List UInt8} {W:zA} (h:TurnS w x1 y1 x2 y2 x3 y3 W):W.cell? ⟨w.heap.size+1+1,1,none⟩=some (St y3):=by have:=h.hc;simp[World.cell?,this]
theorem TurnS.next {w:zA} {x1 y1 x2 y2 x3 y3:List UInt8} {W W':zA} (h:TurnS w x1 y1 x2 y2 x3 y3 W) (hb:qL W W'):TurnS w x1 y1 x2 y2 x3 y3 W':=
 ⟨h.bel.trans (hb.mono h.bel.size),Nat.lt_of_lt_of_le h.lt hb.size,(hb.block _ (by have:=h.lt;omega)).trans h.ha,(hb.block _ (by have:=h.lt;omega)).trans h.hb,(hb.block _ h.lt).trans h.hc⟩
theorem zwx (x1 y1 x2 y2 x3 y3 u1 u2 v1 v2 u v:List UInt8) (n:Int)
 (S1:Hid (qK 46 #[St x2,St x1] (St u1)))
 (S2:Hid (qK 46 #[St y3,St y1] (St u2)))
 (M1:Hid (qK 47 #[St u1,St u2] (St u)))
 (S3:Hid (qK 46 #[St y2,St y1] (St v1)))
 (S4:Hid (qK 46 #[St x3,St x1] (St v2)))
 (M2:Hid (qK 47 #[St v1,St v2] (St v)))
 (CM:Hid (qK 34 #[St u,St v] (.int .i64 n)))
 (w:zA) (HW:Hid (Wd w)):
 qJ 35 #[.agg #[St x1,St y1],.agg #[St x2,St y2],.agg #[St x3,St y3]] w (.int .i64 n):=by
 have hinit:TurnS w x1 y1 x2 y2 x3 y3 (((w.alloc (.cells #[St x1,St y1] 25)).alloc (.cells #[St x2,St y2] 25)).alloc (.cells #[St x3,St y3] 25)):=by
  have e1:=zG w (.cells #[St x1,St y1] 25 (0,0))
  have e2:=zG (w.alloc (.cells #[St x1,St y1] 25)) (.cells #[St x2,St y2] 25 (0,0))
  have e3:=zG ((w.alloc (.cells #[St x1,St y1] 25)).alloc (.cells #[St x2,St y2] 25)) (.cells #[St x3,St y3] 25 (0,0))
  simp only[zH] at e2 e3
  refine⟨(((Below.refl _ w).alloc (Nat.le_refl _) _).alloc (by simp) _).alloc (by simp;omega) _,by simp,?_,?_,e3⟩
  ·exact(Below.heap_alloc _ _ _ (by simp only[zH];omega)).trans ((Below.heap_alloc _ _ _ (by simp only[zH];omega)).trans e1)
  ·exact(Below.heap_alloc _ _ _ (by simp only[zH];omega)).trans e2
 have HI:=hid hinit;clear hinit
 go_enter Tryz.func35,Tryz.ntmps35
 go_wp2_with fail
 refine zbl (λ_ W=>TurnS w x1 y1 x2 y2 x3 y3 W) (by kernel_rfl) (by kernel_rfl) (by have h:=HI.out;exact⟨h.bel.drew,h.lt,h.ha,h.hb,h.hc⟩) ?_
 refine qR (.pointer (some ⟨w.heap.size+1,0,none⟩)) ?_
 simp only[zzQ]
 refine qR (St x2) ?_ (hy:=λf W' hf h=>by have h0:=h.b0;go_simp)
 simp only[zzQ]
 refine qR (.pointer (some ⟨w.heap.size,0,none⟩)) ?_
 simp only[zzQ]
 refine qR (St x1) ?_ (hy:=λf W' hf h=>by have h0:=h.a0;go_simp)
 simp only[zzQ]
 refine zar (St u1) (by rfl) (λf W' hf h C' hC'=>by
  go_simp
  refine(S1.out _ (HW.out.below h.bel)).mono ?_
  rintro e w' ⟨rfl,hb⟩
  exact⟨rfl,hC' _ (h.next hb)⟩) ?_
 try simp only[zzQ]
 refine qR (.pointer (some ⟨w.heap.size+1+1,1,none⟩)) ?_
 simp only[zzQ]
 refine qR (St y3) ?_ (hy:=λf W' hf h=>by have h0:=h.c1;go_simp)
 simp only[zzQ]
 refine qR (.pointer (some ⟨w.heap.size,1,none⟩)) ?_
 simp only[zzQ]
 refine qR (St y1) ?_ (hy:=λf W' hf h=>by have h0:=h.a1;go_simp)
 simp only[zzQ]
 refine zar (St u2) (by rfl) (λf W' hf h C' hC'=>by
  go_simp
  refine(S2.out _ (HW.out.below h.bel)).mono ?_
  rintro e w' ⟨rfl,hb⟩
  exact⟨rfl,hC' _ (h.next hb)⟩) ?_
 try simp only[zzQ]
 refine zar (St u) (by rfl) (λf W' hf h C' hC'=>by
  go_simp
  refine(M1.out _ (HW.out.below h.bel)).mono ?_
  rintro e w' ⟨rfl,hb⟩
  exact⟨rfl,hC' _ (h.next hb)⟩) ?_
 try simp only[zzQ]
 refine qR (.pointer (some ⟨w.heap.size+1,1,none⟩)) ?_
 simp only[zzQ]
 refine qR (St y2) ?_ (hy:=λf W' hf h=>by have h0:=h.b1;go_simp)
 simp only[zzQ]
 refine qR (.pointer (some ⟨w.heap.size,1,none⟩)) ?_
 simp only[zzQ]
 refine qR (St y1) ?_ (hy:=λf W' hf h=>by have h0:=h.a1;go_simp)
 simp only[zzQ]
 refine zar (St v1) (by rfl) (λf W' hf h C' hC'=>by
  go_simp
  refine(S3.out _ (HW.out.below h.bel)).mono ?_
  rintro e w' ⟨rfl,hb⟩
  exact⟨rfl,hC' _ (h.next hb)⟩) ?_
 try simp only[zzQ]
 refine qR (.pointer (some ⟨w.heap.size+1+1,0,none⟩)) ?_
 simp only[zzQ]
 refine qR (St x3) ?_ (hy:=λf W' hf h=>by have h0:=h.c0;go_simp)
 simp only[zzQ]
 refine qR (.pointer (some ⟨w.heap.size,0,none⟩)) ?_
 simp only[zzQ]
 refine qR (St x1) ?_ (hy:=λf W' hf h=>by have h0:=h.a0;go_simp)
 simp only[zzQ]
 refine zar (St v2) (by rfl) (λf W' hf h C' hC'=>by
  go_simp
  refine(S4.out _ (HW.out.below h.bel)).mono ?_
  rintro e w' ⟨rfl,hb⟩
  exact⟨rfl,hC' _ (h.next hb)⟩) ?_
 try simp only[zzQ]
 refine zar (St v) (by rfl) (λf W' hf h C' hC'=>by
  go_simp
  refine(M2.out _ (HW.out.below h.bel)).mono ?_
  rintro e w' ⟨rfl,hb⟩
  exact⟨rfl,hC' _ (h.next hb)⟩) ?_
 try simp only[zzQ]
 refine zar (.int .i64 n) (by rfl) (λf W' hf h C' hC'=>by
  go_simp
  refine(CM.out _ (HW.out.below h.bel)).mono ?_
  rintro e w' ⟨rfl,hb⟩
  exact⟨rfl,hC' _ (h.next hb)⟩) ?_
 try simp only[zzQ]
 refine qR (.int .i64 n) ?_
 simp only[zzQ]
 refine zck λf W' hf h=>?_
 have hB:=h.bel
 clear hf h
 go_wp2_with fail
 go_ret
 exact⟨rfl,hB⟩
theorem zjg (a b c:Pt) (k:Nat) (hk:0<k) (hk2:8*k+4<=300) (ha:szP a k) (hb:szP b k) (hc:szP c k) (w:zA) (hw:Wd w):
 qJ 35 #[ptV a,ptV b,ptV c] w (.int .i64 (turn a b c)):=by
 have s1:=zb0 hb.1 ha.1
 have s2:=zb0 hc.2 ha.2
 have s3:=zb0 hb.2 ha.2
 have s4:=zb0 hc.1 ha.1
 have m1:=zca s1 s2
 have m2:=zca s3 s4
 exact zwx _ _ _ _ _ _ _ _ _ _ _ _ _ (hid λW hW=>zgg b.x a.x k k hk hk (by omega) hb.1 ha.1 W hW) (hid λW hW=>zgg c.y a.y k k hk hk (by omega) hc.2 ha.2 W hW)
  (hid λW hW=>zhm _ _ _ _ (by omega) (by omega) (by omega) s1 s2 W hW) (hid λW hW=>zgg b.y a.y k k hk hk (by omega) hb.2 ha.2 W hW) (hid λW hW=>zgg c.x a.x k k hk hk (by omega) hc.1 ha.1 W hW)
  (hid λW hW=>zhm _ _ _ _ (by omega) (by omega) (by omega) s3 s4 W hW) (hid λW hW=>zlr _ _ _ _ (by omega) (by omega) (by omega) m1 m2 W hW) w (hid hw)
end Go.Proofs.YthfpmfdiamldoaaGreatDoor
