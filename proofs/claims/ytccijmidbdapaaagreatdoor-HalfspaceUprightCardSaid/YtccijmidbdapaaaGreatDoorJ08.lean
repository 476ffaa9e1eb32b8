/- integer.Add, Sub, Mul, Compare. -/
import Derived.Test.YtccijmidbdapaaaGreatDoorJ07
set_option maxRecDepth 100000
set_option maxHeartbeats 8000000
open Go renaming World → zA
open Go.Lib renaming decDigits → zD, itoa → zE
open Go.World renaming alloc_heap_new → zG, size_alloc → zH
open Go.IntWalk renaming i64_in → zI
open Go.RowKit.Below renaming refl → zM
open Nat renaming le_refl → zN, le_trans → zO, lt_of_lt_of_le → zS, pow_le_pow_right → yF
open Int renaming natAbs_mul → yK
namespace Go.Proofs.YtccijmidbdapaaaGreatDoor
open Go.RowKit Go.Shelf Lib Str Limb
attribute [local go_sem] Oper.semAt_some
theorem lt18 {x:Int} (h:(zE x).length<=18): -1000000000000000000<x/\x<1000000000000000000:=by
 have h1:=zbr x
 have h2:=(za3 x 18 (by omega)).1 (by omega)
 have e:(10:Nat)^18=1000000000000000000:=rfl
 rw[e] at h2
 omega
theorem zbf {z:Int} (h: -10000000000000000000<z/\z<10000000000000000000):digs z<=19:=by
 rw[za3 _ _ (by omega)]
 have e:(10:Nat)^19=10000000000000000000:=rfl
 rw[e];omega
theorem zwr (x y:Int) (hx:(zE x).length<=18) (hy:(zE y).length<=18) (w:zA) (hw:Wd w):
 qJ 95 #[St (zE x),St (zE y)] w (.tuple #[St (resL (x+y)),.int .i64 (resE (x+y))]):=by
 obtain⟨x1,x2⟩:=lt18 hx
 obtain⟨y1,y2⟩:=lt18 hy
 have h0:digs (x+y)<=300:=zO (zbf (by omega)) (by omega)
 rw[zcf h0,zcg h0]
 have hb:=λW=>zdh x y (zO (zbf (by omega)) (by omega)) (zO (zbf (by omega)) (by omega)) W
 have hs:=λW=>zdy x y hx hy W
 have HB:=hid hb;clear hb
 have HS:=hid hs;clear hs hx hy h0
 have HW:=hid hw;clear hw
 go_enter Tryz.func95,Tryz.ntmps95
 go_wp2_with fail
 refine(HB.out w).mono ?_
 rintro e w1 ⟨rfl,hB1⟩
 go_wp2_with fail
 refine(HS.out w1).mono ?_
 rintro e w2 ⟨rfl,hb2⟩
 have hB2:=hB1.trans (hb2.mono hB1.size)
 clear hb2 hB1
 go_wp2_with fail
 refine(zb3 (x+y) (by omega) (by omega) w2 (HW.out.below hB2)).mono ?_
 rintro e w3 ⟨rfl,hb3⟩
 have hB3:=hB2.trans (hb3.mono hB2.size)
 clear hb3 hB2
 go_wp2_with fail
 go_ret2
 exact⟨rfl,hB3⟩
theorem z1b (x y:Int) (hx:digs x<=300) (hy:digs y<=300) (h:18<(zE x).length\/18<(zE y).length) (w:zA) (hw:Wd w):
 qJ 95 #[St (zE x),St (zE y)] w (.tuple #[St (resL (x+y)),.int .i64 (resE (x+y))]):=by
 have hb:=λW=>zdh x y hx hy W
 have hs:=λW=>ze8 x y h W
 have r1:=λW=>zc3 x W (by omega)
 have r2:=λW=>zc3 y W (by omega)
 have l1:=zb4 (z:=x) (k:=100) (by omega) (by omega)
 have l2:=zb4 (z:=y) (k:=100) (by omega) (by omega)
 have l3:=zb4 (z:=x+y) (k:=100) (by omega) (zO (zhz (by omega) hx hy) (by omega))
 have HB:=hid hb;clear hb
 have HS:=hid hs;clear hs hx hy h
 have HW:=hid hw;clear hw
 have R1:=hid r1;have R2:=hid r2;clear r1 r2
 go_enter Tryz.func95,Tryz.ntmps95
 go_wp2_with fail
 refine(HB.out w).mono ?_
 rintro e w1 ⟨rfl,hB1⟩
 go_wp2_with fail
 refine(HS.out w1).mono ?_
 rintro e w2 ⟨rfl,rfl⟩
 go_wp2_with fail
 refine(R1.out w1).mono ?_
 rintro e w2 ⟨vx,rfl,hvx,hb2⟩
 have hB2:=hB1.trans (hb2.mono hB1.size)
 clear hb2 hB1
 have HVX:=hid hvx;clear hvx
 go_wp2_with fail
 refine(R2.out w2).mono ?_
 rintro e w3 ⟨vy,rfl,hvy,hb3⟩
 have hvx:=HVX.out.below hb3
 have hB3:=hB2.trans (hb3.mono hB2.size)
 clear hb3 hB2
 have HVX2:=hid hvx;have HVY:=hid hvy;clear hvx hvy HVX
 go_wp2_with fail
 refine(zog _ _ vx vy _ _ w3 HVX2.out HVY.out (by omega) (by omega)).mono ?_
 rintro e w4 ⟨m,v,n,rfl,hz,hv,hb4⟩
 rw[zcs,zcs] at hz
 have hn:n=(x+y).natAbs:=by rw[<-hz,zge]
 have hB4:=hB3.trans (hb4.mono hB3.size)
 clear hb4 hB3
 have HZ:=hid hz;clear hz
 have HV:=hid hv;clear hv
 have hnl:(zaa B9 n).length<=1000:=by rw[hn];omega
 clear hn
 go_wp2_with fail
 refine(zez m v n w4 (HW.out.below hB4) HV.out hnl).mono ?_
 rw[HZ.out]
 rintro e w5 ⟨rfl,hb5⟩
 have hB5:=hB4.trans (hb5.mono hB4.size)
 clear hb5 hB4
 go_wp2_with fail
 go_ret2
 exact⟨rfl,hB5⟩
theorem z1c (x y:Int) (hx:digs x<=300) (hy:digs y<=300) (w:zA) (hw:Wd w):
 qJ 95 #[St (zE x),St (zE y)] w (.tuple #[St (resL (x+y)),.int .i64 (resE (x+y))]):=by
 by_cases h:(zE x).length<=18/\(zE y).length<=18
 ·exact zwr x y h.1 h.2 w hw
 ·exact z1b x y hx hy (by omega) w hw
theorem zbx {w:zA} {v:Value} {l:List Nat} (h:Sl w v (l.map I)):∃p k c,v=.slice p k c/\k=l.length:=by
 obtain⟨p,c,rfl, -⟩:=h
 exact⟨p,_,c,rfl,by simp⟩
theorem zws (x y:Int) (hx:(zE x).length<=18) (hy:(zE y).length<=18) (w:zA) (hw:Wd w):
 qJ 48 #[St (zE x),St (zE y)] w (.tuple #[St (resL (x-y)),.int .i64 (resE (x-y))]):=by
 obtain⟨x1,x2⟩:=lt18 hx
 obtain⟨y1,y2⟩:=lt18 hy
 have h0:digs (x-y)<=300:=zO (zbf (by omega)) (by omega)
 rw[zcf h0,zcg h0]
 have hb:=λW=>zdh x y (zO (zbf (by omega)) (by omega)) (zO (zbf (by omega)) (by omega)) W
 have hs:=λW=>zdy x y hx hy W
 have HB:=hid hb;clear hb
 have HS:=hid hs;clear hs hx hy h0
 have HW:=hid hw;clear hw
 go_enter Tryz.func48,Tryz.ntmps48
 go_wp2_with fail
 refine(HB.out w).mono ?_
 rintro e w1 ⟨rfl,hB1⟩
 go_wp2_with fail
 refine(HS.out w1).mono ?_
 rintro e w2 ⟨rfl,hb2⟩
 have hB2:=hB1.trans (hb2.mono hB1.size)
 clear hb2 hB1
 go_wp2_with fail
 refine(zb3 (x-y) (by omega) (by omega) w2 (HW.out.below hB2)).mono ?_
 rintro e w3 ⟨rfl,hb3⟩
 have hB3:=hB2.trans (hb3.mono hB2.size)
 clear hb3 hB2
 go_wp2_with fail
 go_ret2
 exact⟨rfl,hB3⟩
theorem z1d (x y:Int) (hx:digs x<=300) (hy:digs y<=300) (h:18<(zE x).length\/18<(zE y).length) (w:zA) (hw:Wd w):
 qJ 48 #[St (zE x),St (zE y)] w (.tuple #[St (resL (x-y)),.int .i64 (resE (x-y))]):=by
 have hb:=λW=>zdh x y hx hy W
 have hs:=λW=>ze8 x y h W
 have r1:=λW=>zc3 x W (by omega)
 have r2:=λW=>zc3 y W (by omega)
 have l1:=zb4 (z:=x) (k:=100) (by omega) (by omega)
 have l2:=zb4 (z:=y) (k:=100) (by omega) (by omega)
 have l3:=zb4 (z:=x-y) (k:=100) (by omega) (zO (by rw[Int.sub_eq_add_neg];exact zhz (by omega) hx (by rw[zy1];exact hy)) (by omega))
 have HB:=hid hb;clear hb
 have HS:=hid hs;clear hs hx hy h
 have HW:=hid hw;clear hw
 have R1:=hid r1;have R2:=hid r2;clear r1 r2
 go_enter Tryz.func48,Tryz.ntmps48
 go_wp2_with fail
 refine(HB.out w).mono ?_
 rintro e w1 ⟨rfl,hB1⟩
 go_wp2_with fail
 refine(HS.out w1).mono ?_
 rintro e w2 ⟨rfl,rfl⟩
 go_wp2_with fail
 refine(R2.out w1).mono ?_
 rintro e w2 ⟨vy,rfl,hvy,hb2⟩
 have hB2:=hB1.trans (hb2.mono hB1.size)
 clear hb2 hB1
 obtain⟨py,ky,cy,rfl, -⟩:=zbx hvy
 have HVY:=hid hvy;clear hvy
 have snot:=ztv y
 generalize hby:decide (y<0)=b at*
 have SN:=hid snot;clear snot
 have HBY:=hid hby;clear hby
 go_wp2
 have bk:=zG w2 (.cells #[.bool !b,.slice py ky cy] 125)
 have hB3:=hB2.alloc hB2.size (.cells #[.bool !b,.slice py ky cy] 125)
 have hb3:qL w2 (w2.alloc (.cells #[.bool !b,.slice py ky cy] 125)):=(zM _ _).alloc (zN _) _
 have HVY2:=hid (HVY.out.below hb3);clear HVY hb3
 generalize w2.alloc (.cells #[.bool !b,.slice py ky cy] 125)=W3 at*
 obtain⟨z,hz⟩:∃z,z=w2.heap.size:=⟨_,rfl⟩
 rw[<-hz] at bk⊢
 clear hz hB2 w2
 have ck:∀W:zA,W.heap[z]? =W3.heap[z]? ->W.cell? ⟨z,0,none⟩=some (.bool !b)/\W.cell? ⟨z,1,none⟩=some (.slice py ky cy):=λW h=>⟨by simp[World.cell?,h,bk],by simp[World.cell?,h,bk]⟩
 have CK:=hid ck;clear ck
 have lz:z<W3.heap.size:=(Array.getElem?_eq_some_iff.1 bk).1
 clear bk
 refine zwm [(0,true),(2,true),(1,false),(3,false),(4,false),(5,true),(6,true),(7,true),(8,true)] (λW=>W.cell? ⟨z,0,none⟩=some (.bool !b)/\W.cell? ⟨z,1,none⟩=some (.slice py ky cy)) (by kernel_rfl) (by kernel_rfl) (CK.out _ rfl) ?_
 (apply MQ.take (by simp only[List.getElem?_toArray,List.getElem?_cons_zero];rfl) (by rfl);(focus(rintro W ⟨h1,h2⟩;go_simp;try with_reducible rfl));try simp only[zzQ])
 (apply MQ.take (by simp only[List.getElem?_toArray,List.getElem?_cons_succ,List.getElem?_cons_zero];rfl) (by rfl);(focus(rintro W ⟨h1,h2⟩;go_simp;try with_reducible rfl));try simp only[zzQ])
 (refine MQ.only (by simp only[List.getElem?_toArray,List.getElem?_cons_succ,List.getElem?_cons_zero];rfl) (by rfl) λK hK=>?_;go_simp)
 refine(R1.out W3.drew).mono ?_
 rintro e w4 ⟨vx,rfl,hvx,hb4⟩
 have e4:w4.heap[z]? =W3.heap[z]? :=hb4.block z lz
 have hB4:=hB3.drew.trans (hb4.mono (by show _<=W3.heap.size;exact hB3.size))
 have hvy:=HVY2.out.below (((zM W3.heap.size W3).drew).trans hb4)
 have lz4:z<w4.heap.size:=zS lz hb4.size
 have HVY3:=hid hvy;have HVX:=hid hvx
 have S4:=CK.out w4 e4
 have E4:=hid e4
 clear hb4 hvy hvx e4
 (refine hK _ _ S4 ?_;clear hK K;try simp only[zzQ])
 (refine MQ.only (by simp only[List.getElem?_toArray,List.getElem?_cons_succ,List.getElem?_cons_zero];rfl) (by rfl) λK hK=>?_;go_simp)
 refine(zog _ _ vx (.slice py ky cy) _ _ w4 HVX.out HVY3.out (by omega) (by omega)).mono ?_
 rintro e w5 ⟨m,v,n,rfl,hz,hv,hb5⟩
 rw[SN.out,zcs] at hz
 have hn:n=(x-y).natAbs:=by rw[show x-y=x+ -y from Int.sub_eq_add_neg,<-hz,zge]
 have hB5:=hB4.trans (hb5.mono hB4.size)
 have e5:w5.heap[z]? =W3.heap[z]? :=(hb5.block z lz4).trans E4.out
 have S5:=CK.out w5 e5
 have lz5:z<w5.heap.size:=zS lz4 hb5.size
 have E5:=hid e5
 have HZ:=hid (show sgn m n=x-y by rw[hz];omega)
 have HV:=hid hv
 have hnl:(zaa B9 n).length<=1000:=by rw[hn];omega
 clear hn hb5 hB4 e5 hz hv
 (refine hK _ _ S5 ?_;clear hK K;try simp only[zzQ])
 (refine MQ.only (by simp only[List.getElem?_toArray,List.getElem?_cons_succ,List.getElem?_cons_zero];rfl) (by rfl) λK hK=>?_;go_simp)
 refine(zez m v n w5 (HW.out.below hB5) HV.out hnl).mono ?_
 rw[HZ.out]
 rintro e w6 ⟨rfl,hb6⟩
 have hB6:=hB5.trans (hb6.mono hB5.size)
 have S6:=CK.out w6 ((hb6.block z lz5).trans E5.out)
 clear hb6 hB5
 (refine hK _ _ S6 ?_;clear hK K;try simp only[zzQ])
 iterate 4 (apply MQ.take (by simp only[List.getElem?_toArray,List.getElem?_cons_succ,List.getElem?_cons_zero];rfl) (by rfl);(focus(rintro W ⟨h1,h2⟩;go_simp;try with_reducible rfl));try simp only[zzQ])
 refine MQ.nil ⟨rfl,?_⟩
 go_wp2_with fail
 go_ret2
 exact⟨rfl,hB6⟩
theorem z1e (x y:Int) (hx:digs x<=300) (hy:digs y<=300) (w:zA) (hw:Wd w):
 qJ 48 #[St (zE x),St (zE y)] w (.tuple #[St (resL (x-y)),.int .i64 (resE (x-y))]):=by
 by_cases h:(zE x).length<=18/\(zE y).length<=18
 ·exact zws x y h.1 h.2 w hw
 ·exact z1d x y hx hy (by omega) w hw
theorem zy4 (va vb:Value) (m n:Nat) (w:zA) (ha:Sl w va ((zaa B9 m).map I)) (hb:Sl w vb ((zaa B9 n).map I)) (la:(zaa B9 m).length<=1000) (lb:(zaa B9 n).length<=1000):
 Calls Tryz.prog 67 #[va,vb] w λe w'=>∃p c k,e=.returned (.slice p k c)/\Sl w' (.slice p k c) ((zaa B9 (m*n)).map I)/\Below w.heap.size w w':=by
 refine(zox va vb _ _ w ha hb (zak (by decide) m) (zak (by decide) n) la lb).mono ?_
 rintro e w' ⟨v,rfl,hown,hB⟩
 rw[zjp (by decide) (zak (by decide) m) (zak (by decide) n),zam (by decide),zam (by decide)] at hown
 have hs:=Sl.of_own hown
 obtain⟨p,c,e, -⟩:=id hs
 subst e
 exact⟨p,c,_,rfl,hs,hB⟩
theorem z1f (x y:Int):sgn (decide (x<0) !=decide (y<0)) (x.natAbs*y.natAbs)=x*y:=by
 unfold sgn
 have e:((x.natAbs*y.natAbs:Nat):Int)=(x.natAbs:Int)*y.natAbs:=by simp
 by_cases h1:x<0<;>by_cases h2:y<0
 ·simp only[h1,h2,decide_true,bne_self_eq_false,Bool.false_eq_true,if_false]
  rw[e,show(x.natAbs:Int)= -x by omega,show(y.natAbs:Int)= -y by omega,Int.neg_mul_neg]
 ·have:(decide (x<0) !=decide (y<0))=true:=by simp[h1,h2]
  rw[this,if_pos rfl,e,show(x.natAbs:Int)= -x by omega,show(y.natAbs:Int)=y by omega,Int.neg_mul,Int.neg_neg]
 ·have:(decide (x<0) !=decide (y<0))=true:=by simp[h1,h2]
  rw[this,if_pos rfl,e,show(x.natAbs:Int)=x by omega,show(y.natAbs:Int)= -y by omega,Int.mul_neg,Int.neg_neg]
 ·simp only[h1,h2,decide_false,bne_self_eq_false,Bool.false_eq_true,if_false]
  rw[e,show(x.natAbs:Int)=x by omega,show(y.natAbs:Int)=y by omega]
theorem z1g {x y:Int} (h:(zE x).length+(zE y).length<=18): -1000000000000000000<x*y/\x*y<1000000000000000000:=by
 have h1:=zbr x
 have h2:=zbr y
 have p1:=zbn x
 have p2:=zbn y
 have h3:=zq2 (x:=x) (y:=y) (i:=digs x) (j:=digs y) (by omega) (by omega) (zN _) (zN _)
 have h4:=(za3 (x*y) 18 (by omega)).1 (by omega)
 have e:(10:Nat)^18=1000000000000000000:=rfl
 rw[e] at h4
 omega
theorem zwt (x y:Int) (h:(zE x).length+(zE y).length<=18) (w:zA) (hw:Wd w):
 qJ 25 #[St (zE x),St (zE y)] w (.tuple #[St (resL (x*y)),.int .i64 (resE (x*y))]):=by
 obtain⟨x1,x2⟩:=lt18 (x:=x) (by omega)
 obtain⟨y1,y2⟩:=lt18 (x:=y) (by omega)
 obtain⟨p1,p2⟩:=z1g h
 have h0:digs (x*y)<=300:=zO (zbf (by omega)) (by omega)
 rw[zcf h0,zcg h0]
 have hb:=λW=>zdh x y (zO (zbf (by omega)) (by omega)) (zO (zbf (by omega)) (by omega)) W
 have hs:=λW=>zdy x y (by omega) (by omega) W
 have hle:decide (((zE x).length:Int)+((zE y).length:Int)<=18)=true:=by simp;omega
 have hit:=λW hW=>zb3 (x*y) (by omega) (by omega) W hW
 have hwr:IntKind.i64.wrap (x*y)=x*y:=zI _ (by omega)
 have hl1:(zE x).length<=18:=by omega
 have hl2:(zE y).length<=18:=by omega
 have HIT:=hid hit;clear hit
 have HB:=hid hb;clear hb
 have HS:=hid hs;clear hs h h0
 have HW:=hid hw;clear hw
 go_enter Tryz.func25,Tryz.ntmps25
 go_wp2_with fail
 refine(HB.out w).mono ?_
 rintro e w1 ⟨rfl,hB1⟩
 go_wp2_with fail
 refine(HS.out w1).mono ?_
 rintro e w2 ⟨rfl,hb2⟩
 have hB2:=hB1.trans (hb2.mono hB1.size)
 clear hb2 hB1
 go_wp2_with fail
 refine(HIT.out w2 (HW.out.below hB2)).mono ?_
 rintro e w3 ⟨rfl,hb3⟩
 have hB3:=hB2.trans (hb3.mono hB2.size)
 clear hb3 hB2
 go_wp2_with fail
 go_ret2
 exact⟨rfl,hB3⟩
theorem z1h (x y:Int) (hx:digs x<=300) (hy:digs y<=300) (h:¬(zE x).length+(zE y).length<=18) (w:zA) (hw:Wd w):
 qJ 25 #[St (zE x),St (zE y)] w (.tuple #[St (resL (x*y)),.int .i64 (resE (x*y))]):=by
 have hb:=λW=>zdh x y hx hy W
 have r1:=λW=>zc3 x W (by omega)
 have r2:=λW=>zc3 y W (by omega)
 have l1:=zb4 (z:=x) (k:=100) (by omega) (by omega)
 have l2:=zb4 (z:=y) (k:=100) (by omega) (by omega)
 have l3:=zb4 (z:=x*y) (k:=100) (by omega) (zO (zq2 (by omega) (by omega) hx hy) (by omega))
 rw[yK] at l3
 have hle:decide (((zE x).length:Int)+((zE y).length:Int)<=18)=false:=by simp;omega
 have q1:=za7 x
 have q2:=za7 y
 have hl1:(zE x).length<=301:=by omega
 have hl2:(zE y).length<=301:=by omega
 clear q1 q2
 have HB:=hid hb;clear hb hx hy h
 have HW:=hid hw;clear hw
 have R1:=hid r1;have R2:=hid r2;clear r1 r2
 go_enter Tryz.func25,Tryz.ntmps25
 go_wp2_with fail
 refine(HB.out w).mono ?_
 rintro e w1 ⟨rfl,hB1⟩
 go_wp2_with fail
 refine(R1.out w1).mono ?_
 rintro e w2 ⟨vx,rfl,hvx,hb2⟩
 have hB2:=hB1.trans (hb2.mono hB1.size)
 clear hb2 hB1
 have HVX:=hid hvx;clear hvx
 go_wp2_with fail
 refine(R2.out w2).mono ?_
 rintro e w3 ⟨vy,rfl,hvy,hb3⟩
 have hvx:=HVX.out.below hb3
 have hB3:=hB2.trans (hb3.mono hB2.size)
 clear hb3 hB2 HVX
 obtain⟨px,kx,cx,rfl, -⟩:=zbx hvx
 obtain⟨py,ky,cy,rfl, -⟩:=zbx hvy
 have HVX:=hid hvx;have HVY:=hid hvy;clear hvx hvy
 have sm:=z1f x y
 generalize hbx:decide (x<0)=b1 at*
 generalize hby:decide (y<0)=b2 at*
 have SM:=hid sm;clear sm hbx hby
 go_wp2
 have b1k:=(Below.heap_alloc (w3.alloc (.cells #[.bool b1,.slice px kx cx] 125)) (.cells #[.bool b2,.slice py ky cy] 125) w3.heap.size (by simp)).trans (zG w3 (.cells #[.bool b1,.slice px kx cx] 125))
 have b2k:=zG (w3.alloc (.cells #[.bool b1,.slice px kx cx] 125)) (.cells #[.bool b2,.slice py ky cy] 125)
 rw[zH] at b2k
 have hB4:=(hB3.alloc hB3.size (.cells #[.bool b1,.slice px kx cx] 125)).alloc (by have:=hB3.size;simp;omega) (.cells #[.bool b2,.slice py ky cy] 125)
 have hb4:qL w3 ((w3.alloc (.cells #[.bool b1,.slice px kx cx] 125)).alloc (.cells #[.bool b2,.slice py ky cy] 125)):=((zM _ _).alloc (zN _) _).alloc (by simp) _
 have HVX2:=hid (HVX.out.below hb4)
 have HVY2:=hid (HVY.out.below hb4)
 clear HVX HVY hb4
 generalize (w3.alloc (.cells #[.bool b1,.slice px kx cx] 125)).alloc (.cells #[.bool b2,.slice py ky cy] 125)=W4 at*
 obtain⟨z,hz⟩:∃z,z=w3.heap.size:=⟨_,rfl⟩
 rw[<-hz] at b1k b2k⊢
 clear hz hB3 w3
 have ck:∀W:zA,W.heap[z]? =W4.heap[z]? ->W.heap[z+1]? =W4.heap[z+1]? ->(W.cell? ⟨z,0,none⟩=some (.bool b1)/\W.cell? ⟨z,1,none⟩=some (.slice px kx cx))/\W.cell? ⟨z+1,0,none⟩=some (.bool b2)/\W.cell? ⟨z+1,1,none⟩=some (.slice py ky cy):=
  λW h k=>⟨⟨by simp[World.cell?,h,b1k],by simp[World.cell?,h,b1k]⟩,by simp[World.cell?,k,b2k],by simp[World.cell?,k,b2k]⟩
 have CK:=hid ck;clear ck
 have lz:z+1<W4.heap.size:=(Array.getElem?_eq_some_iff.1 b2k).1
 clear b1k b2k
 refine zwm [(0,true),(1,true),(2,true),(3,true),(4,true),(5,true),(6,true),(7,true),(8,true),(9,false),(10,true),(11,false),(12,true),(13,true),(14,true),(15,true)]
  (λW=>(W.cell? ⟨z,0,none⟩=some (.bool b1)/\W.cell? ⟨z,1,none⟩=some (.slice px kx cx))/\W.cell? ⟨z+1,0,none⟩=some (.bool b2)/\W.cell? ⟨z+1,1,none⟩=some (.slice py ky cy)) (by kernel_rfl) (by kernel_rfl) (CK.out _ rfl rfl) ?_
 iterate 9 (apply MQ.take (by simp only[List.getElem?_toArray,List.getElem?_cons_succ,List.getElem?_cons_zero];rfl) (by rfl);(focus(rintro W ⟨⟨h1,h2⟩,h3,h4⟩;go_simp;try with_reducible rfl));try simp only[zzQ])
 (refine MQ.only (by simp only[List.getElem?_toArray,List.getElem?_cons_succ,List.getElem?_cons_zero];rfl) (by rfl) λK hK=>?_;go_simp)
 refine(zy4 (.slice px kx cx) (.slice py ky cy) _ _ W4.drew (HVX2.out.below (zM _ _).drew) (HVY2.out.below (zM _ _).drew) (by omega) (by omega)).mono ?_
 rintro e w5 ⟨p,c,k,rfl,hv,hb5⟩
 have hB5:=hB4.drew.trans (hb5.mono (by show _<=W4.heap.size;exact hB4.size))
 have e5:w5.heap[z]? =W4.heap[z]? :=hb5.block z (by show z<W4.heap.size;omega)
 have f5:w5.heap[z+1]? =W4.heap[z+1]? :=hb5.block (z+1) lz
 have lz5:z+1<w5.heap.size:=zS lz hb5.size
 have S5:=CK.out w5 e5 f5
 have E5:=hid e5;have F5:=hid f5
 have HV:=hid hv
 clear hb5 e5 f5 hv hB4
 (refine hK _ _ S5 ?_;clear hK K;try simp only[zzQ])
 (apply MQ.take (by simp only[List.getElem?_toArray,List.getElem?_cons_succ,List.getElem?_cons_zero];rfl) (by rfl);(focus(rintro W ⟨⟨h1,h2⟩,h3,h4⟩;go_simp;try with_reducible rfl));try simp only[zzQ])
 (refine MQ.only (by simp only[List.getElem?_toArray,List.getElem?_cons_succ,List.getElem?_cons_zero];rfl) (by rfl) λK hK=>?_;go_simp)
 refine(zez (b1 !=b2) (.slice p k c) (x.natAbs*y.natAbs) w5 (HW.out.below hB5) HV.out (by omega)).mono ?_
 rw[SM.out]
 rintro e w6 ⟨rfl,hb6⟩
 have hB6:=hB5.trans (hb6.mono hB5.size)
 have S6:=CK.out w6 ((hb6.block z (by omega)).trans E5.out) ((hb6.block (z+1) lz5).trans F5.out)
 clear hb6 hB5
 (refine hK _ _ S6 ?_;clear hK K;try simp only[zzQ])
 iterate 4 (apply MQ.take (by simp only[List.getElem?_toArray,List.getElem?_cons_succ,List.getElem?_cons_zero];rfl) (by rfl);(focus(rintro W ⟨⟨h1,h2⟩,h3,h4⟩;go_simp;try with_reducible rfl));try simp only[zzQ])
 refine MQ.nil ⟨rfl,?_⟩
 go_wp2_with fail
 go_ret2
 exact⟨rfl,hB6⟩
theorem zhk (x y:Int) (hx:digs x<=300) (hy:digs y<=300) (w:zA) (hw:Wd w):
 qJ 25 #[St (zE x),St (zE y)] w (.tuple #[St (resL (x*y)),.int .i64 (resE (x*y))]):=by
 by_cases h:(zE x).length+(zE y).length<=18
 ·exact zwt x y h w hw
 ·exact z1h x y hx hy h w hw
def cmpZ (x y:Int):Int:=if x<y then-1 else if x>y then 1 else 0
theorem zpx (x y:Int) (hx:(zE x).length<=18) (hy:(zE y).length<=18) (w:zA):
 qJ 33 #[St (zE x),St (zE y)] w (.tuple #[.int .i64 (cmpZ x y),.int .i64 0]):=by
 obtain⟨x1,x2⟩:=lt18 hx
 obtain⟨y1,y2⟩:=lt18 hy
 have hb:=λW=>zdh x y (zO (zbf (by omega)) (by omega)) (zO (zbf (by omega)) (by omega)) W
 have hs:=λW=>zdy x y hx hy W
 have hc:∀W,Calls Tryz.prog 30 #[.int .i64 x,.int .i64 y] W λe w'=>e=.returned (.int .i64 (cmpZ x y))/\w'=W:=λW=>Tryz.cmp_Compare_int x y W
 have HB:=hid hb;clear hb
 have HC:=hid hc;clear hc
 have HS:=hid hs;clear hs hx hy
 go_enter Tryz.func33,Tryz.ntmps33
 go_wp2_with fail
 refine(HB.out w).mono ?_
 rintro e w1 ⟨rfl,hB1⟩
 go_wp2_with fail
 refine(HS.out w1).mono ?_
 rintro e w2 ⟨rfl,hb2⟩
 have hB2:=hB1.trans (hb2.mono hB1.size)
 clear hb2 hB1
 go_wp2_with fail
 refine(HC.out w2).mono ?_
 rintro e w3 ⟨rfl,rfl⟩
 go_wp2_with fail
 go_ret2
 exact⟨rfl,hB2⟩
theorem zsw (x y:Int) (hx:digs x<=300) (hy:digs y<=300) (h:18<(zE x).length\/18<(zE y).length) (w:zA):
 qJ 33 #[St (zE x),St (zE y)] w (.tuple #[.int .i64 (cmpZ x y),.int .i64 0]):=by
 have hb:=λW=>zdh x y hx hy W
 have hs:=λW=>ze8 x y h W
 have r1:=λW=>zc3 x W (by omega)
 have r2:=λW=>zc3 y W (by omega)
 have l1:=zb4 (z:=x) (k:=100) (by omega) (by omega)
 have l2:=zb4 (z:=y) (k:=100) (by omega) (by omega)
 have HB:=hid hb;clear hb
 have HS:=hid hs;clear hs hx hy h
 have R1:=hid r1;have R2:=hid r2;clear r1 r2
 go_enter Tryz.func33,Tryz.ntmps33
 go_wp2_with fail
 refine(HB.out w).mono ?_
 rintro e w1 ⟨rfl,hB1⟩
 go_wp2_with fail
 refine(HS.out w1).mono ?_
 rintro e w2 ⟨rfl,rfl⟩
 go_wp2_with fail
 refine(R1.out w1).mono ?_
 rintro e w2 ⟨vx,rfl,hvx,hb2⟩
 have hB2:=hB1.trans (hb2.mono hB1.size)
 clear hb2 hB1
 have HVX:=hid hvx;clear hvx
 go_wp2_with fail
 refine(R2.out w2).mono ?_
 rintro e w3 ⟨vy,rfl,hvy,hb3⟩
 have hvx:=HVX.out.below hb3
 have hB3:=hB2.trans (hb3.mono hB2.size)
 clear hb3 hB2 HVX
 obtain⟨px,kx,cx,rfl, -⟩:=zbx hvx
 obtain⟨py,ky,cy,rfl, -⟩:=zbx hvy
 have HVX:=hid hvx;have HVY:=hid hvy;clear hvx hvy
 have sx:=zcs x
 have sy:=ztv y
 generalize hbx:decide (x<0)=b1 at*
 generalize hby:decide (y<0)=b2 at*
 have SX:=hid sx;have SY:=hid sy;clear sx sy hbx hby
 go_wp2_with fail
 have hB4:=(hB3.alloc hB3.size (.cells #[.bool b1,.slice px kx cx] 125)).alloc (by have:=hB3.size;simp;omega) (.cells #[.bool !b2,.slice py ky cy] 125)
 have hb4:qL w3 ((w3.alloc (.cells #[.bool b1,.slice px kx cx] 125)).alloc (.cells #[.bool !b2,.slice py ky cy] 125)):=((zM _ _).alloc (zN _) _).alloc (by simp) _
 refine(zog _ _ (.slice px kx cx) (.slice py ky cy) _ _ _ (HVX.out.below hb4) (HVY.out.below hb4) (by omega) (by omega)).mono ?_
 rintro e w5 ⟨m,v,n,rfl,hz,hv,hb5⟩
 rw[SX.out,SY.out] at hz
 obtain⟨p,k,c,rfl,hk⟩:=zbx hv
 have hB5:=hB4.trans (hb5.mono hB4.size)
 clear hb4 hB4 hb5 hB3 HVX HVY
 have hk0:k=0↔n=0:=by rw[hk];exact⟨λe=>(zbd (by decide) n).1 (List.length_eq_zero_iff.1 e),λe=>by rw[e,zaz];rfl⟩
 clear hk hv
 have hfin:(n=0->cmpZ x y=0)/\(n≠0->m=true->cmpZ x y= -1)/\(n≠0->m=false->cmpZ x y=1):=by
  unfold cmpZ
  refine⟨λh=>?_,λh1 h2=>?_,λh1 h2=>?_⟩
  ·subst h
   have:x=y:=by cases m<;>simp[sgn] at hz<;>omega
   rw[if_neg (by omega),if_neg (by omega)]
  ·subst h2;simp[sgn] at hz;rw[if_pos (by omega)]
  ·subst h2;simp[sgn] at hz;rw[if_neg (by omega),if_pos (by omega)]
 have HF:=hid hfin;clear hfin hz
 have hBF:=hB5.alloc hB5.size (.cells #[.bool m,.slice p k c] 125)
 by_cases h0:n=0
 ·have hkz:((k:Int)==0)=true:=by rw[beq_iff_eq];have:=hk0.2 h0;omega
  have HH:=hid h0;clear h0 hk0
  go_wp2_with fail
  go_ret2
  exact⟨by rw[HF.out.1 HH.out];rfl,hBF⟩
 ·have hkz:((k:Int)==0)=false:=by rw[beq_eq_false_iff_ne];have:=mt hk0.1 h0;omega
  have HH:=hid h0;clear h0 hk0
  cases m
  ·go_wp2_with fail
   go_ret2
   exact⟨by rw[HF.out.2.2 HH.out (by simp)];rfl,hBF⟩
  ·go_wp2_with fail
   go_ret2
   exact⟨by rw[HF.out.2.1 HH.out (by simp)];rfl,hBF⟩
theorem zsx (x y:Int) (hx:digs x<=300) (hy:digs y<=300) (w:zA):
 qJ 33 #[St (zE x),St (zE y)] w (.tuple #[.int .i64 (cmpZ x y),.int .i64 0]):=by
 by_cases h:(zE x).length<=18/\(zE y).length<=18
 ·exact zpx x y h.1 h.2 w
 ·exact zsw x y hx hy (by omega) w
theorem zmt (a b:Int):Int.gcd b (a.tmod b)=Int.gcd a b:=by
 unfold Int.gcd
 rw[Int.natAbs_tmod,Nat.gcd_comm b.natAbs,<-Nat.gcd_rec,Nat.gcd_comm]
theorem zq4 (x y:Int) (hx:digs x<=300) (hy:digs y<=300):digs (Int.gcd x y:Int)<=300:=by
 by_cases h0:x=0
 ·subst h0
  rw[Int.gcd_zero_left];unfold digs at*;simpa using hy
 ·rw[za3 _ _ (by omega)] at hx⊢
  rw[Int.natAbs_natCast]
  exact Nat.lt_of_le_of_lt (Nat.le_of_dvd (by omega) (Nat.gcd_dvd_left _ _)) hx
theorem zwu (x y:Int) (hx:(zE x).length<=18) (hy:(zE y).length<=18) (w:zA) (hw:Wd w):
 qJ 70 #[St (zE x),St (zE y)] w (.tuple #[St (zE (Int.gcd x y:Int)),.int .i64 0]):=by
 obtain⟨x1,x2⟩:=lt18 hx
 obtain⟨y1,y2⟩:=lt18 hy
 have hb:=λW=>zdh x y (zO (zbf (by omega)) (by omega)) (zO (zbf (by omega)) (by omega)) W
 have hs:=λW=>zdy x y hx hy W
 have HB:=hid hb;clear hb
 have HS:=hid hs;clear hs hx hy
 have HW:=hid hw;clear hw
 obtain⟨g,hg⟩:∃g,g=Int.gcd x y:=⟨_,rfl⟩
 rw[<-hg]
 have HG:=hid hg;clear hg
 go_enter Tryz.func70,Tryz.ntmps70
 go_wp2_with fail
 refine(HB.out w).mono ?_
 rintro e w1 ⟨rfl,hB1⟩
 go_wp2_with fail
 refine(HS.out w1).mono ?_
 rintro e w2 ⟨rfl,hb2⟩
 have hB2:=hB1.trans (hb2.mono hB1.size)
 clear hb2 hB1
 go_wp2_with fail
 go_loopw [7,8] (λa b wr=>∃m n:Int,a=.int .i64 m/\b=.int .i64 n/\Hid (Int.gcd m n=g)/\(-1000000000000000000<m/\m<1000000000000000000)/\(-1000000000000000000<n/\n<1000000000000000000)/\Hid (qL w wr))
  (λ_ b _=>(RowKit.intOf b).natAbs)
 case atStart=>exact⟨x,y,rfl,rfl,HG.out.symm,⟨x1,x2⟩,⟨y1,y2⟩,hB2⟩
 case round=>
  clear x1 x2 y1 y2 hB2
  obtain⟨m,n,rfl,rfl,hgm,⟨m1,m2⟩,⟨n1,n2⟩,hBr⟩:=hrel
  by_cases h0:n=0
  ·subst h0
   have hgm':Int.gcd m 0=g:=hgm.out
   rw[Int.gcd_zero_right] at hgm'
   have hmx:max m (-m)=(g:Int):=by omega
   have HM:=hid hgm';clear hgm hgm'
   have hg1:(g:Int)<=1000000000000000000:=by omega
   have hneg:IntKind.i64.wrap (-m)= -m:=zI _ (by omega)
   go_wp2_with fail
   refine(zb3 (g:Int) (by omega) (by omega) wr (HW.out.below hBr.out)).mono ?_
   rintro e w3 ⟨rfl,hb3⟩
   have hB3:=hBr.out.trans (hb3.mono hBr.out.size)
   clear hb3
   go_wp2_with fail
   go_ret2
   exact⟨rfl,hB3⟩
  ·have hn0:(n !=0)=true:=by simpa using h0
   have ht1:(m.tmod n).natAbs<n.natAbs:=by rw[Int.natAbs_tmod];exact Nat.mod_lt _ (by omega)
   obtain⟨t,ht⟩:∃t,t=m.tmod n:=⟨_,rfl⟩
   have hgt:=zmt m n
   rw[<-ht] at ht1 hgt
   have hwr:IntKind.i64.wrap (m.tmod n)=t:=by rw[<-ht];exact zI _ (by omega)
   have HGT:=hid hgt;have HT:=hid ht;clear hgt ht hwr
   go_wp2
   (refine wp_region_quiet_lit (by kernel_rfl) (by kernel_rfl) (WQ.out ?_);(repeat(first|(apply WQ.read (by rfl);(focus(rintro W ⟨n,rfl⟩;go_simp;try with_reducible rfl));try simp only[zzQ])|(apply WQ.skip (by rfl);try simp only[zzQ])));refine WQ.nil ?_;rintro _ ⟨nq,rfl⟩)
   go_wp2
   go_roundw
   case rel=>exact⟨n,t,rfl,by rw[HT.out],HGT.out.trans hgm.out,⟨n1,n2⟩,by omega,zao hBr.out _⟩
   case measure=>show(m.tmod n).natAbs<n.natAbs;rw[<-HT.out];exact ht1
theorem znj (b:Bool) (p:Option Addr) (k c:Nat) (W:zA):(Instr.field 125 (.agg #[.bool b,.slice p k c]) 1).run Tryz.prog W=.ok (.slice p k c) W:=by kernel_rfl
theorem zkx (a b:Nat):Nat.gcd b (a%b)=Nat.gcd a b:=by
 rw[Nat.gcd_comm b,<-Nat.gcd_rec,Nat.gcd_comm]
theorem z1i (x y:Int) (hx:digs x<=300) (hy:digs y<=300) (h:18<(zE x).length\/18<(zE y).length) (w:zA) (hw:Wd w):
 qJ 70 #[St (zE x),St (zE y)] w (.tuple #[St (zE (Int.gcd x y:Int)),.int .i64 0]):=by
 have hb:=λW=>zdh x y hx hy W
 have hs:=λW=>ze8 x y h W
 have r1:=λW=>zc3 x W (by omega)
 have r2:=λW=>zc3 y W (by omega)
 have l1:=zb4 (z:=x) (k:=100) (by omega) (by omega)
 have l2:=zb4 (z:=y) (k:=100) (by omega) (by omega)
 have hgd:=zq4 x y hx hy
 have HB:=hid hb;clear hb
 have HS:=hid hs;clear hs hx hy h
 have HW:=hid hw;clear hw
 have R1:=hid r1;have R2:=hid r2;clear r1 r2
 obtain⟨g,hg⟩:∃g,g=Int.gcd x y:=⟨_,rfl⟩
 rw[<-hg] at hgd⊢
 have HG:=hid hg;clear hg
 have hfd:=znj
 go_enter Tryz.func70,Tryz.ntmps70
 go_wp2_with fail
 refine(HB.out w).mono ?_
 rintro e w1 ⟨rfl,hB1⟩
 go_wp2_with fail
 refine(HS.out w1).mono ?_
 rintro e w2 ⟨rfl,rfl⟩
 go_wp2_with fail
 refine(R1.out w1).mono ?_
 rintro e w2 ⟨vx,rfl,hvx,hb2⟩
 have hB2:=hB1.trans (hb2.mono hB1.size)
 clear hb2 hB1
 obtain⟨px,kx,cx,rfl, -⟩:=zbx hvx
 have HVX:=hid hvx;clear hvx
 go_wp2_with fail
 refine(R2.out w2).mono ?_
 rintro e w3 ⟨vy,rfl,hvy,hb3⟩
 have hvx:=HVX.out.below hb3
 have hB3:=hB2.trans (hb3.mono hB2.size)
 clear hb3 hB2 HVX
 obtain⟨py,ky,cy,rfl, -⟩:=zbx hvy
 have HVX:=hid hvx;have HVY:=hid hvy;clear hvx hvy
 go_wp2
 go_loopg [10,11] y.natAbs (λk va vb wr=>∃a b p kb c,vb=.slice p kb c/\Hid (k=b)/\Hid (kb=(zaa B9 b).length)/\(zaa B9 a).length<=100/\(zaa B9 b).length<=100/\Hid (Sl wr va ((zaa B9 a).map I))/\Hid (Sl wr vb ((zaa B9 b).map I))/\Hid (Nat.gcd a b=g)/\Hid (qL w wr))
 case atStart=>
  obtain⟨p,k,c,e,hk⟩:=zbx HVY.out
  cases e
  exact⟨x.natAbs,y.natAbs,py,ky,cy,rfl,rfl,hk,l1,l2,HVX.out,HVY.out,HG.out.symm,hB3⟩
 case round=>
  clear HVX HVY hB3
  obtain⟨a,b,p,kb,c,rfl,hk,hkb,la,lb,hva,hvb,hgc,hBr⟩:=hrel
  by_cases h0:kb=0
  ·have hb0:b=0:=(zbd (B:=B9) (by decide) b).1 (List.length_eq_zero_iff.1 (by rw[<-hkb.out];exact h0))
   have hga:a=g:=by have:=hgc.out;rw[hb0,Nat.gcd_zero_right] at this;exact this
   have hz0:¬(0:Int)<kb:=by omega
   have HA:=hid hga;clear hga
   have HB0:=hid hb0;clear hb0
   have HK0:=hid h0;clear h0
   obtain⟨p1,k1,c1,rfl, -⟩:=zbx hva.out
   have hres:=zez false _ a wr (HW.out.below hBr.out) hva.out (by omega)
   rw[zkw,HA.out,zcf hgd,zcg hgd] at hres
   have HRES:=hid hres;clear hres
   go_wp2_with fail
   refine HRES.out.mono ?_
   rintro e w4 ⟨rfl,hb4⟩
   have hB4:=hBr.out.trans (hb4.mono hBr.out.size)
   clear hb4
   go_wp2_with fail
   go_ret2
   exact⟨rfl,hB4⟩
  ·have hz0:(0:Int)<kb:=by omega
   have hb0:b≠0:=λe=>h0 (by rw[hkb.out,e,zaz];rfl)
   go_wp2_with fail
   refine(znf _ (.slice p kb c) a b wr hva.out hvb.out (by omega) (by omega) hb0).mono ?_
   rintro e w4 ⟨v1,v2,rfl,hs1,hs2,hb4⟩
   have hB4:=hBr.out.trans (hb4.mono hBr.out.size)
   have hvb4:=hvb.out.below hb4
   obtain⟨p2,k2,c2,rfl,hk2⟩:=zbx hs2
   have HS2:=hid hs2;have HB4:=hid hB4;have HVB:=hid hvb4
   have HK2:=hid hk2
   have HB0:=hid hb0
   clear hs1 hs2 hb4 hB4 hvb4 hk2 hb0 hva hvb hBr
   go_wp2
   go_roundg (a%b)
   case measure=>rw[hk.out];exact Nat.mod_lt _ (Nat.pos_of_ne_zero HB0.out)
   case rel=>exact⟨b,a%b,p2,k2,c2,rfl,rfl,HK2.out,lb,zO (zd6 (by decide) (Nat.le_of_lt (Nat.mod_lt _ (Nat.pos_of_ne_zero HB0.out)))) lb,HVB.out,HS2.out,(zkx a b).trans hgc.out,HB4.out⟩
theorem ztw (x y:Int) (hx:digs x<=300) (hy:digs y<=300) (w:zA) (hw:Wd w):
 qJ 70 #[St (zE x),St (zE y)] w (.tuple #[St (zE (Int.gcd x y:Int)),.int .i64 0]):=by
 by_cases h:(zE x).length<=18/\(zE y).length<=18
 ·exact zwu x y h.1 h.2 w hw
 ·exact z1i x y hx hy (by omega) w hw
theorem zq5 (x y q:Int) (hq:x=q*y) (hy0:0<y) (hx:(zE x).length<=18) (hy:(zE y).length<=18) (w:zA) (hw:Wd w):
 qJ 71 #[St (zE x),St (zE y)] w (.tuple #[St (zE q),St [48],.int .i64 0]):=by
 obtain⟨x1,x2⟩:=lt18 hx
 obtain⟨y1,y2⟩:=lt18 hy
 have hb:=λW=>zdh x y (zO (zbf (by omega)) (by omega)) (zO (zbf (by omega)) (by omega)) W
 have hs:=λW=>zdy x y hx hy W
 have hqa:q.natAbs<=x.natAbs:=by rw[hq,yK];exact Nat.le_mul_of_pos_right _ (by omega)
 have hit:=λW hW=>zb3 q (by omega) (by omega) W hW
 have hiz:=λW hW=>zb3 0 (by omega) (by omega) W hW
 have hd:x.tdiv y=q:=by rw[hq];exact Int.mul_tdiv_cancel _ (by omega)
 have hm:x.tmod y=0:=by rw[hq];exact Int.mul_tmod_left _ _
 have w1:IntKind.i64.wrap (x.tdiv y)=q:=by rw[hd];exact zI _ (by omega)
 have w2:IntKind.i64.wrap (x.tmod y)=0:=by rw[hm];rfl
 rw[zb9] at hiz
 have hyn:(zE y==[48])=false:=by rw[beq_eq_false_iff_ne,<-zb9];exact λh=>by have:=zdo h;omega
 have hne:¬zE y=[48]:=by simpa using hyn
 have hy1:¬y=0:=by omega
 have HB:=hid hb;clear hb
 have HIT:=hid hit;clear hit
 have HIZ:=hid hiz;clear hiz
 have HS:=hid hs;
 have HQD:=hid hd;have HMD:=hid hm;clear hs hx hy hq hd hm hqa
 have HW:=hid hw;clear hw
 go_enter Tryz.func71,Tryz.ntmps71
 go_wp2_with fail
 refine(HB.out w).mono ?_
 rintro e w3 ⟨rfl,hB1⟩
 go_wp2_with fail
 refine(HS.out w3).mono ?_
 rintro e w4 ⟨rfl,hb2⟩
 have hB2:=hB1.trans (hb2.mono hB1.size)
 clear hb2 hB1
 go_wp2_with fail
 (refine wp_region_quiet_lit (by kernel_rfl) (by kernel_rfl) (WQ.out ?_);(repeat(first|(apply WQ.read (by rfl);(focus(rintro W ⟨n,rfl⟩;go_simp;try with_reducible rfl));try simp only[zzQ])|(apply WQ.skip (by rfl);try simp only[zzQ])));refine WQ.nil ?_;rintro _ ⟨nq,rfl⟩)
 go_wp2_with fail
 have hB3:=zao hB2 nq
 refine(HIT.out (w4.drewN nq) (HW.out.below hB3)).mono ?_
 rintro e w5 ⟨rfl,hb5⟩
 have hB5:=hB3.trans (hb5.mono hB3.size)
 clear hb5 hB3 hB2
 go_wp2_with fail
 refine(HIZ.out w5 (HW.out.below hB5)).mono ?_
 rintro e w6 ⟨rfl,hb6⟩
 have hB6:=hB5.trans (hb6.mono hB5.size)
 clear hb6 hB5
 go_wp2_with fail
 go_ret3
 exact⟨rfl,hB6⟩
theorem ztx (x y q:Int) (hq:x=q*y) (hy:0<y):sgn (decide (x<0) !=decide (y<0)) (x.natAbs/y.natAbs)=q/\x.natAbs%y.natAbs=0:=by
 have h1:x.natAbs=q.natAbs*y.natAbs:=by rw[hq,yK]
 have h2:0<y.natAbs:=by omega
 rw[h1,Nat.mul_div_cancel _ h2,Nat.mul_mod_left]
 refine⟨?_,rfl⟩
 have e:decide (y<0)=false:=by simp;omega
 rw[e,Bool.bne_false]
 have e2:decide (x<0)=decide (q<0):=by
  rw[hq]
  by_cases h:q<0
  ·have:q*y<0:=Int.mul_neg_of_neg_of_pos h hy
   simp[h,this]
  ·have:0<=q*y:=Int.mul_nonneg (by omega) (by omega)
   simp[h];omega
 rw[e2];exact zcs q
theorem zuy (x y q:Int) (hq:x=q*y) (hy0:0<y) (hx:digs x<=300) (hy:digs y<=300) (h:18<(zE x).length\/18<(zE y).length) (w:zA) (hw:Wd w):
 qJ 71 #[St (zE x),St (zE y)] w (.tuple #[St (zE q),St [48],.int .i64 0]):=by
 have hb:=λW=>zdh x y hx hy W
 have hs:=λW=>ze8 x y h W
 have r1:=λW=>zc3 x W (by omega)
 have r2:=λW=>zc3 y W (by omega)
 have l1:=zb4 (z:=x) (k:=100) (by omega) (by omega)
 have l2:=zb4 (z:=y) (k:=100) (by omega) (by omega)
 obtain⟨s1,s2⟩:=ztx x y q hq hy0
 have hqd:digs q<=300:=by
  have hqa:q.natAbs<=x.natAbs:=by rw[hq,yK];exact Nat.le_mul_of_pos_right _ (by omega)
  rw[za3 _ _ (by omega)] at hx⊢
  exact Nat.lt_of_le_of_lt hqa hx
 have hyn:(zE y==[48])=false:=by rw[beq_eq_false_iff_ne,<-zb9];exact λh=>by have:=zdo h;omega
 have hne:¬zE y=[48]:=by simpa using hyn
 have hm0:y.natAbs≠0:=by omega
 have lq:=zd6 (B:=B9) (by decide) (Nat.div_le_self x.natAbs y.natAbs)
 have HB:=hid hb;clear hb
 have HS:=hid hs;clear hs hx hy h
 have HW:=hid hw;clear hw
 have R1:=hid r1;have R2:=hid r2;clear r1 r2
 have S1:=hid s1;have S2:=hid s2;clear s1 s2
 have HQ:=hid hq;clear hq
 go_enter Tryz.func71,Tryz.ntmps71
 go_wp2_with fail
 refine(HB.out w).mono ?_
 rintro e w1 ⟨rfl,hB1⟩
 go_wp2_with fail
 refine(HS.out w1).mono ?_
 rintro e w2 ⟨rfl,rfl⟩
 go_wp2_with fail
 refine(R1.out w1).mono ?_
 rintro e w2 ⟨vx,rfl,hvx,hb2⟩
 have hB2:=hB1.trans (hb2.mono hB1.size)
 clear hb2 hB1
 obtain⟨px,kx,cx,rfl, -⟩:=zbx hvx
 have HVX:=hid hvx;clear hvx
 go_wp2_with fail
 refine(R2.out w2).mono ?_
 rintro e w3 ⟨vy,rfl,hvy,hb3⟩
 have hvx:=HVX.out.below hb3
 have hB3:=hB2.trans (hb3.mono hB2.size)
 clear hb3 hB2 HVX
 obtain⟨py,ky,cy,rfl, -⟩:=zbx hvy
 have HVX:=hid hvx;have HVY:=hid hvy;clear hvx hvy
 have hby2:decide (y<0)=false:=by simp;omega
 generalize hbx:decide (x<0)=b1 at*
 rw[hby2] at*
 have HBX:=hid hbx;clear hbx hby2
 go_wp2_with fail
 have hB4:=(hB3.alloc hB3.size (.cells #[.bool b1,.slice px kx cx] 125)).alloc (by have:=hB3.size;simp;omega) (.cells #[.bool false,.slice py ky cy] 125)
 have hb4:qL w3 ((w3.alloc (.cells #[.bool b1,.slice px kx cx] 125)).alloc (.cells #[.bool false,.slice py ky cy] 125)):=((zM _ _).alloc (zN _) _).alloc (by simp) _
 have b1k:=(Below.heap_alloc (w3.alloc (.cells #[.bool b1,.slice px kx cx] 125)) (.cells #[.bool false,.slice py ky cy] 125) w3.heap.size (by simp)).trans (zG w3 (.cells #[.bool b1,.slice px kx cx] 125))
 have b2k:=zG (w3.alloc (.cells #[.bool b1,.slice px kx cx] 125)) (.cells #[.bool false,.slice py ky cy] 125)
 rw[zH] at b2k
 refine(znf (.slice px kx cx) (.slice py ky cy) _ _ _ (HVX.out.below hb4) (HVY.out.below hb4) (by omega) (by omega) hm0).mono ?_
 rintro e w5 ⟨v1,v2,rfl,hs1,hs2,hb5⟩
 rw[S2.out] at hs2
 rw[zaz] at hs2
 obtain⟨p1,k1,c1,rfl, -⟩:=zbx hs1
 obtain⟨p2,k2,c2,rfl,hk2⟩:=zbx hs2
 rw[List.length_nil] at hk2
 subst hk2
 have hB5:=hB4.trans (hb5.mono hB4.size)
 have b1k:=(hb5.block w3.heap.size (by simp only[zH];omega)).trans b1k
 have b2k:=(hb5.block (w3.heap.size+1) (by simp only[zH];omega)).trans b2k
 have c1k:w5.cell? ⟨w3.heap.size,0,none⟩=some (.bool b1):=by simp[World.cell?,b1k]
 have c2k:w5.cell? ⟨w3.heap.size+1,0,none⟩=some (.bool false):=by simp[World.cell?,b2k]
 have lz:w3.heap.size+1<w5.heap.size:=(Array.getElem?_eq_some_iff.1 b2k).1
 have HV1:=hid hs1;have HV2:=hid hs2
 clear hb4 hB4 hb5 hs1 hs2 hB3 HVX HVY b1k b2k
 have rs:=zez (b1 !=false) (.slice p1 k1 c1) (x.natAbs/y.natAbs) w5 (HW.out.below hB5) HV1.out (by omega)
 rw[S1.out,zcf hqd,zcg hqd] at rs
 rw[Bool.bne_false] at rs
 have RS:=hid rs;clear rs
 cases b1
 all_goals
  go_wp2_with fail
  refine RS.out.mono ?_
  rintro e w6 ⟨rfl,hb6⟩
  have hB6:=hB5.trans (hb6.mono hB5.size)
  have d1:=(hb6.cell (p:=⟨w3.heap.size,0,none⟩) (by show w3.heap.size<w5.heap.size;omega)).trans c1k
  have d2:=(hb6.cell (p:=⟨w3.heap.size+1,0,none⟩) lz).trans c2k
  have rt:=zez false (.slice p2 0 c2) 0 w6 (HW.out.below hB6) (by rw[zaz];exact HV2.out.below hb6) (by rw[zaz];simp)
  rw[show sgn false 0=0 from rfl,zcf (zO (zbf (z:=0) (by omega)) (by omega)),zcg (zO (zbf (z:=0) (by omega)) (by omega)),zb9] at rt
  have RT:=hid rt;clear rt hb6 c1k c2k hB5
  go_wp2_with fail
  refine RT.out.mono ?_
  rintro e w7 ⟨rfl,hb7⟩
  have hB7:=hB6.trans (hb7.mono hB6.size)
  clear hb7 hB6
  go_wp2_with fail
  go_ret3
  exact⟨rfl,hB7⟩
theorem zky (x y q:Int) (hq:x=q*y) (hy0:0<y) (hx:digs x<=300) (hy:digs y<=300) (w:zA) (hw:Wd w):
 qJ 71 #[St (zE x),St (zE y)] w (.tuple #[St (zE q),St [48],.int .i64 0]):=by
 by_cases h:(zE x).length<=18/\(zE y).length<=18
 ·exact zq5 x y q hq hy0 h.1 h.2 w hw
 ·exact zuy x y q hq hy0 hx hy (by omega) w hw
end Go.Proofs.YtccijmidbdapaaaGreatDoor
namespace Go.Proofs.YtccijmidbdapaaaGreatDoor.Str
open Go.Lib
def numS (q:Rat):List UInt8:=zE q.num++(if q.den=1 then[] else 47::zD q.den)
theorem zdz (n:Nat):(47:UInt8)∉zD n:=λh=>by have:=zan n _ h;simp at this
theorem zfe (a:Int):(47:UInt8)∉zE a:=by
 rcases zbg a with⟨_,e⟩|⟨_,e⟩<;>rw[e]
 ·exact zdz _
 ·intro h
  rcases List.mem_cons.1 h with h|h
  ·cases h
  ·exact zdz _ h
theorem zkz {α:Type} {x:α}:∀{a b c d:List α},x∉a->x∉c->a++x::b=c++x::d->a=c/\b=d
 |[],_,[],_,_,_,h=>by simpa using h
 |[],_,y::c,_,_,hc,h=>by simp at h;exact absurd h.1 (λe=>hc (by simp[e]))
 |y::a,_,[],_,ha,_,h=>by simp at h;exact absurd h.1 (λe=>ha (by simp[e]))
 |y::a,b,z::c,d,ha,hc,h=>by
  simp at h
  obtain⟨h1,h2⟩:=zkz (a:=a) (c:=c) (λk=>ha (by simp[k])) (λk=>hc (by simp[k])) h.2
  exact⟨by rw[h.1,h1],h2⟩
theorem zh0 {a b:Rat} (h:numS a=numS b):a=b:=by
 unfold numS at h
 have ha:=zfe a.num
 have hb:=zfe b.num
 by_cases h1:a.den=1<;>by_cases h2:b.den=1
 ·rw[if_pos h1,if_pos h2] at h
  exact Rat.ext (zdo (by simpa using h)) (by omega)
 ·rw[if_pos h1,if_neg h2,List.append_nil] at h
  exact absurd (by rw[h];simp) ha
 ·rw[if_neg h1,if_pos h2,List.append_nil] at h
  exact absurd (by rw[<-h];simp) hb
 ·rw[if_neg h1,if_neg h2] at h
  obtain⟨e1,e2⟩:=zkz ha hb h
  exact Rat.ext (zdo e1) (zfk e2)
theorem zmu {q:Rat} (h:q.den=1):numS q=zE q.num:=by simp[numS,h]
theorem zid {q:Rat} (h:q.den≠1):numS q=zE q.num++47::zD q.den:=by simp[numS,h]
theorem zha (n:Int):numS (n:Rat)=zE n:=by simp[numS]
theorem zie:numS 0=[48]:=by rw[show(0:Rat)=((0:Int):Rat) from rfl,zha,zb9]
theorem zpy (q:Rat):numS q=[48]↔q=0:=⟨λh=>zh0 (h.trans zie.symm),λh=>by rw[h,zie]⟩
theorem zes (n d:Int) (hd:d≠0):Rat.divInt n d=mkRat (if d<0 then-n else n) d.natAbs:=by
 rcases Int.lt_or_gt_of_ne hd with h|h
 ·rw[if_pos h]
  obtain⟨k,rfl⟩:∃k:Nat,d=Int.negSucc k:=⟨(-d-1).toNat,by omega⟩
  simp[Rat.divInt,mkRat]
 ·rw[if_neg (by omega)]
  obtain⟨k,rfl⟩:∃k:Nat,d=(k:Int):=⟨d.toNat,by omega⟩
  simp[Rat.divInt]
theorem zf0 (a b:Rat):a+b=Rat.divInt (a.num*b.den+b.num*a.den) ((a.den*b.den:Nat):Int):=by
 rw[Rat.add_def,zes _ _ (by have:=a.den_nz;have:=b.den_nz;simp;omega),if_neg (by omega),Int.natAbs_natCast,Rat.mkRat_def,dif_neg]
theorem znk (a b:Rat):a-b=Rat.divInt (a.num*b.den-b.num*a.den) ((a.den*b.den:Nat):Int):=by
 rw[Rat.sub_def,zes _ _ (by have:=a.den_nz;have:=b.den_nz;simp;omega),if_neg (by omega),Int.natAbs_natCast,Rat.mkRat_def,dif_neg]
theorem zf1 (a b:Rat):a*b=Rat.divInt (a.num*b.num) ((a.den*b.den:Nat):Int):=by
 rw[Rat.mul_def,zes _ _ (by have:=a.den_nz;have:=b.den_nz;simp;omega),if_neg (by omega),Int.natAbs_natCast,Rat.mkRat_def,dif_neg]
theorem zif (n d:Int) (hd:0<d):numS (Rat.divInt n d)=zE (n/(Int.gcd n d:Int))++(if d/(Int.gcd n d:Int)=1 then[] else 47::zE (d/(Int.gcd n d:Int))):=by
 obtain⟨k,rfl⟩:∃k:Nat,d=(k:Int):=⟨d.toNat,by omega⟩
 have hk:k≠0:=by omega
 rw[zes _ _ (by omega),if_neg (by omega),Int.natAbs_natCast]
 unfold numS
 rw[Rat.num_mkRat,Rat.den_mkRat,if_neg hk,if_neg hk]
 have e:k.gcd n.natAbs=Int.gcd n (k:Int):=by rw[Int.gcd,Int.natAbs_natCast,Nat.gcd_comm]
 rw[e,<-Int.natCast_ediv,zad]
 congr 1
 by_cases h:k/Int.gcd n (k:Int)=1
 ·rw[if_pos h,if_pos (by omega)]
 ·rw[if_neg h,if_neg (by omega)]
def sz (q:Rat) (k:Nat):Prop:=q.num.natAbs<10^k/\q.den<10^k
theorem sz.mono {q:Rat} {i j:Nat} (h:sz q i) (hij:i<=j):sz q j:=
 have:=yF (show 0<10 by omega) hij
 ⟨zS h.1 this,zS h.2 this⟩
theorem zig {n d:Int} {k:Nat} (hd:d≠0) (h1:n.natAbs<10^k) (h2:d.natAbs<10^k):sz (Rat.divInt n d) k:=by
 rw[zes _ _ hd]
 have hk:d.natAbs≠0:=by omega
 constructor
 ·rw[Rat.num_mkRat,if_neg hk]
  refine Nat.lt_of_le_of_lt ?_ h1
  have:(if d<0 then-n else n).natAbs=n.natAbs:=by split<;>omega
  rw[Int.natAbs_ediv_of_dvd (Int.ofNat_dvd_left.2 (Nat.gcd_dvd_right _ _)),this]
  exact Nat.div_le_self _ _
 ·rw[Rat.den_mkRat,if_neg hk]
  exact Nat.lt_of_le_of_lt (Nat.div_le_self _ _) h2
theorem zcc {a b i j:Nat} (h1:a<10^i) (h2:b<10^j):a*b<10^(i+j):=by
 rw[Nat.pow_add];exact Nat.mul_lt_mul'' h1 h2
theorem zuz {a b i:Nat} (h1:a<10^i) (h2:b<10^i):a+b<10^(i+1):=by
 rw[Nat.pow_succ];omega
theorem ze0 (x:Int) (d:Nat):(x*d).natAbs=x.natAbs*d:=by rw[yK,Int.natAbs_natCast]
theorem zk0 {a b:Rat} {i j:Nat} (ha:sz a i) (hb:sz b j):sz (a+b) (i+j+1):=by
 rw[zf0]
 have h1:=zcc ha.1 hb.2
 have h2:=zcc hb.1 ha.2
 have h3:=zcc ha.2 hb.2
 rw[Nat.add_comm j i] at h2
 have h4:=zuz h1 h2
 have:=a.den_nz;have:=b.den_nz
 refine zig (by simp;omega) ?_ ?_
 ·refine Nat.lt_of_le_of_lt (Int.natAbs_add_le _ _) ?_
  rw[ze0,ze0];exact h4
 ·rw[Int.natAbs_natCast,Nat.pow_succ];omega
theorem zih {a b:Rat} {i j:Nat} (ha:sz a i) (hb:sz b j):sz (a-b) (i+j+1):=by
 rw[Rat.sub_eq_add_neg]
 exact zk0 ha ⟨by simpa using hb.1,by simpa using hb.2⟩
theorem zca {a b:Rat} {i j:Nat} (ha:sz a i) (hb:sz b j):sz (a*b) (i+j):=by
 rw[zf1]
 have:=a.den_nz;have:=b.den_nz
 refine zig (by simp;omega) ?_ ?_
 ·rw[yK];exact zcc ha.1 hb.1
 ·rw[Int.natAbs_natCast];exact zcc ha.2 hb.2
theorem zjx (a b:Rat) (hb:b≠0):a/b=Rat.divInt (a.num*b.den) (a.den*b.num):=by
 have h0:b.num≠0:=λh=>hb (Rat.num_eq_zero.1 h)
 rw[Rat.div_def,Rat.inv_def]
 conv=>lhs;lhs;rw[<-Rat.num_divInt_den a]
 rw[Rat.divInt_mul_divInt]
theorem z8t {a b:Rat} {i j:Nat} (hb0:b≠0) (ha:sz a i) (hb:sz b j):sz (a/b) (i+j):=by
 have h0:b.num≠0:=λh=>hb0 (Rat.num_eq_zero.1 h)
 have:=a.den_nz
 rw[zjx _ _ hb0]
 refine zig (Int.mul_ne_zero (by omega) h0) ?_ ?_
 ·rw[ze0];exact zcc ha.1 hb.2
 ·rw[yK,Int.natAbs_natCast];exact zcc ha.2 hb.1
theorem zqf (k:Nat) (hk:0<k):sz 0 k:=by
 have:10^1<=10^k:=yF (by omega) hk
 exact⟨by simp;omega,by simp;omega⟩
theorem z1j (l:List UInt8):(∃q,l=numS q)↔(∃a,l=zE a)\/∃(a:Int) (d:Nat),l=zE a++47::zD d/\2<=d/\Nat.gcd a.natAbs d=1:=by
 constructor
 ·rintro⟨q,rfl⟩
  by_cases h:q.den=1
  ·exact .inl ⟨_,zmu h⟩
  ·exact .inr ⟨_,_,zid h,by have:=q.den_nz;omega,q.reduced⟩
 ·rintro(⟨a,rfl⟩|⟨a,d,rfl,h1,h2⟩)
  ·exact⟨(a:Rat),(zha a).symm⟩
  ·exact⟨⟨a,d,by omega,h2⟩,by rw[zid (by simp;omega)]⟩
def bare (l:List UInt8):List UInt8:=if l.head? =some 45 then l.tail else l
def upS (l:List UInt8):List UInt8:=(bare l).takeWhile (· !=47)
def dnS (l:List UInt8):List UInt8:=((bare l).dropWhile (· !=47)).tail
def hasS (l:List UInt8):Prop:=(47:UInt8)∈bare l
def okS (l:List UInt8):Prop:=
 zds (upS l)/\¬(l.head? =some 45/\upS l=[48])/\(hasS l->zds (dnS l)/\dnS l≠[48]/\dnS l≠[49]/\Nat.gcd (val (upS l)) (val (dnS l))=1)
theorem zty {a b:List UInt8} (h:(47:UInt8)∉a):(a++47::b).takeWhile (· !=47)=a/\(a++47::b).dropWhile (· !=47)=47::b:=by
 induction a with
 |nil=>simp
 |cons x r ih=>
  have hx:x≠47:=λe=>h (by simp[e])
  obtain⟨i1,i2⟩:=ih (λk=>h (by simp[k]))
  simp[hx,i1,i2]
theorem zjy {a:List UInt8} (h:(47:UInt8)∉a):a.takeWhile (· !=47)=a:=by
 induction a with
 |nil=>simp
 |cons x r ih=>
  have hx:x≠47:=λe=>h (by simp[e])
  simp[hx,ih (λk=>h (by simp[k]))]
theorem zy5 {l:List UInt8} (h:(47:UInt8)∈l):l=l.takeWhile (· !=47)++47::(l.dropWhile (· !=47)).tail/\(47:UInt8)∉l.takeWhile (· !=47):=by
 induction l with
 |nil=>cases h
 |cons x r ih=>
  by_cases hx:x=47
  ·subst hx;simp
  ·have hr:(47:UInt8)∈r:=by
    rcases List.mem_cons.1 h with e|e
    ·exact absurd e.symm hx
    ·exact e
   obtain⟨i1,i2⟩:=ih hr
   have hb:(x !=47)=true:=by simpa using hx
   rw[List.takeWhile_cons,if_pos hb,List.dropWhile_cons,if_pos hb]
   exact⟨by rw[List.cons_append,<-i1],λk=>by
    rcases List.mem_cons.1 k with e|e
    ·exact hx e.symm
    ·exact i2 e⟩
theorem zy6 (n:Nat) (t:List UInt8):bare (zD n++t)=zD n++t:=by
 obtain⟨c,r,e,h1,_⟩:=dec_head n
 unfold bare
 rw[e,List.cons_append,List.head?_cons,if_neg (λh=>by cases h;simp at h1)]
theorem zk1 (a:Int) (t:List UInt8):bare (zE a++t)=zD a.natAbs++t:=by
 rcases zbg a with⟨_,e⟩|⟨_,e⟩<;>rw[e]
 ·exact zy6 _ _
 ·simp[bare]
theorem zk2 (a:Int) (t:List UInt8):(zE a++t).head? =some 45↔a<0:=by
 rcases zbg a with⟨h,e⟩|⟨h,e⟩<;>rw[e]
 ·obtain⟨c,r,e,h1,_⟩:=dec_head a.natAbs
  rw[e]
  constructor
  ·intro h;simp at h;subst h;simp at h1
  ·omega
 ·simp;omega
theorem zhb (l:List UInt8):(l.head? =some 45/\l=45::bare l)\/(l.head? ≠some 45/\l=bare l):=by
 unfold bare
 cases l with
 |nil=>right;simp
 |cons x r=>
  by_cases h:x=45
  ·subst h;left;simp
  ·right;simp[h]
theorem zlq (l:List UInt8):okS l↔∃q,l=numS q:=by
 rw[z1j]
 constructor
 ·rintro⟨h1,h2,h3⟩
  by_cases hs:hasS l
  ·obtain⟨k1,k2,k3,k4⟩:=h3 hs
   obtain⟨e1,e2⟩:=zy5 (l:=bare l) hs
   have hd:2<=val (dnS l):=by
    rcases Nat.lt_or_ge (val (dnS l)) 2 with h|h
    ·exfalso
     have:=zeh k1
     rcases(show val (dnS l)=0\/val (dnS l)=1 by omega) with e|e
     ·rw[e] at this;exact k2 (this.symm.trans zdj)
     ·rw[e] at this;exact k3 (this.symm.trans (by rw[zae (by omega)];rfl))
    ·exact h
   have e3:bare l=zD (val (upS l))++47::zD (val (dnS l)):=by rw[zeh h1,zeh k1];exact e1
   rcases zhb l with⟨b1,b2⟩|⟨b1,b2⟩
   ·have hp:0<val (upS l):=by
     rcases Nat.eq_zero_or_pos (val (upS l)) with e|e
     ·have:=zeh h1
      rw[e] at this;exact absurd ⟨b1,this.symm.trans zdj⟩ h2
     ·exact e
    exact .inr ⟨-(val (upS l):Int),val (dnS l),b2.trans (by rw[e3,zga _ hp];rfl),hd,by simpa using k4⟩
   ·exact .inr ⟨(val (upS l):Int),val (dnS l),b2.trans (by rw[e3,zad]),hd,by simpa using k4⟩
  ·have e1:upS l=bare l:=zjy hs
   have e3:bare l=zD (val (upS l)):=by rw[zeh h1,e1]
   rcases zhb l with⟨b1,b2⟩|⟨b1,b2⟩
   ·have hp:0<val (upS l):=by
     rcases Nat.eq_zero_or_pos (val (upS l)) with e|e
     ·have:=zeh h1
      rw[e] at this;exact absurd ⟨b1,this.symm.trans zdj⟩ h2
     ·exact e
    exact .inl ⟨-(val (upS l):Int),b2.trans (by rw[e3,zga _ hp])⟩
   ·exact .inl ⟨(val (upS l):Int),b2.trans (by rw[e3,zad])⟩
 ·have hz:∀a:Int,¬(a<0/\zD a.natAbs=[48]):=λa ⟨h1,h2⟩=>by
   have:=zfk (h2.trans zdj.symm);omega
  rintro(⟨a,rfl⟩|⟨a,d,rfl,h1,h2⟩)
  ·have e0:zE a=zE a++[]:=by simp
   have e1:bare (zE a)=zD a.natAbs:=by rw[e0,zk1];simp
   have e2:upS (zE a)=zD a.natAbs:=by unfold upS;rw[e1,zjy (zdz _)]
   refine⟨by rw[e2];exact zh9 _,?_,λh=>absurd h (by unfold hasS;rw[e1];exact zdz _)⟩
   rw[e2,e0,zk2];exact hz a
  ·have e1:=zk1 a (47::zD d)
   obtain⟨t1,t2⟩:=zty (b:=zD d) (zdz a.natAbs)
   have e2:upS (zE a++47::zD d)=zD a.natAbs:=by unfold upS;rw[e1,t1]
   have e3:dnS (zE a++47::zD d)=zD d:=by unfold dnS;rw[e1,t2];rfl
   refine⟨by rw[e2];exact zh9 _,?_,λ_=>⟨by rw[e3];exact zh9 _,?_,?_,?_⟩⟩
   ·rw[e2,zk2];exact hz a
   ·rw[e3];intro h;have:=zfk (h.trans zdj.symm);omega
   ·rw[e3];intro h
    have:=zfk (h.trans (show[49]=zD 1 by rw[zae (by omega)];rfl));omega
   ·rw[e2,e3,zb2,zb2];exact h2
theorem zto {q:Rat} {k:Nat} (hk:0<k) (h:(numS q).length<=k):sz q k:=by
 have h3:=zbr q.num
 have hp:10^1<=10^k:=yF (by omega) hk
 by_cases h1:q.den=1
 ·rw[zmu h1] at h
  exact⟨(za3 _ _ hk).1 (by omega),by omega⟩
 ·rw[zid h1] at h
  simp at h
  exact⟨(za3 _ _ hk).1 (by omega),(zaf _ _ hk).1 (by omega)⟩
end Go.Proofs.YtccijmidbdapaaaGreatDoor.Str
