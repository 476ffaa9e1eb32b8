/- root.Normal at the square of a small integer. -/
import Derived.Test.YthfpmfdiamldoaaGreatDoorF17
set_option maxRecDepth 100000
set_option maxHeartbeats 8000000
open Go renaming World → zA, Calls → zC
open Go.RowKit renaming Below → zB
open Go.Lib renaming decDigits → zD
open Go.Proofs.Tryz renaming prog → zF
open Go.World renaming alloc_heap_new → zG, size_alloc → zH
open Go.Joins renaming cell_of_block → zJ, block_setCell → zK
open Go.RowKit.Below renaming refl → zM
open Nat renaming le_refl → zN, le_trans → zO
namespace Go.Proofs.YthfpmfdiamldoaaGreatDoor
section
open Go.RowKit Go.Shelf Lib Str Limb
attribute [local go_sem] Oper.semAt_some
theorem zti (x u v s1 s2:ByteArray) (m d:Int) (hu:(u.toList==[48])=false) (hl:(u.size:Int)+v.size<=17) (hl0:u.size<=17/\v.size<=17)
 (CK:Hid (∀W:zA,Wd W->zC zF 207 #[.slice (some ⟨W.heap.size,0,none⟩) 1 1,.slice (some ⟨W.heap.size+1,0,none⟩) 1 1] ((W.alloc (.cells #[.string x] 23)).alloc (.cells #[.string x] 23)) λe w'=>e=.returned (.int .i64 0)/\zB W.heap.size W w'))
 (O:Hid (qK 209 #[.string x] (.agg #[.string u,.string v])))
 (NU:Hid (qK 233 #[.string u] (.tuple #[.int .i64 m,.bool true])))
 (NV:Hid (qK 233 #[.string v] (.tuple #[.int .i64 d,.bool true])))
 (NN:Hid (∀W:zA,Wd W->Pw W->qJ 234 #[.int .i64 m,.int .i64 d] W (.tuple #[.string s1,.string s2])))
 (w:zA) (HW:Hid (Wd w)) (HP:Hid (Pw w)):
 qJ 184 #[.string x] w (.tuple #[.string s1,.string s2,.int .i64 0]):=by
 have hck:=CK.out w HW.out
 have HCK:=hid hck;clear hck CK
 have hwl:IntKind.i64.wrap ((u.size:Int)+v.size)=(u.size:Int)+v.size:=IntWalk.i64_in _ ⟨by omega,by omega⟩
 go_enter Tryz.func184,Tryz.ntmps184
 go_wp2_with fail
 refine HCK.out.mono ?_
 rintro e w1 ⟨rfl,hb1⟩
 have HB1:=hid hb1;clear hb1 HCK
 go_wp2_with fail
 refine(O.out w1 (HW.out.below HB1.out)).mono ?_
 rintro e w2 ⟨rfl,hb2⟩
 have HB2:=qT HB1 hb2;clear hb2 HB1
 obtain⟨w3,hw3⟩:∃w3,w3=w2.alloc (.cells #[.string u,.string v] 230):=⟨_,rfl⟩
 have ha:zB w2.heap.size w2 w3:=by rw[hw3];exact(zM _ w2).alloc (zN _) _
 have A3:w3.heap[w2.heap.size]? =some (.cells #[.string u,.string v] 230 (0,0)):=by rw[hw3];exact zG w2 _
 have HB3:=qT HB2 ha
 have c0:w3.cell? ⟨w2.heap.size,0,none⟩=some (.string u):=by rw[zJ A3];rfl
 have c1:w3.cell? ⟨w2.heap.size,1,none⟩=some (.string v):=by rw[zJ A3];rfl
 have C3:=hid (⟨c0,c1⟩:w3.cell? ⟨w2.heap.size,0,none⟩=some (.string u)/\w3.cell? ⟨w2.heap.size,1,none⟩=some (.string v))
 rw[hw3] at c0 c1
 have HW3:=hid hw3;clear hw3 ha A3
 go_wp2_with fail
 rw[<-HW3.out]
 clear c0 c1
 refine(NU.out w3 (HW.out.below HB3.out)).mono ?_
 rintro e w4 ⟨rfl,hb4⟩
 have HB4:=qT HB3 hb4
 have c0:=(zac hb4).cell C3.out.1;have c1:=(zac hb4).cell C3.out.2
 clear hb4 HW3
 go_wp2_with fail
 refine(NV.out w4 (HW.out.below HB4.out)).mono ?_
 rintro e w5 ⟨rfl,hb5⟩
 have HB5:=qT HB4 hb5
 clear hb5 c0 c1
 go_wp2_with fail
 refine(NN.out w5 (HW.out.below HB5.out) (HP.out.below HB5.out)).mono ?_
 rintro e w6 ⟨rfl,hb6⟩
 have HB6:=qT HB5 hb6
 clear hb6
 go_wp2_with fail
 go_ret3
 exact⟨rfl,HB6.out⟩
theorem zc5 (n:Nat):numS ((n:Int):Rat)=zD n:=by rw[zha,Str.zad]
theorem zki {n k:Nat} (hk:0<k) (h:n<10^k):(zD n).length<=k:=(zaf n k hk).2 h
theorem z0b (W:zA) (t:TypeId) (x:List UInt8) (q:Rat) (hx:numS q=x):
 RowNums (some ⟨W.heap.size,0,none⟩) 1 (λ_=>q) ((W.alloc (.cells #[St x] t)).alloc (.cells #[St x] t))/\
 RowNums (some ⟨W.heap.size+1,0,none⟩) 1 (λ_=>q) ((W.alloc (.cells #[St x] t)).alloc (.cells #[St x] t)):=by
 have b1:=(Boxed.new W t (St x)).alloc (.cells #[St x] t)
 have b2:=Boxed.new (W.alloc (.cells #[St x] t)) t (St x)
 rw[zH] at b2
 constructor
 ·intro i hi
  obtain rfl:i=0:=by omega
  exact⟨_,_,rfl,by rw[hx];exact b1.cell⟩
 ·intro i hi
  obtain rfl:i=0:=by omega
  exact⟨_,_,rfl,by rw[hx];exact b2.cell⟩
theorem zlh (r:Nat) (hr:0<r) (hr2:r<=200) (H1:∀c l:Nat,c*c*l=r*r->(∀i,i<25->¬prN i*prN i∣l)->c=r/\l=1) (w:zA) (hw:Wd w) (hp:Pw w):
 qJ 184 #[St (zD (r*r))] w (.tuple #[St (zD r),St [49],.int .i64 0]):=by
 have hm:r*r<=200*200:=Nat.mul_le_mul hr2 hr2
 have hp0:0<r*r:=Nat.mul_pos hr hr
 have sz:∀k:List UInt8,(⟨k.toArray⟩:ByteArray).size=k.length:=λk=>by show k.toArray.size=_;simp
 have hl:(zD (r*r)).length<=5:=zki (by omega) (by omega)
 have d1:zD 1=[49]:=by rw[zae (by omega)];rfl
 have hq:=zc5 (r*r)
 have hnum:(((r*r:Nat):Int):Rat).num=((r*r:Nat):Int):=rfl
 have hden:(((r*r:Nat):Int):Rat).den=1:=rfl
 generalize hqq:(((r*r:Nat):Int):Rat)=q at*
 have hdig:digs q.num<=5:=by rw[hnum];show(zD (((r*r:Nat):Int).natAbs)).length<=5;rw[Int.natAbs_natCast];exact hl
 have hdl:(zD q.den).length=1:=by rw[hden,d1];rfl
 have hok:okQ q:=⟨by omega,by omega⟩
 refine zti ⟨(zD (r*r)).toArray⟩ ⟨(zD (r*r)).toArray⟩ ⟨#[49]⟩ ⟨(zD r).toArray⟩ ⟨#[49]⟩ ((r*r:Nat):Int) 1 ?_ ?_ ?_ (hid λW hW=>?_) (hid λW hW=>?_) (hid λW hW=>?_) (hid λW hW=>?_) (hid λW hW hP=>?_) w (hid hw) (hid hp)
 ·exact zhl (n:=r*r) rfl 0 (by omega) (by omega)
 ·rw[sz];show((zD (r*r)).length:Int)+1<=17;omega
 ·rw[sz];exact⟨by omega,by decide⟩
 ·obtain⟨t1,t2⟩:=z0b W 23 _ q hq
  have hal:zB W.heap.size W ((W.alloc (.cells #[St (zD (r*r))] 23)).alloc (.cells #[St (zD (r*r))] 23)):=((zM _ W).alloc (zN _) _).alloc (by simp) _
  refine(zji _ _ 1 1 1 1 (λ_=>q) (λ_=>q) (by omega) (by omega) (hid λ_ _ W hW=>zfj q hok W hW) (hid λ_ _ W hW=>zio q hok W hW) (hid λ_ _=>⟨by omega,by omega⟩)
   (hid λ_ _ W=>zma q (by rw[hnum];omega) W) _ (hid (hW.below hal)) (hid t1) (hid t2)).mono ?_
  rintro e w' ⟨rfl,hb⟩
  exact⟨rfl,hal.trans (hb.mono hal.size)⟩
 ·have:=zio q hok W hW
  rw[hq,hnum,hden,Str.zad,d1] at this
  exact this
 ·have:=zk7 (r*r) (by omega) W hW
  exact this
 ·have:=zk7 1 (by rw[d1];decide) W hW
  rw[d1] at this
  exact this
 ·refine znr r hr hr2 (hid H1) (hid λi hi W=>?_) W (hid hW) (hid hP)
  have h9:=zw4 i hi
  have h2:=zki (n:=prN i) (k:=2) (by omega) (by omega)
  have:=znc (prN i:Int) (by rw[Str.zad];omega) W
  rw[Str.zad] at this
  rw[z1r i hi]
  exact this
theorem zfg:zD 1=[49]:=by rw[zae (by omega)];rfl
theorem zx3:Lib.itoa 1=[49]:=by show Lib.itoa ((1:Nat):Int)=_;rw[Str.zad,zfg]
theorem zfc:numS 1=[49]:=by have:=zc5 1;rw[zfg] at this;exact this
theorem zn5:okQ 1:=⟨by show(zD 1).length<=300;rw[zfg];decide,by show(zD 1).length<=300;rw[zfg];decide⟩
theorem sz_1:sz 1 1:=⟨by decide,by decide⟩
theorem zpk (w:zA) (hw:Wd w):
 qJ 237 #[.string ⟨#[49]⟩] w (.tuple #[.string ⟨#[49]⟩,.bool true]):=by
 have HN:Hid (qK 233 #[.string ⟨#[49]⟩] (.tuple #[.int .i64 1,.bool true])):=
  hid λW hW=>by have:=zk7 1 (by rw[zfg];decide) W hW;rw[zfg] at this;exact this
 have HI:Hid (qK 74 #[.int .i64 1] (.string ⟨#[49]⟩)):=
  hid λW hW=>by have:=zb3 1 (by omega) (by omega) W hW;rw[zx3] at this;exact this
 have HW:=hid hw;clear hw
 go_enter Tryz.func237,Tryz.ntmps237
 go_wp2_with fail
 refine(HN.out w HW.out).mono ?_
 rintro e w1 ⟨rfl,hb1⟩
 go_wp2_with fail
 refine(zjj w1).mono ?_
 rintro e w2 ⟨rfl,hw1⟩
 have hw2:=hw1.symm;subst hw2;clear hw1
 go_wp2_with fail
 refine(HI.out w1 (HW.out.below hb1)).mono ?_
 rintro e w2 ⟨rfl,hb2⟩
 have hB:=hb1.trans (hb2.mono hb1.size)
 clear hb2
 go_wp2_with fail
 go_ret2
 exact⟨rfl,hB⟩
theorem zr9 (w:zA) (hw:Wd w):
 qJ 238 #[.string ⟨#[49]⟩,.string ⟨#[49]⟩] w (.string ⟨#[49]⟩):=by
 have hd:=zoj 1 1 (by decide) 1 1 (by omega) (by omega) (by omega) sz_1 sz_1 w hw
 rw[show((1:Rat)/1)=1 by grind,zfc] at hd
 have HD:=hid hd;clear hd
 go_enter Tryz.func238,Tryz.ntmps238
 go_wp2_with fail
 refine HD.out.mono ?_
 rintro e w1 ⟨rfl,hb⟩
 go_wp2_with fail
 go_ret
 exact⟨rfl,hb⟩
theorem zop (w:zA) (hw:Wd w):
 qJ 208 #[.agg #[.string ⟨#[49]⟩,.string ⟨#[49]⟩]] w (.tuple #[.string ⟨#[49]⟩,.bool true]):=by
 obtain⟨W1,hW1⟩:∃W1,W1=w.alloc (.cells #[.string ⟨#[49]⟩,.string ⟨#[49]⟩] 230):=⟨_,rfl⟩
 have hb1:zB w.heap.size w W1:=by rw[hW1];exact(zM _ w).alloc (zN _) _
 have A:W1.heap[w.heap.size]? =some (.cells #[.string ⟨#[49]⟩,.string ⟨#[49]⟩] 230 (0,0)):=by rw[hW1];exact zG w _
 have a0:W1.cell? ⟨w.heap.size,0,none⟩=some (.string ⟨#[49]⟩):=by rw[zJ A];rfl
 have a1:W1.cell? ⟨w.heap.size,1,none⟩=some (.string ⟨#[49]⟩):=by rw[zJ A];rfl
 have HA:=hid (⟨a0,a1⟩:W1.cell? ⟨w.heap.size,0,none⟩=some (.string ⟨#[49]⟩)/\W1.cell? ⟨w.heap.size,1,none⟩=some (.string ⟨#[49]⟩))
 have HB:=hid hb1
 rw[hW1] at a0 a1
 have HW1:=hid hW1
 have HW:=hid hw
 clear hW1 hb1 A hw
 go_enter Tryz.func208,Tryz.ntmps208
 go_wp2_with fail
 rw[<-HW1.out]
 refine(zpk W1 (HW.out.below HB.out)).mono ?_
 rintro e w2 ⟨rfl,hb2⟩
 have HB2:=qT HB hb2
 have g0:=(zac hb2).cell HA.out.1;have g1:=(zac hb2).cell HA.out.2
 clear hb2 a0 a1
 go_wp2_with fail
 refine(zpk w2 (HW.out.below HB2.out)).mono ?_
 rintro e w3 ⟨rfl,hb3⟩
 have HB3:=qT HB2 hb3
 clear hb3 g0 g1
 go_wp2_with fail
 all_goals first|exact(zzU ‹_›).elim|skip
 refine(zr9 w3 (HW.out.below HB3.out)).mono ?_
 rintro e w4 ⟨rfl,hb4⟩
 have HB4:=HB3.out.trans (hb4.mono HB3.out.size)
 clear hb4
 go_wp2_with fail
 go_ret2
 exact⟨rfl,HB4⟩
theorem ztj (W:zA) (t:TypeId):
 RowNums (some ⟨W.heap.size,0,none⟩) 2 (λ_=>1) ((W.alloc (.cells #[St [49],St [49]] t)).alloc (.cells #[St [49],St [49]] t))/\
 RowNums (some ⟨W.heap.size+1,0,none⟩) 2 (λ_=>1) ((W.alloc (.cells #[St [49],St [49]] t)).alloc (.cells #[St [49],St [49]] t)):=by
 have A1:=(Below.heap_alloc (W.alloc (.cells #[St [49],St [49]] t)) (.cells #[St [49],St [49]] t) W.heap.size (by simp)).trans (zG W (.cells #[St [49],St [49]] t (0,0)))
 have A2:=zG (W.alloc (.cells #[St [49],St [49]] t)) (.cells #[St [49],St [49]] t (0,0))
 rw[zH] at A2
 constructor
 ·intro i hi
  refine⟨_,_,rfl,?_⟩
  rw[zfc,zJ A1]
  match i,hi with
  |0,_|1,_=>rfl
 ·intro i hi
  refine⟨_,_,rfl,?_⟩
  rw[zfc,zJ A2]
  match i,hi with
  |0,_|1,_=>rfl
theorem zpl (w:zA) (hw:Wd w):
 qJ 166 #[.string ⟨#[49]⟩,.string ⟨#[49]⟩] w (.tuple #[.string ⟨#[49]⟩,.bool true,.int .i64 0]):=by
 obtain⟨W1,hW1⟩:∃W1,W1=(w.alloc (.cells #[St [49],St [49]] 23)).alloc (.cells #[St [49],St [49]] 23):=⟨_,rfl⟩
 have hb1:zB w.heap.size w W1:=by rw[hW1];exact((zM _ w).alloc (zN _) _).alloc (by simp) _
 have hd1:digs (1:Rat).num<=90/\(zD (1:Rat).den).length<=90:=⟨by show(zD 1).length<=90;rw[zfg];decide,by show(zD 1).length<=90;rw[zfg];decide⟩
 obtain⟨t1,t2⟩:=ztj w 23
 rw[<-hW1] at t1 t2
 have hck:=zji _ _ 2 2 2 2 (λ_=>1) (λ_=>1) (by omega) (by omega) (hid λ_ _ W hW=>zfj 1 zn5 W hW) (hid λ_ _ W hW=>zio 1 zn5 W hW) (hid λ_ _=>hd1)
  (hid λ_ _ W=>zma 1 (by decide) W) W1 (hid (hw.below hb1)) (hid t1) (hid t2)
 have HCK:=hid hck
 have HO:Hid (qK 209 #[.string ⟨#[49]⟩] (.agg #[.string ⟨#[49]⟩,.string ⟨#[49]⟩])):=hid λW hW=>by
  have:=zio 1 zn5 W hW
  rw[zfc,show(1:Rat).num=1 from rfl,show(1:Rat).den=1 from rfl,zx3,zfg] at this
  exact this
 have HD:Hid (qK 25 #[.string ⟨#[49]⟩,.string ⟨#[49]⟩] (.tuple #[.string ⟨#[49]⟩,.int .i64 0])):=hid λW hW=>by
  have:=zoj 1 1 (by decide) 1 1 (by omega) (by omega) (by omega) sz_1 sz_1 W hW
  rw[show((1:Rat)/1)=1 by grind,zfc] at this
  exact this
 have HB1:=hid hb1
 have HW1:=hid hW1
 have HW:=hid hw
 clear hW1 hb1 hck hd1 t1 t2 hw
 go_enter Tryz.func166,Tryz.ntmps166
 go_wp2_with fail
 rw[<-show W1=(w.alloc (.cells #[.string ⟨#[49]⟩,.string ⟨#[49]⟩] 23)).alloc (.cells #[.string ⟨#[49]⟩,.string ⟨#[49]⟩] 23) from HW1.out]
 refine HCK.out.mono ?_
 rintro e w2 ⟨rfl,hb2⟩
 have HB2:=qT HB1 hb2;clear hb2 HCK HW1
 go_wp2_with fail
 refine(HD.out w2 (HW.out.below HB2.out)).mono ?_
 rintro e w3 ⟨rfl,hb3⟩
 have HB3:=qT HB2 hb3;clear hb3
 go_wp2_with fail
 refine(HO.out w3 (HW.out.below HB3.out)).mono ?_
 rintro e w4 ⟨rfl,hb4⟩
 have HB4:=qT HB3 hb4;clear hb4
 go_wp2_with fail
 refine(zop w4 (HW.out.below HB4.out)).mono ?_
 rintro e w5 ⟨rfl,hb5⟩
 have HB5:=HB4.out.trans (hb5.mono HB4.out.size);clear hb5
 go_wp2_with fail
 go_ret3
 exact⟨rfl,HB5⟩
structure PlusS (w:zA) (x y:List UInt8) (W:zA):Prop where
 bel:zB w.heap.size w W
 h0:W.heap[w.heap.size]? =some (.cells #[St x,St [49]] 174 (0,0))
 h1:W.heap[w.heap.size+1]? =some (.cells #[St y,St [49]] 174 (0,0))
 h2:W.heap[w.heap.size+1+1]? =some (.cells #[St [],St []] 174 (0,0))
theorem PlusS.next {w:zA} {x y:List UInt8} {W W':zA} (h:PlusS w x y W) (hb:zB W.heap.size W W'):PlusS w x y W':=
 have hc:=zac hb
 ⟨h.bel.trans (hb.mono h.bel.size),hc _ _ _ _ h.h0,hc _ _ _ _ h.h1,hc _ _ _ _ h.h2⟩
theorem PlusS.cells {w:zA} {x y:List UInt8} {W:zA} (h:PlusS w x y W):
 W.cell? ⟨w.heap.size,0,none⟩=some (St x)/\W.cell? ⟨w.heap.size,1,none⟩=some (.string ⟨#[49]⟩)/\W.cell? ⟨w.heap.size+1,0,none⟩=some (St y)/\W.cell? ⟨w.heap.size+1,1,none⟩=some (.string ⟨#[49]⟩)/\
 W.cell? ⟨w.heap.size+1+1,0,none⟩=some (St [])/\W.cell? ⟨w.heap.size+1+1,1,none⟩=some (St [])/\W.frozen? ⟨w.heap.size+1+1,0,none⟩=false/\W.frozen? ⟨w.heap.size+1+1,1,none⟩=false:=by
 refine⟨?_,?_,?_,?_,?_,?_,Go.Joins.unfrozen_of_block h.h2 0,Go.Joins.unfrozen_of_block h.h2 1⟩
 ·rw[zJ h.h0];rfl
 ·rw[zJ h.h0];rfl
 ·rw[zJ h.h1];rfl
 ·rw[zJ h.h1];rfl
 ·rw[zJ h.h2];rfl
 ·rw[zJ h.h2];rfl
theorem PlusS.start (w:zA) (x y:List UInt8):PlusS w x y (((w.alloc (.cells #[St x,St [49]] 174)).alloc (.cells #[St y,St [49]] 174)).alloc (.cells #[St [],St []] 174)):=by
 refine⟨(((zM _ w).alloc (zN _) _).alloc (by simp) _).alloc (by simp;omega) _,?_,?_,?_⟩
 ·exact(Below.heap_alloc _ _ _ (by simp;omega)).trans ((Below.heap_alloc _ _ _ (by simp)).trans (zG w _))
 ·have:=zG (w.alloc (.cells #[St x,St [49]] 174)) (.cells #[St y,St [49]] 174)
  rw[zH] at this
  exact(Below.heap_alloc _ _ _ (by simp)).trans this
 ·have:=zG ((w.alloc (.cells #[St x,St [49]] 174)).alloc (.cells #[St y,St [49]] 174)) (.cells #[St [],St []] 174)
  simp only[zH] at this
  exact this
theorem zx4 (x y z:List UInt8)
 (M:Hid (qK 24 #[St y,.string ⟨#[49]⟩] (.tuple #[St y,.int .i64 0])))
 (A:Hid (qK 23 #[St x,St y] (.tuple #[St z,.int .i64 0])))
 (w:zA) (HW:Hid (Wd w)):
 qJ 185 #[.agg #[St x,St [49]],.agg #[St y,St [49]]] w (.tuple #[.agg #[St z,St [49]],.int .i64 0]):=by
 have hS:=PlusS.start w x y
 obtain⟨c0,c1,c2,c3,c4,c5,f0,f1⟩:=hS.cells
 obtain⟨W1,hW1⟩:∃W1,W1=((w.alloc (.cells #[St x,St [49]] 174)).alloc (.cells #[St y,St [49]] 174)).alloc (.cells #[St [],St []] 174):=⟨_,rfl⟩
 rw[<-hW1] at hS
 have HS:=hid hS;have HW1:=hid hW1;clear hS hW1
 go_enter Tryz.func185,Tryz.ntmps185
 go_wp2_with fail
 have h9:=HW1.out
 rw[<-h9]
 clear h9 c0 c1 c2 c3 c4 c5 f0 f1
 refine(zpl W1 (HW.out.below HS.out.bel)).mono ?_
 rintro e w2 ⟨rfl,hb2⟩
 have H2:=hid (HS.out.next hb2);clear hb2 HS HW1
 obtain⟨c0,c1,c2,c3,c4,c5,f0,f1⟩:=H2.out.cells
 go_wp2_with fail
 refine(M.out w2 (HW.out.below H2.out.bel)).mono ?_
 rintro e w3 ⟨rfl,hb3⟩
 have H3:=hid (H2.out.next hb3);clear hb3 H2 c0 c1 c2 c3 c4 c5 f0 f1
 obtain⟨c0,c1,c2,c3,c4,c5,f0,f1⟩:=H3.out.cells
 go_wp2_with fail
 refine(A.out w3 (HW.out.below H3.out.bel)).mono ?_
 rintro e w4 ⟨rfl,hb4⟩
 have H4:=hid (H3.out.next hb4);clear hb4 H3 c0 c1 c2 c3 c4 c5 f0 f1
 obtain⟨c0,c1,c2,c3,c4,c5,f0,f1⟩:=H4.out.cells
 have hB4:=H4.out.bel
 go_wp2_with fail
 refine bodyPost_ret (v:=.tuple #[.agg #[St z,St [49]],.int .i64 0]) (by simp[results,Tryz.results185,go_sem,c4,c5]) rfl ⟨rfl,?_⟩
 repeat(first|exact hB4|refine Below.setCell ?_ (by simp;omega) _)
theorem zx5:(Tryz.prog.info? 174).map (λi=>(i.zero,i.size,i.bytes))=some (some (.agg #[St [],St []]),2,32):=by kernel_rfl
structure GateS (gb:Nat) (x:List UInt8) (W:zA):Prop where
 cls:∃cb cap cs,W.cell? ⟨gb,0,none⟩=some (.slice (some ⟨cb,0,none⟩) 1 cap)/\gb<cb/\W.heap[cb]? =some (.cells cs 174 (0,0))/\cs[0]? =some (St x)/\cs[1]? =some (St [49])
 fr:W.frozen? ⟨gb,0,none⟩=false
structure AddS (W:zA) (x:List UInt8) (gb base:Nat) (b:Nat×Value) (f:Nat->Bool) (X:zA):Prop where
 pre:f 11=false->zB W.heap.size W X
 new:f 11=false->f 10=true->X.cell? ⟨b.1,0,none⟩=some (St x)/\X.cell? ⟨b.1,1,none⟩=some (.string ⟨#[49]⟩)
 post:f 11=true->∃Y Z,zB W.heap.size W Y/\Y.grownBy Z none/\Z.ownsRow base 174 2 b.2 1 [St x,.string ⟨#[49]⟩]/\X=if f 14=true then Z.setCell ⟨gb,0,none⟩ b.2 else Z
theorem AddS.congr {W:zA} {x:List UInt8} {gb base:Nat} {b:Nat×Value} {f g:Nat->Bool} {X:zA} (h:AddS W x gb base b f X) (e10:g 10=f 10) (e11:g 11=f 11) (e14:g 14=f 14):AddS W x gb base b g X:=
 ⟨by rw[e11];exact h.pre,by rw[e10,e11];exact h.new,by rw[e11,e14];exact h.post⟩
theorem zqj (gb:Nat) (x:List UInt8) (w:zA) (hg:w.cell? ⟨gb,0,none⟩=some (.slice none 0 0)) (hf:w.frozen? ⟨gb,0,none⟩=false):
 zC zF 138 #[.pointer (some ⟨gb,0,none⟩),.agg #[St x,.string ⟨#[49]⟩]] w λe w'=>e=.returned (.int .i64 0)/\zB gb w w'/\GateS gb x w':=by
 obtain⟨i0,hi,hz0,hz1,hz2⟩:=info_parts zx5
 have hlt:=zbe hg
 obtain⟨W1,hW1⟩:∃W1,W1=w.alloc (.cells #[St x,.string ⟨#[49]⟩] 57):=⟨_,rfl⟩
 have hb1:zB w.heap.size w W1:=by rw[hW1];exact(zM _ w).alloc (zN _) _
 have A1:W1.heap[w.heap.size]? =some (.cells #[St x,.string ⟨#[49]⟩] 57 (0,0)):=by rw[hW1];exact zG w _
 have g1:=zai hb1 hg
 have f1:=(zac hb1).frozen hg hf
 have hz:W1.heap.size=w.heap.size+1:=by rw[hW1];simp
 have g2:=g1
 rw[hW1] at g2
 have HW1:=hid hW1
 clear hW1
 go_enter Tryz.func138,Tryz.ntmps138
 go_wp2_with fail
 refine wp_loop_rounds 1 ?_
 rw[rounds_succ]
 go_wp2_with fail
 have h9:=HW1.out
 rw[<-show W1=w.alloc (.cells #[St x,.string ⟨#[49]⟩] 57) from h9]
 have hks:∀w':zA,zB W1.heap.size W1 w'->w'.cell? ⟨gb,0,none⟩=some (.slice none 0 0)/\w'.cell? ⟨w.heap.size,0,none⟩=some (St x)/\w'.cell? ⟨w.heap.size,1,none⟩=some (.string ⟨#[49]⟩):=λw' hb=>
  ⟨zai hb g1,zai hb (by rw[zJ A1];rfl),zai hb (by rw[zJ A1];rfl)⟩
 have KS:=hid hks
 have HF:=hid f1
 have HG:=hid g1
 have HB1:=hid hb1
 clear hks h9 g2 A1 f1 g1 hb1 hf hg
 refine zc4 (λ(b:Nat×Value) i=>([.pointer (some ⟨gb,0,none⟩),.pointer (some ⟨gb,0,none⟩),.pointer (some ⟨gb,0,none⟩),.pointer (some ⟨gb,0,none⟩),.slice none 0 0,.pointer (some ⟨w.heap.size,0,none⟩),St x,.pointer (some ⟨w.heap.size,1,none⟩),.string ⟨#[49]⟩,.agg #[St x,.string ⟨#[49]⟩],.slice (some ⟨b.1,0,none⟩) 1 1,b.2,.pointer (some ⟨gb,0,none⟩),.pointer (some ⟨gb,0,none⟩)]:List Value).getD i undef) (AddS W1 x gb (w.heap.size+1)) (by kernel_rfl) (by kernel_rfl) (0,.slice none 0 0) ⟨λ_=>(zM _ W1).drew,λ_ h=>(by cases h),λh=>(by cases h)⟩ λb=>?_
 refine zag (.pointer (some ⟨gb,0,none⟩)) (by rfl) (by rfl) (λf W' h=>h.congr rfl rfl rfl) (λf W' hf h=>by go_simp) ?_
 try simp only[zzQ]
 refine zag (.pointer (some ⟨gb,0,none⟩)) (by rfl) (by rfl) (λf W' h=>h.congr rfl rfl rfl) (λf W' hf h=>by go_simp) ?_
 try simp only[zzQ]
 refine zag (.pointer (some ⟨gb,0,none⟩)) (by rfl) (by rfl) (λf W' h=>h.congr rfl rfl rfl) (λf W' hf h=>by go_simp) ?_
 try simp only[zzQ]
 refine zag (.pointer (some ⟨gb,0,none⟩)) (by rfl) (by rfl) (λf W' h=>h.congr rfl rfl rfl) (λf W' hf h=>by go_simp) ?_
 try simp only[zzQ]
 refine zag (.slice none 0 0) (by rfl) (by rfl) (λf W' h=>h.congr rfl rfl rfl) (λf W' hf h=>by have g:=KS.out _ (h.pre (hf.no (j:=11) hf.self (by kernel_rfl)));obtain⟨q0,q1,q2⟩:=g;go_simp) ?_
 try simp only[zzQ]
 refine zag (.pointer (some ⟨w.heap.size,0,none⟩)) (by rfl) (by rfl) (λf W' h=>h.congr rfl rfl rfl) (λf W' hf h=>by go_simp) ?_
 try simp only[zzQ]
 refine zag (St x) (by rfl) (by rfl) (λf W' h=>h.congr rfl rfl rfl) (λf W' hf h=>by have g:=KS.out _ (h.pre (hf.no (j:=11) (hf.no (j:=10) (hf.no (j:=9) hf.self (by kernel_rfl)) (by kernel_rfl)) (by kernel_rfl)));obtain⟨q0,q1,q2⟩:=g;go_simp) ?_
 try simp only[zzQ]
 refine zag (.pointer (some ⟨w.heap.size,1,none⟩)) (by rfl) (by rfl) (λf W' h=>h.congr rfl rfl rfl) (λf W' hf h=>by go_simp) ?_
 try simp only[zzQ]
 refine zag (.string ⟨#[49]⟩) (by rfl) (by rfl) (λf W' h=>h.congr rfl rfl rfl) (λf W' hf h=>by have g:=KS.out _ (h.pre (hf.no (j:=11) (hf.no (j:=10) (hf.no (j:=9) hf.self (by kernel_rfl)) (by kernel_rfl)) (by kernel_rfl)));obtain⟨q0,q1,q2⟩:=g;go_simp) ?_
 try simp only[zzQ]
 refine zag (.agg #[St x,.string ⟨#[49]⟩]) (by rfl) (by rfl) (λf W' h=>h.congr rfl rfl rfl) (λf W' hf h=>by go_simp) ?_
 try simp only[zzQ]
 refine zdc (.slice (some ⟨b.1,0,none⟩) 1 1) (by rfl) (by rfl) (λf W' hf h C' hC'=>by
  have h11:=(hf.no (j:=11) hf.self (by kernel_rfl))
  have hp:=h.pre h11
  have ha:zB W'.heap.size W' (W'.alloc (.cells #[St x,.string ⟨#[49]⟩] 174)):=(zM _ W').alloc (zN _) _
  have A:=zG W' (.cells #[St x,.string ⟨#[49]⟩] 174)
  have:=hC' (W'.heap.size,b.2) (W'.alloc (.cells #[St x,.string ⟨#[49]⟩] 174)) (λi hi=>?_) ⟨λ_=>hp.trans (ha.mono hp.size),λ_ _=>⟨by rw[zJ A];rfl,by rw[zJ A];rfl⟩,λk=>(by have k':f 11=true:=k;rw[h11] at k';cases k')⟩
  ·go_simp
   exact this
  ·match i,hi with
   |0,_|1,_|2,_|3,_|4,_|5,_|6,_|7,_|8,_|9,_|11,_|12,_|13,_=>rfl
   |10,hi=>rw[hf.self] at hi;cases hi
   |_+14,_=>rfl) ?_
 try simp only[zzQ]
 refine zdc b.2 (by rfl) (by rfl) (λf W' hf h C' hC'=>by
  have h11:=hf.self
  have h14:=(hf.no (j:=14) hf.self (by kernel_rfl))
  have h10:=hf.done 10 (by kernel_rfl)
  have hp:=h.pre h11
  obtain⟨n0,n1⟩:=h.new h11 h10
  refine zmb _ W' _ _ 168 rfl (w.heap.size+1) 174 i0 (.agg #[St [],St []]) 2 32 Tryz.underlying168 hi hz0 hz1 hz2 rfl (by decide) (.slice none 0 0) 0 [] rfl (World.ownsRow_nil _ _ _ _) ⟨b.1,0,none⟩ 1 1 [St x,.string ⟨#[49]⟩] rfl rfl (λi u hu=>?_) (λu hu=>?_) (by unfold maxLen;omega) (by omega) (by have:=hp.size;omega) (λv' w' hown' hgrow=>?_)
  ·match i,hu with
   |0,hu=>simp at hu;subst hu;exact n0
   |1,hu=>simp at hu;subst hu;exact n1
   |_+2,hu=>simp at hu
  ·simp at hu;rcases hu with rfl|rfl<;>rfl
  ·refine hC' (b.1,v') w' (λi hi=>?_) ⟨λk=>?_,λk=>?_,λ_=>⟨W',w',hp,hgrow,hown',?_⟩⟩
   ·match i,hi with
    |0,_|1,_|2,_|3,_|4,_|5,_|6,_|7,_|8,_|9,_|10,_|12,_|13,_=>rfl
    |11,hi=>rw[hf.self] at hi;cases hi
    |_+14,_=>rfl
   ·cases k
   ·cases k
   ·show w'=if f 14=true then _ else w'
    rw[h14];rfl) ?_
 try simp only[zzQ]
 refine zag (.pointer (some ⟨gb,0,none⟩)) (by rfl) (by rfl) (λf W' h=>h.congr rfl rfl rfl) (λf W' hf h=>by go_simp) ?_
 try simp only[zzQ]
 refine zag (.pointer (some ⟨gb,0,none⟩)) (by rfl) (by rfl) (λf W' h=>h.congr rfl rfl rfl) (λf W' hf h=>by go_simp) ?_
 try simp only[zzQ]
 refine zbv undef (by rfl) (by rfl) (λf W' hf h C' hC'=>by
  have h11:=hf.done 11 (by kernel_rfl)
  have h14:=hf.self
  obtain⟨Y,Z,hY,hZ,hz',rfl⟩:=h.post h11
  rw[h14,if_neg (by simp)] at*
  have hcell:=hZ.cell (zai hY HG.out) (by simp)
  have hfr:Z.frozen? ⟨gb,0,none⟩=false:=by
   rw[World.frozen?_of_block (a:=⟨gb,0,none⟩) (hZ.block _ (zbe (zai hY HG.out)) (by simp))];exact(zac hY).frozen HG.out HF.out
  have:=hC' (Z.setCell ⟨gb,0,none⟩ b.2) ⟨λk=>(by have k':f 11=false:=k;rw[h11] at k';cases k'),λk=>(by have k':f 11=false:=k;rw[h11] at k';cases k'),λ_=>⟨Y,Z,hY,hZ,hz',rfl⟩⟩
  obtain⟨q,m,c,e2⟩:∃q m c,b.2=.slice q m c:=by
   rcases hz'.2 with⟨e,_⟩|⟨g,cp,cur,e,_⟩<;>exact⟨_,_,_,e⟩
  rw[e2] at this
  go_simp
  exact this) ?_
 try simp only[Act.put]
 refine ze1 λf X hf h=>?_
 obtain⟨Y,Z,hY,hZ,hz',rfl⟩:=h.post (hf 11 (by decide))
 rw[if_pos (hf 14 (by decide))]
 have hcell:=hZ.cell (zai hY HG.out) (by simp)
 have hfr:Z.frozen? ⟨gb,0,none⟩=false:=by
  rw[World.frozen?_of_block (a:=⟨gb,0,none⟩) (hZ.block _ (zbe (zai hY HG.out)) (by simp))];exact(zac hY).frozen HG.out HF.out
 have hbel:zB gb w (Z.setCell ⟨gb,0,none⟩ b.2):=by
  have h1:zB gb w Y:=(HB1.out.mono (by omega)).trans (hY.mono (by omega))
  exact(h1.grown hZ (by have:=hY.size;omega) (λq e=>by cases e)).setCell (by simp) _
 have hgate:GateS gb x (Z.setCell ⟨gb,0,none⟩ b.2):=by
  refine⟨?_,by rw[World.frozen?_setCell];exact hfr⟩
  rcases hz'.2 with⟨_,e⟩|⟨g,cp,cur,e,hg1,hg2,_,_,hcs,htk⟩
  ·omega
  ·refine⟨g,cp,cur,by rw[<-e];exact za9 hcell,by omega,by rw[Below.heap_setCell _ _ _ _ (by simp;omega)];exact hg2,?_,?_⟩
   ·have h0:=congrArg (λl=>l[0]?) htk
    rw[List.getElem?_take] at h0
    simpa using h0
   ·have h0:=congrArg (λl=>l[1]?) htk
    rw[List.getElem?_take] at h0
    simpa using h0
 have HE:=hid (⟨hbel,hgate⟩:zB gb w (Z.setCell ⟨gb,0,none⟩ b.2)/\GateS gb x (Z.setCell ⟨gb,0,none⟩ b.2))
 clear hbel hgate hcell hfr hY hZ hz' h hf
 go_wp2_with fail
 go_ret
 exact⟨rfl,HE.out⟩
structure NextS (w:zA) (x y:List UInt8) (W:zA):Prop where
 bel:zB w.heap.size w W
 tm:W.heap[w.heap.size]? =some (.cells #[St y,.string ⟨#[49]⟩] 57 (0,0))
 lo:W.heap[w.heap.size+1]? =some (.cells #[St x,.string ⟨#[49]⟩] 174 (0,0))
theorem NextS.next {w:zA} {x y:List UInt8} {W W':zA} (h:NextS w x y W) (hb:zB W.heap.size W W'):NextS w x y W':=
 ⟨h.bel.trans (hb.mono h.bel.size),zac hb _ _ _ _ h.tm,zac hb _ _ _ _ h.lo⟩
theorem NextS.cells {w:zA} {x y:List UInt8} {W:zA} (h:NextS w x y W):
 W.cell? ⟨w.heap.size,0,none⟩=some (St y)/\W.cell? ⟨w.heap.size,1,none⟩=some (.string ⟨#[49]⟩)/\W.cell? ⟨w.heap.size+1,0,none⟩=some (St x)/\W.cell? ⟨w.heap.size+1,1,none⟩=some (.string ⟨#[49]⟩):=
 ⟨by rw[zJ h.tm];rfl,by rw[zJ h.tm];rfl,by rw[zJ h.lo];rfl,by rw[zJ h.lo];rfl⟩
theorem zsa (gb cb cap:Nat) (cs:Array Value) (x y z:List UInt8) (w:zA) (HW:Hid (Wd w)) (hg:w.cell? ⟨gb,0,none⟩=some (.slice (some ⟨cb,0,none⟩) 1 cap)) (hgc:gb<cb) (hf':w.frozen? ⟨gb,0,none⟩=false)
 (hc:w.heap[cb]? =some (.cells cs 174 (0,0))) (hc0:cs[0]? =some (St x)) (hc1:cs[1]? =some (St [49]))
 (CM:Hid (qK 20 #[.string ⟨#[49]⟩,.string ⟨#[49]⟩] (.tuple #[.int .i64 0,.int .i64 0])))
 (P:Hid (qK 185 #[.agg #[St x,St [49]],.agg #[St y,St [49]]] (.tuple #[.agg #[St z,St [49]],.int .i64 0]))):
 zC zF 138 #[.pointer (some ⟨gb,0,none⟩),.agg #[St y,.string ⟨#[49]⟩]] w λe w'=>e=.returned (.int .i64 0)/\zB gb w w'/\GateS gb z w':=by
 have x0:w.cell? ⟨cb,0,none⟩=some (St x):=by rw[zJ hc];exact hc0
 have x1:w.cell? ⟨cb,1,none⟩=some (.string ⟨#[49]⟩):=by rw[zJ hc];exact hc1
 obtain⟨Wa,hWa⟩:∃Wa,Wa=w.alloc (.cells #[St y,.string ⟨#[49]⟩] 57):=⟨_,rfl⟩
 have ba:zB w.heap.size w Wa:=by rw[hWa];exact(zM _ w).alloc (zN _) _
 have Aa:Wa.heap[w.heap.size]? =some (.cells #[St y,.string ⟨#[49]⟩] 57 (0,0)):=by rw[hWa];exact zG w _
 have sa:Wa.heap.size=w.heap.size+1:=by rw[hWa];simp
 obtain⟨W1,hW1⟩:∃W1,W1=Wa.alloc (.cells #[St x,.string ⟨#[49]⟩] 174):=⟨_,rfl⟩
 have b1:zB Wa.heap.size Wa W1:=by rw[hW1];exact(zM _ Wa).alloc (zN _) _
 have A1:W1.heap[w.heap.size+1]? =some (.cells #[St x,.string ⟨#[49]⟩] 174 (0,0)):=by rw[hW1,<-sa];exact zG Wa _
 have hB1:zB w.heap.size w W1:=ba.trans (b1.mono (by omega))
 have g0:=zai ba hg
 have y0:Wa.cell? ⟨cb,0,none⟩=some (St x):=zai ba x0
 have y1:Wa.cell? ⟨cb,1,none⟩=some (.string ⟨#[49]⟩):=zai ba x1
 have K1:=hid (⟨hB1,zac b1 _ _ _ _ Aa,A1⟩:NextS w x y W1)
 have t0:W1.cell? ⟨w.heap.size,0,none⟩=some (St y):=by rw[zJ K1.out.tm];rfl
 have t1:W1.cell? ⟨w.heap.size,1,none⟩=some (.string ⟨#[49]⟩):=by rw[zJ K1.out.tm];rfl
 have l0:W1.cell? ⟨w.heap.size+1,0,none⟩=some (St x):=by rw[zJ A1];rfl
 have l1:W1.cell? ⟨w.heap.size+1,1,none⟩=some (.string ⟨#[49]⟩):=by rw[zJ A1];rfl
 rw[hW1] at t0 t1 l0 l1
 rw[hWa] at g0 y0 y1 t0 t1 l0 l1
 have HWa:=hid hWa;have HW1:=hid hW1
 clear hWa hW1 ba b1 Aa A1 hB1 x0 x1
 go_enter Tryz.func138,Tryz.ntmps138
 go_wp2_with fail
 refine wp_loop_rounds 1 ?_
 rw[rounds_succ]
 go_wp2_with fail
 have h9:=HW1.out
 rw[HWa.out] at h9
 have h8:W1=(w.alloc (.cells #[St y,.string ⟨#[49]⟩] 57)).alloc (.cells #[.string ⟨x.toArray⟩,.string ⟨#[49]⟩] 174):=h9
 rw[<-h8]
 clear h8 h9 t0 t1 l0 l1 g0 y0 y1 HWa HW1
 refine(zpl W1 (HW.out.below K1.out.bel)).mono ?_
 rintro e w2 ⟨rfl,hb2⟩
 have K2:=hid (K1.out.next hb2);clear hb2 K1
 obtain⟨t0,t1,l0,l1⟩:=K2.out.cells
 obtain⟨w3,hw3⟩:∃w3,w3=w2.alloc (.cells #[St y,.string ⟨#[49]⟩] 174):=⟨_,rfl⟩
 have b3:zB w2.heap.size w2 w3:=by rw[hw3];exact(zM _ w2).alloc (zN _) _
 have A3:w3.heap[w2.heap.size]? =some (.cells #[St y,.string ⟨#[49]⟩] 174 (0,0)):=by rw[hw3];exact zG w2 _
 have K3:=hid (K2.out.next b3)
 have p1:w3.cell? ⟨w.heap.size+1,1,none⟩=some (.string ⟨#[49]⟩):=K3.out.cells.2.2.2
 have p2:w3.cell? ⟨w2.heap.size,1,none⟩=some (.string ⟨#[49]⟩):=by rw[zJ A3];rfl
 rw[hw3] at p1 p2
 have HA3:=hid A3
 have HW3:=hid hw3;clear hw3 b3 A3
 go_wp2_with fail
 have h8:w3=w2.alloc (.cells #[.string ⟨y.toArray⟩,.string ⟨#[49]⟩] 174):=HW3.out
 rw[<-h8]
 clear h8 t0 t1 l0 l1 p1 p2 HW3
 refine(CM.out w3 (HW.out.below K3.out.bel)).mono ?_
 rintro e w4 ⟨rfl,hb4⟩
 have K4:=hid (K3.out.next hb4)
 have HA4:=hid (zac hb4 _ _ _ _ HA3.out);clear hb4 K3 HA3
 obtain⟨-, -,l0,l1⟩:=K4.out.cells
 have p0:w4.cell? ⟨w2.heap.size,0,none⟩=some (St y):=by rw[zJ HA4.out];rfl
 have p1:w4.cell? ⟨w2.heap.size,1,none⟩=some (.string ⟨#[49]⟩):=by rw[zJ HA4.out];rfl
 go_wp2_with fail
 refine(P.out w4 (HW.out.below K4.out.bel)).mono ?_
 rintro e w5 ⟨rfl,hb5⟩
 have K5:=hid (K4.out.next hb5);clear hb5 K4 HA4 l0 l1 p0 p1
 obtain⟨w6,hw6⟩:∃w6,w6=w5.alloc (.cells #[St z,St [49]] 174):=⟨_,rfl⟩
 have b6:zB w5.heap.size w5 w6:=by rw[hw6];exact(zM _ w5).alloc (zN _) _
 have A6:w6.heap[w5.heap.size]? =some (.cells #[St z,St [49]] 174 (0,0)):=by rw[hw6];exact zG w5 _
 have hB6:=K5.out.bel.trans (b6.mono K5.out.bel.size)
 have HW6:=hid hw6;clear hw6 b6
 go_wp2_with fail
 have h8:w6=w5.alloc (.cells #[.string ⟨z.toArray⟩,.string ⟨#[49]⟩] 174):=HW6.out
 rw[<-h8]
 clear h8 HW6
 have hcb:cb<w.heap.size:=(Array.getElem?_eq_some_iff.1 hc).1
 have m0:w6.drew.cell? ⟨gb,0,none⟩=some (.slice (some ⟨cb,0,none⟩) 1 cap):=zai hB6 hg
 have m1:w6.drew.heap[cb]? =some (.cells cs 174 (0,0)):=zac hB6 _ _ _ _ hc
 have m2:w6.drew.cell? ⟨cb,0,none⟩=some (St x):=by rw[zJ m1];exact hc0
 have m3:w6.drew.cell? ⟨cb,1,none⟩=some (St [49]):=by rw[zJ m1];exact hc1
 have m4:w6.drew.frozen? ⟨cb,0,none⟩=false:=Go.Joins.unfrozen_of_block m1 0
 have m5:w6.drew.frozen? ⟨cb,1,none⟩=false:=Go.Joins.unfrozen_of_block m1 1
 have m6:w6.drew.cell? ⟨w5.heap.size,0,none⟩=some (St z):=by rw[zJ (show w6.drew.heap[w5.heap.size]? =_ from A6)];rfl
 have m7:w6.drew.cell? ⟨w5.heap.size,1,none⟩=some (St [49]):=by rw[zJ (show w6.drew.heap[w5.heap.size]? =_ from A6)];rfl
 have n2:w6.cell? ⟨cb,0,none⟩=some (St x):=m2
 have n3:w6.cell? ⟨cb,1,none⟩=some (St [49]):=m3
 have n4:w6.frozen? ⟨cb,0,none⟩=false:=m4
 have n5:w6.frozen? ⟨cb,1,none⟩=false:=m5
 refine zc4 (λ(_:Unit) i=>([.pointer (some ⟨gb,0,none⟩),.pointer (some ⟨gb,0,none⟩),.pointer (some ⟨gb,0,none⟩),.slice (some ⟨cb,0,none⟩) 1 cap,.int .i64 0,.agg #[St z,St [49]],.pointer (some ⟨cb,0,none⟩)]:List Value).getD i undef) (λ_ f W'=>(f 7=false->W'=w6.drew)/\(f 7=true->W'=(w6.drew.setCell ⟨cb,0,none⟩ (St z)).setCell ⟨cb,1,none⟩ (St [49]))) (by kernel_rfl) (by kernel_rfl) () ⟨λ_=>rfl,λh=>(by cases h)⟩ λb=>?_
 refine zag (.pointer (some ⟨gb,0,none⟩)) (by rfl) (by rfl) (λf W' h=>⟨h.1,h.2⟩) (λf W' hf h=>by
  obtain rfl:=h.1 (hf.no (j:=7) hf.self (by kernel_rfl))
  go_simp) ?_
 try simp only[zzQ]
 refine zag (.pointer (some ⟨gb,0,none⟩)) (by rfl) (by rfl) (λf W' h=>⟨h.1,h.2⟩) (λf W' hf h=>by
  obtain rfl:=h.1 (hf.no (j:=7) hf.self (by kernel_rfl))
  go_simp) ?_
 try simp only[zzQ]
 refine zag (.pointer (some ⟨gb,0,none⟩)) (by rfl) (by rfl) (λf W' h=>⟨h.1,h.2⟩) (λf W' hf h=>by
  obtain rfl:=h.1 (hf.no (j:=7) hf.self (by kernel_rfl))
  go_simp) ?_
 try simp only[zzQ]
 refine zag (.slice (some ⟨cb,0,none⟩) 1 cap) (by rfl) (by rfl) (λf W' h=>⟨h.1,h.2⟩) (λf W' hf h=>by
  obtain rfl:=h.1 (hf.no (j:=7) hf.self (by kernel_rfl))
  go_simp) ?_
 try simp only[zzQ]
 refine zag (.int .i64 0) (by rfl) (by rfl) (λf W' h=>⟨h.1,h.2⟩) (λf W' hf h=>by
  obtain rfl:=h.1 (hf.no (j:=7) hf.self (by kernel_rfl))
  go_simp) ?_
 try simp only[zzQ]
 refine zag (.agg #[St z,St [49]]) (by rfl) (by rfl) (λf W' h=>⟨h.1,h.2⟩) (λf W' hf h=>by
  obtain rfl:=h.1 (hf.no (j:=7) hf.self (by kernel_rfl))
  go_simp) ?_
 try simp only[zzQ]
 refine zag (.pointer (some ⟨cb,0,none⟩)) (by rfl) (by rfl) (λf W' h=>⟨h.1,h.2⟩) (λf W' hf h=>by
  obtain rfl:=h.1 (hf.no (j:=7) hf.self (by kernel_rfl))
  go_simp) ?_
 try simp only[zzQ]
 refine zbv undef (by rfl) (by rfl) (λf W' hf h C' hC'=>by
  obtain rfl:=h.1 hf.self
  have:=hC' ((w6.drew.setCell ⟨cb,0,none⟩ (St z)).setCell ⟨cb,1,none⟩ (St [49])) ⟨λk=>(by cases k),λ_=>rfl⟩
  go_simp
  exact this) ?_
 try simp only[Act.put]
 refine ze1 λf X hf h=>?_
 obtain rfl:=h.2 (hf 7 (by decide))
 have hblk:=zK (i:=1) (zK (i:=0) m1 (St z)) (St [49])
 have hbel:zB gb w ((w6.drew.setCell ⟨cb,0,none⟩ (St z)).setCell ⟨cb,1,none⟩ (St [49])):=
  (((hB6.mono (by omega)).drew).setCell (by simp;omega) _).setCell (by simp;omega) _
 have hgate:GateS gb z ((w6.drew.setCell ⟨cb,0,none⟩ (St z)).setCell ⟨cb,1,none⟩ (St [49])):=by
  have hs:1<cs.size:=by
   rcases Nat.lt_or_ge 1 cs.size with h|h
   ·exact h
   ·rw[Array.getElem?_eq_none h] at hc1;cases hc1
  refine⟨⟨cb,cap,_,by rw[zau _ _ _ _ (by omega),zau _ _ _ _ (by omega)];exact m0,hgc,hblk,?_,?_⟩,?_⟩
  ·rw[Array.getElem?_setIfInBounds,if_neg (by omega),Array.getElem?_setIfInBounds,if_pos rfl,if_pos (by omega)]
  ·rw[Array.getElem?_setIfInBounds,if_pos rfl,if_pos (by simpa using hs)]
  ·rw[World.frozen?_setCell,World.frozen?_setCell];exact(zac hB6).frozen hg hf'
 have HE:=hid (⟨hbel,hgate⟩:zB gb w ((w6.drew.setCell ⟨cb,0,none⟩ (St z)).setCell ⟨cb,1,none⟩ (St [49]))/\GateS gb z ((w6.drew.setCell ⟨cb,0,none⟩ (St z)).setCell ⟨cb,1,none⟩ (St [49])))
 clear hbel hgate hblk m0 m1 m2 m3 m4 m5 m6 m7 n2 n3 n4 n5 h hf
 go_wp2_with fail
 go_ret
 exact⟨rfl,HE.out⟩
structure RoundC (gb:Nat) (root coef:List UInt8) (S S':zA->Prop):Prop where
 nz:(root==[48])=false
 n1:(root==[49])=false
 norm:∀W:zA,Wd W->Pw W->qJ 184 #[St root] W (.tuple #[St coef,.string ⟨#[49]⟩,.int .i64 0])
 mul:qK 24 #[.string ⟨#[49]⟩,St coef] (.tuple #[St coef,.int .i64 0])
 keep:∀W W':zA,S W->zB W.heap.size W W'->S W'
 each:∀W:zA,Wd W->S W->zC zF 138 #[.pointer (some ⟨gb,0,none⟩),.agg #[St coef,.string ⟨#[49]⟩]] W λe w'=>e=.returned (.int .i64 0)/\zB gb W w'/\S' w'
theorem zvo (gb b off cap:Nat) (r1 r2 r3 c1 c2 c3:List UInt8) (S0 S1 S2 S3:zA->Prop) (hb:b<gb)
 (R1:Hid (RoundC gb r1 c1 S0 S1)) (R2:Hid (RoundC gb r2 c2 S1 S2)) (R3:Hid (RoundC gb r3 c3 S2 S3))
 (LG:Hid (qK 139 #[.string ⟨#[49]⟩] (.int .i64 1)))
 (w:zA) (hgb:gb<=w.heap.size) (HW:Hid (∀W,zB gb w W->Wd W)) (HP:Hid (∀W,zB gb w W->Pw W)) (h0:S0 w)
 (t0:w.cell? ⟨b,off,none⟩=some (.string ⟨#[49]⟩)) (t1:w.cell? ⟨b,off+1,none⟩=some (St r1)) (t2:w.cell? ⟨b,off+2,none⟩=some (.string ⟨#[49]⟩)) (t3:w.cell? ⟨b,off+3,none⟩=some (St r2))
 (t4:w.cell? ⟨b,off+4,none⟩=some (.string ⟨#[49]⟩)) (t5:w.cell? ⟨b,off+5,none⟩=some (St r3)):
 zC zF 137 #[.slice (some ⟨b,off,none⟩) 3 cap,.func (.func 138) #[.pointer (some ⟨gb,0,none⟩)] #[]] w λe w'=>e=.returned (.int .i64 0)/\zB gb w w'/\S3 w':=by
 have D0:=hid (zM gb w)
 have s0:=hid h0
 have T:=hid (⟨t0,t1,t2,t3,t4,t5⟩:_/\_/\_/\_/\_/\_)
 clear h0 t0 t1 t2 t3 t4 t5
 have g0:=hid hgb
 go_enter Tryz.func137,Tryz.ntmps137
 go_wp2_with fail
 refine wp_loop_rounds 4 ?_
 have z1:=R1.out.nz;have n1:=R1.out.n1
 have t0:w.cell? ⟨b,off,none⟩=some (.string ⟨#[49]⟩):=by rw[D0.out.cell (p:=⟨b,off,none⟩) hb];exact T.out.1
 have t1:w.cell? ⟨b,off+1,none⟩=some (St r1):=by rw[D0.out.cell (p:=⟨b,off+1,none⟩) hb];exact T.out.2.1
 rw[rounds_succ]
 go_wp2_with fail
 obtain⟨v1,hv⟩:∃v1,v1=w.alloc (.cells #[.string ⟨#[49]⟩,St r1] 57):=⟨_,rfl⟩
 have a1:zB w.heap.size w v1:=by rw[hv];exact(zM _ w).alloc (zN _) _
 have A1:v1.heap[w.heap.size]? =some (.cells #[.string ⟨#[49]⟩,St r1] 57 (0,0)):=by rw[hv];exact zG w _
 rw[<-show v1=w.alloc (.cells #[.string ⟨#[49]⟩,.string ⟨r1.toArray⟩] 57) from hv]
 have k0:v1.cell? ⟨w.heap.size,0,none⟩=some (.string ⟨#[49]⟩):=by rw[zJ A1];rfl
 have k1:v1.cell? ⟨w.heap.size,1,none⟩=some (St r1):=by rw[zJ A1];rfl
 clear hv t0 t1
 (refine wp_region_quiet_lit (by kernel_rfl) (by kernel_rfl) (WQ.out ?_);(repeat(first|(apply WQ.read (by rfl);(focus(rintro W ⟨n,rfl⟩;go_simp;try with_reducible rfl));try simp only[zzQ])|(apply WQ.skip (by rfl);try simp only[zzQ])));refine WQ.nil ?_;rintro _ ⟨nq,rfl⟩)
 have E1:=hid (zao a1 nq)
 have B1:=hid (show(v1.drewN nq).heap[w.heap.size]? =_ from A1)
 clear a1 A1
 go_wp2_with fail
 refine(R1.out.norm _ (HW.out _ (D0.out.trans (E1.out.mono g0.out))) (HP.out _ (D0.out.trans (E1.out.mono g0.out)))).mono ?_
 rintro e y1 ⟨rfl,hb1⟩
 have E2:=hid (E1.out.trans (hb1.mono E1.out.size));have B2:=hid (zac hb1 _ _ _ _ B1.out)
 clear hb1 E1 B1 k0 k1
 go_wp2_with fail
 refine(LG.out y1 (HW.out _ (D0.out.trans (E2.out.mono g0.out)))).mono ?_
 rintro e y2 ⟨rfl,hb1⟩
 have E3:=hid (E2.out.trans (hb1.mono E2.out.size));have B3:=hid (zac hb1 _ _ _ _ B2.out)
 clear hb1 E2 B2
 have k0:y2.cell? ⟨w.heap.size,0,none⟩=some (.string ⟨#[49]⟩):=by rw[zJ B3.out];rfl
 go_wp2_with fail
 refine(R1.out.mul y2 (HW.out _ (D0.out.trans (E3.out.mono g0.out)))).mono ?_
 rintro e y3 ⟨rfl,hb1⟩
 have E4:=hid (E3.out.trans (hb1.mono E3.out.size))
 clear hb1 E3 B3 k0
 go_wp2_with fail
 refine(R1.out.each y3 (HW.out _ (D0.out.trans (E4.out.mono g0.out))) (R1.out.keep _ _ s0.out E4.out)).mono ?_
 rintro e u1 ⟨rfl,hb1,hs⟩
 have D1:=hid ((D0.out.trans (E4.out.mono g0.out)).trans hb1)
 have g1:Hid (gb<=u1.heap.size):=hid (zO g0.out (zO E4.out.size hb1.size))
 have s1:=hid hs
 clear hb1 hs E4 z1 n1 s0
 go_wp2_with fail
 have z2:=R2.out.nz;have n2:=R2.out.n1
 have t0:u1.cell? ⟨b,off+2,none⟩=some (.string ⟨#[49]⟩):=by rw[D1.out.cell (p:=⟨b,off+2,none⟩) hb];exact T.out.2.2.1
 have t1:u1.cell? ⟨b,off+2+1,none⟩=some (St r2):=by rw[D1.out.cell (p:=⟨b,off+2+1,none⟩) hb];exact T.out.2.2.2.1
 rw[rounds_succ]
 go_wp2_with fail
 obtain⟨v2,hv⟩:∃v2,v2=u1.alloc (.cells #[.string ⟨#[49]⟩,St r2] 57):=⟨_,rfl⟩
 have a1:zB u1.heap.size u1 v2:=by rw[hv];exact(zM _ u1).alloc (zN _) _
 have A1:v2.heap[u1.heap.size]? =some (.cells #[.string ⟨#[49]⟩,St r2] 57 (0,0)):=by rw[hv];exact zG u1 _
 rw[<-show v2=u1.alloc (.cells #[.string ⟨#[49]⟩,.string ⟨r2.toArray⟩] 57) from hv]
 have k0:v2.cell? ⟨u1.heap.size,0,none⟩=some (.string ⟨#[49]⟩):=by rw[zJ A1];rfl
 have k1:v2.cell? ⟨u1.heap.size,1,none⟩=some (St r2):=by rw[zJ A1];rfl
 clear hv t0 t1
 (refine wp_region_quiet_lit (by kernel_rfl) (by kernel_rfl) (WQ.out ?_);(repeat(first|(apply WQ.read (by rfl);(focus(rintro W ⟨n,rfl⟩;go_simp;try with_reducible rfl));try simp only[zzQ])|(apply WQ.skip (by rfl);try simp only[zzQ])));refine WQ.nil ?_;rintro _ ⟨nq,rfl⟩)
 have E1:=hid (zao a1 nq)
 have B1:=hid (show(v2.drewN nq).heap[u1.heap.size]? =_ from A1)
 clear a1 A1
 go_wp2_with fail
 refine(R2.out.norm _ (HW.out _ (D1.out.trans (E1.out.mono g1.out))) (HP.out _ (D1.out.trans (E1.out.mono g1.out)))).mono ?_
 rintro e y1 ⟨rfl,hb1⟩
 have E2:=hid (E1.out.trans (hb1.mono E1.out.size));have B2:=hid (zac hb1 _ _ _ _ B1.out)
 clear hb1 E1 B1 k0 k1
 go_wp2_with fail
 refine(LG.out y1 (HW.out _ (D1.out.trans (E2.out.mono g1.out)))).mono ?_
 rintro e y2 ⟨rfl,hb1⟩
 have E3:=hid (E2.out.trans (hb1.mono E2.out.size));have B3:=hid (zac hb1 _ _ _ _ B2.out)
 clear hb1 E2 B2
 have k0:y2.cell? ⟨u1.heap.size,0,none⟩=some (.string ⟨#[49]⟩):=by rw[zJ B3.out];rfl
 go_wp2_with fail
 refine(R2.out.mul y2 (HW.out _ (D1.out.trans (E3.out.mono g1.out)))).mono ?_
 rintro e y3 ⟨rfl,hb1⟩
 have E4:=hid (E3.out.trans (hb1.mono E3.out.size))
 clear hb1 E3 B3 k0
 go_wp2_with fail
 refine(R2.out.each y3 (HW.out _ (D1.out.trans (E4.out.mono g1.out))) (R2.out.keep _ _ s1.out E4.out)).mono ?_
 rintro e u2 ⟨rfl,hb1,hs⟩
 have D2:=hid ((D1.out.trans (E4.out.mono g1.out)).trans hb1)
 have g2:Hid (gb<=u2.heap.size):=hid (zO g1.out (zO E4.out.size hb1.size))
 have s2:=hid hs
 clear hb1 hs E4 z2 n2 s1
 go_wp2_with fail
 have z3:=R3.out.nz;have n3:=R3.out.n1
 have t0:u2.cell? ⟨b,off+4,none⟩=some (.string ⟨#[49]⟩):=by rw[D2.out.cell (p:=⟨b,off+4,none⟩) hb];exact T.out.2.2.2.2.1
 have t1:u2.cell? ⟨b,off+4+1,none⟩=some (St r3):=by rw[D2.out.cell (p:=⟨b,off+4+1,none⟩) hb];exact T.out.2.2.2.2.2
 rw[rounds_succ]
 go_wp2_with fail
 obtain⟨v3,hv⟩:∃v3,v3=u2.alloc (.cells #[.string ⟨#[49]⟩,St r3] 57):=⟨_,rfl⟩
 have a1:zB u2.heap.size u2 v3:=by rw[hv];exact(zM _ u2).alloc (zN _) _
 have A1:v3.heap[u2.heap.size]? =some (.cells #[.string ⟨#[49]⟩,St r3] 57 (0,0)):=by rw[hv];exact zG u2 _
 rw[<-show v3=u2.alloc (.cells #[.string ⟨#[49]⟩,.string ⟨r3.toArray⟩] 57) from hv]
 have k0:v3.cell? ⟨u2.heap.size,0,none⟩=some (.string ⟨#[49]⟩):=by rw[zJ A1];rfl
 have k1:v3.cell? ⟨u2.heap.size,1,none⟩=some (St r3):=by rw[zJ A1];rfl
 clear hv t0 t1
 (refine wp_region_quiet_lit (by kernel_rfl) (by kernel_rfl) (WQ.out ?_);(repeat(first|(apply WQ.read (by rfl);(focus(rintro W ⟨n,rfl⟩;go_simp;try with_reducible rfl));try simp only[zzQ])|(apply WQ.skip (by rfl);try simp only[zzQ])));refine WQ.nil ?_;rintro _ ⟨nq,rfl⟩)
 have E1:=hid (zao a1 nq)
 have B1:=hid (show(v3.drewN nq).heap[u2.heap.size]? =_ from A1)
 clear a1 A1
 go_wp2_with fail
 refine(R3.out.norm _ (HW.out _ (D2.out.trans (E1.out.mono g2.out))) (HP.out _ (D2.out.trans (E1.out.mono g2.out)))).mono ?_
 rintro e y1 ⟨rfl,hb1⟩
 have E2:=hid (E1.out.trans (hb1.mono E1.out.size));have B2:=hid (zac hb1 _ _ _ _ B1.out)
 clear hb1 E1 B1 k0 k1
 go_wp2_with fail
 refine(LG.out y1 (HW.out _ (D2.out.trans (E2.out.mono g2.out)))).mono ?_
 rintro e y2 ⟨rfl,hb1⟩
 have E3:=hid (E2.out.trans (hb1.mono E2.out.size));have B3:=hid (zac hb1 _ _ _ _ B2.out)
 clear hb1 E2 B2
 have k0:y2.cell? ⟨u2.heap.size,0,none⟩=some (.string ⟨#[49]⟩):=by rw[zJ B3.out];rfl
 go_wp2_with fail
 refine(R3.out.mul y2 (HW.out _ (D2.out.trans (E3.out.mono g2.out)))).mono ?_
 rintro e y3 ⟨rfl,hb1⟩
 have E4:=hid (E3.out.trans (hb1.mono E3.out.size))
 clear hb1 E3 B3 k0
 go_wp2_with fail
 refine(R3.out.each y3 (HW.out _ (D2.out.trans (E4.out.mono g2.out))) (R3.out.keep _ _ s2.out E4.out)).mono ?_
 rintro e u3 ⟨rfl,hb1,hs⟩
 have D3:=hid ((D2.out.trans (E4.out.mono g2.out)).trans hb1)
 have g3:Hid (gb<=u3.heap.size):=hid (zO g2.out (zO E4.out.size hb1.size))
 have s3:=hid hs
 clear hb1 hs E4 z3 n3 s2
 go_wp2_with fail
 rw[rounds_succ]
 go_wp2_with fail
 go_ret
 exact⟨rfl,D3.out,s3.out⟩
end
section
open Go.RowKit Go.Shelf Lib Str Limb
theorem zm3 {c l r:Nat} (h:c*c*l=r*r) (hr:0<r):c<=r:=by
 rcases Nat.lt_or_ge r c with h1|h1
 ·exfalso
  have hl:0<l:=Nat.pos_of_ne_zero (λe=>by rw[e,Nat.mul_zero] at h;have:=Nat.mul_pos hr hr;omega)
  have h2:r*r<c*c:=Nat.mul_lt_mul'' h1 h1
  have h3:c*c<=c*c*l:=Nat.le_mul_of_pos_right _ hl
  omega
 ·exact h1
theorem z0c (c l:Nat) (h:c*c*l=3*3) (hp:∀i,i<25->¬prN i*prN i∣l):c=3/\l=1:=by
 have hc:=zm3 h (by omega)
 have p3:¬9∣l:=hp 1 (by omega)
 match c,hc with
 |0,_=>omega
 |1,_=>exact absurd ⟨1,by omega⟩ p3
 |2,_=>omega
 |3,_=>exact⟨rfl,by omega⟩
 |n+4,h=>omega
theorem z2a (c l:Nat) (h:c*c*l=4*4) (hp:∀i,i<25->¬prN i*prN i∣l):c=4/\l=1:=by
 have hc:=zm3 h (by omega)
 have p2:¬4∣l:=hp 0 (by omega)
 match c,hc with
 |0,_=>omega
 |1,_=>exact absurd ⟨4,by omega⟩ p2
 |2,_=>exact absurd ⟨1,by omega⟩ p2
 |3,_=>omega
 |4,_=>exact⟨rfl,by omega⟩
 |n+5,h=>omega
theorem z2b (c l:Nat) (h:c*c*l=5*5) (hp:∀i,i<25->¬prN i*prN i∣l):c=5/\l=1:=by
 have hc:=zm3 h (by omega)
 have p5:¬25∣l:=hp 2 (by omega)
 match c,hc with
 |0,_=>omega
 |1,_=>exact absurd ⟨1,by omega⟩ p5
 |2,_=>omega
 |3,_=>omega
 |4,_=>omega
 |5,_=>exact⟨rfl,by omega⟩
 |n+6,h=>omega
theorem GateS.keep {gb:Nat} {x:List UInt8} {W W':zA} (h:GateS gb x W) (hb:zB W.heap.size W W'):GateS gb x W':=by
 obtain⟨⟨cb,cap,cs,h1,h2,h3,h4,h5⟩,hf⟩:=h
 have hc:=zac hb
 exact⟨⟨cb,cap,cs,hc.cell h1,h2,hc _ _ _ _ h3,h4,h5⟩,hc.frozen h1 hf⟩
theorem zgo (n:Nat) (h:n<100):sz ((n:Int):Rat) 2:=⟨by show(n:Int).natAbs<10^2;rw[Int.natAbs_natCast];omega,by show 1<10^2;omega⟩
theorem zli (n:Nat) (h:n<100) (W:zA) (hW:Wd W):qJ 24 #[.string ⟨#[49]⟩,St (zD n)] W (.tuple #[St (zD n),.int .i64 0]):=by
 have:=zjf 1 ((n:Int):Rat) 2 2 (by omega) (by omega) (by omega) (sz_1.mono (by omega)) (zgo n h) W hW
 rw[Rat.one_mul,zfc,zc5] at this
 exact this
theorem zvp (n:Nat) (h:n<100) (W:zA) (hW:Wd W):qJ 24 #[St (zD n),.string ⟨#[49]⟩] W (.tuple #[St (zD n),.int .i64 0]):=by
 have:=zjf ((n:Int):Rat) 1 2 2 (by omega) (by omega) (by omega) (zgo n h) (sz_1.mono (by omega)) W hW
 rw[Rat.mul_one,zfc,zc5] at this
 exact this
theorem zx6 (m n:Nat) (hm:m<100) (hn:n<100) (W:zA) (hW:Wd W):qJ 23 #[St (zD m),St (zD n)] W (.tuple #[St (zD (m+n)),.int .i64 0]):=by
 have:=zje ((m:Int):Rat) ((n:Int):Rat) 2 2 (by omega) (by omega) (by omega) (zgo m hm) (zgo n hn) W hW
 rw[show((m:Int):Rat)+((n:Int):Rat)=(((m+n:Nat):Int):Rat) by rw[<-Rat.intCast_add];rfl,zc5,zc5,zc5] at this
 exact this
theorem z2c (W:zA) (hW:Wd W):qJ 20 #[.string ⟨#[49]⟩,.string ⟨#[49]⟩] W (.tuple #[.int .i64 0,.int .i64 0]):=by
 have:=zgq 1 1 1 1 (by omega) (by omega) (by omega) sz_1 sz_1 W hW
 rw[zfc,Geo.zeu] at this
 exact this
theorem zsb (gb m n:Nat) (hm:m<50) (hn:n<50) (W:zA) (hW:Wd W) (h:GateS gb (zD m) W):
 zC zF 138 #[.pointer (some ⟨gb,0,none⟩),.agg #[St (zD n),.string ⟨#[49]⟩]] W λe w'=>e=.returned (.int .i64 0)/\zB gb W w'/\GateS gb (zD (m+n)) w':=by
 obtain⟨⟨cb,cap,cs,h1,h2,h3,h4,h5⟩,hf⟩:=h
 exact zsa gb cb cap cs _ _ _ W (hid hW) h1 h2 hf h3 h4 h5 (hid z2c)
  (hid λW hW=>zx4 _ _ _ (hid λW hW=>zvp n (by omega) W hW) (hid λW hW=>zx6 m n (by omega) (by omega) W hW) W (hid hW))
theorem zf8:zD 16=[49,54]/\zD 9=[57]/\zD 25=[50,53]/\zD 12=[49,50]:=by
 refine⟨?_,?_,?_,?_⟩
 ·rw[zav (by omega),zae (by omega)];rfl
 ·rw[zae (by omega)];rfl
 ·rw[zav (by omega),zae (by omega)];rfl
 ·rw[zav (by omega),zae (by omega)];rfl
theorem zml (W:zA) (hW:Wd W):qJ 139 #[.string ⟨#[49]⟩] W (.int .i64 1):=by
 have:=znp 1 zn5 W hW
 rw[zfc] at this
 have e1:digs (1:Rat).num=1:=by show(zD 1).length=1;rw[zfg];rfl
 have e2:digs ((1:Rat).den:Int)=1:=by show(zD 1).length=1;rw[zfg];rfl
 rw[e1,e2] at this
 exact this
def z00 (gb:Nat) (W:zA):Prop:=W.cell? ⟨gb,0,none⟩=some (.slice none 0 0)/\W.frozen? ⟨gb,0,none⟩=false
theorem zx7 (gb:Nat):RoundC gb (zD (4*4)) (zD 4) (z00 gb) (GateS gb (zD 4)) where
 nz:=by rw[zf8.1];rfl
 n1:=by rw[zf8.1];rfl
 norm W hW hP:=zlh 4 (by omega) (by omega) z2a W hW hP
 mul W hW:=zli 4 (by omega) W hW
 keep W W' h hb:=⟨zai hb h.1,(zac hb).frozen h.1 h.2⟩
 each W _ h:=zqj gb _ W h.1 h.2
theorem zx8 (gb:Nat):RoundC gb (zD (3*3)) (zD 3) (GateS gb (zD 4)) (GateS gb (zD 7)) where
 nz:=by rw[zf8.2.1];rfl
 n1:=by rw[zf8.2.1];rfl
 norm W hW hP:=zlh 3 (by omega) (by omega) z0c W hW hP
 mul W hW:=zli 3 (by omega) W hW
 keep W W' h hb:=h.keep hb
 each W hW h:=zsb gb 4 3 (by omega) (by omega) W hW h
theorem ztk (gb:Nat):RoundC gb (zD (5*5)) (zD 5) (GateS gb (zD 7)) (GateS gb (zD 12)) where
 nz:=by rw[zf8.2.2.1];rfl
 n1:=by rw[zf8.2.2.1];rfl
 norm W hW hP:=zlh 5 (by omega) (by omega) z2b W hW hP
 mul W hW:=zli 5 (by omega) W hW
 keep W W' h hb:=h.keep hb
 each W hW h:=zsb gb 7 5 (by omega) (by omega) W hW h
theorem zx9 (gb b off cap:Nat) (hb:b<gb) (w:zA) (hgb:gb<=w.heap.size) (hw:∀W,zB gb w W->Wd W) (hp:∀W,zB gb w W->Pw W) (h0:z00 gb w)
 (t0:w.cell? ⟨b,off,none⟩=some (.string ⟨#[49]⟩)) (t1:w.cell? ⟨b,off+1,none⟩=some (St (zD (4*4)))) (t2:w.cell? ⟨b,off+2,none⟩=some (.string ⟨#[49]⟩)) (t3:w.cell? ⟨b,off+3,none⟩=some (St (zD (3*3))))
 (t4:w.cell? ⟨b,off+4,none⟩=some (.string ⟨#[49]⟩)) (t5:w.cell? ⟨b,off+5,none⟩=some (St (zD (5*5)))):
 zC zF 137 #[.slice (some ⟨b,off,none⟩) 3 cap,.func (.func 138) #[.pointer (some ⟨gb,0,none⟩)] #[]] w λe w'=>e=.returned (.int .i64 0)/\zB gb w w'/\GateS gb (zD 12) w':=
 zvo gb b off cap _ _ _ _ _ _ _ _ _ _ hb (hid (zx7 gb)) (hid (zx8 gb)) (hid (ztk gb)) (hid zml) w hgb (hid hw) (hid hp) h0 t0 t1 t2 t3 t4 t5
end
section
open Go.RowKit Go.Shelf Lib Str Limb
attribute [local go_sem] Oper.semAt_some
theorem zvq (v f:Value) (w:zA):
 zC zF 239 #[v,.int .i64 0,.int .i64 1,f] w λe w'=>(∃u,e=.returned u)/\w'=w:=by
 go_enter Tryz.func239,Tryz.ntmps239
 go_wp2_with fail
 refine wp_loop_rounds 1 ?_
 rw[rounds_succ]
 go_wp2_with fail
 go_end0
 exact⟨⟨_,rfl⟩,rfl⟩
theorem z2d (v f:Value) (n:Int) (w:zA):
 zC zF 187 #[v,.int .i64 0,.int .i64 1,.int .i64 n,f] w λe w'=>(∃u,e=.returned u)/\w'=w:=by
 go_enter Tryz.func187,Tryz.ntmps187
 go_wp2_with fail
 refine wp_loop_rounds 1 ?_
 rw[rounds_succ]
 go_wp2_with fail
 refine(zvq v f w).mono ?_
 rintro e w' ⟨⟨u,rfl⟩,rfl⟩
 go_wp2_with fail
 refine bodyPost_ret (results_none rfl _ _ _) rfl ?_
 exact⟨⟨_,rfl⟩,rfl⟩
theorem z0d (p:Option Addr) (cap:Nat) (f:Value) (w:zA):
 zC zF 140 #[.slice p 1 cap,f] w λe w'=>(∃u,e=.returned u)/\w'=w:=by
 have hl:=Tryz.bits_Len 1 w (by omega) (by omega)
 have HL:=hid hl;clear hl
 go_enter Tryz.func140,Tryz.ntmps140
 go_wp2_with fail
 refine HL.out.mono ?_
 rintro e w' ⟨rfl,rfl⟩
 go_wp2_with fail
 refine(z2d _ f _ _).mono ?_
 rintro e w'' ⟨⟨u,rfl⟩,rfl⟩
 go_wp2_with fail
 go_end0
 exact⟨⟨_,rfl⟩,rfl⟩
end
end Go.Proofs.YthfpmfdiamldoaaGreatDoor
