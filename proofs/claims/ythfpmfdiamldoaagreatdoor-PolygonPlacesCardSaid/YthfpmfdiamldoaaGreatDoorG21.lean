/- kingpostref02.Mul, Compare. -/
import Derived.Test.YthfpmfdiamldoaaGreatDoorG20
set_option maxRecDepth 100000
set_option maxHeartbeats 8000000
open Go renaming World → zA
open Go.Lib renaming decDigits → zD, itoa → zE
open Go.Proofs.Tryz renaming prog → zF
open Go.World renaming alloc_heap_new → zG, size_alloc → zH
open Go.IntWalk renaming i64_in → zI
open Go.RowKit.Below renaming refl → zM
open Nat renaming le_refl → zN
open Int renaming natAbs_mul → yK
namespace Go.Proofs.YthfpmfdiamldoaaGreatDoor
open Go.RowKit Go.Shelf Lib Str Limb Geo
attribute [local go_sem] Oper.semAt_some
theorem zz5 (a b c d:Int) (D:Nat) (hD:b*d=(D:Int)) (hD0:0<D) (ha:digs a<=300) (hb:digs b<=300) (hc:digs c<=300) (hd:digs d<=300) (hac:digs (a*c)<=300) (hbd:(zD D).length<=300) (w:zA) (hw:Wd w):
 qJ 190 #[St (zE a),St (zE b),St (zE c),St (zE d)] w (.tuple #[St (numS (Rat.divInt (a*c) (D:Int))),.int .i64 0]):=by
 have c1:=λW hW=>zff a c b d ha hc hb hd hac (by rw[hD];unfold digs;rw[Int.natAbs_natCast];exact hbd) W hW
 rw[hD,Str.zad] at c1
 have c2:=λW hW=>zn3 (a*c) D hD0 hac hbd W hW
 have C1:=hid c1;have C2:=hid c2;have HW:=hid hw
 clear c1 c2 hw ha hb hc hd hac hbd
 generalize numS (Rat.divInt (a*c) (D:Int))=t at*
 generalize zE (a*c)=x at*
 generalize zD D=y at*
 generalize zE a=sa at*
 generalize zE b=sb at*
 generalize zE c=sc at*
 generalize zE d=sd at*
 go_enter Tryz.func190,Tryz.ntmps190
 go_wp2_with fail
 refine(C1.out w HW.out).mono ?_
 rintro e w1 ⟨rfl,hb1⟩
 have HB1:=hid hb1;clear hb1
 go_wp2_with fail
 refine(C2.out w1 (HW.out.below HB1.out)).mono ?_
 rintro e w2 ⟨rfl,hb2⟩
 have HB2:=qT HB1 hb2;clear hb2
 go_wp2_with fail
 go_ret2
 exact⟨rfl,HB2.out⟩
theorem zx0 (p q:Rat) (hp:okN p) (hq:okN q) (np:zbc p) (nq:zbc q) (w:zA) (hw:Wd w):
 qJ 143 #[St (numS p),St (numS q)] w (.tuple #[St (numS (p*q)),.int .i64 0]):=by
 rw[zf1]
 have c0:=λW hW=>zf7 p q hp hq W hW
 have c1:=λW=>zef p hp np W
 have c2:=λW=>zef q hq nq W
 obtain⟨b1,b2⟩:=zjk np
 obtain⟨b3,b4⟩:=zjk nq
 have m1:(p.num*q.num).natAbs<=999999998000000001:=by
  rw[yK];exact Nat.mul_le_mul (show p.num.natAbs<=999999999 by omega) (show q.num.natAbs<=999999999 by omega)
 have m3:p.den*q.den<=999999998000000001:=Nat.mul_le_mul (show p.den<=999999999 by omega) (show q.den<=999999999 by omega)
 have m4:0<p.den*q.den:=Nat.mul_pos p.den_pos q.den_pos
 have qk:=λW=>zhg (p.num*q.num) (p.den*q.den) (by omega) m4 (by omega) W
 have e1:IntKind.i64.wrap (p.num*q.num)=p.num*q.num:=zI _ (by omega)
 have e4:IntKind.i64.wrap ((p.den:Int)*q.den)=((p.den*q.den:Nat):Int):=by rw[<-Int.natCast_mul];exact zI _ (by omega)
 obtain⟨D,hD⟩:∃D,D=p.den*q.den:=⟨_,rfl⟩
 rw[<-hD] at qk e4⊢
 have C0:=hid c0;have C1:=hid c1;have C2:=hid c2;have QK:=hid qk;have HW:=hid hw
 clear c0 c1 c2 qk np nq hp hq b1 b2 b3 b4 m1 m3 m4 hD hw
 generalize numS (Rat.divInt (p.num*q.num) (D:Int))=t at*
 generalize numS p=sp at*
 generalize numS q=sq at*
 generalize p.num=a at*
 generalize q.num=b at*
 generalize p.den=c at*
 generalize q.den=d at*
 go_enter Tryz.func143,Tryz.ntmps143
 go_wp2_with fail
 refine(C0.out w HW.out).mono ?_
 rintro e w0 ⟨rfl,hb0⟩
 have HB0:=hid hb0;clear hb0
 go_wp2_with fail
 refine(C1.out w0).mono ?_
 rintro e w1 ⟨rfl,hb1⟩
 have HB1:=qT HB0 hb1;clear hb1
 go_wp2_with fail
 refine(C2.out w1).mono ?_
 rintro e w2 ⟨rfl,hb2⟩
 have HB2:=qT HB1 hb2;clear hb2
 go_wp2_with fail
 refine(QK.out w2).mono ?_
 rintro e w3 ⟨rfl,hb3⟩
 have HB3:=qT HB2 hb3;clear hb3
 go_wp2_with fail
 go_ret2
 exact⟨rfl,HB3.out⟩
theorem zz6 (p q:Rat) (i j:Nat) (hi:0<i) (hj:0<j) (hij:i+j<=300) (sp:sz p i) (sq:sz q j) (hf:¬(zbc p/\zbc q)) (w:zA) (hw:Wd w):
 qJ 143 #[St (numS p),St (numS q)] w (.tuple #[St (numS (p*q)),.int .i64 0]):=by
 rw[zf1]
 have hp:=zc1 hi (by omega) sp
 have hq:=zc1 hj (by omega) sq
 have c0:=λW hW=>zf7 p q hp hq W hW
 have c1:=λW=>zfu p hp W
 have c2:=λW=>zfu q hq W
 have c3:=λW=>zee p hp W
 have c4:=λW=>zee q hq W
 have dg:∀k:Nat,digs (k:Int)=(zD k).length:=λk=>by unfold digs;rw[Int.natAbs_natCast]
 have x1:digs (p.num*q.num)<=i+j:=zfb (by omega) sp.1 sq.1
 have x3:(zD (p.den*q.den)).length<=i+j:=zn4 (by omega) sp.2 sq.2
 have c5:=λW hW=>zz5 p.num (p.den:Int) q.num (q.den:Int) (p.den*q.den) (by rw[Int.natCast_mul]) (Nat.mul_pos p.den_pos q.den_pos) hp.1 (by rw[dg];exact hp.2) hq.1 (by rw[dg];exact hq.2) (by omega) (by omega) W hW
 rw[Str.zad,Str.zad] at c5
 have hcase:(decide (zbc p)=false)\/(decide (zbc p)=true/\decide (zbc q)=false):=by
  by_cases h1:zbc p
  ·right;exact⟨decide_eq_true h1,decide_eq_false (λh2=>hf ⟨h1,h2⟩)⟩
  ·left;exact decide_eq_false h1
 have C0:=hid c0;have C1:=hid c1;have C2:=hid c2;have C3:=hid c3;have C4:=hid c4;have C5:=hid c5;have HW:=hid hw
 clear c0 c1 c2 c3 c4 c5 hw hp hq dg x1 x3 sp sq hf
 generalize numS (Rat.divInt (p.num*q.num) ((p.den*q.den:Nat):Int))=t at*
 generalize numS p=tp at*
 generalize numS q=tq at*
 generalize zE p.num=n1 at*
 generalize zE q.num=n2 at*
 generalize zD p.den=d1 at*
 generalize zD q.den=d2 at*
 generalize decide (zbc p)=b1 at*
 generalize decide (zbc q)=b2 at*
 go_enter Tryz.func143,Tryz.ntmps143
 go_wp2_with fail
 refine(C0.out w HW.out).mono ?_
 rintro e w0 ⟨rfl,hb0⟩
 have HB0:=hid hb0;clear hb0
 go_wp2_with fail
 refine(C1.out w0).mono ?_
 rintro e w1 ⟨⟨za,zb,rfl⟩,hb1⟩
 have HB1:=qT HB0 hb1;clear hb1
 go_wp2_with fail
 refine(C2.out w1).mono ?_
 rintro e w2 ⟨⟨zc,zd,rfl⟩,hb2⟩
 have HB2:=qT HB1 hb2;clear hb2
 rcases hcase with rfl|⟨rfl,rfl⟩<;>(
  go_wp2_with fail
  refine(C3.out w2).mono ?_
  rintro e w3 ⟨rfl,hb3⟩
  have HB3:=qT HB2 hb3;clear hb3
  go_wp2_with fail
  refine(C4.out w3).mono ?_
  rintro e w4 ⟨rfl,hb4⟩
  have HB4:=qT HB3 hb4;clear hb4
  go_wp2_with fail
  refine(C5.out w4 (HW.out.below HB4.out)).mono ?_
  rintro e w5 ⟨rfl,hb5⟩
  have HB5:=qT HB4 hb5;clear hb5
  go_wp2_with fail
  go_ret2
  exact⟨rfl,HB5.out⟩)
theorem zz7 (p q:Rat) (i j:Nat) (hi:0<i) (hj:0<j) (hij:i+j<=300) (sp:sz p i) (sq:sz q j) (w:zA) (hw:Wd w):
 qJ 143 #[St (numS p),St (numS q)] w (.tuple #[St (numS (p*q)),.int .i64 0]):=by
 by_cases h:zbc p/\zbc q
 ·exact zx0 p q (zc1 hi (by omega) sp) (zc1 hj (by omega) sq) h.1 h.2 w hw
 ·exact zz6 p q i j hi hj hij sp sq h w hw
theorem zqh (p q:Rat) (hp:okN p) (hq:okN q) (np:zbc p) (nq:zbc q) (w:zA) (hw:Wd w):
 qJ 89 #[St (numS p),St (numS q)] w (.tuple #[.int .i64 (cmpR p q),.int .i64 0]):=by
 rw[<-zim]
 have c0:=λW hW=>zf7 p q hp hq W hW
 have c1:=λW=>zef p hp np W
 have c2:=λW=>zef q hq nq W
 obtain⟨b1,b2⟩:=zjk np
 obtain⟨b3,b4⟩:=zjk nq
 have m1:(p.num*q.den).natAbs<=999999998000000001:=by
  rw[yK,Int.natAbs_natCast];exact Nat.mul_le_mul (show p.num.natAbs<=999999999 by omega) (show q.den<=999999999 by omega)
 have m2:(q.num*p.den).natAbs<=999999998000000001:=by
  rw[yK,Int.natAbs_natCast];exact Nat.mul_le_mul (show q.num.natAbs<=999999999 by omega) (show p.den<=999999999 by omega)
 have e1:IntKind.i64.wrap (p.num*q.den)=p.num*q.den:=zI _ (by omega)
 have e2:IntKind.i64.wrap (q.num*p.den)=q.num*p.den:=zI _ (by omega)
 have CZ:=hid (show(p.num*q.den<q.num*p.den->cmpZ (p.num*q.den) (q.num*p.den)= -1)/\(q.num*p.den<p.num*q.den->cmpZ (p.num*q.den) (q.num*p.den)=1)/\(p.num*q.den=q.num*p.den->cmpZ (p.num*q.den) (q.num*p.den)=0) by
  unfold cmpZ
  refine⟨λh=>?_,λh=>?_,λh=>?_⟩
  ·simp[h]
  ·have:¬p.num*q.den<q.num*p.den:=by omega
   simp[this,h]
  ·rw[h];simp)
 have C0:=hid c0;have C1:=hid c1;have C2:=hid c2;have HW:=hid hw
 clear c0 c1 c2 np nq hp hq b1 b2 b3 b4 m1 m2 hw
 generalize cmpZ (p.num*q.den) (q.num*p.den)=t at*
 generalize numS p=sp at*
 generalize numS q=sq at*
 generalize p.num=a at*
 generalize q.num=b at*
 generalize p.den=c at*
 generalize q.den=d at*
 go_enter Tryz.func89,Tryz.ntmps89
 go_wp2_with fail
 refine(C0.out w HW.out).mono ?_
 rintro e w0 ⟨rfl,hb0⟩
 have HB0:=hid hb0;clear hb0
 go_wp2_with fail
 refine(C1.out w0).mono ?_
 rintro e w1 ⟨rfl,hb1⟩
 have HB1:=qT HB0 hb1;clear hb1
 go_wp2_with fail
 refine(C2.out w1).mono ?_
 rintro e w2 ⟨rfl,hb2⟩
 have HB2:=qT HB1 hb2;clear hb2
 rcases Int.lt_trichotomy (a*d) (b*c) with h|h|h
 ·obtain rfl:=CZ.out.1 h
  go_wp2_with fail
  go_ret2
  exact⟨rfl,HB2.out⟩
 ·obtain rfl:=CZ.out.2.2 h
  have h1:¬a*d<b*c:=by omega
  have h2:¬b*c<a*d:=by omega
  clear h
  go_wp2_with fail
  go_ret2
  exact⟨rfl,HB2.out⟩
 ·obtain rfl:=CZ.out.2.1 h
  have h1:¬a*d<b*c:=by omega
  go_wp2_with fail
  go_ret2
  exact⟨rfl,HB2.out⟩
theorem zr7 (p q:Rat) (i j:Nat) (hi:0<i) (hj:0<j) (hij:i+j<=300) (sp:sz p i) (sq:sz q j) (hf:¬(zbc p/\zbc q)) (w:zA) (hw:Wd w):
 qJ 89 #[St (numS p),St (numS q)] w (.tuple #[.int .i64 (cmpR p q),.int .i64 0]):=by
 rw[<-zim]
 have hp:=zc1 hi (by omega) sp
 have hq:=zc1 hj (by omega) sq
 have c0:=λW hW=>zf7 p q hp hq W hW
 have c1:=λW=>zfu p hp W
 have c2:=λW=>zfu q hq W
 have c3:=λW=>zee p hp W
 have c4:=λW=>zee q hq W
 have dg:∀k:Nat,digs (k:Int)=(zD k).length:=λk=>by unfold digs;rw[Int.natAbs_natCast]
 have x1:digs (p.num*q.den)<=i+j:=zfb (by omega) sp.1 (by rw[Int.natAbs_natCast];exact sq.2)
 have x3:digs (q.num*p.den)<=i+j:=by rw[Nat.add_comm];exact zfb (by omega) sq.1 (by rw[Int.natAbs_natCast];exact sp.2)
 have c5:=λW hW=>zff p.num (q.den:Int) q.num (p.den:Int) hp.1 (by rw[dg];exact hq.2) hq.1 (by rw[dg];exact hp.2) (by omega) (by omega) W hW
 have c6:=λW=>zr3 (p.num*q.den) (q.num*p.den) (by omega) (by omega) W
 rw[Str.zad,Str.zad] at c5
 have hcase:(decide (zbc p)=false)\/(decide (zbc p)=true/\decide (zbc q)=false):=by
  by_cases h1:zbc p
  ·right;exact⟨decide_eq_true h1,decide_eq_false (λh2=>hf ⟨h1,h2⟩)⟩
  ·left;exact decide_eq_false h1
 have C0:=hid c0;have C1:=hid c1;have C2:=hid c2;have C3:=hid c3;have C4:=hid c4;have C5:=hid c5;have C6:=hid c6;have HW:=hid hw
 clear c0 c1 c2 c3 c4 c5 c6 hw hp hq dg x1 x3 sp sq hf
 generalize cmpZ (p.num*q.den) (q.num*p.den)=t at*
 generalize zE (p.num*q.den)=m1 at*
 generalize zE (q.num*p.den)=m2 at*
 generalize numS p=tp at*
 generalize numS q=tq at*
 generalize zE p.num=n1 at*
 generalize zE q.num=n2 at*
 generalize zD p.den=d1 at*
 generalize zD q.den=d2 at*
 generalize decide (zbc p)=b1 at*
 generalize decide (zbc q)=b2 at*
 go_enter Tryz.func89,Tryz.ntmps89
 go_wp2_with fail
 refine(C0.out w HW.out).mono ?_
 rintro e w0 ⟨rfl,hb0⟩
 have HB0:=hid hb0;clear hb0
 go_wp2_with fail
 refine(C1.out w0).mono ?_
 rintro e w1 ⟨⟨za,zb,rfl⟩,hb1⟩
 have HB1:=qT HB0 hb1;clear hb1
 go_wp2_with fail
 refine(C2.out w1).mono ?_
 rintro e w2 ⟨⟨zc,zd,rfl⟩,hb2⟩
 have HB2:=qT HB1 hb2;clear hb2
 rcases hcase with rfl|⟨rfl,rfl⟩<;>(
  go_wp2_with fail
  refine(C3.out w2).mono ?_
  rintro e w3 ⟨rfl,hb3⟩
  have HB3:=qT HB2 hb3;clear hb3
  go_wp2_with fail
  refine(C4.out w3).mono ?_
  rintro e w4 ⟨rfl,hb4⟩
  have HB4:=qT HB3 hb4;clear hb4
  go_wp2_with fail
  refine(C5.out w4 (HW.out.below HB4.out)).mono ?_
  rintro e w5 ⟨rfl,hb5⟩
  have HB5:=qT HB4 hb5;clear hb5
  go_wp2_with fail
  refine(C6.out w5).mono ?_
  rintro e w6 ⟨rfl,hb6⟩
  have HB6:=qT HB5 hb6;clear hb6
  go_wp2_with fail
  go_ret2
  exact⟨rfl,HB6.out⟩)
theorem zr8 (p q:Rat) (i j:Nat) (hi:0<i) (hj:0<j) (hij:i+j<=300) (sp:sz p i) (sq:sz q j) (w:zA) (hw:Wd w):
 qJ 89 #[St (numS p),St (numS q)] w (.tuple #[.int .i64 (cmpR p q),.int .i64 0]):=by
 by_cases h:zbc p/\zbc q
 ·exact zqh p q (zc1 hi (by omega) sp) (zc1 hj (by omega) sq) h.1 h.2 w hw
 ·exact zr7 p q i j hi hj hij sp sq h w hw
theorem zlt (p q:Rat) (i j:Nat) (hi:0<i) (hj:0<j) (hij:i+j<300) (sp:sz p i) (sq:sz q j) (w:zA) (hw:Wd w):
 qJ 88 #[St (numS p),St (numS q)] w (St (numS (p-q))):=by
 have hc:=zz4 p q i j hi hj hij sp sq w hw
 generalize numS (p-q)=r at hc⊢
 generalize numS p=x at hc⊢
 generalize numS q=y at hc⊢
 have HC:=hid hc;clear hc hi hj hij sp sq
 go_enter Tryz.func88,Tryz.ntmps88
 go_wp2_with fail
 refine HC.out.mono ?_
 rintro e w1 ⟨rfl,hB⟩
 go_wp2_with fail
 go_ret
 exact⟨rfl,hB⟩
theorem zud (p q:Rat) (i j:Nat) (hi:0<i) (hj:0<j) (hij:i+j<=300) (sp:sz p i) (sq:sz q j) (w:zA) (hw:Wd w):
 qJ 87 #[St (numS p),St (numS q)] w (St (numS (p*q))):=by
 have hc:=zz7 p q i j hi hj hij sp sq w hw
 generalize numS (p*q)=r at hc⊢
 generalize numS p=x at hc⊢
 generalize numS q=y at hc⊢
 have HC:=hid hc;clear hc hi hj hij sp sq
 go_enter Tryz.func87,Tryz.ntmps87
 go_wp2_with fail
 refine HC.out.mono ?_
 rintro e w1 ⟨rfl,hB⟩
 go_wp2_with fail
 go_ret
 exact⟨rfl,hB⟩
theorem zjl (p q:Rat) (i j:Nat) (hi:0<i) (hj:0<j) (hij:i+j<=300) (sp:sz p i) (sq:sz q j) (w:zA) (hw:Wd w):
 qJ 40 #[St (numS p),St (numS q)] w (.int .i64 (cmpR p q)):=by
 have hc:=zr8 p q i j hi hj hij sp sq w hw
 generalize cmpR p q=r at hc⊢
 generalize numS p=x at hc⊢
 generalize numS q=y at hc⊢
 have HC:=hid hc;clear hc hi hj hij sp sq
 go_enter Tryz.func40,Tryz.ntmps40
 go_wp2_with fail
 refine HC.out.mono ?_
 rintro e w1 ⟨rfl,hB⟩
 go_wp2_with fail
 go_ret
 exact⟨rfl,hB⟩
theorem zvm (x1 y1 x2 y2 x3 y3 u1 u2 v1 v2 u v:List UInt8) (n:Int)
 (S1:Hid (qK 88 #[St x2,St x1] (St u1)))
 (S2:Hid (qK 88 #[St y3,St y1] (St u2)))
 (M1:Hid (qK 87 #[St u1,St u2] (St u)))
 (S3:Hid (qK 88 #[St y2,St y1] (St v1)))
 (S4:Hid (qK 88 #[St x3,St x1] (St v2)))
 (M2:Hid (qK 87 #[St v1,St v2] (St v)))
 (CM:Hid (qK 40 #[St u,St v] (.int .i64 n)))
 (w:zA) (HW:Hid (Wd w)):
 qJ 38 #[.agg #[St x1,St y1],.agg #[St x2,St y2],.agg #[St x3,St y3]] w (.int .i64 n):=by
 have hinit:TurnS w x1 y1 x2 y2 x3 y3 (((w.alloc (.cells #[St x1,St y1] 25)).alloc (.cells #[St x2,St y2] 25)).alloc (.cells #[St x3,St y3] 25)):=by
  have e1:=zG w (.cells #[St x1,St y1] 25 (0,0))
  have e2:=zG (w.alloc (.cells #[St x1,St y1] 25)) (.cells #[St x2,St y2] 25 (0,0))
  have e3:=zG ((w.alloc (.cells #[St x1,St y1] 25)).alloc (.cells #[St x2,St y2] 25)) (.cells #[St x3,St y3] 25 (0,0))
  simp only[zH] at e2 e3
  refine⟨(((zM _ w).alloc (zN _) _).alloc (by simp) _).alloc (by simp;omega) _,by simp,?_,?_,e3⟩
  ·exact(Below.heap_alloc _ _ _ (by simp only[zH];omega)).trans ((Below.heap_alloc _ _ _ (by simp only[zH];omega)).trans e1)
  ·exact(Below.heap_alloc _ _ _ (by simp only[zH];omega)).trans e2
 have HI:=hid hinit;clear hinit
 go_enter Tryz.func38,Tryz.ntmps38
 go_wp2_with fail
 refine zbl (λ_ W=>TurnS w x1 y1 x2 y2 x3 y3 W) (by kernel_rfl) (by kernel_rfl) (by have h:=HI.out;exact⟨h.bel.drew,h.lt,h.ha,h.hb,h.hc⟩) ?_
 refine qR (.pointer (some ⟨w.heap.size+1,0,none⟩)) ?_
 simp only[zzQ]
 refine qR (St x2) ?_ (hy:=λf W' hf h=>by have h0:=h.b0;go_simp)
 simp only[zzQ]
 refine qR (.pointer (some ⟨w.heap.size,0,none⟩)) ?_
 simp only[zzQ]
 refine qR (St x1) ?_ (hy:=λf W' hf h=>by have h0:=h.a0;go_simp)
 simp only[zzQ]
 refine zar (St u1) (by rfl) (λf W' hf h C' hC'=>by
  go_simp
  refine(S1.out _ (HW.out.below h.bel)).mono ?_
  rintro e w' ⟨rfl,hb⟩
  exact⟨rfl,hC' _ (h.next hb)⟩) ?_
 try simp only[zzQ]
 refine qR (.pointer (some ⟨w.heap.size+1+1,1,none⟩)) ?_
 simp only[zzQ]
 refine qR (St y3) ?_ (hy:=λf W' hf h=>by have h0:=h.c1;go_simp)
 simp only[zzQ]
 refine qR (.pointer (some ⟨w.heap.size,1,none⟩)) ?_
 simp only[zzQ]
 refine qR (St y1) ?_ (hy:=λf W' hf h=>by have h0:=h.a1;go_simp)
 simp only[zzQ]
 refine zar (St u2) (by rfl) (λf W' hf h C' hC'=>by
  go_simp
  refine(S2.out _ (HW.out.below h.bel)).mono ?_
  rintro e w' ⟨rfl,hb⟩
  exact⟨rfl,hC' _ (h.next hb)⟩) ?_
 try simp only[zzQ]
 refine zar (St u) (by rfl) (λf W' hf h C' hC'=>by
  go_simp
  refine(M1.out _ (HW.out.below h.bel)).mono ?_
  rintro e w' ⟨rfl,hb⟩
  exact⟨rfl,hC' _ (h.next hb)⟩) ?_
 try simp only[zzQ]
 refine qR (.pointer (some ⟨w.heap.size+1,1,none⟩)) ?_
 simp only[zzQ]
 refine qR (St y2) ?_ (hy:=λf W' hf h=>by have h0:=h.b1;go_simp)
 simp only[zzQ]
 refine qR (.pointer (some ⟨w.heap.size,1,none⟩)) ?_
 simp only[zzQ]
 refine qR (St y1) ?_ (hy:=λf W' hf h=>by have h0:=h.a1;go_simp)
 simp only[zzQ]
 refine zar (St v1) (by rfl) (λf W' hf h C' hC'=>by
  go_simp
  refine(S3.out _ (HW.out.below h.bel)).mono ?_
  rintro e w' ⟨rfl,hb⟩
  exact⟨rfl,hC' _ (h.next hb)⟩) ?_
 try simp only[zzQ]
 refine qR (.pointer (some ⟨w.heap.size+1+1,0,none⟩)) ?_
 simp only[zzQ]
 refine qR (St x3) ?_ (hy:=λf W' hf h=>by have h0:=h.c0;go_simp)
 simp only[zzQ]
 refine qR (.pointer (some ⟨w.heap.size,0,none⟩)) ?_
 simp only[zzQ]
 refine qR (St x1) ?_ (hy:=λf W' hf h=>by have h0:=h.a0;go_simp)
 simp only[zzQ]
 refine zar (St v2) (by rfl) (λf W' hf h C' hC'=>by
  go_simp
  refine(S4.out _ (HW.out.below h.bel)).mono ?_
  rintro e w' ⟨rfl,hb⟩
  exact⟨rfl,hC' _ (h.next hb)⟩) ?_
 try simp only[zzQ]
 refine zar (St v) (by rfl) (λf W' hf h C' hC'=>by
  go_simp
  refine(M2.out _ (HW.out.below h.bel)).mono ?_
  rintro e w' ⟨rfl,hb⟩
  exact⟨rfl,hC' _ (h.next hb)⟩) ?_
 try simp only[zzQ]
 refine zar (.int .i64 n) (by rfl) (λf W' hf h C' hC'=>by
  go_simp
  refine(CM.out _ (HW.out.below h.bel)).mono ?_
  rintro e w' ⟨rfl,hb⟩
  exact⟨rfl,hC' _ (h.next hb)⟩) ?_
 try simp only[zzQ]
 refine qR (.int .i64 n) ?_
 simp only[zzQ]
 refine zck λf W' hf h=>?_
 have hB:=h.bel
 clear hf h
 go_wp2_with fail
 go_ret
 exact⟨rfl,hB⟩
theorem zh8 (a b c:Pt) (k:Nat) (hk:0<k) (hk2:8*k+4<=300) (ha:szP a k) (hb:szP b k) (hc:szP c k) (w:zA) (hw:Wd w):
 qJ 38 #[ptV a,ptV b,ptV c] w (.int .i64 (turn a b c)):=by
 have s1:=zb0 hb.1 ha.1
 have s2:=zb0 hc.2 ha.2
 have s3:=zb0 hb.2 ha.2
 have s4:=zb0 hc.1 ha.1
 have m1:=zca s1 s2
 have m2:=zca s3 s4
 exact zvm _ _ _ _ _ _ _ _ _ _ _ _ _ (hid λW hW=>zlt b.x a.x k k hk hk (by omega) hb.1 ha.1 W hW) (hid λW hW=>zlt c.y a.y k k hk hk (by omega) hc.2 ha.2 W hW)
  (hid λW hW=>zud _ _ _ _ (by omega) (by omega) (by omega) s1 s2 W hW) (hid λW hW=>zlt b.y a.y k k hk hk (by omega) hb.2 ha.2 W hW) (hid λW hW=>zlt c.x a.x k k hk hk (by omega) hc.1 ha.1 W hW)
  (hid λW hW=>zud _ _ _ _ (by omega) (by omega) (by omega) s3 s4 W hW) (hid λW hW=>zjl _ _ _ _ (by omega) (by omega) (by omega) m1 m2 W hW) w (hid hw)
theorem zz8 (x1 y1 x2 y2 x3 y3:List UInt8) (m1 m2 m3 m4 m n:Int) (c1 c2:Bool) (h1:decide (m<=0)=c1) (h2:decide (n<=0)=c2)
 (hm:Hid (IntKind.i64.wrap (m1*m2)=m)) (hn:Hid (IntKind.i64.wrap (m3*m4)=n))
 (S1:Hid (qK 40 #[St x3,St x1] (.int .i64 m1)))
 (S2:Hid (qK 40 #[St x3,St x2] (.int .i64 m2)))
 (S3:Hid (qK 40 #[St y3,St y1] (.int .i64 m3)))
 (S4:Hid (qK 40 #[St y3,St y2] (.int .i64 m4)))
 (w:zA) (HW:Hid (Wd w)):
 qJ 39 #[.agg #[St x1,St y1],.agg #[St x2,St y2],.agg #[St x3,St y3]] w (.bool (c1&&c2)):=by
 have hinit:TurnS w x1 y1 x2 y2 x3 y3 (((w.alloc (.cells #[St x1,St y1] 25)).alloc (.cells #[St x2,St y2] 25)).alloc (.cells #[St x3,St y3] 25)):=by
  have e1:=zG w (.cells #[St x1,St y1] 25 (0,0))
  have e2:=zG (w.alloc (.cells #[St x1,St y1] 25)) (.cells #[St x2,St y2] 25 (0,0))
  have e3:=zG ((w.alloc (.cells #[St x1,St y1] 25)).alloc (.cells #[St x2,St y2] 25)) (.cells #[St x3,St y3] 25 (0,0))
  simp only[zH] at e2 e3
  refine⟨(((zM _ w).alloc (zN _) _).alloc (by simp) _).alloc (by simp;omega) _,by simp,?_,?_,e3⟩
  ·exact(Below.heap_alloc _ _ _ (by simp only[zH];omega)).trans ((Below.heap_alloc _ _ _ (by simp only[zH];omega)).trans e1)
  ·exact(Below.heap_alloc _ _ _ (by simp only[zH];omega)).trans e2
 have HI:=hid hinit;clear hinit
 go_enter Tryz.func39,Tryz.ntmps39
 go_wp2_with fail
 refine zbl (λ_ W=>TurnS w x1 y1 x2 y2 x3 y3 W) (by kernel_rfl) (by kernel_rfl) (by have h:=HI.out;exact⟨h.bel.drew,h.lt,h.ha,h.hb,h.hc⟩) ?_
 refine qR (.pointer (some ⟨w.heap.size+1+1,0,none⟩)) ?_
 simp only[zzQ]
 refine qR (St x3) ?_ (hy:=λf W' hf h=>by have h0:=h.c0;go_simp)
 simp only[zzQ]
 refine qR (.pointer (some ⟨w.heap.size,0,none⟩)) ?_
 simp only[zzQ]
 refine qR (St x1) ?_ (hy:=λf W' hf h=>by have h0:=h.a0;go_simp)
 simp only[zzQ]
 refine zar (.int .i64 m1) (by rfl) (λf W' hf h C' hC'=>by
  go_simp
  refine(S1.out _ (HW.out.below h.bel)).mono ?_
  rintro e w' ⟨rfl,hb⟩
  exact⟨rfl,hC' _ (h.next hb)⟩) ?_
 try simp only[zzQ]
 refine qR (.pointer (some ⟨w.heap.size+1+1,0,none⟩)) ?_
 simp only[zzQ]
 refine qR (St x3) ?_ (hy:=λf W' hf h=>by have h0:=h.c0;go_simp)
 simp only[zzQ]
 refine qR (.pointer (some ⟨w.heap.size+1,0,none⟩)) ?_
 simp only[zzQ]
 refine qR (St x2) ?_ (hy:=λf W' hf h=>by have h0:=h.b0;go_simp)
 simp only[zzQ]
 refine zar (.int .i64 m2) (by rfl) (λf W' hf h C' hC'=>by
  go_simp
  refine(S2.out _ (HW.out.below h.bel)).mono ?_
  rintro e w' ⟨rfl,hb⟩
  exact⟨rfl,hC' _ (h.next hb)⟩) ?_
 try simp only[zzQ]
 refine qR (.int .i64 m) ?_ (hy:=λf W' hf h=>by have h0:=hm.out;go_simp)
 simp only[zzQ]
 refine qR (.pointer (some ⟨w.heap.size+1+1,1,none⟩)) ?_
 simp only[zzQ]
 refine qR (St y3) ?_ (hy:=λf W' hf h=>by have h0:=h.c1;go_simp)
 simp only[zzQ]
 refine qR (.pointer (some ⟨w.heap.size,1,none⟩)) ?_
 simp only[zzQ]
 refine qR (St y1) ?_ (hy:=λf W' hf h=>by have h0:=h.a1;go_simp)
 simp only[zzQ]
 refine zar (.int .i64 m3) (by rfl) (λf W' hf h C' hC'=>by
  go_simp
  refine(S3.out _ (HW.out.below h.bel)).mono ?_
  rintro e w' ⟨rfl,hb⟩
  exact⟨rfl,hC' _ (h.next hb)⟩) ?_
 try simp only[zzQ]
 refine qR (.pointer (some ⟨w.heap.size+1+1,1,none⟩)) ?_
 simp only[zzQ]
 refine qR (St y3) ?_ (hy:=λf W' hf h=>by have h0:=h.c1;go_simp)
 simp only[zzQ]
 refine qR (.pointer (some ⟨w.heap.size+1,1,none⟩)) ?_
 simp only[zzQ]
 refine qR (St y2) ?_ (hy:=λf W' hf h=>by have h0:=h.b1;go_simp)
 simp only[zzQ]
 refine zar (.int .i64 m4) (by rfl) (λf W' hf h C' hC'=>by
  go_simp
  refine(S4.out _ (HW.out.below h.bel)).mono ?_
  rintro e w' ⟨rfl,hb⟩
  exact⟨rfl,hC' _ (h.next hb)⟩) ?_
 try simp only[zzQ]
 refine qR (.int .i64 n) ?_ (hy:=λf W' hf h=>by have h0:=hn.out;go_simp)
 simp only[zzQ]
 refine qR (.int .i64 m) ?_
 simp only[zzQ]
 refine qR (.int .i64 n) ?_
 simp only[zzQ]
 refine zck λf W' hf h=>?_
 have hB:=h.bel
 clear hf h
 cases c1<;>(
  go_wp2_with fail
  go_ret
  exact⟨by simp,hB⟩)
theorem zlg (a b c d:Rat):IntKind.i64.wrap (cmpR a b*cmpR c d)=cmpR a b*cmpR c d:=by
 have h1:=zaw a b
 have h2:=zaw c d
 have: -1<=cmpR a b*cmpR c d/\cmpR a b*cmpR c d<=1:=by
  rcases h1 with⟨_,h⟩|⟨_,h⟩|⟨_,h⟩<;>rcases h2 with⟨_,k⟩|⟨_,k⟩|⟨_,k⟩<;>rw[h,k]<;>decide
 exact zI _ (by omega)
def onB (a b p:Pt):Bool:=decide (cmpR p.x a.x*cmpR p.x b.x<=0)&&decide (cmpR p.y a.y*cmpR p.y b.y<=0)
theorem zjm (a b c:Pt) (k:Nat) (hk:0<k) (hk2:8*k+4<=300) (ha:szP a k) (hb:szP b k) (hc:szP c k) (w:zA) (hw:Wd w):
 qJ 39 #[ptV a,ptV b,ptV c] w (.bool (onB a b c)):=
 zz8 _ _ _ _ _ _ _ _ _ _ _ _ _ _ rfl rfl (hid (zlg _ _ _ _)) (hid (zlg _ _ _ _)) (hid λW hW=>zjl _ _ k k hk hk (by omega) hc.1 ha.1 W hW) (hid λW hW=>zjl _ _ k k hk hk (by omega) hc.1 hb.1 W hW)
  (hid λW hW=>zjl _ _ k k hk hk (by omega) hc.2 ha.2 W hW) (hid λW hW=>zjl _ _ k k hk hk (by omega) hc.2 hb.2 W hW) w (hid hw)
def shN (q:Rat):Prop:=digs q.num<=36/\(zD q.den).length<=36
theorem z8y {q:Rat}:shN q↔sz q 36:=⟨λh=>⟨(za3 _ _ (by omega)).1 h.1,(zaf _ _ (by omega)).1 h.2⟩,λh=>zok (by omega) h⟩
def ShoP (w:zA) (P:Prop) (e:Ending) (w':zA):Prop:=∃b:Bool,e=.returned (.bool b)/\(b=true↔P)/\Below w.heap.size w w'
theorem ShoP.yes {w w':zA} {P:Prop} (h:P) (hb:qL w w'):ShoP w P (.returned (.bool true)) w':=⟨true,rfl,⟨λ_=>h,λ_=>rfl⟩,hb⟩
theorem ShoP.no {w w':zA} {P:Prop} (h:¬P) (hb:qL w w'):ShoP w P (.returned (.bool false)) w':=⟨false,rfl,⟨λk=>(by cases k),λk=>absurd k h⟩,hb⟩
theorem zuk (q:Rat) (hq:okN q) (w:zA) (hw:Wd w):
 Calls zF 86 #[St (numS q)] w (ShoP w (shN q)):=by
 have c1:=zvl q hq w hw
 obtain⟨sn,hsn⟩:∃s:ByteArray,s=⟨(zE q.num).toArray⟩:=⟨_,rfl⟩
 obtain⟨sd,hsd⟩:∃s:ByteArray,s=⟨(zD q.den).toArray⟩:=⟨_,rfl⟩
 obtain⟨p1,p2,p3⟩:=zdn q.num sn hsn
 have l2:(sd.size:Int)=(zD q.den).length:=by rw[hsd];rfl
 have c1':qJ 142 #[St (numS q)] w (.tuple #[.string sn,.string sd,.int .i64 0]):=by rw[hsn,hsd];exact c1
 have C1:=hid c1'
 have cases3:∀t:Int,t=digs q.num->(decide (t<=36)=true/\decide ((sd.size:Int)<=36)=true/\Hid (shN q))\/(decide (t<=36)=true/\decide ((sd.size:Int)<=36)=false/\Hid (¬shN q))\/(decide (t<=36)=false/\Hid (¬shN q)):=λt ht=>by
  by_cases a:digs q.num<=36
  ·by_cases b:(zD q.den).length<=36
   ·exact .inl ⟨decide_eq_true (by omega),decide_eq_true (by omega),hid ⟨a,b⟩⟩
   ·exact .inr (.inl ⟨decide_eq_true (by omega),decide_eq_false (by omega),hid λh=>b h.2⟩)
  ·exact .inr (.inr ⟨decide_eq_false (by omega),hid λh=>a h.1⟩)
 by_cases hm:q.num<0
 ·rw[decide_eq_true hm] at p2
  have hx:=p3 hm
  obtain⟨t,ht⟩:∃t:ByteArray,t=⟨(zD q.num.natAbs).toArray⟩:=⟨_,rfl⟩
  rw[<-ht] at hx
  have l1:=cases3 (t.size:Int) (by rw[ht];rfl)
  have p1':(0:Int)<(sn.size:Int):=by omega
  have p4:(1:Int)<=(sn.size:Int):=by omega
  clear c1 c1' ht hsn hsd p3 hm hw l2 cases3 hq
  generalize shN q=Q at*
  generalize numS q=x at*
  rcases l1 with⟨k1,k2,HQ⟩|⟨k1,k2,HQ⟩|⟨k1,HQ⟩
  all_goals
   go_enter Tryz.func86,Tryz.ntmps86
   go_wp2_with fail
   refine C1.out.mono ?_
   rintro e w1 ⟨rfl,hb1⟩
   have HB1:=hid hb1;clear hb1
   go_wp2_with fail
   go_ret
   first|exact ShoP.yes HQ.out HB1.out|exact ShoP.no HQ.out HB1.out
 ·rw[decide_eq_false hm] at p2
  have l1:=cases3 (sn.size:Int) (by
   rw[hsn]
   have e:zE q.num=zD q.num.natAbs:=by
    rcases zbg q.num with⟨k,e⟩|⟨k,e⟩
    ·exact e
    ·omega
   rw[e];rfl)
  have p1':(0:Int)<(sn.size:Int):=by omega
  clear c1 c1' hsn hsd p3 hm hw l2 cases3 hq
  generalize shN q=Q at*
  generalize numS q=x at*
  rcases l1 with⟨k1,k2,HQ⟩|⟨k1,k2,HQ⟩|⟨k1,HQ⟩
  all_goals
   go_enter Tryz.func86,Tryz.ntmps86
   go_wp2_with fail
   refine C1.out.mono ?_
   rintro e w1 ⟨rfl,hb1⟩
   have HB1:=hid hb1;clear hb1
   go_wp2_with fail
   go_ret
   first|exact ShoP.yes HQ.out HB1.out|exact ShoP.no HQ.out HB1.out
theorem zz9 (x y:List UInt8) (A B A' B':Prop)
 (CX:Hid (∀W:zA,Wd W->Calls zF 57 #[St x] W λe w'=>∃r:Int,e=.returned (.int .i64 r)/\(r=0↔A)/\Below W.heap.size W w'))
 (CY:Hid (∀W:zA,Wd W->Calls zF 57 #[St y] W λe w'=>∃r:Int,e=.returned (.int .i64 r)/\(r=0↔B)/\Below W.heap.size W w'))
 (NX:Hid (A->∀W:zA,Wd W->Calls zF 86 #[St x] W (ShoP W A')))
 (NY:Hid (B->∀W:zA,Wd W->Calls zF 86 #[St y] W (ShoP W B')))
 (w:zA) (HW:Hid (Wd w)):
 Calls zF 37 #[.agg #[St x,St y]] w λe w'=>∃r:Int,e=.returned (.int .i64 r)/\(r=0↔A/\B/\A'/\B')/\Below w.heap.size w w':=by
 have hinit:PtS w x y (w.alloc (.cells #[St x,St y] 25)):=⟨(zM _ w).alloc (zN _) _,by simp,zG w _⟩
 obtain⟨W1,hW1⟩:∃W1,W1=w.alloc (.cells #[St x,St y] 25):=⟨_,rfl⟩
 rw[<-hW1] at hinit
 have i0:=hinit.c0;have i1:=hinit.c1
 rw[hW1] at i0 i1
 have HI:=hid hinit;clear hinit
 have HW1:=hid hW1;clear hW1
 have ne:∀r:Int,r≠0->(r==0)=false/\(r !=0)=true:=λr hr=>⟨beq_eq_false_iff_ne.2 hr,by rw[bne,beq_eq_false_iff_ne.2 hr];rfl⟩
 have NE:=hid ne;clear ne
 go_enter Tryz.func37,Tryz.ntmps37
 go_wp2_with fail
 rw[<-HW1.out]
 clear i0 i1
 refine(CX.out _ (HW.out.below HI.out.bel)).mono ?_
 rintro e W2 ⟨r,rfl,hr,hb2⟩
 have H2:=hid (HI.out.next hb2);clear HI hb2
 have HR:=hid hr;clear hr
 by_cases h0:r=0
 ·have HA:=hid (HR.out.1 h0)
  subst h0
  have i1:=H2.out.c1
  go_wp2_with fail
  clear i1
  refine(CY.out _ (HW.out.below H2.out.bel)).mono ?_
  rintro e W3 ⟨r,rfl,hr,hb3⟩
  have H3:=hid (H2.out.next hb3);clear H2 hb3
  have HR2:=hid hr;clear hr
  by_cases h0:r=0
  ·have HB:=hid (HR2.out.1 h0)
   subst h0
   have i0:=H3.out.c0
   go_wp2_with fail
   clear i0
   refine(NX.out HA.out _ (HW.out.below H3.out.bel)).mono ?_
   rintro e W4 ⟨b,rfl,hb,hb4⟩
   have H4:=hid (H3.out.next hb4);clear H3 hb4
   have HS:=hid hb;clear hb
   cases b
   ·go_wp2_with fail
    go_ret
    exact⟨4,rfl,⟨λh=>(by cases h),λh=>by have:=HS.out.2 h.2.2.1;cases this⟩,H4.out.bel⟩
   ·have i1:=H4.out.c1
    go_wp2_with fail
    clear i1
    refine(NY.out HB.out _ (HW.out.below H4.out.bel)).mono ?_
    rintro e W5 ⟨b,rfl,hb,hb5⟩
    have H5:=hid (H4.out.next hb5);clear H4 hb5
    have HT:=hid hb;clear hb
    cases b
    ·go_wp2_with fail
     go_ret
     exact⟨4,rfl,⟨λh=>(by cases h),λh=>by have:=HT.out.2 h.2.2.2;cases this⟩,H5.out.bel⟩
    ·go_wp2_with fail
     go_ret
     exact⟨0,rfl,⟨λ_=>⟨HA.out,HB.out,HS.out.1 (by trivial),HT.out.1 (by trivial)⟩,λ_=>rfl⟩,H5.out.bel⟩
  ·obtain⟨e1,e2⟩:=NE.out r h0
   have H0:=hid h0;clear h0
   go_wp2_with fail
   go_ret
   exact⟨r,rfl,⟨λh=>absurd h H0.out,λh=>absurd (HR2.out.2 h.2.1) H0.out⟩,H3.out.bel⟩
 ·obtain⟨e1,e2⟩:=NE.out r h0
  have H0:=hid h0;clear h0
  go_wp2_with fail
  go_ret
  exact⟨r,rfl,⟨λh=>absurd h H0.out,λh=>absurd (HR.out.2 h.1) H0.out⟩,H2.out.bel⟩
theorem zx1 (p:Pt) (h:szP p 36) (w:zA) (hw:Wd w):
 qJ 37 #[ptV p] w (.int .i64 0):=by
 have hx:okN p.x:=zc1 (by omega) (by omega) h.1
 have hy:okN p.y:=zc1 (by omega) (by omega) h.2
 refine(zz9 _ _ True True (shN p.x) (shN p.y) (hid λW hW=>(zf6 p.x hx W hW).mono λe w' ⟨a,b⟩=>⟨0,a,by simp,b⟩) (hid λW hW=>(zf6 p.y hy W hW).mono λe w' ⟨a,b⟩=>⟨0,a,by simp,b⟩)
  (hid λ_ W hW=>zuk p.x hx W hW) (hid λ_ W hW=>zuk p.y hy W hW) w (hid hw)).mono ?_
 rintro e w' ⟨r,rfl,h1,h2⟩
 rw[h1.2 ⟨trivial,trivial,z8y.2 h.1,z8y.2 h.2⟩]
 exact⟨rfl,h2⟩
section
variable {P:Program} {ops:Array Oper} {Q:Exit->Act->zA->Prop} {a:Act} {rest:List Oper} {o:Oper} {C:zA->Prop}
theorem za4 (v:Value) (hw:Region.wanted o (yielded ops a.tmps)=true) (hy:∀w,C w->(execOp a.eval o).run P w=.ok (.value v) w)
 (h:∀w,C w->wpList P ops Q rest (a.put o.dst v) w):∀w,C w->wpList P ops Q (o::rest) a w:=λw hC=>by
 refine wpList_step λK hK=>?_
 rw[if_pos hw]
 exact zjt (C:=C) (v:=v) (λw' h'=>hK _ _ (h w' h')) (by rw[hy w hC];exact⟨rfl,hC⟩)
theorem zx2 (v:Value) (hw:Region.wanted o (yielded ops a.tmps)=true) (hy:∀w,C w->zfx P C v ((execOp a.eval o).run P w))
 (h:∀w,C w->wpList P ops Q rest (a.put o.dst v) w):∀w,C w->wpList P ops Q (o::rest) a w:=λw hC=>by
 refine wpList_step λK hK=>?_
 rw[if_pos hw]
 exact zjt (C:=C) (v:=v) (λw' h'=>hK _ _ (h w' h')) (hy w hC)
theorem zap (g:Bool) (v:Value) (hw:Region.wanted o (yielded ops a.tmps)=g) (hy:g=true->∀w,C w->zfx P C v ((execOp a.eval o).run P w))
 (h:∀w,C w->wpList P ops Q rest (a.put o.dst (bif g then v else undef)) w):∀w,C w->wpList P ops Q (o::rest) a w:=λw hC=>by
 refine wpList_step λK hK=>?_
 cases g with
 |true=>rw[if_pos hw];exact zjt (C:=C) (v:=v) (λw' h'=>hK _ _ (h w' h')) (hy rfl w hC)
 |false=>rw[if_neg (by rw[hw];simp)];exact hK _ _ (h w hC)
theorem zgn {id:Nat} {l:List Oper} {w:zA} (C:zA->Prop) (hC:C w) (h:∀w,C w->wpList P l.toArray Q l a w):(Code.region id l.toArray false).wp P Q a w:=wp_region_lit (h w hC)
theorem zah {r:Result Next} {v:Value} {w:zA} (h:r=.ok (.value v) w) (hC:C w):zfx P C v r:=by rw[h];exact⟨rfl,hC⟩
end
theorem FourS.cells' {w:zA} {x1 y1 x2 y2 x3 y3 x4 y4:List UInt8} {W:zA} (h:FourS w x1 y1 x2 y2 x3 y3 x4 y4 W):
 W.cell? ⟨w.heap.size,0,none⟩=some (St x1)/\W.cell? ⟨w.heap.size,1,none⟩=some (St y1)/\W.cell? ⟨w.heap.size+1,0,none⟩=some (St x2)/\W.cell? ⟨w.heap.size+1,1,none⟩=some (St y2)/\
 W.cell? ⟨w.heap.size+1+1,0,none⟩=some (St x3)/\W.cell? ⟨w.heap.size+1+1,1,none⟩=some (St y3)/\W.cell? ⟨w.heap.size+1+1+1,0,none⟩=some (St x4)/\W.cell? ⟨w.heap.size+1+1+1,1,none⟩=some (St y4):=h.cells
theorem zvn (x1 y1 x2 y2 x3 y3 x4 y4:List UInt8) (p q r s m n:Int) (bp bq br bs np nq c1 c2 o1 o2 o3 o4:Bool)
 (hp:Hid ((p==0)=bp)) (hq:Hid ((q==0)=bq)) (hr:Hid ((r==0)=br)) (hs:Hid ((s==0)=bs)) (hnp:Hid ((p !=0)=np)) (hnq:Hid ((q !=0)=nq))
 (hm:Hid (IntKind.i64.wrap (p*q)=m)) (hn:Hid (IntKind.i64.wrap (r*s)=n)) (hc1:Hid (decide (m<=0)=c1)) (hc2:Hid (decide (n<=0)=c2)) (hno:(((bp&&bq)&&br)&&bs)=false)
 (T1:Hid (qK 38 #[.agg #[St x1,St y1],.agg #[St x2,St y2],.agg #[St x3,St y3]] (.int .i64 p)))
 (T2:Hid (qK 38 #[.agg #[St x1,St y1],.agg #[St x2,St y2],.agg #[St x4,St y4]] (.int .i64 q)))
 (T3:Hid (qK 38 #[.agg #[St x3,St y3],.agg #[St x4,St y4],.agg #[St x1,St y1]] (.int .i64 r)))
 (T4:Hid (qK 38 #[.agg #[St x3,St y3],.agg #[St x4,St y4],.agg #[St x2,St y2]] (.int .i64 s)))
 (O1:Hid (qK 39 #[.agg #[St x1,St y1],.agg #[St x2,St y2],.agg #[St x3,St y3]] (.bool o1)))
 (O2:Hid (qK 39 #[.agg #[St x1,St y1],.agg #[St x2,St y2],.agg #[St x4,St y4]] (.bool o2)))
 (O3:Hid (qK 39 #[.agg #[St x3,St y3],.agg #[St x4,St y4],.agg #[St x1,St y1]] (.bool o3)))
 (O4:Hid (qK 39 #[.agg #[St x3,St y3],.agg #[St x4,St y4],.agg #[St x2,St y2]] (.bool o4)))
 (w:zA) (HW:Hid (Wd w)):
 qJ 44 #[.agg #[St x1,St y1],.agg #[St x2,St y2],.agg #[St x3,St y3],.agg #[St x4,St y4]] w (.int .i64 (if(((c1&&c2)&&(np||o1))&&(nq||o2))=true then 1 else if((((bp&&o1)||(bq&&o2))||(br&&o3))||(bs&&o4))=true then 1 else 0)):=by
 have HI:=hid (FourS.start w x1 y1 x2 y2 x3 y3 x4 y4)
 obtain⟨k1,hk1⟩:∃b,(bp&&bq)=b:=⟨_,rfl⟩
 obtain⟨k2,hk2⟩:∃b,(k1&&br)=b:=⟨_,rfl⟩
 have hk3:(k2&&bs)=false:=by rw[<-hk2,<-hk1];exact hno
 obtain⟨d1,hd1⟩:∃b,(c1&&c2)=b:=⟨_,rfl⟩
 obtain⟨e1,he1⟩:∃b,(np||o1)=b:=⟨_,rfl⟩
 obtain⟨d2,hd2⟩:∃b,(d1&&e1)=b:=⟨_,rfl⟩
 obtain⟨e2,he2⟩:∃b,(nq||o2)=b:=⟨_,rfl⟩
 obtain⟨d3,hd3⟩:∃b,(d2&&e2)=b:=⟨_,rfl⟩
 obtain⟨f1,hf1⟩:∃b,(bp&&o1)=b:=⟨_,rfl⟩
 obtain⟨f2,hf2⟩:∃b,(bq&&o2)=b:=⟨_,rfl⟩
 obtain⟨g2,hg2⟩:∃b,(f1||f2)=b:=⟨_,rfl⟩
 obtain⟨f3,hf3⟩:∃b,(br&&o3)=b:=⟨_,rfl⟩
 obtain⟨g3,hg3⟩:∃b,(g2||f3)=b:=⟨_,rfl⟩
 obtain⟨f4,hf4⟩:∃b,(bs&&o4)=b:=⟨_,rfl⟩
 obtain⟨g4,hg4⟩:∃b,(g3||f4)=b:=⟨_,rfl⟩
 rw[hd1,he1,hd2,he2,hd3,hf1,hf2,hg2,hf3,hg3,hf4,hg4]
 have Hk1:=hid hk1;clear hk1
 have Hk2:=hid hk2;clear hk2
 have Hk3:=hid hk3;clear hk3
 have Hd1:=hid hd1;clear hd1
 have Hd2:=hid hd2;clear hd2
 have Hd3:=hid hd3;clear hd3
 have He1:=hid he1;clear he1
 have He2:=hid he2;clear he2
 have Hf1:=hid hf1;clear hf1
 have Hf2:=hid hf2;clear hf2
 have Hf3:=hid hf3;clear hf3
 have Hf4:=hid hf4;clear hf4
 have Hg2:=hid hg2;clear hg2
 have Hg3:=hid hg3;clear hg3
 have Hg4:=hid hg4;clear hg4
 clear hno
 go_enter Tryz.func44,Tryz.ntmps44
 go_wp2_with fail
 refine zbl (λ_ W=>FourS w x1 y1 x2 y2 x3 y3 x4 y4 W) (by kernel_rfl) (by kernel_rfl) (HI.out.next (zM _ _).drew) ?_
 refine qR (.agg #[St x1,St y1]) ?_ (hy:=λf W' hf h=>by obtain⟨i1,i2,i3,i4,i5,i6,i7,i8⟩:=h.cells';go_simp)
 simp only[zzQ]
 refine qR (.agg #[St x2,St y2]) ?_ (hy:=λf W' hf h=>by obtain⟨i1,i2,i3,i4,i5,i6,i7,i8⟩:=h.cells';go_simp)
 simp only[zzQ]
 refine qR (.agg #[St x3,St y3]) ?_ (hy:=λf W' hf h=>by obtain⟨i1,i2,i3,i4,i5,i6,i7,i8⟩:=h.cells';go_simp)
 simp only[zzQ]
 refine zar (.int .i64 p) (by rfl) (λf W' hf h C' hC'=>by
  go_simp
  refine(T1.out _ (HW.out.below h.bel)).mono ?_
  rintro e w' ⟨rfl,hb⟩
  exact⟨rfl,hC' _ (h.next hb)⟩) ?_
 try simp only[zzQ]
 refine qR (.agg #[St x1,St y1]) ?_ (hy:=λf W' hf h=>by obtain⟨i1,i2,i3,i4,i5,i6,i7,i8⟩:=h.cells';go_simp)
 simp only[zzQ]
 refine qR (.agg #[St x2,St y2]) ?_ (hy:=λf W' hf h=>by obtain⟨i1,i2,i3,i4,i5,i6,i7,i8⟩:=h.cells';go_simp)
 simp only[zzQ]
 refine qR (.agg #[St x4,St y4]) ?_ (hy:=λf W' hf h=>by obtain⟨i1,i2,i3,i4,i5,i6,i7,i8⟩:=h.cells';go_simp)
 simp only[zzQ]
 refine zar (.int .i64 q) (by rfl) (λf W' hf h C' hC'=>by
  go_simp
  refine(T2.out _ (HW.out.below h.bel)).mono ?_
  rintro e w' ⟨rfl,hb⟩
  exact⟨rfl,hC' _ (h.next hb)⟩) ?_
 try simp only[zzQ]
 refine qR (.agg #[St x3,St y3]) ?_ (hy:=λf W' hf h=>by obtain⟨i1,i2,i3,i4,i5,i6,i7,i8⟩:=h.cells';go_simp)
 simp only[zzQ]
 refine qR (.agg #[St x4,St y4]) ?_ (hy:=λf W' hf h=>by obtain⟨i1,i2,i3,i4,i5,i6,i7,i8⟩:=h.cells';go_simp)
 simp only[zzQ]
 refine qR (.agg #[St x1,St y1]) ?_ (hy:=λf W' hf h=>by obtain⟨i1,i2,i3,i4,i5,i6,i7,i8⟩:=h.cells';go_simp)
 simp only[zzQ]
 refine zar (.int .i64 r) (by rfl) (λf W' hf h C' hC'=>by
  go_simp
  refine(T3.out _ (HW.out.below h.bel)).mono ?_
  rintro e w' ⟨rfl,hb⟩
  exact⟨rfl,hC' _ (h.next hb)⟩) ?_
 try simp only[zzQ]
 refine qR (.agg #[St x3,St y3]) ?_ (hy:=λf W' hf h=>by obtain⟨i1,i2,i3,i4,i5,i6,i7,i8⟩:=h.cells';go_simp)
 simp only[zzQ]
 refine qR (.agg #[St x4,St y4]) ?_ (hy:=λf W' hf h=>by obtain⟨i1,i2,i3,i4,i5,i6,i7,i8⟩:=h.cells';go_simp)
 simp only[zzQ]
 refine qR (.agg #[St x2,St y2]) ?_ (hy:=λf W' hf h=>by obtain⟨i1,i2,i3,i4,i5,i6,i7,i8⟩:=h.cells';go_simp)
 simp only[zzQ]
 refine zar (.int .i64 s) (by rfl) (λf W' hf h C' hC'=>by
  go_simp
  refine(T4.out _ (HW.out.below h.bel)).mono ?_
  rintro e w' ⟨rfl,hb⟩
  exact⟨rfl,hC' _ (h.next hb)⟩) ?_
 try simp only[zzQ]
 refine qR (.int .i64 p) ?_
 simp only[zzQ]
 refine qR (.int .i64 q) ?_
 simp only[zzQ]
 refine qR (.int .i64 r) ?_
 simp only[zzQ]
 refine qR (.int .i64 s) ?_
 simp only[zzQ]
 refine zck λf W1 hf h1=>?_
 have HI1:=hid h1
 clear hf h1 HI
 rename_i K hK
 refine hK _ _ ?_
 refine wp_seq (wp_seq ?_)
 refine zgn (λW=>FourS w x1 y1 x2 y2 x3 y3 x4 y4 W) HI1.out ?_
 refine za4 (.agg #[St x1,St y1]) (by rfl) (λW' h=>by(obtain⟨i1,i2,i3,i4,i5,i6,i7,i8⟩:=h.cells';go_simp)) ?_
 try simp only[zzQ]
 refine za4 (.agg #[St x2,St y2]) (by rfl) (λW' h=>by(obtain⟨i1,i2,i3,i4,i5,i6,i7,i8⟩:=h.cells';go_simp)) ?_
 try simp only[zzQ]
 refine za4 (.agg #[St x3,St y3]) (by rfl) (λW' h=>by(obtain⟨i1,i2,i3,i4,i5,i6,i7,i8⟩:=h.cells';go_simp)) ?_
 try simp only[zzQ]
 refine zx2 (.int .i64 p) (by rfl) (λW' h=>by
  go_simp
  refine(T1.out _ (HW.out.below h.bel)).mono ?_
  rintro e w' ⟨rfl,hb⟩
  exact⟨rfl,h.next hb⟩) ?_
 try simp only[zzQ]
 refine za4 (.bool bp) (by rfl) (λW' h=>by(have h0:=hp.out;go_simp)) ?_
 try simp only[zzQ]
 refine za4 (.bool bp) (by rfl) (λW' h=>by go_simp) ?_
 try simp only[zzQ]
 refine zap (bp) (.agg #[St x1,St y1]) (by cases bp<;>rfl) (λhg W' h=>by
  obtain⟨rfl⟩:bp=true:=by revert hg;cases bp<;>simp
  refine zah ?_ h
  (obtain⟨i1,i2,i3,i4,i5,i6,i7,i8⟩:=h.cells';go_simp)) ?_
 try simp only[zzQ]
 refine zap (bp) (.agg #[St x2,St y2]) (by cases bp<;>rfl) (λhg W' h=>by
  obtain⟨rfl⟩:bp=true:=by revert hg;cases bp<;>simp
  refine zah ?_ h
  (obtain⟨i1,i2,i3,i4,i5,i6,i7,i8⟩:=h.cells';go_simp)) ?_
 try simp only[zzQ]
 refine zap (bp) (.agg #[St x4,St y4]) (by cases bp<;>rfl) (λhg W' h=>by
  obtain⟨rfl⟩:bp=true:=by revert hg;cases bp<;>simp
  refine zah ?_ h
  (obtain⟨i1,i2,i3,i4,i5,i6,i7,i8⟩:=h.cells';go_simp)) ?_
 try simp only[zzQ]
 refine zap (bp) (.int .i64 q) (by cases bp<;>rfl) (λhg W' h=>by
  obtain⟨rfl⟩:bp=true:=by revert hg;cases bp<;>simp
  go_simp
  refine(T2.out _ (HW.out.below h.bel)).mono ?_
  rintro e w' ⟨rfl,hb⟩
  exact⟨rfl,h.next hb⟩) ?_
 try simp only[zzQ]
 refine zap (bp) (.bool bq) (by cases bp<;>rfl) (λhg W' h=>by
  obtain⟨rfl⟩:bp=true:=by revert hg;cases bp<;>simp
  refine zah ?_ h
  (have h0:=hq.out;go_simp)) ?_
 try simp only[zzQ]
 refine za4 (.bool k1) (by rfl) (λW' h=>by cases bp<;>(have h0:=Hk1.out;simp only[Bool.true_and,Bool.false_and] at h0;(try subst h0);go_simp)) ?_
 try simp only[zzQ]
 refine za4 (.bool k1) (by rfl) (λW' h=>by go_simp) ?_
 try simp only[zzQ]
 refine zap (k1) (.agg #[St x3,St y3]) (by cases k1<;>rfl) (λhg W' h=>by
  obtain⟨rfl⟩:k1=true:=by revert hg;cases k1<;>simp
  refine zah ?_ h
  (obtain⟨i1,i2,i3,i4,i5,i6,i7,i8⟩:=h.cells';go_simp)) ?_
 try simp only[zzQ]
 refine zap (k1) (.agg #[St x4,St y4]) (by cases k1<;>rfl) (λhg W' h=>by
  obtain⟨rfl⟩:k1=true:=by revert hg;cases k1<;>simp
  refine zah ?_ h
  (obtain⟨i1,i2,i3,i4,i5,i6,i7,i8⟩:=h.cells';go_simp)) ?_
 try simp only[zzQ]
 refine zap (k1) (.agg #[St x1,St y1]) (by cases k1<;>rfl) (λhg W' h=>by
  obtain⟨rfl⟩:k1=true:=by revert hg;cases k1<;>simp
  refine zah ?_ h
  (obtain⟨i1,i2,i3,i4,i5,i6,i7,i8⟩:=h.cells';go_simp)) ?_
 try simp only[zzQ]
 refine zap (k1) (.int .i64 r) (by cases k1<;>rfl) (λhg W' h=>by
  obtain⟨rfl⟩:k1=true:=by revert hg;cases k1<;>simp
  go_simp
  refine(T3.out _ (HW.out.below h.bel)).mono ?_
  rintro e w' ⟨rfl,hb⟩
  exact⟨rfl,h.next hb⟩) ?_
 try simp only[zzQ]
 refine zap (k1) (.bool br) (by cases k1<;>rfl) (λhg W' h=>by
  obtain⟨rfl⟩:k1=true:=by revert hg;cases k1<;>simp
  refine zah ?_ h
  (have h0:=hr.out;go_simp)) ?_
 try simp only[zzQ]
 refine za4 (.bool k2) (by rfl) (λW' h=>by cases k1<;>(have h0:=Hk2.out;simp only[Bool.true_and,Bool.false_and] at h0;(try subst h0);go_simp)) ?_
 try simp only[zzQ]
 refine za4 (.bool k2) (by rfl) (λW' h=>by go_simp) ?_
 try simp only[zzQ]
 refine zap (k2) (.agg #[St x3,St y3]) (by cases k2<;>rfl) (λhg W' h=>by
  obtain⟨rfl⟩:k2=true:=by revert hg;cases k2<;>simp
  refine zah ?_ h
  (obtain⟨i1,i2,i3,i4,i5,i6,i7,i8⟩:=h.cells';go_simp)) ?_
 try simp only[zzQ]
 refine zap (k2) (.agg #[St x4,St y4]) (by cases k2<;>rfl) (λhg W' h=>by
  obtain⟨rfl⟩:k2=true:=by revert hg;cases k2<;>simp
  refine zah ?_ h
  (obtain⟨i1,i2,i3,i4,i5,i6,i7,i8⟩:=h.cells';go_simp)) ?_
 try simp only[zzQ]
 refine zap (k2) (.agg #[St x2,St y2]) (by cases k2<;>rfl) (λhg W' h=>by
  obtain⟨rfl⟩:k2=true:=by revert hg;cases k2<;>simp
  refine zah ?_ h
  (obtain⟨i1,i2,i3,i4,i5,i6,i7,i8⟩:=h.cells';go_simp)) ?_
 try simp only[zzQ]
 refine zap (k2) (.int .i64 s) (by cases k2<;>rfl) (λhg W' h=>by
  obtain⟨rfl⟩:k2=true:=by revert hg;cases k2<;>simp
  go_simp
  refine(T4.out _ (HW.out.below h.bel)).mono ?_
  rintro e w' ⟨rfl,hb⟩
  exact⟨rfl,h.next hb⟩) ?_
 try simp only[zzQ]
 refine zap (k2) (.bool bs) (by cases k2<;>rfl) (λhg W' h=>by
  obtain⟨rfl⟩:k2=true:=by revert hg;cases k2<;>simp
  refine zah ?_ h
  (have h0:=hs.out;go_simp)) ?_
 try simp only[zzQ]
 refine za4 (.bool false) (by rfl) (λW' h=>by cases k2<;>(have h0:=Hk3.out;simp only[Bool.true_and,Bool.false_and] at h0;(try subst h0);go_simp)) ?_
 try simp only[zzQ]
 intro W2 h2
 have HI2:=hid h2
 clear h2 HI1
 change (Code.cond _ _ _).wp _ _ _ _
 refine wp_cond (t:=false) (by rfl) ?_
 refine wp_skip ?_
 change Code.wp _ _ _ _ _
 refine wp_seq (wp_seq ?_)
 refine zgn (λW=>FourS w x1 y1 x2 y2 x3 y3 x4 y4 W) HI2.out ?_
 refine za4 (.int .i64 p) (by rfl) (λW' h=>by go_simp) ?_
 try simp only[zzQ]
 refine za4 (.int .i64 q) (by rfl) (λW' h=>by go_simp) ?_
 try simp only[zzQ]
 refine za4 (.int .i64 m) (by rfl) (λW' h=>by(have h0:=hm.out;go_simp)) ?_
 try simp only[zzQ]
 refine za4 (.bool c1) (by rfl) (λW' h=>by(have h0:=hc1.out;go_simp)) ?_
 try simp only[zzQ]
 refine za4 (.bool c1) (by rfl) (λW' h=>by go_simp) ?_
 try simp only[zzQ]
 refine zap (c1) (.int .i64 r) (by cases c1<;>rfl) (λhg W' h=>by
  obtain⟨rfl⟩:c1=true:=by revert hg;cases c1<;>simp
  refine zah ?_ h
  (go_simp)) ?_
 try simp only[zzQ]
 refine zap (c1) (.int .i64 s) (by cases c1<;>rfl) (λhg W' h=>by
  obtain⟨rfl⟩:c1=true:=by revert hg;cases c1<;>simp
  refine zah ?_ h
  (go_simp)) ?_
 try simp only[zzQ]
 refine zap (c1) (.int .i64 n) (by cases c1<;>rfl) (λhg W' h=>by
  obtain⟨rfl⟩:c1=true:=by revert hg;cases c1<;>simp
  refine zah ?_ h
  (have h0:=hn.out;go_simp)) ?_
 try simp only[zzQ]
 refine zap (c1) (.bool c2) (by cases c1<;>rfl) (λhg W' h=>by
  obtain⟨rfl⟩:c1=true:=by revert hg;cases c1<;>simp
  refine zah ?_ h
  (have h0:=hc2.out;go_simp)) ?_
 try simp only[zzQ]
 refine za4 (.bool d1) (by rfl) (λW' h=>by cases c1<;>(have h0:=Hd1.out;simp only[Bool.true_and,Bool.false_and] at h0;(try subst h0);go_simp)) ?_
 try simp only[zzQ]
 refine za4 (.bool d1) (by rfl) (λW' h=>by go_simp) ?_
 try simp only[zzQ]
 refine zap (d1) (.int .i64 p) (by cases d1<;>rfl) (λhg W' h=>by
  obtain⟨rfl⟩:d1=true:=by revert hg;cases d1<;>simp
  refine zah ?_ h
  (go_simp)) ?_
 try simp only[zzQ]
 refine zap (d1) (.bool np) (by cases d1<;>rfl) (λhg W' h=>by
  obtain⟨rfl⟩:d1=true:=by revert hg;cases d1<;>simp
  refine zah ?_ h
  (have h0:=hnp.out;go_simp)) ?_
 try simp only[zzQ]
 refine zap (d1) (.bool np) (by cases d1<;>rfl) (λhg W' h=>by
  obtain⟨rfl⟩:d1=true:=by revert hg;cases d1<;>simp
  refine zah ?_ h
  (go_simp)) ?_
 try simp only[zzQ]
 refine zap (d1&&!np) (.agg #[St x1,St y1]) (by cases d1<;>cases np<;>rfl) (λhg W' h=>by
  obtain⟨rfl,rfl⟩:d1=true/\np=false:=by revert hg;cases d1<;>cases np<;>simp
  refine zah ?_ h
  (obtain⟨i1,i2,i3,i4,i5,i6,i7,i8⟩:=h.cells';go_simp)) ?_
 try simp only[zzQ]
 refine zap (d1&&!np) (.agg #[St x2,St y2]) (by cases d1<;>cases np<;>rfl) (λhg W' h=>by
  obtain⟨rfl,rfl⟩:d1=true/\np=false:=by revert hg;cases d1<;>cases np<;>simp
  refine zah ?_ h
  (obtain⟨i1,i2,i3,i4,i5,i6,i7,i8⟩:=h.cells';go_simp)) ?_
 try simp only[zzQ]
 refine zap (d1&&!np) (.agg #[St x3,St y3]) (by cases d1<;>cases np<;>rfl) (λhg W' h=>by
  obtain⟨rfl,rfl⟩:d1=true/\np=false:=by revert hg;cases d1<;>cases np<;>simp
  refine zah ?_ h
  (obtain⟨i1,i2,i3,i4,i5,i6,i7,i8⟩:=h.cells';go_simp)) ?_
 try simp only[zzQ]
 refine zap (d1&&!np) (.bool o1) (by cases d1<;>cases np<;>rfl) (λhg W' h=>by
  obtain⟨rfl,rfl⟩:d1=true/\np=false:=by revert hg;cases d1<;>cases np<;>simp
  go_simp
  refine(O1.out _ (HW.out.below h.bel)).mono ?_
  rintro e w' ⟨rfl,hb⟩
  exact⟨rfl,h.next hb⟩) ?_
 try simp only[zzQ]
 refine zap (d1) (.bool e1) (by cases d1<;>rfl) (λhg W' h=>by
  obtain⟨rfl⟩:d1=true:=by revert hg;cases d1<;>simp
  refine zah ?_ h
  cases np<;>(have h0:=He1.out;simp only[Bool.true_or,Bool.false_or] at h0;(try subst h0);go_simp)) ?_
 try simp only[zzQ]
 refine za4 (.bool d2) (by rfl) (λW' h=>by cases d1<;>(have h0:=Hd2.out;simp only[Bool.true_and,Bool.false_and] at h0;(try subst h0);go_simp)) ?_
 try simp only[zzQ]
 refine za4 (.bool d2) (by rfl) (λW' h=>by go_simp) ?_
 try simp only[zzQ]
 refine zap (d2) (.int .i64 q) (by cases d2<;>rfl) (λhg W' h=>by
  obtain⟨rfl⟩:d2=true:=by revert hg;cases d2<;>simp
  refine zah ?_ h
  (go_simp)) ?_
 try simp only[zzQ]
 refine zap (d2) (.bool nq) (by cases d2<;>rfl) (λhg W' h=>by
  obtain⟨rfl⟩:d2=true:=by revert hg;cases d2<;>simp
  refine zah ?_ h
  (have h0:=hnq.out;go_simp)) ?_
 try simp only[zzQ]
 refine zap (d2) (.bool nq) (by cases d2<;>rfl) (λhg W' h=>by
  obtain⟨rfl⟩:d2=true:=by revert hg;cases d2<;>simp
  refine zah ?_ h
  (go_simp)) ?_
 try simp only[zzQ]
 refine zap (d2&&!nq) (.agg #[St x1,St y1]) (by cases d2<;>cases nq<;>rfl) (λhg W' h=>by
  obtain⟨rfl,rfl⟩:d2=true/\nq=false:=by revert hg;cases d2<;>cases nq<;>simp
  refine zah ?_ h
  (obtain⟨i1,i2,i3,i4,i5,i6,i7,i8⟩:=h.cells';go_simp)) ?_
 try simp only[zzQ]
 refine zap (d2&&!nq) (.agg #[St x2,St y2]) (by cases d2<;>cases nq<;>rfl) (λhg W' h=>by
  obtain⟨rfl,rfl⟩:d2=true/\nq=false:=by revert hg;cases d2<;>cases nq<;>simp
  refine zah ?_ h
  (obtain⟨i1,i2,i3,i4,i5,i6,i7,i8⟩:=h.cells';go_simp)) ?_
 try simp only[zzQ]
 refine zap (d2&&!nq) (.agg #[St x4,St y4]) (by cases d2<;>cases nq<;>rfl) (λhg W' h=>by
  obtain⟨rfl,rfl⟩:d2=true/\nq=false:=by revert hg;cases d2<;>cases nq<;>simp
  refine zah ?_ h
  (obtain⟨i1,i2,i3,i4,i5,i6,i7,i8⟩:=h.cells';go_simp)) ?_
 try simp only[zzQ]
 refine zap (d2&&!nq) (.bool o2) (by cases d2<;>cases nq<;>rfl) (λhg W' h=>by
  obtain⟨rfl,rfl⟩:d2=true/\nq=false:=by revert hg;cases d2<;>cases nq<;>simp
  go_simp
  refine(O2.out _ (HW.out.below h.bel)).mono ?_
  rintro e w' ⟨rfl,hb⟩
  exact⟨rfl,h.next hb⟩) ?_
 try simp only[zzQ]
 refine zap (d2) (.bool e2) (by cases d2<;>rfl) (λhg W' h=>by
  obtain⟨rfl⟩:d2=true:=by revert hg;cases d2<;>simp
  refine zah ?_ h
  cases nq<;>(have h0:=He2.out;simp only[Bool.true_or,Bool.false_or] at h0;(try subst h0);go_simp)) ?_
 try simp only[zzQ]
 refine za4 (.bool d3) (by rfl) (λW' h=>by cases d2<;>(have h0:=Hd3.out;simp only[Bool.true_and,Bool.false_and] at h0;(try subst h0);go_simp)) ?_
 try simp only[zzQ]
 intro W3 h3
 have HI3:=hid h3
 clear h3 HI2
 change (Code.cond _ _ _).wp _ _ _ _
 refine wp_cond (t:=d3) (by rfl) ?_
 cases d3
 case true=>
  go_wp2_with fail
  go_ret
  exact⟨rfl,HI3.out.bel⟩
 case false=>
 refine wp_skip ?_
 change Code.wp _ _ _ _ _
 refine wp_seq (wp_seq ?_)
 refine zgn (λW=>FourS w x1 y1 x2 y2 x3 y3 x4 y4 W) HI3.out ?_
 refine za4 (.int .i64 p) (by rfl) (λW' h=>by go_simp) ?_
 try simp only[zzQ]
 refine za4 (.bool bp) (by rfl) (λW' h=>by(have h0:=hp.out;go_simp)) ?_
 try simp only[zzQ]
 refine za4 (.bool bp) (by rfl) (λW' h=>by go_simp) ?_
 try simp only[zzQ]
 refine zap (bp) (.agg #[St x1,St y1]) (by cases bp<;>rfl) (λhg W' h=>by
  obtain⟨rfl⟩:bp=true:=by revert hg;cases bp<;>simp
  refine zah ?_ h
  (obtain⟨i1,i2,i3,i4,i5,i6,i7,i8⟩:=h.cells';go_simp)) ?_
 try simp only[zzQ]
 refine zap (bp) (.agg #[St x2,St y2]) (by cases bp<;>rfl) (λhg W' h=>by
  obtain⟨rfl⟩:bp=true:=by revert hg;cases bp<;>simp
  refine zah ?_ h
  (obtain⟨i1,i2,i3,i4,i5,i6,i7,i8⟩:=h.cells';go_simp)) ?_
 try simp only[zzQ]
 refine zap (bp) (.agg #[St x3,St y3]) (by cases bp<;>rfl) (λhg W' h=>by
  obtain⟨rfl⟩:bp=true:=by revert hg;cases bp<;>simp
  refine zah ?_ h
  (obtain⟨i1,i2,i3,i4,i5,i6,i7,i8⟩:=h.cells';go_simp)) ?_
 try simp only[zzQ]
 refine zap (bp) (.bool o1) (by cases bp<;>rfl) (λhg W' h=>by
  obtain⟨rfl⟩:bp=true:=by revert hg;cases bp<;>simp
  go_simp
  refine(O1.out _ (HW.out.below h.bel)).mono ?_
  rintro e w' ⟨rfl,hb⟩
  exact⟨rfl,h.next hb⟩) ?_
 try simp only[zzQ]
 refine za4 (.bool f1) (by rfl) (λW' h=>by cases bp<;>(have h0:=Hf1.out;simp only[Bool.true_and,Bool.false_and] at h0;(try subst h0);go_simp)) ?_
 try simp only[zzQ]
 refine za4 (.bool f1) (by rfl) (λW' h=>by go_simp) ?_
 try simp only[zzQ]
 refine zap (!f1) (.int .i64 q) (by cases f1<;>rfl) (λhg W' h=>by
  obtain⟨rfl⟩:f1=false:=by revert hg;cases f1<;>simp
  refine zah ?_ h
  (go_simp)) ?_
 try simp only[zzQ]
 refine zap (!f1) (.bool bq) (by cases f1<;>rfl) (λhg W' h=>by
  obtain⟨rfl⟩:f1=false:=by revert hg;cases f1<;>simp
  refine zah ?_ h
  (have h0:=hq.out;go_simp)) ?_
 try simp only[zzQ]
 refine zap (!f1) (.bool bq) (by cases f1<;>rfl) (λhg W' h=>by
  obtain⟨rfl⟩:f1=false:=by revert hg;cases f1<;>simp
  refine zah ?_ h
  (go_simp)) ?_
 try simp only[zzQ]
 refine zap (!f1&&bq) (.agg #[St x1,St y1]) (by cases f1<;>cases bq<;>rfl) (λhg W' h=>by
  obtain⟨rfl,rfl⟩:f1=false/\bq=true:=by revert hg;cases f1<;>cases bq<;>simp
  refine zah ?_ h
  (obtain⟨i1,i2,i3,i4,i5,i6,i7,i8⟩:=h.cells';go_simp)) ?_
 try simp only[zzQ]
 refine zap (!f1&&bq) (.agg #[St x2,St y2]) (by cases f1<;>cases bq<;>rfl) (λhg W' h=>by
  obtain⟨rfl,rfl⟩:f1=false/\bq=true:=by revert hg;cases f1<;>cases bq<;>simp
  refine zah ?_ h
  (obtain⟨i1,i2,i3,i4,i5,i6,i7,i8⟩:=h.cells';go_simp)) ?_
 try simp only[zzQ]
 refine zap (!f1&&bq) (.agg #[St x4,St y4]) (by cases f1<;>cases bq<;>rfl) (λhg W' h=>by
  obtain⟨rfl,rfl⟩:f1=false/\bq=true:=by revert hg;cases f1<;>cases bq<;>simp
  refine zah ?_ h
  (obtain⟨i1,i2,i3,i4,i5,i6,i7,i8⟩:=h.cells';go_simp)) ?_
 try simp only[zzQ]
 refine zap (!f1&&bq) (.bool o2) (by cases f1<;>cases bq<;>rfl) (λhg W' h=>by
  obtain⟨rfl,rfl⟩:f1=false/\bq=true:=by revert hg;cases f1<;>cases bq<;>simp
  go_simp
  refine(O2.out _ (HW.out.below h.bel)).mono ?_
  rintro e w' ⟨rfl,hb⟩
  exact⟨rfl,h.next hb⟩) ?_
 try simp only[zzQ]
 refine zap (!f1) (.bool f2) (by cases f1<;>rfl) (λhg W' h=>by
  obtain⟨rfl⟩:f1=false:=by revert hg;cases f1<;>simp
  refine zah ?_ h
  cases bq<;>(have h0:=Hf2.out;simp only[Bool.true_and,Bool.false_and] at h0;(try subst h0);go_simp)) ?_
 try simp only[zzQ]
 refine za4 (.bool g2) (by rfl) (λW' h=>by cases f1<;>(have h0:=Hg2.out;simp only[Bool.true_or,Bool.false_or] at h0;(try subst h0);go_simp)) ?_
 try simp only[zzQ]
 refine za4 (.bool g2) (by rfl) (λW' h=>by go_simp) ?_
 try simp only[zzQ]
 refine zap (!g2) (.int .i64 r) (by cases g2<;>rfl) (λhg W' h=>by
  obtain⟨rfl⟩:g2=false:=by revert hg;cases g2<;>simp
  refine zah ?_ h
  (go_simp)) ?_
 try simp only[zzQ]
 refine zap (!g2) (.bool br) (by cases g2<;>rfl) (λhg W' h=>by
  obtain⟨rfl⟩:g2=false:=by revert hg;cases g2<;>simp
  refine zah ?_ h
  (have h0:=hr.out;go_simp)) ?_
 try simp only[zzQ]
 refine zap (!g2) (.bool br) (by cases g2<;>rfl) (λhg W' h=>by
  obtain⟨rfl⟩:g2=false:=by revert hg;cases g2<;>simp
  refine zah ?_ h
  (go_simp)) ?_
 try simp only[zzQ]
 refine zap (!g2&&br) (.agg #[St x3,St y3]) (by cases g2<;>cases br<;>rfl) (λhg W' h=>by
  obtain⟨rfl,rfl⟩:g2=false/\br=true:=by revert hg;cases g2<;>cases br<;>simp
  refine zah ?_ h
  (obtain⟨i1,i2,i3,i4,i5,i6,i7,i8⟩:=h.cells';go_simp)) ?_
 try simp only[zzQ]
 refine zap (!g2&&br) (.agg #[St x4,St y4]) (by cases g2<;>cases br<;>rfl) (λhg W' h=>by
  obtain⟨rfl,rfl⟩:g2=false/\br=true:=by revert hg;cases g2<;>cases br<;>simp
  refine zah ?_ h
  (obtain⟨i1,i2,i3,i4,i5,i6,i7,i8⟩:=h.cells';go_simp)) ?_
 try simp only[zzQ]
 refine zap (!g2&&br) (.agg #[St x1,St y1]) (by cases g2<;>cases br<;>rfl) (λhg W' h=>by
  obtain⟨rfl,rfl⟩:g2=false/\br=true:=by revert hg;cases g2<;>cases br<;>simp
  refine zah ?_ h
  (obtain⟨i1,i2,i3,i4,i5,i6,i7,i8⟩:=h.cells';go_simp)) ?_
 try simp only[zzQ]
 refine zap (!g2&&br) (.bool o3) (by cases g2<;>cases br<;>rfl) (λhg W' h=>by
  obtain⟨rfl,rfl⟩:g2=false/\br=true:=by revert hg;cases g2<;>cases br<;>simp
  go_simp
  refine(O3.out _ (HW.out.below h.bel)).mono ?_
  rintro e w' ⟨rfl,hb⟩
  exact⟨rfl,h.next hb⟩) ?_
 try simp only[zzQ]
 refine zap (!g2) (.bool f3) (by cases g2<;>rfl) (λhg W' h=>by
  obtain⟨rfl⟩:g2=false:=by revert hg;cases g2<;>simp
  refine zah ?_ h
  cases br<;>(have h0:=Hf3.out;simp only[Bool.true_and,Bool.false_and] at h0;(try subst h0);go_simp)) ?_
 try simp only[zzQ]
 refine za4 (.bool g3) (by rfl) (λW' h=>by cases g2<;>(have h0:=Hg3.out;simp only[Bool.true_or,Bool.false_or] at h0;(try subst h0);go_simp)) ?_
 try simp only[zzQ]
 refine za4 (.bool g3) (by rfl) (λW' h=>by go_simp) ?_
 try simp only[zzQ]
 refine zap (!g3) (.int .i64 s) (by cases g3<;>rfl) (λhg W' h=>by
  obtain⟨rfl⟩:g3=false:=by revert hg;cases g3<;>simp
  refine zah ?_ h
  (go_simp)) ?_
 try simp only[zzQ]
 refine zap (!g3) (.bool bs) (by cases g3<;>rfl) (λhg W' h=>by
  obtain⟨rfl⟩:g3=false:=by revert hg;cases g3<;>simp
  refine zah ?_ h
  (have h0:=hs.out;go_simp)) ?_
 try simp only[zzQ]
 refine zap (!g3) (.bool bs) (by cases g3<;>rfl) (λhg W' h=>by
  obtain⟨rfl⟩:g3=false:=by revert hg;cases g3<;>simp
  refine zah ?_ h
  (go_simp)) ?_
 try simp only[zzQ]
 refine zap (!g3&&bs) (.agg #[St x3,St y3]) (by cases g3<;>cases bs<;>rfl) (λhg W' h=>by
  obtain⟨rfl,rfl⟩:g3=false/\bs=true:=by revert hg;cases g3<;>cases bs<;>simp
  refine zah ?_ h
  (obtain⟨i1,i2,i3,i4,i5,i6,i7,i8⟩:=h.cells';go_simp)) ?_
 try simp only[zzQ]
 refine zap (!g3&&bs) (.agg #[St x4,St y4]) (by cases g3<;>cases bs<;>rfl) (λhg W' h=>by
  obtain⟨rfl,rfl⟩:g3=false/\bs=true:=by revert hg;cases g3<;>cases bs<;>simp
  refine zah ?_ h
  (obtain⟨i1,i2,i3,i4,i5,i6,i7,i8⟩:=h.cells';go_simp)) ?_
 try simp only[zzQ]
 refine zap (!g3&&bs) (.agg #[St x2,St y2]) (by cases g3<;>cases bs<;>rfl) (λhg W' h=>by
  obtain⟨rfl,rfl⟩:g3=false/\bs=true:=by revert hg;cases g3<;>cases bs<;>simp
  refine zah ?_ h
  (obtain⟨i1,i2,i3,i4,i5,i6,i7,i8⟩:=h.cells';go_simp)) ?_
 try simp only[zzQ]
 refine zap (!g3&&bs) (.bool o4) (by cases g3<;>cases bs<;>rfl) (λhg W' h=>by
  obtain⟨rfl,rfl⟩:g3=false/\bs=true:=by revert hg;cases g3<;>cases bs<;>simp
  go_simp
  refine(O4.out _ (HW.out.below h.bel)).mono ?_
  rintro e w' ⟨rfl,hb⟩
  exact⟨rfl,h.next hb⟩) ?_
 try simp only[zzQ]
 refine zap (!g3) (.bool f4) (by cases g3<;>rfl) (λhg W' h=>by
  obtain⟨rfl⟩:g3=false:=by revert hg;cases g3<;>simp
  refine zah ?_ h
  cases bs<;>(have h0:=Hf4.out;simp only[Bool.true_and,Bool.false_and] at h0;(try subst h0);go_simp)) ?_
 try simp only[zzQ]
 refine za4 (.bool g4) (by rfl) (λW' h=>by cases g3<;>(have h0:=Hg4.out;simp only[Bool.true_or,Bool.false_or] at h0;(try subst h0);go_simp)) ?_
 try simp only[zzQ]
 intro W4 h4
 have HI4:=hid h4
 clear h4 HI3
 change (Code.cond _ _ _).wp _ _ _ _
 refine wp_cond (t:=g4) (by rfl) ?_
 cases g4<;>(
  go_wp2_with fail
  go_ret
  exact⟨rfl,HI4.out.bel⟩)
end Go.Proofs.YthfpmfdiamldoaaGreatDoor
