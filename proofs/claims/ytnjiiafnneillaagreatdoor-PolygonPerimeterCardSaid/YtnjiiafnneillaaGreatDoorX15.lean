/- kingpostref02.ints, products, Check, check at canonical numerals of any length. -/
import Derived.Test.YtnjiiafnneillaaGreatDoorX14
import Derived.Lib.SmallJoins
set_option maxRecDepth 100000
set_option maxHeartbeats 8000000
open Go renaming World → zA, Calls → zC
open Go.Lib renaming decDigits → zD, itoa → zE
open Go.Proofs.Tryz renaming prog → zF
open Go.World renaming alloc_heap_new → zG, size_alloc → zH
open Go.IntWalk renaming i64_in → zI
open Go.Joins renaming cell_of_block → zJ, block_setCell → zK
open Go.RowKit.Below renaming refl → zM, heap_setCell → yE
open Nat renaming le_refl → zN, le_trans → zO, zero_le → zR, lt_of_lt_of_le → zS, pos_of_ne_zero → yS
open List renaming mem_cons_self → yD
open Int renaming natAbs_mul → yK
namespace Go.Proofs.YtnjiiafnneillaaGreatDoor
section
open Go.RowKit Go.Shelf Lib Str Limb
attribute [local go_sem] Oper.semAt_some
def zm0 (q:Rat):Prop:=digs q.num<=9/\(zD q.den).length<=9
theorem z5o (q:Rat):(denS q).length<=9↔(zD q.den).length<=9:=by
 unfold denS;split
 ·rename_i h
  rw[h];have:(zD 1).length=1:=by decide+kernel
  simp[this]
 ·exact Iff.rfl
theorem yad (q:Rat) (h:okN q) (hn:¬zm0 q) (w:zA):
 qJ 166 #[St (numS q)] w (.tuple #[.int .i64 0,.int .i64 0,.bool false]):=by
 have hc:=z1x q h w;have hl1:(zD q.num.natAbs).length<=300:=h.1;have hl2:(denS q).length<=300:=by unfold denS;split;exact zR _;exact h.2
 have hor:9<(zD q.num.natAbs).length\/((zD q.num.natAbs).length<=9/\9<(denS q).length):=by
  have:=z5o q;by_cases h1:(zD q.num.natAbs).length<=9
  ·right
   refine⟨h1,?_⟩;rcases Nat.lt_or_ge 9 (denS q).length with h2|h2
   ·exact h2
   ·exact absurd ⟨h1,this.1 h2⟩ hn
  ·left;omega
 have HC:=hid hc;clear hc h hn;generalize zD q.num.natAbs=a at*
 generalize denS q=ds at*
 generalize numS q=s at*
 generalize decide (q.num<0)=mb at*
 generalize decide (q.den≠1)=db at*
 go_enter Tryz.func166,Tryz.ntmps166;go_wp21;refine zzM HC.out λw1 hb=>?_;rcases hor with h1|⟨h1,h2⟩
 ·have g1:(9:Int)<a.length:=by omega
  go_wp21;go_ret3;exact⟨rfl,hb⟩
 ·have g1:¬(9:Int)<a.length:=by omega
  have g2:(9:Int)<ds.length:=by omega
  go_wp21;go_ret3;exact⟨rfl,hb⟩
theorem zrh (q:Rat) (h:okN q) (hn:zm0 q) (w:zA):
 qJ 166 #[St (numS q)] w (.tuple #[.int .i64 q.num,.int .i64 (q.den:Int),.bool true]):=by
 have hc:=z1x q h w;have hl1:(zD q.num.natAbs).length<=9:=hn.1;have hl2:(denS q).length<=9:=(z5o q).2 hn.2;have s1:=λW=>zrk (zD q.num.natAbs) (zan _) (by omega) W;have s2:=λW=>zrk (zD q.den) (zan _) (by have:=hn.2;omega) W;rw[zb2] at s1 s2;have b1:q.num.natAbs<1000000000:=(zaf _ 9 (by omega)).1 hn.1;have hd2:q.den≠1->denS q=zD q.den:=λe=>by unfold denS;rw[if_neg e]
 have HC:=hid hc;have S1:=hid s1;have S2:=hid s2;have HD2:=hid hd2;obtain⟨a,ha⟩:=zzX q.num.natAbs;rw[<-ha] at HC S1 hl1 b1;have g1:¬(9:Int)<(zD a).length:=by omega
 have g2:¬(9:Int)<(denS q).length:=by omega
 clear hc h hn s1 s2 hd2;generalize zD a=da at*
 generalize numS q=s at*
 by_cases hm:q.num<0<;>by_cases h1:q.den=1
 ·rw[decide_eq_true hm,decide_eq_false (by simpa using h1)] at HC
  have hw:IntKind.i64.wrap (-(a:Int))=q.num:=by rw[show-(a:Int)=q.num by omega];exact zI _ (by omega)
  rw[h1];clear hm ha HD2 b1;generalize q.num=nn at*
  generalize denS q=ds at*
  generalize q.den=den at*
  generalize zD den=dd at*
  go_enter Tryz.func166,Tryz.ntmps166;go_wp21;refine zzM HC.out λw1 hb=>?_;go_wp21;refine zzM (S1.out w1) λw2 hw2=>?_;have hw2':=hw2.symm;subst hw2';go_wp21;go_ret3;exact⟨rfl,hb⟩
 ·rw[decide_eq_true hm,decide_eq_true (by simpa using h1)] at HC
  have hw:IntKind.i64.wrap (-(a:Int))=q.num:=by rw[show-(a:Int)=q.num by omega];exact zI _ (by omega)
  rw[HD2.out h1] at HC g2 hl2;clear hm ha HD2 b1;generalize q.num=nn at*
  generalize denS q=ds at*
  generalize q.den=den at*
  generalize zD den=dd at*
  go_enter Tryz.func166,Tryz.ntmps166;go_wp21;refine zzM HC.out λw1 hb=>?_;go_wp21;refine zzM (S1.out w1) λw2 hw2=>?_;have hw2':=hw2.symm;subst hw2';go_wp21;refine zzM (S2.out w1) λw3 hw3=>?_;have hw3':=hw3.symm;subst hw3';go_wp21;go_ret3;exact⟨rfl,hb⟩
 ·rw[decide_eq_false hm,decide_eq_false (by simpa using h1)] at HC
  have hw:(q.num:Int)=(a:Int):=by omega
  rw[hw];rw[h1];clear hm ha HD2 b1 hw;generalize q.num=nn at*
  generalize denS q=ds at*
  generalize q.den=den at*
  generalize zD den=dd at*
  go_enter Tryz.func166,Tryz.ntmps166;go_wp21;refine zzM HC.out λw1 hb=>?_;go_wp21;refine zzM (S1.out w1) λw2 hw2=>?_;have hw2':=hw2.symm;subst hw2';go_wp21;go_ret3;exact⟨rfl,hb⟩
 ·rw[decide_eq_false hm,decide_eq_true (by simpa using h1)] at HC
  have hw:(q.num:Int)=(a:Int):=by omega
  rw[hw];rw[HD2.out h1] at HC g2 hl2;clear hm ha HD2 b1 hw;generalize q.num=nn at*
  generalize denS q=ds at*
  generalize q.den=den at*
  generalize zD den=dd at*
  go_enter Tryz.func166,Tryz.ntmps166;go_wp21;refine zzM HC.out λw1 hb=>?_;go_wp21;refine zzM (S1.out w1) λw2 hw2=>?_;have hw2':=hw2.symm;subst hw2';go_wp21;refine zzM (S2.out w1) λw3 hw3=>?_;have hw3':=hw3.symm;subst hw3';go_wp21;go_ret3;exact⟨rfl,hb⟩
theorem z15 (a b c d:Int) (ha:digs a<=300) (hb:digs b<=300) (hc:digs c<=300) (hd:digs d<=300) (hab:digs (a*b)<=300) (hcd:digs (c*d)<=300) (w:zA) (hw:Wd w):
 qJ 168 #[St (zE a),St (zE b),St (zE c),St (zE d)] w (.tuple #[St (zE (a*b)),St (zE (c*d)),.int .i64 0]):=by
 have c1:=λW hW=>z26 a b ha hb hab W hW;have c2:=λW hW=>z26 c d hc hd hcd W hW;have HW:=hid hw;have C1:=hid c1;have C2:=hid c2;clear c1 c2 hw ha hb hc hd hab hcd;generalize zE (a*b)=x at*
 generalize zE (c*d)=y at*
 generalize zE a=sa at*
 generalize zE b=sb at*
 generalize zE c=sc at*
 generalize zE d=sd at*
 go_enter Tryz.func168,Tryz.ntmps168;go_wp21;refine zzM (C1.out w HW.out) λw1 hb1=>?_;have HB1:=hid hb1;clear hb1;go_wp21;refine zzM (C2.out w1 (HW.out.below HB1.out)) λw2 hb2=>?_;have HB2:=qT HB1 hb2;clear hb2;go_wp21;go_ret3;exact⟨rfl,HB2.out⟩
theorem yae (n k:Nat) (h:n≠k) (l:List UInt8) (hl:zD k=l):(zD n==l)=false/\¬zD n=l:=by
 have:¬zD n=l:=λe=>h (by rw[<-hl] at e;have:=congrArg val e;rwa [zb2,zb2] at this);exact⟨by rw[beq_eq_false_iff_ne];exact this,this⟩
theorem zgv (q:Rat) (h:okN q) (w:zA) (hw:Wd w):
 qJ 86 #[St (numS q)] w (.int .i64 0):=by
 refine(zt5 (numS q) (z8i h) w hw).mono ?_;rintro e w' ⟨r,rfl,hr,hb⟩;rw[hr.2 ⟨q,rfl,h⟩];exact⟨rfl,hb⟩
theorem zrs (q r:Rat) (hq:okN q) (hr:okN r) (w:zA) (hw:Wd w):
 qJ 165 #[St (numS q),St (numS r)] w (.int .i64 0):=by
 have c1:=λW hW=>zgv q hq W hW;have c2:=λW hW=>zgv r hr W hW;generalize numS q=x at*
 generalize numS r=y at*
 have C1:=hid c1;have C2:=hid c2;have HW:=hid hw;clear c1 c2 hq hr hw;go_enter Tryz.func165,Tryz.ntmps165;go_wp21;refine zzM (C1.out w HW.out) λw1 hb1=>?_;have HB1:=hid hb1;clear hb1;go_wp21;refine zzM (C2.out w1 (HW.out.below HB1.out)) λw2 hb2=>?_;have HB2:=qT HB1 hb2;clear hb2;go_wp21;go_ret;exact⟨rfl,HB2.out⟩
theorem zp5 (q:Rat) (h:okN q) (w:zA) (hw:Wd w):
 qJ 204 #[St (numS q)] w (.tuple #[St (zE q.num),St (zD q.den),.int .i64 0]):=by
 have c1:=zgv q h w hw;have c2:=λW=>zre q h W;generalize numS q=x at*
 generalize zE q.num=n at*
 generalize zD q.den=d at*
 have C1:=hid c1;have C2:=hid c2;clear c1 c2 h hw;go_enter Tryz.func204,Tryz.ntmps204;go_wp21;refine zzM C1.out λw1 hb1=>?_;have HB1:=hid hb1;clear hb1;go_wp21;refine zzM (C2.out w1) λw2 hb2=>?_;have HB2:=qT HB1 hb2;clear hb2;go_wp21;go_ret3;exact⟨rfl,HB2.out⟩
theorem zp6 (z:Int) (s:ByteArray) (hs:s=⟨(zE z).toArray⟩):∃h:0<s.size,(((s[0]'h).toNat:Int)==45)=decide (z<0)/\(z<0->s.extract 1 s.size=⟨(zD z.natAbs).toArray⟩):=by
 obtain⟨b1,b2⟩:=zds (zE z) s hs;have hp:0<(zE z).length:=zS (zbn z) (zbr z);have h:0<s.size:=by omega
 refine⟨h,?_,?_⟩
 ·rw[b2 0 hp h]
  rcases zbg z with⟨k,e⟩|⟨k,e⟩
  ·rw[decide_eq_false (by omega),beq_eq_false_iff_ne]
   have hd:=zan z.natAbs ((zE z)[0]'hp) (by simp only[e];exact List.getElem_mem _);omega
  ·rw[decide_eq_true k,beq_iff_eq]
   simp only[e];rfl
 ·intro k
  rcases zbg z with⟨k',e⟩|⟨_,e⟩
  ·omega
  ·rw[hs,zel,e];rfl
theorem z0x (n:Nat) (s:ByteArray) (hs:s=⟨(zD n).toArray⟩):∃h:0<s.size,(((s[0]'h).toNat:Int)==45)=false:=by
 obtain⟨h,e,_⟩:=zp6 (n:Int) s (by rw[Str.zad];exact hs);exact⟨h,by rw[e];simp⟩
theorem z4n (n:Int) (D:Nat) (hD:0<D) (hm:n<0) (h1:(zE n).length<=18) (h2:(zD D).length<=18) (w:zA):
 qJ 329 #[St (zE n),St (zD D)] w (.tuple #[St (numS (Rat.divInt n (D:Int))),.int .i64 0]):=by
 have hn18:n.natAbs<1000000000000000000:=(za3 n 18 (by omega)).1 (zO (zbr n) h1);have hD18:D<1000000000000000000:=(zaf D 18 (by omega)).1 h2;have hdl:(zD n.natAbs).length<=18:=(zaf _ 18 (by omega)).2 hn18;have s1:=λW=>zrk (zD n.natAbs) (zan _) hdl W;have s2:=λW=>zrk (zD D) (zan _) h2 W;rw[zb2] at s1 s2;have qk:=λW=>z1w n D (by omega) hD (by omega) W;obtain⟨sn,hsn⟩:=zzX (⟨(zE n).toArray⟩:ByteArray);obtain⟨sd,hsd⟩:=zzX (⟨(zD D).toArray⟩:ByteArray);obtain⟨p1,p2,p3⟩:=zp6 n sn hsn;obtain⟨r1,r2⟩:=z0x D sd hsd;have l1:sn.size<=18:=by rw[hsn];exact h1
 have l2:sd.size<=18:=by rw[hsd];exact h2
 have l1':(sn.size:Int)<=18:=by omega
 have l2':(sd.size:Int)<=18:=by omega
 rw[decide_eq_true hm] at p2;have hx:=p3 hm;have hw:IntKind.i64.wrap (-(n.natAbs:Int))=n:=by rw[show-(n.natAbs:Int)=n by omega];exact zI _ (by omega)
 show zC _ _ #[.string ⟨(zE n).toArray⟩,.string ⟨(zD D).toArray⟩] _ _;have s2':∀W:zA,zC zF 163 #[.string sd] W λe w'=>e=.returned (I D)/\w'=W:=λW=>by rw[hsd];exact s2 W
 obtain⟨su,hsu⟩:=zzX (⟨(zD n.natAbs).toArray⟩:ByteArray);have s1':∀W:zA,zC zF 163 #[.string su] W λe w'=>e=.returned (I n.natAbs)/\w'=W:=λW=>by rw[hsu];exact s1 W
 rw[<-hsu] at hx;rw[<-hsn,<-hsd];have S1:=hid s1';have S2:=hid s2';have QK:=hid qk;clear s1 s2 qk s1' s2' hsn hsd h1 h2 hdl p3 hsu;generalize numS (Rat.divInt n (D:Int))=t at*
 generalize n.natAbs=na at*
 go_enter Tryz.func329,Tryz.ntmps329;go_wp21;refine zzM (S1.out w) λw1 hw1=>?_;have hw1':=hw1.symm;subst hw1';go_wp21;refine zzM (S2.out w) λw2 hw2=>?_;have hw2':=hw2.symm;subst hw2';go_wp21;refine zzM (QK.out w) λw3 hb3=>?_;go_wp21;go_ret2;exact⟨rfl,hb3⟩
theorem z4p (n:Int) (D:Nat) (hD:0<D) (hm:¬n<0) (h1:(zE n).length<=18) (h2:(zD D).length<=18) (w:zA):
 qJ 329 #[St (zE n),St (zD D)] w (.tuple #[St (numS (Rat.divInt n (D:Int))),.int .i64 0]):=by
 have hn18:n.natAbs<1000000000000000000:=(za3 n 18 (by omega)).1 (zO (zbr n) h1);have hD18:D<1000000000000000000:=(zaf D 18 (by omega)).1 h2;have hdl:(zD n.natAbs).length<=18:=(zaf _ 18 (by omega)).2 hn18;have s1:=λW=>zrk (zD n.natAbs) (zan _) hdl W;have s2:=λW=>zrk (zD D) (zan _) h2 W;rw[zb2] at s1 s2;have qk:=λW=>z1w n D (by omega) hD (by omega) W;obtain⟨sn,hsn⟩:=zzX (⟨(zE n).toArray⟩:ByteArray);obtain⟨sd,hsd⟩:=zzX (⟨(zD D).toArray⟩:ByteArray);obtain⟨p1,p2,p3⟩:=zp6 n sn hsn;obtain⟨r1,r2⟩:=z0x D sd hsd;have l1:sn.size<=18:=by rw[hsn];exact h1
 have l2:sd.size<=18:=by rw[hsd];exact h2
 have l1':(sn.size:Int)<=18:=by omega
 have l2':(sd.size:Int)<=18:=by omega
 rw[decide_eq_false hm] at p2;have hx:zE n=zD n.natAbs:=by rcases zbg n with⟨_,e⟩|⟨k,_⟩;exact e;omega
 have hw:(n:Int)=(n.natAbs:Int):=by omega
 rw[<-hx] at s1;show zC _ _ #[.string ⟨(zE n).toArray⟩,.string ⟨(zD D).toArray⟩] _ _;have s2':∀W:zA,zC zF 163 #[.string sd] W λe w'=>e=.returned (I D)/\w'=W:=λW=>by rw[hsd];exact s2 W
 have s1':∀W:zA,zC zF 163 #[.string sn] W λe w'=>e=.returned (I n.natAbs)/\w'=W:=λW=>by rw[hsn];exact s1 W
 have qk':∀W:zA,qJ 307 #[I n.natAbs,I D] W (St (numS (Rat.divInt n (D:Int)))):=λW=>by have:=qk W;rw[hw] at this;rw[hw];exact this
 rw[<-hsn,<-hsd];have S1:=hid s1';have S2:=hid s2';have QK:=hid qk';clear s1 s2 qk s1' s2' hsn hsd h1 h2 hdl p3 hx qk' hw;generalize numS (Rat.divInt n (D:Int))=t at*
 generalize n.natAbs=na at*
 go_enter Tryz.func329,Tryz.ntmps329;go_wp21;refine zzM (S1.out w) λw1 hw1=>?_;have hw1':=hw1.symm;subst hw1';go_wp21;refine zzM (S2.out w) λw2 hw2=>?_;have hw2':=hw2.symm;subst hw2';go_wp21;refine zzM (QK.out w) λw3 hb3=>?_;go_wp21;go_ret2;exact⟨rfl,hb3⟩
theorem z9i (n:Int) (D g d1:Nat) (q1:Int) (hD:0<D) (hg:g=Int.gcd n (D:Int)) (hq:n=q1*g) (hd:D=d1*g) (hn3:digs n<=300) (hd3:(zD D).length<=300) (hor:18<(zE n).length\/((zE n).length<=18/\18<(zD D).length)) (w:zA) (hw:Wd w):
 qJ 329 #[St (zE n),St (zD D)] w (.tuple #[St (zE q1++if d1=1 then[] else 47::zD d1),.int .i64 0]):=by
 have o1:∀m:Nat,18<m->¬(m:Int)<=18:=λm h=>by omega
 have o2:∀m:Nat,m<=18->(m:Int)<=18:=λm h=>by omega
 have hg0:0<g:=by rw[hg];exact Int.gcd_pos_of_ne_zero_right _ (by omega)
 have hd10:0<d1:=yS (λe=>by rw[e,Nat.zero_mul] at hd;omega);have hgd:(zD g).length<=300:=by
  rw[zaf _ _ (by omega)] at hd3⊢;have:g<=D:=by rw[hd];exact Nat.le_mul_of_pos_left _ hd10
  exact Nat.lt_of_le_of_lt this hd3
 have hq3:digs q1<=300:=by
  rw[za3 _ _ (by omega)] at hn3⊢;have:q1.natAbs<=n.natAbs:=by rw[hq,yK];exact Nat.le_mul_of_pos_right _ (by omega)
  exact Nat.lt_of_le_of_lt this hn3
 have hd13:(zD d1).length<=300:=by
  rw[zaf _ _ (by omega)] at hd3⊢;have:d1<=D:=by rw[hd];exact Nat.le_mul_of_pos_right _ hg0
  exact Nat.lt_of_le_of_lt this hd3
 have dg:∀k:Nat,digs (k:Int)=(zD k).length:=λk=>by unfold digs;rw[Int.natAbs_natCast]
 have yg:=λW hW=>zxp n (D:Int) hn3 (by rw[dg];exact hd3) W hW;have y1:=λW hW=>z14 n (g:Int) q1 hq (by omega) hn3 (by rw[dg];exact hgd) W hW;have y2:=λW hW=>z14 (D:Int) (g:Int) (d1:Int) (by rw[hd,Int.natCast_mul]) (by omega) (by rw[dg];exact hd3) (by rw[dg];exact hgd) W hW;rw[<-hg] at yg;rw[Str.zad,Str.zad] at yg y2;rw[Str.zad] at y1 y2;obtain⟨sn,hsn⟩:=zzX (⟨(zE n).toArray⟩:ByteArray);obtain⟨sd,hsd⟩:=zzX (⟨(zD D).toArray⟩:ByteArray);obtain⟨sq,hsq⟩:=zzX (⟨(zE q1).toArray⟩:ByteArray);obtain⟨r1,r2⟩:=z0x D sd hsd;obtain⟨p1,p2,p3⟩:=zp6 q1 sq hsq;have hsz:sn.size=(zE n).length:=by rw[hsn];rfl
 have hszd:sd.size=(zD D).length:=by rw[hsd];rfl
 have hszq:sq.size<=301:=by
  have:sq.size=(zE q1).length:=by rw[hsq];rfl
  have:=za7 q1;omega
 have hsg:((((sq[0]'p1).toNat:Int)==45)=true/\∃su:ByteArray,sq.extract 1 sq.size=su/\¬(300:Int)<su.size)\/((((sq[0]'p1).toNat:Int)==45)=false/\¬(300:Int)<sq.size):=by
  by_cases hqm:q1<0
  ·refine .inl ⟨by rw[p2,decide_eq_true hqm],_,p3 hqm,?_⟩
   have:(⟨(zD q1.natAbs).toArray⟩:ByteArray).size<=300:=hq3;omega
  ·have e:zE q1=zD q1.natAbs:=by rcases zbg q1 with⟨_,e⟩|⟨k,_⟩;exact e;exact absurd k hqm
   have:sq.size<=300:=by rw[hsq,e];exact hq3
   exact .inr ⟨by rw[p2,decide_eq_false hqm],by omega⟩
 have yg':qK 164 #[.string sn,.string sd] (.tuple #[St (zD g),.int .i64 0]):=λW hW=>by rw[hsn,hsd];exact yg W hW
 have y1':qK 295 #[.string sn,St (zD g)] (.tuple #[.string sq,St [48],.int .i64 0]):=λW hW=>by rw[hsn,hsq];exact y1 W hW
 have y2':qK 295 #[.string sd,St (zD g)] (.tuple #[St (zD d1),St [48],.int .i64 0]):=λW hW=>by rw[hsd];exact y2 W hW
 have hdl:(d1=1/\zD d1=[49])\/(¬d1=1/\((zD d1==[49])=false/\¬zD d1=[49])):=by
  by_cases h1:d1=1
  ·exact .inl ⟨h1,by rw[h1];decide+kernel⟩
  ·exact .inr ⟨h1,yae d1 1 h1 [49] (by decide+kernel)⟩
 have j2:¬(300:Int)<(zD d1).length:=by omega
 have f1:¬(9223372036854775807<sq.size+1):=by omega
 have f2:¬(9223372036854775807<sq.size+1+(zD d1).length):=by omega
 show zC _ _ #[.string ⟨(zE n).toArray⟩,.string ⟨(zD D).toArray⟩] _ _;rw[<-hsn,<-hsd];rw[<-hsz,<-hszd] at hor;replace hor:(¬(sn.size:Int)<=18)\/((sn.size:Int)<=18/\¬(sd.size:Int)<=18):=hor.imp (o1 _) λh=>⟨o2 _ h.1,o1 _ h.2⟩;have YG:=hid yg';have Y1:=hid y1';have Y2:=hid y2';have HW:=hid hw;have HSQ:=hid hsq;clear o1 o2 yg y1 y2 yg' y1' y2' hw hsn hsd hsz hszd hg hq hd hn3 hd3 hg0 hgd hd10 hq3 dg p2 p3 hsq;generalize zD g=gl at*
 generalize zD d1=dl at*
 rcases hor with k1|⟨k1,k2⟩<;>rcases hdl with⟨h1,rfl⟩|⟨h1,z5,z6⟩<;>rcases hsg with⟨p2,su,hx,j1⟩|⟨p2,j1⟩
 all_goals
  first|rw[if_pos h1]|rw[if_neg h1]
  clear h1;go_enter Tryz.func329,Tryz.ntmps329;go_wp21;refine zzM (YG.out w HW.out) λw1 hb1=>?_;have HB1:=hid hb1;clear hb1;go_wp21;refine zzM (Y1.out w1 (HW.out.below HB1.out)) λw2 hb2=>?_;have HB2:=qT HB1 hb2;clear hb2;go_wp21;refine zzM (Y2.out w2 (HW.out.below HB2.out)) λw3 hb3=>?_;have HB3:=qT HB2 hb3;clear hb3;go_wp21;go_ret2;refine⟨?_,HB3.out⟩
  first
   |show Ending.returned (.tuple #[.string sq,.int .i64 0])=_
    rw[HSQ.out,List.append_nil]
   |show Ending.returned (.tuple #[.string ((sq++⟨#[47]⟩)++⟨dl.toArray⟩),.int .i64 0])=_
    rw[HSQ.out,show(⟨#[47]⟩:ByteArray)=⟨([47]:List UInt8).toArray⟩ from rfl,z36,z36,List.append_assoc];rfl
theorem z9j (n:Int) (D:Nat) (hD:0<D) (hn3:digs n<=300) (hd3:(zD D).length<=300) (w:zA) (hw:Wd w):
 qJ 329 #[St (zE n),St (zD D)] w (.tuple #[St (numS (Rat.divInt n (D:Int))),.int .i64 0]):=by
 by_cases hs:(zE n).length<=18/\(zD D).length<=18
 ·by_cases hm:n<0
  ·exact z4n n D hD hm hs.1 hs.2 w
  ·exact z4p n D hD hm hs.1 hs.2 w
 ·have hor:18<(zE n).length\/((zE n).length<=18/\18<(zD D).length):=by omega
  obtain⟨g,hg⟩:=zzX (Int.gcd n (D:Int));have hg0:0<g:=by rw[hg];exact Int.gcd_pos_of_ne_zero_right _ (by omega)
  have hgn:((g:Int))∣n:=by rw[hg];exact Int.gcd_dvd_left ..
  have hgD:g∣D:=by
   have h:((Int.gcd n (D:Int):Nat):Int)∣(D:Int):=Int.gcd_dvd_right ..;rw[<-hg] at h;exact Int.natCast_dvd_natCast.1 h
  have hq:n=(n/(g:Int))*(g:Int):=(Int.ediv_mul_cancel hgn).symm;have hd:D=(D/g)*g:=(Nat.div_mul_cancel hgD).symm;have e:=zif n (D:Int) (by omega);rw[<-hg,<-Int.natCast_ediv,Str.zad] at e;have h:=z9i n D g (D/g) (n/g) hD hg hq hd hn3 hd3 hor w hw;rw[e];by_cases h1:D/g=1
  ·rw[if_pos (by omega)];rwa [if_pos h1] at h
  ·rw[if_neg (by omega)];rwa [if_neg h1] at h
theorem zo7 (q:Rat):numS q=[48]↔q.num=0:=by
 constructor
 ·intro h
  have h1:=(zvg q).1;rw[h] at h1;have h2:upS [48]=[48]:=by decide
  rw[h2] at h1;have:=congrArg val h1;rw[zb2] at this;simp[val] at this;omega
 ·intro h
  have:q=0:=Rat.num_eq_zero.1 h;rw[this];decide+kernel
theorem yfm (q:Rat) (h:okN q) (w:zA):
 zC zF 310 #[St (numS q)] w λe w'=>e=.returned (St (numS (-q)))/\w'=w:=by
 have hn:(-q).num= -q.num:=rfl;have hd:(-q).den=q.den:=rfl;have hlen:=z8i h;have htail:∃t:List UInt8,numS q=zE q.num++t/\numS (-q)=zE (-q.num)++t:=⟨if q.den=1 then[] else 47::zD q.den,rfl,by unfold numS;rw[hn,hd]⟩;obtain⟨t,e1,e2⟩:=htail;rcases Int.lt_trichotomy q.num 0 with hm|hm|hm
 ·have i1:zE q.num=45::zD q.num.natAbs:=by rcases zbg q.num with⟨k,_⟩|⟨_,e⟩;omega;exact e
  have i2:zE (-q.num)=zD q.num.natAbs:=by
   rcases zbg (-q.num) with⟨_,e⟩|⟨k,_⟩
   ·rw[e,Int.natAbs_neg]
   ·omega
  rw[e1,e2,i1,i2];rw[e1,i1] at hlen;have hz:¬((45::zD q.num.natAbs)++t=[48]):=by simp
  have hz2:(((45::zD q.num.natAbs)++t)==[48])=false:=by rw[beq_eq_false_iff_ne];exact hz
  generalize zD q.num.natAbs=a at*
  obtain⟨s,hs⟩:=zzX (⟨((45::a)++t).toArray⟩:ByteArray);obtain⟨b1,b2⟩:=zds ((45::a)++t) s hs;have h0:0<s.size:=by rw[b1];simp
  have h45:(((s[0]'h0).toNat:Int)==45)=true:=by rw[b2 0 (by simp) h0];rfl
  have hx:s.extract 1 s.size=⟨(a++t).toArray⟩:=by rw[hs,zel];rfl
  have hsz:s.size<=1000:=by rw[b1];exact hlen
  have hz3:(s.toList==[48])=false:=by rw[zeb _ s hs];simp
  obtain⟨r,hr⟩:=zzX (⟨(a++t).toArray⟩:ByteArray);show zC _ _ #[.string ⟨((45::a)++t).toArray⟩] _ (λe w'=>e=.returned (.string ⟨(a++t).toArray⟩)/\w'=w);rw[<-hs,<-hr];rw[<-hr] at hx;clear hs hr b1 b2 hz hz2 e1 e2 i1 i2 hlen hm hn hd h;go_enter Tryz.func310,Tryz.ntmps310;go_wp2;go_ret;exact⟨rfl,rfl⟩
 ·have hq0:q=0:=Rat.num_eq_zero.1 hm
  rw[hq0,show numS (0:Rat)=[48] by decide+kernel,show numS (-(0:Rat))=[48] by decide+kernel];go_enter Tryz.func310,Tryz.ntmps310;go_wp2;go_ret;exact⟨rfl,rfl⟩
 ·have i1:zE q.num=zD q.num.natAbs:=by rcases zbg q.num with⟨_,e⟩|⟨k,_⟩;exact e;omega
  have i2:zE (-q.num)=45::zD q.num.natAbs:=by
   rcases zbg (-q.num) with⟨k,_⟩|⟨_,e⟩
   ·omega
   ·rw[e,Int.natAbs_neg]
  have hz:¬(numS q=[48]):=λk=>by have:=(zo7 q).1 k;omega
  rw[e1,i1] at hz hlen⊢;rw[e2,i2];have hd0:=zan q.num.natAbs;have hp0:0<(zD q.num.natAbs).length:=by have:=zbn (q.num.natAbs:Int);unfold digs at this;rw[Int.natAbs_natCast] at this;omega
  generalize zD q.num.natAbs=a at*
  obtain⟨s,hs⟩:=zzX (⟨(a++t).toArray⟩:ByteArray);obtain⟨b1,b2⟩:=zds (a++t) s hs;have h0:0<s.size:=by rw[b1];simp;omega
  have h45:(((s[0]'h0).toNat:Int)==45)=false:=by
   rw[beq_eq_false_iff_ne,b2 0 (by simp;omega) h0,List.getElem_append_left hp0];have:=hd0 _ (List.getElem_mem hp0);omega
  have hsz:s.size<=1000:=by rw[b1];exact hlen
  have f1:¬(9223372036854775807<1+s.size):=by omega
  have hz3:(s.toList==[48])=false:=by rw[zeb _ s hs];simpa using hz
  show zC _ _ #[.string ⟨(a++t).toArray⟩] _ _;rw[<-hs];have HS:=hid hs;clear hs b1 b2 hz e1 e2 i1 i2 hlen hm hn hd h hd0 hp0;go_enter Tryz.func310,Tryz.ntmps310;go_wp2;go_ret;refine⟨?_,rfl⟩;show Ending.returned (.string ((⟨#[45]⟩:ByteArray)++s))=_;rw[HS.out,ztl]
  try rfl
theorem zoo {q:Rat} {k:Nat} (hk:0<k) (hk3:k<=300) (h:sz q k):okN q:=
 ⟨zO ((za3 _ k hk).2 h.1) hk3,zO ((zaf _ k hk).2 h.2) hk3⟩
theorem z3g {q:Rat} (h:zm0 q):q.num.natAbs<1000000000/\q.den<1000000000:=⟨(za3 _ 9 (by omega)).1 h.1,(zaf _ 9 (by omega)).1 h.2⟩
theorem z1j {x y:Int} {i j:Nat} (hij:0<i+j) (hx:x.natAbs<10^i) (hy:y.natAbs<10^j):digs (x*y)<=i+j:=by
 rw[za3 _ _ hij,yK,Nat.pow_add];exact Nat.mul_lt_mul'' hx hy
theorem z9l {x y i j:Nat} (hij:0<i+j) (hx:x<10^i) (hy:y<10^j):(zD (x*y)).length<=i+j:=by
 rw[zaf _ _ hij,Nat.pow_add];exact Nat.mul_lt_mul'' hx hy
theorem zs7 {x y:Int} {k:Nat} (hk:0<k) (hx:digs x<=k) (hy:digs y<=k):digs (x+y)<=k+1:=zhz hk hx hy
theorem z0l (p q:Rat) (hp:okN p) (hq:okN q) (np:zm0 p) (nq:zm0 q) (w:zA):
 qJ 309 #[St (numS p),St (numS q)] w (.tuple #[St (numS (p+q)),.int .i64 0]):=by
 rw[zf0];have c1:=λW=>zrh p hp np W;have c2:=λW=>zrh q hq nq W;obtain⟨b1,b2⟩:=z3g np;obtain⟨b3,b4⟩:=z3g nq;have hdp:=p.den_pos;have hdq:=q.den_pos;have m1:(p.num*q.den).natAbs<=999999998000000001:=by
  rw[yK,Int.natAbs_natCast];exact Nat.mul_le_mul (show p.num.natAbs<=999999999 by omega) (show q.den<=999999999 by omega)
 have m2:(q.num*p.den).natAbs<=999999998000000001:=by
  rw[yK,Int.natAbs_natCast];exact Nat.mul_le_mul (show q.num.natAbs<=999999999 by omega) (show p.den<=999999999 by omega)
 have m3:p.den*q.den<=999999998000000001:=Nat.mul_le_mul (show p.den<=999999999 by omega) (show q.den<=999999999 by omega);have m4:0<p.den*q.den:=Nat.mul_pos hdp hdq;have qk:=λW=>z1w (p.num*q.den+q.num*p.den) (p.den*q.den) (by omega) m4 (by omega) W;have e1:IntKind.i64.wrap (p.num*q.den)=p.num*q.den:=zI _ (by omega);have e2:IntKind.i64.wrap (q.num*p.den)=q.num*p.den:=zI _ (by omega);have e3:IntKind.i64.wrap (p.num*q.den+q.num*p.den)=p.num*q.den+q.num*p.den:=zI _ (by omega);have e4:IntKind.i64.wrap ((p.den:Int)*q.den)=((p.den*q.den:Nat):Int):=by rw[<-Int.natCast_mul];exact zI _ (by omega)
 obtain⟨D,hD⟩:=zzX (p.den*q.den);rw[<-hD] at qk e4⊢;have C1:=hid c1;have C2:=hid c2;have QK:=hid qk;clear c1 c2 qk np nq hp hq b1 b2 b3 b4 hdp hdq m1 m2 m3 m4 hD;generalize numS (Rat.divInt (p.num*q.den+q.num*p.den) (D:Int))=t at*
 generalize numS p=sp at*
 generalize numS q=sq at*
 generalize p.num=a at*
 generalize q.num=b at*
 generalize p.den=c at*
 generalize q.den=d at*
 go_enter Tryz.func309,Tryz.ntmps309;go_wp21;refine zzM (C1.out w) λw1 hb1=>?_;have HB1:=hid hb1;clear hb1;go_wp21;refine zzM (C2.out w1) λw2 hb2=>?_;have HB2:=qT HB1 hb2;clear hb2;go_wp21;refine zzM (QK.out w2) λw3 hb3=>?_;have HB3:=qT HB2 hb3;clear hb3;go_wp21;go_ret2;exact⟨rfl,HB3.out⟩
instance (q:Rat):Decidable (zm0 q):=by unfold zm0;infer_instance
theorem z0y (q:Rat) (h:okN q) (w:zA):
 zC zF 166 #[St (numS q)] w λe w'=>(∃a b:Int,e=.returned (.tuple #[.int .i64 a,.int .i64 b,.bool (decide (zm0 q))]))/\Below w.heap.size w w':=by
 by_cases hn:zm0 q
 ·rw[decide_eq_true hn]
  exact(zrh q h hn w).mono λe w' ⟨h1,h2⟩=>⟨⟨_,_,h1⟩,h2⟩
 ·rw[decide_eq_false hn]
  exact(yad q h hn w).mono λe w' ⟨h1,h2⟩=>⟨⟨_,_,h1⟩,h2⟩
theorem z0n:zE 1=[49]:=by rw[show(1:Int)=((1:Nat):Int) from rfl,Str.zad];decide+kernel
theorem yfn (p q:Rat) (i j:Nat) (hi:0<i) (hj:0<j) (hij:i+j<300) (sp:sz p i) (sq:sz q j) (hf:¬(zm0 p/\zm0 q)) (w:zA) (hw:Wd w):
 qJ 309 #[St (numS p),St (numS q)] w (.tuple #[St (numS (p+q)),.int .i64 0]):=by
 rw[zf0];have hp:=zoo hi (by omega) sp;have hq:=zoo hj (by omega) sq;have c1:=λW=>z0y p hp W;have c2:=λW=>z0y q hq W;have c3:=λW=>zre p hp W;have c4:=λW=>zre q hq W;have dg:∀k:Nat,digs (k:Int)=(zD k).length:=λk=>by unfold digs;rw[Int.natAbs_natCast]
 have x1:digs (p.num*q.den)<=i+j:=z1j (by omega) sp.1 (by rw[Int.natAbs_natCast];exact sq.2);have x2:digs (q.num*p.den)<=i+j:=by rw[Nat.add_comm];exact z1j (by omega) sq.1 (by rw[Int.natAbs_natCast];exact sp.2)
 have x3:(zD (p.den*q.den)).length<=i+j:=z9l (by omega) sp.2 sq.2;have x4:digs (p.num*q.den+q.num*p.den)<=i+j+1:=zs7 (by omega) x1 x2;have c5:=λW hW=>z15 p.num (q.den:Int) q.num (p.den:Int) hp.1 (by rw[dg];exact hq.2) hq.1 (by rw[dg];exact hp.2) (by omega) (by omega) W hW;have c6:=λW hW=>z15 (p.den:Int) (q.den:Int) 1 1 (by rw[dg];exact hp.2) (by rw[dg];exact hq.2) (by decide+kernel) (by decide+kernel) (by rw[<-Int.natCast_mul,dg];omega) (by decide+kernel) W hW;have c7:=λW hW=>yfa (p.num*q.den) (q.num*p.den) (by omega) (by omega) (by omega) W hW;have c8:=λW hW=>z9j (p.num*q.den+q.num*p.den) (p.den*q.den) (Nat.mul_pos p.den_pos q.den_pos) (by omega) (by omega) W hW;rw[Int.mul_one,z0n,Str.zad,Str.zad,<-Int.natCast_mul,Str.zad] at c6;rw[Str.zad,Str.zad] at c5;have hcase:(decide (zm0 p)=false)\/(decide (zm0 p)=true/\decide (zm0 q)=false):=by
  by_cases h1:zm0 p
  ·right;exact⟨decide_eq_true h1,decide_eq_false (λh2=>hf ⟨h1,h2⟩)⟩
  ·left;exact decide_eq_false h1
 have C1:=hid c1;have C2:=hid c2;have C3:=hid c3;have C4:=hid c4;have C5:=hid c5;have C6:=hid c6;have C7:=hid c7;have C8:=hid c8;have HW:=hid hw;clear c1 c2 c3 c4 c5 c6 c7 c8 hw hp hq dg x1 x2 x3 x4 sp sq hf;generalize numS (Rat.divInt (p.num*q.den+q.num*p.den) ((p.den*q.den:Nat):Int))=t at*
 generalize zE (p.num*q.den+q.num*p.den)=sum at*
 generalize zE (p.num*q.den)=m1 at*
 generalize zE (q.num*p.den)=m2 at*
 generalize zD (p.den*q.den)=m3 at*
 generalize numS p=tp at*
 generalize numS q=tq at*
 generalize zE p.num=n1 at*
 generalize zE q.num=n2 at*
 generalize zD p.den=d1 at*
 generalize zD q.den=d2 at*
 generalize decide (zm0 p)=b1 at*
 generalize decide (zm0 q)=b2 at*
 go_enter Tryz.func309,Tryz.ntmps309;go_wp21;refine(C1.out w).mono ?_;rintro e w1 ⟨⟨za,zb,rfl⟩,hb1⟩;have HB1:=hid hb1;clear hb1;go_wp21;refine(C2.out w1).mono ?_;rintro e w2 ⟨⟨zc,zd,rfl⟩,hb2⟩;have HB2:=qT HB1 hb2;clear hb2;rcases hcase with rfl|⟨rfl,rfl⟩<;>(
  go_wp21;refine zzM (C3.out w2) λw3 hb3=>?_;have HB3:=qT HB2 hb3;clear hb3;go_wp21;refine zzM (C4.out w3) λw4 hb4=>?_;have HB4:=qT HB3 hb4;clear hb4;go_wp21;refine zzM (C5.out w4 (HW.out.below HB4.out)) λw5 hb5=>?_;have HB5:=qT HB4 hb5;clear hb5;go_wp21;refine zzM (C6.out w5 (HW.out.below HB5.out)) λw6 hb6=>?_;have HB6:=qT HB5 hb6;clear hb6;go_wp21;refine zzM (C7.out w6 (HW.out.below HB6.out)) λw7 hb7=>?_;have HB7:=qT HB6 hb7;clear hb7;go_wp21;refine zzM (C8.out w7 (HW.out.below HB7.out)) λw8 hb8=>?_;have HB8:=qT HB7 hb8;clear hb8;go_wp21;go_ret2;exact⟨rfl,HB8.out⟩)
theorem yfo (p q:Rat) (i j:Nat) (hi:0<i) (hj:0<j) (hij:i+j<300) (sp:sz p i) (sq:sz q j) (w:zA) (hw:Wd w):
 qJ 309 #[St (numS p),St (numS q)] w (.tuple #[St (numS (p+q)),.int .i64 0]):=by
 by_cases h:zm0 p/\zm0 q
 ·exact z0l p q (zoo hi (by omega) sp) (zoo hj (by omega) sq) h.1 h.2 w
 ·exact yfn p q i j hi hj hij sp sq h w hw
theorem yhm {q:Rat} {k:Nat} (h:sz q k):sz (-q) k:=by
 refine⟨?_,h.2⟩;show(-q.num).natAbs<10^k;rw[Int.natAbs_neg];exact h.1
theorem yfp (p q:Rat) (i j:Nat) (hi:0<i) (hj:0<j) (hij:i+j<300) (sp:sz p i) (sq:sz q j) (w:zA) (hw:Wd w):
 qJ 282 #[St (numS p),St (numS q)] w (.tuple #[St (numS (p-q)),.int .i64 0]):=by
 have hp:=zoo hi (by omega) sp;have hq:=zoo hj (by omega) sq;have c1:=λW hW=>zrs p q hp hq W hW;have c2:=λW=>yfm q hq W;have c3:=λW hW=>yfo p (-q) i j hi hj hij sp (yhm sq) W hW;rw[show p+ -q=p-q from(Rat.sub_eq_add_neg p q).symm] at c3;have C1:=hid c1;have C2:=hid c2;have C3:=hid c3;have HW:=hid hw;clear c1 c2 c3 hw hp hq sp sq;generalize numS (p-q)=t at*
 generalize numS (-q)=nq at*
 generalize numS p=tp at*
 generalize numS q=tq at*
 go_enter Tryz.func282,Tryz.ntmps282;go_wp21;refine zzM (C1.out w HW.out) λw1 hb1=>?_;have HB1:=hid hb1;clear hb1;go_wp21;refine zzM (C2.out w1) λw2 hw2=>?_;have hw2':=hw2.symm;subst hw2';go_wp21;refine zzM (C3.out w1 (HW.out.below HB1.out)) λw3 hb3=>?_;have HB3:=qT HB1 hb3;clear hb3;go_wp21;go_ret2;exact⟨rfl,HB3.out⟩
end
section
open Go.RowKit Go.Shelf Lib Str Limb Geo
attribute [local go_sem] Oper.semAt_some
theorem ybp (a b c d:Int) (D:Nat) (hD:b*d=(D:Int)) (hD0:0<D) (ha:digs a<=300) (hb:digs b<=300) (hc:digs c<=300) (hd:digs d<=300) (hac:digs (a*c)<=300) (hbd:(zD D).length<=300) (w:zA) (hw:Wd w):
 qJ 308 #[St (zE a),St (zE b),St (zE c),St (zE d)] w (.tuple #[St (numS (Rat.divInt (a*c) (D:Int))),.int .i64 0]):=by
 have c1:=λW hW=>z15 a c b d ha hc hb hd hac (by rw[hD];unfold digs;rw[Int.natAbs_natCast];exact hbd) W hW;rw[hD,Str.zad] at c1;have c2:=λW hW=>z9j (a*c) D hD0 hac hbd W hW;have C1:=hid c1;have C2:=hid c2;have HW:=hid hw;clear c1 c2 hw ha hb hc hd hac hbd;generalize numS (Rat.divInt (a*c) (D:Int))=t at*
 generalize zE (a*c)=x at*
 generalize zD D=y at*
 generalize zE a=sa at*
 generalize zE b=sb at*
 generalize zE c=sc at*
 generalize zE d=sd at*
 go_enter Tryz.func308,Tryz.ntmps308;go_wp21;refine zzM (C1.out w HW.out) λw1 hb1=>?_;have HB1:=hid hb1;clear hb1;go_wp21;refine zzM (C2.out w1 (HW.out.below HB1.out)) λw2 hb2=>?_;have HB2:=qT HB1 hb2;clear hb2;go_wp21;go_ret2;exact⟨rfl,HB2.out⟩
theorem z0p (p q:Rat) (hp:okN p) (hq:okN q) (np:zm0 p) (nq:zm0 q) (w:zA) (hw:Wd w):
 qJ 281 #[St (numS p),St (numS q)] w (.tuple #[St (numS (p*q)),.int .i64 0]):=by
 rw[zf1];have c0:=λW hW=>zrs p q hp hq W hW;have c1:=λW=>zrh p hp np W;have c2:=λW=>zrh q hq nq W;obtain⟨b1,b2⟩:=z3g np;obtain⟨b3,b4⟩:=z3g nq;have m1:(p.num*q.num).natAbs<=999999998000000001:=by
  rw[yK];exact Nat.mul_le_mul (show p.num.natAbs<=999999999 by omega) (show q.num.natAbs<=999999999 by omega)
 have m3:p.den*q.den<=999999998000000001:=Nat.mul_le_mul (show p.den<=999999999 by omega) (show q.den<=999999999 by omega);have m4:0<p.den*q.den:=Nat.mul_pos p.den_pos q.den_pos;have qk:=λW=>z1w (p.num*q.num) (p.den*q.den) (by omega) m4 (by omega) W;have e1:IntKind.i64.wrap (p.num*q.num)=p.num*q.num:=zI _ (by omega);have e4:IntKind.i64.wrap ((p.den:Int)*q.den)=((p.den*q.den:Nat):Int):=by rw[<-Int.natCast_mul];exact zI _ (by omega)
 obtain⟨D,hD⟩:=zzX (p.den*q.den);rw[<-hD] at qk e4⊢;have C0:=hid c0;have C1:=hid c1;have C2:=hid c2;have QK:=hid qk;have HW:=hid hw;clear c0 c1 c2 qk np nq hp hq b1 b2 b3 b4 m1 m3 m4 hD hw;generalize numS (Rat.divInt (p.num*q.num) (D:Int))=t at*
 generalize numS p=sp at*
 generalize numS q=sq at*
 generalize p.num=a at*
 generalize q.num=b at*
 generalize p.den=c at*
 generalize q.den=d at*
 go_enter Tryz.func281,Tryz.ntmps281;go_wp21;refine zzM (C0.out w HW.out) λw0 hb0=>?_;have HB0:=hid hb0;clear hb0;go_wp21;refine zzM (C1.out w0) λw1 hb1=>?_;have HB1:=qT HB0 hb1;clear hb1;go_wp21;refine zzM (C2.out w1) λw2 hb2=>?_;have HB2:=qT HB1 hb2;clear hb2;go_wp21;refine zzM (QK.out w2) λw3 hb3=>?_;have HB3:=qT HB2 hb3;clear hb3;go_wp21;go_ret2;exact⟨rfl,HB3.out⟩
theorem yfq (p q:Rat) (i j:Nat) (hi:0<i) (hj:0<j) (hij:i+j<=300) (sp:sz p i) (sq:sz q j) (hf:¬(zm0 p/\zm0 q)) (w:zA) (hw:Wd w):
 qJ 281 #[St (numS p),St (numS q)] w (.tuple #[St (numS (p*q)),.int .i64 0]):=by
 rw[zf1];have hp:=zoo hi (by omega) sp;have hq:=zoo hj (by omega) sq;have c0:=λW hW=>zrs p q hp hq W hW;have c1:=λW=>z0y p hp W;have c2:=λW=>z0y q hq W;have c3:=λW=>zre p hp W;have c4:=λW=>zre q hq W;have dg:∀k:Nat,digs (k:Int)=(zD k).length:=λk=>by unfold digs;rw[Int.natAbs_natCast]
 have x1:digs (p.num*q.num)<=i+j:=z1j (by omega) sp.1 sq.1;have x3:(zD (p.den*q.den)).length<=i+j:=z9l (by omega) sp.2 sq.2;have c5:=λW hW=>ybp p.num (p.den:Int) q.num (q.den:Int) (p.den*q.den) (by rw[Int.natCast_mul]) (Nat.mul_pos p.den_pos q.den_pos) hp.1 (by rw[dg];exact hp.2) hq.1 (by rw[dg];exact hq.2) (by omega) (by omega) W hW;rw[Str.zad,Str.zad] at c5;have hcase:(decide (zm0 p)=false)\/(decide (zm0 p)=true/\decide (zm0 q)=false):=by
  by_cases h1:zm0 p
  ·right;exact⟨decide_eq_true h1,decide_eq_false (λh2=>hf ⟨h1,h2⟩)⟩
  ·left;exact decide_eq_false h1
 have C0:=hid c0;have C1:=hid c1;have C2:=hid c2;have C3:=hid c3;have C4:=hid c4;have C5:=hid c5;have HW:=hid hw;clear c0 c1 c2 c3 c4 c5 hw hp hq dg x1 x3 sp sq hf;generalize numS (Rat.divInt (p.num*q.num) ((p.den*q.den:Nat):Int))=t at*
 generalize numS p=tp at*
 generalize numS q=tq at*
 generalize zE p.num=n1 at*
 generalize zE q.num=n2 at*
 generalize zD p.den=d1 at*
 generalize zD q.den=d2 at*
 generalize decide (zm0 p)=b1 at*
 generalize decide (zm0 q)=b2 at*
 go_enter Tryz.func281,Tryz.ntmps281;go_wp21;refine zzM (C0.out w HW.out) λw0 hb0=>?_;have HB0:=hid hb0;clear hb0;go_wp21;refine(C1.out w0).mono ?_;rintro e w1 ⟨⟨za,zb,rfl⟩,hb1⟩;have HB1:=qT HB0 hb1;clear hb1;go_wp21;refine(C2.out w1).mono ?_;rintro e w2 ⟨⟨zc,zd,rfl⟩,hb2⟩;have HB2:=qT HB1 hb2;clear hb2;rcases hcase with rfl|⟨rfl,rfl⟩<;>(
  go_wp21;refine zzM (C3.out w2) λw3 hb3=>?_;have HB3:=qT HB2 hb3;clear hb3;go_wp21;refine zzM (C4.out w3) λw4 hb4=>?_;have HB4:=qT HB3 hb4;clear hb4;go_wp21;refine zzM (C5.out w4 (HW.out.below HB4.out)) λw5 hb5=>?_;have HB5:=qT HB4 hb5;clear hb5;go_wp21;go_ret2;exact⟨rfl,HB5.out⟩)
theorem yfr (p q:Rat) (i j:Nat) (hi:0<i) (hj:0<j) (hij:i+j<=300) (sp:sz p i) (sq:sz q j) (w:zA) (hw:Wd w):
 qJ 281 #[St (numS p),St (numS q)] w (.tuple #[St (numS (p*q)),.int .i64 0]):=by
 by_cases h:zm0 p/\zm0 q
 ·exact z0p p q (zoo hi (by omega) sp) (zoo hj (by omega) sq) h.1 h.2 w hw
 ·exact yfq p q i j hi hj hij sp sq h w hw
theorem z4q (p q:Rat) (hp:okN p) (hq:okN q) (np:zm0 p) (nq:zm0 q) (w:zA) (hw:Wd w):
 qJ 87 #[St (numS p),St (numS q)] w (.tuple #[.int .i64 (cmpR p q),.int .i64 0]):=by
 rw[<-zim];have c0:=λW hW=>zrs p q hp hq W hW;have c1:=λW=>zrh p hp np W;have c2:=λW=>zrh q hq nq W;obtain⟨b1,b2⟩:=z3g np;obtain⟨b3,b4⟩:=z3g nq;have m1:(p.num*q.den).natAbs<=999999998000000001:=by
  rw[yK,Int.natAbs_natCast];exact Nat.mul_le_mul (show p.num.natAbs<=999999999 by omega) (show q.den<=999999999 by omega)
 have m2:(q.num*p.den).natAbs<=999999998000000001:=by
  rw[yK,Int.natAbs_natCast];exact Nat.mul_le_mul (show q.num.natAbs<=999999999 by omega) (show p.den<=999999999 by omega)
 have e1:IntKind.i64.wrap (p.num*q.den)=p.num*q.den:=zI _ (by omega);have e2:IntKind.i64.wrap (q.num*p.den)=q.num*p.den:=zI _ (by omega);have CZ:=hid (show(p.num*q.den<q.num*p.den->cmpZ (p.num*q.den) (q.num*p.den)= -1)/\(q.num*p.den<p.num*q.den->cmpZ (p.num*q.den) (q.num*p.den)=1)/\(p.num*q.den=q.num*p.den->cmpZ (p.num*q.den) (q.num*p.den)=0) by
  unfold cmpZ;refine⟨λh=>?_,λh=>?_,λh=>?_⟩
  ·simp[h]
  ·have:¬p.num*q.den<q.num*p.den:=by omega
   simp[this,h]
  ·rw[h];simp)
 have C0:=hid c0;have C1:=hid c1;have C2:=hid c2;have HW:=hid hw;clear c0 c1 c2 np nq hp hq b1 b2 b3 b4 m1 m2 hw;generalize cmpZ (p.num*q.den) (q.num*p.den)=t at*
 generalize numS p=sp at*
 generalize numS q=sq at*
 generalize p.num=a at*
 generalize q.num=b at*
 generalize p.den=c at*
 generalize q.den=d at*
 go_enter Tryz.func87,Tryz.ntmps87;go_wp21;refine zzM (C0.out w HW.out) λw0 hb0=>?_;have HB0:=hid hb0;clear hb0;go_wp21;refine zzM (C1.out w0) λw1 hb1=>?_;have HB1:=qT HB0 hb1;clear hb1;go_wp21;refine zzM (C2.out w1) λw2 hb2=>?_;have HB2:=qT HB1 hb2;clear hb2;rcases Int.lt_trichotomy (a*d) (b*c) with h|h|h
 ·obtain rfl:=CZ.out.1 h
  go_wp21;go_ret2;exact⟨rfl,HB2.out⟩
 ·obtain rfl:=CZ.out.2.2 h
  have h1:¬a*d<b*c:=by omega
  have h2:¬b*c<a*d:=by omega
  clear h;go_wp21;go_ret2;exact⟨rfl,HB2.out⟩
 ·obtain rfl:=CZ.out.2.1 h
  have h1:¬a*d<b*c:=by omega
  go_wp21;go_ret2;exact⟨rfl,HB2.out⟩
theorem z5p (p q:Rat) (i j:Nat) (hi:0<i) (hj:0<j) (hij:i+j<=300) (sp:sz p i) (sq:sz q j) (hf:¬(zm0 p/\zm0 q)) (w:zA) (hw:Wd w):
 qJ 87 #[St (numS p),St (numS q)] w (.tuple #[.int .i64 (cmpR p q),.int .i64 0]):=by
 rw[<-zim];have hp:=zoo hi (by omega) sp;have hq:=zoo hj (by omega) sq;have c0:=λW hW=>zrs p q hp hq W hW;have c1:=λW=>z0y p hp W;have c2:=λW=>z0y q hq W;have c3:=λW=>zre p hp W;have c4:=λW=>zre q hq W;have dg:∀k:Nat,digs (k:Int)=(zD k).length:=λk=>by unfold digs;rw[Int.natAbs_natCast]
 have x1:digs (p.num*q.den)<=i+j:=z1j (by omega) sp.1 (by rw[Int.natAbs_natCast];exact sq.2);have x3:digs (q.num*p.den)<=i+j:=by rw[Nat.add_comm];exact z1j (by omega) sq.1 (by rw[Int.natAbs_natCast];exact sp.2)
 have c5:=λW hW=>z15 p.num (q.den:Int) q.num (p.den:Int) hp.1 (by rw[dg];exact hq.2) hq.1 (by rw[dg];exact hp.2) (by omega) (by omega) W hW;have c6:=λW=>z5h (p.num*q.den) (q.num*p.den) (by omega) (by omega) W;rw[Str.zad,Str.zad] at c5;have hcase:(decide (zm0 p)=false)\/(decide (zm0 p)=true/\decide (zm0 q)=false):=by
  by_cases h1:zm0 p
  ·right;exact⟨decide_eq_true h1,decide_eq_false (λh2=>hf ⟨h1,h2⟩)⟩
  ·left;exact decide_eq_false h1
 have C0:=hid c0;have C1:=hid c1;have C2:=hid c2;have C3:=hid c3;have C4:=hid c4;have C5:=hid c5;have C6:=hid c6;have HW:=hid hw;clear c0 c1 c2 c3 c4 c5 c6 hw hp hq dg x1 x3 sp sq hf;generalize cmpZ (p.num*q.den) (q.num*p.den)=t at*
 generalize zE (p.num*q.den)=m1 at*
 generalize zE (q.num*p.den)=m2 at*
 generalize numS p=tp at*
 generalize numS q=tq at*
 generalize zE p.num=n1 at*
 generalize zE q.num=n2 at*
 generalize zD p.den=d1 at*
 generalize zD q.den=d2 at*
 generalize decide (zm0 p)=b1 at*
 generalize decide (zm0 q)=b2 at*
 go_enter Tryz.func87,Tryz.ntmps87;go_wp21;refine zzM (C0.out w HW.out) λw0 hb0=>?_;have HB0:=hid hb0;clear hb0;go_wp21;refine(C1.out w0).mono ?_;rintro e w1 ⟨⟨za,zb,rfl⟩,hb1⟩;have HB1:=qT HB0 hb1;clear hb1;go_wp21;refine(C2.out w1).mono ?_;rintro e w2 ⟨⟨zc,zd,rfl⟩,hb2⟩;have HB2:=qT HB1 hb2;clear hb2;rcases hcase with rfl|⟨rfl,rfl⟩<;>(
  go_wp21;refine zzM (C3.out w2) λw3 hb3=>?_;have HB3:=qT HB2 hb3;clear hb3;go_wp21;refine zzM (C4.out w3) λw4 hb4=>?_;have HB4:=qT HB3 hb4;clear hb4;go_wp21;refine zzM (C5.out w4 (HW.out.below HB4.out)) λw5 hb5=>?_;have HB5:=qT HB4 hb5;clear hb5;go_wp21;refine zzM (C6.out w5) λw6 hb6=>?_;have HB6:=qT HB5 hb6;clear hb6;go_wp21;go_ret2;exact⟨rfl,HB6.out⟩)
theorem z2a (p q:Rat) (i j:Nat) (hi:0<i) (hj:0<j) (hij:i+j<=300) (sp:sz p i) (sq:sz q j) (w:zA) (hw:Wd w):
 qJ 87 #[St (numS p),St (numS q)] w (.tuple #[.int .i64 (cmpR p q),.int .i64 0]):=by
 by_cases h:zm0 p/\zm0 q
 ·exact z4q p q (zoo hi (by omega) sp) (zoo hj (by omega) sq) h.1 h.2 w hw
 ·exact z5p p q i j hi hj hij sp sq h w hw
theorem zdn {w y:zA} {cs:Array Value} {t:TypeId} (hy:y=w.alloc (.cells cs t)):qL w y/\y.heap[w.heap.size]? =some (.cells cs t (0,0)):=by
 rw[hy];exact⟨(zM _ w).alloc (zN _) _,zG w _⟩
end
section
open Go.RowKit Go.Shelf Lib Str Limb
attribute [local go_sem] Oper.semAt_some
section
variable {w W W':zA} {a0 a1 a2 b0 b1 b2 o0 o1 o2:List UInt8} {Y:Nat}
theorem zah {W:zA} {A:Nat} {x y z:Value} {t:TypeId} (h:W.heap[A]? =some (.cells #[x,y,z] t (0,0))):W.cell? ⟨A,0,none⟩=some x/\W.cell? ⟨A,1,none⟩=some y/\W.cell? ⟨A,2,none⟩=some z/\W.frozen? ⟨A,0,none⟩=false/\W.frozen? ⟨A,1,none⟩=false/\W.frozen? ⟨A,2,none⟩=false:=
 ⟨by rw[zJ h];rfl,by rw[zJ h];rfl,by rw[zJ h];rfl,Go.Joins.unfrozen_of_block h 0,Go.Joins.unfrozen_of_block h 1,Go.Joins.unfrozen_of_block h 2⟩
end
section
variable {n X0 Y0:Nat} {z:Array Value} {c:Nat->Array Value} {t:TypeId} {w W W':zA} {q:Nat->Nat} {f:Nat->Bool}
end
section
variable {w W W':zA} {x0 x1 x2 y0 y1 y2 o0 o1 o2:List UInt8} {Y1 Y2:Nat}
end
end
section
open Go.RowKit Go.Shelf Lib Str Limb
end
section
open Go.RowKit Go.Shelf Lib Str Limb Geo
attribute [local go_sem] Oper.semAt_some
section
variable {w W W':zA} {a b c a' b' c':List UInt8} {d d':Value}
end
end
section
open Go.RowKit Go.Shelf Lib Str Limb
attribute [local go_sem] Oper.semAt_some
def h12 (X Y Z:Nat->List UInt8) (D:Nat->Value):Array Value:= #[St (X 0),St (Y 0),St (Z 0),D 0,St (X 1),St (Y 1),St (Z 1),D 1,St (X 2),St (Y 2),St (Z 2),D 2]
section
variable {w W W':zA} {ha hb hc X X':Array Value} {T:Nat} {D:Option Nat}
end
section
variable {w W:zA} {hb hc:Array Value} {T:Nat} {D:Option Nat}
end
section
variable {w W W':zA} {ha hb hc X V:Array Value} {T D O:Nat} {o0 o1 o2:Value}
end
section
variable {w W W':zA} {X Y Z cx cy cz:Nat->List UInt8} {Dv:Nat->Value} {T B k:Nat}
end
end
section
open Go.RowKit Go.Shelf Lib Str Limb
end
section
open Go.RowKit Go.Shelf Lib Str Limb Geo
attribute [local go_sem] Oper.semAt_some
end
section
open Go.RowKit Go.Shelf Lib Str Limb
section
variable {A B C:Nat->Rat} {D:Nat->List (Rat×Nat)}
end
section
variable {X Y Z D:List (Rat×Nat)} (hX:PosR X) (hY:PosR Y) (hZ:PosR Z) (hD:PosR D)
include hX hY
end
def dfL (l m:List (Rat×Nat)):List (Rat×Nat):=mkG (l++sclL m (-1))
theorem zmg (x:Rat):0<=x*x:=by
 rcases Rat.le_total (a:=0) (b:=x) with h|h
 ·exact Rat.mul_nonneg h h
 ·have:=Rat.mul_nonneg (show(0:Rat)<= -x by grind) (show(0:Rat)<= -x by grind)
  grind
theorem z8v {l m:List (Rat×Nat)} (hl:PosR l) (hm:PosR m):PosR (l++sclL m (-1)):=ybx hl (yby hm (-1))
theorem yc4 {N d s z j s':Nat} (hd:0<d) (h2:N<(s+1)*(s+1)) (hz:s/d=z) (hj:2*((z+1)*d)*d<=10^j) (h3:s'*s'<=N*(10^j*10^j)):s'/d+2<=(z+1)*10^j:=by
 have a2:s+1<=(z+1)*d:=by
  have:=Nat.lt_div_mul_add hd (a:=s);rw[hz] at this;rw[Nat.add_mul,Nat.one_mul];omega
 have hA:N+1<=(z+1)*d*((z+1)*d):=zS h2 (Nat.mul_le_mul a2 a2);generalize hAe:(z+1)*d=A at*
 generalize 10^j=T at*
 have hA1:d<=A:=by rw[<-hAe,Nat.add_mul,Nat.one_mul];omega
 have hT:1<=T:=by
  have:0<2*A*d:=Nat.mul_pos (Nat.mul_pos (by omega) (by omega)) hd;omega
 have hAT:d<=A*T:=zO hA1 (Nat.le_mul_of_pos_right _ hT);have h4:s'<A*T-d:=by
  refine zx7 ?_;have h5:(N+1)*(T*T)<=A*A*(T*T):=Nat.mul_le_mul_right _ hA;have h6:2*A*d*T<=T*T:=Nat.mul_le_mul_right _ hj;have h7:(A*T-d)*(A*T-d)+2*A*d*T=A*A*(T*T)+d*d:=by
   have e:A*T=(A*T-d)+d:=by omega
   generalize A*T-d=x at*
   have e1:A*A*(T*T)=(A*T)*(A*T):=by ac_rfl
   have e2:2*A*d*T=2*(A*T)*d:=by ac_rfl
   rw[e1,e2,e];simp only[Nat.mul_add,Nat.add_mul,Nat.mul_assoc];have:x*d=d*x:=Nat.mul_comm _ _;omega
  have h8:0<d*d:=Nat.mul_pos hd hd;rw[Nat.add_mul,Nat.one_mul] at h5;omega
 have h5:s'/d*d<=s':=Nat.div_mul_le_self _ _;have h6:(s'/d+1)*d<A*T:=by rw[Nat.add_mul,Nat.one_mul];omega
 have h7:A*T=(z+1)*T*d:=by rw[<-hAe];ac_rfl
 rw[h7] at h6;have:=Nat.lt_of_mul_lt_mul_right h6;omega
theorem yc5 {N d j s' c:Nat} (hd:0<d) (hN:c*d*(c*d)<N) (hj:4*(c*d)*d+4*(d*d)<=10^j) (h3:N*(10^j*10^j)<(s'+1)*(s'+1)):c*10^j+2<=s'/d:=by
 generalize hB:c*d=B at*
 generalize 10^j=T at*
 have h4:B*T+2*d<s'+1:=by
  refine zx7 ?_;have h5:(B*B+1)*(T*T)<=N*(T*T):=Nat.mul_le_mul_right _ hN;have h6:(4*B*d+4*(d*d))*T<=T*T:=Nat.mul_le_mul_right _ hj;have hT:1<=T:=by
   have:0<d*d:=Nat.mul_pos hd hd;omega
  have h7:4*(d*d)<=4*(d*d)*T:=Nat.le_mul_of_pos_right _ hT;have e1:(B*T+2*d)*(B*T+2*d)=B*B*(T*T)+4*B*d*T+4*(d*d):=by
   have a1:B*T*(B*T)=B*B*(T*T):=by ac_rfl
   have a2:B*T*(2*d)=2*(B*d*T):=by ac_rfl
   have a3:2*d*(B*T)=2*(B*d*T):=by ac_rfl
   have a4:2*d*(2*d)=4*(d*d):=by
    rw[show 2*d*(2*d)=(2*2)*(d*d) by ac_rfl]
   have a5:4*B*d*T=4*(B*d*T):=by ac_rfl
   simp only[Nat.mul_add,Nat.add_mul];rw[a1,a2,a3,a4,a5];omega
  rw[e1];rw[Nat.add_mul,Nat.one_mul] at h5;rw[Nat.add_mul] at h6;omega
 refine(Nat.le_div_iff_mul_le hd).2 ?_;have:(c*T+2)*d=B*T+2*d:=by rw[<-hB,Nat.add_mul];congr 1;ac_rfl
 omega
theorem ydv {t:Rat×Nat} (hne:t.1≠0) (hr:0<t.2) (p:Nat):∃j,flT t (p+j)+2<=(flT t p+1)*(10^j:Nat):=by
 have hd:0<t.1.den:=t.1.den_pos;have hT:∀j,trN t (p+j)=trN t p*(10^j*10^j):=λj=>by
  unfold trN;rw[show 2*(p+j)=2*p+(j+j) by omega,Nat.pow_add,Nat.pow_add];simp only[Nat.mul_assoc]
 have hN0:0<trN t p:=by
  unfold trN;have:0<t.1.num.natAbs:=Int.natAbs_pos.2 λe=>hne (Rat.num_eq_zero.1 e);exact Nat.mul_pos (Nat.mul_pos (Nat.mul_pos this this) hr) (yS (by simp))
 obtain⟨s1,s2⟩:=zv0 (trN t p);have big:∀n:Nat,n<=10^n:=λn=>Nat.le_of_lt (Nat.lt_pow_self (by omega));by_cases hn:t.1.num<0
 ·-- negative
  obtain⟨c,hc,hcN⟩:∃c:Nat,flT t p+1= -(c:Int)/\c*t.1.den*(c*t.1.den)<trN t p:=by
   unfold flT floT;rw[if_pos hn];generalize isq (trN t p)=s at*
   have b1:=Nat.div_mul_le_self s t.1.den;by_cases h:s*s=trN t p/\s%t.1.den=0
   ·rw[if_pos h]
    have e:s/t.1.den*t.1.den=s:=Nat.div_mul_cancel (Nat.dvd_of_mod_eq_zero h.2);have hs:0<s:=yS λk=>by rw[k] at h;omega
    have hz:0<s/t.1.den:=yS λk=>by rw[k] at e;omega
    refine⟨s/t.1.den-1,by omega,?_⟩;have:(s/t.1.den-1)*t.1.den<s:=by
     rw[Nat.sub_mul,Nat.one_mul,e];omega
    rw[<-h.1];exact Nat.mul_self_lt_mul_self_iff.2 this
   ·rw[if_neg h]
    refine⟨s/t.1.den,by omega,?_⟩;rcases Nat.lt_or_ge (s/t.1.den*t.1.den) s with k|k
    ·exact zS (Nat.mul_self_lt_mul_self_iff.2 k) s1
    ·have e:s/t.1.den*t.1.den=s:=by omega
     rw[e];have hm:s%t.1.den=0:=by
      have:=Nat.div_add_mod s t.1.den;rw[Nat.mul_comm] at this;omega
     have:s*s≠trN t p:=λq=>h ⟨q,hm⟩;omega
  refine⟨4*(c*t.1.den)*t.1.den+4*(t.1.den*t.1.den),?_⟩;generalize hj:4*(c*t.1.den)*t.1.den+4*(t.1.den*t.1.den)=j;have hj2:=big j;obtain⟨r1,r2⟩:=zv0 (trN t (p+j));have g:=yc5 hd hcN (by rw[hj];exact hj2) (by rw[<-hT];exact r2);rw[hc];unfold flT floT;rw[if_pos hn];generalize isq (trN t (p+j))/t.1.den=z at*
  have e: -(c:Int)*((10^j:Nat):Int)= -((c*10^j:Nat):Int):=by rw[Int.neg_mul,Int.natCast_mul]
  rw[e];split<;>omega
 ·refine⟨2*((isq (trN t p)/t.1.den+1)*t.1.den)*t.1.den,?_⟩
  generalize hj:2*((isq (trN t p)/t.1.den+1)*t.1.den)*t.1.den=j;have hj2:=big j;obtain⟨r1,r2⟩:=zv0 (trN t (p+j));have g:=yc4 hd s2 rfl (by rw[hj];exact hj2) (by rw[<-hT];exact r1);unfold flT floT;rw[if_neg hn,if_neg hn];have e:(((isq (trN t p)/t.1.den:Nat):Int)+1)*((10^j:Nat):Int)=(((isq (trN t p)/t.1.den+1)*10^j:Nat):Int):=by
   rw[Int.natCast_mul,Int.natCast_add];rfl
  rw[e];omega
theorem yb0 {l:List (Rat×Nat)} (hl:l≠[]) (h:∀t∈l,t.1≠0) (hp:PosR l) {p:Nat} (hn:valZ l p+l.length<=0):∃P,∀q,valZ l q*(10^P:Nat)<= -((10^q:Nat):Int):=by
 obtain⟨t,m,rfl⟩:∃t m,l=t::m:=by
  cases l with
  |nil=>exact(hl rfl).elim
  |cons t m=>exact⟨t,m,rfl⟩
 have hr:0<t.2:=by have:=hp t (yD ..);exact_mod_cast this
 obtain⟨j,hj⟩:=ydv (h t (yD ..)) hr p;refine⟨p+j,λq=>?_⟩;have h1:=zze (h t (yD ..)) (p+j) q;have h1':=zze (h t (yD ..)) q (p+j);have h2:=zle q p m λc hc=>h c (List.mem_cons_of_mem _ hc);have hv:valZ (t::m) p=flT t p+valZ m p:=rfl;have hv':valZ (t::m) q=flT t q+valZ m q:=rfl;rw[hv] at hn;rw[hv'];have hlen:((t::m).length:Int)=(m.length:Int)+1:=by simp
 rw[hlen] at hn;have eP:((10^(p+j):Nat):Int)=((10^p:Nat):Int)*((10^j:Nat):Int):=by rw[Nat.pow_add,Int.natCast_mul]
 have P0:(0:Int)<((10^p:Nat):Int):=by exact_mod_cast yS (by simp)
 have J0:(0:Int)<((10^j:Nat):Int):=by exact_mod_cast yS (by simp)
 have Q0:(0:Int)<((10^q:Nat):Int):=by exact_mod_cast yS (by simp)
 rw[eP] at h1'⊢;generalize ((10^p:Nat):Int)=P at*
 generalize ((10^j:Nat):Int)=J at*
 generalize ((10^q:Nat):Int)=Q at*
 generalize flT t p=a at*
 generalize flT t q=b at*
 generalize flT t (p+j)=g at*
 generalize valZ m p=u at*
 generalize valZ m q=v at*
 generalize (m.length:Int)=n at*
 have k1:(g+1)*Q<=((a+1)*J-1)*Q:=Int.mul_le_mul_of_nonneg_right (by omega) (Int.le_of_lt Q0);have k2:=Int.mul_le_mul_of_nonneg_right h2 (Int.le_of_lt J0);have k3:((a+1)+(u+n))*(J*Q)<=0:=Int.mul_nonpos_of_nonpos_of_nonneg (by omega) (Int.le_of_lt (Int.mul_pos J0 Q0));have e1:(b+v)*(P*J)=b*(P*J)+v*P*J:=by rw[Int.add_mul,Int.mul_assoc v]
 have e2:((a+1)*J-1)*Q=(a+1)*(J*Q)-Q:=by rw[Int.sub_mul,Int.one_mul,Int.mul_assoc]
 have e3:(u+n)*Q*J=(u+n)*(J*Q):=by rw[Int.mul_assoc,Int.mul_comm Q J]
 rw[Int.add_mul] at k3;rw[e1];rw[e2] at k1;rw[e3] at k2;omega
theorem yb1 {l:List (Rat×Nat)} (h:∀t∈l,t.1≠0) {p:Nat} (hp:0<valZ l p) (q:Nat):((10^q:Nat):Rat)<=(vZ l q+(l.length:Rat))*((10^p:Nat):Rat):=by
 have h1:=zle p q l h;have Q0:(0:Int)<=((10^q:Nat):Int):=Int.natCast_nonneg _;have a:=Int.mul_le_mul_of_nonneg_right (show 1<=valZ l p by omega) Q0;rw[Int.one_mul] at a;have b:((10^q:Nat):Int)<=(valZ l q+(l.length:Int))*((10^p:Nat):Int):=by omega
 have c:((((10^q:Nat):Int)):Rat)<=(((valZ l q+(l.length:Int))*((10^p:Nat):Int):Int):Rat):=by exact_mod_cast b
 rw[Rat.intCast_mul,Rat.intCast_add] at c;exact c
def tn (q:Nat):Rat:=((10^q:Nat):Rat)
theorem zp3 (q:Nat):0<tn q:=by unfold tn;exact_mod_cast yS (by simp)
theorem ydw (q:Nat):1<=tn q:=by unfold tn;exact_mod_cast yS (show 10^q≠0 by simp)
theorem ydx (q:Nat):tn (2*q)=tn q*tn q:=by
 unfold tn;rw[show 2*q=q+q by omega,Nat.pow_add,Rat.natCast_mul]
theorem yc6 {p q:Nat} (h:p<=q):tn p<=tn q:=by
 unfold tn;exact_mod_cast Nat.pow_le_pow_right (by omega) h
theorem yak (C:Rat):∃p,∀q,p<=q->C<tn q:=by
 obtain⟨p,h⟩:=yc1 C;exact⟨p,λq hq=>Std.lt_of_lt_of_le h (yc6 hq)⟩
def Up (f:Nat->Rat):Prop:=∃e K:Rat,∃p:Nat,0<e/\∀q,p<=q->e*(tn q*tn q)-K*tn q<=f q
theorem Up.big {f:Nat->Rat} (h:Up f) (C:Rat):∃q,C<f q:=by
 obtain⟨e,K,p,he,hf⟩:=h;obtain⟨B,hB,hC⟩:∃B:Rat,0<=B/\C<=B:=by
  rcases(show 0<=C\/C<=0 by grind) with c|c
  ·exact⟨C,c,by grind⟩
  ·exact⟨0,by grind,c⟩
 obtain⟨p1,h1⟩:=yak ((K+B+1)/e);refine⟨p+p1,?_⟩;have g1:=h1 (p+p1) (by omega);have g3:=hf (p+p1) (by omega);have g4:=ydw (p+p1);generalize tn (p+p1)=T at*
 have k1:K+B+1<e*T:=by
  have:=Rat.mul_lt_mul_of_pos_left g1 he;rwa [show e*((K+B+1)/e)=K+B+1 by grind] at this
 have k2:=Rat.mul_le_mul_of_nonneg_right (Rat.le_of_lt k1) (show(0:Rat)<=T by grind);have:=Rat.mul_le_mul_of_nonneg_left g4 (show 0<=B+1 by grind);grind
theorem yal {l:List (Rat×Nat)} (h:∀t∈l,t.1≠0) (hp:PosR l) (hl:l≠[]) (e:sgeL l=0):(sgnL l=1\/sgnL l= -1)/\∃ε C:Rat,0<ε/\0<=C/\∀q,ε*tn q-C<=(sgnL l:Rat)*vZ l q:=by
 have s1:sgnL l=sgnP l.length λk=>valZ l (plN k):=if_neg hl;have n1:sgnL l≠0:=λz=>by
  rw[show sgeL l=errP (sgnL l) from if_neg hl,z] at e;cases e
 rcases zg3 l.length (λk=>valZ l (plN k)) with⟨a,k,hk⟩|⟨a,k,hk⟩|a
 ·rw[<-s1] at a
  rw[a];refine⟨.inl rfl,1/tn (plN k),(l.length:Rat),?_,by exact_mod_cast zR _,λq=>?_⟩
  ·rw[Rat.div_def,Rat.one_mul];exact Rat.inv_pos.2 (zp3 _)
  ·have g:tn q<=(vZ l q+(l.length:Rat))*tn (plN k):=yb1 h hk q
   have hP:=zp3 (plN k);have e1:((1:Int):Rat)=1:=rfl;rw[e1];generalize tn (plN k)=P at*
   have hi:0<1/P:=by rw[Rat.div_def,Rat.one_mul];exact Rat.inv_pos.2 hP
   have:=Rat.mul_le_mul_of_nonneg_right g (Rat.le_of_lt hi);have e2:(vZ l q+(l.length:Rat))*P*(1/P)=vZ l q+(l.length:Rat):=by grind
   grind
 ·rw[<-s1] at a
  rw[a];obtain⟨P,hP⟩:=yb0 hl h hp hk;refine⟨.inr rfl,1/tn P,0,?_,by grind,λq=>?_⟩
  ·rw[Rat.div_def,Rat.one_mul];exact Rat.inv_pos.2 (zp3 _)
  ·have g:vZ l q*tn P<= -tn q:=by
    have:=hP q;have h2:(((valZ l q*((10^P:Nat):Int):Int)):Rat)<=((-((10^q:Nat):Int):Int):Rat):=by exact_mod_cast this
    rw[Rat.intCast_mul,Rat.intCast_neg] at h2;exact h2
   have hP:=zp3 P;have e1:((-1:Int):Rat)= -1:=rfl;rw[e1];generalize tn P=T at*
   have hi:0<1/T:=by rw[Rat.div_def,Rat.one_mul];exact Rat.inv_pos.2 hP
   have:=Rat.mul_le_mul_of_nonneg_right g (Rat.le_of_lt hi);have e2:vZ l q*T*(1/T)=vZ l q:=by grind
   grind
 ·rw[<-s1] at a
  exact absurd a n1
theorem zzf (q:Nat):rtF 1 q=10^q:=by
 unfold rtF;rw[Nat.one_mul,show 2*q=q+q by omega,Nat.pow_add];exact z1p _
end
section
open Go.RowKit Lib Str Limb
def Gr (f:Nat->Rat):Prop:=∃ε C:Rat,0<ε/\∀q,ε*tn q-C<=f q
def Lo (f:Nat->Rat):Prop:=∃C:Rat,∀q, -C<=f q
theorem Bd.lo {f:Nat->Rat} (h:Bd f):Lo f:=let ⟨K,h⟩:=h;⟨K,λq=>(h q).1⟩
theorem Lo.congr {f g:Nat->Rat} (h:Lo f) (e:∀q,g q=f q):Lo g:=let ⟨C,h⟩:=h;⟨C,λq=>by rw[e];exact h q⟩
theorem Lo.add {f g:Nat->Rat} (hf:Lo f) (hg:Lo g):Lo λq=>f q+g q:=by
 obtain⟨C,hf⟩:=hf;obtain⟨D,hg⟩:=hg;exact⟨C+D,λq=>by have:=hf q;have:=hg q;grind⟩
theorem Gr.no {f g:Nat->Rat} (h:Gr f) (h':Lo g) (e:∀q,g q= -f q):False:=by
 obtain⟨ε,C,h0,h⟩:=h;obtain⟨D,h'⟩:=h';obtain⟨p,hp⟩:=yak ((C+D)/ε);have h1:=h p;have h2:=h' p;have h3:=hp p (zN _);rw[e] at h2;have h4:=Rat.mul_lt_mul_of_pos_left h3 h0;rw[show ε*((C+D)/ε)=C+D by grind] at h4;grind
theorem ydy {T:List (Rat×Nat)}:∀t∈mkG T,t.1≠0:=λ_ hc=>(zx8 hc).2
end
section
open Go.RowKit Lib Str Limb Geo
theorem yhn {a b:Rat} (h0:0<=a) (h:a<b):a*a<b*b:=by
 have h1:=Rat.mul_le_mul_of_nonneg_left (Rat.le_of_lt h) h0;have h2:=Rat.mul_lt_mul_of_pos_right h (show 0<b by grind);grind
theorem zug {a b:Rat} (h0:0<=b) (h:a*a<=b*b):a<=b:=by
 rcases(show a<=b\/b<a by grind) with g|g
 ·exact g
 ·have:=yhn h0 g;grind
def Dom (x y T X:Rat):Prop:=0<=X/\(x*x+y*y)*(T*T)<=X*X
theorem Dom.opp {x y T X:Rat} (h:Dom x y T X):Dom (-x) (-y) T X:=⟨h.1,by have:=h.2;grind⟩
theorem Dom.zero (T:Rat):Dom 0 0 T 0:=⟨by grind,by grind⟩
theorem Dom.add {x y u v T X Z:Rat} (h:Dom x y T X) (k:Dom u v T Z):Dom (x+u) (y+v) T (X+Z):=by
 obtain⟨h0,h1⟩:=h;obtain⟨k0,k1⟩:=k;have xz:=Rat.mul_nonneg h0 k0;have e0:0<=(x*x+y*y)*(T*T):=Rat.mul_nonneg (by have:=zmg x;have:=zmg y;grind) (zmg T);have m1:=Rat.mul_le_mul_of_nonneg_left k1 e0;have m2:=Rat.mul_le_mul_of_nonneg_right h1 (zmg Z);have s:=Rat.mul_nonneg (zmg (x*v-y*u)) (zmg (T*T));have:(x*u+y*v)*(T*T)<=X*Z:=zug xz (by grind);exact⟨by grind,by grind⟩
def ampR (q:Rat):Rat:=((zn7 (q.num.natAbs*q.den)).1:Rat)/(q.den:Rat)
def radR (q:Rat):Nat:=(zn7 (q.num.natAbs*q.den)).2
theorem zn5 (c q:Rat):nrT (c,q)=(c*ampR q,radR q):=rfl
theorem zi0 {q:Rat} (h:0<q):ampR q*ampR q*(radR q:Rat)=q/\0<ampR q/\0<radR q:=by
 obtain⟨hn,n0⟩:=z9b h;have d0:=q.den_pos;obtain⟨e,h1,h2, -⟩:=zf5 (Nat.mul_pos n0 d0);unfold ampR radR;generalize (zn7 (q.num.natAbs*q.den)).1=C at*
 generalize (zn7 (q.num.natAbs*q.den)).2=L at*
 have dq:(0:Rat)<(q.den:Rat):=by exact_mod_cast d0
 have cq:(0:Rat)<(C:Rat):=by exact_mod_cast h1
 have e2:(C:Rat)*(C:Rat)*(L:Rat)=((q.num.natAbs:Nat):Rat)*(q.den:Rat):=by exact_mod_cast congrArg (Nat.cast (R:=Rat)) e
 have e3:((q.num.natAbs:Nat):Rat)=q*(q.den:Rat):=by
  have:=zrr q;rw[<-this];have n1:((q.num.natAbs:Nat):Int)=q.num:=Int.natAbs_of_nonneg (Rat.num_nonneg.2 (Rat.le_of_lt h));exact_mod_cast congrArg (Int.cast (R:=Rat)) n1
 refine⟨?_,div_pos cq dq,h2⟩;rw[e3] at e2;have d1:(q.den:Rat)≠0:=by grind
 generalize (q.den:Rat)=d at*
 have:(C:Rat)/d*((C:Rat)/d)*(L:Rat)=((C:Rat)*(C:Rat)*(L:Rat))/d/d:=by
  simp only[Rat.div_def];grind
 rw[this,e2];simp only[Rat.div_def];rw[Rat.mul_assoc (q*d),Rat.mul_assoc q d,<-Rat.mul_assoc d d,Rat.mul_assoc d d,Rat.mul_inv_cancel d d1];grind
theorem yho {a b:Nat} (h:a<=b):isq a<=isq b:=
 Nat.le_of_lt_succ (Nat.mul_self_lt_mul_self_iff.1 (Nat.lt_of_le_of_lt (zO (zv0 a).1 h) (zv0 b).2))
theorem z4w (r k:Nat):((rtF r k:Nat):Rat)*((rtF r k:Nat):Rat)<=(r:Rat)*(tn k*tn k)/\(r:Rat)*(tn k*tn k)<=(((rtF r k:Nat):Rat)+1)*(((rtF r k:Nat):Rat)+1):=by
 obtain⟨h1,h2⟩:=zv0 (r*10^(2*k));rw[<-ydx];unfold rtF tn;generalize isq (r*10^(2*k))=z at*
 generalize 10^(2*k)=T at*
 have h3:=Nat.le_of_lt h2;exact⟨by exact_mod_cast h1,by exact_mod_cast h3⟩
def sdY (q:Rat) (k:Nat):Rat:=ampR q*((rtF (radR q) k:Nat):Rat)+ampR q
theorem yfs {x y q:Rat} (hq:0<q) (e:x*x+y*y=q) (k:Nat):Dom x y (tn k) (sdY q k):=by
 obtain⟨e1,a0, -⟩:=zi0 hq;obtain⟨-,h2⟩:=z4w (radR q) k;unfold sdY Dom;have r0:(0:Rat)<=((rtF (radR q) k:Nat):Rat):=by exact_mod_cast zR _
 rw[e];generalize ((rtF (radR q) k:Nat):Rat)=R at*
 generalize (radR q:Rat)=L at*
 generalize ampR q=a at*
 have m:=Rat.mul_le_mul_of_nonneg_left h2 (zmg a);have:=Rat.mul_nonneg (Rat.le_of_lt a0) r0;refine⟨by grind,?_⟩;rw[<-e1];grind
theorem zvr {x y q Y:Rat} (hq:0<q) (e:x*x+y*y=q) {k:Nat} (h:Dom x y (tn k) Y):ampR q*((rtF (radR q) k:Nat):Rat)<=Y:=by
 obtain⟨e1,a0, -⟩:=zi0 hq;obtain⟨h1, -⟩:=z4w (radR q) k;obtain⟨y0,h2⟩:=h;rw[e] at h2;refine zug y0 ?_;generalize ((rtF (radR q) k:Nat):Rat)=R at*
 generalize (radR q:Rat)=L at*
 generalize ampR q=a at*
 have m:=Rat.mul_le_mul_of_nonneg_left h1 (zmg a);rw[<-e1] at h2;grind
def sidT (l:List Pt) (n:Nat):List (Rat×Rat):=(List.range n).map λj=>(1,sqS l j)
def sumY (l:List Pt) (k:Nat):Nat->Rat
 |0=>0
 |i+1=>sumY l k i+sdY (sqS l i) k
theorem zm3 (l:List Pt):∀n,Bd λk=>vZ ((sidT l n).map nrT) k-sumY l k n
 |0=>Bd.zero.congr λk=>by show vZ [] k-0=0;rw[zfu];grind
 |n+1=>by
  have e:(sidT l (n+1)).map nrT=(sidT l n).map nrT++[nrT (1,sqS l n)]:=by
   unfold sidT;rw[List.range_succ,List.map_append,List.map_append];rfl
  have c:Bd λ_:Nat=> -ampR (sqS l n):=⟨ampR (sqS l n)+ -ampR (sqS l n)+(if 0<=ampR (sqS l n) then ampR (sqS l n) else-ampR (sqS l n)),λ_=>by constructor<;>split<;>grind⟩;refine(((zm3 l n).add (zpl (nrT (1,sqS l n)))).add c).congr λk=>?_;rw[e,z5s,zfb,zfu,zn5];show _-(sumY l k n+sdY _ k)=_;unfold sdY;dsimp only;grind
theorem ziy {l:List Pt} {n:Nat} (h:∀j,j<n->0<sqS l j) (k i:Nat):∀m,i+m<=n->Dom ((cor l (i+m)).x-(cor l i).x) ((cor l (i+m)).y-(cor l i).y) (tn k) (sumY l k (i+m)-sumY l k i)
 |0,_=>by
  have:=Dom.zero (tn k);rw[Nat.add_zero,show(cor l i).x-(cor l i).x=0 by grind,show(cor l i).y-(cor l i).y=0 by grind,show sumY l k i-sumY l k i=0 by grind];exact this
 |m+1,hm=>by
  have s:=yfs (h (i+m) (by omega)) (show((cor l (i+m+1)).x-(cor l (i+m)).x)*_+_=sqS l (i+m) from rfl) k;have:=(ziy h k i m (by omega)).add s;rw[show i+(m+1)=i+m+1 by omega]
  rw[show(cor l (i+m+1)).x-(cor l i).x=((cor l (i+m)).x-(cor l i).x)+((cor l (i+m+1)).x-(cor l (i+m)).x) by grind,show(cor l (i+m+1)).y-(cor l i).y=((cor l (i+m)).y-(cor l i).y)+((cor l (i+m+1)).y-(cor l (i+m)).y) by grind,
   show sumY l k (i+m+1)-sumY l k i=(sumY l k (i+m)-sumY l k i)+sdY (sqS l (i+m)) k by show sumY l k (i+m)+_-_=_;grind]
  exact this
theorem ygh {l:List Pt} (h:∀j,j<l.length->0<sqS l j) {i m:Nat} (hm:i+m<=l.length) {d:Rat} (hd:0<d)
 (e:((cor l (i+m)).x-(cor l i).x)*((cor l (i+m)).x-(cor l i).x)+((cor l (i+m)).y-(cor l i).y)*((cor l (i+m)).y-(cor l i).y)=d) (k:Nat):
 2*ampR d*((rtF (radR d) k:Nat):Rat)<=sumY l k l.length:=by
 have a1:=zvr hd e (ziy h k i m hm);have b1:=ziy h k 0 i (by omega);have b2:=ziy h k (i+m) (l.length-(i+m)) (by omega);have b3:=b2.add b1;have c0:cor l (0+i)=cor l i:=by rw[Nat.zero_add]
 have c1:cor l (i+m+(l.length-(i+m)))=cor l 0:=by
  rw[show i+m+(l.length-(i+m))=l.length by omega];unfold cor;rw[Nat.mod_self,Nat.zero_mod]
 rw[c0,c1,show i+m+(l.length-(i+m))=l.length by omega,Nat.zero_add,show sumY l k 0=0 from rfl] at b3;have a2:=zvr hd (by rw[<-e];grind) b3.opp;grind
theorem yh3 {l:List Pt} (h:∀j,j<l.length->0<sqS l j) {i j:Nat} (hi:i<l.length) (hj:j<l.length) {d:Rat} (hd:0<d)
 (e:((cor l i).x-(cor l j).x)*((cor l i).x-(cor l j).x)+((cor l i).y-(cor l j).y)*((cor l i).y-(cor l j).y)=d) (k:Nat):
 2*ampR d*((rtF (radR d) k:Nat):Rat)<=sumY l k l.length:=by
 rcases Nat.le_total i j with g|g
 ·obtain⟨m,rfl⟩:=Nat.exists_eq_add_of_le g
  exact ygh (i:=i) (m:=m) h (by omega) hd (by rw[<-e];grind) k
 ·obtain⟨m,rfl⟩:=Nat.exists_eq_add_of_le g
  exact ygh (i:=j) (m:=m) h (by omega) hd e k
def dblT (d:Rat):List (Rat×Nat):=if d=0 then[] else[nrT (2,d)]
theorem zlf {l:List Pt} {n:Nat} (h:∀j,j<n->0<sqS l j):PosR ((sidT l n).map nrT):=λt ht=>by
 obtain⟨u,hu,rfl⟩:=List.mem_map.1 ht;obtain⟨j,hj,rfl⟩:=List.mem_map.1 hu;have:=(zi0 (h j (List.mem_range.1 hj))).2.2;rw[zn5];dsimp only;generalize radR (sqS l j)=z at*
 exact_mod_cast this
theorem zm6 {d:Rat} (h:0<=d):PosR (dblT d):=λt ht=>by
 unfold dblT at ht;split at ht
 ·cases ht
 ·rename_i e
  rw[List.mem_singleton] at ht;subst ht;have:=(zi0 (q:=d) (by grind)).2.2;rw[zn5];dsimp only;generalize radR d=z at*
  exact_mod_cast this
theorem yhp {l:List Pt} (h:∀j,j<l.length->0<sqS l j) {i j:Nat} (hi:i<l.length) (hj:j<l.length) {d:Rat}
 (e:((cor l i).x-(cor l j).x)*((cor l i).x-(cor l j).x)+((cor l i).y-(cor l j).y)*((cor l i).y-(cor l j).y)=d):
 Lo λk=>vZ (mkG ((sidT l l.length).map nrT)) k-vZ (mkG (dblT d)) k:=by
 have d0:0<=d:=by rw[<-e];have:=zmg ((cor l i).x-(cor l j).x);have:=zmg ((cor l i).y-(cor l j).y);grind
 have n1:=(yc0 (zlf h)).add (zm3 l l.length);have n2:=yc0 (zm6 d0);have s0:∀k,0<=sumY l k l.length:=λk=>by
  have:=(ziy h k 0 l.length (by omega)).1;rw[Nat.zero_add,show sumY l k 0=0 from rfl] at this;grind
 by_cases z:d=0
 ·have e1:∀k,vZ (dblT d) k=0:=λk=>by rw[show dblT d=[] from if_pos z,zfu]
  refine((n1.add n2.neg).lo.add ⟨0,λk=>by have:=s0 k;show-0<=sumY l k l.length;grind⟩).congr λk=>?_;rw[e1];grind
 ·have e1:∀k,vZ (dblT d) k=((flT (nrT (2,d)) k:Int):Rat):=λk=>by rw[show dblT d=[nrT (2,d)] from if_neg z,zfb,zfu];grind
  refine(((n1.add n2.neg).add (zpl (nrT (2,d))).neg).lo.add (g:=λk=>sumY l k l.length-2*ampR d*((rtF (radR d) k:Nat):Rat)) ⟨0,λk=>by have:=yh3 h hi hj (by grind) e k;grind⟩).congr λk=>?_;rw[e1,zn5];dsimp only;grind
theorem yg2 {l:List Pt} (h:∀j,j<l.length->0<sqS l j) {i j:Nat} (hi:i<l.length) (hj:j<l.length) {d:Rat}
 (e:((cor l i).x-(cor l j).x)*((cor l i).x-(cor l j).x)+((cor l i).y-(cor l j).y)*((cor l i).y-(cor l j).y)=d)
 (h0:sgeL (dfL (mkG ((sidT l l.length).map nrT)) (mkG (dblT d)))=0):sgnL (dfL (mkG ((sidT l l.length).map nrT)) (mkG (dblT d)))≠ -1:=λhs=>by
 have d0:0<=d:=by rw[<-e];have:=zmg ((cor l i).x-(cor l j).x);have:=zmg ((cor l i).y-(cor l j).y);grind
 have L:=yhp h hi hj e;have pS:=ybw (zlf h);have pT:=ybw (zm6 d0);generalize mkG ((sidT l l.length).map nrT)=S at*
 generalize mkG (dblT d)=T at*
 have hn:dfL S T≠[]:=λg=>by rw[g] at hs;cases hs
 obtain⟨-,ε,C,e0, -,g⟩:=yal (l:=dfL S T) ydy (ybw (z8v pS pT)) hn h0;rw[hs] at g;have G:Gr λk=> -vZ (dfL S T) k:=⟨ε,C,e0,λk=>by have:=g k;rw[show((-1:Int):Rat)= -1 from rfl] at this;grind⟩;have B:=((yc0 (z8v pS pT)).add (z5t (-1) T)).lo.add L;refine G.no (g:=λk=>vZ (dfL S T) k) (B.congr λk=>?_) λk=>by grind
 show vZ (mkG (S++sclL T (-1))) k=_;rw[z5s];grind
theorem yel {l:List Pt} (h:∀j,j<l.length->0<sqS l j) (h1:0<l.length):mkG ((sidT l l.length).map nrT)≠[]:=λg=>by
 have n1:=(yc0 (zlf h)).add (zm3 l l.length);rw[g] at n1;obtain⟨es,as0,rs⟩:=zi0 (h 0 h1);have G:Gr λk=>sumY l k l.length:=by
  refine⟨ampR (sqS l 0),0,as0,λk=>?_⟩;have a:=(ziy h k 1 (l.length-1) (by omega)).1;rw[show 1+(l.length-1)=l.length by omega,show sumY l k 1=0+sdY (sqS l 0) k from rfl] at a;unfold sdY at a;have r1:tn k<=((rtF (radR (sqS l 0)) k:Nat):Rat):=by
   have:10^k<=rtF (radR (sqS l 0)) k:=by
    rw[<-zzf];unfold rtF;exact yho (Nat.mul_le_mul_right _ rs)
   unfold tn;exact_mod_cast this
  have:=Rat.mul_le_mul_of_nonneg_left r1 (Rat.le_of_lt as0);grind
 refine G.no (g:=λk=> -sumY l k l.length) (n1.lo.congr λk=>?_) λ_=>rfl;rw[zfu];grind
end
section
open Go.RowKit Go.Shelf Lib Str Limb
def pqC (b:Bool) (x y:ByteArray):Array Value:=if b=true then #[.string x,.string y] else #[St [],St []]
structure PqS (w:zA) (x y u v:ByteArray) (q:Nat×Nat) (f:Nat->Bool) (W:zA):Prop where
 bel:qL w W
 lo1:f 12=true->w.heap.size<=q.1
 lo2:f 13=true->w.heap.size<=q.2
 ne:f 12=true->f 13=true->q.1≠q.2
 a:f 12=true->W.heap[q.1]? =some (.cells (pqC (f 14) x y) 32 (0,0))
 b:f 13=true->W.heap[q.2]? =some (.cells (pqC (f 15) u v) 32 (0,0))
section
variable {w W:zA} {x y u v:ByteArray} {q:Nat×Nat} {f g:Nat->Bool}
theorem PqS.congr (h:PqS w x y u v q f W) (e12:g 12=f 12) (e13:g 13=f 13) (e14:g 14=f 14) (e15:g 15=f 15):PqS w x y u v q g W:=
 ⟨h.bel,by rw[e12];exact h.lo1,by rw[e13];exact h.lo2,by rw[e12,e13];exact h.ne,by rw[e12,e14];exact h.a,by rw[e13,e15];exact h.b⟩
theorem PqS.newA (h:PqS w x y u v q f W) (_:g 12=true) (e13:g 13=f 13) (e14:g 14=false) (e15:g 15=f 15):PqS w x y u v (W.heap.size,q.2) g (W.alloc (.cells #[St [],St []] 32)):=by
 have hb:qL W (W.alloc (.cells #[St [],St []] 32)):=(zM _ W).alloc (zN _) _;refine⟨h.bel.trans (hb.mono h.bel.size),λ_=>h.bel.size,by rw[e13];exact h.lo2,λ_ k=>?_,λ_=>by rw[e14];exact zG _ _,λk=>?_⟩
 ·rw[e13] at k
  have:=(Array.getElem?_eq_some_iff.1 (h.b k)).1;show W.heap.size≠q.2;omega
 ·rw[e13] at k
  rw[e15];exact(hb.block _ (Array.getElem?_eq_some_iff.1 (h.b k)).1).trans (h.b k)
theorem PqS.newB (h:PqS w x y u v q f W) (_:g 13=true) (e12:g 12=f 12) (e15:g 15=false) (e14:g 14=f 14):PqS w x y u v (q.1,W.heap.size) g (W.alloc (.cells #[St [],St []] 32)):=by
 have hb:qL W (W.alloc (.cells #[St [],St []] 32)):=(zM _ W).alloc (zN _) _;refine⟨h.bel.trans (hb.mono h.bel.size),by rw[e12];exact h.lo1,λ_=>h.bel.size,λk _=>?_,λk=>?_,λ_=>by rw[e15];exact zG _ _⟩
 ·rw[e12] at k
  have:=(Array.getElem?_eq_some_iff.1 (h.a k)).1;show q.1≠W.heap.size;omega
 ·rw[e12] at k
  rw[e14];exact(hb.block _ (Array.getElem?_eq_some_iff.1 (h.a k)).1).trans (h.a k)
theorem yem (b:Bool) (x y:ByteArray) (s t:Value):((pqC b x y).setIfInBounds 0 s).setIfInBounds 1 t= #[s,t]:=by cases b<;>rfl
theorem PqS.putA (h:PqS w x y u v q f W) (k:f 12=true) (e12:g 12=f 12) (e13:g 13=f 13) (e14:g 14=true) (e15:g 15=f 15):PqS w x y u v q g ((W.setCell ⟨q.1,0,none⟩ (.string x)).setCell ⟨q.1,1,none⟩ (.string y)):=by
 have hl:=h.lo1 k;refine⟨(h.bel.setCell (by simp;omega) _).setCell (by simp;omega) _,λ_=>hl,by rw[e13];exact h.lo2,by rw[e12,e13];exact h.ne,λ_=>?_,λk2=>?_⟩
 ·rw[zK (zK (h.a k) _),yem,e14];rfl
 ·rw[e13] at k2
  have hn:=h.ne k k2;rw[yE _ _ _ _ (by simp;omega),yE _ _ _ _ (by simp;omega),e15];exact h.b k2
theorem PqS.putB (h:PqS w x y u v q f W) (k:f 13=true) (e12:g 12=f 12) (e13:g 13=f 13) (e14:g 14=f 14) (e15:g 15=true):PqS w x y u v q g ((W.setCell ⟨q.2,0,none⟩ (.string u)).setCell ⟨q.2,1,none⟩ (.string v)):=by
 have hl:=h.lo2 k;refine⟨(h.bel.setCell (by simp;omega) _).setCell (by simp;omega) _,by rw[e12];exact h.lo1,λ_=>hl,by rw[e12,e13];exact h.ne,λk2=>?_,λ_=>?_⟩
 ·rw[e12] at k2
  have hn:=h.ne k2 k;rw[yE _ _ _ _ (by simp;omega),yE _ _ _ _ (by simp;omega),e14];exact h.a k2
 ·rw[zK (zK (h.b k) _),yem,e15];rfl
theorem zru {W:zA} {g:Nat} {b:Bool} {x y:ByteArray} {t:TypeId} (h:W.heap[g]? =some (.cells (pqC b x y) t (0,0))):(∃s,W.cell? ⟨g,0,none⟩=some s)/\(∃s,W.cell? ⟨g,1,none⟩=some s)/\W.frozen? ⟨g,0,none⟩=false/\W.frozen? ⟨g,1,none⟩=false:=by
 refine⟨⟨(pqC b x y)[0]?.getD undef,?_⟩,⟨(pqC b x y)[1]?.getD undef,?_⟩,by simp[World.frozen?,h],by simp[World.frozen?,h]⟩
 ·rw[zJ h];cases b<;>rfl
 ·rw[zJ h];cases b<;>rfl
end
end
section
open Go.RowKit Go.Shelf Lib Str Limb Geo
attribute [local go_sem] Oper.semAt_some
theorem zmk (p q:Rat) (i j:Nat) (hi:0<i) (hj:0<j) (hij:i+j<300) (sp:sz p i) (sq:sz q j) (w:zA) (hw:Wd w):
 qJ 235 #[St (numS p),St (numS q)] w (St (numS (p-q))):=by
 have hc:=yfp p q i j hi hj hij sp sq w hw;generalize numS (p-q)=r at hc⊢;generalize numS p=x at hc⊢;generalize numS q=y at hc⊢;have HC:=hid hc;clear hc hi hj hij sp sq;go_enter Tryz.func235,Tryz.ntmps235;go_wp21;refine zzM HC.out λw1 hB=>?_;go_wp21;go_ret;exact⟨rfl,hB⟩
theorem zvu (p q:Rat) (i j:Nat) (hi:0<i) (hj:0<j) (hij:i+j<=300) (sp:sz p i) (sq:sz q j) (w:zA) (hw:Wd w):
 qJ 234 #[St (numS p),St (numS q)] w (St (numS (p*q))):=by
 have hc:=yfr p q i j hi hj hij sp sq w hw;generalize numS (p*q)=r at hc⊢;generalize numS p=x at hc⊢;generalize numS q=y at hc⊢;have HC:=hid hc;clear hc hi hj hij sp sq;go_enter Tryz.func234,Tryz.ntmps234;go_wp21;refine zzM HC.out λw1 hB=>?_;go_wp21;go_ret;exact⟨rfl,hB⟩
theorem zkj (p q:Rat) (i j:Nat) (hi:0<i) (hj:0<j) (hij:i+j<=300) (sp:sz p i) (sq:sz q j) (w:zA) (hw:Wd w):
 qJ 233 #[St (numS p),St (numS q)] w (.int .i64 (cmpR p q)):=by
 have hc:=z2a p q i j hi hj hij sp sq w hw;generalize cmpR p q=r at hc⊢;generalize numS p=x at hc⊢;generalize numS q=y at hc⊢;have HC:=hid hc;clear hc hi hj hij sp sq;go_enter Tryz.func233,Tryz.ntmps233;go_wp21;refine zzM HC.out λw1 hB=>?_;go_wp21;go_ret;exact⟨rfl,hB⟩
theorem zx0 (x1 y1 x2 y2 x3 y3 u1 u2 v1 v2 u v:List UInt8) (n:Int)
 (S1:Hid (qK 235 #[St x2,St x1] (St u1)))
 (S2:Hid (qK 235 #[St y3,St y1] (St u2)))
 (M1:Hid (qK 234 #[St u1,St u2] (St u)))
 (S3:Hid (qK 235 #[St y2,St y1] (St v1)))
 (S4:Hid (qK 235 #[St x3,St x1] (St v2)))
 (M2:Hid (qK 234 #[St v1,St v2] (St v)))
 (CM:Hid (qK 233 #[St u,St v] (.int .i64 n)))
 (w:zA) (HW:Hid (Wd w)):
 qJ 172 #[.agg #[St x1,St y1],.agg #[St x2,St y2],.agg #[St x3,St y3]] w (.int .i64 n):=by
 have hinit:TurnS w x1 y1 x2 y2 x3 y3 (((w.alloc (.cells #[St x1,St y1] 32)).alloc (.cells #[St x2,St y2] 32)).alloc (.cells #[St x3,St y3] 32)):=by
  have e1:=zG w (.cells #[St x1,St y1] 32 (0,0));have e2:=zG (w.alloc (.cells #[St x1,St y1] 32)) (.cells #[St x2,St y2] 32 (0,0));have e3:=zG ((w.alloc (.cells #[St x1,St y1] 32)).alloc (.cells #[St x2,St y2] 32)) (.cells #[St x3,St y3] 32 (0,0));simp only[zH] at e2 e3;refine⟨(((zM _ w).alloc (zN _) _).alloc (by simp) _).alloc (by simp;omega) _,by simp,?_,?_,e3⟩
  ·exact(Below.heap_alloc _ _ _ (by simp only[zH];omega)).trans ((Below.heap_alloc _ _ _ (by simp only[zH];omega)).trans e1)
  ·exact(Below.heap_alloc _ _ _ (by simp only[zH];omega)).trans e2
 have HI:=hid hinit;clear hinit;go_enter Tryz.func172,Tryz.ntmps172;go_wp21;refine zbl (λ_ W=>TurnS w x1 y1 x2 y2 x3 y3 W) (by kernel_rfl) (by kernel_rfl) (by have h:=HI.out;exact⟨h.bel.drew,h.lt,h.ha,h.hb,h.hc⟩) ?_;refine qR (.pointer (some ⟨w.heap.size+1,0,none⟩)) ?_;refine qR (St x2) ?_ (hy:=λf W' hf h=>by have h0:=h.b0;go_simp);refine qR (.pointer (some ⟨w.heap.size,0,none⟩)) ?_;simp only[zzQ];refine qR (St x1) ?_ (hy:=λf W' hf h=>by have h0:=h.a0;go_simp);simp only[zzQ]
 refine zar (St u1) (by rfl) (λf W' hf h C' hC'=>by
  go_simp;refine zzM (S1.out _ (HW.out.below h.bel)) λw' hb=>?_;exact⟨rfl,hC' _ (h.next hb)⟩) ?_
 refine qR (.pointer (some ⟨w.heap.size+1+1,1,none⟩)) ?_;refine qR (St y3) ?_ (hy:=λf W' hf h=>by have h0:=h.c1;go_simp);simp only[zzQ];refine qR (.pointer (some ⟨w.heap.size,1,none⟩)) ?_;refine qR (St y1) ?_ (hy:=λf W' hf h=>by have h0:=h.a1;go_simp);simp only[zzQ]
 refine zar (St u2) (by rfl) (λf W' hf h C' hC'=>by
  go_simp;refine zzM (S2.out _ (HW.out.below h.bel)) λw' hb=>?_;exact⟨rfl,hC' _ (h.next hb)⟩) ?_
 try simp only[zzQ]
 refine zar (St u) (by rfl) (λf W' hf h C' hC'=>by
  go_simp;refine zzM (M1.out _ (HW.out.below h.bel)) λw' hb=>?_;exact⟨rfl,hC' _ (h.next hb)⟩) ?_
 refine qR (.pointer (some ⟨w.heap.size+1,1,none⟩)) ?_;refine qR (St y2) ?_ (hy:=λf W' hf h=>by have h0:=h.b1;go_simp);simp only[zzQ];refine qR (.pointer (some ⟨w.heap.size,1,none⟩)) ?_;refine qR (St y1) ?_ (hy:=λf W' hf h=>by have h0:=h.a1;go_simp);simp only[zzQ]
 refine zar (St v1) (by rfl) (λf W' hf h C' hC'=>by
  go_simp;refine zzM (S3.out _ (HW.out.below h.bel)) λw' hb=>?_;exact⟨rfl,hC' _ (h.next hb)⟩) ?_
 refine qR (.pointer (some ⟨w.heap.size+1+1,0,none⟩)) ?_;refine qR (St x3) ?_ (hy:=λf W' hf h=>by have h0:=h.c0;go_simp);simp only[zzQ];refine qR (.pointer (some ⟨w.heap.size,0,none⟩)) ?_;refine qR (St x1) ?_ (hy:=λf W' hf h=>by have h0:=h.a0;go_simp);simp only[zzQ]
 refine zar (St v2) (by rfl) (λf W' hf h C' hC'=>by
  go_simp;refine zzM (S4.out _ (HW.out.below h.bel)) λw' hb=>?_;exact⟨rfl,hC' _ (h.next hb)⟩) ?_
 try simp only[zzQ]
 refine zar (St v) (by rfl) (λf W' hf h C' hC'=>by
  go_simp;refine zzM (M2.out _ (HW.out.below h.bel)) λw' hb=>?_;exact⟨rfl,hC' _ (h.next hb)⟩) ?_
 try simp only[zzQ]
 refine zar (.int .i64 n) (by rfl) (λf W' hf h C' hC'=>by
  go_simp;refine zzM (CM.out _ (HW.out.below h.bel)) λw' hb=>?_;exact⟨rfl,hC' _ (h.next hb)⟩) ?_
 refine qR (.int .i64 n) ?_;simp only[zzQ];refine zck λf W' hf h=>?_;have hB:=h.bel;clear hf h;go_wp21;go_ret;exact⟨rfl,hB⟩
theorem zjh (a b c:Pt) (k:Nat) (hk:0<k) (hk2:8*k+4<=300) (ha:szP a k) (hb:szP b k) (hc:szP c k) (w:zA) (hw:Wd w):
 qJ 172 #[ptV a,ptV b,ptV c] w (.int .i64 (turn a b c)):=by
 have s1:=zfq hb.1 ha.1;have s2:=zfq hc.2 ha.2;have s3:=zfq hb.2 ha.2;have s4:=zfq hc.1 ha.1;have m1:=zca s1 s2;have m2:=zca s3 s4
 exact zx0 _ _ _ _ _ _ _ _ _ _ _ _ _ (hid λW hW=>zmk b.x a.x k k hk hk (by omega) hb.1 ha.1 W hW) (hid λW hW=>zmk c.y a.y k k hk hk (by omega) hc.2 ha.2 W hW)
  (hid λW hW=>zvu _ _ _ _ (by omega) (by omega) (by omega) s1 s2 W hW) (hid λW hW=>zmk b.y a.y k k hk hk (by omega) hb.2 ha.2 W hW) (hid λW hW=>zmk c.x a.x k k hk hk (by omega) hc.1 ha.1 W hW)
  (hid λW hW=>zvu _ _ _ _ (by omega) (by omega) (by omega) s3 s4 W hW) (hid λW hW=>zkj _ _ _ _ (by omega) (by omega) (by omega) m1 m2 W hW) w (hid hw)
theorem yft (x1 y1 x2 y2 x3 y3:List UInt8) (m1 m2 m3 m4 m n:Int) (c1 c2:Bool) (h1:decide (m<=0)=c1) (h2:decide (n<=0)=c2)
 (hm:Hid (IntKind.i64.wrap (m1*m2)=m)) (hn:Hid (IntKind.i64.wrap (m3*m4)=n))
 (S1:Hid (qK 233 #[St x3,St x1] (.int .i64 m1)))
 (S2:Hid (qK 233 #[St x3,St x2] (.int .i64 m2)))
 (S3:Hid (qK 233 #[St y3,St y1] (.int .i64 m3)))
 (S4:Hid (qK 233 #[St y3,St y2] (.int .i64 m4)))
 (w:zA) (HW:Hid (Wd w)):
 qJ 173 #[.agg #[St x1,St y1],.agg #[St x2,St y2],.agg #[St x3,St y3]] w (.bool (c1&&c2)):=by
 have hinit:TurnS w x1 y1 x2 y2 x3 y3 (((w.alloc (.cells #[St x1,St y1] 32)).alloc (.cells #[St x2,St y2] 32)).alloc (.cells #[St x3,St y3] 32)):=by
  have e1:=zG w (.cells #[St x1,St y1] 32 (0,0));have e2:=zG (w.alloc (.cells #[St x1,St y1] 32)) (.cells #[St x2,St y2] 32 (0,0));have e3:=zG ((w.alloc (.cells #[St x1,St y1] 32)).alloc (.cells #[St x2,St y2] 32)) (.cells #[St x3,St y3] 32 (0,0));simp only[zH] at e2 e3;refine⟨(((zM _ w).alloc (zN _) _).alloc (by simp) _).alloc (by simp;omega) _,by simp,?_,?_,e3⟩
  ·exact(Below.heap_alloc _ _ _ (by simp only[zH];omega)).trans ((Below.heap_alloc _ _ _ (by simp only[zH];omega)).trans e1)
  ·exact(Below.heap_alloc _ _ _ (by simp only[zH];omega)).trans e2
 have HI:=hid hinit;clear hinit;go_enter Tryz.func173,Tryz.ntmps173;go_wp21;refine zbl (λ_ W=>TurnS w x1 y1 x2 y2 x3 y3 W) (by kernel_rfl) (by kernel_rfl) (by have h:=HI.out;exact⟨h.bel.drew,h.lt,h.ha,h.hb,h.hc⟩) ?_;refine qR (.pointer (some ⟨w.heap.size+1+1,0,none⟩)) ?_;refine qR (St x3) ?_ (hy:=λf W' hf h=>by have h0:=h.c0;go_simp);refine qR (.pointer (some ⟨w.heap.size,0,none⟩)) ?_;simp only[zzQ];refine qR (St x1) ?_ (hy:=λf W' hf h=>by have h0:=h.a0;go_simp);simp only[zzQ]
 refine zar (.int .i64 m1) (by rfl) (λf W' hf h C' hC'=>by
  go_simp;refine zzM (S1.out _ (HW.out.below h.bel)) λw' hb=>?_;exact⟨rfl,hC' _ (h.next hb)⟩) ?_
 refine qR (.pointer (some ⟨w.heap.size+1+1,0,none⟩)) ?_;refine qR (St x3) ?_ (hy:=λf W' hf h=>by have h0:=h.c0;go_simp);simp only[zzQ];refine qR (.pointer (some ⟨w.heap.size+1,0,none⟩)) ?_;refine qR (St x2) ?_ (hy:=λf W' hf h=>by have h0:=h.b0;go_simp);simp only[zzQ]
 refine zar (.int .i64 m2) (by rfl) (λf W' hf h C' hC'=>by
  go_simp;refine zzM (S2.out _ (HW.out.below h.bel)) λw' hb=>?_;exact⟨rfl,hC' _ (h.next hb)⟩) ?_
 refine qR (.int .i64 m) ?_ (hy:=λf W' hf h=>by have h0:=hm.out;go_simp);refine qR (.pointer (some ⟨w.heap.size+1+1,1,none⟩)) ?_;simp only[zzQ];refine qR (St y3) ?_ (hy:=λf W' hf h=>by have h0:=h.c1;go_simp);refine qR (.pointer (some ⟨w.heap.size,1,none⟩)) ?_;refine qR (St y1) ?_ (hy:=λf W' hf h=>by have h0:=h.a1;go_simp);simp only[zzQ]
 refine zar (.int .i64 m3) (by rfl) (λf W' hf h C' hC'=>by
  go_simp;refine zzM (S3.out _ (HW.out.below h.bel)) λw' hb=>?_;exact⟨rfl,hC' _ (h.next hb)⟩) ?_
 refine qR (.pointer (some ⟨w.heap.size+1+1,1,none⟩)) ?_;refine qR (St y3) ?_ (hy:=λf W' hf h=>by have h0:=h.c1;go_simp);simp only[zzQ];refine qR (.pointer (some ⟨w.heap.size+1,1,none⟩)) ?_;refine qR (St y2) ?_ (hy:=λf W' hf h=>by have h0:=h.b1;go_simp);simp only[zzQ]
 refine zar (.int .i64 m4) (by rfl) (λf W' hf h C' hC'=>by
  go_simp;refine zzM (S4.out _ (HW.out.below h.bel)) λw' hb=>?_;exact⟨rfl,hC' _ (h.next hb)⟩) ?_
 refine qR (.int .i64 n) ?_ (hy:=λf W' hf h=>by have h0:=hn.out;go_simp);refine qR (.int .i64 m) ?_;simp only[zzQ];refine qR (.int .i64 n) ?_;simp only[zzQ];refine zck λf W' hf h=>?_;have hB:=h.bel;clear hf h;cases c1<;>(
  go_wp21;go_ret;exact⟨by simp,hB⟩)
theorem zmc (a b c d:Rat):IntKind.i64.wrap (cmpR a b*cmpR c d)=cmpR a b*cmpR c d:=by
 have h1:=zaw a b;have h2:=zaw c d;have: -1<=cmpR a b*cmpR c d/\cmpR a b*cmpR c d<=1:=by
  rcases h1 with⟨_,h⟩|⟨_,h⟩|⟨_,h⟩<;>rcases h2 with⟨_,k⟩|⟨_,k⟩|⟨_,k⟩<;>rw[h,k]<;>decide
 exact zI _ (by omega)
def onB (a b p:Pt):Bool:=decide (cmpR p.x a.x*cmpR p.x b.x<=0)&&decide (cmpR p.y a.y*cmpR p.y b.y<=0)
theorem zk8 (a b c:Pt) (k:Nat) (hk:0<k) (hk2:8*k+4<=300) (ha:szP a k) (hb:szP b k) (hc:szP c k) (w:zA) (hw:Wd w):
 qJ 173 #[ptV a,ptV b,ptV c] w (.bool (onB a b c)):=
 yft _ _ _ _ _ _ _ _ _ _ _ _ _ _ rfl rfl (hid (zmc _ _ _ _)) (hid (zmc _ _ _ _)) (hid λW hW=>zkj _ _ k k hk hk (by omega) hc.1 ha.1 W hW) (hid λW hW=>zkj _ _ k k hk hk (by omega) hc.1 hb.1 W hW)
  (hid λW hW=>zkj _ _ k k hk hk (by omega) hc.2 ha.2 W hW) (hid λW hW=>zkj _ _ k k hk hk (by omega) hc.2 hb.2 W hW) w (hid hw)
def shN (q:Rat):Prop:=digs q.num<=36/\(zD q.den).length<=36
theorem yen {q:Rat}:shN q↔sz q 36:=⟨λh=>⟨(za3 _ _ (by omega)).1 h.1,(zaf _ _ (by omega)).1 h.2⟩,λh=>zok (by omega) h⟩
def ShoP (w:zA) (P:Prop) (e:Ending) (w':zA):Prop:=∃b:Bool,e=.returned (.bool b)/\(b=true↔P)/\Below w.heap.size w w'
theorem ShoP.yes {w w':zA} {P:Prop} (h:P) (hb:qL w w'):ShoP w P (.returned (.bool true)) w':=⟨true,rfl,⟨λ_=>h,λ_=>rfl⟩,hb⟩
theorem ShoP.no {w w':zA} {P:Prop} (h:¬P) (hb:qL w w'):ShoP w P (.returned (.bool false)) w':=⟨false,rfl,⟨λk=>(by cases k),λk=>absurd k h⟩,hb⟩
theorem zol (q:Rat) (hq:okN q) (w:zA) (hw:Wd w):
 zC zF 171 #[St (numS q)] w (ShoP w (shN q)):=by
 have c1:=zp5 q hq w hw;obtain⟨sn,hsn⟩:=zzX (⟨(zE q.num).toArray⟩:ByteArray);obtain⟨sd,hsd⟩:=zzX (⟨(zD q.den).toArray⟩:ByteArray);obtain⟨p1,p2,p3⟩:=zp6 q.num sn hsn;have l2:(sd.size:Int)=(zD q.den).length:=by rw[hsd];rfl
 have c1':qJ 204 #[St (numS q)] w (.tuple #[.string sn,.string sd,.int .i64 0]):=by rw[hsn,hsd];exact c1
 have C1:=hid c1';have cases3:∀t:Int,t=digs q.num->(decide (t<=36)=true/\decide ((sd.size:Int)<=36)=true/\Hid (shN q))\/(decide (t<=36)=true/\decide ((sd.size:Int)<=36)=false/\Hid (¬shN q))\/(decide (t<=36)=false/\Hid (¬shN q)):=λt ht=>by
  by_cases a:digs q.num<=36
  ·by_cases b:(zD q.den).length<=36
   ·exact .inl ⟨decide_eq_true (by omega),decide_eq_true (by omega),hid ⟨a,b⟩⟩
   ·exact .inr (.inl ⟨decide_eq_true (by omega),decide_eq_false (by omega),hid λh=>b h.2⟩)
  ·exact .inr (.inr ⟨decide_eq_false (by omega),hid λh=>a h.1⟩)
 by_cases hm:q.num<0
 ·rw[decide_eq_true hm] at p2
  have hx:=p3 hm;obtain⟨t,ht⟩:=zzX (⟨(zD q.num.natAbs).toArray⟩:ByteArray);rw[<-ht] at hx;have l1:=cases3 (t.size:Int) (by rw[ht];rfl);have p1':(0:Int)<(sn.size:Int):=by omega
  have p4:(1:Int)<=(sn.size:Int):=by omega
  clear c1 c1' ht hsn hsd p3 hm hw l2 cases3 hq;generalize shN q=Q at*
  generalize numS q=x at*
  rcases l1 with⟨k1,k2,HQ⟩|⟨k1,k2,HQ⟩|⟨k1,HQ⟩
  all_goals
   go_enter Tryz.func171,Tryz.ntmps171;go_wp21;refine zzM C1.out λw1 hb1=>?_;have HB1:=hid hb1;clear hb1;go_wp21;go_ret
   first|exact ShoP.yes HQ.out HB1.out|exact ShoP.no HQ.out HB1.out
 ·rw[decide_eq_false hm] at p2
  have l1:=cases3 (sn.size:Int) (by
   rw[hsn];have e:zE q.num=zD q.num.natAbs:=by
    rcases zbg q.num with⟨k,e⟩|⟨k,e⟩
    ·exact e
    ·omega
   rw[e];rfl)
  have p1':(0:Int)<(sn.size:Int):=by omega
  clear c1 c1' hsn hsd p3 hm hw l2 cases3 hq;generalize shN q=Q at*
  generalize numS q=x at*
  rcases l1 with⟨k1,k2,HQ⟩|⟨k1,k2,HQ⟩|⟨k1,HQ⟩
  all_goals
   go_enter Tryz.func171,Tryz.ntmps171;go_wp21;refine zzM C1.out λw1 hb1=>?_;have HB1:=hid hb1;clear hb1;go_wp21;go_ret
   first|exact ShoP.yes HQ.out HB1.out|exact ShoP.no HQ.out HB1.out
theorem yfu (x y:List UInt8) (A B A' B':Prop)
 (CX:Hid (∀W:zA,Wd W->zC zF 86 #[St x] W λe w'=>∃r:Int,e=.returned (.int .i64 r)/\(r=0↔A)/\Below W.heap.size W w'))
 (CY:Hid (∀W:zA,Wd W->zC zF 86 #[St y] W λe w'=>∃r:Int,e=.returned (.int .i64 r)/\(r=0↔B)/\Below W.heap.size W w'))
 (NX:Hid (A->∀W:zA,Wd W->zC zF 171 #[St x] W (ShoP W A')))
 (NY:Hid (B->∀W:zA,Wd W->zC zF 171 #[St y] W (ShoP W B')))
 (w:zA) (HW:Hid (Wd w)):
 zC zF 90 #[.agg #[St x,St y]] w λe w'=>∃r:Int,e=.returned (.int .i64 r)/\(r=0↔A/\B/\A'/\B')/\Below w.heap.size w w':=by
 have hinit:PtS w x y (w.alloc (.cells #[St x,St y] 32)):=⟨(zM _ w).alloc (zN _) _,by simp,zG w _⟩;obtain⟨W1,hW1⟩:=zzX (w.alloc (.cells #[St x,St y] 32));rw[<-hW1] at hinit;have i0:=hinit.c0;have i1:=hinit.c1;rw[hW1] at i0 i1;have HI:=hid hinit;clear hinit;have HW1:=hid hW1;clear hW1;have ne:∀r:Int,r≠0->(r==0)=false/\(r !=0)=true:=λr hr=>⟨beq_eq_false_iff_ne.2 hr,by rw[bne,beq_eq_false_iff_ne.2 hr];rfl⟩;have NE:=hid ne;clear ne;go_enter Tryz.func90,Tryz.ntmps90;go_wp21;rw[<-HW1.out];clear i0 i1;refine(CX.out _ (HW.out.below HI.out.bel)).mono ?_;rintro e W2 ⟨r,rfl,hr,hb2⟩;have H2:=hid (HI.out.next hb2);clear HI hb2;have HR:=hid hr;clear hr;by_cases h0:r=0
 ·have HA:=hid (HR.out.1 h0)
  subst h0;have i1:=H2.out.c1;go_wp21;clear i1;refine(CY.out _ (HW.out.below H2.out.bel)).mono ?_;rintro e W3 ⟨r,rfl,hr,hb3⟩;have H3:=hid (H2.out.next hb3);clear H2 hb3;have HR2:=hid hr;clear hr;by_cases h0:r=0
  ·have HB:=hid (HR2.out.1 h0)
   subst h0;have i0:=H3.out.c0;go_wp21;clear i0;refine(NX.out HA.out _ (HW.out.below H3.out.bel)).mono ?_;rintro e W4 ⟨b,rfl,hb,hb4⟩;have H4:=hid (H3.out.next hb4);clear H3 hb4;have HS:=hid hb;clear hb;cases b
   ·go_wp21
    go_ret;exact⟨4,rfl,⟨λh=>(by cases h),λh=>by have:=HS.out.2 h.2.2.1;cases this⟩,H4.out.bel⟩
   ·have i1:=H4.out.c1
    go_wp21;clear i1;refine(NY.out HB.out _ (HW.out.below H4.out.bel)).mono ?_;rintro e W5 ⟨b,rfl,hb,hb5⟩;have H5:=hid (H4.out.next hb5);clear H4 hb5;have HT:=hid hb;clear hb;cases b
    ·go_wp21
     go_ret;exact⟨4,rfl,⟨λh=>(by cases h),λh=>by have:=HT.out.2 h.2.2.2;cases this⟩,H5.out.bel⟩
    ·go_wp21
     go_ret;exact⟨0,rfl,⟨λ_=>⟨HA.out,HB.out,HS.out.1 (by trivial),HT.out.1 (by trivial)⟩,λ_=>rfl⟩,H5.out.bel⟩
  ·obtain⟨e1,e2⟩:=NE.out r h0
   have H0:=hid h0;clear h0;go_wp21;go_ret;exact⟨r,rfl,⟨λh=>absurd h H0.out,λh=>absurd (HR2.out.2 h.2.1) H0.out⟩,H3.out.bel⟩
 ·obtain⟨e1,e2⟩:=NE.out r h0
  have H0:=hid h0;clear h0;go_wp21;go_ret;exact⟨r,rfl,⟨λh=>absurd h H0.out,λh=>absurd (HR.out.2 h.1) H0.out⟩,H2.out.bel⟩
theorem yeo (p:Pt) (h:szP p 36) (w:zA) (hw:Wd w):
 qJ 90 #[ptV p] w (.int .i64 0):=by
 have hx:okN p.x:=zoo (by omega) (by omega) h.1;have hy:okN p.y:=zoo (by omega) (by omega) h.2
 refine(yfu _ _ True True (shN p.x) (shN p.y) (hid λW hW=>(zgv p.x hx W hW).mono λe w' ⟨a,b⟩=>⟨0,a,by simp,b⟩) (hid λW hW=>(zgv p.y hy W hW).mono λe w' ⟨a,b⟩=>⟨0,a,by simp,b⟩)
  (hid λ_ W hW=>zol p.x hx W hW) (hid λ_ W hW=>zol p.y hy W hW) w (hid hw)).mono ?_
 rintro e w' ⟨r,rfl,h1,h2⟩;rw[h1.2 ⟨trivial,trivial,yen.2 h.1,yen.2 h.2⟩];exact⟨rfl,h2⟩
end
end Go.Proofs.YtnjiiafnneillaaGreatDoor
