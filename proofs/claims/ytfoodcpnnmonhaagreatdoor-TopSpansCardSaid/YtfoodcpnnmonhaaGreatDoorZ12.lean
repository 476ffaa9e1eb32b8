/- kingpostref02.make2. -/
import Derived.Test.YtfoodcpnnmonhaaGreatDoorZ11
set_option maxRecDepth 100000
set_option maxHeartbeats 8000000
open Go renaming World → zA, Calls → zC
open Go.Lib renaming decDigits → zD, itoa → zE
open Go.Proofs.Tryz renaming prog → zF
open Go.World renaming alloc_heap_new → zG
open Go.IntWalk renaming i64_in → zI
open Go.Joins renaming cell_of_block → zJ
open Go.RowKit renaming intOf → zL
open Go.RowKit.Below renaming refl → zM
open Nat renaming le_refl → zN, le_trans → zO, zero_le → zR, pos_of_ne_zero → yS
open Int renaming natAbs_mul → yK
namespace Go.Proofs.YtfoodcpnnmonhaaGreatDoor
section
open Go.RowKit Go.Shelf Lib Str Limb
attribute [local go_sem] Oper.semAt_some
theorem zp6 (z:Int) (s:ByteArray) (hs:s=⟨(zE z).toArray⟩):∃h:0<s.size,(((s[0]'h).toNat:Int)==45)=decide (z<0)/\(z<0->s.extract 1 s.size=⟨(zD z.natAbs).toArray⟩):=by
 obtain⟨b1,b2⟩:=zds (zE z) s hs;have hp:0<(zE z).length:=Nat.lt_of_lt_of_le (zbn z) (zbr z);have h:0<s.size:=by omega
 refine⟨h,?_,?_⟩
 ·rw[b2 0 hp h]
  rcases zbg z with⟨k,e⟩|⟨k,e⟩
  ·rw[decide_eq_false (by omega),beq_eq_false_iff_ne]
   have hd:=zan z.natAbs ((zE z)[0]'hp) (by simp only[e];exact List.getElem_mem _);omega
  ·rw[decide_eq_true k,beq_iff_eq]
   simp only[e];rfl
 ·intro k
  rcases zbg z with⟨k',e⟩|⟨_,e⟩
  ·omega
  ·rw[hs,zel,e];rfl
theorem z0x (n:Nat) (s:ByteArray) (hs:s=⟨(zD n).toArray⟩):∃h:0<s.size,(((s[0]'h).toNat:Int)==45)=false:=by
 obtain⟨h,e,_⟩:=zp6 (n:Int) s (by rw[Str.zad];exact hs);exact⟨h,by rw[e];simp⟩
theorem z4n (n:Int) (D:Nat) (hD:0<D) (hm:n<0) (h1:(zE n).length<=18) (h2:(zD D).length<=18) (w:zA):
 qJ 212 #[St (zE n),St (zD D)] w (.tuple #[St (numS (Rat.divInt n (D:Int))),.int .i64 0]):=by
 have hn18:n.natAbs<1000000000000000000:=(za3 n 18 (by omega)).1 (zO (zbr n) h1);have hD18:D<1000000000000000000:=(zaf D 18 (by omega)).1 h2;have hdl:(zD n.natAbs).length<=18:=(zaf _ 18 (by omega)).2 hn18;have s1:=λW=>zrk (zD n.natAbs) (zan _) hdl W;have s2:=λW=>zrk (zD D) (zan _) h2 W;rw[zb2] at s1 s2;have qk:=λW=>z1w n D (by omega) hD (by omega) W;obtain⟨sn,hsn⟩:=zzX (⟨(zE n).toArray⟩:ByteArray);obtain⟨sd,hsd⟩:=zzX (⟨(zD D).toArray⟩:ByteArray);obtain⟨p1,p2,p3⟩:=zp6 n sn hsn;obtain⟨r1,r2⟩:=z0x D sd hsd;have l1:sn.size<=18:=by rw[hsn];exact h1
 have l2:sd.size<=18:=by rw[hsd];exact h2
 have l1':(sn.size:Int)<=18:=by omega
 have l2':(sd.size:Int)<=18:=by omega
 rw[decide_eq_true hm] at p2;have hx:=p3 hm;have hw:IntKind.i64.wrap (-(n.natAbs:Int))=n:=by rw[show-(n.natAbs:Int)=n by omega];exact zI _ (by omega)
 show zC _ _ #[.string ⟨(zE n).toArray⟩,.string ⟨(zD D).toArray⟩] _ _;have s2':∀W:zA,zC zF 208 #[.string sd] W λe w'=>e=.returned (I D)/\w'=W:=λW=>by rw[hsd];exact s2 W
 obtain⟨su,hsu⟩:=zzX (⟨(zD n.natAbs).toArray⟩:ByteArray);have s1':∀W:zA,zC zF 208 #[.string su] W λe w'=>e=.returned (I n.natAbs)/\w'=W:=λW=>by rw[hsu];exact s1 W
 rw[<-hsu] at hx;rw[<-hsn,<-hsd];have S1:=hid s1';have S2:=hid s2';have QK:=hid qk;clear s1 s2 qk s1' s2' hsn hsd h1 h2 hdl p3 hsu;generalize numS (Rat.divInt n (D:Int))=t at*
 generalize n.natAbs=na at*
 go_enter Tryz.func212,Tryz.ntmps212;go_wp21;refine zzM (S1.out w) λw1 hw1=>?_;have hw1':=hw1.symm;subst hw1';go_wp21;refine zzM (S2.out w) λw2 hw2=>?_;have hw2':=hw2.symm;subst hw2';go_wp21;refine zzM (QK.out w) λw3 hb3=>?_;go_wp21;go_ret2;exact⟨rfl,hb3⟩
theorem z4p (n:Int) (D:Nat) (hD:0<D) (hm:¬n<0) (h1:(zE n).length<=18) (h2:(zD D).length<=18) (w:zA):
 qJ 212 #[St (zE n),St (zD D)] w (.tuple #[St (numS (Rat.divInt n (D:Int))),.int .i64 0]):=by
 have hn18:n.natAbs<1000000000000000000:=(za3 n 18 (by omega)).1 (zO (zbr n) h1);have hD18:D<1000000000000000000:=(zaf D 18 (by omega)).1 h2;have hdl:(zD n.natAbs).length<=18:=(zaf _ 18 (by omega)).2 hn18;have s1:=λW=>zrk (zD n.natAbs) (zan _) hdl W;have s2:=λW=>zrk (zD D) (zan _) h2 W;rw[zb2] at s1 s2;have qk:=λW=>z1w n D (by omega) hD (by omega) W;obtain⟨sn,hsn⟩:=zzX (⟨(zE n).toArray⟩:ByteArray);obtain⟨sd,hsd⟩:=zzX (⟨(zD D).toArray⟩:ByteArray);obtain⟨p1,p2,p3⟩:=zp6 n sn hsn;obtain⟨r1,r2⟩:=z0x D sd hsd;have l1:sn.size<=18:=by rw[hsn];exact h1
 have l2:sd.size<=18:=by rw[hsd];exact h2
 have l1':(sn.size:Int)<=18:=by omega
 have l2':(sd.size:Int)<=18:=by omega
 rw[decide_eq_false hm] at p2;have hx:zE n=zD n.natAbs:=by rcases zbg n with⟨_,e⟩|⟨k,_⟩;exact e;omega
 have hw:(n:Int)=(n.natAbs:Int):=by omega
 rw[<-hx] at s1;show zC _ _ #[.string ⟨(zE n).toArray⟩,.string ⟨(zD D).toArray⟩] _ _;have s2':∀W:zA,zC zF 208 #[.string sd] W λe w'=>e=.returned (I D)/\w'=W:=λW=>by rw[hsd];exact s2 W
 have s1':∀W:zA,zC zF 208 #[.string sn] W λe w'=>e=.returned (I n.natAbs)/\w'=W:=λW=>by rw[hsn];exact s1 W
 have qk':∀W:zA,qJ 145 #[I n.natAbs,I D] W (St (numS (Rat.divInt n (D:Int)))):=λW=>by have:=qk W;rw[hw] at this;rw[hw];exact this
 rw[<-hsn,<-hsd];have S1:=hid s1';have S2:=hid s2';have QK:=hid qk';clear s1 s2 qk s1' s2' hsn hsd h1 h2 hdl p3 hx qk' hw;generalize numS (Rat.divInt n (D:Int))=t at*
 generalize n.natAbs=na at*
 go_enter Tryz.func212,Tryz.ntmps212;go_wp21;refine zzM (S1.out w) λw1 hw1=>?_;have hw1':=hw1.symm;subst hw1';go_wp21;refine zzM (S2.out w) λw2 hw2=>?_;have hw2':=hw2.symm;subst hw2';go_wp21;refine zzM (QK.out w) λw3 hb3=>?_;go_wp21;go_ret2;exact⟨rfl,hb3⟩
theorem z9i (n:Int) (D g d1:Nat) (q1:Int) (hD:0<D) (hg:g=Int.gcd n (D:Int)) (hq:n=q1*g) (hd:D=d1*g) (hn3:digs n<=300) (hd3:(zD D).length<=300) (hor:18<(zE n).length\/((zE n).length<=18/\18<(zD D).length)) (w:zA) (hw:Wd w):
 qJ 212 #[St (zE n),St (zD D)] w (.tuple #[St (zE q1++if d1=1 then[] else 47::zD d1),.int .i64 0]):=by
 have o1:∀m:Nat,18<m->¬(m:Int)<=18:=λm h=>by omega
 have o2:∀m:Nat,m<=18->(m:Int)<=18:=λm h=>by omega
 have hg0:0<g:=by rw[hg];exact Int.gcd_pos_of_ne_zero_right _ (by omega)
 have hd10:0<d1:=yS (λe=>by rw[e,Nat.zero_mul] at hd;omega);have hgd:(zD g).length<=300:=by
  rw[zaf _ _ (by omega)] at hd3⊢;have:g<=D:=by rw[hd];exact Nat.le_mul_of_pos_left _ hd10
  exact Nat.lt_of_le_of_lt this hd3
 have hq3:digs q1<=300:=by
  rw[za3 _ _ (by omega)] at hn3⊢;have:q1.natAbs<=n.natAbs:=by rw[hq,yK];exact Nat.le_mul_of_pos_right _ (by omega)
  exact Nat.lt_of_le_of_lt this hn3
 have hd13:(zD d1).length<=300:=by
  rw[zaf _ _ (by omega)] at hd3⊢;have:d1<=D:=by rw[hd];exact Nat.le_mul_of_pos_right _ hg0
  exact Nat.lt_of_le_of_lt this hd3
 have dg:∀k:Nat,digs (k:Int)=(zD k).length:=λk=>by unfold digs;rw[Int.natAbs_natCast]
 have yg:=λW hW=>zxp n (D:Int) hn3 (by rw[dg];exact hd3) W hW;have y1:=λW hW=>z14 n (g:Int) q1 hq (by omega) hn3 (by rw[dg];exact hgd) W hW;have y2:=λW hW=>z14 (D:Int) (g:Int) (d1:Int) (by rw[hd,Int.natCast_mul]) (by omega) (by rw[dg];exact hd3) (by rw[dg];exact hgd) W hW;rw[<-hg] at yg;rw[Str.zad,Str.zad] at yg y2;rw[Str.zad] at y1 y2;obtain⟨sn,hsn⟩:=zzX (⟨(zE n).toArray⟩:ByteArray);obtain⟨sd,hsd⟩:=zzX (⟨(zD D).toArray⟩:ByteArray);obtain⟨sq,hsq⟩:=zzX (⟨(zE q1).toArray⟩:ByteArray);obtain⟨r1,r2⟩:=z0x D sd hsd;obtain⟨p1,p2,p3⟩:=zp6 q1 sq hsq;have hsz:sn.size=(zE n).length:=by rw[hsn];rfl
 have hszd:sd.size=(zD D).length:=by rw[hsd];rfl
 have hszq:sq.size<=301:=by
  have:sq.size=(zE q1).length:=by rw[hsq];rfl
  have:=za7 q1;omega
 have hsg:((((sq[0]'p1).toNat:Int)==45)=true/\∃su:ByteArray,sq.extract 1 sq.size=su/\¬(300:Int)<su.size)\/((((sq[0]'p1).toNat:Int)==45)=false/\¬(300:Int)<sq.size):=by
  by_cases hqm:q1<0
  ·refine .inl ⟨by rw[p2,decide_eq_true hqm],_,p3 hqm,?_⟩
   have:(⟨(zD q1.natAbs).toArray⟩:ByteArray).size<=300:=hq3;omega
  ·have e:zE q1=zD q1.natAbs:=by rcases zbg q1 with⟨_,e⟩|⟨k,_⟩;exact e;exact absurd k hqm
   have:sq.size<=300:=by rw[hsq,e];exact hq3
   exact .inr ⟨by rw[p2,decide_eq_false hqm],by omega⟩
 have yg':qK 209 #[.string sn,.string sd] (.tuple #[St (zD g),.int .i64 0]):=λW hW=>by rw[hsn,hsd];exact yg W hW
 have y1':qK 151 #[.string sn,St (zD g)] (.tuple #[.string sq,St [48],.int .i64 0]):=λW hW=>by rw[hsn,hsq];exact y1 W hW
 have y2':qK 151 #[.string sd,St (zD g)] (.tuple #[St (zD d1),St [48],.int .i64 0]):=λW hW=>by rw[hsd];exact y2 W hW
 have hdl:(d1=1/\zD d1=[49])\/(¬d1=1/\((zD d1==[49])=false/\¬zD d1=[49])):=by
  by_cases h1:d1=1
  ·exact .inl ⟨h1,by rw[h1];decide+kernel⟩
  ·exact .inr ⟨h1,yae d1 1 h1 [49] (by decide+kernel)⟩
 have j2:¬(300:Int)<(zD d1).length:=by omega
 have f1:¬(9223372036854775807<sq.size+1):=by omega
 have f2:¬(9223372036854775807<sq.size+1+(zD d1).length):=by omega
 show zC _ _ #[.string ⟨(zE n).toArray⟩,.string ⟨(zD D).toArray⟩] _ _;rw[<-hsn,<-hsd];rw[<-hsz,<-hszd] at hor;replace hor:(¬(sn.size:Int)<=18)\/((sn.size:Int)<=18/\¬(sd.size:Int)<=18):=hor.imp (o1 _) λh=>⟨o2 _ h.1,o1 _ h.2⟩;have YG:=hid yg';have Y1:=hid y1';have Y2:=hid y2';have HW:=hid hw;have HSQ:=hid hsq;clear o1 o2 yg y1 y2 yg' y1' y2' hw hsn hsd hsz hszd hg hq hd hn3 hd3 hg0 hgd hd10 hq3 dg p2 p3 hsq;generalize zD g=gl at*
 generalize zD d1=dl at*
 rcases hor with k1|⟨k1,k2⟩<;>rcases hdl with⟨h1,rfl⟩|⟨h1,z5,z6⟩<;>rcases hsg with⟨p2,su,hx,j1⟩|⟨p2,j1⟩
 all_goals
  first|rw[if_pos h1]|rw[if_neg h1]
  clear h1;go_enter Tryz.func212,Tryz.ntmps212;go_wp21;refine zzM (YG.out w HW.out) λw1 hb1=>?_;have HB1:=hid hb1;clear hb1;go_wp21;refine zzM (Y1.out w1 (HW.out.below HB1.out)) λw2 hb2=>?_;have HB2:=qT HB1 hb2;clear hb2;go_wp21;refine zzM (Y2.out w2 (HW.out.below HB2.out)) λw3 hb3=>?_;have HB3:=qT HB2 hb3;clear hb3;go_wp21;go_ret2;refine⟨?_,HB3.out⟩
  first
   |show Ending.returned (.tuple #[.string sq,.int .i64 0])=_
    rw[HSQ.out,List.append_nil]
   |show Ending.returned (.tuple #[.string ((sq++⟨#[47]⟩)++⟨dl.toArray⟩),.int .i64 0])=_
    rw[HSQ.out,show(⟨#[47]⟩:ByteArray)=⟨([47]:List UInt8).toArray⟩ from rfl,z36,z36,List.append_assoc];rfl
theorem z9j (n:Int) (D:Nat) (hD:0<D) (hn3:digs n<=300) (hd3:(zD D).length<=300) (w:zA) (hw:Wd w):
 qJ 212 #[St (zE n),St (zD D)] w (.tuple #[St (numS (Rat.divInt n (D:Int))),.int .i64 0]):=by
 by_cases hs:(zE n).length<=18/\(zD D).length<=18
 ·by_cases hm:n<0
  ·exact z4n n D hD hm hs.1 hs.2 w
  ·exact z4p n D hD hm hs.1 hs.2 w
 ·have hor:18<(zE n).length\/((zE n).length<=18/\18<(zD D).length):=by omega
  obtain⟨g,hg⟩:=zzX (Int.gcd n (D:Int));have hg0:0<g:=by rw[hg];exact Int.gcd_pos_of_ne_zero_right _ (by omega)
  have hgn:((g:Int))∣n:=by rw[hg];exact Int.gcd_dvd_left ..
  have hgD:g∣D:=by
   have h:((Int.gcd n (D:Int):Nat):Int)∣(D:Int):=Int.gcd_dvd_right ..;rw[<-hg] at h;exact Int.natCast_dvd_natCast.1 h
  have hq:n=(n/(g:Int))*(g:Int):=(Int.ediv_mul_cancel hgn).symm;have hd:D=(D/g)*g:=(Nat.div_mul_cancel hgD).symm;have e:=zif n (D:Int) (by omega);rw[<-hg,<-Int.natCast_ediv,Str.zad] at e;have h:=z9i n D g (D/g) (n/g) hD hg hq hd hn3 hd3 hor w hw;rw[e];by_cases h1:D/g=1
  ·rw[if_pos (by omega)];rwa [if_pos h1] at h
  ·rw[if_neg (by omega)];rwa [if_neg h1] at h
theorem zo7 (q:Rat):numS q=[48]↔q.num=0:=by
 constructor
 ·intro h
  have h1:=(zvg q).1;rw[h] at h1;have h2:upS [48]=[48]:=by decide
  rw[h2] at h1;have:=congrArg val h1;rw[zb2] at this;simp[val] at this;omega
 ·intro h
  have:q=0:=Rat.num_eq_zero.1 h;rw[this];decide+kernel
theorem yfm (q:Rat) (h:okN q) (w:zA):
 zC zF 143 #[St (numS q)] w λe w'=>e=.returned (St (numS (-q)))/\w'=w:=by
 have hn:(-q).num= -q.num:=rfl;have hd:(-q).den=q.den:=rfl;have hlen:=z8i h;have htail:∃t:List UInt8,numS q=zE q.num++t/\numS (-q)=zE (-q.num)++t:=⟨if q.den=1 then[] else 47::zD q.den,rfl,by unfold numS;rw[hn,hd]⟩;obtain⟨t,e1,e2⟩:=htail;rcases Int.lt_trichotomy q.num 0 with hm|hm|hm
 ·have i1:zE q.num=45::zD q.num.natAbs:=by rcases zbg q.num with⟨k,_⟩|⟨_,e⟩;omega;exact e
  have i2:zE (-q.num)=zD q.num.natAbs:=by
   rcases zbg (-q.num) with⟨_,e⟩|⟨k,_⟩
   ·rw[e,Int.natAbs_neg]
   ·omega
  rw[e1,e2,i1,i2];rw[e1,i1] at hlen;have hz:¬((45::zD q.num.natAbs)++t=[48]):=by simp
  have hz2:(((45::zD q.num.natAbs)++t)==[48])=false:=by rw[beq_eq_false_iff_ne];exact hz
  generalize zD q.num.natAbs=a at*
  obtain⟨s,hs⟩:=zzX (⟨((45::a)++t).toArray⟩:ByteArray);obtain⟨b1,b2⟩:=zds ((45::a)++t) s hs;have h0:0<s.size:=by rw[b1];simp
  have h45:(((s[0]'h0).toNat:Int)==45)=true:=by rw[b2 0 (by simp) h0];rfl
  have hx:s.extract 1 s.size=⟨(a++t).toArray⟩:=by rw[hs,zel];rfl
  have hsz:s.size<=1000:=by rw[b1];exact hlen
  have hz3:(s.toList==[48])=false:=by rw[zeb _ s hs];simp
  obtain⟨r,hr⟩:=zzX (⟨(a++t).toArray⟩:ByteArray);show zC _ _ #[.string ⟨((45::a)++t).toArray⟩] _ (λe w'=>e=.returned (.string ⟨(a++t).toArray⟩)/\w'=w);rw[<-hs,<-hr];rw[<-hr] at hx;clear hs hr b1 b2 hz hz2 e1 e2 i1 i2 hlen hm hn hd h;go_enter Tryz.func143,Tryz.ntmps143;go_wp2;go_ret;exact⟨rfl,rfl⟩
 ·have hq0:q=0:=Rat.num_eq_zero.1 hm
  rw[hq0,show numS (0:Rat)=[48] by decide+kernel,show numS (-(0:Rat))=[48] by decide+kernel];go_enter Tryz.func143,Tryz.ntmps143;go_wp2;go_ret;exact⟨rfl,rfl⟩
 ·have i1:zE q.num=zD q.num.natAbs:=by rcases zbg q.num with⟨_,e⟩|⟨k,_⟩;exact e;omega
  have i2:zE (-q.num)=45::zD q.num.natAbs:=by
   rcases zbg (-q.num) with⟨k,_⟩|⟨_,e⟩
   ·omega
   ·rw[e,Int.natAbs_neg]
  have hz:¬(numS q=[48]):=λk=>by have:=(zo7 q).1 k;omega
  rw[e1,i1] at hz hlen⊢;rw[e2,i2];have hd0:=zan q.num.natAbs;have hp0:0<(zD q.num.natAbs).length:=by have:=zbn (q.num.natAbs:Int);unfold digs at this;rw[Int.natAbs_natCast] at this;omega
  generalize zD q.num.natAbs=a at*
  obtain⟨s,hs⟩:=zzX (⟨(a++t).toArray⟩:ByteArray);obtain⟨b1,b2⟩:=zds (a++t) s hs;have h0:0<s.size:=by rw[b1];simp;omega
  have h45:(((s[0]'h0).toNat:Int)==45)=false:=by
   rw[beq_eq_false_iff_ne,b2 0 (by simp;omega) h0,List.getElem_append_left hp0];have:=hd0 _ (List.getElem_mem hp0);omega
  have hsz:s.size<=1000:=by rw[b1];exact hlen
  have f1:¬(9223372036854775807<1+s.size):=by omega
  have hz3:(s.toList==[48])=false:=by rw[zeb _ s hs];simpa using hz
  show zC _ _ #[.string ⟨(a++t).toArray⟩] _ _;rw[<-hs];have HS:=hid hs;clear hs b1 b2 hz e1 e2 i1 i2 hlen hm hn hd h hd0 hp0;go_enter Tryz.func143,Tryz.ntmps143;go_wp2;go_ret;refine⟨?_,rfl⟩;show Ending.returned (.string ((⟨#[45]⟩:ByteArray)++s))=_;rw[HS.out,ztl]
  try rfl
theorem zoo {q:Rat} {k:Nat} (hk:0<k) (hk3:k<=300) (h:sz q k):okN q:=
 ⟨zO ((za3 _ k hk).2 h.1) hk3,zO ((zaf _ k hk).2 h.2) hk3⟩
theorem z3g {q:Rat} (h:zm0 q):q.num.natAbs<1000000000/\q.den<1000000000:=⟨(za3 _ 9 (by omega)).1 h.1,(zaf _ 9 (by omega)).1 h.2⟩
theorem z1j {x y:Int} {i j:Nat} (hij:0<i+j) (hx:x.natAbs<10^i) (hy:y.natAbs<10^j):digs (x*y)<=i+j:=by
 rw[za3 _ _ hij,yK,Nat.pow_add];exact Nat.mul_lt_mul'' hx hy
theorem z9l {x y i j:Nat} (hij:0<i+j) (hx:x<10^i) (hy:y<10^j):(zD (x*y)).length<=i+j:=by
 rw[zaf _ _ hij,Nat.pow_add];exact Nat.mul_lt_mul'' hx hy
theorem zs7 {x y:Int} {k:Nat} (hk:0<k) (hx:digs x<=k) (hy:digs y<=k):digs (x+y)<=k+1:=zhz hk hx hy
theorem z0l (p q:Rat) (hp:okN p) (hq:okN q) (np:zm0 p) (nq:zm0 q) (w:zA):
 qJ 142 #[St (numS p),St (numS q)] w (.tuple #[St (numS (p+q)),.int .i64 0]):=by
 rw[zf0];have c1:=λW=>zrh p hp np W;have c2:=λW=>zrh q hq nq W;obtain⟨b1,b2⟩:=z3g np;obtain⟨b3,b4⟩:=z3g nq;have hdp:=p.den_pos;have hdq:=q.den_pos;have m1:(p.num*q.den).natAbs<=999999998000000001:=by
  rw[yK,Int.natAbs_natCast];exact Nat.mul_le_mul (show p.num.natAbs<=999999999 by omega) (show q.den<=999999999 by omega)
 have m2:(q.num*p.den).natAbs<=999999998000000001:=by
  rw[yK,Int.natAbs_natCast];exact Nat.mul_le_mul (show q.num.natAbs<=999999999 by omega) (show p.den<=999999999 by omega)
 have m3:p.den*q.den<=999999998000000001:=Nat.mul_le_mul (show p.den<=999999999 by omega) (show q.den<=999999999 by omega);have m4:0<p.den*q.den:=Nat.mul_pos hdp hdq;have qk:=λW=>z1w (p.num*q.den+q.num*p.den) (p.den*q.den) (by omega) m4 (by omega) W;have e1:IntKind.i64.wrap (p.num*q.den)=p.num*q.den:=zI _ (by omega);have e2:IntKind.i64.wrap (q.num*p.den)=q.num*p.den:=zI _ (by omega);have e3:IntKind.i64.wrap (p.num*q.den+q.num*p.den)=p.num*q.den+q.num*p.den:=zI _ (by omega);have e4:IntKind.i64.wrap ((p.den:Int)*q.den)=((p.den*q.den:Nat):Int):=by rw[<-Int.natCast_mul];exact zI _ (by omega)
 obtain⟨D,hD⟩:=zzX (p.den*q.den);rw[<-hD] at qk e4⊢;have C1:=hid c1;have C2:=hid c2;have QK:=hid qk;clear c1 c2 qk np nq hp hq b1 b2 b3 b4 hdp hdq m1 m2 m3 m4 hD;generalize numS (Rat.divInt (p.num*q.den+q.num*p.den) (D:Int))=t at*
 generalize numS p=sp at*
 generalize numS q=sq at*
 generalize p.num=a at*
 generalize q.num=b at*
 generalize p.den=c at*
 generalize q.den=d at*
 go_enter Tryz.func142,Tryz.ntmps142;go_wp21;refine zzM (C1.out w) λw1 hb1=>?_;have HB1:=hid hb1;clear hb1;go_wp21;refine zzM (C2.out w1) λw2 hb2=>?_;have HB2:=qT HB1 hb2;clear hb2;go_wp21;refine zzM (QK.out w2) λw3 hb3=>?_;have HB3:=qT HB2 hb3;clear hb3;go_wp21;go_ret2;exact⟨rfl,HB3.out⟩
instance (q:Rat):Decidable (zm0 q):=by unfold zm0;infer_instance
theorem z0y (q:Rat) (h:okN q) (w:zA):
 zC zF 144 #[St (numS q)] w λe w'=>(∃a b:Int,e=.returned (.tuple #[.int .i64 a,.int .i64 b,.bool (decide (zm0 q))]))/\Below w.heap.size w w':=by
 by_cases hn:zm0 q
 ·rw[decide_eq_true hn]
  exact(zrh q h hn w).mono λe w' ⟨h1,h2⟩=>⟨⟨_,_,h1⟩,h2⟩
 ·rw[decide_eq_false hn]
  exact(yad q h hn w).mono λe w' ⟨h1,h2⟩=>⟨⟨_,_,h1⟩,h2⟩
theorem z0n:zE 1=[49]:=by rw[show(1:Int)=((1:Nat):Int) from rfl,Str.zad];decide+kernel
theorem yfn (p q:Rat) (i j:Nat) (hi:0<i) (hj:0<j) (hij:i+j<300) (sp:sz p i) (sq:sz q j) (hf:¬(zm0 p/\zm0 q)) (w:zA) (hw:Wd w):
 qJ 142 #[St (numS p),St (numS q)] w (.tuple #[St (numS (p+q)),.int .i64 0]):=by
 rw[zf0];have hp:=zoo hi (by omega) sp;have hq:=zoo hj (by omega) sq;have c1:=λW=>z0y p hp W;have c2:=λW=>z0y q hq W;have c3:=λW=>zre p hp W;have c4:=λW=>zre q hq W;have dg:∀k:Nat,digs (k:Int)=(zD k).length:=λk=>by unfold digs;rw[Int.natAbs_natCast]
 have x1:digs (p.num*q.den)<=i+j:=z1j (by omega) sp.1 (by rw[Int.natAbs_natCast];exact sq.2);have x2:digs (q.num*p.den)<=i+j:=by rw[Nat.add_comm];exact z1j (by omega) sq.1 (by rw[Int.natAbs_natCast];exact sp.2)
 have x3:(zD (p.den*q.den)).length<=i+j:=z9l (by omega) sp.2 sq.2;have x4:digs (p.num*q.den+q.num*p.den)<=i+j+1:=zs7 (by omega) x1 x2;have c5:=λW hW=>zct p.num (q.den:Int) q.num (p.den:Int) hp.1 (by rw[dg];exact hq.2) hq.1 (by rw[dg];exact hp.2) (by omega) (by omega) W hW;have c6:=λW hW=>zct (p.den:Int) (q.den:Int) 1 1 (by rw[dg];exact hp.2) (by rw[dg];exact hq.2) (by decide+kernel) (by decide+kernel) (by rw[<-Int.natCast_mul,dg];omega) (by decide+kernel) W hW;have c7:=λW hW=>yfa (p.num*q.den) (q.num*p.den) (by omega) (by omega) (by omega) W hW;have c8:=λW hW=>z9j (p.num*q.den+q.num*p.den) (p.den*q.den) (Nat.mul_pos p.den_pos q.den_pos) (by omega) (by omega) W hW;rw[Int.mul_one,z0n,Str.zad,Str.zad,<-Int.natCast_mul,Str.zad] at c6;rw[Str.zad,Str.zad] at c5;have hcase:(decide (zm0 p)=false)\/(decide (zm0 p)=true/\decide (zm0 q)=false):=by
  by_cases h1:zm0 p
  ·right;exact⟨decide_eq_true h1,decide_eq_false (λh2=>hf ⟨h1,h2⟩)⟩
  ·left;exact decide_eq_false h1
 have C1:=hid c1;have C2:=hid c2;have C3:=hid c3;have C4:=hid c4;have C5:=hid c5;have C6:=hid c6;have C7:=hid c7;have C8:=hid c8;have HW:=hid hw;clear c1 c2 c3 c4 c5 c6 c7 c8 hw hp hq dg x1 x2 x3 x4 sp sq hf;generalize numS (Rat.divInt (p.num*q.den+q.num*p.den) ((p.den*q.den:Nat):Int))=t at*
 generalize zE (p.num*q.den+q.num*p.den)=sum at*
 generalize zE (p.num*q.den)=m1 at*
 generalize zE (q.num*p.den)=m2 at*
 generalize zD (p.den*q.den)=m3 at*
 generalize numS p=tp at*
 generalize numS q=tq at*
 generalize zE p.num=n1 at*
 generalize zE q.num=n2 at*
 generalize zD p.den=d1 at*
 generalize zD q.den=d2 at*
 generalize decide (zm0 p)=b1 at*
 generalize decide (zm0 q)=b2 at*
 go_enter Tryz.func142,Tryz.ntmps142;go_wp21;refine(C1.out w).mono ?_;rintro e w1 ⟨⟨za,zb,rfl⟩,hb1⟩;have HB1:=hid hb1;clear hb1;go_wp21;refine(C2.out w1).mono ?_;rintro e w2 ⟨⟨zc,zd,rfl⟩,hb2⟩;have HB2:=qT HB1 hb2;clear hb2;rcases hcase with rfl|⟨rfl,rfl⟩<;>(
  go_wp21;refine zzM (C3.out w2) λw3 hb3=>?_;have HB3:=qT HB2 hb3;clear hb3;go_wp21;refine zzM (C4.out w3) λw4 hb4=>?_;have HB4:=qT HB3 hb4;clear hb4;go_wp21;refine zzM (C5.out w4 (HW.out.below HB4.out)) λw5 hb5=>?_;have HB5:=qT HB4 hb5;clear hb5;go_wp21;refine zzM (C6.out w5 (HW.out.below HB5.out)) λw6 hb6=>?_;have HB6:=qT HB5 hb6;clear hb6;go_wp21;refine zzM (C7.out w6 (HW.out.below HB6.out)) λw7 hb7=>?_;have HB7:=qT HB6 hb7;clear hb7;go_wp21;refine zzM (C8.out w7 (HW.out.below HB7.out)) λw8 hb8=>?_;have HB8:=qT HB7 hb8;clear hb8;go_wp21;go_ret2;exact⟨rfl,HB8.out⟩)
theorem yfo (p q:Rat) (i j:Nat) (hi:0<i) (hj:0<j) (hij:i+j<300) (sp:sz p i) (sq:sz q j) (w:zA) (hw:Wd w):
 qJ 142 #[St (numS p),St (numS q)] w (.tuple #[St (numS (p+q)),.int .i64 0]):=by
 by_cases h:zm0 p/\zm0 q
 ·exact z0l p q (zoo hi (by omega) sp) (zoo hj (by omega) sq) h.1 h.2 w
 ·exact yfn p q i j hi hj hij sp sq h w hw
theorem yhm {q:Rat} {k:Nat} (h:sz q k):sz (-q) k:=by
 refine⟨?_,h.2⟩;show(-q.num).natAbs<10^k;rw[Int.natAbs_neg];exact h.1
theorem yfp (p q:Rat) (i j:Nat) (hi:0<i) (hj:0<j) (hij:i+j<300) (sp:sz p i) (sq:sz q j) (w:zA) (hw:Wd w):
 qJ 80 #[St (numS p),St (numS q)] w (.tuple #[St (numS (p-q)),.int .i64 0]):=by
 have hp:=zoo hi (by omega) sp;have hq:=zoo hj (by omega) sq;have c1:=λW hW=>zrs p q hp hq W hW;have c2:=λW=>yfm q hq W;have c3:=λW hW=>yfo p (-q) i j hi hj hij sp (yhm sq) W hW;rw[show p+ -q=p-q from(Rat.sub_eq_add_neg p q).symm] at c3;have C1:=hid c1;have C2:=hid c2;have C3:=hid c3;have HW:=hid hw;clear c1 c2 c3 hw hp hq sp sq;generalize numS (p-q)=t at*
 generalize numS (-q)=nq at*
 generalize numS p=tp at*
 generalize numS q=tq at*
 go_enter Tryz.func80,Tryz.ntmps80;go_wp21;refine zzM (C1.out w HW.out) λw1 hb1=>?_;have HB1:=hid hb1;clear hb1;go_wp21;refine zzM (C2.out w1) λw2 hw2=>?_;have hw2':=hw2.symm;subst hw2';go_wp21;refine zzM (C3.out w1 (HW.out.below HB1.out)) λw3 hb3=>?_;have HB3:=qT HB1 hb3;clear hb3;go_wp21;go_ret2;exact⟨rfl,HB3.out⟩
end
section
open Go.RowKit Go.Shelf Lib Str Limb Geo
attribute [local go_sem] Oper.semAt_some
theorem ybp (a b c d:Int) (D:Nat) (hD:b*d=(D:Int)) (hD0:0<D) (ha:digs a<=300) (hb:digs b<=300) (hc:digs c<=300) (hd:digs d<=300) (hac:digs (a*c)<=300) (hbd:(zD D).length<=300) (w:zA) (hw:Wd w):
 qJ 147 #[St (zE a),St (zE b),St (zE c),St (zE d)] w (.tuple #[St (numS (Rat.divInt (a*c) (D:Int))),.int .i64 0]):=by
 have c1:=λW hW=>zct a c b d ha hc hb hd hac (by rw[hD];unfold digs;rw[Int.natAbs_natCast];exact hbd) W hW;rw[hD,Str.zad] at c1;have c2:=λW hW=>z9j (a*c) D hD0 hac hbd W hW;have C1:=hid c1;have C2:=hid c2;have HW:=hid hw;clear c1 c2 hw ha hb hc hd hac hbd;generalize numS (Rat.divInt (a*c) (D:Int))=t at*
 generalize zE (a*c)=x at*
 generalize zD D=y at*
 generalize zE a=sa at*
 generalize zE b=sb at*
 generalize zE c=sc at*
 generalize zE d=sd at*
 go_enter Tryz.func147,Tryz.ntmps147;go_wp21;refine zzM (C1.out w HW.out) λw1 hb1=>?_;have HB1:=hid hb1;clear hb1;go_wp21;refine zzM (C2.out w1 (HW.out.below HB1.out)) λw2 hb2=>?_;have HB2:=qT HB1 hb2;clear hb2;go_wp21;go_ret2;exact⟨rfl,HB2.out⟩
theorem z0p (p q:Rat) (hp:okN p) (hq:okN q) (np:zm0 p) (nq:zm0 q) (w:zA) (hw:Wd w):
 qJ 83 #[St (numS p),St (numS q)] w (.tuple #[St (numS (p*q)),.int .i64 0]):=by
 rw[zf1];have c0:=λW hW=>zrs p q hp hq W hW;have c1:=λW=>zrh p hp np W;have c2:=λW=>zrh q hq nq W;obtain⟨b1,b2⟩:=z3g np;obtain⟨b3,b4⟩:=z3g nq;have m1:(p.num*q.num).natAbs<=999999998000000001:=by
  rw[yK];exact Nat.mul_le_mul (show p.num.natAbs<=999999999 by omega) (show q.num.natAbs<=999999999 by omega)
 have m3:p.den*q.den<=999999998000000001:=Nat.mul_le_mul (show p.den<=999999999 by omega) (show q.den<=999999999 by omega);have m4:0<p.den*q.den:=Nat.mul_pos p.den_pos q.den_pos;have qk:=λW=>z1w (p.num*q.num) (p.den*q.den) (by omega) m4 (by omega) W;have e1:IntKind.i64.wrap (p.num*q.num)=p.num*q.num:=zI _ (by omega);have e4:IntKind.i64.wrap ((p.den:Int)*q.den)=((p.den*q.den:Nat):Int):=by rw[<-Int.natCast_mul];exact zI _ (by omega)
 obtain⟨D,hD⟩:=zzX (p.den*q.den);rw[<-hD] at qk e4⊢;have C0:=hid c0;have C1:=hid c1;have C2:=hid c2;have QK:=hid qk;have HW:=hid hw;clear c0 c1 c2 qk np nq hp hq b1 b2 b3 b4 m1 m3 m4 hD hw;generalize numS (Rat.divInt (p.num*q.num) (D:Int))=t at*
 generalize numS p=sp at*
 generalize numS q=sq at*
 generalize p.num=a at*
 generalize q.num=b at*
 generalize p.den=c at*
 generalize q.den=d at*
 go_enter Tryz.func83,Tryz.ntmps83;go_wp21;refine zzM (C0.out w HW.out) λw0 hb0=>?_;have HB0:=hid hb0;clear hb0;go_wp21;refine zzM (C1.out w0) λw1 hb1=>?_;have HB1:=qT HB0 hb1;clear hb1;go_wp21;refine zzM (C2.out w1) λw2 hb2=>?_;have HB2:=qT HB1 hb2;clear hb2;go_wp21;refine zzM (QK.out w2) λw3 hb3=>?_;have HB3:=qT HB2 hb3;clear hb3;go_wp21;go_ret2;exact⟨rfl,HB3.out⟩
theorem yfq (p q:Rat) (i j:Nat) (hi:0<i) (hj:0<j) (hij:i+j<=300) (sp:sz p i) (sq:sz q j) (hf:¬(zm0 p/\zm0 q)) (w:zA) (hw:Wd w):
 qJ 83 #[St (numS p),St (numS q)] w (.tuple #[St (numS (p*q)),.int .i64 0]):=by
 rw[zf1];have hp:=zoo hi (by omega) sp;have hq:=zoo hj (by omega) sq;have c0:=λW hW=>zrs p q hp hq W hW;have c1:=λW=>z0y p hp W;have c2:=λW=>z0y q hq W;have c3:=λW=>zre p hp W;have c4:=λW=>zre q hq W;have dg:∀k:Nat,digs (k:Int)=(zD k).length:=λk=>by unfold digs;rw[Int.natAbs_natCast]
 have x1:digs (p.num*q.num)<=i+j:=z1j (by omega) sp.1 sq.1;have x3:(zD (p.den*q.den)).length<=i+j:=z9l (by omega) sp.2 sq.2;have c5:=λW hW=>ybp p.num (p.den:Int) q.num (q.den:Int) (p.den*q.den) (by rw[Int.natCast_mul]) (Nat.mul_pos p.den_pos q.den_pos) hp.1 (by rw[dg];exact hp.2) hq.1 (by rw[dg];exact hq.2) (by omega) (by omega) W hW;rw[Str.zad,Str.zad] at c5;have hcase:(decide (zm0 p)=false)\/(decide (zm0 p)=true/\decide (zm0 q)=false):=by
  by_cases h1:zm0 p
  ·right;exact⟨decide_eq_true h1,decide_eq_false (λh2=>hf ⟨h1,h2⟩)⟩
  ·left;exact decide_eq_false h1
 have C0:=hid c0;have C1:=hid c1;have C2:=hid c2;have C3:=hid c3;have C4:=hid c4;have C5:=hid c5;have HW:=hid hw;clear c0 c1 c2 c3 c4 c5 hw hp hq dg x1 x3 sp sq hf;generalize numS (Rat.divInt (p.num*q.num) ((p.den*q.den:Nat):Int))=t at*
 generalize numS p=tp at*
 generalize numS q=tq at*
 generalize zE p.num=n1 at*
 generalize zE q.num=n2 at*
 generalize zD p.den=d1 at*
 generalize zD q.den=d2 at*
 generalize decide (zm0 p)=b1 at*
 generalize decide (zm0 q)=b2 at*
 go_enter Tryz.func83,Tryz.ntmps83;go_wp21;refine zzM (C0.out w HW.out) λw0 hb0=>?_;have HB0:=hid hb0;clear hb0;go_wp21;refine(C1.out w0).mono ?_;rintro e w1 ⟨⟨za,zb,rfl⟩,hb1⟩;have HB1:=qT HB0 hb1;clear hb1;go_wp21;refine(C2.out w1).mono ?_;rintro e w2 ⟨⟨zc,zd,rfl⟩,hb2⟩;have HB2:=qT HB1 hb2;clear hb2;rcases hcase with rfl|⟨rfl,rfl⟩<;>(
  go_wp21;refine zzM (C3.out w2) λw3 hb3=>?_;have HB3:=qT HB2 hb3;clear hb3;go_wp21;refine zzM (C4.out w3) λw4 hb4=>?_;have HB4:=qT HB3 hb4;clear hb4;go_wp21;refine zzM (C5.out w4 (HW.out.below HB4.out)) λw5 hb5=>?_;have HB5:=qT HB4 hb5;clear hb5;go_wp21;go_ret2;exact⟨rfl,HB5.out⟩)
theorem yfr (p q:Rat) (i j:Nat) (hi:0<i) (hj:0<j) (hij:i+j<=300) (sp:sz p i) (sq:sz q j) (w:zA) (hw:Wd w):
 qJ 83 #[St (numS p),St (numS q)] w (.tuple #[St (numS (p*q)),.int .i64 0]):=by
 by_cases h:zm0 p/\zm0 q
 ·exact z0p p q (zoo hi (by omega) sp) (zoo hj (by omega) sq) h.1 h.2 w hw
 ·exact yfq p q i j hi hj hij sp sq h w hw
theorem z4q (p q:Rat) (hp:okN p) (hq:okN q) (np:zm0 p) (nq:zm0 q) (w:zA) (hw:Wd w):
 qJ 157 #[St (numS p),St (numS q)] w (.tuple #[.int .i64 (cmpR p q),.int .i64 0]):=by
 rw[<-zim];have c0:=λW hW=>zrs p q hp hq W hW;have c1:=λW=>zrh p hp np W;have c2:=λW=>zrh q hq nq W;obtain⟨b1,b2⟩:=z3g np;obtain⟨b3,b4⟩:=z3g nq;have m1:(p.num*q.den).natAbs<=999999998000000001:=by
  rw[yK,Int.natAbs_natCast];exact Nat.mul_le_mul (show p.num.natAbs<=999999999 by omega) (show q.den<=999999999 by omega)
 have m2:(q.num*p.den).natAbs<=999999998000000001:=by
  rw[yK,Int.natAbs_natCast];exact Nat.mul_le_mul (show q.num.natAbs<=999999999 by omega) (show p.den<=999999999 by omega)
 have e1:IntKind.i64.wrap (p.num*q.den)=p.num*q.den:=zI _ (by omega);have e2:IntKind.i64.wrap (q.num*p.den)=q.num*p.den:=zI _ (by omega);have CZ:=hid (show(p.num*q.den<q.num*p.den->cmpZ (p.num*q.den) (q.num*p.den)= -1)/\(q.num*p.den<p.num*q.den->cmpZ (p.num*q.den) (q.num*p.den)=1)/\(p.num*q.den=q.num*p.den->cmpZ (p.num*q.den) (q.num*p.den)=0) by
  unfold cmpZ;refine⟨λh=>?_,λh=>?_,λh=>?_⟩
  ·simp[h]
  ·have:¬p.num*q.den<q.num*p.den:=by omega
   simp[this,h]
  ·rw[h];simp)
 have C0:=hid c0;have C1:=hid c1;have C2:=hid c2;have HW:=hid hw;clear c0 c1 c2 np nq hp hq b1 b2 b3 b4 m1 m2 hw;generalize cmpZ (p.num*q.den) (q.num*p.den)=t at*
 generalize numS p=sp at*
 generalize numS q=sq at*
 generalize p.num=a at*
 generalize q.num=b at*
 generalize p.den=c at*
 generalize q.den=d at*
 go_enter Tryz.func157,Tryz.ntmps157;go_wp21;refine zzM (C0.out w HW.out) λw0 hb0=>?_;have HB0:=hid hb0;clear hb0;go_wp21;refine zzM (C1.out w0) λw1 hb1=>?_;have HB1:=qT HB0 hb1;clear hb1;go_wp21;refine zzM (C2.out w1) λw2 hb2=>?_;have HB2:=qT HB1 hb2;clear hb2;rcases Int.lt_trichotomy (a*d) (b*c) with h|h|h
 ·obtain rfl:=CZ.out.1 h
  go_wp21;go_ret2;exact⟨rfl,HB2.out⟩
 ·obtain rfl:=CZ.out.2.2 h
  have h1:¬a*d<b*c:=by omega
  have h2:¬b*c<a*d:=by omega
  clear h;go_wp21;go_ret2;exact⟨rfl,HB2.out⟩
 ·obtain rfl:=CZ.out.2.1 h
  have h1:¬a*d<b*c:=by omega
  go_wp21;go_ret2;exact⟨rfl,HB2.out⟩
theorem z5p (p q:Rat) (i j:Nat) (hi:0<i) (hj:0<j) (hij:i+j<=300) (sp:sz p i) (sq:sz q j) (hf:¬(zm0 p/\zm0 q)) (w:zA) (hw:Wd w):
 qJ 157 #[St (numS p),St (numS q)] w (.tuple #[.int .i64 (cmpR p q),.int .i64 0]):=by
 rw[<-zim];have hp:=zoo hi (by omega) sp;have hq:=zoo hj (by omega) sq;have c0:=λW hW=>zrs p q hp hq W hW;have c1:=λW=>z0y p hp W;have c2:=λW=>z0y q hq W;have c3:=λW=>zre p hp W;have c4:=λW=>zre q hq W;have dg:∀k:Nat,digs (k:Int)=(zD k).length:=λk=>by unfold digs;rw[Int.natAbs_natCast]
 have x1:digs (p.num*q.den)<=i+j:=z1j (by omega) sp.1 (by rw[Int.natAbs_natCast];exact sq.2);have x3:digs (q.num*p.den)<=i+j:=by rw[Nat.add_comm];exact z1j (by omega) sq.1 (by rw[Int.natAbs_natCast];exact sp.2)
 have c5:=λW hW=>zct p.num (q.den:Int) q.num (p.den:Int) hp.1 (by rw[dg];exact hq.2) hq.1 (by rw[dg];exact hp.2) (by omega) (by omega) W hW;have c6:=λW=>z5h (p.num*q.den) (q.num*p.den) (by omega) (by omega) W;rw[Str.zad,Str.zad] at c5;have hcase:(decide (zm0 p)=false)\/(decide (zm0 p)=true/\decide (zm0 q)=false):=by
  by_cases h1:zm0 p
  ·right;exact⟨decide_eq_true h1,decide_eq_false (λh2=>hf ⟨h1,h2⟩)⟩
  ·left;exact decide_eq_false h1
 have C0:=hid c0;have C1:=hid c1;have C2:=hid c2;have C3:=hid c3;have C4:=hid c4;have C5:=hid c5;have C6:=hid c6;have HW:=hid hw;clear c0 c1 c2 c3 c4 c5 c6 hw hp hq dg x1 x3 sp sq hf;generalize cmpZ (p.num*q.den) (q.num*p.den)=t at*
 generalize zE (p.num*q.den)=m1 at*
 generalize zE (q.num*p.den)=m2 at*
 generalize numS p=tp at*
 generalize numS q=tq at*
 generalize zE p.num=n1 at*
 generalize zE q.num=n2 at*
 generalize zD p.den=d1 at*
 generalize zD q.den=d2 at*
 generalize decide (zm0 p)=b1 at*
 generalize decide (zm0 q)=b2 at*
 go_enter Tryz.func157,Tryz.ntmps157;go_wp21;refine zzM (C0.out w HW.out) λw0 hb0=>?_;have HB0:=hid hb0;clear hb0;go_wp21;refine(C1.out w0).mono ?_;rintro e w1 ⟨⟨za,zb,rfl⟩,hb1⟩;have HB1:=qT HB0 hb1;clear hb1;go_wp21;refine(C2.out w1).mono ?_;rintro e w2 ⟨⟨zc,zd,rfl⟩,hb2⟩;have HB2:=qT HB1 hb2;clear hb2;rcases hcase with rfl|⟨rfl,rfl⟩<;>(
  go_wp21;refine zzM (C3.out w2) λw3 hb3=>?_;have HB3:=qT HB2 hb3;clear hb3;go_wp21;refine zzM (C4.out w3) λw4 hb4=>?_;have HB4:=qT HB3 hb4;clear hb4;go_wp21;refine zzM (C5.out w4 (HW.out.below HB4.out)) λw5 hb5=>?_;have HB5:=qT HB4 hb5;clear hb5;go_wp21;refine zzM (C6.out w5) λw6 hb6=>?_;have HB6:=qT HB5 hb6;clear hb6;go_wp21;go_ret2;exact⟨rfl,HB6.out⟩)
theorem z2a (p q:Rat) (i j:Nat) (hi:0<i) (hj:0<j) (hij:i+j<=300) (sp:sz p i) (sq:sz q j) (w:zA) (hw:Wd w):
 qJ 157 #[St (numS p),St (numS q)] w (.tuple #[.int .i64 (cmpR p q),.int .i64 0]):=by
 by_cases h:zm0 p/\zm0 q
 ·exact z4q p q (zoo hi (by omega) sp) (zoo hj (by omega) sq) h.1 h.2 w hw
 ·exact z5p p q i j hi hj hij sp sq h w hw
theorem z4r (p q:Rat) (_:0<q) {b:Nat} (hb:q.num=(b:Int)) (hb0:0<b):Rat.divInt (p.num*q.den) ((p.den*b:Nat):Int)=p/q:=by
 have e1:=Rat.num_divInt_den p;have e2:=Rat.num_divInt_den q;rw[Rat.divInt_eq_div] at e1 e2⊢
 conv=>rhs;rw[<-e1,<-e2,hb]
 have d1:((p.den:Int):Rat)≠0:=by have:=p.den_nz;exact_mod_cast this
 have d2:((q.den:Int):Rat)≠0:=by have:=q.den_nz;exact_mod_cast this
 have d3:((b:Int):Rat)≠0:=by have:b≠0:=by omega
                             exact_mod_cast this
 have g1:(((p.num*q.den:Int)):Rat)=(p.num:Rat)*((q.den:Int):Rat):=Rat.intCast_mul ..;have g2:((((p.den*b:Nat):Int)):Rat)=((p.den:Int):Rat)*((b:Int):Rat):=by rw[Int.natCast_mul];exact Rat.intCast_mul ..
 rw[g1,g2];generalize (p.num:Rat)=A at*
 generalize ((p.den:Int):Rat)=B at*
 generalize ((q.den:Int):Rat)=C at*
 generalize ((b:Int):Rat)=D at*
 grind
theorem z68 (p q:Rat) (hp:okN p) (hq:okN q) (np:zm0 p) (nq:zm0 q) (hq0:0<q) (w:zA) (hw:Wd w):
 qJ 155 #[St (numS p),St (numS q)] w (.tuple #[St (numS (p/q)),.int .i64 0]):=by
 have c0:=λW hW=>zrs p q hp hq W hW;have c1:=λW=>zrh p hp np W;have c2:=λW=>zrh q hq nq W;obtain⟨b1,b2⟩:=z3g np;obtain⟨b3,b4⟩:=z3g nq;have hn0:0<q.num:=by
  have:=Rat.num_nonneg.2 (Rat.le_of_lt hq0);have:q.num≠0:=λe=>by have:=Rat.num_eq_zero.1 e;grind
  omega
 obtain⟨b,hb⟩:∃b:Nat,q.num=(b:Int):=⟨q.num.toNat,by omega⟩;have hb0:0<b:=by omega
 have pd:=p.den_pos;have qd:=q.den_pos;have m1:(p.num*q.den).natAbs<=999999998000000001:=by
  rw[yK,Int.natAbs_natCast];exact Nat.mul_le_mul (show p.num.natAbs<=999999999 by omega) (show q.den<=999999999 by omega)
 have m2:p.den*b<=999999998000000001:=Nat.mul_le_mul (show p.den<=999999999 by omega) (show b<=999999999 by omega);have hv:=z4r p q hq0 hb hb0;have hz:(numS q==[48])=false:=zsf (by grind);have e1:IntKind.i64.wrap (p.num*q.den)=p.num*q.den:=zI _ (by omega);have e2:IntKind.i64.wrap ((p.den:Int)*(b:Int))=((p.den*b:Nat):Int):=by rw[<-Int.natCast_mul];exact zI _ (by omega)
 have CQ:=hid (λW=>z1w (p.num*q.den) (p.den*b) (by omega) (Nat.mul_pos pd hb0) (by omega) W);rw[hv] at CQ;have hb1:¬(b:Int)<0:=by omega
 rw[hb] at c2;have C0:=hid c0;have C1:=hid c1;have C2:=hid c2;have HW:=hid hw;clear c0 c1 c2 np nq hp hq b1 b2 b3 b4 hw hv hn0 hq0 m1;generalize numS p=sp at*
 generalize numS (p/q)=sr at*
 generalize numS q=sq at*
 generalize p.num=a at*
 generalize p.den=c at*
 generalize q.den=d at*
 obtain⟨cb,hcb⟩:=zzX (c*b);rw[<-hcb] at e2 CQ;clear hcb hb m2;go_enter Tryz.func155,Tryz.ntmps155;go_wp2_with fail;refine zzM (C0.out w HW.out) λw0 hb0=>?_;have HB0:=hid hb0;clear hb0;go_wp2_with fail;refine zzM (C1.out w0) λw1 hb1=>?_;have HB1:=qT HB0 hb1;clear hb1;go_wp2_with fail;refine zzM (C2.out w1) λw2 hb2=>?_;have HB2:=qT HB1 hb2;clear hb2;go_wp2_with fail;refine zzM (CQ.out w2) λw3 hb3=>?_;have HB3:=qT HB2 hb3;clear hb3;go_wp2_with fail;go_ret2;exact⟨rfl,HB3.out⟩
theorem z8n (p q:Rat) (i j:Nat) (hi:0<i) (hj:0<j) (hij:i+j<=300) (sp:sz p i) (sq:sz q j) (hq0:0<q) (hf:¬(zm0 p/\zm0 q)) (w:zA) (hw:Wd w):
 qJ 155 #[St (numS p),St (numS q)] w (.tuple #[St (numS (p/q)),.int .i64 0]):=by
 have hn0:0<q.num:=by
  have:=Rat.num_nonneg.2 (Rat.le_of_lt hq0);have:q.num≠0:=λe=>by have:=Rat.num_eq_zero.1 e;grind
  omega
 obtain⟨b,hb⟩:∃b:Nat,q.num=(b:Int):=⟨q.num.toNat,by omega⟩;have hb0:0<b:=by omega
 rw[<-z4r p q hq0 hb hb0];have hp:=zoo hi (by omega) sp;have hq:=zoo hj (by omega) sq;have hz:(numS q==[48])=false:=zsf (by grind);have c0:=λW hW=>zrs p q hp hq W hW;have c1:=λW=>z0y p hp W;have c2:=λW=>z0y q hq W;have c3:=λW=>zre p hp W;have c4:=λW=>zre q hq W;have dg:∀k:Nat,digs (k:Int)=(zD k).length:=λk=>by unfold digs;rw[Int.natAbs_natCast]
 have qb:q.num.natAbs=b:=by omega
 have sb:b<10^j:=by rw[<-qb];exact sq.1
 have x1:digs (p.num*(q.den:Int))<=i+j:=z1j (by omega) sp.1 (by rw[Int.natAbs_natCast];exact sq.2);have x3:(zD (p.den*b)).length<=i+j:=z9l (by omega) sp.2 sb;have hq1:=hq.1;rw[hb] at hq1;have c5:=λW hW=>ybp p.num (p.den:Int) (q.den:Int) (b:Int) (p.den*b) (by rw[Int.natCast_mul]) (Nat.mul_pos p.den_pos hb0) hp.1 (by rw[dg];exact hp.2) (by rw[dg];exact hq.2) hq1 (by omega) (by omega) W hW;rw[Str.zad,Str.zad,Str.zad] at c5;rw[hb,Str.zad] at c4;have hcase:(decide (zm0 p)=false)\/(decide (zm0 p)=true/\decide (zm0 q)=false):=by
  by_cases h1:zm0 p
  ·right;exact⟨decide_eq_true h1,decide_eq_false (λh2=>hf ⟨h1,h2⟩)⟩
  ·left;exact decide_eq_false h1
 have C0:=hid c0;have C1:=hid c1;have C2:=hid c2;have C3:=hid c3;have C4:=hid c4;have C5:=hid c5;have HW:=hid hw;clear c0 c1 c2 c3 c4 c5 hw hp hq dg x1 x3 sp sq hf hn0 hq0 qb sb hq1;generalize numS (Rat.divInt (p.num*(q.den:Int)) ((p.den*b:Nat):Int))=t at*
 generalize numS p=tp at*
 generalize numS q=tq at*
 generalize zE p.num=n1 at*
 generalize zD b=n2 at*
 generalize zD p.den=d1 at*
 generalize zD q.den=d2 at*
 generalize decide (zm0 p)=b1 at*
 generalize decide (zm0 q)=b2 at*
 clear hb hb0;go_enter Tryz.func155,Tryz.ntmps155;go_wp2_with fail;refine zzM (C0.out w HW.out) λw0 hb0=>?_;have HB0:=hid hb0;clear hb0;go_wp2_with fail;refine(C1.out w0).mono ?_;rintro e w1 ⟨⟨za,zb,rfl⟩,hb1⟩;have HB1:=qT HB0 hb1;clear hb1;go_wp2_with fail;refine(C2.out w1).mono ?_;rintro e w2 ⟨⟨zc,zd,rfl⟩,hb2⟩;have HB2:=qT HB1 hb2;clear hb2;rcases hcase with rfl|⟨rfl,rfl⟩<;>(
  go_wp2_with fail;refine zzM (C3.out w2) λw3 hb3=>?_;have HB3:=qT HB2 hb3;clear hb3;go_wp2_with fail;refine zzM (C4.out w3) λw4 hb4=>?_;have HB4:=qT HB3 hb4;clear hb4;go_wp2_with fail;refine zzM (C5.out w4 (HW.out.below HB4.out)) λw5 hb5=>?_;have HB5:=qT HB4 hb5;clear hb5;go_wp2_with fail;go_ret2;exact⟨rfl,HB5.out⟩)
theorem z8o (p q:Rat) (i j:Nat) (hi:0<i) (hj:0<j) (hij:i+j<=300) (sp:sz p i) (sq:sz q j) (hq0:0<q) (w:zA) (hw:Wd w):
 qJ 155 #[St (numS p),St (numS q)] w (.tuple #[St (numS (p/q)),.int .i64 0]):=by
 by_cases h:zm0 p/\zm0 q
 ·exact z68 p q (zoo hi (by omega) sp) (zoo hj (by omega) sq) h.1 h.2 hq0 w hw
 ·exact z8n p q i j hi hj hij sp sq hq0 h w hw
theorem z7b (p q:Rat) (i j:Nat) (hi:0<i) (hj:0<j) (hij:i+j<=300) (sp:sz p i) (sq:sz q j) (hq0:0<q) (w:zA) (hw:Wd w):
 qJ 91 #[St (numS p),St (numS q)] w (St (numS (p/q))):=by
 have C:=hid (z8o p q i j hi hj hij sp sq hq0 w hw);clear sp sq hq0 hw hi hj hij;generalize numS (p/q)=z at*
 generalize numS p=x at*
 generalize numS q=y at*
 go_enter Tryz.func91,Tryz.ntmps91;go_wp2_with fail;refine zzM C.out λw1 hb=>?_;have HB:=hid hb;clear hb;go_wp2_with fail;go_ret;exact⟨rfl,HB.out⟩
theorem zrm (x y:Int) (hx:digs x<=300) (hy:digs y<=300) (hz:digs (x*y)<=300) (w:zA) (hw:Wd w):
 qJ 89 #[St (zE x),St (zE y)] w (St (zE (x*y))):=by
 have C:=hid (z26 x y hx hy hz w hw);clear hx hy hz hw;generalize zE (x*y)=z at*
 generalize zE x=a at*
 generalize zE y=b at*
 go_enter Tryz.func89,Tryz.ntmps89;go_wp2_with fail;refine zzM C.out λw1 hb=>?_;have HB:=hid hb;clear hb;go_wp2_with fail;go_ret;exact⟨rfl,HB.out⟩
theorem z7c (p q:Rat) (i j:Nat) (hi:0<i) (hj:0<j) (hij:i+j<=300) (sp:sz p i) (sq:sz q j) (w:zA) (hw:Wd w):
 qJ 93 #[St (numS p),St (numS q)] w (.int .i64 (cmpR p q)):=by
 have C:=hid (z2a p q i j hi hj hij sp sq w hw);clear sp sq hw hi hj hij;generalize cmpR p q=z at*
 generalize numS p=x at*
 generalize numS q=y at*
 go_enter Tryz.func93,Tryz.ntmps93;go_wp2_with fail;refine zzM C.out λw1 hb=>?_;have HB:=hid hb;clear hb;go_wp2_with fail;go_ret;exact⟨rfl,HB.out⟩
theorem zz7 (z:Int) (hz:digs z<=300) (w:zA):
 qJ 148 #[St (zE z)] w (.int .i64 (digs z:Int)):=by
 have hl:=zqo z;obtain⟨s,hs⟩:=zzX (⟨(zE z).toArray⟩:ByteArray);obtain⟨h0,h1, -⟩:=zp6 z s hs;have hsz:s.size=(zE z).length:=by rw[hs];show(zE z).toArray.size=_;simp
 have hne:(s.toList !=[])=true:=by
  rw[bne_iff_ne,ByteArray.toList_eq];intro e;have:=congrArg List.length e;simp at this;have:s.size=0:=by rw[this];rfl
  omega
 have hne0:¬s.toList=[]:=by simpa using hne
 have hie:s.toList.isEmpty=false:=by simpa using hne0
 rw[show St (zE z)=.string s from by rw[hs]];by_cases hn:z<0
 ·rw[if_pos hn] at hl
  have hb:(((s[0]'h0).toNat:Int)==45)=true:=by rw[h1,decide_eq_true hn]
  have hr:IntKind.i64.wrap ((s.size:Int)-1)=(digs z:Int):=by rw[zI _ ⟨by omega,by omega⟩];omega
  clear h1 hl hs hz hn hsz hne;go_enter Tryz.func148,Tryz.ntmps148;go_wp2_with fail;go_ret;exact⟨rfl,zM _ _⟩
 ·rw[if_neg hn] at hl
  have hb:(((s[0]'h0).toNat:Int)==45)=false:=by rw[h1,decide_eq_false hn]
  have hr:(s.size:Int)=(digs z:Int):=by omega
  clear h1 hl hs hz hn hsz hne;go_enter Tryz.func148,Tryz.ntmps148;go_wp2_with fail;go_ret;exact⟨rfl,zM _ _⟩
theorem z2g (p:Option Addr) (cap n:Nat) (q:Nat->Rat) (hn:n<=5000) (hq:∀i,i<n->okN (q i)/\sz (q i) 90) (w:zA) (HW:Hid (Wd w)) (HP:Hid (RowNums p n q w)):
 qJ 85 #[.slice p n cap] w (.int .i64 0):=by
 have D0:=hid (zM w.heap.size w);have HQ:=hid hq;clear hq;go_enter Tryz.func85,Tryz.ntmps85;go_wp2_with fail;go_loopw [3] (λi wr=>∃(k:Nat),k<=n/\i=.int .i64 (k:Int)/\Hid (qL w wr))
  (λi _=>n-(zL i).toNat)
 case atStart=>exact⟨0,zR _,rfl,D0⟩
 case round=>
  clear D0;obtain⟨k,hk,rfl,hB⟩:=hrel;by_cases hlt:k<n
  ·obtain⟨b,off,rfl,c0⟩:=(HP.out.keep (zac hB.out)) k hlt
   obtain⟨hok,hsz⟩:=HQ.out k hlt;have dd:=zok (k:=90) (by omega) hsz;have hd1:¬(90:Int)<(digs (q k).num:Int):=by have:=dd.1;omega
   have hd2:¬(90:Int)<(digs ((q k).den:Int):Int):=by rw[zd9];have:=dd.2;omega
   have HC:=hid (λW hW=>zgv (q k) hok W hW);have HPt:=hid (λW hW=>zp5 (q k) hok W hW);have HS1:=hid (λW=>zz7 (q k).num hok.1 W);have HS2:=hid (λW=>zz7 ((q k).den:Int) (by rw[zd9];exact hok.2) W);rw[Str.zad] at HS2;clear hok hsz dd;generalize numS (q k)=x at*
   generalize zE (q k).num=y at*
   generalize zD (q k).den=z at*
   generalize (digs (q k).num:Int)=g1 at*
   generalize (digs ((q k).den:Int):Int)=g2 at*
   go_wp2_with fail;refine zzM (HC.out wr (HW.out.below hB.out)) λw2 hb2=>?_;have hB2:=hid (hB.out.trans (hb2.mono hB.out.size));have c1:w2.cell? ⟨b,off+k,none⟩=some (St x):=zai hb2 c0;clear hb2 HC c0 hB;go_wp2_with fail;refine zzM (HPt.out w2 (HW.out.below hB2.out)) λw3 hb3=>?_;have hB3:=hid (hB2.out.trans (hb3.mono hB2.out.size));clear hb3 HPt c1 hB2;go_wp2_with fail;refine zzM (HS1.out w3) λw4 hb4=>?_;have hB4:=hid (hB3.out.trans (hb4.mono hB3.out.size));clear hb4 HS1 hB3;go_wp2_with fail;refine zzM (HS2.out w4) λw5 hb5=>?_;have hB5:=hid (hB4.out.trans (hb5.mono hB4.out.size));clear hb5 HS2 hB4;go_wp2_with fail;go_roundw
   case rel=>exact⟨k+1,by omega,by go_num,hB5⟩
   case measure=>simp[zL];omega
  ·go_wp2_with fail
   go_ret;exact⟨rfl,hB.out⟩
theorem z8p {b j:Nat} (h:b=2^j):(b/2=0/\b=1)\/∃i,b/2=2^i/\2*(b/2)=b:=by
 cases j with
 |zero=>left;subst h;decide
 |succ i=>
  right;have:b/2=2^i:=by rw[h,Nat.pow_succ];omega
  exact⟨i,this,by rw[this,h,Nat.pow_succ];omega⟩
theorem z3v (n:Nat) (hn:n<1000000000000000000) (w:zA):
 qJ 153 #[.int .i64 (n:Int)] w (.int .i64 (isq n:Int)):=by
 have D0:=hid (zM w.heap.size w);obtain⟨s,hs⟩:=zzX (isq n);have HS:=hid (show ∀r,r*r<=n->n<(r+1)*(r+1)->r=s from λr h1 h2=>by
  obtain⟨k1,k2⟩:=zv0 n;rw[<-hs] at k1 k2;have a:r<s+1:=Nat.mul_self_lt_mul_self_iff.1 (Nat.lt_of_le_of_lt h1 k2);have b:s<r+1:=Nat.mul_self_lt_mul_self_iff.1 (Nat.lt_of_le_of_lt k1 h2);omega)
 rw[<-hs];clear hs;have HN:=hid hn;clear hn;go_enter Tryz.func153,Tryz.ntmps153;go_wp2_with fail;go_loopw [3,4] (λr b wr=>∃(rn bn:Nat),r=.int .i64 (rn:Int)/\b=.int .i64 (bn:Int)/\Hid (rn*rn<=n)/\Hid (bn=0->n<(rn+1)*(rn+1))/\Hid (0<bn->(∃j,bn=2^j)/\n<(rn+2*bn)*(rn+2*bn))/\Hid (rn+2*bn<=1073741824)/\Hid (qL w wr))
  (λ_ b _=>(zL b).toNat)
 case atStart=>
  refine⟨0,536870912,rfl,rfl,hid (by omega),hid (λh=>by omega),hid (λ_=>⟨⟨29,by decide⟩,?_⟩),hid (by omega),D0⟩;have:=HN.out;omega
 case round=>
  clear D0;obtain⟨rn,bn,rfl,rfl,h1,h2,h3,h4,hB⟩:=hrel;by_cases hb0:0<bn
  ·obtain⟨⟨j,hj⟩,h5⟩:=h3.out hb0
   have hb1:(0:Int)<(bn:Int):=by omega
   have h4':=h4.out;have hw1:IntKind.i64.wrap ((rn:Int)+(bn:Int))=((rn+bn:Nat):Int):=by rw[zI _ ⟨by omega,by omega⟩];omega
   have hmb:(rn+bn)*(rn+bn)<=1073741824*1073741824:=Nat.mul_le_mul (by omega) (by omega);have hw2:IntKind.i64.wrap (((rn+bn:Nat):Int)*((rn+bn:Nat):Int))=(((rn+bn)*(rn+bn):Nat):Int):=by rw[<-Int.natCast_mul];exact zI _ ⟨by omega,by omega⟩
   have hdv:((bn:Int)).tdiv 2=((bn/2:Nat):Int):=by rw[Int.tdiv_eq_ediv_of_nonneg (by omega)];rfl
   have hwd:IntKind.i64.wrap ((bn/2:Nat):Int)=((bn/2:Nat):Int):=zI _ ⟨by omega,by omega⟩;have HJ:=hid (z8p hj);have H5:=hid h5;have HHB:=hid (show bn/2<=bn by omega);clear hj h5 h4' hmb h3;obtain⟨s2,hs2⟩:=zzX ((rn+bn)*(rn+bn));rw[<-hs2] at hw2;have HS2:=hid hs2;obtain⟨sm,hsm⟩:=zzX (rn+bn);rw[<-hsm] at hw1 hw2;have HSM:=hid hsm;obtain⟨bh,hbh⟩:=zzX (bn/2);rw[<-hbh] at hdv hwd;have HBH:=hid hbh;clear hs2 hsm hbh;by_cases hle:s2<=n
   ·have hlI:(s2:Int)<=(n:Int):=by omega
    have HL:=hid hle;clear hle;go_wp2_with fail;go_roundw
    case rel=>
     refine⟨sm,bh,rfl,rfl,hid ?_,hid ?_,hid ?_,hid ?_,hB⟩
     ·rw[HSM.out,<-HS2.out];exact HL.out
     ·intro h
      rcases HJ.out with⟨k1,k2⟩|⟨i,k1,k2⟩
      ·have:=H5.out
       rw[k2] at this;rw[HSM.out,k2];exact this
      ·rw[HBH.out] at h;omega
     ·intro h
      rcases HJ.out with⟨k1,k2⟩|⟨i,k1,k2⟩
      ·rw[HBH.out] at h;omega
      ·refine⟨⟨i,by rw[HBH.out];exact k1⟩,?_⟩
       rw[HBH.out,k2,HSM.out,Nat.add_assoc,<-Nat.two_mul];exact H5.out
     ·have:=h4.out;have:=HSM.out;have:=HBH.out;omega
    case measure=>simp[zL];have:=HBH.out;omega
   ·have hlI:¬(s2:Int)<=(n:Int):=by omega
    have HL:=hid hle;clear hle;go_wp2_with fail;go_roundw
    case rel=>
     refine⟨rn,bh,rfl,rfl,h1,hid ?_,hid ?_,hid ?_,hB⟩
     ·intro h
      have:=HL.out;rw[HS2.out] at this;rcases HJ.out with⟨k1,k2⟩|⟨i,k1,k2⟩
      ·rw[k2] at this;omega
      ·rw[HBH.out] at h;omega
     ·intro h
      have:=HL.out;rw[HS2.out] at this;rcases HJ.out with⟨k1,k2⟩|⟨i,k1,k2⟩
      ·rw[HBH.out] at h;omega
      ·refine⟨⟨i,by rw[HBH.out];exact k1⟩,?_⟩
       rw[HBH.out,k2];omega
     ·have:=h4.out;have:=HBH.out;omega
    case measure=>simp[zL];have:=HBH.out;omega
  ·have hb1:¬(0:Int)<(bn:Int):=by omega
   have HE:=hid (HS.out rn h1.out (h2.out (by omega)));clear h1 h2 h3 h4;go_wp2_with fail;go_ret;exact⟨by rw[HE.out];rfl,hB.out⟩
theorem z3w (n:Nat) (hn:n<10^17) (w:zA) (hw:Wd w):
 qJ 90 #[St (zD n)] w (.tuple #[St (zD (isq n)),.bool (decide (isq n*isq n=n))]):=by
 have hl:(zD n).length<=17:=(zaf n 17 (by omega)).2 hn;have hAT:=λW=>znc (n:Int) (by rw[Str.zad];omega) W;rw[Str.zad] at hAT;have hNT:=λW=>z3v n (by omega) W;have hs1:=(zv0 n).1;have hsn:isq n<=n:=by
  rcases Nat.eq_zero_or_pos (isq n) with e|e
  ·omega
  ·have:=Nat.le_mul_of_pos_left (isq n) e;omega
 have hIT:=λW hW=>zb3 (isq n:Int) (by omega) (by omega) W hW;rw[Str.zad] at hIT;have hws:IntKind.i64.wrap ((isq n:Int)*(isq n:Int))=((isq n*isq n:Nat):Int):=by rw[<-Int.natCast_mul];exact zI _ ⟨by omega,by omega⟩
 have hq:(((isq n*isq n:Nat):Int)==(n:Int))=decide (isq n*isq n=n):=by
  rw[Bool.eq_iff_iff,beq_iff_eq,decide_eq_true_eq];omega
 have hsz:(⟨(zD n).toArray⟩:ByteArray).size<=17:=by show(zD n).toArray.size<=17;simp;omega
 have HAT:=hid hAT;have HNT:=hid hNT;have HIT:=hid hIT;have HW:=hid hw;clear hAT hNT hIT hw hs1 hsn hl hn;obtain⟨s,hs⟩:=zzX (⟨(zD n).toArray⟩:ByteArray);rw[show St (zD n)=.string s by rw[hs]];rw[<-hs] at hsz HAT;have hsI:(s.size:Int)<=17:=by omega
 clear hs hsz;generalize decide (isq n*isq n=n)=bb at*
 obtain⟨q2,hq2⟩:=zzX (isq n*isq n);rw[<-hq2] at hws hq;clear hq2;generalize zD (isq n)=y at*
 generalize isq n=r at*
 go_enter Tryz.func90,Tryz.ntmps90;go_wp2_with fail;refine zzM (HAT.out w) λw1 hb=>?_;have B1:=hid hb;clear hb;go_wp2_with fail;refine zzM (HNT.out w1) λw2 hb=>?_;have B2:=hid (B1.out.trans (hb.mono B1.out.size));clear hb;go_wp2_with fail;refine zzM (HIT.out w2 (HW.out.below B2.out)) λw3 hb=>?_;have B3:=hid (B2.out.trans (hb.mono B2.out.size));clear hb;go_wp2_with fail;go_ret2;exact⟨rfl,B3.out⟩
theorem z7d (q:Rat) (most k:Nat) (_:most<=200) (hok:okN q) (hk0:0<k) (hs:sz q k) (h8:k<=most) (w:zA) (hw:Wd w):
 qJ 156 #[St (numS q),.int .i64 (most:Int)] w (.bool false):=by
 have hc:=zp5 q hok w hw;have dd:=zok (k:=k) hk0 hs;obtain⟨s,hse⟩:=zzX (⟨(zE q.num).toArray⟩:ByteArray);obtain⟨h0,h1,h2⟩:=zp6 q.num s hse;have hsz:s.size=(zE q.num).length:=by rw[hse];show(zE q.num).toArray.size=_;simp
 have hl:=zqo q.num;have hd2:¬(most:Int)<((⟨(zD q.den).toArray⟩:ByteArray).size:Int):=by
  have:(⟨(zD q.den).toArray⟩:ByteArray).size=(zD q.den).length:=by show(zD q.den).toArray.size=_;simp
  have:=dd.2;omega
 obtain⟨t,ht⟩:=zzX (⟨(zD q.den).toArray⟩:ByteArray);rw[<-ht] at hd2;rw[show St (zE q.num)=.string s by rw[hse],show St (zD q.den)=.string t by rw[ht]] at hc;have HC:=hid hc;have hs0:(0:Int)<(s.size:Int):=by omega
 clear hc hw ht;generalize numS q=x at*
 by_cases hn:q.num<0
 ·have hb:(((s[0]'h0).toNat:Int)==45)=true:=by rw[h1,decide_eq_true hn]
  have he:=h2 hn;have hd1:¬(most:Int)<((⟨(zD q.num.natAbs).toArray⟩:ByteArray).size:Int):=by
   have:(⟨(zD q.num.natAbs).toArray⟩:ByteArray).size=(zD q.num.natAbs).length:=by show(zD q.num.natAbs).toArray.size=_;simp
   have:=dd.1;unfold digs at this;omega
  generalize (⟨(zD q.num.natAbs).toArray⟩:ByteArray)=u at*
  have hs1:(1:Int)<=(s.size:Int):=by omega
  clear h1 h2 hl hse hsz dd hn;go_enter Tryz.func156,Tryz.ntmps156;go_wp2_with fail;refine zzM HC.out λw1 hb1=>?_;have HB:=hid hb1;clear hb1;go_wp2_with fail;go_ret;exact⟨by show Ending.returned (.bool (decide (most<u.size)||decide (most<t.size)))=_;rw[decide_eq_false (by omega),decide_eq_false (by omega)];rfl,HB.out⟩
 ·have hb:(((s[0]'h0).toNat:Int)==45)=false:=by rw[h1,decide_eq_false hn]
  have hd1:¬(most:Int)<(s.size:Int):=by
   rw[if_neg hn] at hl;have:=dd.1;omega
  clear h1 h2 hl hse hsz dd hn;go_enter Tryz.func156,Tryz.ntmps156;go_wp2_with fail;refine zzM HC.out λw1 hb1=>?_;have HB:=hid hb1;clear hb1;go_wp2_with fail;go_ret;exact⟨by show Ending.returned (.bool (decide (most<s.size)||decide (most<t.size)))=_;rw[decide_eq_false (by omega),decide_eq_false (by omega)];rfl,HB.out⟩
theorem zpo (w:zA):
 zC zF 149 #[] w λe w'=>∃A,e=.returned (.slice (some ⟨A,0,none⟩) 25 25)/\Below w.heap.size w w'/\∀i,i<25->w'.cell? ⟨A,i,none⟩=some (I (prN i)):=by
 go_enter Tryz.func149,Tryz.ntmps149;go_wp21;go_ret;refine⟨_,rfl,(zM _ w).alloc (zN _) _,λi hi=>?_⟩;rw[zJ (zG w _)]
 match i,hi with
 |0,_|1,_|2,_|3,_|4,_|5,_|6,_|7,_|8,_|9,_|10,_|11,_|12,_|13,_|14,_|15,_|16,_|17,_|18,_|19,_|20,_|21,_|22,_|23,_|24,_=>rfl
 |k+25,h=>exact absurd h (by omega)
structure SaS (N C L:Nat):Prop where
 out:zro prL (1,N)=(C,L)
theorem zyd (N C L:Nat) (HCL:SaS N C L) (hN0:0<N) (hN:N<10^17) (w:zA) (hw:Wd w):
 qJ 88 #[St (zD N)] w (.tuple #[St (zD L),St (zD C)]):=by
 have hl:(zD N).length<=17:=(zaf N 17 (by omega)).2 hN;have hAT:=λW=>znc (N:Int) (by rw[Str.zad];omega) W;rw[Str.zad] at hAT;have hsz:(⟨(zD N).toArray⟩:ByteArray).size<=17:=by show(zD N).toArray.size<=17;simp;omega
 have HAT:=hid hAT;have HW:=hid hw;have HN9:=hid (show N<100000000000000000 from hN);have HP:=hid (λW=>zpo W);clear hAT hw hl hN;obtain⟨s,hs⟩:=zzX (⟨(zD N).toArray⟩:ByteArray);rw[show St (zD N)=.string s by rw[hs]];rw[<-hs] at hsz HAT;have hsI:(s.size:Int)<=17:=by omega
 clear hs hsz;go_enter Tryz.func88,Tryz.ntmps88;go_wp21;refine(HP.out w).mono ?_;rintro e w0 ⟨A,rfl,hb,hc⟩;have B0:=hid hb;have HC0:=hid hc;clear hb hc HP;go_wp21;refine zzM (HAT.out w0) λw1 hb=>?_;have B1:=hid (B0.out.trans (hb.mono B0.out.size));have HC1:=hid (λi (hi:i<25)=>zai hb (HC0.out i hi));clear hb B0 HC0 HAT;go_wp21;go_loopw [5,7,8] (λlf c i wr=>∃k cN lN:Nat,k<=25/\c=I cN/\lf=I lN/\i=.int .i64 (k:Int)/\Hid (cN*cN*lN=N)/\Hid (NrmS N k (cN,lN))/\Hid (qL w wr)/\Hid (∀i,i<25->wr.cell? ⟨A,i,none⟩=some (I (prN i))))
  (λ_ _ i _=>25-(zL i).toNat)
 case atStart=>exact⟨0,1,N,by omega,rfl,rfl,rfl,hid (by omega),hid (NrmS.start N),B1,HC1⟩
 case round=>
  clear B1 HC1;obtain⟨k,cN,lN,hk,rfl,rfl,rfl,hE,hD,hB,hC⟩:=hrel;by_cases hlt:k<25
  ·obtain⟨g1,g2⟩:=zw4 k hlt
   have hcell:=hid (hC.out k hlt);obtain⟨p,hp⟩:=zzX (prN k);rw[<-hp] at g1 g2 hcell;have HPk:=hid hp;clear hp;have hwp:IntKind.i64.wrap ((p:Int)*(p:Int))=((p*p:Nat):Int):=by
    have:p*p<=97*97:=Nat.mul_le_mul g2 g2;rw[<-Int.natCast_mul];exact zI _ (by omega)
   have hpp:4<=p*p:=Nat.mul_le_mul g1 g1;obtain⟨pp,hpp2⟩:=zzX (p*p);rw[<-hpp2] at hwp hpp;have HPP:=hid hpp2;clear hpp2;have hkI:(k:Int)<25:=by omega
   go_wp21;go_loopw [5,7] (λlf c wr=>∃cN lN:Nat,c=I cN/\lf=I lN/\Hid (cN*cN*lN=N)/\Hid (NrmS N (k+1) (zkk p (cN,lN)))/\Hid (qL w wr)/\Hid (∀i,i<25->wr.cell? ⟨A,i,none⟩=some (I (prN i))))
    (λlf _ _=>(zL lf).toNat)
   case atStart=>exact⟨cN,lN,rfl,rfl,hE,hid (hD.out.enter hlt HPk.out),hB,hC⟩
   case round=>
    clear hE hD hB hcell hC;obtain⟨cN,lN,rfl,rfl,hE,hD,hB,hC⟩:=hrel;have hcell:=hC.out k hlt;rw[<-HPk.out] at hcell;have hl0:0<lN:=yS (λh=>by have:=hE.out;rw[h] at this;simp at this;omega);have hpp0:¬pp=0:=by omega
    have hle:lN<=N:=by rw[<-hE.out];exact Nat.le_mul_of_pos_left _ (yS (λh=>by have:=hE.out;rw[h] at this;simp at this;omega))
    have hmod:(lN:Int).tmod (pp:Int)=((lN%pp:Nat):Int):=rfl;have hdiv:(lN:Int).tdiv (pp:Int)=((lN/pp:Nat):Int):=rfl;have hwz:∀z:Nat,z<=lN->IntKind.i64.wrap (z:Int)=(z:Int):=λz hz=>zI _ (by have:=HN9.out;omega);have hwm:=hwz _ (Nat.mod_le lN pp);have hwd:=hwz _ (Nat.div_le_self lN pp);have hwq:IntKind.i64.wrap ((lN:Int)/(pp:Int))=((lN/pp:Nat):Int):=by rw[<-Int.natCast_ediv];exact hwd
    have HWQ:=hid hwq;clear hwz hwq;by_cases hd:pp∣lN
    ·have hm0:(((lN%pp:Nat):Int)==0)=true:=by rw[Nat.mod_eq_zero_of_dvd hd];rfl
     have hnext:=z1s (c:=cN) (l:=lN) (p:=p) (by rw[<-HPP.out];exact hd);rw[<-HPP.out,hE.out] at hnext;have hl1:0<lN/pp:=yS (λh=>by rw[h] at hnext;simp at hnext;omega);have hcp:cN*p<=N:=by
      rw[<-hnext];exact zO (Nat.le_mul_self _) (Nat.le_mul_of_pos_right _ hl1)
     have hwc:IntKind.i64.wrap ((cN:Int)*(p:Int))=((cN*p:Nat):Int):=by rw[<-Int.natCast_mul];exact zI _ (by have:=HN9.out;omega)
     have hlt2:lN/pp<lN:=Nat.div_lt_self hl0 (by omega);have hkeep:NrmS N (k+1) (zkk p (cN*p,lN/pp)):=by rw[HPP.out];exact hD.out.yes g1 hl0 (by rw[<-HPP.out];exact hd)
     have HNX:=hid hnext;have HK:=hid hkeep;have HL:=hid hlt2;clear hnext hkeep hd hlt2 hl1 hcp;go_wp2
     (refine wp_region_quiet_lit (by kernel_rfl) (by kernel_rfl) (WQ.out ?_);(repeat(first|(apply WQ.read (by rfl);(focus(rintro W ⟨n,rfl⟩;go_simp;try with_reducible rfl));try simp only[zzQ])|(apply WQ.skip (by rfl);try simp only[zzQ])));refine WQ.nil ?_;rintro _ ⟨nq,rfl⟩)
     go_wp2
     (refine wp_region_quiet_lit (by kernel_rfl) (by kernel_rfl) (WQ.out ?_);(repeat(first|(apply WQ.read (by rfl);(focus(rintro W ⟨n,rfl⟩;go_simp;try with_reducible rfl));try simp only[zzQ])|(apply WQ.skip (by rfl);try simp only[zzQ])));refine WQ.nil ?_;rintro _ ⟨nr,rfl⟩)
     go_wp2;go_roundw
     case rel=>exact⟨cN*p,lN/pp,by first|rfl|simp,by first|(rw[HWQ.out])|rfl|simp,HNX,HK,hid (zao (zao hB.out _) _),hC⟩
     case measure=>
      first|(rw[HWQ.out];show(lN/pp:Nat)<lN;exact HL.out)|(simp[zL];exact HL.out)
    ·have hm0:(((lN%pp:Nat):Int)==0)=false:=by
      rw[beq_eq_false_iff_ne];intro h;exact hd (Nat.dvd_of_mod_eq_zero (by omega))
     have hkeep:NrmS N (k+1) (cN,lN):=hD.out.no (by rw[<-HPP.out];exact hd);have HK:=hid hkeep;clear hkeep hd;go_wp2
     (refine wp_region_quiet_lit (by kernel_rfl) (by kernel_rfl) (WQ.out ?_);(repeat(first|(apply WQ.read (by rfl);(focus(rintro W ⟨n,rfl⟩;go_simp;try with_reducible rfl));try simp only[zzQ])|(apply WQ.skip (by rfl);try simp only[zzQ])));refine WQ.nil ?_;rintro _ ⟨nq,rfl⟩)
     go_wp2;go_roundw
     case rel=>exact⟨k+1,cN,lN,by omega,rfl,rfl,by go_num,hE,HK,hid (zao hB.out _),hC⟩
     case measure=>simp[zL];omega
  ·have hk25:k=25:=by omega
   have hc0:0<cN:=yS (λh=>by have:=hE.out;rw[h] at this;simp at this;omega);have hl0:0<lN:=yS (λh=>by have:=hE.out;rw[h] at this;simp at this;omega);have hle:lN<=N:=by rw[<-hE.out];exact Nat.le_mul_of_pos_left _ (Nat.mul_pos hc0 hc0)
   have hce:cN<=N:=by rw[<-hE.out];exact zO (Nat.le_mul_self _) (Nat.le_mul_of_pos_right _ hl0)
   have HNC:=hid (show(C,L)=(cN,lN) by
    have hd:=hD.out;rw[hk25] at hd;exact HCL.out.symm.trans hd.done)
   have HI1:=hid (λW hW=>zb3 (lN:Int) (by omega) (by have:=HN9.out;omega) W hW);have HI2:=hid (λW hW=>zb3 (cN:Int) (by omega) (by have:=HN9.out;omega) W hW);rw[Str.zad] at HI1 HI2;clear hc0 hl0 hle hce hD HCL hE hC hk25;go_wp21;refine zzM (HI1.out wr (HW.out.below hB.out)) λw2 hb=>?_;have B2:=hid (hB.out.trans (hb.mono hB.out.size));clear hb;go_wp21;refine zzM (HI2.out w2 (HW.out.below B2.out)) λw3 hb=>?_;have B3:=hid (B2.out.trans (hb.mono B2.out.size));clear hb;obtain⟨e1,e2⟩:=Prod.mk.inj HNC.out;subst e1;subst e2;clear HNC;go_wp21;go_ret2;exact⟨rfl,B3.out⟩
theorem yam (A:Nat) (t:TypeId) (a:Rat) (W:zA) (h:W.heap[A]? =some (.cells #[St (numS a)] t (0,0))):RowNums (some ⟨A,0,none⟩) 1 (λ_=>a) W:=λi hi=>by
 refine⟨_,_,rfl,?_⟩;rw[zJ h]
 match i,hi with
 |0,_=>rfl
theorem z01 (n p d N c l k q m:List UInt8) (is:Bool)
 (CK:Hid (∀(W:zA) (A:Nat),Wd W->W.heap[A]? =some (.cells #[St n] 23 (0,0))->qJ 85 #[.slice (some ⟨A,0,none⟩) 1 1] W (.int .i64 0)))
 (SG:Hid (∀W:zA,qJ 86 #[St n] W (.int .i64 1)))
 (PT:Hid (qK 87 #[St n] (.tuple #[St p,St d,.int .i64 0])))
 (T1:Hid (qK 89 #[St p,St d] (St N)))
 (RD:Hid (qK 88 #[St N] (.tuple #[St l,St c])))
 (SQ:Hid (qK 90 #[St l] (.tuple #[St k,.bool is])))
 (T2:Hid (is=true->qK 89 #[St c,St k] (St m)))
 (QU:Hid (qK 91 #[St (if is=true then m else c),St d] (St q)))
 (w:zA) (HW:Hid (Wd w)):
 qJ 45 #[St n] w (.tuple #[St q,(if is=true then .string ⟨#[49]⟩ else St l),.int .i64 0]):=by
 obtain⟨v1,hv⟩:=zzX (w.alloc (.cells #[St n] 23));have a1:qL w v1:=by rw[hv];exact(zM _ w).alloc (zN _) _
 have A1:v1.heap[w.heap.size]? =some (.cells #[St n] 23 (0,0)):=by rw[hv];exact zG w _
 have HCK:=hid (CK.out v1 w.heap.size (HW.out.below a1) A1);have B0:=hid a1;have HV:=hid hv.symm;clear hv a1 A1 CK;go_enter Tryz.func45,Tryz.ntmps45;go_wp21;have h9:=HV.out;rw[show w.alloc (.cells #[.string ⟨n.toArray⟩] 23)=v1 from h9];clear h9 HV;refine zzM HCK.out λw1 hb=>?_;have B1:=hid (B0.out.trans (hb.mono B0.out.size));clear hb HCK B0;go_wp21;refine zzM (SG.out w1) λw2 hb=>?_;have B2:=hid (B1.out.trans (hb.mono B1.out.size));clear hb B1;go_wp21;refine zzM (SG.out w2) λw3 hb=>?_;have B3:=hid (B2.out.trans (hb.mono B2.out.size));clear hb B2 SG;go_wp21;refine zzM (PT.out w3 (HW.out.below B3.out)) λw4 hb=>?_;have B4:=hid (B3.out.trans (hb.mono B3.out.size));clear hb B3 PT;go_wp21;refine zzM (T1.out w4 (HW.out.below B4.out)) λw5 hb=>?_;have B5:=hid (B4.out.trans (hb.mono B4.out.size));clear hb B4 T1;go_wp21;refine zzM (RD.out w5 (HW.out.below B5.out)) λw6 hb=>?_;have B6:=hid (B5.out.trans (hb.mono B5.out.size));clear hb B5 RD;go_wp21;refine zzM (SQ.out w6 (HW.out.below B6.out)) λw7 hb=>?_;have B7:=hid (B6.out.trans (hb.mono B6.out.size));clear hb B6 SQ;cases is
 ·have HQ:=hid (λW hW=>QU.out W hW)
  rw[if_neg (by simp)] at HQ;clear QU T2;go_wp21;refine zzM (HQ.out w7 (HW.out.below B7.out)) λw8 hb=>?_;have B8:=hid (B7.out.trans (hb.mono B7.out.size));clear hb;go_wp21;go_ret3;exact⟨rfl,B8.out⟩
 ·have HQ:=hid (λW hW=>QU.out W hW)
  have HT:=hid (T2.out rfl);rw[if_pos rfl] at HQ;clear QU T2;go_wp21;refine zzM (HT.out w7 (HW.out.below B7.out)) λw8 hb=>?_;have B8:=hid (B7.out.trans (hb.mono B7.out.size));clear hb;go_wp21;refine zzM (HQ.out w8 (HW.out.below B8.out)) λw9 hb=>?_;have B9:=hid (B8.out.trans (hb.mono B8.out.size));clear hb;go_wp21;go_ret3;exact⟨rfl,B9.out⟩
theorem z0m {p:Nat}:∀(f:Nat) (x:Nat×Nat),(zlu p f x).1*(zlu p f x).1*(zlu p f x).2=x.1*x.1*x.2
 |0,_=>rfl
 |f+1,x=>by
  unfold zlu;split
  ·rw[z0m f]
   exact z1s (by assumption)
  ·rfl
theorem zlt:∀(l:List Nat) (x:Nat×Nat),(zro l x).1*(zro l x).1*(zro l x).2=x.1*x.1*x.2
 |[],_=>rfl
 |p::l,x=>by
  show(zro l (zkk p x)).1*(zro l (zkk p x)).1*(zro l (zkk p x)).2=_;rw[zlt l];exact z0m _ _
theorem yan {a b:Nat}:(zD a==zD b)=decide (a=b):=by
 rw[Bool.eq_iff_iff,beq_iff_eq,decide_eq_true_eq];constructor
 ·intro h
  rw[<-Str.zad,<-Str.zad] at h;have:=zdo h;omega
 ·rintro rfl;rfl
theorem z3x (x y n d k l:List UInt8) (c:Int) (G:Prop)
 (C1:Hid (qK 139 #[St x] (.int .i64 0)))
 (C2:Hid (qK 139 #[St y] (.int .i64 0)))
 (L1:Hid (qK 156 #[St x,.int .i64 60] (.bool false)))
 (L2:Hid (qK 156 #[St y,.int .i64 40] (.bool false)))
 (PT:Hid (qK 87 #[St y] (.tuple #[St n,St d,.int .i64 0])))
 (CM:Hid (qK 93 #[St y,.string ⟨#[48]⟩] (.int .i64 c)))
 (H1:Hid ((x==[48])=false->(d==[49])=true->0<c->(y==[49])=true->G))
 (H2:Hid ((x==[48])=false->(d==[49])=true->0<c->(y==[49])=false->((k==[49])=true->(l==y)=true->G)/\qK 45 #[St y] (.tuple #[St k,St l,.int .i64 0])))
 (w:zA) (HW:Hid (Wd w)):
 zC zF 92 #[.agg #[St x,St y]] w (ErrP w G):=by
 obtain⟨s,hs⟩:=zzX (⟨x.toArray⟩:ByteArray);obtain⟨t,ht⟩:=zzX (⟨y.toArray⟩:ByteArray);obtain⟨dd,hd⟩:=zzX (⟨d.toArray⟩:ByteArray);obtain⟨kk,hk⟩:=zzX (⟨k.toArray⟩:ByteArray);obtain⟨ll,hl⟩:=zzX (⟨l.toArray⟩:ByteArray);have es:s.toList=x:=by rw[hs,ByteArray.toList_eq]
 have et:t.toList=y:=by rw[ht,ByteArray.toList_eq]
 have ed:dd.toList=d:=by rw[hd,ByteArray.toList_eq]
 have ek:kk.toList=k:=by rw[hk,ByteArray.toList_eq]
 have el:ll.toList=l:=by rw[hl,ByteArray.toList_eq]
 rw[show St x=.string s by rw[hs],show St y=.string t by rw[ht],show St d=.string dd by rw[hd],show St k=.string kk by rw[hk],show St l=.string ll by rw[hl]] at*
 rw[<-es,<-et,<-ed] at H1;rw[<-es,<-et,<-ed,<-ek,<-el] at H2;clear es et ed ek el hs ht hd hk hl;obtain⟨W0,hW0⟩:=zzX (w.alloc (.cells #[.string s,.string t] 49));have K0:=hid (show BxT w s t W0 by rw[hW0];exact BxT.start w s t);obtain⟨c0,c1⟩:=K0.out.cx;rw[hW0] at c0 c1;have H9:=hid hW0.symm;clear hW0;go_enter Tryz.func92,Tryz.ntmps92;go_wp21;rw[H9.out];clear c0 c1 H9;refine zzM (C1.out W0 (HW.out.below K0.out.bel)) λw1 hb1=>?_;have K1:=hid (K0.out.next hb1);clear hb1 K0 C1;obtain⟨c0,c1⟩:=K1.out.cx;go_wp21;clear c0 c1;refine zzM (C2.out w1 (HW.out.below K1.out.bel)) λw2 hb2=>?_;have K2:=hid (K1.out.next hb2);clear hb2 K1 C2;obtain⟨c0,c1⟩:=K2.out.cx;cases hx0:(s.toList==[48])
 ·go_wp21
  clear c0 c1;refine zzM (L1.out w2 (HW.out.below K2.out.bel)) λw3 hb3=>?_;have K3:=hid (K2.out.next hb3);clear hb3 K2 L1;obtain⟨c0,c1⟩:=K3.out.cx;go_wp21;clear c0 c1;refine zzM (L2.out w3 (HW.out.below K3.out.bel)) λw4 hb4=>?_;have K4:=hid (K3.out.next hb4);clear hb4 K3 L2;obtain⟨c0,c1⟩:=K4.out.cx;go_wp21;clear c0 c1;refine zzM (PT.out w4 (HW.out.below K4.out.bel)) λw5 hb5=>?_;have K5:=hid (K4.out.next hb5);clear hb5 K4 PT;obtain⟨c0,c1⟩:=K5.out.cx;cases hd1:(dd.toList==[49])
  ·have hdb:(dd.toList !=[49])=true:=by simp[bne,hd1]
   clear H1 H2 CM;go_wp21;go_ret;exact⟨_,rfl,(λh=>by cases h),K5.out.bel⟩
  ·have hdb:(dd.toList !=[49])=false:=by simp[bne,hd1]
   go_wp21;clear c0 c1;refine zzM (CM.out w5 (HW.out.below K5.out.bel)) λw6 hb6=>?_;have K6:=hid (K5.out.next hb6);clear hb6 K5 CM;obtain⟨c0,c1⟩:=K6.out.cx;by_cases hc:0<c
   ·have hcn:¬c<=0:=by omega
    cases hy1:(t.toList==[49])
    ·obtain⟨hG,hN⟩:=H2.out hx0 hd1 hc hy1
     have HG:=hid hG;have HN:=hid hN;clear hG hN H1 H2;go_wp21;clear c0 c1;refine zzM (HN.out w6 (HW.out.below K6.out.bel)) λw7 hb7=>?_;have K7:=hid (K6.out.next hb7);clear hb7 K6 HN;obtain⟨c0,c1⟩:=K7.out.cx;cases hk1:(kk.toList==[49])
     ·have hkb:(kk.toList !=[49])=true:=by simp[bne,hk1]
      go_wp21;go_ret;exact⟨_,rfl,(λh=>by cases h),K7.out.bel⟩
     ·have hkb:(kk.toList !=[49])=false:=by simp[bne,hk1]
      cases hl1:(ll.toList==t.toList)
      ·have hlb:(ll.toList !=t.toList)=true:=by simp[bne,hl1]
       go_wp21;go_ret;exact⟨_,rfl,(λh=>by cases h),K7.out.bel⟩
      ·have hlb:(ll.toList !=t.toList)=false:=by simp[bne,hl1]
       have HGG:=hid (HG.out hk1 hl1);go_wp21;go_ret;exact⟨_,rfl,λ_=>HGG.out,K7.out.bel⟩
    ·have HG:=hid (H1.out hx0 hd1 hc hy1)
     clear H1 H2;go_wp21;go_ret;exact⟨_,rfl,λ_=>HG.out,K6.out.bel⟩
   ·have hcn:c<=0:=by omega
    clear H1 H2;go_wp21;go_ret;exact⟨_,rfl,(λh=>by cases h),K6.out.bel⟩
 ·clear H1 H2 CM PT L1 L2
  go_wp21;go_ret;exact⟨_,rfl,(λh=>by cases h),K2.out.bel⟩
theorem z3y (b off cap:Nat) (x0 y0:List UInt8) (G0:Prop)
 (T0:Hid (∀W:zA,Wd W->zC zF 92 #[.agg #[St x0,St y0]] W (ErrP W G0)))
 (w:zA) (HW:Hid (Wd w)) (HC:Hid (w.cell? ⟨b,off,none⟩=some (St x0)/\w.cell? ⟨b,off+1,none⟩=some (St y0))):
 zC zF 46 #[.slice (some ⟨b,off,none⟩) 1 cap] w (ErrP w G0):=by
 obtain⟨c0,c1⟩:=HC.out;go_enter Tryz.func46,Tryz.ntmps46;go_wp21;refine wp_loop_rounds 2 ?_;rw[rounds_succ];go_wp21;refine(T0.out w HW.out).mono ?_;rintro e w1 ⟨r,rfl,hr,hb⟩;have B1:=hid hb;have HR:=hid hr;clear hb hr c0 c1;by_cases h0:r=0
 ·subst h0
  have HG:=hid (HR.out rfl);go_wp21
  (refine wp_region_quiet_lit (by kernel_rfl) (by kernel_rfl) (WQ.out ?_);(repeat(first|(apply WQ.read (by rfl);(focus(rintro W ⟨n,rfl⟩;go_simp;try with_reducible rfl));try simp only[zzQ])|(apply WQ.skip (by rfl);try simp only[zzQ])));refine WQ.nil ?_;rintro _ ⟨nq,rfl⟩)
  go_wp21;refine wp_loop_rounds 1 ?_;rw[rounds_succ];go_wp21;rw[rounds_succ];go_wp21;go_ret;exact⟨_,rfl,λ_=>HG.out,zao B1.out _⟩
 ·have hrb:(r !=0)=true:=by simpa using h0
  have HN:=hid h0;clear h0;go_wp21;go_ret;exact⟨r,rfl,λh=>absurd h HN.out,B1.out⟩
theorem zdn {w y:zA} {cs:Array Value} {t:TypeId} (hy:y=w.alloc (.cells cs t)):qL w y/\y.heap[w.heap.size]? =some (.cells cs t (0,0)):=by
 rw[hy];exact⟨(zM _ w).alloc (zN _) _,zG w _⟩
theorem z2h (a b c:List UInt8)
 (C0:Hid (qK 139 #[St a] (.int .i64 0)))
 (C1:Hid (qK 139 #[St b] (.int .i64 0)))
 (C2:Hid (qK 139 #[St c] (.int .i64 0)))
 (w:zA) (HW:Hid (Wd w)):
 qJ 77 #[.agg #[St a,St b,St c]] w (.int .i64 0):=by
 obtain⟨v1,hv⟩:=zzX (w.alloc (.cells #[St a,St b,St c] 25));have a1:qL w v1:=by rw[hv];exact(zM _ w).alloc (zN _) _
 have A1:v1.heap[w.heap.size]? =some (.cells #[St a,St b,St c] 25 (0,0)):=by rw[hv];exact zG w _
 have k0:v1.cell? ⟨w.heap.size,0,none⟩=some (St a):=by rw[zJ A1];rfl
 have HV:=hid hv.symm;have E1:=hid a1;have P1:=hid A1;rw[hv] at k0;clear hv a1 A1;go_enter Tryz.func77,Tryz.ntmps77;go_wp21;have h9:=HV.out;rw[show w.alloc (.cells #[.string ⟨a.toArray⟩,.string ⟨b.toArray⟩,.string ⟨c.toArray⟩] 25)=v1 from h9];clear h9 HV k0;refine zzM (C0.out v1 (HW.out.below E1.out)) λr1 hb=>?_;have E2:=hid (E1.out.trans (hb.mono E1.out.size));have P2:=hid (zac hb _ _ _ _ P1.out);clear hb E1 P1;have k1:r1.cell? ⟨w.heap.size,1,none⟩=some (St b):=by rw[zJ P2.out];rfl
 go_wp21;clear k1;refine zzM (C1.out r1 (HW.out.below E2.out)) λr2 hb=>?_;have E3:=hid (E2.out.trans (hb.mono E2.out.size));have P3:=hid (zac hb _ _ _ _ P2.out);clear hb E2 P2;have k2:r2.cell? ⟨w.heap.size,2,none⟩=some (St c):=by rw[zJ P3.out];rfl
 go_wp21;clear k2;refine zzM (C2.out r2 (HW.out.below E3.out)) λr3 hb=>?_;have E4:=hid (E3.out.trans (hb.mono E3.out.size));clear hb E3;go_wp21;go_ret;exact⟨rfl,E4.out⟩
end
section
open Go.RowKit Go.Shelf Lib Str Limb
attribute [local go_sem] Oper.semAt_some
theorem zff {W:zA} {A:Nat} {a b c d e:Value} {t:TypeId} (h:W.heap[A]? =some (.cells #[a,b,c,d,e] t (0,0))):W.cell? ⟨A,0,none⟩=some a/\W.cell? ⟨A,1,none⟩=some b/\W.cell? ⟨A,2,none⟩=some c/\W.cell? ⟨A,3,none⟩=some d/\W.cell? ⟨A,4,none⟩=some e:=
 ⟨by rw[zJ h];rfl,by rw[zJ h];rfl,by rw[zJ h];rfl,by rw[zJ h];rfl,by rw[zJ h];rfl⟩
theorem z2i (w:zA) (x y:AlR):∃V,V=(w.alloc (.cells #[.int .i64 x.w,.int .i64 x.d,.int .i64 x.s,.int .i64 x.l,.int .i64 x.n] 55)).alloc (.cells #[.int .i64 y.w,.int .i64 y.d,.int .i64 y.s,.int .i64 y.l,.int .i64 y.n] 55)/\(qL w V/\V.heap.size=w.heap.size+1+1)/\
 (V.cell? ⟨w.heap.size,0,none⟩=some (.int .i64 x.w)/\V.cell? ⟨w.heap.size,1,none⟩=some (.int .i64 x.d)/\V.cell? ⟨w.heap.size,2,none⟩=some (.int .i64 x.s)/\V.cell? ⟨w.heap.size,3,none⟩=some (.int .i64 x.l)/\V.cell? ⟨w.heap.size,4,none⟩=some (.int .i64 x.n))/\
 V.cell? ⟨w.heap.size+1,0,none⟩=some (.int .i64 y.w)/\V.cell? ⟨w.heap.size+1,1,none⟩=some (.int .i64 y.d)/\V.cell? ⟨w.heap.size+1,2,none⟩=some (.int .i64 y.s)/\V.cell? ⟨w.heap.size+1,3,none⟩=some (.int .i64 y.l)/\V.cell? ⟨w.heap.size+1,4,none⟩=some (.int .i64 y.n):=by
 obtain⟨v1,hv1⟩:=zzX (w.alloc (.cells #[.int .i64 x.w,.int .i64 x.d,.int .i64 x.s,.int .i64 x.l,.int .i64 x.n] 55));obtain⟨b1,A1⟩:=zdn hv1;have s1:v1.heap.size=w.heap.size+1:=by rw[hv1];simp
 obtain⟨v2,hv2⟩:=zzX (v1.alloc (.cells #[.int .i64 y.w,.int .i64 y.d,.int .i64 y.s,.int .i64 y.l,.int .i64 y.n] 55));obtain⟨b2,A2⟩:=zdn hv2;rw[s1] at A2;exact⟨v2,by rw[hv2,hv1],⟨b1.trans (b2.mono b1.size),by rw[hv2];simp[s1]⟩,zff (zac b2 _ _ _ _ A1),zff A2⟩
theorem z7i (x y:AlR) (w:zA):qJ 17 #[x.v,y.v] w (.bool (x.lt y)):=by
 obtain⟨V,hV,⟨hB, -⟩,⟨a0,a1,a2,a3, -⟩,c0,c1,c2,c3, -⟩:=z2i w x y;rw[hV] at a0 a1 a2 a3 c0 c1 c2 c3;have HV:=hid hV.symm;have HB:=hid hB;clear hV hB;unfold AlR.v AlR.lt;cases x;cases y;rename_i x0 x1 x2 x3 x4 y0 y1 y2 y3 y4;dsimp only at*
 by_cases h0:x0=y0
 ·subst h0
  by_cases h1:x1=y1
  ·subst h1
   by_cases h2:x2=y2
   ·subst h2
    rw[if_neg (by simp),if_neg (by simp),if_neg (by simp)];go_enter Tryz.func17,Tryz.ntmps17;go_wp21;rw[HV.out];go_ret;exact⟨rfl,HB.out⟩
   ·rw[if_neg (by simp),if_neg (by simp),if_pos h2]
    go_enter Tryz.func17,Tryz.ntmps17;go_wp21;rw[HV.out];go_ret;exact⟨rfl,HB.out⟩
  ·rw[if_neg (by simp),if_pos h1]
   go_enter Tryz.func17,Tryz.ntmps17;go_wp21;rw[HV.out];go_ret;exact⟨rfl,HB.out⟩
 ·rw[if_pos h0]
  go_enter Tryz.func17,Tryz.ntmps17;go_wp21;rw[HV.out];go_ret;exact⟨rfl,HB.out⟩
def or4 (a b c d:Int):Int:=if a≠0 then a else if b≠0 then b else if c≠0 then c else d
theorem ybc (a b c d:Int) (A:Nat) (w:zA) (h0:w.cell? ⟨A,0,none⟩=some (.int .i64 a)) (h1:w.cell? ⟨A,1,none⟩=some (.int .i64 b)) (h2:w.cell? ⟨A,2,none⟩=some (.int .i64 c)) (h3:w.cell? ⟨A,3,none⟩=some (.int .i64 d)):
 zC zF 171 #[.slice (some ⟨A,0,none⟩) 4 4] w λe w'=>e=.returned (.int .i64 (or4 a b c d))/\w'=w:=by
 rcases(show(a≠0/\or4 a b c d=a)\/(a=0/\b≠0/\or4 a b c d=b)\/(a=0/\b=0/\c≠0/\or4 a b c d=c)\/(a=0/\b=0/\c=0/\d≠0/\or4 a b c d=d)\/(a=0/\b=0/\c=0/\d=0/\or4 a b c d=0) by unfold or4;split<;>(try split)<;>(try split)<;>omega)
  with⟨ha,e⟩|⟨rfl,hb,e⟩|⟨rfl,rfl,hc,e⟩|⟨rfl,rfl,rfl,hd,e⟩|⟨rfl,rfl,rfl,rfl,e⟩
 all_goals rw[e];clear e
 all_goals
  go_enter Tryz.func171,Tryz.ntmps171;go_wp21;refine wp_loop_rounds 5 ?_
  iterate 5
   try
    rw[rounds_succ];go_wp21
  go_ret;exact⟨rfl,rfl⟩
theorem yao {n a b:Int}:inB n a b=true↔a<=n/\n<=b:=by unfold inB;simp
theorem AlR.ok_iff (x:AlR):x.ok=true↔(1<=x.w/\x.w<=1000)/\(1<=x.d/\x.d<=1000)/\(1<=x.s/\x.s<=65536)/\(0<=x.l/\x.l<=1048576)/\(1<=x.n/\x.n<=65536):=by
 unfold AlR.ok secB;simp only[Bool.and_eq_true,yao];constructor<;>intro h<;>omega
theorem ybd (x y:AlR):decide (0<=or4 (x.w-y.w) (x.d-y.d) (x.s-y.s) (x.l-y.l))=!x.lt y:=by
 unfold or4 AlR.lt;rw[Bool.eq_iff_iff]
 repeat' split
 all_goals (simp only[Bool.not_eq_true',decide_eq_true_eq,decide_eq_false_iff_not];omega)
theorem yap {W:zA} {A:Nat} {a b c d:Value} {t:TypeId} (h:W.heap[A]? =some (.cells #[a,b,c,d] t (0,0))):W.cell? ⟨A,0,none⟩=some a/\W.cell? ⟨A,1,none⟩=some b/\W.cell? ⟨A,2,none⟩=some c/\W.cell? ⟨A,3,none⟩=some d:=
 ⟨by rw[zJ h];rfl,by rw[zJ h];rfl,by rw[zJ h];rfl,by rw[zJ h];rfl⟩
theorem z7o (x y:AlR) (hx:x.ok=true) (hy:y.ok=true) (w:zA):zC zF 98 #[x.v,y.v] w λe w'=>∃o:Int,e=.returned (.int .i64 o)/\decide (0<=o)=!x.lt y/\Below w.heap.size w w':=by
 obtain⟨V,hV,⟨hB,hsz⟩,⟨a0,a1,a2,a3, -⟩,c0,c1,c2,c3, -⟩:=z2i w x y;have h4:=hid (ybd x y);rw[AlR.ok_iff] at hx hy;have w0:IntKind.i64.wrap (x.w-y.w)=x.w-y.w:=zI _ (by omega);have w1:IntKind.i64.wrap (x.d-y.d)=x.d-y.d:=zI _ (by omega);have w2:IntKind.i64.wrap (x.s-y.s)=x.s-y.s:=zI _ (by omega);have w3:IntKind.i64.wrap (x.l-y.l)=x.l-y.l:=zI _ (by omega);clear hx hy;unfold AlR.v;cases x;cases y;rename_i x0 x1 x2 x3 x4 y0 y1 y2 y3 y4;dsimp only at*
 obtain⟨V2,hV2⟩:=zzX (V.alloc (.cells #[.int .i64 (x0-y0),.int .i64 (x1-y1),.int .i64 (x2-y2),.int .i64 (x3-y3)] 3));obtain⟨b2,A2⟩:=zdn hV2;rw[hsz] at A2;obtain⟨q0,q1,q2,q3⟩:=yap A2;have OR:=hid (ybc (x0-y0) (x1-y1) (x2-y2) (x3-y3) (w.heap.size+1+1) V2 q0 q1 q2 q3);have HB:=hid (hB.trans (b2.mono hB.size));rw[hV] at a0 a1 a2 a3 c0 c1 c2 c3;have HV:=hid hV.symm;have HV2:=hid hV2.symm;clear hV hB hV2 b2 A2 q0 q1 q2 q3;generalize or4 (x0-y0) (x1-y1) (x2-y2) (x3-y3)=o at*
 go_enter Tryz.func98,Tryz.ntmps98;go_wp21;rw[HV.out,HV2.out];trace_state;refine zzM OR.out λw1 hw=>?_;subst hw;go_wp21;go_ret;exact⟨o,rfl,h4.out,HB.out⟩
section
variable {β:Type} {P:Program} {ops:Array Oper} {vs:β->Nat->Value} {C:β->(Nat->Bool)->zA->Prop} {K:Act->zA->Prop} {k:Nat} {o:Oper} {rest:List Oper} {a:Act} {b:β}
theorem za5 (hv:vs b k=undef) (hw:Region.wanted o (yielded ops a.tmps)=false) (hset:∀f w,C b f w->C b (λj=>if k=j then true else f j) w) (h:AcLB P ops vs C K b (k+1) rest (a.put o.dst undef)):AcLB P ops vs C K b k (o::rest) a:=by
 refine⟨λf w hf hC=>?_,by rw[hv];exact h⟩;rw[if_neg (by rw[hw];simp)];exact⟨b,λ_ _=>rfl,hv,hset f w hC⟩
end
def RowAl (p:Option Addr) (n:Nat) (q:Nat->AlR) (W:zA):Prop:=∀i,i<n->∃b off,p=some ⟨b,off,none⟩/\W.cell? ⟨b,off+i*5,none⟩=some (.int .i64 (q i).w)/\W.cell? ⟨b,off+i*5+1,none⟩=some (.int .i64 (q i).d)/\W.cell? ⟨b,off+i*5+2,none⟩=some (.int .i64 (q i).s)/\W.cell? ⟨b,off+i*5+3,none⟩=some (.int .i64 (q i).l)/\W.cell? ⟨b,off+i*5+4,none⟩=some (.int .i64 (q i).n)
theorem RowAl.kept {p:Option Addr} {n:Nat} {q:Nat->AlR} {W W':zA} (h:RowAl p n q W) (hc:CellsKept W W'):RowAl p n q W':=λi hi=>by
 obtain⟨b,off,e,h0,h1,h2,h3,h4⟩:=h i hi;exact⟨b,off,e,hc.cell h0,hc.cell h1,hc.cell h2,hc.cell h3,hc.cell h4⟩
theorem RowAl.keep {p:Option Addr} {n:Nat} {q:Nat->AlR} {W W':zA} (h:RowAl p n q W) (hb:qL W W'):RowAl p n q W':=h.kept (zac hb)
theorem RowAl.at {b off n:Nat} {q:Nat->AlR} {W:zA} (h:RowAl (some ⟨b,off,none⟩) n q W) (i:Nat) (hi:i<n):W.cell? ⟨b,off+i*5,none⟩=some (.int .i64 (q i).w)/\W.cell? ⟨b,off+i*5+1,none⟩=some (.int .i64 (q i).d)/\W.cell? ⟨b,off+i*5+2,none⟩=some (.int .i64 (q i).s)/\W.cell? ⟨b,off+i*5+3,none⟩=some (.int .i64 (q i).l)/\W.cell? ⟨b,off+i*5+4,none⟩=some (.int .i64 (q i).n):=by
 obtain⟨b',off',e,h0⟩:=h i hi;injection e with e;injection e with e1 e2;subst e1;subst e2;exact h0
def TabO (n:Nat) (q:Nat->AlR):Prop:=∀i,i<n->(q i).ok=true/\(0<i->(q (i-1)).lt (q i)=true)
theorem z2j (p:Option Addr) (cap n:Nat) (q:Nat->AlR) (hn:n<=4096) (w:zA) (HR:Hid (RowAl p n q w)):
 zC zF 4 #[.slice p n cap] w (ErrP w (TabO n q)):=by
 have hnI:¬(4096:Int)<(n:Int):=by omega
 have D0:=hid (zM w.heap.size w);go_enter Tryz.func4,Tryz.ntmps4;go_wp21;go_loopw [3] (λi wr=>∃(k:Nat),k<=n/\i=.int .i64 (k:Int)/\Hid (qL w wr)/\Hid (TabO k q))
  (λi _=>n-(zL i).toNat)
 case atStart=>exact⟨0,zR _,rfl,D0,hid λi hi=>absurd hi (by omega)⟩
 case round=>
  clear D0;obtain⟨k,hk,rfl,D1,G1⟩:=hrel;by_cases hlt:k<n
  ·obtain⟨b,off,rfl, -⟩:=HR.out k hlt
   obtain⟨x,hx⟩:=zzX (q k);have RW:=hid λ(W:zA) (h:qL wr W)=>((HR.out.keep D1.out).keep h).at k hlt;rw[<-hx] at RW;have HX:=hid hx;clear hx;have co:=z66 x.w x.d x.s x.l;have ou:=z2f x.n 1 65536;have HLK:=hid hlt;cases hsec:secB x.w x.d x.s x.l
   ·rw[hsec] at co
    have CO:=hid co;clear co ou;go_wp21;refine zc4 (λ(_:Unit) i=>([.slice (some ⟨b,off,none⟩) n cap,.int .i64 (k:Int),.pointer (some ⟨b,off+k*5,none⟩),.pointer (some ⟨b,off+k*5,none⟩),.int .i64 x.w,.slice (some ⟨b,off,none⟩) n cap,.int .i64 (k:Int),.pointer (some ⟨b,off+k*5,none⟩),.pointer (some ⟨b,off+k*5+1,none⟩),.int .i64 x.d,.slice (some ⟨b,off,none⟩) n cap,.int .i64 (k:Int),.pointer (some ⟨b,off+k*5,none⟩),.pointer (some ⟨b,off+k*5+2,none⟩),.int .i64 x.s,.slice (some ⟨b,off,none⟩) n cap,.int .i64 (k:Int),.pointer (some ⟨b,off+k*5,none⟩),.pointer (some ⟨b,off+k*5+3,none⟩),.int .i64 x.l,.int .i64 2,.bool true,.bool true,undef,undef,undef,undef,undef,undef,.bool true]:List Value)[i]?.getD undef)
     (λ_ _ W=>qL wr W) (by kernel_rfl) (by kernel_rfl) () (zM _ wr).drew λ_=>?_
    refine qB (.slice (some ⟨b,off,none⟩) n cap) (λf W' h=>h) ?_;refine qB (.int .i64 (k:Int)) (λf W' h=>h) ?_;refine qB (.pointer (some ⟨b,off+k*5,none⟩)) (λf W' h=>h) ?_;simp only[zzQ];refine qB (.pointer (some ⟨b,off+k*5,none⟩)) (λf W' h=>h) ?_;refine qB (.int .i64 x.w) (λf W' h=>h) ?_ (hy:=λf W' hf h=>by obtain⟨c0,c1,c2,c3,c4⟩:=RW.out W' h;go_simp);refine qB (.slice (some ⟨b,off,none⟩) n cap) (λf W' h=>h) ?_;simp only[zzQ];refine qB (.int .i64 (k:Int)) (λf W' h=>h) ?_;refine qB (.pointer (some ⟨b,off+k*5,none⟩)) (λf W' h=>h) ?_;refine qB (.pointer (some ⟨b,off+k*5+1,none⟩)) (λf W' h=>h) ?_;simp only[zzQ];refine qB (.int .i64 x.d) (λf W' h=>h) ?_ (hy:=λf W' hf h=>by obtain⟨c0,c1,c2,c3,c4⟩:=RW.out W' h;go_simp);refine qB (.slice (some ⟨b,off,none⟩) n cap) (λf W' h=>h) ?_;refine qB (.int .i64 (k:Int)) (λf W' h=>h) ?_;simp only[zzQ];refine qB (.pointer (some ⟨b,off+k*5,none⟩)) (λf W' h=>h) ?_;refine qB (.pointer (some ⟨b,off+k*5+2,none⟩)) (λf W' h=>h) ?_;refine qB (.int .i64 x.s) (λf W' h=>h) ?_ (hy:=λf W' hf h=>by obtain⟨c0,c1,c2,c3,c4⟩:=RW.out W' h;go_simp);simp only[zzQ];refine qB (.slice (some ⟨b,off,none⟩) n cap) (λf W' h=>h) ?_;refine qB (.int .i64 (k:Int)) (λf W' h=>h) ?_;refine qB (.pointer (some ⟨b,off+k*5,none⟩)) (λf W' h=>h) ?_;simp only[zzQ]
    refine qB (.pointer (some ⟨b,off+k*5+3,none⟩)) (λf W' h=>h) ?_;refine qB (.int .i64 x.l) (λf W' h=>h) ?_ (hy:=λf W' hf h=>by obtain⟨c0,c1,c2,c3,c4⟩:=RW.out W' h;go_simp);simp only[zzQ]
    refine zdc (.int .i64 2) (by rfl) (by rfl) (λf W' hf h C' hC'=>by
     go_simp;refine zzM (CO.out W') λw' hw=>?_;subst hw;exact⟨_,rfl,hC' () _ (λi hi=>rfl) h⟩) ?_
    refine qB (.bool true) (λf W' h=>h) ?_;refine qB (.bool true) (λf W' h=>h) ?_;simp only[zzQ];refine za5 (by rfl) (by rfl) (λf W' h=>h) ?_
    try simp only[zzQ]
    refine za5 (by rfl) (by rfl) (λf W' h=>h) ?_
    try simp only[zzQ]
    refine za5 (by rfl) (by rfl) (λf W' h=>h) ?_
    try simp only[zzQ]
    refine za5 (by rfl) (by rfl) (λf W' h=>h) ?_
    try simp only[zzQ]
    refine za5 (by rfl) (by rfl) (λf W' h=>h) ?_
    try simp only[zzQ]
    refine za5 (by rfl) (by rfl) (λf W' h=>h) ?_
    refine qB (.bool true) (λf W' h=>h) ?_;simp only[zzQ];refine ze1 λf W4 hf h=>?_;have D2:=hid (D1.out.trans (h.mono D1.out.size));clear h hf;go_wp21;go_ret;exact⟨_,rfl,(λh=>by cases h),D2.out⟩
   ·rw[hsec] at co
    have CO:=hid co;have HSEC:=hid hsec;obtain⟨bn,hbn⟩:=zzX (!inB x.n 1 65536);rw[<-hbn] at ou;have OU:=hid ou;have HBN:=hid hbn;clear co ou hsec hbn;go_wp21;refine zc4 (λ(_:Unit) i=>([.slice (some ⟨b,off,none⟩) n cap,.int .i64 (k:Int),.pointer (some ⟨b,off+k*5,none⟩),.pointer (some ⟨b,off+k*5,none⟩),.int .i64 x.w,.slice (some ⟨b,off,none⟩) n cap,.int .i64 (k:Int),.pointer (some ⟨b,off+k*5,none⟩),.pointer (some ⟨b,off+k*5+1,none⟩),.int .i64 x.d,.slice (some ⟨b,off,none⟩) n cap,.int .i64 (k:Int),.pointer (some ⟨b,off+k*5,none⟩),.pointer (some ⟨b,off+k*5+2,none⟩),.int .i64 x.s,.slice (some ⟨b,off,none⟩) n cap,.int .i64 (k:Int),.pointer (some ⟨b,off+k*5,none⟩),.pointer (some ⟨b,off+k*5+3,none⟩),.int .i64 x.l,.int .i64 0,.bool false,.bool false,.slice (some ⟨b,off,none⟩) n cap,.int .i64 (k:Int),.pointer (some ⟨b,off+k*5,none⟩),.pointer (some ⟨b,off+k*5+4,none⟩),.int .i64 x.n,.bool bn,.bool bn]:List Value)[i]?.getD undef)
     (λ_ _ W=>qL wr W) (by kernel_rfl) (by kernel_rfl) () (zM _ wr).drew λ_=>?_
    refine qB (.slice (some ⟨b,off,none⟩) n cap) (λf W' h=>h) ?_;refine qB (.int .i64 (k:Int)) (λf W' h=>h) ?_;refine qB (.pointer (some ⟨b,off+k*5,none⟩)) (λf W' h=>h) ?_;simp only[zzQ];refine qB (.pointer (some ⟨b,off+k*5,none⟩)) (λf W' h=>h) ?_;refine qB (.int .i64 x.w) (λf W' h=>h) ?_ (hy:=λf W' hf h=>by obtain⟨c0,c1,c2,c3,c4⟩:=RW.out W' h;go_simp);refine qB (.slice (some ⟨b,off,none⟩) n cap) (λf W' h=>h) ?_;simp only[zzQ];refine qB (.int .i64 (k:Int)) (λf W' h=>h) ?_;refine qB (.pointer (some ⟨b,off+k*5,none⟩)) (λf W' h=>h) ?_;refine qB (.pointer (some ⟨b,off+k*5+1,none⟩)) (λf W' h=>h) ?_;simp only[zzQ];refine qB (.int .i64 x.d) (λf W' h=>h) ?_ (hy:=λf W' hf h=>by obtain⟨c0,c1,c2,c3,c4⟩:=RW.out W' h;go_simp);refine qB (.slice (some ⟨b,off,none⟩) n cap) (λf W' h=>h) ?_;refine qB (.int .i64 (k:Int)) (λf W' h=>h) ?_;simp only[zzQ];refine qB (.pointer (some ⟨b,off+k*5,none⟩)) (λf W' h=>h) ?_;refine qB (.pointer (some ⟨b,off+k*5+2,none⟩)) (λf W' h=>h) ?_;refine qB (.int .i64 x.s) (λf W' h=>h) ?_ (hy:=λf W' hf h=>by obtain⟨c0,c1,c2,c3,c4⟩:=RW.out W' h;go_simp);simp only[zzQ];refine qB (.slice (some ⟨b,off,none⟩) n cap) (λf W' h=>h) ?_;refine qB (.int .i64 (k:Int)) (λf W' h=>h) ?_;refine qB (.pointer (some ⟨b,off+k*5,none⟩)) (λf W' h=>h) ?_;simp only[zzQ]
    refine qB (.pointer (some ⟨b,off+k*5+3,none⟩)) (λf W' h=>h) ?_;refine qB (.int .i64 x.l) (λf W' h=>h) ?_ (hy:=λf W' hf h=>by obtain⟨c0,c1,c2,c3,c4⟩:=RW.out W' h;go_simp);simp only[zzQ]
    refine zdc (.int .i64 0) (by rfl) (by rfl) (λf W' hf h C' hC'=>by
     go_simp;refine zzM (CO.out W') λw' hw=>?_;subst hw;exact⟨_,rfl,hC' () _ (λi hi=>rfl) h⟩) ?_
    refine qB (.bool false) (λf W' h=>h) ?_;refine qB (.bool false) (λf W' h=>h) ?_;simp only[zzQ];refine qB (.slice (some ⟨b,off,none⟩) n cap) (λf W' h=>h) ?_;refine qB (.int .i64 (k:Int)) (λf W' h=>h) ?_;refine qB (.pointer (some ⟨b,off+k*5,none⟩)) (λf W' h=>h) ?_;simp only[zzQ];refine qB (.pointer (some ⟨b,off+k*5+4,none⟩)) (λf W' h=>h) ?_;refine qB (.int .i64 x.n) (λf W' h=>h) ?_ (hy:=λf W' hf h=>by obtain⟨c0,c1,c2,c3,c4⟩:=RW.out W' h;go_simp);simp only[zzQ]
    refine zdc (.bool bn) (by rfl) (by rfl) (λf W' hf h C' hC'=>by
     go_simp;refine zzM (OU.out W') λw' hw=>?_;subst hw;exact⟨_,rfl,hC' () _ (λi hi=>rfl) h⟩) ?_
    refine qB (.bool bn) (λf W' h=>h) ?_;simp only[zzQ];refine ze1 λf W4 hf h4=>?_;clear hf CO OU;cases bn
    rotate_left
    ·have D2:=hid (D1.out.trans (h4.mono D1.out.size))
     clear h4 D1;go_wp21;go_ret;exact⟨_,rfl,(λh=>by cases h),D2.out⟩
    ·have OKX:Hid (x.ok=true):=hid (by
      unfold AlR.ok;rw[HSEC.out,Bool.true_and];have:=HBN.out;simpa using this.symm)
     clear HSEC HBN;by_cases hk0:k=0
     ·have hkd:decide ((0:Int)<(k:Int))=false:=decide_eq_false (by omega)
      have HK0:=hid hk0;clear hk0 hkd;go_wp21;refine zc4 (λ(_:Unit) i=>([.int .i64 (k:Int),.bool false,.bool false,undef,undef,undef,undef,undef,undef,undef,undef,undef,undef,undef,.bool false]:List Value)[i]?.getD undef)
       (λ_ _ W=>qL wr W) (by kernel_rfl) (by kernel_rfl) () (h4.drew) λ_=>?_
      refine qB (.int .i64 (k:Int)) (λf W' h=>h) ?_;refine qB (.bool false) (λf W' h=>h) ?_ (hy:=λf W' hf h=>by go_simp;exact HK0.out);refine qB (.bool false) (λf W' h=>h) ?_;simp only[zzQ];refine za5 (by rfl) (by rfl) (λf W' h=>h) ?_
      try simp only[zzQ]
      refine za5 (by rfl) (by rfl) (λf W' h=>h) ?_
      try simp only[zzQ]
      refine za5 (by rfl) (by rfl) (λf W' h=>h) ?_
      try simp only[zzQ]
      refine za5 (by rfl) (by rfl) (λf W' h=>h) ?_
      try simp only[zzQ]
      refine za5 (by rfl) (by rfl) (λf W' h=>h) ?_
      try simp only[zzQ]
      refine za5 (by rfl) (by rfl) (λf W' h=>h) ?_
      try simp only[zzQ]
      refine za5 (by rfl) (by rfl) (λf W' h=>h) ?_
      try simp only[zzQ]
      refine za5 (by rfl) (by rfl) (λf W' h=>h) ?_
      try simp only[zzQ]
      refine za5 (by rfl) (by rfl) (λf W' h=>h) ?_
      try simp only[zzQ]
      refine za5 (by rfl) (by rfl) (λf W' h=>h) ?_
      try simp only[zzQ]
      refine za5 (by rfl) (by rfl) (λf W' h=>h) ?_
      refine qB (.bool false) (λf W' h=>h) ?_;simp only[zzQ];refine ze1 λf W5 hf h=>?_;have D2:=hid (D1.out.trans (h.mono D1.out.size));have HT:Hid (TabO (k+1) q):=hid λi hi=>by
       have:i=k:=by have:=HK0.out;omega
       subst this;exact⟨by rw[<-HX.out];exact OKX.out,λh0=>absurd h0 (by have:=HK0.out;omega)⟩
      clear h hf h4 D1 G1;go_wp21;have hlt:=HLK.out;go_roundw
      case rel=>exact⟨k+1,by omega,by go_num,D2,HT⟩
      case measure=>simp[zL];omega
     ·obtain⟨j,hj⟩:∃j,k=j+1:=⟨k-1,by omega⟩
      have HKP:=hid (show 0<k by omega);have hw1:IntKind.i64.wrap ((k:Int)-1)=(j:Int):=by rw[show(k:Int)-1=(j:Int) by omega];exact zI _ (by omega)
      have hw2:wrap64 ((k:Int)-1)=(j:Int):=by rw[show(k:Int)-1=(j:Int) by omega];unfold wrap64;omega
      obtain⟨y,hy⟩:=zzX (q j);have RY:=hid λ(W:zA) (h:qL wr W)=>((HR.out.keep D1.out).keep h).at j (by omega);rw[<-hy] at RY;obtain⟨lt,hl⟩:=zzX (y.lt x);have bf:=λW=>z7i y x W;rw[<-hl] at bf;unfold AlR.v at bf;have BF:=hid bf;have HJ:=hid hj;have HY:=hid hy;have HL:=hid hl;have hjn:j<n:=by omega
      clear bf hj hy hl hk0;go_wp21;refine zc4 (λ(_:Unit) i=>([.int .i64 (k:Int),.bool true,.bool true,.slice (some ⟨b,off,none⟩) n cap,.int .i64 (k:Int),.int .i64 (j:Int),.pointer (some ⟨b,off+j*5,none⟩),.agg #[.int .i64 y.w,.int .i64 y.d,.int .i64 y.s,.int .i64 y.l,.int .i64 y.n],.slice (some ⟨b,off,none⟩) n cap,.int .i64 (k:Int),.pointer (some ⟨b,off+k*5,none⟩),.agg #[.int .i64 x.w,.int .i64 x.d,.int .i64 x.s,.int .i64 x.l,.int .i64 x.n],.bool lt,.bool (!lt),.bool (!lt)]:List Value)[i]?.getD undef)
       (λ_ _ W=>qL wr W) (by kernel_rfl) (by kernel_rfl) () (h4.drew) λ_=>?_
      refine qB (.int .i64 (k:Int)) (λf W' h=>h) ?_;refine qB (.bool true) (λf W' h=>h) ?_ (hy:=λf W' hf h=>by go_simp;exact HKP.out);refine qB (.bool true) (λf W' h=>h) ?_;simp only[zzQ];refine qB (.slice (some ⟨b,off,none⟩) n cap) (λf W' h=>h) ?_;refine qB (.int .i64 (k:Int)) (λf W' h=>h) ?_;refine qB (.int .i64 (j:Int)) (λf W' h=>h) ?_;simp only[zzQ];refine qB (.pointer (some ⟨b,off+j*5,none⟩)) (λf W' h=>h) ?_;refine qB (.agg #[.int .i64 y.w,.int .i64 y.d,.int .i64 y.s,.int .i64 y.l,.int .i64 y.n]) (λf W' h=>h) ?_ (hy:=λf W' hf h=>by obtain⟨c0,c1,c2,c3,c4⟩:=RY.out W' h;go_simp);refine qB (.slice (some ⟨b,off,none⟩) n cap) (λf W' h=>h) ?_;simp only[zzQ];refine qB (.int .i64 (k:Int)) (λf W' h=>h) ?_;refine qB (.pointer (some ⟨b,off+k*5,none⟩)) (λf W' h=>h) ?_;refine qB (.agg #[.int .i64 x.w,.int .i64 x.d,.int .i64 x.s,.int .i64 x.l,.int .i64 x.n]) (λf W' h=>h) ?_ (hy:=λf W' hf h=>by obtain⟨c0,c1,c2,c3,c4⟩:=RW.out W' h;go_simp);simp only[zzQ]
      refine zdc (.bool lt) (by rfl) (by rfl) (λf W' hf h C' hC'=>by
       go_simp;refine zzM (BF.out W') λw' hb=>?_;exact⟨_,rfl,hC' () _ (λi hi=>rfl) (h.trans (hb.mono h.size))⟩) ?_
      refine qB (.bool (!lt)) (λf W' h=>h) ?_;refine qB (.bool (!lt)) (λf W' h=>h) ?_;simp only[zzQ];refine ze1 λf W5 hf h=>?_;have D2:=hid (D1.out.trans (h.mono D1.out.size));clear h hf h4 D1 RW RY BF hw1 hw2;cases lt
      ·go_wp21
       go_ret;exact⟨_,rfl,(λh=>by cases h),D2.out⟩
      ·have HT:Hid (TabO (k+1) q):=hid λi hi=>by
        by_cases e:i<k
        ·exact G1.out i e
        ·have:i=k:=by omega
         subst this;refine⟨by rw[<-HX.out];exact OKX.out,λ_=>?_⟩;rw[show i-1=j by have:=HJ.out;omega,<-HY.out,<-HX.out];exact HL.out.symm
       go_wp21;have hlt:=HLK.out;go_roundw
       case rel=>exact⟨k+1,by omega,by go_num,D2,HT⟩
       case measure=>simp[zL];omega
  ·have hkn:k=n:=by omega
   subst hkn;go_wp21;go_ret;exact⟨_,rfl,(λ_=>G1.out),D1.out⟩
theorem z3z (p:Option Addr) (cap n:Nat) (q:Nat->AlR) (hn:n<=4096) (hT:Hid (TabO n q)) (w:zA) (HR:Hid (RowAl p n q w)):
 qJ 48 #[.slice p n cap] w (.int .i64 0):=by
 have hnI:¬(4096:Int)<(n:Int):=by omega
 have D0:=hid (zM w.heap.size w);go_enter Tryz.func48,Tryz.ntmps48;go_wp21;go_loopw [10] (λi wr=>∃(k:Nat),k<=n/\i=.int .i64 (k:Int)/\Hid (qL w wr))
  (λi _=>n-(zL i).toNat)
 case atStart=>exact⟨0,zR _,rfl,D0⟩
 case round=>
  clear D0;obtain⟨k,hk,rfl,D1⟩:=hrel;by_cases hlt:k<n
  ·obtain⟨b,off,rfl, -⟩:=HR.out k hlt
   obtain⟨x,hx⟩:=zzX (q k);obtain⟨ok,ltk⟩:=hT.out k hlt;rw[<-hx] at ok ltk;obtain⟨c0,c1,c2,c3,c4⟩:=(HR.out.keep D1.out).at k hlt;rw[<-hx] at c0 c1 c2 c3 c4;obtain⟨v1,hv⟩:=zzX (wr.alloc (.cells #[.int .i64 x.w,.int .i64 x.d,.int .i64 x.s,.int .i64 x.l,.int .i64 x.n] 55));obtain⟨b1,A1⟩:=zdn hv;have TB:=hid λ(W:zA) (h:qL v1 W)=>zff (zac h _ _ _ _ A1);obtain⟨d0,d1,d2,d3,d4⟩:=zff A1;have D2:=hid (D1.out.trans (b1.mono D1.out.size));have hsec:secB x.w x.d x.s x.l=true/\inB x.n 1 65536=true:=by unfold AlR.ok at ok;simpa using ok
   have rg:=zzz x.w x.d x.s x.l;rw[hsec.1] at rg;have wi:=zbz x.n 1 65536;rw[hsec.2] at wi;have RG:=hid rg;have WI:=hid wi;have HX:=hid hx;have OK:=hid ok;have LT:=hid ltk;have HLK:=hid hlt;have HB1:=hid b1;rw[hv] at d0 d1 d2 d3 d4;have HV:=hid hv.symm;clear hv b1 A1 hsec rg wi hx ok ltk;go_wp21;rw[HV.out];refine zzM (RG.out v1) λw1 hw=>?_;have hw':=hw.symm;subst hw';clear hw;rw[HV.out] at d0 d1 d2 d3 d4;go_wp21;refine zzM (WI.out v1) λw2 hw=>?_;have hw':=hw.symm;subst hw';clear hw;by_cases hk0:k=0
   ·have HK0:=hid hk0
    clear hk0 c0 c1 c2 c3 c4;go_wp21;refine zc4 (λ(_:Unit) i=>([.int .i64 (k:Int),.bool false,.bool false,undef,undef,undef,undef,undef,undef,undef,undef,.bool false]:List Value)[i]?.getD undef)
     (λ_ _ W=>qL v1 W) (by kernel_rfl) (by kernel_rfl) () (zM _ _).drew λ_=>?_
    refine qB (.int .i64 (k:Int)) (λf W' h=>h) ?_;refine qB (.bool false) (λf W' h=>h) ?_ (hy:=λf W' hf h=>by go_simp;exact HK0.out);refine qB (.bool false) (λf W' h=>h) ?_;simp only[zzQ];refine za5 (by rfl) (by rfl) (λf W' h=>h) ?_
    try simp only[zzQ]
    refine za5 (by rfl) (by rfl) (λf W' h=>h) ?_
    try simp only[zzQ]
    refine za5 (by rfl) (by rfl) (λf W' h=>h) ?_
    try simp only[zzQ]
    refine za5 (by rfl) (by rfl) (λf W' h=>h) ?_
    try simp only[zzQ]
    refine za5 (by rfl) (by rfl) (λf W' h=>h) ?_
    try simp only[zzQ]
    refine za5 (by rfl) (by rfl) (λf W' h=>h) ?_
    try simp only[zzQ]
    refine za5 (by rfl) (by rfl) (λf W' h=>h) ?_
    try simp only[zzQ]
    refine za5 (by rfl) (by rfl) (λf W' h=>h) ?_
    refine qB (.bool false) (λf W' h=>h) ?_;simp only[zzQ];refine ze1 λf W5 hf h=>?_;have D3:=hid (D2.out.trans (h.mono D2.out.size));clear h hf D1 D2 d0 d1 d2 d3 d4;go_wp21;have hlt:=HLK.out;go_roundw
    case rel=>exact⟨k+1,by omega,by go_num,D3⟩
    case measure=>simp[zL];omega
   ·obtain⟨j,hj⟩:∃j,k=j+1:=⟨k-1,by omega⟩
    have HKP:=hid (show 0<k by omega);have hw1:IntKind.i64.wrap ((k:Int)-1)=(j:Int):=by rw[show(k:Int)-1=(j:Int) by omega];exact zI _ (by omega)
    have hw2:wrap64 ((k:Int)-1)=(j:Int):=by rw[show(k:Int)-1=(j:Int) by omega];unfold wrap64;omega
    obtain⟨y,hy⟩:=zzX (q j);have oky:=(hT.out j (by omega)).1;have hl:=LT.out HKP.out;rw[show k-1=j by omega,<-hy] at hl;rw[<-hy] at oky;have RY:=hid λ(W:zA) (h:qL v1 W)=>((HR.out.keep D2.out).keep h).at j (by omega);rw[<-hy] at RY;have od:=λW=>z7o y x oky OK.out W;rw[hl] at od;unfold AlR.v at od;have OD:=hid od;have hjn:j<n:=by omega
    clear od hj hy hl hk0 oky c0 c1 c2 c3 c4;go_wp21;refine zc4 (λ(gh:Int) i=>([.int .i64 (k:Int),.bool true,.bool true,.slice (some ⟨b,off,none⟩) n cap,.int .i64 (k:Int),.int .i64 (j:Int),.pointer (some ⟨b,off+j*5,none⟩),.agg #[.int .i64 y.w,.int .i64 y.d,.int .i64 y.s,.int .i64 y.l,.int .i64 y.n],.agg #[.int .i64 x.w,.int .i64 x.d,.int .i64 x.s,.int .i64 x.l,.int .i64 x.n],.int .i64 gh,.bool false,.bool false]:List Value)[i]?.getD undef)
     (λgh f W=>qL v1 W/\(f 9=true->decide (0<=gh)=false)) (by kernel_rfl) (by kernel_rfl) 0 ⟨(zM _ _).drew,λh=>(by cases h)⟩ λgh=>?_
    refine qB (.int .i64 (k:Int)) (λf W' h=>h) ?_;refine qB (.bool true) (λf W' h=>h) ?_ (hy:=λf W' hf h=>by go_simp;exact HKP.out);refine qB (.bool true) (λf W' h=>h) ?_;simp only[zzQ];refine qB (.slice (some ⟨b,off,none⟩) n cap) (λf W' h=>h) ?_;refine qB (.int .i64 (k:Int)) (λf W' h=>h) ?_;refine qB (.int .i64 (j:Int)) (λf W' h=>h) ?_;simp only[zzQ];refine qB (.pointer (some ⟨b,off+j*5,none⟩)) (λf W' h=>h) ?_;refine qB (.agg #[.int .i64 y.w,.int .i64 y.d,.int .i64 y.s,.int .i64 y.l,.int .i64 y.n]) (λf W' h=>h) ?_ (hy:=λf W' hf h=>by obtain⟨c0,c1,c2,c3,c4⟩:=RY.out W' h.1;go_simp);refine qB (.agg #[.int .i64 x.w,.int .i64 x.d,.int .i64 x.s,.int .i64 x.l,.int .i64 x.n]) (λf W' h=>h) ?_ (hy:=λf W' hf h=>by obtain⟨c0,c1,c2,c3,c4⟩:=TB.out W' h.1;go_simp);simp only[zzQ]
    refine zdc (.int .i64 gh) (by rfl) (by rfl) (λf W' hf h C' hC'=>by
     go_simp;refine(OD.out W').mono ?_;rintro e w' ⟨o,rfl,ho,hb⟩;refine⟨_,rfl,hC' o _ (λi hi=>?_) ⟨h.1.trans (hb.mono h.1.size),λ_=>ho⟩⟩
     match i,hi with
     |0,_|1,_|2,_|3,_|4,_|5,_|6,_|7,_|8,_|11,_=>rfl
     |9,hi=>rw[hf.self] at hi;cases hi
     |10,_=>rfl
     |_+12,_=>rfl) ?_
    refine qB (.bool false) (λf W' h=>h) ?_ (hy:=λf W' hf h=>by have ho:=h.2 (hf.done 9 (by kernel_rfl));go_simp);refine qB (.bool false) (λf W' h=>h) ?_;simp only[zzQ];refine ze1 λf W5 hf h=>?_;have D3:=hid (D2.out.trans (h.1.mono D2.out.size));clear h hf D1 D2 d0 d1 d2 d3 d4 RY OD hw1 hw2;go_wp21;have hlt:=HLK.out;go_roundw
    case rel=>exact⟨k+1,by omega,by go_num,D3⟩
    case measure=>simp[zL];omega
  ·have hkn:k=n:=by omega
   subst hkn;go_wp21;go_ret;exact⟨rfl,D1.out⟩
def enoB (wd dp sp ld:Int) (x:AlR):Bool:=decide (x.w<=wd)&&(decide (x.d<=dp)&&(decide (sp<=x.s)&&decide (ld<=x.l)))
def cntE (e:AlR->Bool) (q:Nat->AlR):Nat->Nat
 |0=>0
 |i+1=>cntE e q i+if e (q i)=true then 1 else 0
def maxE (e:AlR->Bool) (q:Nat->AlR):Nat->Int
 |0=>0
 |i+1=>if e (q i)=true then max (maxE e q i) (q i).n else maxE e q i
theorem zl0 (e:AlR->Bool) (q:Nat->AlR) (i:Nat):∀k,cntE e q i<=cntE e q (i+k)
 |0=>zN _
 |k+1=>zO (zl0 e q i k) (by rw[<-Nat.add_assoc];show _<=cntE e q (i+k)+_;omega)
theorem zmd (e:AlR->Bool) (q:Nat->AlR) (i:Nat):∀k,cntE e q (i+k)=cntE e q i->maxE e q (i+k)=maxE e q i
 |0,_=>rfl
 |k+1,h=>by
  have h1:=zl0 e q i k;have h2:cntE e q (i+(k+1))=cntE e q (i+k)+if e (q (i+k))=true then 1 else 0:=rfl;by_cases g:e (q (i+k))=true
  ·rw[if_pos g] at h2;omega
  ·rw[if_neg g] at h2
   have:=zmd e q i k (by omega);rw[<-this];show(if e (q (i+k))=true then _ else _)=_;rw[if_neg g];rfl
theorem z4s {e:AlR->Bool} {q:Nat->AlR} {i j:Nat} (h:cntE e q i=cntE e q j):maxE e q i=maxE e q j:=by
 rcases Nat.le_total i j with g|g
 ·obtain⟨k,rfl⟩:=Nat.exists_eq_add_of_le g;exact(zmd e q i k h.symm).symm
 ·obtain⟨k,rfl⟩:=Nat.exists_eq_add_of_le g;exact zmd e q j k h
def EnoW (B:Nat) (p:Option Addr) (cap n:Nat) (q:Nat->AlR) (wd dp sp ld:Int) (W:zA):Prop:=
 (W.cell? ⟨B,0,none⟩=some (.slice p n cap)/\W.cell? ⟨B+1,0,none⟩=some (.int .i64 wd)/\W.cell? ⟨B+2,0,none⟩=some (.int .i64 dp)/\W.cell? ⟨B+3,0,none⟩=some (.int .i64 sp)/\W.cell? ⟨B+4,0,none⟩=some (.int .i64 ld))/\RowAl p n q W
theorem EnoW.below {B:Nat} {p:Option Addr} {cap n:Nat} {q:Nat->AlR} {wd dp sp ld:Int} {W W':zA} (h:EnoW B p cap n q wd dp sp ld W) (hb:qL W W'):EnoW B p cap n q wd dp sp ld W':=
 ⟨⟨zai hb h.1.1,zai hb h.1.2.1,zai hb h.1.2.2.1,zai hb h.1.2.2.2.1,zai hb h.1.2.2.2.2⟩,h.2.keep hb⟩
theorem z7p (m:Nat) (hm:1<=m) (B:Nat) (p:Option Addr) (cap n:Nat) (q:Nat->AlR) (hn:n<=4096) (wd dp sp ld:Int) (Rd:zA->Prop) (hRd:∀W,Rd W->EnoW B p cap n q wd dp sp ld W):
 IterC Fence.wide m zF 109 #[.pointer (some ⟨B,0,none⟩),.pointer (some ⟨B+1,0,none⟩),.pointer (some ⟨B+2,0,none⟩),.pointer (some ⟨B+3,0,none⟩),.pointer (some ⟨B+4,0,none⟩)] Rd
  (λk args=>∃i,i<n/\enoB wd dp sp ld (q i)=true/\cntE (enoB wd dp sp ld) q i=k/\args= #[.agg #[.int .i64 (q i).w,.int .i64 (q i).d,.int .i64 (q i).s,.int .i64 (q i).l,.int .i64 (q i).n]]) (cntE (enoB wd dp sp ld) q n):=by
 intro lp J Jx W hJr hJb hY h0;obtain⟨⟨a0, -⟩, -⟩:=hRd W (hJr 0 W h0);have HY:=hid hY;clear hY;have HJB:=hid hJb;have HRD:=hid λk W h=>hRd W (hJr k W h);clear hJb hJr hRd;have H0:=hid h0;clear h0;refine callsIn_of_wp Tryz.func109 rfl trivial ?_ rfl;simp only[Tryz.ntmps109,List.size_toArray,List.length_cons,List.length_nil,Nat.reduceAdd,Nat.reduceSub,Array.replicate_succ,Array.replicate_zero,List.push_toArray,List.append_toArray,List.nil_append,List.cons_append];gi_wp2;clear a0;gi_loopw [11] (λi wr=>∃(k:Nat),k<=n/\i=.int .i64 (k:Int)/\Hid (J (cntE (enoB wd dp sp ld) q k) wr))
  (λi _=>n-(zL i).toNat)
 case atStart=>exact⟨0,zR _,rfl,H0⟩
 case round=>
  clear H0;obtain⟨k,hk,rfl,hJ⟩:=hrel;by_cases hlt:k<n
  ·have HN:=HRD.out _ wr hJ.out
   obtain⟨b,off,rfl, -⟩:=HN.2 k hlt;obtain⟨x,hx⟩:=zzX (q k);obtain⟨c0,c1,c2,c3,c4⟩:=HN.2.at k hlt;rw[<-hx] at c0 c1 c2 c3 c4;obtain⟨v1,hv⟩:=zzX (wr.alloc (.cells #[.int .i64 x.w,.int .i64 x.d,.int .i64 x.s,.int .i64 x.l,.int .i64 x.n] 55));obtain⟨b1,A1⟩:=zdn hv;obtain⟨d0,d1,d2,d3,d4⟩:=zff A1;obtain⟨⟨-,e1,e2,e3,e4⟩, -⟩:=HN.below b1;have J1:=hid (HJB.out _ wr v1 hJ.out b1);have hcs:cntE (enoB wd dp sp ld) q (k+1)=cntE (enoB wd dp sp ld) q k+if enoB wd dp sp ld x=true then 1 else 0:=by rw[hx];rfl
   have HCS:=hid hcs;have HX:=hid hx;have HLK:=hid hlt;rw[hv] at d0 d1 d2 d3 d4 e1 e2 e3 e4;have HV:=hid hv.symm;clear hv b1 A1 hcs hx HN hJ;cases g1:decide (x.w<=wd)
   ·have J2:=hid (show J (cntE (enoB wd dp sp ld) q (k+1)) v1 by
     rw[HCS.out,if_neg (by
      have:enoB wd dp sp ld x=false:=by unfold enoB;rw[g1];rfl
      rw[this];simp)]
     exact J1.out)
    clear HY J1 HCS HX;gi_wp2;refine⟨λf h=>(by cases h),?_⟩;gi_wp2;rw[HV.out];have hlt:=HLK.out;go_roundw
    case rel=>exact⟨k+1,by omega,by go_num,J2⟩
    case measure=>simp[zL];omega
   cases g2:decide (x.d<=dp)
   ·have J2:=hid (show J (cntE (enoB wd dp sp ld) q (k+1)) v1 by
     rw[HCS.out,if_neg (by
      have:enoB wd dp sp ld x=false:=by unfold enoB;rw[g1,g2];rfl
      rw[this];simp)]
     exact J1.out)
    clear HY J1 HCS HX;gi_wp2;refine⟨λf h=>(by cases h),?_⟩;gi_wp2;rw[HV.out];have hlt:=HLK.out;go_roundw
    case rel=>exact⟨k+1,by omega,by go_num,J2⟩
    case measure=>simp[zL];omega
   cases g3:decide (sp<=x.s)
   ·have J2:=hid (show J (cntE (enoB wd dp sp ld) q (k+1)) v1 by
     rw[HCS.out,if_neg (by
      have:enoB wd dp sp ld x=false:=by unfold enoB;rw[g1,g2,g3];rfl
      rw[this];simp)]
     exact J1.out)
    clear HY J1 HCS HX;gi_wp2;refine⟨λf h=>(by cases h),?_⟩;gi_wp2;rw[HV.out];have hlt:=HLK.out;go_roundw
    case rel=>exact⟨k+1,by omega,by go_num,J2⟩
    case measure=>simp[zL];omega
   cases g4:decide (ld<=x.l)
   ·have J2:=hid (show J (cntE (enoB wd dp sp ld) q (k+1)) v1 by
     rw[HCS.out,if_neg (by
      have:enoB wd dp sp ld x=false:=by unfold enoB;rw[g1,g2,g3,g4];rfl
      rw[this];simp)]
     exact J1.out)
    clear HY J1 HCS HX;gi_wp2;refine⟨λf h=>(by cases h),?_⟩;gi_wp2;rw[HV.out];have hlt:=HLK.out;go_roundw
    case rel=>exact⟨k+1,by omega,by go_num,J2⟩
    case measure=>simp[zL];omega
   have hE:enoB wd dp sp ld x=true:=by unfold enoB;rw[g1,g2,g3,g4];rfl
   have HYk:=hid λW h=>HY.out (cntE (enoB wd dp sp ld) q k) #[.agg #[.int .i64 x.w,.int .i64 x.d,.int .i64 x.s,.int .i64 x.l,.int .i64 x.n]] W h (by
    have m1:=zl0 (enoB wd dp sp ld) q (k+1) (n-(k+1));rw[show k+1+(n-(k+1))=n by have:=HLK.out;omega] at m1;have:=HCS.out;rw[if_pos hE] at this;omega) ⟨k,HLK.out,by rw[<-HX.out];exact hE,rfl,by rw[<-HX.out]⟩
   obtain⟨fn,tmps,assign,body,hy,hR⟩:=HYk.out v1 J1.out;rw[<-HV.out] at hy hR;gi_wp2;refine hR.mono ?_;rintro e W3 (⟨rfl,hJ3⟩|⟨rfl,hJx3⟩)
   ·have HJ3:=hid (show J (cntE (enoB wd dp sp ld) q (k+1)) W3 by rw[HCS.out,if_pos hE];exact hJ3)
    clear hJ3 HY J1 HCS HX HYk hy hR;gi_wp2;have hlt:=HLK.out;go_roundw
    case rel=>exact⟨k+1,by omega,by go_num,HJ3⟩
    case measure=>simp[zL];omega
   ·have HJx3:=hid hJx3
    clear hJx3 HY J1 HCS HX HYk hy hR;gi_wp2;refine bodyPost_ret (results_none rfl _ _ _) rfl ?_;exact⟨⟨_,rfl⟩,.inr HJx3.out⟩
  ·obtain rfl:k=n:=by omega
   gi_wp2;go_end0;exact⟨⟨_,rfl⟩,.inl hJ.out⟩
end
end Go.Proofs.YtfoodcpnnmonhaaGreatDoor
