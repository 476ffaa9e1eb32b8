/- kingpostref02.make2. -/
import Derived.Test.YtnjiiafnneillaaGreatDoorY12
set_option maxRecDepth 100000
set_option maxHeartbeats 8000000
open Go renaming World → zA, Calls → zC
open Go.Lib renaming decDigits → zD, itoa → zE
open Go.Proofs.Tryz renaming prog → zF
open Go.World renaming alloc_heap_new → zG
open Go.IntWalk renaming i64_in → zI
open Go.Joins renaming cell_of_block → zJ
open Go.RowKit renaming intOf → zL
open Go.RowKit.Below renaming refl → zM
open Nat renaming le_refl → zN, le_trans → zO, zero_le → zR, lt_of_lt_of_le → zS, le_of_lt → zT, pow_le_pow_right → yF, pos_of_ne_zero → yS
open List renaming mem_cons_self → yD
open Int renaming natAbs_mul → yK
namespace Go.Proofs.YtnjiiafnneillaaGreatDoor
section
open Go.RowKit Go.Shelf Lib Str Limb
attribute [local go_sem] Oper.semAt_some
theorem zp6 (z:Int) (s:ByteArray) (hs:s=⟨(zE z).toArray⟩):∃h:0<s.size,(((s[0]'h).toNat:Int)==45)=decide (z<0)/\(z<0->s.extract 1 s.size=⟨(zD z.natAbs).toArray⟩):=by
 obtain⟨b1,b2⟩:=zds (zE z) s hs;have hp:0<(zE z).length:=zS (zbn z) (zbr z);have h:0<s.size:=by omega
 refine⟨h,?_,?_⟩
 ·rw[b2 0 hp h]
  rcases zbg z with⟨k,e⟩|⟨k,e⟩
  ·rw[decide_eq_false (by omega),beq_eq_false_iff_ne]
   have hd:=zan z.natAbs ((zE z)[0]'hp) (by simp only[e];exact List.getElem_mem _);omega
  ·rw[decide_eq_true k,beq_iff_eq]
   simp only[e];rfl
 ·intro k
  rcases zbg z with⟨k',e⟩|⟨_,e⟩
  ·omega
  ·rw[hs,zel,e];rfl
theorem z0x (n:Nat) (s:ByteArray) (hs:s=⟨(zD n).toArray⟩):∃h:0<s.size,(((s[0]'h).toNat:Int)==45)=false:=by
 obtain⟨h,e,_⟩:=zp6 (n:Int) s (by rw[Str.zad];exact hs);exact⟨h,by rw[e];simp⟩
theorem z4n (n:Int) (D:Nat) (hD:0<D) (hm:n<0) (h1:(zE n).length<=18) (h2:(zD D).length<=18) (w:zA):
 qJ 329 #[St (zE n),St (zD D)] w (.tuple #[St (numS (Rat.divInt n (D:Int))),.int .i64 0]):=by
 have hn18:n.natAbs<1000000000000000000:=(za3 n 18 (by omega)).1 (zO (zbr n) h1);have hD18:D<1000000000000000000:=(zaf D 18 (by omega)).1 h2;have hdl:(zD n.natAbs).length<=18:=(zaf _ 18 (by omega)).2 hn18;have s1:=λW=>zrk (zD n.natAbs) (zan _) hdl W;have s2:=λW=>zrk (zD D) (zan _) h2 W;rw[zb2] at s1 s2;have qk:=λW=>z1w n D (by omega) hD (by omega) W;obtain⟨sn,hsn⟩:=zzX (⟨(zE n).toArray⟩:ByteArray);obtain⟨sd,hsd⟩:=zzX (⟨(zD D).toArray⟩:ByteArray);obtain⟨p1,p2,p3⟩:=zp6 n sn hsn;obtain⟨r1,r2⟩:=z0x D sd hsd;have l1:sn.size<=18:=by rw[hsn];exact h1
 have l2:sd.size<=18:=by rw[hsd];exact h2
 have l1':(sn.size:Int)<=18:=by omega
 have l2':(sd.size:Int)<=18:=by omega
 rw[decide_eq_true hm] at p2;have hx:=p3 hm;have hw:IntKind.i64.wrap (-(n.natAbs:Int))=n:=by rw[show-(n.natAbs:Int)=n by omega];exact zI _ (by omega)
 show zC _ _ #[.string ⟨(zE n).toArray⟩,.string ⟨(zD D).toArray⟩] _ _;have s2':∀W:zA,zC zF 163 #[.string sd] W λe w'=>e=.returned (I D)/\w'=W:=λW=>by rw[hsd];exact s2 W
 obtain⟨su,hsu⟩:=zzX (⟨(zD n.natAbs).toArray⟩:ByteArray);have s1':∀W:zA,zC zF 163 #[.string su] W λe w'=>e=.returned (I n.natAbs)/\w'=W:=λW=>by rw[hsu];exact s1 W
 rw[<-hsu] at hx;rw[<-hsn,<-hsd];have S1:=hid s1';have S2:=hid s2';have QK:=hid qk;clear s1 s2 qk s1' s2' hsn hsd h1 h2 hdl p3 hsu;generalize numS (Rat.divInt n (D:Int))=t at*
 generalize n.natAbs=na at*
 go_enter Tryz.func329,Tryz.ntmps329;go_wp21;refine zzM (S1.out w) λw1 hw1=>?_;have hw1':=hw1.symm;subst hw1';go_wp21;refine zzM (S2.out w) λw2 hw2=>?_;have hw2':=hw2.symm;subst hw2';go_wp21;refine zzM (QK.out w) λw3 hb3=>?_;go_wp21;go_ret2;exact⟨rfl,hb3⟩
theorem z4p (n:Int) (D:Nat) (hD:0<D) (hm:¬n<0) (h1:(zE n).length<=18) (h2:(zD D).length<=18) (w:zA):
 qJ 329 #[St (zE n),St (zD D)] w (.tuple #[St (numS (Rat.divInt n (D:Int))),.int .i64 0]):=by
 have hn18:n.natAbs<1000000000000000000:=(za3 n 18 (by omega)).1 (zO (zbr n) h1);have hD18:D<1000000000000000000:=(zaf D 18 (by omega)).1 h2;have hdl:(zD n.natAbs).length<=18:=(zaf _ 18 (by omega)).2 hn18;have s1:=λW=>zrk (zD n.natAbs) (zan _) hdl W;have s2:=λW=>zrk (zD D) (zan _) h2 W;rw[zb2] at s1 s2;have qk:=λW=>z1w n D (by omega) hD (by omega) W;obtain⟨sn,hsn⟩:=zzX (⟨(zE n).toArray⟩:ByteArray);obtain⟨sd,hsd⟩:=zzX (⟨(zD D).toArray⟩:ByteArray);obtain⟨p1,p2,p3⟩:=zp6 n sn hsn;obtain⟨r1,r2⟩:=z0x D sd hsd;have l1:sn.size<=18:=by rw[hsn];exact h1
 have l2:sd.size<=18:=by rw[hsd];exact h2
 have l1':(sn.size:Int)<=18:=by omega
 have l2':(sd.size:Int)<=18:=by omega
 rw[decide_eq_false hm] at p2;have hx:zE n=zD n.natAbs:=by rcases zbg n with⟨_,e⟩|⟨k,_⟩;exact e;omega
 have hw:(n:Int)=(n.natAbs:Int):=by omega
 rw[<-hx] at s1;show zC _ _ #[.string ⟨(zE n).toArray⟩,.string ⟨(zD D).toArray⟩] _ _;have s2':∀W:zA,zC zF 163 #[.string sd] W λe w'=>e=.returned (I D)/\w'=W:=λW=>by rw[hsd];exact s2 W
 have s1':∀W:zA,zC zF 163 #[.string sn] W λe w'=>e=.returned (I n.natAbs)/\w'=W:=λW=>by rw[hsn];exact s1 W
 have qk':∀W:zA,qJ 307 #[I n.natAbs,I D] W (St (numS (Rat.divInt n (D:Int)))):=λW=>by have:=qk W;rw[hw] at this;rw[hw];exact this
 rw[<-hsn,<-hsd];have S1:=hid s1';have S2:=hid s2';have QK:=hid qk';clear s1 s2 qk s1' s2' hsn hsd h1 h2 hdl p3 hx qk' hw;generalize numS (Rat.divInt n (D:Int))=t at*
 generalize n.natAbs=na at*
 go_enter Tryz.func329,Tryz.ntmps329;go_wp21;refine zzM (S1.out w) λw1 hw1=>?_;have hw1':=hw1.symm;subst hw1';go_wp21;refine zzM (S2.out w) λw2 hw2=>?_;have hw2':=hw2.symm;subst hw2';go_wp21;refine zzM (QK.out w) λw3 hb3=>?_;go_wp21;go_ret2;exact⟨rfl,hb3⟩
theorem z9i (n:Int) (D g d1:Nat) (q1:Int) (hD:0<D) (hg:g=Int.gcd n (D:Int)) (hq:n=q1*g) (hd:D=d1*g) (hn3:digs n<=300) (hd3:(zD D).length<=300) (hor:18<(zE n).length\/((zE n).length<=18/\18<(zD D).length)) (w:zA) (hw:Wd w):
 qJ 329 #[St (zE n),St (zD D)] w (.tuple #[St (zE q1++if d1=1 then[] else 47::zD d1),.int .i64 0]):=by
 have o1:∀m:Nat,18<m->¬(m:Int)<=18:=λm h=>by omega
 have o2:∀m:Nat,m<=18->(m:Int)<=18:=λm h=>by omega
 have hg0:0<g:=by rw[hg];exact Int.gcd_pos_of_ne_zero_right _ (by omega)
 have hd10:0<d1:=yS (λe=>by rw[e,Nat.zero_mul] at hd;omega);have hgd:(zD g).length<=300:=by
  rw[zaf _ _ (by omega)] at hd3⊢;have:g<=D:=by rw[hd];exact Nat.le_mul_of_pos_left _ hd10
  exact Nat.lt_of_le_of_lt this hd3
 have hq3:digs q1<=300:=by
  rw[za3 _ _ (by omega)] at hn3⊢;have:q1.natAbs<=n.natAbs:=by rw[hq,yK];exact Nat.le_mul_of_pos_right _ (by omega)
  exact Nat.lt_of_le_of_lt this hn3
 have hd13:(zD d1).length<=300:=by
  rw[zaf _ _ (by omega)] at hd3⊢;have:d1<=D:=by rw[hd];exact Nat.le_mul_of_pos_right _ hg0
  exact Nat.lt_of_le_of_lt this hd3
 have dg:∀k:Nat,digs (k:Int)=(zD k).length:=λk=>by unfold digs;rw[Int.natAbs_natCast]
 have yg:=λW hW=>zxp n (D:Int) hn3 (by rw[dg];exact hd3) W hW;have y1:=λW hW=>z14 n (g:Int) q1 hq (by omega) hn3 (by rw[dg];exact hgd) W hW;have y2:=λW hW=>z14 (D:Int) (g:Int) (d1:Int) (by rw[hd,Int.natCast_mul]) (by omega) (by rw[dg];exact hd3) (by rw[dg];exact hgd) W hW;rw[<-hg] at yg;rw[Str.zad,Str.zad] at yg y2;rw[Str.zad] at y1 y2;obtain⟨sn,hsn⟩:=zzX (⟨(zE n).toArray⟩:ByteArray);obtain⟨sd,hsd⟩:=zzX (⟨(zD D).toArray⟩:ByteArray);obtain⟨sq,hsq⟩:=zzX (⟨(zE q1).toArray⟩:ByteArray);obtain⟨r1,r2⟩:=z0x D sd hsd;obtain⟨p1,p2,p3⟩:=zp6 q1 sq hsq;have hsz:sn.size=(zE n).length:=by rw[hsn];rfl
 have hszd:sd.size=(zD D).length:=by rw[hsd];rfl
 have hszq:sq.size<=301:=by
  have:sq.size=(zE q1).length:=by rw[hsq];rfl
  have:=za7 q1;omega
 have hsg:((((sq[0]'p1).toNat:Int)==45)=true/\∃su:ByteArray,sq.extract 1 sq.size=su/\¬(300:Int)<su.size)\/((((sq[0]'p1).toNat:Int)==45)=false/\¬(300:Int)<sq.size):=by
  by_cases hqm:q1<0
  ·refine .inl ⟨by rw[p2,decide_eq_true hqm],_,p3 hqm,?_⟩
   have:(⟨(zD q1.natAbs).toArray⟩:ByteArray).size<=300:=hq3;omega
  ·have e:zE q1=zD q1.natAbs:=by rcases zbg q1 with⟨_,e⟩|⟨k,_⟩;exact e;exact absurd k hqm
   have:sq.size<=300:=by rw[hsq,e];exact hq3
   exact .inr ⟨by rw[p2,decide_eq_false hqm],by omega⟩
 have yg':qK 164 #[.string sn,.string sd] (.tuple #[St (zD g),.int .i64 0]):=λW hW=>by rw[hsn,hsd];exact yg W hW
 have y1':qK 295 #[.string sn,St (zD g)] (.tuple #[.string sq,St [48],.int .i64 0]):=λW hW=>by rw[hsn,hsq];exact y1 W hW
 have y2':qK 295 #[.string sd,St (zD g)] (.tuple #[St (zD d1),St [48],.int .i64 0]):=λW hW=>by rw[hsd];exact y2 W hW
 have hdl:(d1=1/\zD d1=[49])\/(¬d1=1/\((zD d1==[49])=false/\¬zD d1=[49])):=by
  by_cases h1:d1=1
  ·exact .inl ⟨h1,by rw[h1];decide+kernel⟩
  ·exact .inr ⟨h1,yae d1 1 h1 [49] (by decide+kernel)⟩
 have j2:¬(300:Int)<(zD d1).length:=by omega
 have f1:¬(9223372036854775807<sq.size+1):=by omega
 have f2:¬(9223372036854775807<sq.size+1+(zD d1).length):=by omega
 show zC _ _ #[.string ⟨(zE n).toArray⟩,.string ⟨(zD D).toArray⟩] _ _;rw[<-hsn,<-hsd];rw[<-hsz,<-hszd] at hor;replace hor:(¬(sn.size:Int)<=18)\/((sn.size:Int)<=18/\¬(sd.size:Int)<=18):=hor.imp (o1 _) λh=>⟨o2 _ h.1,o1 _ h.2⟩;have YG:=hid yg';have Y1:=hid y1';have Y2:=hid y2';have HW:=hid hw;have HSQ:=hid hsq;clear o1 o2 yg y1 y2 yg' y1' y2' hw hsn hsd hsz hszd hg hq hd hn3 hd3 hg0 hgd hd10 hq3 dg p2 p3 hsq;generalize zD g=gl at*
 generalize zD d1=dl at*
 rcases hor with k1|⟨k1,k2⟩<;>rcases hdl with⟨h1,rfl⟩|⟨h1,z5,z6⟩<;>rcases hsg with⟨p2,su,hx,j1⟩|⟨p2,j1⟩
 all_goals
  first|rw[if_pos h1]|rw[if_neg h1]
  clear h1;go_enter Tryz.func329,Tryz.ntmps329;go_wp21;refine zzM (YG.out w HW.out) λw1 hb1=>?_;have HB1:=hid hb1;clear hb1;go_wp21;refine zzM (Y1.out w1 (HW.out.below HB1.out)) λw2 hb2=>?_;have HB2:=qT HB1 hb2;clear hb2;go_wp21;refine zzM (Y2.out w2 (HW.out.below HB2.out)) λw3 hb3=>?_;have HB3:=qT HB2 hb3;clear hb3;go_wp21;go_ret2;refine⟨?_,HB3.out⟩
  first
   |show Ending.returned (.tuple #[.string sq,.int .i64 0])=_
    rw[HSQ.out,List.append_nil]
   |show Ending.returned (.tuple #[.string ((sq++⟨#[47]⟩)++⟨dl.toArray⟩),.int .i64 0])=_
    rw[HSQ.out,show(⟨#[47]⟩:ByteArray)=⟨([47]:List UInt8).toArray⟩ from rfl,z36,z36,List.append_assoc];rfl
theorem z9j (n:Int) (D:Nat) (hD:0<D) (hn3:digs n<=300) (hd3:(zD D).length<=300) (w:zA) (hw:Wd w):
 qJ 329 #[St (zE n),St (zD D)] w (.tuple #[St (numS (Rat.divInt n (D:Int))),.int .i64 0]):=by
 by_cases hs:(zE n).length<=18/\(zD D).length<=18
 ·by_cases hm:n<0
  ·exact z4n n D hD hm hs.1 hs.2 w
  ·exact z4p n D hD hm hs.1 hs.2 w
 ·have hor:18<(zE n).length\/((zE n).length<=18/\18<(zD D).length):=by omega
  obtain⟨g,hg⟩:=zzX (Int.gcd n (D:Int));have hg0:0<g:=by rw[hg];exact Int.gcd_pos_of_ne_zero_right _ (by omega)
  have hgn:((g:Int))∣n:=by rw[hg];exact Int.gcd_dvd_left ..
  have hgD:g∣D:=by
   have h:((Int.gcd n (D:Int):Nat):Int)∣(D:Int):=Int.gcd_dvd_right ..;rw[<-hg] at h;exact Int.natCast_dvd_natCast.1 h
  have hq:n=(n/(g:Int))*(g:Int):=(Int.ediv_mul_cancel hgn).symm;have hd:D=(D/g)*g:=(Nat.div_mul_cancel hgD).symm;have e:=zif n (D:Int) (by omega);rw[<-hg,<-Int.natCast_ediv,Str.zad] at e;have h:=z9i n D g (D/g) (n/g) hD hg hq hd hn3 hd3 hor w hw;rw[e];by_cases h1:D/g=1
  ·rw[if_pos (by omega)];rwa [if_pos h1] at h
  ·rw[if_neg (by omega)];rwa [if_neg h1] at h
theorem zoo {q:Rat} {k:Nat} (hk:0<k) (hk3:k<=300) (h:sz q k):okN q:=
 ⟨zO ((za3 _ k hk).2 h.1) hk3,zO ((zaf _ k hk).2 h.2) hk3⟩
theorem z3g {q:Rat} (h:zm0 q):q.num.natAbs<1000000000/\q.den<1000000000:=⟨(za3 _ 9 (by omega)).1 h.1,(zaf _ 9 (by omega)).1 h.2⟩
theorem z1j {x y:Int} {i j:Nat} (hij:0<i+j) (hx:x.natAbs<10^i) (hy:y.natAbs<10^j):digs (x*y)<=i+j:=by
 rw[za3 _ _ hij,yK,Nat.pow_add];exact Nat.mul_lt_mul'' hx hy
theorem z9l {x y i j:Nat} (hij:0<i+j) (hx:x<10^i) (hy:y<10^j):(zD (x*y)).length<=i+j:=by
 rw[zaf _ _ hij,Nat.pow_add];exact Nat.mul_lt_mul'' hx hy
instance (q:Rat):Decidable (zm0 q):=by unfold zm0;infer_instance
theorem z0y (q:Rat) (h:okN q) (w:zA):
 zC zF 166 #[St (numS q)] w λe w'=>(∃a b:Int,e=.returned (.tuple #[.int .i64 a,.int .i64 b,.bool (decide (zm0 q))]))/\Below w.heap.size w w':=by
 by_cases hn:zm0 q
 ·rw[decide_eq_true hn]
  exact(zrh q h hn w).mono λe w' ⟨h1,h2⟩=>⟨⟨_,_,h1⟩,h2⟩
 ·rw[decide_eq_false hn]
  exact(yad q h hn w).mono λe w' ⟨h1,h2⟩=>⟨⟨_,_,h1⟩,h2⟩
end
section
open Go.RowKit Go.Shelf Lib Str Limb Geo
attribute [local go_sem] Oper.semAt_some
theorem ybp (a b c d:Int) (D:Nat) (hD:b*d=(D:Int)) (hD0:0<D) (ha:digs a<=300) (hb:digs b<=300) (hc:digs c<=300) (hd:digs d<=300) (hac:digs (a*c)<=300) (hbd:(zD D).length<=300) (w:zA) (hw:Wd w):
 qJ 308 #[St (zE a),St (zE b),St (zE c),St (zE d)] w (.tuple #[St (numS (Rat.divInt (a*c) (D:Int))),.int .i64 0]):=by
 have c1:=λW hW=>z15 a c b d ha hc hb hd hac (by rw[hD];unfold digs;rw[Int.natAbs_natCast];exact hbd) W hW;rw[hD,Str.zad] at c1;have c2:=λW hW=>z9j (a*c) D hD0 hac hbd W hW;have C1:=hid c1;have C2:=hid c2;have HW:=hid hw;clear c1 c2 hw ha hb hc hd hac hbd;generalize numS (Rat.divInt (a*c) (D:Int))=t at*
 generalize zE (a*c)=x at*
 generalize zD D=y at*
 generalize zE a=sa at*
 generalize zE b=sb at*
 generalize zE c=sc at*
 generalize zE d=sd at*
 go_enter Tryz.func308,Tryz.ntmps308;go_wp21;refine zzM (C1.out w HW.out) λw1 hb1=>?_;have HB1:=hid hb1;clear hb1;go_wp21;refine zzM (C2.out w1 (HW.out.below HB1.out)) λw2 hb2=>?_;have HB2:=qT HB1 hb2;clear hb2;go_wp21;go_ret2;exact⟨rfl,HB2.out⟩
theorem z4q (p q:Rat) (hp:okN p) (hq:okN q) (np:zm0 p) (nq:zm0 q) (w:zA) (hw:Wd w):
 qJ 87 #[St (numS p),St (numS q)] w (.tuple #[.int .i64 (cmpR p q),.int .i64 0]):=by
 rw[<-zim];have c0:=λW hW=>zrs p q hp hq W hW;have c1:=λW=>zrh p hp np W;have c2:=λW=>zrh q hq nq W;obtain⟨b1,b2⟩:=z3g np;obtain⟨b3,b4⟩:=z3g nq;have m1:(p.num*q.den).natAbs<=999999998000000001:=by
  rw[yK,Int.natAbs_natCast];exact Nat.mul_le_mul (show p.num.natAbs<=999999999 by omega) (show q.den<=999999999 by omega)
 have m2:(q.num*p.den).natAbs<=999999998000000001:=by
  rw[yK,Int.natAbs_natCast];exact Nat.mul_le_mul (show q.num.natAbs<=999999999 by omega) (show p.den<=999999999 by omega)
 have e1:IntKind.i64.wrap (p.num*q.den)=p.num*q.den:=zI _ (by omega);have e2:IntKind.i64.wrap (q.num*p.den)=q.num*p.den:=zI _ (by omega);have CZ:=hid (show(p.num*q.den<q.num*p.den->cmpZ (p.num*q.den) (q.num*p.den)= -1)/\(q.num*p.den<p.num*q.den->cmpZ (p.num*q.den) (q.num*p.den)=1)/\(p.num*q.den=q.num*p.den->cmpZ (p.num*q.den) (q.num*p.den)=0) by
  unfold cmpZ;refine⟨λh=>?_,λh=>?_,λh=>?_⟩
  ·simp[h]
  ·have:¬p.num*q.den<q.num*p.den:=by omega
   simp[this,h]
  ·rw[h];simp)
 have C0:=hid c0;have C1:=hid c1;have C2:=hid c2;have HW:=hid hw;clear c0 c1 c2 np nq hp hq b1 b2 b3 b4 m1 m2 hw;generalize cmpZ (p.num*q.den) (q.num*p.den)=t at*
 generalize numS p=sp at*
 generalize numS q=sq at*
 generalize p.num=a at*
 generalize q.num=b at*
 generalize p.den=c at*
 generalize q.den=d at*
 go_enter Tryz.func87,Tryz.ntmps87;go_wp21;refine zzM (C0.out w HW.out) λw0 hb0=>?_;have HB0:=hid hb0;clear hb0;go_wp21;refine zzM (C1.out w0) λw1 hb1=>?_;have HB1:=qT HB0 hb1;clear hb1;go_wp21;refine zzM (C2.out w1) λw2 hb2=>?_;have HB2:=qT HB1 hb2;clear hb2;rcases Int.lt_trichotomy (a*d) (b*c) with h|h|h
 ·obtain rfl:=CZ.out.1 h
  go_wp21;go_ret2;exact⟨rfl,HB2.out⟩
 ·obtain rfl:=CZ.out.2.2 h
  have h1:¬a*d<b*c:=by omega
  have h2:¬b*c<a*d:=by omega
  clear h;go_wp21;go_ret2;exact⟨rfl,HB2.out⟩
 ·obtain rfl:=CZ.out.2.1 h
  have h1:¬a*d<b*c:=by omega
  go_wp21;go_ret2;exact⟨rfl,HB2.out⟩
theorem z5p (p q:Rat) (i j:Nat) (hi:0<i) (hj:0<j) (hij:i+j<=300) (sp:sz p i) (sq:sz q j) (hf:¬(zm0 p/\zm0 q)) (w:zA) (hw:Wd w):
 qJ 87 #[St (numS p),St (numS q)] w (.tuple #[.int .i64 (cmpR p q),.int .i64 0]):=by
 rw[<-zim];have hp:=zoo hi (by omega) sp;have hq:=zoo hj (by omega) sq;have c0:=λW hW=>zrs p q hp hq W hW;have c1:=λW=>z0y p hp W;have c2:=λW=>z0y q hq W;have c3:=λW=>zre p hp W;have c4:=λW=>zre q hq W;have dg:∀k:Nat,digs (k:Int)=(zD k).length:=λk=>by unfold digs;rw[Int.natAbs_natCast]
 have x1:digs (p.num*q.den)<=i+j:=z1j (by omega) sp.1 (by rw[Int.natAbs_natCast];exact sq.2);have x3:digs (q.num*p.den)<=i+j:=by rw[Nat.add_comm];exact z1j (by omega) sq.1 (by rw[Int.natAbs_natCast];exact sp.2)
 have c5:=λW hW=>z15 p.num (q.den:Int) q.num (p.den:Int) hp.1 (by rw[dg];exact hq.2) hq.1 (by rw[dg];exact hp.2) (by omega) (by omega) W hW;have c6:=λW=>z5h (p.num*q.den) (q.num*p.den) (by omega) (by omega) W;rw[Str.zad,Str.zad] at c5;have hcase:(decide (zm0 p)=false)\/(decide (zm0 p)=true/\decide (zm0 q)=false):=by
  by_cases h1:zm0 p
  ·right;exact⟨decide_eq_true h1,decide_eq_false (λh2=>hf ⟨h1,h2⟩)⟩
  ·left;exact decide_eq_false h1
 have C0:=hid c0;have C1:=hid c1;have C2:=hid c2;have C3:=hid c3;have C4:=hid c4;have C5:=hid c5;have C6:=hid c6;have HW:=hid hw;clear c0 c1 c2 c3 c4 c5 c6 hw hp hq dg x1 x3 sp sq hf;generalize cmpZ (p.num*q.den) (q.num*p.den)=t at*
 generalize zE (p.num*q.den)=m1 at*
 generalize zE (q.num*p.den)=m2 at*
 generalize numS p=tp at*
 generalize numS q=tq at*
 generalize zE p.num=n1 at*
 generalize zE q.num=n2 at*
 generalize zD p.den=d1 at*
 generalize zD q.den=d2 at*
 generalize decide (zm0 p)=b1 at*
 generalize decide (zm0 q)=b2 at*
 go_enter Tryz.func87,Tryz.ntmps87;go_wp21;refine zzM (C0.out w HW.out) λw0 hb0=>?_;have HB0:=hid hb0;clear hb0;go_wp21;refine(C1.out w0).mono ?_;rintro e w1 ⟨⟨za,zb,rfl⟩,hb1⟩;have HB1:=qT HB0 hb1;clear hb1;go_wp21;refine(C2.out w1).mono ?_;rintro e w2 ⟨⟨zc,zd,rfl⟩,hb2⟩;have HB2:=qT HB1 hb2;clear hb2;rcases hcase with rfl|⟨rfl,rfl⟩<;>(
  go_wp21;refine zzM (C3.out w2) λw3 hb3=>?_;have HB3:=qT HB2 hb3;clear hb3;go_wp21;refine zzM (C4.out w3) λw4 hb4=>?_;have HB4:=qT HB3 hb4;clear hb4;go_wp21;refine zzM (C5.out w4 (HW.out.below HB4.out)) λw5 hb5=>?_;have HB5:=qT HB4 hb5;clear hb5;go_wp21;refine zzM (C6.out w5) λw6 hb6=>?_;have HB6:=qT HB5 hb6;clear hb6;go_wp21;go_ret2;exact⟨rfl,HB6.out⟩)
theorem z2a (p q:Rat) (i j:Nat) (hi:0<i) (hj:0<j) (hij:i+j<=300) (sp:sz p i) (sq:sz q j) (w:zA) (hw:Wd w):
 qJ 87 #[St (numS p),St (numS q)] w (.tuple #[.int .i64 (cmpR p q),.int .i64 0]):=by
 by_cases h:zm0 p/\zm0 q
 ·exact z4q p q (zoo hi (by omega) sp) (zoo hj (by omega) sq) h.1 h.2 w hw
 ·exact z5p p q i j hi hj hij sp sq h w hw
theorem z8p (p q:Rat) (_:0<q) {b:Nat} (hb:q.num=(b:Int)) (hb0:0<b):Rat.divInt (p.num*q.den) ((p.den*b:Nat):Int)=p/q:=by
 have e1:=Rat.num_divInt_den p;have e2:=Rat.num_divInt_den q;rw[Rat.divInt_eq_div] at e1 e2⊢
 conv=>rhs;rw[<-e1,<-e2,hb]
 have d1:((p.den:Int):Rat)≠0:=by have:=p.den_nz;exact_mod_cast this
 have d2:((q.den:Int):Rat)≠0:=by have:=q.den_nz;exact_mod_cast this
 have d3:((b:Int):Rat)≠0:=by have:b≠0:=by omega
                             exact_mod_cast this
 have g1:(((p.num*q.den:Int)):Rat)=(p.num:Rat)*((q.den:Int):Rat):=Rat.intCast_mul ..;have g2:((((p.den*b:Nat):Int)):Rat)=((p.den:Int):Rat)*((b:Int):Rat):=by rw[Int.natCast_mul];exact Rat.intCast_mul ..
 rw[g1,g2];generalize (p.num:Rat)=A at*
 generalize ((p.den:Int):Rat)=B at*
 generalize ((q.den:Int):Rat)=C at*
 generalize ((b:Int):Rat)=D at*
 grind
theorem yaf (p q:Rat) (hp:okN p) (hq:okN q) (np:zm0 p) (nq:zm0 q) (hq0:0<q) (w:zA) (hw:Wd w):
 qJ 298 #[St (numS p),St (numS q)] w (.tuple #[St (numS (p/q)),.int .i64 0]):=by
 have c0:=λW hW=>zrs p q hp hq W hW;have c1:=λW=>zrh p hp np W;have c2:=λW=>zrh q hq nq W;obtain⟨b1,b2⟩:=z3g np;obtain⟨b3,b4⟩:=z3g nq;have hn0:0<q.num:=by
  have:=Rat.num_nonneg.2 (Rat.le_of_lt hq0);have:q.num≠0:=λe=>by have:=Rat.num_eq_zero.1 e;grind
  omega
 obtain⟨b,hb⟩:∃b:Nat,q.num=(b:Int):=⟨q.num.toNat,by omega⟩;have hb0:0<b:=by omega
 have pd:=p.den_pos;have qd:=q.den_pos;have m1:(p.num*q.den).natAbs<=999999998000000001:=by
  rw[yK,Int.natAbs_natCast];exact Nat.mul_le_mul (show p.num.natAbs<=999999999 by omega) (show q.den<=999999999 by omega)
 have m2:p.den*b<=999999998000000001:=Nat.mul_le_mul (show p.den<=999999999 by omega) (show b<=999999999 by omega);have hv:=z8p p q hq0 hb hb0;have hz:(numS q==[48])=false:=zsf (by grind);have e1:IntKind.i64.wrap (p.num*q.den)=p.num*q.den:=zI _ (by omega);have e2:IntKind.i64.wrap ((p.den:Int)*(b:Int))=((p.den*b:Nat):Int):=by rw[<-Int.natCast_mul];exact zI _ (by omega)
 have CQ:=hid (λW=>z1w (p.num*q.den) (p.den*b) (by omega) (Nat.mul_pos pd hb0) (by omega) W);rw[hv] at CQ;have hb1:¬(b:Int)<0:=by omega
 rw[hb] at c2;have C0:=hid c0;have C1:=hid c1;have C2:=hid c2;have HW:=hid hw;clear c0 c1 c2 np nq hp hq b1 b2 b3 b4 hw hv hn0 hq0 m1;generalize numS p=sp at*
 generalize numS (p/q)=sr at*
 generalize numS q=sq at*
 generalize p.num=a at*
 generalize p.den=c at*
 generalize q.den=d at*
 obtain⟨cb,hcb⟩:=zzX (c*b);rw[<-hcb] at e2 CQ;clear hcb hb m2;go_enter Tryz.func298,Tryz.ntmps298;go_wp2_with fail;refine zzM (C0.out w HW.out) λw0 hb0=>?_;have HB0:=hid hb0;clear hb0;go_wp2_with fail;refine zzM (C1.out w0) λw1 hb1=>?_;have HB1:=qT HB0 hb1;clear hb1;go_wp2_with fail;refine zzM (C2.out w1) λw2 hb2=>?_;have HB2:=qT HB1 hb2;clear hb2;go_wp2_with fail;refine zzM (CQ.out w2) λw3 hb3=>?_;have HB3:=qT HB2 hb3;clear hb3;go_wp2_with fail;go_ret2;exact⟨rfl,HB3.out⟩
theorem ybq (p q:Rat) (i j:Nat) (hi:0<i) (hj:0<j) (hij:i+j<=300) (sp:sz p i) (sq:sz q j) (hq0:0<q) (hf:¬(zm0 p/\zm0 q)) (w:zA) (hw:Wd w):
 qJ 298 #[St (numS p),St (numS q)] w (.tuple #[St (numS (p/q)),.int .i64 0]):=by
 have hn0:0<q.num:=by
  have:=Rat.num_nonneg.2 (Rat.le_of_lt hq0);have:q.num≠0:=λe=>by have:=Rat.num_eq_zero.1 e;grind
  omega
 obtain⟨b,hb⟩:∃b:Nat,q.num=(b:Int):=⟨q.num.toNat,by omega⟩;have hb0:0<b:=by omega
 rw[<-z8p p q hq0 hb hb0];have hp:=zoo hi (by omega) sp;have hq:=zoo hj (by omega) sq;have hz:(numS q==[48])=false:=zsf (by grind);have c0:=λW hW=>zrs p q hp hq W hW;have c1:=λW=>z0y p hp W;have c2:=λW=>z0y q hq W;have c3:=λW=>zre p hp W;have c4:=λW=>zre q hq W;have dg:∀k:Nat,digs (k:Int)=(zD k).length:=λk=>by unfold digs;rw[Int.natAbs_natCast]
 have qb:q.num.natAbs=b:=by omega
 have sb:b<10^j:=by rw[<-qb];exact sq.1
 have x1:digs (p.num*(q.den:Int))<=i+j:=z1j (by omega) sp.1 (by rw[Int.natAbs_natCast];exact sq.2);have x3:(zD (p.den*b)).length<=i+j:=z9l (by omega) sp.2 sb;have hq1:=hq.1;rw[hb] at hq1;have c5:=λW hW=>ybp p.num (p.den:Int) (q.den:Int) (b:Int) (p.den*b) (by rw[Int.natCast_mul]) (Nat.mul_pos p.den_pos hb0) hp.1 (by rw[dg];exact hp.2) (by rw[dg];exact hq.2) hq1 (by omega) (by omega) W hW;rw[Str.zad,Str.zad,Str.zad] at c5;rw[hb,Str.zad] at c4;have hcase:(decide (zm0 p)=false)\/(decide (zm0 p)=true/\decide (zm0 q)=false):=by
  by_cases h1:zm0 p
  ·right;exact⟨decide_eq_true h1,decide_eq_false (λh2=>hf ⟨h1,h2⟩)⟩
  ·left;exact decide_eq_false h1
 have C0:=hid c0;have C1:=hid c1;have C2:=hid c2;have C3:=hid c3;have C4:=hid c4;have C5:=hid c5;have HW:=hid hw;clear c0 c1 c2 c3 c4 c5 hw hp hq dg x1 x3 sp sq hf hn0 hq0 qb sb hq1;generalize numS (Rat.divInt (p.num*(q.den:Int)) ((p.den*b:Nat):Int))=t at*
 generalize numS p=tp at*
 generalize numS q=tq at*
 generalize zE p.num=n1 at*
 generalize zD b=n2 at*
 generalize zD p.den=d1 at*
 generalize zD q.den=d2 at*
 generalize decide (zm0 p)=b1 at*
 generalize decide (zm0 q)=b2 at*
 clear hb hb0;go_enter Tryz.func298,Tryz.ntmps298;go_wp2_with fail;refine zzM (C0.out w HW.out) λw0 hb0=>?_;have HB0:=hid hb0;clear hb0;go_wp2_with fail;refine(C1.out w0).mono ?_;rintro e w1 ⟨⟨za,zb,rfl⟩,hb1⟩;have HB1:=qT HB0 hb1;clear hb1;go_wp2_with fail;refine(C2.out w1).mono ?_;rintro e w2 ⟨⟨zc,zd,rfl⟩,hb2⟩;have HB2:=qT HB1 hb2;clear hb2;rcases hcase with rfl|⟨rfl,rfl⟩<;>(
  go_wp2_with fail;refine zzM (C3.out w2) λw3 hb3=>?_;have HB3:=qT HB2 hb3;clear hb3;go_wp2_with fail;refine zzM (C4.out w3) λw4 hb4=>?_;have HB4:=qT HB3 hb4;clear hb4;go_wp2_with fail;refine zzM (C5.out w4 (HW.out.below HB4.out)) λw5 hb5=>?_;have HB5:=qT HB4 hb5;clear hb5;go_wp2_with fail;go_ret2;exact⟨rfl,HB5.out⟩)
theorem ybr (p q:Rat) (i j:Nat) (hi:0<i) (hj:0<j) (hij:i+j<=300) (sp:sz p i) (sq:sz q j) (hq0:0<q) (w:zA) (hw:Wd w):
 qJ 298 #[St (numS p),St (numS q)] w (.tuple #[St (numS (p/q)),.int .i64 0]):=by
 by_cases h:zm0 p/\zm0 q
 ·exact yaf p q (zoo hi (by omega) sp) (zoo hj (by omega) sq) h.1 h.2 hq0 w hw
 ·exact ybq p q i j hi hj hij sp sq hq0 h w hw
theorem z28 (p q:Rat) (sp:sz p 15) (sq:sz q 15) (hq0:0<q) (w:zA) (hw:Wd w):
 qJ 255 #[St (numS p),St (numS q)] w (St (numS (p/q))):=by
 have C:=hid (ybr p q 15 15 (by omega) (by omega) (by omega) sp sq hq0 w hw);clear sp sq hq0 hw;generalize numS (p/q)=z at*
 generalize numS p=x at*
 generalize numS q=y at*
 go_enter Tryz.func255,Tryz.ntmps255;go_wp2_with fail;refine zzM C.out λw1 hb=>?_;have HB:=hid hb;clear hb;go_wp2_with fail;go_ret;exact⟨rfl,HB.out⟩
theorem ybs (x y:Int) (hx:digs x<=300) (hy:digs y<=300) (hz:digs (x*y)<=300) (w:zA) (hw:Wd w):
 qJ 253 #[St (zE x),St (zE y)] w (St (zE (x*y))):=by
 have C:=hid (z26 x y hx hy hz w hw);clear hx hy hz hw;generalize zE (x*y)=z at*
 generalize zE x=a at*
 generalize zE y=b at*
 go_enter Tryz.func253,Tryz.ntmps253;go_wp2_with fail;refine zzM C.out λw1 hb=>?_;have HB:=hid hb;clear hb;go_wp2_with fail;go_ret;exact⟨rfl,HB.out⟩
theorem z29 (p q:Rat) (sp:sz p 15) (sq:sz q 15) (w:zA) (hw:Wd w):
 qJ 127 #[St (numS p),St (numS q)] w (.int .i64 (cmpR p q)):=by
 have C:=hid (z2a p q 15 15 (by omega) (by omega) (by omega) sp sq w hw);clear sp sq hw;generalize cmpR p q=z at*
 generalize numS p=x at*
 generalize numS q=y at*
 go_enter Tryz.func127,Tryz.ntmps127;go_wp2_with fail;refine zzM C.out λw1 hb=>?_;have HB:=hid hb;clear hb;go_wp2_with fail;go_ret;exact⟨rfl,HB.out⟩
theorem z38 (z:Int) (hz:digs z<=300) (w:zA):
 qJ 293 #[St (zE z)] w (.int .i64 (digs z:Int)):=by
 have hl:=zqo z;obtain⟨s,hs⟩:=zzX (⟨(zE z).toArray⟩:ByteArray);obtain⟨h0,h1, -⟩:=zp6 z s hs;have hsz:s.size=(zE z).length:=by rw[hs];show(zE z).toArray.size=_;simp
 have hne:(s.toList !=[])=true:=by
  rw[bne_iff_ne,ByteArray.toList_eq];intro e;have:=congrArg List.length e;simp at this;have:s.size=0:=by rw[this];rfl
  omega
 have hne0:¬s.toList=[]:=by simpa using hne
 have hie:s.toList.isEmpty=false:=by simpa using hne0
 rw[show St (zE z)=.string s from by rw[hs]];by_cases hn:z<0
 ·rw[if_pos hn] at hl
  have hb:(((s[0]'h0).toNat:Int)==45)=true:=by rw[h1,decide_eq_true hn]
  have hr:IntKind.i64.wrap ((s.size:Int)-1)=(digs z:Int):=by rw[zI _ ⟨by omega,by omega⟩];omega
  clear h1 hl hs hz hn hsz hne;go_enter Tryz.func293,Tryz.ntmps293;go_wp2_with fail;go_ret;exact⟨rfl,zM _ _⟩
 ·rw[if_neg hn] at hl
  have hb:(((s[0]'h0).toNat:Int)==45)=false:=by rw[h1,decide_eq_false hn]
  have hr:(s.size:Int)=(digs z:Int):=by omega
  clear h1 hl hs hz hn hsz hne;go_enter Tryz.func293,Tryz.ntmps293;go_wp2_with fail;go_ret;exact⟨rfl,zM _ _⟩
theorem z2b (n:Nat) (hn:0<n) (w:zA):
 qJ 251 #[St (zD n)] w (.int .i64 1):=by
 obtain⟨s,hs⟩:=zzX (⟨(zD n).toArray⟩:ByteArray);obtain⟨h0,h1⟩:=z0x n s hs;have hz:(s.toList==[48])=false:=by
  rw[hs,ByteArray.toList_eq];exact(yae n 0 (by omega) [48] zdj).1
 rw[show St (zD n)=.string s from by rw[hs]];clear hs hn;go_enter Tryz.func251,Tryz.ntmps251;go_wp2_with fail;go_ret;exact⟨rfl,zM _ _⟩
theorem z2c (p:Option Addr) (cap n:Nat) (q:Nat->Rat) (hn:n<=5000) (hq:∀i,i<n->okN (q i)/\sz (q i) 90) (w:zA) (HW:Hid (Wd w)) (HP:Hid (RowNums p n q w)):
 qJ 250 #[.slice p n cap] w (.int .i64 0):=by
 have D0:=hid (zM w.heap.size w);have HQ:=hid hq;clear hq;go_enter Tryz.func250,Tryz.ntmps250;go_wp2_with fail;go_loopw [3] (λi wr=>∃(k:Nat),k<=n/\i=.int .i64 (k:Int)/\Hid (qL w wr))
  (λi _=>n-(zL i).toNat)
 case atStart=>exact⟨0,zR _,rfl,D0⟩
 case round=>
  clear D0;obtain⟨k,hk,rfl,hB⟩:=hrel;by_cases hlt:k<n
  ·obtain⟨b,off,rfl,c0⟩:=(HP.out.keep (zac hB.out)) k hlt
   obtain⟨hok,hsz⟩:=HQ.out k hlt;have dd:=zok (k:=90) (by omega) hsz;have hd1:¬(90:Int)<(digs (q k).num:Int):=by have:=dd.1;omega
   have hd2:¬(90:Int)<(digs ((q k).den:Int):Int):=by rw[zd9];have:=dd.2;omega
   have HC:=hid (λW hW=>zgv (q k) hok W hW);have HPt:=hid (λW hW=>zp5 (q k) hok W hW);have HS1:=hid (λW=>z38 (q k).num hok.1 W);have HS2:=hid (λW=>z38 ((q k).den:Int) (by rw[zd9];exact hok.2) W);rw[Str.zad] at HS2;clear hok hsz dd;generalize numS (q k)=x at*
   generalize zE (q k).num=y at*
   generalize zD (q k).den=z at*
   generalize (digs (q k).num:Int)=g1 at*
   generalize (digs ((q k).den:Int):Int)=g2 at*
   go_wp2_with fail;refine zzM (HC.out wr (HW.out.below hB.out)) λw2 hb2=>?_;have hB2:=hid (hB.out.trans (hb2.mono hB.out.size));have c1:w2.cell? ⟨b,off+k,none⟩=some (St x):=zai hb2 c0;clear hb2 HC c0 hB;go_wp2_with fail;refine zzM (HPt.out w2 (HW.out.below hB2.out)) λw3 hb3=>?_;have hB3:=hid (hB2.out.trans (hb3.mono hB2.out.size));clear hb3 HPt c1 hB2;go_wp2_with fail;refine zzM (HS1.out w3) λw4 hb4=>?_;have hB4:=hid (hB3.out.trans (hb4.mono hB3.out.size));clear hb4 HS1 hB3;go_wp2_with fail;refine zzM (HS2.out w4) λw5 hb5=>?_;have hB5:=hid (hB4.out.trans (hb5.mono hB4.out.size));clear hb5 HS2 hB4;go_wp2_with fail;go_roundw
   case rel=>exact⟨k+1,by omega,by go_num,hB5⟩
   case measure=>simp[zL];omega
  ·go_wp2_with fail
   go_ret;exact⟨rfl,hB.out⟩
theorem ybt {b j:Nat} (h:b=2^j):(b/2=0/\b=1)\/∃i,b/2=2^i/\2*(b/2)=b:=by
 cases j with
 |zero=>left;subst h;decide
 |succ i=>
  right;have:b/2=2^i:=by rw[h,Nat.pow_succ];omega
  exact⟨i,this,by rw[this,h,Nat.pow_succ];omega⟩
theorem z7o (n:Nat) (hn:n<1000000000000000000) (w:zA):
 qJ 296 #[.int .i64 (n:Int)] w (.int .i64 (isq n:Int)):=by
 have D0:=hid (zM w.heap.size w);obtain⟨s,hs⟩:=zzX (isq n);have HS:=hid (show ∀r,r*r<=n->n<(r+1)*(r+1)->r=s from λr h1 h2=>by
  obtain⟨k1,k2⟩:=zv0 n;rw[<-hs] at k1 k2;have a:r<s+1:=Nat.mul_self_lt_mul_self_iff.1 (Nat.lt_of_le_of_lt h1 k2);have b:s<r+1:=Nat.mul_self_lt_mul_self_iff.1 (Nat.lt_of_le_of_lt k1 h2);omega)
 rw[<-hs];clear hs;have HN:=hid hn;clear hn;go_enter Tryz.func296,Tryz.ntmps296;go_wp2_with fail;go_loopw [3,4] (λr b wr=>∃(rn bn:Nat),r=.int .i64 (rn:Int)/\b=.int .i64 (bn:Int)/\Hid (rn*rn<=n)/\Hid (bn=0->n<(rn+1)*(rn+1))/\Hid (0<bn->(∃j,bn=2^j)/\n<(rn+2*bn)*(rn+2*bn))/\Hid (rn+2*bn<=1073741824)/\Hid (qL w wr))
  (λ_ b _=>(zL b).toNat)
 case atStart=>
  refine⟨0,536870912,rfl,rfl,hid (by omega),hid (λh=>by omega),hid (λ_=>⟨⟨29,by decide⟩,?_⟩),hid (by omega),D0⟩;have:=HN.out;omega
 case round=>
  clear D0;obtain⟨rn,bn,rfl,rfl,h1,h2,h3,h4,hB⟩:=hrel;by_cases hb0:0<bn
  ·obtain⟨⟨j,hj⟩,h5⟩:=h3.out hb0
   have hb1:(0:Int)<(bn:Int):=by omega
   have h4':=h4.out;have hw1:IntKind.i64.wrap ((rn:Int)+(bn:Int))=((rn+bn:Nat):Int):=by rw[zI _ ⟨by omega,by omega⟩];omega
   have hmb:(rn+bn)*(rn+bn)<=1073741824*1073741824:=Nat.mul_le_mul (by omega) (by omega);have hw2:IntKind.i64.wrap (((rn+bn:Nat):Int)*((rn+bn:Nat):Int))=(((rn+bn)*(rn+bn):Nat):Int):=by rw[<-Int.natCast_mul];exact zI _ ⟨by omega,by omega⟩
   have hdv:((bn:Int)).tdiv 2=((bn/2:Nat):Int):=by rw[Int.tdiv_eq_ediv_of_nonneg (by omega)];rfl
   have hwd:IntKind.i64.wrap ((bn/2:Nat):Int)=((bn/2:Nat):Int):=zI _ ⟨by omega,by omega⟩;have HJ:=hid (ybt hj);have H5:=hid h5;have HHB:=hid (show bn/2<=bn by omega);clear hj h5 h4' hmb h3;obtain⟨s2,hs2⟩:=zzX ((rn+bn)*(rn+bn));rw[<-hs2] at hw2;have HS2:=hid hs2;obtain⟨sm,hsm⟩:=zzX (rn+bn);rw[<-hsm] at hw1 hw2;have HSM:=hid hsm;obtain⟨bh,hbh⟩:=zzX (bn/2);rw[<-hbh] at hdv hwd;have HBH:=hid hbh;clear hs2 hsm hbh;by_cases hle:s2<=n
   ·have hlI:(s2:Int)<=(n:Int):=by omega
    have HL:=hid hle;clear hle;go_wp2_with fail;go_roundw
    case rel=>
     refine⟨sm,bh,rfl,rfl,hid ?_,hid ?_,hid ?_,hid ?_,hB⟩
     ·rw[HSM.out,<-HS2.out];exact HL.out
     ·intro h
      rcases HJ.out with⟨k1,k2⟩|⟨i,k1,k2⟩
      ·have:=H5.out
       rw[k2] at this;rw[HSM.out,k2];exact this
      ·rw[HBH.out] at h;omega
     ·intro h
      rcases HJ.out with⟨k1,k2⟩|⟨i,k1,k2⟩
      ·rw[HBH.out] at h;omega
      ·refine⟨⟨i,by rw[HBH.out];exact k1⟩,?_⟩
       rw[HBH.out,k2,HSM.out,Nat.add_assoc,<-Nat.two_mul];exact H5.out
     ·have:=h4.out;have:=HSM.out;have:=HBH.out;omega
    case measure=>simp[zL];have:=HBH.out;omega
   ·have hlI:¬(s2:Int)<=(n:Int):=by omega
    have HL:=hid hle;clear hle;go_wp2_with fail;go_roundw
    case rel=>
     refine⟨rn,bh,rfl,rfl,h1,hid ?_,hid ?_,hid ?_,hB⟩
     ·intro h
      have:=HL.out;rw[HS2.out] at this;rcases HJ.out with⟨k1,k2⟩|⟨i,k1,k2⟩
      ·rw[k2] at this;omega
      ·rw[HBH.out] at h;omega
     ·intro h
      have:=HL.out;rw[HS2.out] at this;rcases HJ.out with⟨k1,k2⟩|⟨i,k1,k2⟩
      ·rw[HBH.out] at h;omega
      ·refine⟨⟨i,by rw[HBH.out];exact k1⟩,?_⟩
       rw[HBH.out,k2];omega
     ·have:=h4.out;have:=HBH.out;omega
    case measure=>simp[zL];have:=HBH.out;omega
  ·have hb1:¬(0:Int)<(bn:Int):=by omega
   have HE:=hid (HS.out rn h1.out (h2.out (by omega)));clear h1 h2 h3 h4;go_wp2_with fail;go_ret;exact⟨by rw[HE.out];rfl,hB.out⟩
theorem z1k (n:Nat) (hn:n<10^16) (w:zA) (hw:Wd w):
 qJ 254 #[St (zD n)] w (.tuple #[St (zD (isq n)),.bool (decide (isq n*isq n=n))]):=by
 have hl:(zD n).length<=16:=(zaf n 16 (by omega)).2 hn;have hAT:=λW=>znc (n:Int) (by rw[Str.zad];omega) W;rw[Str.zad] at hAT;have hNT:=λW=>z7o n (by omega) W;have hs1:=(zv0 n).1;have hsn:isq n<=n:=by
  rcases Nat.eq_zero_or_pos (isq n) with e|e
  ·omega
  ·have:=Nat.le_mul_of_pos_left (isq n) e;omega
 have hIT:=λW hW=>zb3 (isq n:Int) (by omega) (by omega) W hW;rw[Str.zad] at hIT;have hws:IntKind.i64.wrap ((isq n:Int)*(isq n:Int))=((isq n*isq n:Nat):Int):=by rw[<-Int.natCast_mul];exact zI _ ⟨by omega,by omega⟩
 have hq:(((isq n*isq n:Nat):Int)==(n:Int))=decide (isq n*isq n=n):=by
  rw[Bool.eq_iff_iff,beq_iff_eq,decide_eq_true_eq];omega
 have hsz:(⟨(zD n).toArray⟩:ByteArray).size<=17:=by show(zD n).toArray.size<=17;simp;omega
 have HAT:=hid hAT;have HNT:=hid hNT;have HIT:=hid hIT;have HW:=hid hw;clear hAT hNT hIT hw hs1 hsn hl hn;obtain⟨s,hs⟩:=zzX (⟨(zD n).toArray⟩:ByteArray);rw[show St (zD n)=.string s by rw[hs]];rw[<-hs] at hsz HAT;have hsI:(s.size:Int)<=17:=by omega
 clear hs hsz;generalize decide (isq n*isq n=n)=bb at*
 obtain⟨q2,hq2⟩:=zzX (isq n*isq n);rw[<-hq2] at hws hq;clear hq2;generalize zD (isq n)=y at*
 generalize isq n=r at*
 go_enter Tryz.func254,Tryz.ntmps254;go_wp2_with fail;refine zzM (HAT.out w) λw1 hb=>?_;have B1:=hid hb;clear hb;go_wp2_with fail;refine zzM (HNT.out w1) λw2 hb=>?_;have B2:=hid (B1.out.trans (hb.mono B1.out.size));clear hb;go_wp2_with fail;refine zzM (HIT.out w2 (HW.out.below B2.out)) λw3 hb=>?_;have B3:=hid (B2.out.trans (hb.mono B2.out.size));clear hb;go_wp2_with fail;go_ret2;exact⟨rfl,B3.out⟩
theorem z0z (q:Rat) (most k:Nat) (_:most<=200) (hok:okN q) (hk0:0<k) (hs:sz q k) (h8:k<=most) (w:zA) (hw:Wd w):
 qJ 203 #[St (numS q),.int .i64 (most:Int)] w (.bool false):=by
 have hc:=zp5 q hok w hw;have dd:=zok (k:=k) hk0 hs;obtain⟨s,hse⟩:=zzX (⟨(zE q.num).toArray⟩:ByteArray);obtain⟨h0,h1,h2⟩:=zp6 q.num s hse;have hsz:s.size=(zE q.num).length:=by rw[hse];show(zE q.num).toArray.size=_;simp
 have hl:=zqo q.num;have hd2:¬(most:Int)<((⟨(zD q.den).toArray⟩:ByteArray).size:Int):=by
  have:(⟨(zD q.den).toArray⟩:ByteArray).size=(zD q.den).length:=by show(zD q.den).toArray.size=_;simp
  have:=dd.2;omega
 obtain⟨t,ht⟩:=zzX (⟨(zD q.den).toArray⟩:ByteArray);rw[<-ht] at hd2;rw[show St (zE q.num)=.string s by rw[hse],show St (zD q.den)=.string t by rw[ht]] at hc;have HC:=hid hc;have hs0:(0:Int)<(s.size:Int):=by omega
 clear hc hw ht;generalize numS q=x at*
 by_cases hn:q.num<0
 ·have hb:(((s[0]'h0).toNat:Int)==45)=true:=by rw[h1,decide_eq_true hn]
  have he:=h2 hn;have hd1:¬(most:Int)<((⟨(zD q.num.natAbs).toArray⟩:ByteArray).size:Int):=by
   have:(⟨(zD q.num.natAbs).toArray⟩:ByteArray).size=(zD q.num.natAbs).length:=by show(zD q.num.natAbs).toArray.size=_;simp
   have:=dd.1;unfold digs at this;omega
  generalize (⟨(zD q.num.natAbs).toArray⟩:ByteArray)=u at*
  have hs1:(1:Int)<=(s.size:Int):=by omega
  clear h1 h2 hl hse hsz dd hn;go_enter Tryz.func203,Tryz.ntmps203;go_wp2_with fail;refine zzM HC.out λw1 hb1=>?_;have HB:=hid hb1;clear hb1;go_wp2_with fail;go_ret;exact⟨by show Ending.returned (.bool (decide (most<u.size)||decide (most<t.size)))=_;rw[decide_eq_false (by omega),decide_eq_false (by omega)];rfl,HB.out⟩
 ·have hb:(((s[0]'h0).toNat:Int)==45)=false:=by rw[h1,decide_eq_false hn]
  have hd1:¬(most:Int)<(s.size:Int):=by
   rw[if_neg hn] at hl;have:=dd.1;omega
  clear h1 h2 hl hse hsz dd hn;go_enter Tryz.func203,Tryz.ntmps203;go_wp2_with fail;refine zzM HC.out λw1 hb1=>?_;have HB:=hid hb1;clear hb1;go_wp2_with fail;go_ret;exact⟨by show Ending.returned (.bool (decide (most<s.size)||decide (most<t.size)))=_;rw[decide_eq_false (by omega),decide_eq_false (by omega)];rfl,HB.out⟩
theorem z7p (w:zA):
 zC zF 294 #[] w λe w'=>∃A,e=.returned (.slice (some ⟨A,0,none⟩) 25 25)/\Below w.heap.size w w'/\∀i,i<25->w'.cell? ⟨A,i,none⟩=some (I (prN i)):=by
 go_enter Tryz.func294,Tryz.ntmps294;go_wp21;go_ret;refine⟨_,rfl,(zM _ w).alloc (zN _) _,λi hi=>?_⟩;rw[zJ (zG w _)]
 match i,hi with
 |0,_|1,_|2,_|3,_|4,_|5,_|6,_|7,_|8,_|9,_|10,_|11,_|12,_|13,_|14,_|15,_|16,_|17,_|18,_|19,_|20,_|21,_|22,_|23,_|24,_=>rfl
 |k+25,h=>exact absurd h (by omega)
structure SaS (N C L:Nat):Prop where
 out:zro prL (1,N)=(C,L)
theorem z3q (N C L:Nat) (HCL:SaS N C L) (hN0:0<N) (hN:N<10^16) (w:zA) (hw:Wd w):
 qJ 252 #[St (zD N)] w (.tuple #[St (zD L),St (zD C)]):=by
 have hl:(zD N).length<=16:=(zaf N 16 (by omega)).2 hN;have hAT:=λW=>znc (N:Int) (by rw[Str.zad];omega) W;rw[Str.zad] at hAT;have hsz:(⟨(zD N).toArray⟩:ByteArray).size<=17:=by show(zD N).toArray.size<=17;simp;omega
 have HAT:=hid hAT;have HW:=hid hw;have HN9:=hid (show N<10000000000000000 from hN);have HP:=hid (λW=>z7p W);clear hAT hw hl hN;obtain⟨s,hs⟩:=zzX (⟨(zD N).toArray⟩:ByteArray);rw[show St (zD N)=.string s by rw[hs]];rw[<-hs] at hsz HAT;have hsI:(s.size:Int)<=17:=by omega
 clear hs hsz;go_enter Tryz.func252,Tryz.ntmps252;go_wp21;refine(HP.out w).mono ?_;rintro e w0 ⟨A,rfl,hb,hc⟩;have B0:=hid hb;have HC0:=hid hc;clear hb hc HP;go_wp21;refine zzM (HAT.out w0) λw1 hb=>?_;have B1:=hid (B0.out.trans (hb.mono B0.out.size));have HC1:=hid (λi (hi:i<25)=>zai hb (HC0.out i hi));clear hb B0 HC0 HAT;go_wp21;go_loopw [5,7,8] (λlf c i wr=>∃k cN lN:Nat,k<=25/\c=I cN/\lf=I lN/\i=.int .i64 (k:Int)/\Hid (cN*cN*lN=N)/\Hid (NrmS N k (cN,lN))/\Hid (qL w wr)/\Hid (∀i,i<25->wr.cell? ⟨A,i,none⟩=some (I (prN i))))
  (λ_ _ i _=>25-(zL i).toNat)
 case atStart=>exact⟨0,1,N,by omega,rfl,rfl,rfl,hid (by omega),hid (NrmS.start N),B1,HC1⟩
 case round=>
  clear B1 HC1;obtain⟨k,cN,lN,hk,rfl,rfl,rfl,hE,hD,hB,hC⟩:=hrel;by_cases hlt:k<25
  ·obtain⟨g1,g2⟩:=zw4 k hlt
   have hcell:=hid (hC.out k hlt);obtain⟨p,hp⟩:=zzX (prN k);rw[<-hp] at g1 g2 hcell;have HPk:=hid hp;clear hp;have hwp:IntKind.i64.wrap ((p:Int)*(p:Int))=((p*p:Nat):Int):=by
    have:p*p<=97*97:=Nat.mul_le_mul g2 g2;rw[<-Int.natCast_mul];exact zI _ (by omega)
   have hpp:4<=p*p:=Nat.mul_le_mul g1 g1;obtain⟨pp,hpp2⟩:=zzX (p*p);rw[<-hpp2] at hwp hpp;have HPP:=hid hpp2;clear hpp2;have hkI:(k:Int)<25:=by omega
   go_wp21;go_loopw [5,7] (λlf c wr=>∃cN lN:Nat,c=I cN/\lf=I lN/\Hid (cN*cN*lN=N)/\Hid (NrmS N (k+1) (zkk p (cN,lN)))/\Hid (qL w wr)/\Hid (∀i,i<25->wr.cell? ⟨A,i,none⟩=some (I (prN i))))
    (λlf _ _=>(zL lf).toNat)
   case atStart=>exact⟨cN,lN,rfl,rfl,hE,hid (hD.out.enter hlt HPk.out),hB,hC⟩
   case round=>
    clear hE hD hB hcell hC;obtain⟨cN,lN,rfl,rfl,hE,hD,hB,hC⟩:=hrel;have hcell:=hC.out k hlt;rw[<-HPk.out] at hcell;have hl0:0<lN:=yS (λh=>by have:=hE.out;rw[h] at this;simp at this;omega);have hpp0:¬pp=0:=by omega
    have hle:lN<=N:=by rw[<-hE.out];exact Nat.le_mul_of_pos_left _ (yS (λh=>by have:=hE.out;rw[h] at this;simp at this;omega))
    have hmod:(lN:Int).tmod (pp:Int)=((lN%pp:Nat):Int):=rfl;have hdiv:(lN:Int).tdiv (pp:Int)=((lN/pp:Nat):Int):=rfl;have hwz:∀z:Nat,z<=lN->IntKind.i64.wrap (z:Int)=(z:Int):=λz hz=>zI _ (by have:=HN9.out;omega);have hwm:=hwz _ (Nat.mod_le lN pp);have hwd:=hwz _ (Nat.div_le_self lN pp);have hwq:IntKind.i64.wrap ((lN:Int)/(pp:Int))=((lN/pp:Nat):Int):=by rw[<-Int.natCast_ediv];exact hwd
    have HWQ:=hid hwq;clear hwz hwq;by_cases hd:pp∣lN
    ·have hm0:(((lN%pp:Nat):Int)==0)=true:=by rw[Nat.mod_eq_zero_of_dvd hd];rfl
     have hnext:=z1s (c:=cN) (l:=lN) (p:=p) (by rw[<-HPP.out];exact hd);rw[<-HPP.out,hE.out] at hnext;have hl1:0<lN/pp:=yS (λh=>by rw[h] at hnext;simp at hnext;omega);have hcp:cN*p<=N:=by
      rw[<-hnext];exact zO (Nat.le_mul_self _) (Nat.le_mul_of_pos_right _ hl1)
     have hwc:IntKind.i64.wrap ((cN:Int)*(p:Int))=((cN*p:Nat):Int):=by rw[<-Int.natCast_mul];exact zI _ (by have:=HN9.out;omega)
     have hlt2:lN/pp<lN:=Nat.div_lt_self hl0 (by omega);have hkeep:NrmS N (k+1) (zkk p (cN*p,lN/pp)):=by rw[HPP.out];exact hD.out.yes g1 hl0 (by rw[<-HPP.out];exact hd)
     have HNX:=hid hnext;have HK:=hid hkeep;have HL:=hid hlt2;clear hnext hkeep hd hlt2 hl1 hcp;go_wp2
     (refine wp_region_quiet_lit (by kernel_rfl) (by kernel_rfl) (WQ.out ?_);(repeat(first|(apply WQ.read (by rfl);(focus(rintro W ⟨n,rfl⟩;go_simp;try with_reducible rfl));try simp only[zzQ])|(apply WQ.skip (by rfl);try simp only[zzQ])));refine WQ.nil ?_;rintro _ ⟨nq,rfl⟩)
     go_wp2
     (refine wp_region_quiet_lit (by kernel_rfl) (by kernel_rfl) (WQ.out ?_);(repeat(first|(apply WQ.read (by rfl);(focus(rintro W ⟨n,rfl⟩;go_simp;try with_reducible rfl));try simp only[zzQ])|(apply WQ.skip (by rfl);try simp only[zzQ])));refine WQ.nil ?_;rintro _ ⟨nr,rfl⟩)
     go_wp2;go_roundw
     case rel=>exact⟨cN*p,lN/pp,by first|rfl|simp,by first|(rw[HWQ.out])|rfl|simp,HNX,HK,hid (zao (zao hB.out _) _),hC⟩
     case measure=>
      first|(rw[HWQ.out];show(lN/pp:Nat)<lN;exact HL.out)|(simp[zL];exact HL.out)
    ·have hm0:(((lN%pp:Nat):Int)==0)=false:=by
      rw[beq_eq_false_iff_ne];intro h;exact hd (Nat.dvd_of_mod_eq_zero (by omega))
     have hkeep:NrmS N (k+1) (cN,lN):=hD.out.no (by rw[<-HPP.out];exact hd);have HK:=hid hkeep;clear hkeep hd;go_wp2
     (refine wp_region_quiet_lit (by kernel_rfl) (by kernel_rfl) (WQ.out ?_);(repeat(first|(apply WQ.read (by rfl);(focus(rintro W ⟨n,rfl⟩;go_simp;try with_reducible rfl));try simp only[zzQ])|(apply WQ.skip (by rfl);try simp only[zzQ])));refine WQ.nil ?_;rintro _ ⟨nq,rfl⟩)
     go_wp2;go_roundw
     case rel=>exact⟨k+1,cN,lN,by omega,rfl,rfl,by go_num,hE,HK,hid (zao hB.out _),hC⟩
     case measure=>simp[zL];omega
  ·have hk25:k=25:=by omega
   have hc0:0<cN:=yS (λh=>by have:=hE.out;rw[h] at this;simp at this;omega);have hl0:0<lN:=yS (λh=>by have:=hE.out;rw[h] at this;simp at this;omega);have hle:lN<=N:=by rw[<-hE.out];exact Nat.le_mul_of_pos_left _ (Nat.mul_pos hc0 hc0)
   have hce:cN<=N:=by rw[<-hE.out];exact zO (Nat.le_mul_self _) (Nat.le_mul_of_pos_right _ hl0)
   have HNC:=hid (show(C,L)=(cN,lN) by
    have hd:=hD.out;rw[hk25] at hd;exact HCL.out.symm.trans hd.done)
   have HI1:=hid (λW hW=>zb3 (lN:Int) (by omega) (by have:=HN9.out;omega) W hW);have HI2:=hid (λW hW=>zb3 (cN:Int) (by omega) (by have:=HN9.out;omega) W hW);rw[Str.zad] at HI1 HI2;clear hc0 hl0 hle hce hD HCL hE hC hk25;go_wp21;refine zzM (HI1.out wr (HW.out.below hB.out)) λw2 hb=>?_;have B2:=hid (hB.out.trans (hb.mono hB.out.size));clear hb;go_wp21;refine zzM (HI2.out w2 (HW.out.below B2.out)) λw3 hb=>?_;have B3:=hid (B2.out.trans (hb.mono B2.out.size));clear hb;obtain⟨e1,e2⟩:=Prod.mk.inj HNC.out;subst e1;subst e2;clear HNC;go_wp21;go_ret2;exact⟨rfl,B3.out⟩
theorem ycw (A:Nat) (t:TypeId) (a:Rat) (W:zA) (h:W.heap[A]? =some (.cells #[St (numS a)] t (0,0))):RowNums (some ⟨A,0,none⟩) 1 (λ_=>a) W:=λi hi=>by
 refine⟨_,_,rfl,?_⟩;rw[zJ h]
 match i,hi with
 |0,_=>rfl
theorem ycx (A:Nat) (t:TypeId) (a b:Rat) (W:zA) (h:W.heap[A]? =some (.cells #[St (numS a),St (numS b)] t (0,0))):RowNums (some ⟨A,0,none⟩) 2 (λi=>if i=0 then a else b) W:=λi hi=>by
 refine⟨_,_,rfl,?_⟩;rw[zJ h]
 match i,hi with
 |0,_|1,_=>rfl
theorem z4r (n c l k q m:List UInt8) (is:Bool)
 (CK:Hid (∀(W:zA) (A:Nat),Wd W->W.heap[A]? =some (.cells #[St n] 30 (0,0))->qJ 250 #[.slice (some ⟨A,0,none⟩) 1 1] W (.int .i64 0)))
 (SG:Hid (∀W:zA,qJ 251 #[St n] W (.int .i64 1)))
 (PT:Hid (qK 204 #[St n] (.tuple #[St n,.string ⟨#[49]⟩,.int .i64 0])))
 (T1:Hid (qK 253 #[St n,.string ⟨#[49]⟩] (St n)))
 (RD:Hid (qK 252 #[St n] (.tuple #[St l,St c])))
 (SQ:Hid (qK 254 #[St l] (.tuple #[St k,.bool is])))
 (T2:Hid (is=true->qK 253 #[St c,St k] (St m)))
 (QU:Hid (qK 255 #[St (if is=true then m else c),.string ⟨#[49]⟩] (St q)))
 (w:zA) (HW:Hid (Wd w)):
 qJ 205 #[St n] w (.tuple #[St q,(if is=true then .string ⟨#[49]⟩ else St l),.int .i64 0]):=by
 obtain⟨v1,hv⟩:=zzX (w.alloc (.cells #[St n] 30));have a1:qL w v1:=by rw[hv];exact(zM _ w).alloc (zN _) _
 have A1:v1.heap[w.heap.size]? =some (.cells #[St n] 30 (0,0)):=by rw[hv];exact zG w _
 have HCK:=hid (CK.out v1 w.heap.size (HW.out.below a1) A1);have B0:=hid a1;have HV:=hid hv.symm;clear hv a1 A1 CK;go_enter Tryz.func205,Tryz.ntmps205;go_wp21;have h9:=HV.out;rw[show w.alloc (.cells #[.string ⟨n.toArray⟩] 30)=v1 from h9];clear h9 HV;refine zzM HCK.out λw1 hb=>?_;have B1:=hid (B0.out.trans (hb.mono B0.out.size));clear hb HCK B0;go_wp21;refine zzM (SG.out w1) λw2 hb=>?_;have B2:=hid (B1.out.trans (hb.mono B1.out.size));clear hb B1;go_wp21;refine zzM (SG.out w2) λw3 hb=>?_;have B3:=hid (B2.out.trans (hb.mono B2.out.size));clear hb B2 SG;go_wp21;refine zzM (PT.out w3 (HW.out.below B3.out)) λw4 hb=>?_;have B4:=hid (B3.out.trans (hb.mono B3.out.size));clear hb B3 PT;go_wp21;refine zzM (T1.out w4 (HW.out.below B4.out)) λw5 hb=>?_;have B5:=hid (B4.out.trans (hb.mono B4.out.size));clear hb B4 T1;go_wp21;refine zzM (RD.out w5 (HW.out.below B5.out)) λw6 hb=>?_;have B6:=hid (B5.out.trans (hb.mono B5.out.size));clear hb B5 RD;go_wp21;refine zzM (SQ.out w6 (HW.out.below B6.out)) λw7 hb=>?_;have B7:=hid (B6.out.trans (hb.mono B6.out.size));clear hb B6 SQ;cases is
 ·have HQ:=hid (λW hW=>QU.out W hW)
  rw[if_neg (by simp)] at HQ;clear QU T2;go_wp21;refine zzM (HQ.out w7 (HW.out.below B7.out)) λw8 hb=>?_;have B8:=hid (B7.out.trans (hb.mono B7.out.size));clear hb;go_wp21;go_ret3;exact⟨rfl,B8.out⟩
 ·have HQ:=hid (λW hW=>QU.out W hW)
  have HT:=hid (T2.out rfl);rw[if_pos rfl] at HQ;clear QU T2;go_wp21;refine zzM (HT.out w7 (HW.out.below B7.out)) λw8 hb=>?_;have B8:=hid (B7.out.trans (hb.mono B7.out.size));clear hb;go_wp21;refine zzM (HQ.out w8 (HW.out.below B8.out)) λw9 hb=>?_;have B9:=hid (B8.out.trans (hb.mono B8.out.size));clear hb;go_wp21;go_ret3;exact⟨rfl,B9.out⟩
theorem z39 {p:Nat}:∀(f:Nat) (x:Nat×Nat),(zlu p f x).1*(zlu p f x).1*(zlu p f x).2=x.1*x.1*x.2
 |0,_=>rfl
 |f+1,x=>by
  unfold zlu;split
  ·rw[z39 f]
   exact z1s (by assumption)
  ·rfl
theorem z2d:∀(l:List Nat) (x:Nat×Nat),(zro l x).1*(zro l x).1*(zro l x).2=x.1*x.1*x.2
 |[],_=>rfl
 |p::l,x=>by
  show(zro l (zkk p x)).1*(zro l (zkk p x)).1*(zro l (zkk p x)).2=_;rw[z2d l];exact z39 _ _
theorem zgw {n:Nat} (h:n<10^15):okN (n:Rat)/\sz (n:Rat) 15/\digs ((n:Int))<=15:=by
 have hl:(zD n).length<=15:=(zaf n 15 (by omega)).2 h;have s:=zrg (k:=15) (by omega) hl;exact⟨zoo (by omega) (by omega) s,s,by rw[zd9];exact hl⟩
theorem z7q (n:Nat) (hn0:0<n) (hn:n<10^15) (w:zA) (hw:Wd w):
 qJ 205 #[St (zD n)] w (.tuple #[St (zD (zn7 n).1),St (zD (zn7 n).2),.int .i64 0]):=by
 obtain⟨C,L,hCL⟩:∃C L,zro prL (1,n)=(C,L):=by
  generalize zro prL (1,n)=x;exact⟨x.1,x.2,rfl⟩
 have d1:zD 1=[49]:=by rw[zae (by omega)];rfl
 obtain⟨o1,o2,o3⟩:=zgw hn;have hinv:C*C*L=n:=by
  have:=z2d prL (1,n);rw[hCL] at this;simpa using this
 have hC0:0<C:=yS (λh=>by rw[h] at hinv;simp at hinv;omega);have hL0:0<L:=yS (λh=>by rw[h] at hinv;simp at hinv;omega);have hLn:L<=n:=by rw[<-hinv];exact Nat.le_mul_of_pos_left _ (Nat.mul_pos hC0 hC0)
 have hCn:C<=n:=by rw[<-hinv];exact zO (Nat.le_mul_self _) (Nat.le_mul_of_pos_right _ hL0)
 have hsq:=(zv0 L).1;have hsL:isq L<=L:=by
  rcases Nat.eq_zero_or_pos (isq L) with e|e
  ·omega
  ·have:=Nat.le_mul_of_pos_left (isq L) e;omega
 have hm:isq L*isq L=L->C*isq L<=n:=λh=>by
  have h2:(C*isq L)*(C*isq L)=n:=by
   rw[<-hinv]
   conv=>rhs;rw[<-h]
   generalize isq L=s;ac_rfl
  rw[<-h2];exact Nat.le_mul_self _
 have one:sz (1:Rat) 15:=(zgw (n:=1) (by omega)).2.1;have quo:∀k:Nat,k<=n->∀W,Wd W->qJ 255 #[St (zD k),.string ⟨#[49]⟩] W (St (zD k)):=λk hk W hW=>by
  have:=z28 (k:Rat) 1 (zgw (Nat.lt_of_le_of_lt hk hn)).2.1 one (by decide) W hW;rw[show(k:Rat)/1=(k:Rat) by grind,zhe,zfc] at this;exact this
 have mul:∀a b:Nat,a<=n->b<=n->a*b<=n->∀W,Wd W->qJ 253 #[St (zD a),St (zD b)] W (St (zD (a*b))):=λa b ha hb hab W hW=>by
  have hd:∀x:Nat,x<=n->digs (x:Int)<=300:=λx hx=>by
   have:=(zgw (Nat.lt_of_le_of_lt hx hn)).2.2;omega
  have:=ybs (a:Int) (b:Int) (hd a ha) (hd b hb) (by rw[<-Int.natCast_mul];exact hd _ hab) W hW;rw[<-Int.natCast_mul,Str.zad,Str.zad,Str.zad] at this;exact this
 have main:=z4r (zD n) (zD C) (zD L) (zD (isq L)) (zD (zn7 n).1) (zD (C*isq L)) (decide (isq L*isq L=L))
  (hid λW A hW hA=>z2c (some ⟨A,0,none⟩) 1 1 (λ_=>(n:Rat)) (by omega) (λi _=>⟨o1,o2.mono (by omega)⟩) W (hid hW) (hid (ycw A _ (n:Rat) W (by rw[zhe];exact hA))))
  (hid λW=>z2b n hn0 W)
  (hid λW hW=>by
    have:=zp5 (n:Rat) o1 W hW;rw[zhe,show(n:Rat).num=(n:Int) from rfl,show(n:Rat).den=1 from rfl,Str.zad,d1] at this;exact this)
  (hid λW hW=>by
    have:=mul n 1 (zN _) hn0 (by omega) W hW;rw[Nat.mul_one,d1] at this;exact this)
  (hid λW hW=>z3q n C L ⟨hCL⟩ hn0 (by omega) W hW)
  (hid λW hW=>z1k L (by omega) W hW)
  (hid λh W hW=>mul C (isq L) hCn (by omega) (hm (of_decide_eq_true h)) W hW)
  (hid λW hW=>?_) w (hid hw)
 ·have hnc:zn7 n=if isq L*isq L=L then(C*isq L,1) else(C,L):=by unfold zn7;rw[hCL]
  have e2:(if decide (isq L*isq L=L)=true then Value.string ⟨#[49]⟩ else St (zD L))=St (zD (zn7 n).2):=by
   rw[hnc];by_cases h:isq L*isq L=L
   ·rw[if_pos (decide_eq_true h),if_pos h];show _=St (zD 1);rw[d1]
   ·rw[if_neg (by simpa using h),if_neg h]
  rw[e2] at main;exact main
 ·have hnc:zn7 n=if isq L*isq L=L then(C*isq L,1) else(C,L):=by unfold zn7;rw[hCL]
  rw[hnc];by_cases h:isq L*isq L=L
  ·rw[if_pos (decide_eq_true h),if_pos h];exact quo _ (hm h) W hW
  ·rw[if_neg (by simpa using h),if_neg h];exact quo _ hCn W hW
theorem z5q (a b q n d x y z:List UInt8) (i1 i2:Bool)
 (CK:Hid (∀(W:zA) (A:Nat),Wd W->W.heap[A]? =some (.cells #[St a,St b] 30 (0,0))->qJ 250 #[.slice (some ⟨A,0,none⟩) 2 2] W (.int .i64 0)))
 (S1:Hid (∀W:zA,qJ 251 #[St a] W (.int .i64 1)))
 (S2:Hid (∀W:zA,qJ 251 #[St b] W (.int .i64 1)))
 (Q1:Hid (qK 255 #[St a,St b] (St q)))
 (PT:Hid (qK 204 #[St q] (.tuple #[St n,St d,.int .i64 0])))
 (SN:Hid (qK 254 #[St n] (.tuple #[St x,.bool i1])))
 (SD:Hid (qK 254 #[St d] (.tuple #[St y,.bool i2])))
 (Q2:Hid (qK 255 #[St x,St y] (St z)))
 (w:zA) (HW:Hid (Wd w)):
 zC zF 206 #[St a,St b] w λe w'=>∃k,e=.returned (.tuple #[.string k,.bool (i1&&i2),.int .i64 0])/\Below w.heap.size w w':=by
 obtain⟨v1,hv⟩:=zzX (w.alloc (.cells #[St a,St b] 30));have a1:qL w v1:=by rw[hv];exact(zM _ w).alloc (zN _) _
 have A1:v1.heap[w.heap.size]? =some (.cells #[St a,St b] 30 (0,0)):=by rw[hv];exact zG w _
 have HCK:=hid (CK.out v1 w.heap.size (HW.out.below a1) A1);have B0:=hid a1;have HV:=hid hv.symm;clear hv a1 A1 CK;go_enter Tryz.func206,Tryz.ntmps206;go_wp21;have h9:=HV.out;rw[show w.alloc (.cells #[.string ⟨a.toArray⟩,.string ⟨b.toArray⟩] 30)=v1 from h9];clear h9 HV;refine zzM HCK.out λw1 hb=>?_;have B1:=hid (B0.out.trans (hb.mono B0.out.size));clear hb HCK B0;go_wp21;refine zzM (S1.out w1) λw2 hb=>?_;have B2:=hid (B1.out.trans (hb.mono B1.out.size));clear hb B1 S1;go_wp21;refine zzM (S2.out w2) λw3 hb=>?_;have B3:=hid (B2.out.trans (hb.mono B2.out.size));clear hb B2;go_wp21;refine zzM (S2.out w3) λw4 hb=>?_;have B4:=hid (B3.out.trans (hb.mono B3.out.size));clear hb B3 S2;go_wp21;refine zzM (Q1.out w4 (HW.out.below B4.out)) λw5 hb=>?_;have B5:=hid (B4.out.trans (hb.mono B4.out.size));clear hb B4 Q1;go_wp21;refine zzM (PT.out w5 (HW.out.below B5.out)) λw6 hb=>?_;have B6:=hid (B5.out.trans (hb.mono B5.out.size));clear hb B5 PT;go_wp21;refine zzM (SN.out w6 (HW.out.below B6.out)) λw7 hb=>?_;have B7:=hid (B6.out.trans (hb.mono B6.out.size));clear hb B6 SN;go_wp21;refine zzM (SD.out w7 (HW.out.below B7.out)) λw8 hb=>?_;have B8:=hid (B7.out.trans (hb.mono B7.out.size));clear hb B7 SD;cases i1
 ·clear Q2
  go_wp21;go_ret3;exact⟨_,rfl,B8.out⟩
 ·cases i2
  ·clear Q2
   go_wp21;go_ret3;exact⟨_,rfl,B8.out⟩
  ·go_wp21
   refine zzM (Q2.out w8 (HW.out.below B8.out)) λw9 hb=>?_;have B9:=hid (B8.out.trans (hb.mono B8.out.size));clear hb;go_wp21;go_ret3;exact⟨_,rfl,B9.out⟩
theorem z9m (r s:Nat) (hr0:0<r) (hs0:0<s) (hr:r<10^15) (hs:s<10^15) (w:zA) (hw:Wd w):
 zC zF 206 #[St (zD r),St (zD s)] w λe w'=>∃k,e=.returned (.tuple #[.string k,.bool (z5c (r:Rat) (s:Rat)),.int .i64 0])/\Below w.heap.size w w':=by
 obtain⟨r1,r2,r3⟩:=zgw hr;obtain⟨s1,s2,s3⟩:=zgw hs;have pr:(0:Rat)<(r:Rat):=by exact_mod_cast hr0
 have ps:(0:Rat)<(s:Rat):=by exact_mod_cast hs0
 have sq:sz ((r:Rat)/(s:Rat)) 15:=zvm (by omega) hr hs;have h90:∀x:Nat,x<10^15->sz (x:Rat) 90:=λx hx=>(zgw hx).2.1.mono (by omega);have okq:okN ((r:Rat)/(s:Rat)):=zoo (by omega) (by omega) sq;have hn:0<=((r:Rat)/(s:Rat)).num:=Rat.num_nonneg.2 (Rat.le_of_lt (div_pos pr ps));have le:∀n:Nat,isq n<=n:=λn=>by
  have h1:=(zv0 n).1;rcases Nat.eq_zero_or_pos (isq n) with e|e
  ·omega
  ·have:=Nat.le_mul_of_pos_left (isq n) e;omega
 have pos:∀n:Nat,0<n->0<isq n:=λn h=>by
  have h2:=(zv0 n).2;rcases Nat.eq_zero_or_pos (isq n) with e|e
  ·rw[e] at h2;omega
  ·exact e
 have a1:=sq.1;have a2:=sq.2;have dp:=((r:Rat)/(s:Rat)).den_pos;obtain⟨n1,n2, -⟩:=zgw (show isq ((r:Rat)/(s:Rat)).num.natAbs<10^15 from Nat.lt_of_le_of_lt (le _) a1);obtain⟨d1,d2, -⟩:=zgw (show isq ((r:Rat)/(s:Rat)).den<10^15 from Nat.lt_of_le_of_lt (le _) a2);exact z5q (zD r) (zD s) (numS ((r:Rat)/(s:Rat))) (zD ((r:Rat)/(s:Rat)).num.natAbs) (zD ((r:Rat)/(s:Rat)).den) (zD (isq ((r:Rat)/(s:Rat)).num.natAbs)) (zD (isq ((r:Rat)/(s:Rat)).den)) _ _ _
  (hid λW A hW hA=>z2c (some ⟨A,0,none⟩) 2 2 (λi=>if i=0 then(r:Rat) else(s:Rat)) (by omega) (λi _=>by
    by_cases e:i=0
    ·rw[if_pos e];exact⟨r1,h90 r hr⟩
    ·rw[if_neg e];exact⟨s1,h90 s hs⟩) W (hid hW) (hid (ycx A _ (r:Rat) (s:Rat) W (by rw[zhe,zhe];exact hA))))
  (hid λW=>z2b r hr0 W) (hid λW=>z2b s hs0 W)
  (hid λW hW=>by
    have:=z28 (r:Rat) (s:Rat) r2 s2 ps W hW;rw[zhe,zhe] at this;exact this)
  (hid λW hW=>by
    have:=zp5 _ okq W hW;rw[show zE ((r:Rat)/(s:Rat)).num=zD ((r:Rat)/(s:Rat)).num.natAbs by rw[<-Str.zad];congr 1;omega] at this;exact this)
  (hid λW hW=>z1k _ (by omega) W hW) (hid λW hW=>z1k _ (by omega) W hW)
  (hid λW hW=>by
    have:=z28 ((isq ((r:Rat)/(s:Rat)).num.natAbs:Nat):Rat) ((isq ((r:Rat)/(s:Rat)).den:Nat):Rat) n2 d2 (by have:=pos _ dp;exact_mod_cast this) W hW;rw[zhe,zhe] at this;exact this) w (hid hw)
theorem z9n (a b:List UInt8) (r:Bool)
 (H2:Hid ((a==b)=false->(a==[49])=false->(b==[49])=false->∀W:zA,Wd W->zC zF 206 #[St a,St b] W λe w'=>∃k,e=.returned (.tuple #[.string k,.bool r,.int .i64 0])/\Below W.heap.size W w'))
 (w:zA) (HW:Hid (Wd w)):
 qJ 128 #[St a,St b] w (.bool (if(a==b)=true then true else if(a==[49])=true\/(b==[49])=true then false else r)):=by
 obtain⟨s,hs⟩:=zzX (⟨a.toArray⟩:ByteArray);obtain⟨t,ht⟩:=zzX (⟨b.toArray⟩:ByteArray);have es:s.toList=a:=by rw[hs,ByteArray.toList_eq]
 have et:t.toList=b:=by rw[ht,ByteArray.toList_eq]
 rw[show St a=.string s by rw[hs],show St b=.string t by rw[ht]] at*
 rw[<-es,<-et] at H2;rw[<-es,<-et];clear es et hs ht;cases h0:(s.toList==t.toList)
 ·rw[if_neg (by simp)]
  cases h1:(s.toList==[49])
  ·cases h2:(t.toList==[49])
   ·have HR:=hid (H2.out h0 h1 h2 w HW.out)
    rw[if_neg (by simp)];clear H2;go_enter Tryz.func128,Tryz.ntmps128;go_wp21;refine HR.out.mono ?_;rintro e w1 ⟨k,rfl,hb⟩;have HB:=hid hb;clear hb;go_wp21;go_ret;exact⟨rfl,HB.out⟩
   ·rw[if_pos (by simp)]
    clear H2;go_enter Tryz.func128,Tryz.ntmps128;go_wp21;go_ret;exact⟨rfl,zM _ _⟩
  ·rw[if_pos (by simp)]
   clear H2;go_enter Tryz.func128,Tryz.ntmps128;go_wp21;go_ret;exact⟨rfl,zM _ _⟩
 ·rw[if_pos (by simp)]
  clear H2;go_enter Tryz.func128,Tryz.ntmps128;go_wp21;go_ret;exact⟨rfl,zM _ _⟩
theorem z10 {r:Nat} (h:NrmR r) (h1:r≠1):z5c (r:Rat) ((1:Nat):Rat)=false:=by
 have hnc:=h.nc;have e:¬isq r*isq r=r:=λe=>by
  obtain⟨C,L,hCL⟩:∃C L,zro prL (1,r)=(C,L):=by
   generalize zro prL (1,r)=x;exact⟨x.1,x.2,rfl⟩
  unfold zn7 at hnc;rw[hCL] at hnc;dsimp only at hnc;split at hnc
  ·have:=(Prod.mk.inj hnc).2
   exact h1 this.symm
  ·rename_i hne
   have:=(Prod.mk.inj hnc).2;rw[this] at hne;exact hne e
 unfold z5c;rw[Bool.and_eq_false_iff];left;have hd:(r:Rat)/((1:Nat):Rat)=(r:Rat):=by rw[show((1:Nat):Rat)=1 by decide+kernel];grind
 rw[hd,show(r:Rat).num.natAbs=r from rfl];exact decide_eq_false e
theorem z2i {a b:Nat}:(zD a==zD b)=decide (a=b):=by
 rw[Bool.eq_iff_iff,beq_iff_eq,decide_eq_true_eq];constructor
 ·intro h
  rw[<-Str.zad,<-Str.zad] at h;have:=zdo h;omega
 ·rintro rfl;rfl
theorem ybv (r s:Nat) (hr:NrmR r) (hs:NrmR s) (r8:r<10^15) (s8:s<10^15):∃t:Bool,(t=false->z5c (s:Rat) (r:Rat)=false)/\∀W:zA,Wd W->
 qJ 128 #[St (zD r),St (zD s)] W (.bool t):=by
 have d1:[49]=zD 1:=by rw[zae (by omega)];rfl
 have pr:(0:Rat)<(r:Rat):=by have:=hr.pos;exact_mod_cast this
 have ps:(0:Rat)<(s:Rat):=by have:=hs.pos;exact_mod_cast this
 have p1:(0:Rat)<((1:Nat):Rat):=by decide+kernel
 refine⟨_,λh=>?_,λW hW=>z9n _ _ (z5c (r:Rat) (s:Rat)) (hid λ_ _ _ V hV=>z9m r s hr.pos hs.pos r8 s8 V hV) W (hid hW)⟩;rw[d1,z2i,z2i,z2i] at h;simp only[decide_eq_true_eq] at h;split at h
 ·cases h
 ·rename_i h0
  split at h
  ·rename_i h1
   rcases h1 with e|e
   ·subst e;exact z10 hs (λe=>h0 e.symm)
   ·subst e;exact zu9 pr p1 (z10 hr h0)
  ·exact zu9 pr ps h
theorem z2y (x y n d k l:List UInt8) (c:Int) (G:Prop)
 (C1:Hid (qK 86 #[St x] (.int .i64 0)))
 (C2:Hid (qK 86 #[St y] (.int .i64 0)))
 (L1:Hid (qK 203 #[St x,.int .i64 60] (.bool false)))
 (L2:Hid (qK 203 #[St y,.int .i64 40] (.bool false)))
 (PT:Hid (qK 204 #[St y] (.tuple #[St n,St d,.int .i64 0])))
 (CM:Hid (qK 127 #[St y,.string ⟨#[48]⟩] (.int .i64 c)))
 (H1:Hid ((x==[48])=false->(d==[49])=true->0<c->(y==[49])=true->G))
 (H2:Hid ((x==[48])=false->(d==[49])=true->0<c->(y==[49])=false->((k==[49])=true->(l==y)=true->G)/\qK 205 #[St y] (.tuple #[St k,St l,.int .i64 0])))
 (w:zA) (HW:Hid (Wd w)):
 zC zF 126 #[.agg #[St x,St y]] w (ErrP w G):=by
 obtain⟨s,hs⟩:=zzX (⟨x.toArray⟩:ByteArray);obtain⟨t,ht⟩:=zzX (⟨y.toArray⟩:ByteArray);obtain⟨dd,hd⟩:=zzX (⟨d.toArray⟩:ByteArray);obtain⟨kk,hk⟩:=zzX (⟨k.toArray⟩:ByteArray);obtain⟨ll,hl⟩:=zzX (⟨l.toArray⟩:ByteArray);have es:s.toList=x:=by rw[hs,ByteArray.toList_eq]
 have et:t.toList=y:=by rw[ht,ByteArray.toList_eq]
 have ed:dd.toList=d:=by rw[hd,ByteArray.toList_eq]
 have ek:kk.toList=k:=by rw[hk,ByteArray.toList_eq]
 have el:ll.toList=l:=by rw[hl,ByteArray.toList_eq]
 rw[show St x=.string s by rw[hs],show St y=.string t by rw[ht],show St d=.string dd by rw[hd],show St k=.string kk by rw[hk],show St l=.string ll by rw[hl]] at*
 rw[<-es,<-et,<-ed] at H1;rw[<-es,<-et,<-ed,<-ek,<-el] at H2;clear es et ed ek el hs ht hd hk hl;obtain⟨W0,hW0⟩:=zzX (w.alloc (.cells #[.string s,.string t] 37));have K0:=hid (show BxT w s t W0 by rw[hW0];exact BxT.start w s t);obtain⟨c0,c1⟩:=K0.out.cx;rw[hW0] at c0 c1;have H9:=hid hW0.symm;clear hW0;go_enter Tryz.func126,Tryz.ntmps126;go_wp21;rw[H9.out];clear c0 c1 H9;refine zzM (C1.out W0 (HW.out.below K0.out.bel)) λw1 hb1=>?_;have K1:=hid (K0.out.next hb1);clear hb1 K0 C1;obtain⟨c0,c1⟩:=K1.out.cx;go_wp21;clear c0 c1;refine zzM (C2.out w1 (HW.out.below K1.out.bel)) λw2 hb2=>?_;have K2:=hid (K1.out.next hb2);clear hb2 K1 C2;obtain⟨c0,c1⟩:=K2.out.cx;cases hx0:(s.toList==[48])
 ·go_wp21
  clear c0 c1;refine zzM (L1.out w2 (HW.out.below K2.out.bel)) λw3 hb3=>?_;have K3:=hid (K2.out.next hb3);clear hb3 K2 L1;obtain⟨c0,c1⟩:=K3.out.cx;go_wp21;clear c0 c1;refine zzM (L2.out w3 (HW.out.below K3.out.bel)) λw4 hb4=>?_;have K4:=hid (K3.out.next hb4);clear hb4 K3 L2;obtain⟨c0,c1⟩:=K4.out.cx;go_wp21;clear c0 c1;refine zzM (PT.out w4 (HW.out.below K4.out.bel)) λw5 hb5=>?_;have K5:=hid (K4.out.next hb5);clear hb5 K4 PT;obtain⟨c0,c1⟩:=K5.out.cx;cases hd1:(dd.toList==[49])
  ·have hdb:(dd.toList !=[49])=true:=by simp[bne,hd1]
   clear H1 H2 CM;go_wp21;go_ret;exact⟨_,rfl,(λh=>by cases h),K5.out.bel⟩
  ·have hdb:(dd.toList !=[49])=false:=by simp[bne,hd1]
   go_wp21;clear c0 c1;refine zzM (CM.out w5 (HW.out.below K5.out.bel)) λw6 hb6=>?_;have K6:=hid (K5.out.next hb6);clear hb6 K5 CM;obtain⟨c0,c1⟩:=K6.out.cx;by_cases hc:0<c
   ·have hcn:¬c<=0:=by omega
    cases hy1:(t.toList==[49])
    ·obtain⟨hG,hN⟩:=H2.out hx0 hd1 hc hy1
     have HG:=hid hG;have HN:=hid hN;clear hG hN H1 H2;go_wp21;clear c0 c1;refine zzM (HN.out w6 (HW.out.below K6.out.bel)) λw7 hb7=>?_;have K7:=hid (K6.out.next hb7);clear hb7 K6 HN;obtain⟨c0,c1⟩:=K7.out.cx;cases hk1:(kk.toList==[49])
     ·have hkb:(kk.toList !=[49])=true:=by simp[bne,hk1]
      go_wp21;go_ret;exact⟨_,rfl,(λh=>by cases h),K7.out.bel⟩
     ·have hkb:(kk.toList !=[49])=false:=by simp[bne,hk1]
      cases hl1:(ll.toList==t.toList)
      ·have hlb:(ll.toList !=t.toList)=true:=by simp[bne,hl1]
       go_wp21;go_ret;exact⟨_,rfl,(λh=>by cases h),K7.out.bel⟩
      ·have hlb:(ll.toList !=t.toList)=false:=by simp[bne,hl1]
       have HGG:=hid (HG.out hk1 hl1);go_wp21;go_ret;exact⟨_,rfl,λ_=>HGG.out,K7.out.bel⟩
    ·have HG:=hid (H1.out hx0 hd1 hc hy1)
     clear H1 H2;go_wp21;go_ret;exact⟨_,rfl,λ_=>HG.out,K6.out.bel⟩
   ·have hcn:c<=0:=by omega
    clear H1 H2;go_wp21;go_ret;exact⟨_,rfl,(λh=>by cases h),K6.out.bel⟩
 ·clear H1 H2 CM PT L1 L2
  go_wp21;go_ret;exact⟨_,rfl,(λh=>by cases h),K2.out.bel⟩
theorem z9o (k:Nat) (hk0:0<k) (hk:k<=15) (c q:Rat) (hc:okN c) (hq:okN q) (sc:sz c k) (sq:sz q k) (w:zA) (hw:Wd w):
 zC zF 126 #[.agg #[St (numS c),St (numS q)]] w (ErrP w (∃c' r,numS c=numS c'/\sz c' k/\numS q=zD r/\r<10^k/\TrmR c' r)):=by
 have d1:zD 1=[49]:=by rw[zae (by omega)];rfl
 have z0:sz (0:Rat) 15:=(zgw (n:=0) (by omega)).2.1;have hk1:1<10^k:=Nat.one_lt_pow (by omega) (by omega);have hnz:(numS c==[48])=false->c≠0:=λh e=>by
  rw[beq_eq_false_iff_ne] at h;exact h (by rw[e];exact zie)
 have inj:∀a b:Nat,zD a=zD b->a=b:=λa b h=>by
  have:=z2i (a:=a) (b:=b);rw[h,beq_self_eq_true] at this;exact of_decide_eq_true this.symm
 have nat:(zD q.den==[49])=true->0<cmpR q 0->∃n:Nat,numS q=zD n/\0<n/\n<10^k:=λhd hcm=>by
  rw[beq_iff_eq,<-d1] at hd;have hden:=inj _ _ hd;have hqp:0<q:=by have:=zaw q 0;grind
  have hqn:0<=q.num:=Rat.num_nonneg.2 (Rat.le_of_lt hqp);have hq0:q.num≠0:=λe=>by have:=Rat.num_eq_zero.1 e;grind
  refine⟨q.num.natAbs,?_,by omega,sq.1⟩;unfold numS;rw[if_pos hden,List.append_nil,<-Str.zad];congr 1;omega
 by_cases hnat:(zD q.den==[49])=true/\0<cmpR q 0
 ·obtain⟨n,hn,n0,n8⟩:=nat hnat.1 hnat.2
  refine z2y (numS c) (numS q) (zE q.num) (zD q.den) (zD (zn7 n).1) (zD (zn7 n).2) (cmpR q 0) _ (hid λW hW=>zgv c hc W hW) (hid λW hW=>zgv q hq W hW) (hid λW hW=>z0z c 60 k (by omega) hc hk0 sc (by omega) W hW) (hid λW hW=>z0z q 40 k (by omega) hq hk0 sq (by omega) W hW) (hid λW hW=>zp5 q hq W hW) (hid λW hW=>?_) (hid λh0 _ _ h1=>?_) (hid λh0 _ _ h1=>⟨λhk hl=>?_,λW hW=>?_⟩) w (hid hw)
  ·have:=z29 q 0 (sq.mono hk) z0 W hW
   rw[nm0] at this;exact this
  ·rw[beq_iff_eq] at h1
   exact⟨c,1,rfl,sc,by rw[h1,d1],hk1,hnz h0,sc.mono (by omega),zyl.1⟩
  ·rw[beq_iff_eq,<-d1] at hk
   rw[beq_iff_eq,hn] at hl;exact⟨c,n,rfl,sc,hn,n8,hnz h0,sc.mono (by omega),n0,by have:=(zaf n k hk0).2 n8;omega,Prod.ext (inj _ _ hk) (inj _ _ hl)⟩
  ·rw[hn];exact z7q n n0 (zS n8 (yF (by omega) hk)) W hW
 ·refine z2y (numS c) (numS q) (zE q.num) (zD q.den) [] [] (cmpR q 0) _ (hid λW hW=>zgv c hc W hW) (hid λW hW=>zgv q hq W hW) (hid λW hW=>z0z c 60 k (by omega) hc hk0 sc (by omega) W hW) (hid λW hW=>z0z q 40 k (by omega) hq hk0 sq (by omega) W hW) (hid λW hW=>zp5 q hq W hW) (hid λW hW=>?_) (hid λ_ h1 h2 _=>absurd ⟨h1,h2⟩ hnat) (hid λ_ h1 h2 _=>absurd ⟨h1,h2⟩ hnat) w (hid hw)
  have:=z29 q 0 (sq.mono hk) z0 W hW;rw[nm0] at this;exact this
theorem z7t (p:Option Addr) (cap:Nat) (w:zA):zC zF 58 #[.slice p 0 cap] w (ErrP w True):=by
 go_enter Tryz.func58,Tryz.ntmps58;go_wp21;refine wp_loop_rounds 1 ?_;rw[rounds_succ];go_wp21;go_ret;exact⟨_,rfl,λ_=>trivial,zM _ _⟩
theorem z7u (b off cap:Nat) (x0 y0:List UInt8) (G0:Prop)
 (T0:Hid (∀W:zA,Wd W->zC zF 126 #[.agg #[St x0,St y0]] W (ErrP W G0)))
 (w:zA) (HW:Hid (Wd w)) (HC:Hid (w.cell? ⟨b,off,none⟩=some (St x0)/\w.cell? ⟨b,off+1,none⟩=some (St y0))):
 zC zF 58 #[.slice (some ⟨b,off,none⟩) 1 cap] w (ErrP w G0):=by
 obtain⟨c0,c1⟩:=HC.out;go_enter Tryz.func58,Tryz.ntmps58;go_wp21;refine wp_loop_rounds 2 ?_;rw[rounds_succ];go_wp21;refine(T0.out w HW.out).mono ?_;rintro e w1 ⟨r,rfl,hr,hb⟩;have B1:=hid hb;have HR:=hid hr;clear hb hr c0 c1;by_cases h0:r=0
 ·subst h0
  have HG:=hid (HR.out rfl);go_wp21
  (refine wp_region_quiet_lit (by kernel_rfl) (by kernel_rfl) (WQ.out ?_);(repeat(first|(apply WQ.read (by rfl);(focus(rintro W ⟨n,rfl⟩;go_simp;try with_reducible rfl));try simp only[zzQ])|(apply WQ.skip (by rfl);try simp only[zzQ])));refine WQ.nil ?_;rintro _ ⟨nq,rfl⟩)
  go_wp21;refine wp_loop_rounds 1 ?_;rw[rounds_succ];go_wp21;rw[rounds_succ];go_wp21;go_ret;exact⟨_,rfl,λ_=>HG.out,zao B1.out _⟩
 ·have hrb:(r !=0)=true:=by simpa using h0
  have HN:=hid h0;clear h0;go_wp21;go_ret;exact⟨r,rfl,λh=>absurd h HN.out,B1.out⟩
theorem z7v (b off cap:Nat) (x0 y0 x1 y1:List UInt8) (G0 G1 OR UL:Prop)
 (T0:Hid (∀W:zA,Wd W->zC zF 126 #[.agg #[St x0,St y0]] W (ErrP W G0)))
 (T1:Hid (∀W:zA,Wd W->zC zF 126 #[.agg #[St x1,St y1]] W (ErrP W G1)))
 (CM:Hid (G0->G1->∃c:Int,(c<0->OR)/\qK 127 #[St y0,St y1] (.int .i64 c)))
 (RL:Hid (G0->G1->∃t:Bool,(t=false->UL)/\qK 128 #[St y0,St y1] (.bool t)))
 (w:zA) (HW:Hid (Wd w)) (HC:Hid (w.cell? ⟨b,off,none⟩=some (St x0)/\w.cell? ⟨b,off+1,none⟩=some (St y0)/\w.cell? ⟨b,off+2,none⟩=some (St x1)/\w.cell? ⟨b,off+2+1,none⟩=some (St y1))):
 zC zF 58 #[.slice (some ⟨b,off,none⟩) 2 cap] w (ErrP w (G0/\G1/\OR/\UL)):=by
 obtain⟨c0,c1,c2,c3⟩:=HC.out;go_enter Tryz.func58,Tryz.ntmps58;go_wp21;refine wp_loop_rounds 3 ?_;rw[rounds_succ];go_wp21;refine(T0.out w HW.out).mono ?_;rintro e w1 ⟨r,rfl,hr,hb⟩;have B1:=hid hb;have HR:=hid hr;clear hb hr c0 c1 c2 c3 T0;by_cases h0:r=0
 ·subst h0
  have HG0:=hid (HR.out rfl);clear HR;go_wp21
  (refine wp_region_quiet_lit (by kernel_rfl) (by kernel_rfl) (WQ.out ?_);(repeat(first|(apply WQ.read (by rfl);(focus(rintro W ⟨n,rfl⟩;go_simp;try with_reducible rfl));try simp only[zzQ])|(apply WQ.skip (by rfl);try simp only[zzQ])));refine WQ.nil ?_;rintro _ ⟨nq,rfl⟩)
  go_wp21;refine wp_loop_rounds 1 ?_;rw[rounds_succ];go_wp21;rw[rounds_succ];obtain⟨wq,hwq⟩:=zzX (w1.drewN nq);have BQ:Hid (qL w wq):=hid (by rw[hwq];exact zao B1.out _);rw[<-hwq];clear hwq;have c2:=zai BQ.out HC.out.2.2.1;have c3:=zai BQ.out HC.out.2.2.2;go_wp21;refine(T1.out wq (HW.out.below BQ.out)).mono ?_;rintro e w2 ⟨r,rfl,hr,hb⟩;have B2:=hid (BQ.out.trans (hb.mono BQ.out.size));have HR:=hid hr;clear hb hr c2 c3 T1 BQ;by_cases h0:r=0
  ·subst h0
   have HG1:=hid (HR.out rfl);obtain⟨c,hc1,hc2⟩:=CM.out HG0.out HG1.out;obtain⟨bb,hb1,hb2⟩:=RL.out HG0.out HG1.out;have HC1:=hid hc1;have HCM:=hid hc2;have HB1:=hid hb1;have HRL:=hid hb2;have HC2:=hid (⟨zai B2.out HC.out.1,zai B2.out HC.out.2.1,zai B2.out HC.out.2.2.1,zai B2.out HC.out.2.2.2⟩:_/\_/\_/\_);clear hc1 hc2 hb1 hb2 CM RL HR;by_cases hcn:c<0
   ·have hng:¬0<=c:=by omega
    have hgd:decide (0<=c)=false:=decide_eq_false hng;have HOR:=hid (HC1.out hcn);go_wp21
    focus
     refine zbl (λ_ W=>qL w2 W) (by kernel_rfl) (by kernel_rfl) (zM _ _).drew ?_;refine qR (.int .i64 1) ?_ (hy:=λf W' hf h=>by go_simp;try first|omega|decide);refine qR (.bool true) ?_ (hy:=λf W' hf h=>by go_simp;try first|omega|decide);refine qR (.bool true) ?_ (hy:=λf W' hf h=>by go_simp;try first|omega|decide);simp only[zzQ];refine qR (.slice (some ⟨b,off,none⟩) 2 cap) ?_ (hy:=λf W' hf h=>by go_simp;try first|omega|decide);refine qR (.int .i64 1) ?_ (hy:=λf W' hf h=>by go_simp;try first|omega|decide);refine qR (.int .i64 0) ?_ (hy:=λf W' hf h=>by go_simp;try first|omega|decide);simp only[zzQ];refine qR (.pointer (some ⟨b,off,none⟩)) ?_ (hy:=λf W' hf h=>by go_simp;try first|omega|decide);refine qR (.pointer (some ⟨b,off+1,none⟩)) ?_ (hy:=λf W' hf h=>by go_simp;try first|omega|decide);refine qR (St y0) ?_ (hy:=λf W' hf h=>by have c0:=zai h HC2.out.2.1;go_simp;try first|omega|decide);simp only[zzQ];refine qR (.slice (some ⟨b,off,none⟩) 2 cap) ?_ (hy:=λf W' hf h=>by go_simp;try first|omega|decide);refine qR (.int .i64 1) ?_ (hy:=λf W' hf h=>by go_simp;try first|omega|decide);refine qR (.pointer (some ⟨b,off+2,none⟩)) ?_ (hy:=λf W' hf h=>by go_simp;try first|omega|decide);simp only[zzQ];refine qR (.pointer (some ⟨b,off+2+1,none⟩)) ?_ (hy:=λf W' hf h=>by go_simp;try first|omega|decide);refine qR (St y1) ?_ (hy:=λf W' hf h=>by have c0:=zai h HC2.out.2.2.2;go_simp;try first|omega|decide);simp only[zzQ]
     refine zar (.int .i64 c) (by rfl) (λf W' hf h C' hC'=>by
      go_simp;refine zzM (HCM.out _ (HW.out.below (B2.out.trans (h.mono B2.out.size)))) λw' hb=>?_;exact⟨rfl,hC' _ (h.trans (hb.mono h.size))⟩) ?_
     refine qR (.bool false) ?_ (hy:=λf W' hf h=>by go_simp;try first|omega|decide);refine qR (.bool false) ?_ (hy:=λf W' hf h=>by go_simp;try first|omega|decide);simp only[zzQ];refine zck λf W5 hf h5=>?_;obtain⟨w5,hw5⟩:=zzX W5;rw[<-hw5] at h5⊢;have B5:=hid (B2.out.trans (h5.mono B2.out.size));have HC5:=hid (⟨zai B5.out HC.out.1,zai B5.out HC.out.2.1,zai B5.out HC.out.2.2.1,zai B5.out HC.out.2.2.2⟩:_/\_/\_/\_);clear hf h5 hw5 HC2 HCM;go_wp21;refine wp_loop_rounds 2 ?_;rw[rounds_succ];go_wp21;refine zbl (λ_ W=>qL w5 W) (by kernel_rfl) (by kernel_rfl) (zM _ _).drew ?_;refine qR (.slice (some ⟨b,off,none⟩) 2 cap) ?_ (hy:=λf W' hf h=>by go_simp;try first|omega|decide);refine qR (.int .i64 0) ?_ (hy:=λf W' hf h=>by go_simp;try first|omega|decide);refine qR (.pointer (some ⟨b,off,none⟩)) ?_ (hy:=λf W' hf h=>by go_simp;try first|omega|decide);simp only[zzQ];refine qR (.pointer (some ⟨b,off+1,none⟩)) ?_ (hy:=λf W' hf h=>by go_simp;try first|omega|decide);refine qR (St y0) ?_ (hy:=λf W' hf h=>by have c0:=zai h HC5.out.2.1;go_simp;try first|omega|decide);refine qR (.slice (some ⟨b,off,none⟩) 2 cap) ?_ (hy:=λf W' hf h=>by go_simp;try first|omega|decide);simp only[zzQ];refine qR (.int .i64 1) ?_ (hy:=λf W' hf h=>by go_simp;try first|omega|decide);refine qR (.pointer (some ⟨b,off+2,none⟩)) ?_ (hy:=λf W' hf h=>by go_simp;try first|omega|decide);refine qR (.pointer (some ⟨b,off+2+1,none⟩)) ?_ (hy:=λf W' hf h=>by go_simp;try first|omega|decide);simp only[zzQ];refine qR (St y1) ?_ (hy:=λf W' hf h=>by have c0:=zai h HC5.out.2.2.2;go_simp;try first|omega|decide);simp only[zzQ]
     refine zar (.bool bb) (by rfl) (λf W' hf h C' hC'=>by
      go_simp;refine zzM (HRL.out _ (HW.out.below (B5.out.trans (h.mono B5.out.size)))) λw' hb=>?_;exact⟨rfl,hC' _ (h.trans (hb.mono h.size))⟩) ?_
     try simp only[zzQ]
     refine zck λf W6 hf h6=>?_;have B6:=hid (B5.out.trans (h6.mono B5.out.size));clear hf h6 HC5 HRL;cases bb
     ·have HUL:=hid (HB1.out rfl)
      go_wp21;rw[rounds_succ];go_wp21;rw[rounds_succ];go_wp21;go_ret;exact⟨_,rfl,λ_=>⟨HG0.out,HG1.out,HOR.out,HUL.out⟩,B6.out⟩
     ·go_wp21
      go_ret;exact⟨_,rfl,(λh=>by cases h),B6.out⟩
   ·have hng:0<=c:=by omega
    have hgd:decide (0<=c)=true:=decide_eq_true hng;go_wp21
    focus
     refine zbl (λ_ W=>qL w2 W) (by kernel_rfl) (by kernel_rfl) (zM _ _).drew ?_;refine qR (.int .i64 1) ?_ (hy:=λf W' hf h=>by go_simp;try first|omega|decide);refine qR (.bool true) ?_ (hy:=λf W' hf h=>by go_simp;try first|omega|decide);refine qR (.bool true) ?_ (hy:=λf W' hf h=>by go_simp;try first|omega|decide);simp only[zzQ];refine qR (.slice (some ⟨b,off,none⟩) 2 cap) ?_ (hy:=λf W' hf h=>by go_simp;try first|omega|decide);refine qR (.int .i64 1) ?_ (hy:=λf W' hf h=>by go_simp;try first|omega|decide);refine qR (.int .i64 0) ?_ (hy:=λf W' hf h=>by go_simp;try first|omega|decide);simp only[zzQ];refine qR (.pointer (some ⟨b,off,none⟩)) ?_ (hy:=λf W' hf h=>by go_simp;try first|omega|decide);refine qR (.pointer (some ⟨b,off+1,none⟩)) ?_ (hy:=λf W' hf h=>by go_simp;try first|omega|decide);refine qR (St y0) ?_ (hy:=λf W' hf h=>by have c0:=zai h HC2.out.2.1;go_simp;try first|omega|decide);simp only[zzQ];refine qR (.slice (some ⟨b,off,none⟩) 2 cap) ?_ (hy:=λf W' hf h=>by go_simp;try first|omega|decide);refine qR (.int .i64 1) ?_ (hy:=λf W' hf h=>by go_simp;try first|omega|decide);refine qR (.pointer (some ⟨b,off+2,none⟩)) ?_ (hy:=λf W' hf h=>by go_simp;try first|omega|decide);simp only[zzQ];refine qR (.pointer (some ⟨b,off+2+1,none⟩)) ?_ (hy:=λf W' hf h=>by go_simp;try first|omega|decide);refine qR (St y1) ?_ (hy:=λf W' hf h=>by have c0:=zai h HC2.out.2.2.2;go_simp;try first|omega|decide);simp only[zzQ]
     refine zar (.int .i64 c) (by rfl) (λf W' hf h C' hC'=>by
      go_simp;refine zzM (HCM.out _ (HW.out.below (B2.out.trans (h.mono B2.out.size)))) λw' hb=>?_;exact⟨rfl,hC' _ (h.trans (hb.mono h.size))⟩) ?_
     refine qR (.bool true) ?_ (hy:=λf W' hf h=>by go_simp;try first|omega|decide);refine qR (.bool true) ?_ (hy:=λf W' hf h=>by go_simp;try first|omega|decide);simp only[zzQ];refine zck λf W5 hf h5=>?_;have B5:=hid (B2.out.trans (h5.mono B2.out.size));clear hf h5 HC2 HCM;go_wp21;go_ret;exact⟨_,rfl,(λh=>by cases h),B5.out⟩
  ·have hrb:(r !=0)=true:=by simpa using h0
   have HN:=hid h0;clear h0;go_wp21;go_ret;exact⟨r,rfl,λh=>absurd h HN.out,B2.out⟩
 ·have hrb:(r !=0)=true:=by simpa using h0
  have HN:=hid h0;clear h0;go_wp21;go_ret;exact⟨r,rfl,λh=>absurd h HN.out,B1.out⟩
theorem zdn {w y:zA} {cs:Array Value} {t:TypeId} (hy:y=w.alloc (.cells cs t)):qL w y/\y.heap[w.heap.size]? =some (.cells cs t (0,0)):=by
 rw[hy];exact⟨(zM _ w).alloc (zN _) _,zG w _⟩
end
section
open Go.RowKit Go.Shelf Lib Str Limb
theorem zrr (x:Rat):(x.num:Rat)=x*(x.den:Rat):=by
 have h:=Rat.num_divInt_den x;rw[Rat.divInt_eq_div] at h;have h0:((x.den:Int):Rat)≠0:=by
  have:=x.den_nz;exact_mod_cast this
 have h1:(x.num:Rat)=x*((x.den:Int):Rat):=by
  conv=>rhs;rw[<-h]
  grind
 exact_mod_cast h1
theorem yeg (q:Rat):0<=rt q:=by
 unfold rt;have h1:(0:Rat)<=((isq q.num.natAbs:Nat):Rat):=by exact_mod_cast zR _
 rcases Nat.eq_zero_or_pos (isq q.den) with h|h
 ·rw[h,show(((0:Nat)):Rat)=0 from rfl,Rat.div_def,Rat.inv_zero,Rat.mul_zero];exact Rat.le_refl
 ·rw[Rat.div_def]
  exact Rat.mul_nonneg h1 (Rat.le_of_lt (Rat.inv_pos.2 (by exact_mod_cast h)))
theorem ybw {T:List (Rat×Nat)} (hT:PosR T):PosR (mkG T):=λc hc=>(zw2 hT T.length).2 c (zx8 hc).1
theorem ybx {l m:List (Rat×Nat)} (hl:PosR l) (hm:PosR m):PosR (l++m):=λt ht=>(List.mem_append.1 ht).elim (hl t) (hm t)
theorem yby {l:List (Rat×Nat)} (h:PosR l) (c:Rat):PosR (sclL l c):=λt ht=>by
 obtain⟨u,hu,rfl⟩:=List.mem_map.1 ht;exact h u hu
def Bd (f:Nat->Rat):Prop:=∃K:Rat,∀q, -K<=f q/\f q<=K
theorem Bd.add {f g:Nat->Rat} (hf:Bd f) (hg:Bd g):Bd λq=>f q+g q:=by
 obtain⟨K,h⟩:=hf;obtain⟨L,k⟩:=hg;exact⟨K+L,λq=>by have:=h q;have:=k q;constructor<;>grind⟩
theorem Bd.neg {f:Nat->Rat} (hf:Bd f):Bd λq=> -f q:=by
 obtain⟨K,h⟩:=hf;exact⟨K,λq=>by have:=h q;constructor<;>grind⟩
theorem Bd.zero:Bd λ_=>0:=⟨0,λ_=>by constructor<;>grind⟩
theorem Bd.congr {f g:Nat->Rat} (hf:Bd f) (h:∀q,g q=f q):Bd g:=by
 obtain⟨K,k⟩:=hf;exact⟨K,λq=>by rw[h];exact k q⟩
theorem Bd.smul {f:Nat->Rat} (hf:Bd f) (c:Rat):Bd λq=>c*f q:=by
 obtain⟨K,h⟩:=hf;rcases(show 0<=c\/0<= -c by grind) with hc|hc
 ·refine⟨c*K,λq=>?_⟩
  have h1:=Rat.mul_le_mul_of_nonneg_left (h q).1 hc;have h2:=Rat.mul_le_mul_of_nonneg_left (h q).2 hc;constructor<;>grind
 ·refine⟨-c*K,λq=>?_⟩
  have h1:=Rat.mul_le_mul_of_nonneg_left (h q).1 hc;have h2:=Rat.mul_le_mul_of_nonneg_left (h q).2 hc;constructor<;>grind
def rtF (r q:Nat):Nat:=isq (r*10^(2*q))
theorem zvo {a b r s:Nat} (h:b*b*r=a*a*s) (q:Nat):a*rtF s q<=b*rtF r q+b/\b*rtF r q<=a*rtF s q+a:=by
 obtain⟨r1,r2⟩:=zv0 (r*10^(2*q));obtain⟨s1,s2⟩:=zv0 (s*10^(2*q));unfold rtF;generalize isq (r*10^(2*q))=x at*
 generalize isq (s*10^(2*q))=y at*
 generalize 10^(2*q)=M at*
 have e:b*b*(r*M)=a*a*(s*M):=by rw[<-Nat.mul_assoc,h,Nat.mul_assoc]
 constructor
 ·refine zpf ?_
  calc a*y*(a*y)=a*a*(y*y):=by ac_rfl
   _<=a*a*(s*M):=Nat.mul_le_mul_left _ s1
   _=b*b*(r*M):=e.symm
   _<=b*b*((x+1)*(x+1)):=Nat.mul_le_mul_left _ (zT r2)
   _=(b*x+b)*(b*x+b):=by rw[show b*x+b=b*(x+1) by rw[Nat.mul_add,Nat.mul_one]];ac_rfl
 ·refine zpf ?_
  calc b*x*(b*x)=b*b*(x*x):=by ac_rfl
   _<=b*b*(r*M):=Nat.mul_le_mul_left _ r1
   _=a*a*(s*M):=e
   _<=a*a*((y+1)*(y+1)):=Nat.mul_le_mul_left _ (zT s2)
   _=(a*y+a)*(a*y+a):=by rw[show a*y+a=a*(y+1) by rw[Nat.mul_add,Nat.mul_one]];ac_rfl
theorem zvp (n r q:Nat):n*rtF r q<=isq (n*n*r*10^(2*q))+1/\isq (n*n*r*10^(2*q))<=n*rtF r q+n:=by
 have h:=zvo (a:=n) (b:=1) (r:=n*n*r) (s:=r) (by simp) q;rw[Nat.one_mul] at h;exact h
theorem zn1 {x m d:Rat} (hd:1<=d) (hm:0<=m) (h:x*d<=m):x<=m:=by
 rcases(show x<=m\/m<x by grind) with k|k
 ·exact k
 ·have:=Rat.mul_le_mul_of_nonneg_left hd (show 0<=x by grind)
  grind
theorem ztd {c:Rat} {m d s z y:Nat} (hd:0<d) (hc:c*(d:Rat)=(m:Rat)) (h1:m*y<=s+1) (h2:s<=m*y+m) (a1:z*d<=s) (a2:s<(z+1)*d): -2<=(z:Rat)-c*(y:Rat)/\(z:Rat)-c*(y:Rat)<=(m:Rat):=by
 have hd1:(1:Rat)<=(d:Rat):=by exact_mod_cast hd
 have b1:(m:Rat)*(y:Rat)<=(s:Rat)+1:=by exact_mod_cast h1
 have b2:(s:Rat)<=(m:Rat)*(y:Rat)+(m:Rat):=by exact_mod_cast h2
 have b3:(z:Rat)*(d:Rat)<=(s:Rat):=by exact_mod_cast a1
 have b4:(s:Rat)<((z:Rat)+1)*(d:Rat):=by exact_mod_cast a2
 have b5:(0:Rat)<=(m:Rat):=by exact_mod_cast zR m
 have e:c*(y:Rat)*(d:Rat)=(m:Rat)*(y:Rat):=by rw[<-hc];grind
 generalize (m:Rat)=M at*
 generalize (d:Rat)=D at*
 generalize (s:Rat)=S at*
 generalize (z:Rat)=Z at*
 generalize (y:Rat)=Y at*
 constructor
 ·have:=zn1 (x:= -(Z-c*Y+1)) (m:=1) hd1 (by decide) (by grind)
  grind
 ·exact zn1 hd1 b5 (by grind)
theorem zvq (t:Rat×Nat) (q:Nat): -(((t.1.num.natAbs:Nat):Rat)+3)<=((flT t q:Int):Rat)-t.1*((rtF t.2 q:Nat):Rat)/\((flT t q:Int):Rat)-t.1*((rtF t.2 q:Nat):Rat)<=((t.1.num.natAbs:Nat):Rat)+3:=by
 obtain⟨c,r⟩:=t;have hd:0<c.den:=c.den_pos;have nd:=zrr c;obtain⟨h1,h2⟩:=zvp c.num.natAbs r q;have h3:c.num.natAbs*c.num.natAbs*r*10^(2*q)=trN (c,r) q:=rfl;rw[h3] at h1 h2;have b5:(0:Rat)<=((c.num.natAbs:Nat):Rat):=by exact_mod_cast zR _
 show-_<=((floT c (isq (trN (c,r) q)) (trN (c,r) q):Int):Rat)-c*((rtF r q:Nat):Rat)/\((floT c (isq (trN (c,r) q)) (trN (c,r) q):Int):Rat)-c*((rtF r q:Nat):Rat)<=_;unfold floT;have a1:isq (trN (c,r) q)/c.den*c.den<=isq (trN (c,r) q):=Nat.div_mul_le_self _ _;have a2:isq (trN (c,r) q)<(isq (trN (c,r) q)/c.den+1)*c.den:=by
  have:=Nat.lt_div_mul_add hd (a:=isq (trN (c,r) q));rw[Nat.add_mul,Nat.one_mul];exact this
 by_cases hn:c.num<0
 ·rw[if_pos hn]
  have e: -c*(c.den:Rat)=((c.num.natAbs:Nat):Rat):=by
   have e1:((c.num.natAbs:Nat):Int)= -c.num:=by omega
   have e2:((c.num.natAbs:Nat):Rat)=((-c.num:Int):Rat):=by rw[<-e1];rfl
   rw[e2,Rat.intCast_neg,nd];grind
  have k:=ztd (c:= -c) hd e h1 h2 a1 a2;generalize isq (trN (c,r) q)/c.den=z at*
  have h01:∃ε:Nat,ε<=1/\(if isq (trN (c,r) q)*isq (trN (c,r) q)=trN (c,r) q/\isq (trN (c,r) q)%c.den=0 then 0 else 1)=ε:=by split;exact⟨0,by omega,rfl⟩;exact⟨1,by omega,rfl⟩
  obtain⟨ε,he,hε⟩:=h01;rw[hε,Rat.intCast_neg,Rat.intCast_natCast,Rat.natCast_add];have he1:(ε:Rat)<=1:=by exact_mod_cast he
  have he0:(0:Rat)<=(ε:Rat):=by exact_mod_cast zR ε
  generalize (ε:Rat)=E at*
  constructor<;>grind
 ·rw[if_neg hn]
  have e:c*(c.den:Rat)=((c.num.natAbs:Nat):Rat):=by
   have e1:((c.num.natAbs:Nat):Int)=c.num:=by omega
   have e2:((c.num.natAbs:Nat):Rat)=((c.num:Int):Rat):=by rw[<-e1];rfl
   rw[e2,nd]
  have k:=ztd hd e h1 h2 a1 a2;rw[Rat.intCast_natCast];constructor<;>grind
theorem zpl (t:Rat×Nat):Bd λq=>((flT t q:Int):Rat)-t.1*((rtF t.2 q:Nat):Rat):=⟨_,zvq t⟩
def vZ (l:List (Rat×Nat)) (q:Nat):Rat:=((valZ l q:Int):Rat)
theorem zfu (q:Nat):vZ [] q=0:=rfl
theorem zfb (t:Rat×Nat) (l:List (Rat×Nat)) (q:Nat):vZ (t::l) q=((flT t q:Int):Rat)+vZ l q:=by
 show(((flT t q+valZ l q:Int)):Rat)=_;rw[Rat.intCast_add];rfl
theorem z5s (l m:List (Rat×Nat)) (q:Nat):vZ (l++m) q=vZ l q+vZ m q:=by
 unfold vZ;rw[zrt,Rat.intCast_add]
theorem z8q {r s:Nat} (hr:0<r) (hs:0<s) (h:z5c (r:Rat) (s:Rat)=true):Bd λq=>((rtF r q:Nat):Rat)-rt ((r:Rat)/(s:Rat))*((rtF s q:Nat):Rat):=by
 have hr':(0:Rat)<(r:Rat):=by exact_mod_cast hr
 have hs':(0:Rat)<(s:Rat):=by exact_mod_cast hs
 have e:=zxd (div_pos hr' hs') h;have hk:=yeg ((r:Rat)/(s:Rat));generalize rt ((r:Rat)/(s:Rat))=k at*
 have hd:0<k.den:=k.den_pos;have nd:=zrr k;have hn:0<=k.num:=Rat.num_nonneg.2 hk;have e2:((k.num.natAbs:Nat):Rat)=k*(k.den:Rat):=by
  rw[<-nd];have:((k.num.natAbs:Nat):Int)=k.num:=Int.natAbs_of_nonneg hn;exact_mod_cast congrArg (Int.cast (R:=Rat)) this
 have hb:k.den*k.den*r=k.num.natAbs*k.num.natAbs*s:=by
  have:(k.den:Rat)*(k.den:Rat)*(r:Rat)=((k.num.natAbs:Nat):Rat)*((k.num.natAbs:Nat):Rat)*(s:Rat):=by
   rw[e2];have e3:k*k*(s:Rat)=(r:Rat):=by rw[e];grind
   rw[<-e3];grind
  exact_mod_cast this
 refine⟨1+((k.num.natAbs:Nat):Rat),λq=>?_⟩;dsimp only;obtain⟨h1,h2⟩:=zvo hb q;have hd1:(1:Rat)<=(k.den:Rat):=by exact_mod_cast hd
 have b1:((k.num.natAbs:Nat):Rat)*((rtF s q:Nat):Rat)<=(k.den:Rat)*((rtF r q:Nat):Rat)+(k.den:Rat):=by exact_mod_cast h1
 have b2:(k.den:Rat)*((rtF r q:Nat):Rat)<=((k.num.natAbs:Nat):Rat)*((rtF s q:Nat):Rat)+((k.num.natAbs:Nat):Rat):=by exact_mod_cast h2
 have b3:(0:Rat)<=((k.num.natAbs:Nat):Rat):=by exact_mod_cast zR _
 generalize ((rtF r q:Nat):Rat)=x at*
 generalize ((rtF s q:Nat):Rat)=y at*
 generalize ((k.num.natAbs:Nat):Rat)=m at*
 generalize (k.den:Rat)=d at*
 constructor
 ·have:=zn1 (x:= -(x-k*y+1)) (m:=0) hd1 (by decide) (by rw[e2] at b1;grind)
  grind
 ·have:=zn1 (x:=x-k*y) hd1 b3 (by rw[e2] at b2⊢;grind)
  grind
theorem ycy {c t:Rat×Nat} (hc:0<c.2) (ht:0<t.2) (h:z5c (t.2:Rat) (c.2:Rat)=true):Bd λq=>((flT (plG c t) q:Int):Rat)-(((flT c q:Int):Rat)+((flT t q:Int):Rat)):=by
 have hc':(0:Rat)<(c.2:Rat):=by exact_mod_cast hc
 have ht':(0:Rat)<(t.2:Rat):=by exact_mod_cast ht
 unfold plG;split
 ·refine((zpl (t.1+c.1*rt ((c.2:Rat)/(t.2:Rat)),t.2)).add (((zpl c).add (zpl t)).neg.add ((z8q hc ht (zu5 ht' hc' h)).smul c.1).neg)).congr λq=>?_
  dsimp only;grind
 ·refine((zpl (c.1+t.1*rt ((t.2:Rat)/(c.2:Rat)),c.2)).add (((zpl c).add (zpl t)).neg.add ((z8q ht hc h).smul t.1).neg)).congr λq=>?_
  dsimp only;grind
theorem z8r {t:Rat×Nat} (ht:(0:Rat)<(t.2:Rat)):∀{l:List (Rat×Nat)},PosR l->Bd λq=>vZ (gaG l t) q-(vZ l q+((flT t q:Int):Rat))
 |[],_=>Bd.zero.congr λq=>by show vZ [t] q-_=0;rw[zfb,zfu];grind
 |c::l,h=>by
  have hc:=h c (yD ..);unfold gaG;split
  ·rename_i k
   exact(ycy (by exact_mod_cast hc) (by exact_mod_cast ht) k).congr λq=>by rw[zfb,zfb];grind
  ·exact(z8r ht λd hd=>h d (List.mem_cons_of_mem _ hd)).congr λq=>by rw[zfb,zfb];grind
theorem z8u:∀{T A:List (Rat×Nat)},PosR A->PosR T->Bd λq=>vZ (T.foldl gaG A) q-(vZ A q+vZ T q)
 |[],A,_,_=>Bd.zero.congr λq=>by rw[List.foldl_nil,zfu];grind
 |t::T,A,hA,hT=>by
  have ht:=hT t (yD ..);have hA':PosR (gaG A t):=λc hc=>by
   rcases z44 hc with⟨d,hd,e⟩|e
   ·rw[<-e];exact hA d hd
   ·rw[<-e];exact ht
  rw[List.foldl_cons];exact((z8u hA' λc hc=>hT c (List.mem_cons_of_mem _ hc)).add (z8r ht hA)).congr λq=>by rw[zfb];grind
theorem ycz (r q:Nat):flT (0,r) q=0:=by
 unfold flT floT trN;simp[isq];rfl
theorem z2e (q:Nat):∀l:List (Rat×Nat),vZ (l.filter λc=>!decide (c.1=0)) q=vZ l q
 |[]=>rfl
 |t::l=>by
  rw[List.filter_cons];by_cases h:t.1=0
  ·rw[if_neg (by simp[h]),z2e q l,zfb]
   have:flT t q=0:=by
    have:=ycz t.2 q;rw[<-h] at this;exact this
   rw[this];grind
  ·rw[if_pos (by simp[h]),zfb,zfb,z2e q l]
theorem yah (q:Nat) (t:Rat×Nat):∀l:List (Rat×Nat),vZ (insS t l) q=((flT t q:Int):Rat)+vZ l q
 |[]=>zfb t [] q
 |c::l=>by
  unfold insS;split
  ·exact zfb t (c::l) q
  ·rw[zfb,zfb,yah q t l];grind
theorem yai (q:Nat):∀l:List (Rat×Nat),vZ (srtS l) q=vZ l q
 |[]=>rfl
 |t::l=>by rw[show srtS (t::l)=insS t (srtS l) from rfl,yah,yai q l,zfb]
theorem yc0 {T:List (Rat×Nat)} (hT:PosR T):Bd λq=>vZ (mkG T) q-vZ T q:=
 (z8u (A:=[]) (λ_ h=>by cases h) hT).congr λq=>by
   unfold mkG keG;rw[yai,z2e,zfu];grind
theorem z5t (c:Rat):∀l:List (Rat×Nat),Bd λq=>vZ (sclL l c) q-c*vZ l q
 |[]=>Bd.zero.congr λq=>by rw[zfu];show vZ [] q-_=0;rw[zfu];grind
 |t::l=>by
  refine((z5t c l).add ((zpl (t.1*c,t.2)).add ((zpl t).smul c).neg)).congr λq=>?_;rw[zfb,show sclL (t::l) c=(t.1*c,t.2)::sclL l c from rfl,zfb];grind
theorem zze {t:Rat×Nat} (hne:t.1≠0) (p q:Nat):flT t p*(10^q:Nat)<=(flT t q+1)*(10^p:Nat):=by
 have h1:=(zvk t hne p q).1;have h2:=(zvk t hne q q).2;have hP:(0:Int)<((10^p:Nat):Int):=by exact_mod_cast yS (by simp)
 have hQ:(0:Int)<((10^q:Nat):Int):=by exact_mod_cast yS (by simp)
 generalize ((10^p:Nat):Int)=P at*
 generalize ((10^q:Nat):Int)=Q at*
 generalize flT t p=a at*
 generalize flT t q=b at*
 generalize flT (ngT t) q=g at*
 rw[<-Int.add_mul] at h2;have h3:0<b+1+(g+1):=by
  rcases(show 0<b+1+(g+1)\/b+1+(g+1)<=0 by omega) with k|k
  ·exact k
  ·have:=Int.mul_le_mul_of_nonneg_right k (Int.le_of_lt hQ)
   omega
 have h4:=Int.mul_le_mul_of_nonneg_right (show-(b+1)<=g by omega) (Int.le_of_lt hP);rw[Int.neg_mul] at h4;omega
theorem zle (p q:Nat):∀l:List (Rat×Nat),(∀t∈l,t.1≠0)->valZ l p*(10^q:Nat)<=(valZ l q+l.length)*(10^p:Nat)
 |[],_=>by show(0:Int)*_<=(0+((0:Nat):Int))*_;simp
 |t::l,h=>by
  have h1:=zze (h t (yD ..)) p q;have h2:=zle p q l λc hc=>h c (List.mem_cons_of_mem _ hc);show(flT t p+valZ l p)*_<=(flT t q+valZ l q+((l.length+1:Nat):Int))*_;generalize ((10^p:Nat):Int)=P at*
  generalize ((10^q:Nat):Int)=Q at*
  have e:(flT t q+valZ l q+((l.length+1:Nat):Int))*P=(flT t q+1)*P+(valZ l q+(l.length:Int))*P:=by
   rw[<-Int.add_mul];congr 1;omega
  rw[e,Int.add_mul];omega
theorem yc1 (C:Rat):∃q:Nat,C<((10^q:Nat):Rat):=by
 refine⟨C.num.natAbs,?_⟩;have h1:C.num.natAbs<10^C.num.natAbs:=Nat.lt_pow_self (by omega);have h2:((C.num.natAbs:Nat):Rat)<((10^C.num.natAbs:Nat):Rat):=by exact_mod_cast h1
 have nd:=zrr C;have hd:(1:Rat)<=(C.den:Rat):=by exact_mod_cast C.den_pos
 have h3:((C.num:Int):Rat)<=((C.num.natAbs:Nat):Rat):=by
  have:C.num<=((C.num.natAbs:Nat):Int):=by omega
  exact_mod_cast this
 have h4:(0:Rat)<=((C.num.natAbs:Nat):Rat):=by exact_mod_cast zR _
 have:=zn1 hd h4 (x:=C) (by rw[<-nd];exact h3);grind
end
section
open Go.RowKit Go.Shelf Lib Str Limb
attribute [local go_sem] Oper.semAt_some
section
variable {w W W':zA} {a0 a1 a2 b0 b1 b2 o0 o1 o2:List UInt8} {Y:Nat}
theorem zah {W:zA} {A:Nat} {x y z:Value} {t:TypeId} (h:W.heap[A]? =some (.cells #[x,y,z] t (0,0))):W.cell? ⟨A,0,none⟩=some x/\W.cell? ⟨A,1,none⟩=some y/\W.cell? ⟨A,2,none⟩=some z/\W.frozen? ⟨A,0,none⟩=false/\W.frozen? ⟨A,1,none⟩=false/\W.frozen? ⟨A,2,none⟩=false:=
 ⟨by rw[zJ h];rfl,by rw[zJ h];rfl,by rw[zJ h];rfl,Go.Joins.unfrozen_of_block h 0,Go.Joins.unfrozen_of_block h 1,Go.Joins.unfrozen_of_block h 2⟩
end
section
variable {n X0 Y0:Nat} {z:Array Value} {c:Nat->Array Value} {t:TypeId} {w W W':zA} {q:Nat->Nat} {f:Nat->Bool}
end
section
variable {w W W':zA} {x0 x1 x2 y0 y1 y2 o0 o1 o2:List UInt8} {Y1 Y2:Nat}
end
end
section
open Go.RowKit Go.Shelf Lib Str Limb
end
section
open Go.RowKit Go.Shelf Lib Str Limb Geo
attribute [local go_sem] Oper.semAt_some
section
variable {w W W':zA} {a b c a' b' c':List UInt8} {d d':Value}
end
end
section
open Go.RowKit Go.Shelf Lib Str Limb
attribute [local go_sem] Oper.semAt_some
def h12 (X Y Z:Nat->List UInt8) (D:Nat->Value):Array Value:= #[St (X 0),St (Y 0),St (Z 0),D 0,St (X 1),St (Y 1),St (Z 1),D 1,St (X 2),St (Y 2),St (Z 2),D 2]
section
variable {w W W':zA} {ha hb hc X X':Array Value} {T:Nat} {D:Option Nat}
end
section
variable {w W:zA} {hb hc:Array Value} {T:Nat} {D:Option Nat}
end
section
variable {w W W':zA} {ha hb hc X V:Array Value} {T D O:Nat} {o0 o1 o2:Value}
end
section
variable {w W W':zA} {X Y Z cx cy cz:Nat->List UInt8} {Dv:Nat->Value} {T B k:Nat}
end
end
section
open Go.RowKit Go.Shelf Lib Str Limb
theorem yc2 (v1 v2:Value) (l:List (Rat×Nat)) (h:SdOk l) (w:zA) (hw:Hw w) (g1:SdL v1 l w) (g2:SdL v2 [] w):
 zC zF 52 #[v1,v2] w λe w'=>∃v,e=.returned (.tuple #[v,.int .i64 0])/\Below w.heap.size w w'/\SdL v l w':=by
 have:=z6n v1 v2 l [] h SdOk.nil (by simpa using h.len) w hw.d hw.p g1 g2;rw[show l++sclL [] (-1)=l by simp[sclL],z5n h] at this;exact this.mono λe w' k=>k.ok λc hc=>(h.trm c hc).sc
end
section
open Go.RowKit Go.Shelf Lib Str Limb Geo
attribute [local go_sem] Oper.semAt_some
theorem ybz (q:Rat):∃h0:0<(⟨(numS q).toArray⟩:ByteArray).size,(((((⟨(numS q).toArray⟩:ByteArray)[0]'h0).toNat:Int)==45)=decide (q<0)):=by
 have hne:numS q≠[]:=ycu q;obtain⟨s1,s2,s3,s4⟩:=zco (numS q) hne _ rfl;have h0:0<(⟨(numS q).toArray⟩:ByteArray).size:=by
  show 0<(numS q).toArray.size;have:=List.length_pos_iff.2 hne;simpa using this
 refine⟨h0,?_⟩;rw[s4 h0];have hs:(q<0)↔q.num<0:=by
  constructor
  ·intro h
   refine Classical.byContradiction λhn=>?_;have:=Rat.num_nonneg.1 (show 0<=q.num by omega);grind
  ·intro h
   refine Classical.byContradiction λhn=>?_;have:=Rat.num_nonneg.2 (show 0<=q by grind);omega
 rw[decide_eq_decide.2 hs];unfold numS;rcases zbg q.num with⟨hx,e⟩|⟨hx,e⟩
 ·obtain⟨c,r,hd,hc1,hc2⟩:=Str.dec_head q.num.natAbs
  rw[decide_eq_false (by omega),beq_eq_false_iff_ne];simp only[e,hd,List.cons_append,List.head_cons];omega
 ·rw[decide_eq_true (by omega)]
  simp only[e,List.cons_append,List.head_cons];rfl
theorem zvs (l:List (Rat×Nat)): -2<sgnL l/\sgnL l<2:=by
 unfold sgnL;split
 ·omega
 ·rcases zg3 l.length (λk=>valZ l (plN k)) with⟨h,_⟩|⟨h,_⟩|h<;>rw[h]<;>omega
end
section
open Go.RowKit Go.Shelf Lib Str Limb
section
variable {A B C:Nat->Rat} {D:Nat->List (Rat×Nat)}
end
section
variable {X Y Z D:List (Rat×Nat)} (hX:PosR X) (hY:PosR Y) (hZ:PosR Z) (hD:PosR D)
include hX hY
end
def dfL (l m:List (Rat×Nat)):List (Rat×Nat):=mkG (l++sclL m (-1))
theorem zmg (x:Rat):0<=x*x:=by
 rcases Rat.le_total (a:=0) (b:=x) with h|h
 ·exact Rat.mul_nonneg h h
 ·have:=Rat.mul_nonneg (show(0:Rat)<= -x by grind) (show(0:Rat)<= -x by grind)
  grind
theorem z8v {l m:List (Rat×Nat)} (hl:PosR l) (hm:PosR m):PosR (l++sclL m (-1)):=ybx hl (yby hm (-1))
theorem yaj (x:Rat):PosR (rs x):=λt ht=>by
 unfold rs at ht;split at ht
 ·cases ht
 ·obtain rfl:=List.mem_singleton.1 ht
  show(0:Rat)<((1:Nat):Rat);decide
theorem yc4 {N d s z j s':Nat} (hd:0<d) (h2:N<(s+1)*(s+1)) (hz:s/d=z) (hj:2*((z+1)*d)*d<=10^j) (h3:s'*s'<=N*(10^j*10^j)):s'/d+2<=(z+1)*10^j:=by
 have a2:s+1<=(z+1)*d:=by
  have:=Nat.lt_div_mul_add hd (a:=s);rw[hz] at this;rw[Nat.add_mul,Nat.one_mul];omega
 have hA:N+1<=(z+1)*d*((z+1)*d):=zS h2 (Nat.mul_le_mul a2 a2);generalize hAe:(z+1)*d=A at*
 generalize 10^j=T at*
 have hA1:d<=A:=by rw[<-hAe,Nat.add_mul,Nat.one_mul];omega
 have hT:1<=T:=by
  have:0<2*A*d:=Nat.mul_pos (Nat.mul_pos (by omega) (by omega)) hd;omega
 have hAT:d<=A*T:=zO hA1 (Nat.le_mul_of_pos_right _ hT);have h4:s'<A*T-d:=by
  refine zx7 ?_;have h5:(N+1)*(T*T)<=A*A*(T*T):=Nat.mul_le_mul_right _ hA;have h6:2*A*d*T<=T*T:=Nat.mul_le_mul_right _ hj;have h7:(A*T-d)*(A*T-d)+2*A*d*T=A*A*(T*T)+d*d:=by
   have e:A*T=(A*T-d)+d:=by omega
   generalize A*T-d=x at*
   have e1:A*A*(T*T)=(A*T)*(A*T):=by ac_rfl
   have e2:2*A*d*T=2*(A*T)*d:=by ac_rfl
   rw[e1,e2,e];simp only[Nat.mul_add,Nat.add_mul,Nat.mul_assoc];have:x*d=d*x:=Nat.mul_comm _ _;omega
  have h8:0<d*d:=Nat.mul_pos hd hd;rw[Nat.add_mul,Nat.one_mul] at h5;omega
 have h5:s'/d*d<=s':=Nat.div_mul_le_self _ _;have h6:(s'/d+1)*d<A*T:=by rw[Nat.add_mul,Nat.one_mul];omega
 have h7:A*T=(z+1)*T*d:=by rw[<-hAe];ac_rfl
 rw[h7] at h6;have:=Nat.lt_of_mul_lt_mul_right h6;omega
theorem yc5 {N d j s' c:Nat} (hd:0<d) (hN:c*d*(c*d)<N) (hj:4*(c*d)*d+4*(d*d)<=10^j) (h3:N*(10^j*10^j)<(s'+1)*(s'+1)):c*10^j+2<=s'/d:=by
 generalize hB:c*d=B at*
 generalize 10^j=T at*
 have h4:B*T+2*d<s'+1:=by
  refine zx7 ?_;have h5:(B*B+1)*(T*T)<=N*(T*T):=Nat.mul_le_mul_right _ hN;have h6:(4*B*d+4*(d*d))*T<=T*T:=Nat.mul_le_mul_right _ hj;have hT:1<=T:=by
   have:0<d*d:=Nat.mul_pos hd hd;omega
  have h7:4*(d*d)<=4*(d*d)*T:=Nat.le_mul_of_pos_right _ hT;have e1:(B*T+2*d)*(B*T+2*d)=B*B*(T*T)+4*B*d*T+4*(d*d):=by
   have a1:B*T*(B*T)=B*B*(T*T):=by ac_rfl
   have a2:B*T*(2*d)=2*(B*d*T):=by ac_rfl
   have a3:2*d*(B*T)=2*(B*d*T):=by ac_rfl
   have a4:2*d*(2*d)=4*(d*d):=by
    rw[show 2*d*(2*d)=(2*2)*(d*d) by ac_rfl]
   have a5:4*B*d*T=4*(B*d*T):=by ac_rfl
   simp only[Nat.mul_add,Nat.add_mul];rw[a1,a2,a3,a4,a5];omega
  rw[e1];rw[Nat.add_mul,Nat.one_mul] at h5;rw[Nat.add_mul] at h6;omega
 refine(Nat.le_div_iff_mul_le hd).2 ?_;have:(c*T+2)*d=B*T+2*d:=by rw[<-hB,Nat.add_mul];congr 1;ac_rfl
 omega
theorem ydv {t:Rat×Nat} (hne:t.1≠0) (hr:0<t.2) (p:Nat):∃j,flT t (p+j)+2<=(flT t p+1)*(10^j:Nat):=by
 have hd:0<t.1.den:=t.1.den_pos;have hT:∀j,trN t (p+j)=trN t p*(10^j*10^j):=λj=>by
  unfold trN;rw[show 2*(p+j)=2*p+(j+j) by omega,Nat.pow_add,Nat.pow_add];simp only[Nat.mul_assoc]
 have hN0:0<trN t p:=by
  unfold trN;have:0<t.1.num.natAbs:=Int.natAbs_pos.2 λe=>hne (Rat.num_eq_zero.1 e);exact Nat.mul_pos (Nat.mul_pos (Nat.mul_pos this this) hr) (yS (by simp))
 obtain⟨s1,s2⟩:=zv0 (trN t p);have big:∀n:Nat,n<=10^n:=λn=>zT (Nat.lt_pow_self (by omega));by_cases hn:t.1.num<0
 ·-- negative
  obtain⟨c,hc,hcN⟩:∃c:Nat,flT t p+1= -(c:Int)/\c*t.1.den*(c*t.1.den)<trN t p:=by
   unfold flT floT;rw[if_pos hn];generalize isq (trN t p)=s at*
   have b1:=Nat.div_mul_le_self s t.1.den;by_cases h:s*s=trN t p/\s%t.1.den=0
   ·rw[if_pos h]
    have e:s/t.1.den*t.1.den=s:=Nat.div_mul_cancel (Nat.dvd_of_mod_eq_zero h.2);have hs:0<s:=yS λk=>by rw[k] at h;omega
    have hz:0<s/t.1.den:=yS λk=>by rw[k] at e;omega
    refine⟨s/t.1.den-1,by omega,?_⟩;have:(s/t.1.den-1)*t.1.den<s:=by
     rw[Nat.sub_mul,Nat.one_mul,e];omega
    rw[<-h.1];exact Nat.mul_self_lt_mul_self_iff.2 this
   ·rw[if_neg h]
    refine⟨s/t.1.den,by omega,?_⟩;rcases Nat.lt_or_ge (s/t.1.den*t.1.den) s with k|k
    ·exact zS (Nat.mul_self_lt_mul_self_iff.2 k) s1
    ·have e:s/t.1.den*t.1.den=s:=by omega
     rw[e];have hm:s%t.1.den=0:=by
      have:=Nat.div_add_mod s t.1.den;rw[Nat.mul_comm] at this;omega
     have:s*s≠trN t p:=λq=>h ⟨q,hm⟩;omega
  refine⟨4*(c*t.1.den)*t.1.den+4*(t.1.den*t.1.den),?_⟩;generalize hj:4*(c*t.1.den)*t.1.den+4*(t.1.den*t.1.den)=j;have hj2:=big j;obtain⟨r1,r2⟩:=zv0 (trN t (p+j));have g:=yc5 hd hcN (by rw[hj];exact hj2) (by rw[<-hT];exact r2);rw[hc];unfold flT floT;rw[if_pos hn];generalize isq (trN t (p+j))/t.1.den=z at*
  have e: -(c:Int)*((10^j:Nat):Int)= -((c*10^j:Nat):Int):=by rw[Int.neg_mul,Int.natCast_mul]
  rw[e];split<;>omega
 ·refine⟨2*((isq (trN t p)/t.1.den+1)*t.1.den)*t.1.den,?_⟩
  generalize hj:2*((isq (trN t p)/t.1.den+1)*t.1.den)*t.1.den=j;have hj2:=big j;obtain⟨r1,r2⟩:=zv0 (trN t (p+j));have g:=yc4 hd s2 rfl (by rw[hj];exact hj2) (by rw[<-hT];exact r1);unfold flT floT;rw[if_neg hn,if_neg hn];have e:(((isq (trN t p)/t.1.den:Nat):Int)+1)*((10^j:Nat):Int)=(((isq (trN t p)/t.1.den+1)*10^j:Nat):Int):=by
   rw[Int.natCast_mul,Int.natCast_add];rfl
  rw[e];omega
theorem yb0 {l:List (Rat×Nat)} (hl:l≠[]) (h:∀t∈l,t.1≠0) (hp:PosR l) {p:Nat} (hn:valZ l p+l.length<=0):∃P,∀q,valZ l q*(10^P:Nat)<= -((10^q:Nat):Int):=by
 obtain⟨t,m,rfl⟩:∃t m,l=t::m:=by
  cases l with
  |nil=>exact(hl rfl).elim
  |cons t m=>exact⟨t,m,rfl⟩
 have hr:0<t.2:=by have:=hp t (yD ..);exact_mod_cast this
 obtain⟨j,hj⟩:=ydv (h t (yD ..)) hr p;refine⟨p+j,λq=>?_⟩;have h1:=zze (h t (yD ..)) (p+j) q;have h1':=zze (h t (yD ..)) q (p+j);have h2:=zle q p m λc hc=>h c (List.mem_cons_of_mem _ hc);have hv:valZ (t::m) p=flT t p+valZ m p:=rfl;have hv':valZ (t::m) q=flT t q+valZ m q:=rfl;rw[hv] at hn;rw[hv'];have hlen:((t::m).length:Int)=(m.length:Int)+1:=by simp
 rw[hlen] at hn;have eP:((10^(p+j):Nat):Int)=((10^p:Nat):Int)*((10^j:Nat):Int):=by rw[Nat.pow_add,Int.natCast_mul]
 have P0:(0:Int)<((10^p:Nat):Int):=by exact_mod_cast yS (by simp)
 have J0:(0:Int)<((10^j:Nat):Int):=by exact_mod_cast yS (by simp)
 have Q0:(0:Int)<((10^q:Nat):Int):=by exact_mod_cast yS (by simp)
 rw[eP] at h1'⊢;generalize ((10^p:Nat):Int)=P at*
 generalize ((10^j:Nat):Int)=J at*
 generalize ((10^q:Nat):Int)=Q at*
 generalize flT t p=a at*
 generalize flT t q=b at*
 generalize flT t (p+j)=g at*
 generalize valZ m p=u at*
 generalize valZ m q=v at*
 generalize (m.length:Int)=n at*
 have k1:(g+1)*Q<=((a+1)*J-1)*Q:=Int.mul_le_mul_of_nonneg_right (by omega) (Int.le_of_lt Q0);have k2:=Int.mul_le_mul_of_nonneg_right h2 (Int.le_of_lt J0);have k3:((a+1)+(u+n))*(J*Q)<=0:=Int.mul_nonpos_of_nonpos_of_nonneg (by omega) (Int.le_of_lt (Int.mul_pos J0 Q0));have e1:(b+v)*(P*J)=b*(P*J)+v*P*J:=by rw[Int.add_mul,Int.mul_assoc v]
 have e2:((a+1)*J-1)*Q=(a+1)*(J*Q)-Q:=by rw[Int.sub_mul,Int.one_mul,Int.mul_assoc]
 have e3:(u+n)*Q*J=(u+n)*(J*Q):=by rw[Int.mul_assoc,Int.mul_comm Q J]
 rw[Int.add_mul] at k3;rw[e1];rw[e2] at k1;rw[e3] at k2;omega
theorem yb1 {l:List (Rat×Nat)} (h:∀t∈l,t.1≠0) {p:Nat} (hp:0<valZ l p) (q:Nat):((10^q:Nat):Rat)<=(vZ l q+(l.length:Rat))*((10^p:Nat):Rat):=by
 have h1:=zle p q l h;have Q0:(0:Int)<=((10^q:Nat):Int):=Int.natCast_nonneg _;have a:=Int.mul_le_mul_of_nonneg_right (show 1<=valZ l p by omega) Q0;rw[Int.one_mul] at a;have b:((10^q:Nat):Int)<=(valZ l q+(l.length:Int))*((10^p:Nat):Int):=by omega
 have c:((((10^q:Nat):Int)):Rat)<=(((valZ l q+(l.length:Int))*((10^p:Nat):Int):Int):Rat):=by exact_mod_cast b
 rw[Rat.intCast_mul,Rat.intCast_add] at c;exact c
def tn (q:Nat):Rat:=((10^q:Nat):Rat)
theorem zp3 (q:Nat):0<tn q:=by unfold tn;exact_mod_cast yS (by simp)
theorem ydw (q:Nat):1<=tn q:=by unfold tn;exact_mod_cast yS (show 10^q≠0 by simp)
theorem ydx (q:Nat):tn (2*q)=tn q*tn q:=by
 unfold tn;rw[show 2*q=q+q by omega,Nat.pow_add,Rat.natCast_mul]
theorem yc6 {p q:Nat} (h:p<=q):tn p<=tn q:=by
 unfold tn;exact_mod_cast yF (by omega) h
theorem yak (C:Rat):∃p,∀q,p<=q->C<tn q:=by
 obtain⟨p,h⟩:=yc1 C;exact⟨p,λq hq=>Std.lt_of_lt_of_le h (yc6 hq)⟩
def Up (f:Nat->Rat):Prop:=∃e K:Rat,∃p:Nat,0<e/\∀q,p<=q->e*(tn q*tn q)-K*tn q<=f q
theorem Up.big {f:Nat->Rat} (h:Up f) (C:Rat):∃q,C<f q:=by
 obtain⟨e,K,p,he,hf⟩:=h;obtain⟨B,hB,hC⟩:∃B:Rat,0<=B/\C<=B:=by
  rcases(show 0<=C\/C<=0 by grind) with c|c
  ·exact⟨C,c,by grind⟩
  ·exact⟨0,by grind,c⟩
 obtain⟨p1,h1⟩:=yak ((K+B+1)/e);refine⟨p+p1,?_⟩;have g1:=h1 (p+p1) (by omega);have g3:=hf (p+p1) (by omega);have g4:=ydw (p+p1);generalize tn (p+p1)=T at*
 have k1:K+B+1<e*T:=by
  have:=Rat.mul_lt_mul_of_pos_left g1 he;rwa [show e*((K+B+1)/e)=K+B+1 by grind] at this
 have k2:=Rat.mul_le_mul_of_nonneg_right (Rat.le_of_lt k1) (show(0:Rat)<=T by grind);have:=Rat.mul_le_mul_of_nonneg_left g4 (show 0<=B+1 by grind);grind
theorem yal {l:List (Rat×Nat)} (h:∀t∈l,t.1≠0) (hp:PosR l) (hl:l≠[]) (e:sgeL l=0):(sgnL l=1\/sgnL l= -1)/\∃ε C:Rat,0<ε/\0<=C/\∀q,ε*tn q-C<=(sgnL l:Rat)*vZ l q:=by
 have s1:sgnL l=sgnP l.length λk=>valZ l (plN k):=if_neg hl;have n1:sgnL l≠0:=λz=>by
  rw[show sgeL l=errP (sgnL l) from if_neg hl,z] at e;cases e
 rcases zg3 l.length (λk=>valZ l (plN k)) with⟨a,k,hk⟩|⟨a,k,hk⟩|a
 ·rw[<-s1] at a
  rw[a];refine⟨.inl rfl,1/tn (plN k),(l.length:Rat),?_,by exact_mod_cast zR _,λq=>?_⟩
  ·rw[Rat.div_def,Rat.one_mul];exact Rat.inv_pos.2 (zp3 _)
  ·have g:tn q<=(vZ l q+(l.length:Rat))*tn (plN k):=yb1 h hk q
   have hP:=zp3 (plN k);have e1:((1:Int):Rat)=1:=rfl;rw[e1];generalize tn (plN k)=P at*
   have hi:0<1/P:=by rw[Rat.div_def,Rat.one_mul];exact Rat.inv_pos.2 hP
   have:=Rat.mul_le_mul_of_nonneg_right g (Rat.le_of_lt hi);have e2:(vZ l q+(l.length:Rat))*P*(1/P)=vZ l q+(l.length:Rat):=by grind
   grind
 ·rw[<-s1] at a
  rw[a];obtain⟨P,hP⟩:=yb0 hl h hp hk;refine⟨.inr rfl,1/tn P,0,?_,by grind,λq=>?_⟩
  ·rw[Rat.div_def,Rat.one_mul];exact Rat.inv_pos.2 (zp3 _)
  ·have g:vZ l q*tn P<= -tn q:=by
    have:=hP q;have h2:(((valZ l q*((10^P:Nat):Int):Int)):Rat)<=((-((10^q:Nat):Int):Int):Rat):=by exact_mod_cast this
    rw[Rat.intCast_mul,Rat.intCast_neg] at h2;exact h2
   have hP:=zp3 P;have e1:((-1:Int):Rat)= -1:=rfl;rw[e1];generalize tn P=T at*
   have hi:0<1/T:=by rw[Rat.div_def,Rat.one_mul];exact Rat.inv_pos.2 hP
   have:=Rat.mul_le_mul_of_nonneg_right g (Rat.le_of_lt hi);have e2:vZ l q*T*(1/T)=vZ l q:=by grind
   grind
 ·rw[<-s1] at a
  exact absurd a n1
end
end Go.Proofs.YtnjiiafnneillaaGreatDoor
