/- kingpostref02.Div of short numbers; kingpostref04.long, compare; kingpostref03: size, sign, check, times, quotient, native, square. -/
import Derived.Test.YtgeapfaiacoajaaGreatDoorY12
set_option maxRecDepth 100000
set_option maxHeartbeats 8000000
open Go renaming World → zA, Calls → zC
open Go.Lib renaming decDigits → zD, itoa → zE
open Go.Proofs.Tryz renaming prog → zF
open Go.World renaming alloc_heap_new → zG, size_alloc → zH
open Go.IntWalk renaming i64_in → zI
open Go.Joins renaming cell_of_block → zJ, block_setCell → zK
open Go.RowKit renaming intOf → zL
open Go.RowKit.Below renaming refl → zM
open Nat renaming le_refl → zN, le_trans → zO, pos_of_ne_zero → yS
open List renaming mem_cons_self → yD
namespace Go.Proofs.YtgeapfaiacoajaaGreatDoor
section
open Go.RowKit Go.Shelf Lib Str Limb Geo
attribute [local go_sem] Oper.semAt_some
theorem z3n (p q:Rat) (hp:okN p) (hq:okN q) (np:zm0 p) (nq:zm0 q) (hq0:0<q) (w:zA) (hw:Wd w):
 qJ 273 #[St (numS p),St (numS q)] w (.tuple #[St (numS (p/q)),.int .i64 0]):=by
 have c0:=λW hW=>zx4 p q hp hq W hW;have c1:=λW=>zu7 p hp np W;have c2:=λW=>zu7 q hq nq W;obtain⟨b1,b2⟩:=zx6 np;obtain⟨b3,b4⟩:=zx6 nq;have hn0:0<q.num:=by
  have:=Rat.num_nonneg.2 (Rat.le_of_lt hq0);have:q.num≠0:=λe=>by have:=Rat.num_eq_zero.1 e;grind
  omega
 obtain⟨b,hb⟩:∃b:Nat,q.num=(b:Int):=⟨q.num.toNat,by omega⟩;have hb0:0<b:=by omega
 have pd:=p.den_pos;have qd:=q.den_pos;have m1:(p.num*q.den).natAbs<=999999998000000001:=by
  rw[Int.natAbs_mul,Int.natAbs_natCast];exact Nat.mul_le_mul (show p.num.natAbs<=999999999 by omega) (show q.den<=999999999 by omega)
 have m2:p.den*b<=999999998000000001:=Nat.mul_le_mul (show p.den<=999999999 by omega) (show b<=999999999 by omega);have hv:Rat.divInt (p.num*q.den) ((p.den*b:Nat):Int)=p/q:=by
  have e1:=Rat.num_divInt_den p;have e2:=Rat.num_divInt_den q;rw[Rat.divInt_eq_div] at e1 e2⊢
  conv=>rhs;rw[<-e1,<-e2,hb]
  have d1:((p.den:Int):Rat)≠0:=by have:=p.den_nz;exact_mod_cast this
  have d2:((q.den:Int):Rat)≠0:=by have:=q.den_nz;exact_mod_cast this
  have d3:((b:Int):Rat)≠0:=by have:b≠0:=by omega
                              exact_mod_cast this
  have g1:(((p.num*q.den:Int)):Rat)=(p.num:Rat)*((q.den:Int):Rat):=Rat.intCast_mul ..;have g2:((((p.den*b:Nat):Int)):Rat)=((p.den:Int):Rat)*((b:Int):Rat):=by rw[Int.natCast_mul];exact Rat.intCast_mul ..
  rw[g1,g2];generalize (p.num:Rat)=A at*
  generalize ((p.den:Int):Rat)=B at*
  generalize ((q.den:Int):Rat)=C at*
  generalize ((b:Int):Rat)=D at*
  grind
 have hz:(numS q==[48])=false:=zsf (by grind);have e1:IntKind.i64.wrap (p.num*q.den)=p.num*q.den:=zI _ (by omega);have e2:IntKind.i64.wrap ((p.den:Int)*(b:Int))=((p.den*b:Nat):Int):=by rw[<-Int.natCast_mul];exact zI _ (by omega)
 have CQ:=hid (λW=>z2b (p.num*q.den) (p.den*b) (by omega) (Nat.mul_pos pd hb0) (by omega) W);rw[hv] at CQ;have hb1:¬(b:Int)<0:=by omega
 rw[hb] at c2;have C0:=hid c0;have C1:=hid c1;have C2:=hid c2;have HW:=hid hw;clear c0 c1 c2 np nq hp hq b1 b2 b3 b4 hw hv hn0 hq0 m1;generalize numS p=sp at*
 generalize numS (p/q)=sr at*
 generalize numS q=sq at*
 generalize p.num=a at*
 generalize p.den=c at*
 generalize q.den=d at*
 obtain⟨cb,hcb⟩:=zzX (c*b);rw[<-hcb] at e2 CQ;clear hcb hb m2;go_enter Tryz.func273,Tryz.ntmps273;go_wp2_with fail;refine zzM (C0.out w HW.out) λw0 hb0=>?_;have HB0:=hid hb0;clear hb0;go_wp2_with fail;refine zzM (C1.out w0) λw1 hb1=>?_;have HB1:=qT HB0 hb1;clear hb1;go_wp2_with fail;refine zzM (C2.out w1) λw2 hb2=>?_;have HB2:=qT HB1 hb2;clear hb2;go_wp2_with fail;refine zzM (CQ.out w2) λw3 hb3=>?_;have HB3:=qT HB2 hb3;clear hb3;go_wp2_with fail;go_ret2;exact⟨rfl,HB3.out⟩
theorem zxz (p q:Rat) (hp:okN p) (hq:okN q) (np:zm0 p) (nq:zm0 q) (hq0:0<q) (w:zA) (hw:Wd w):
 qJ 232 #[St (numS p),St (numS q)] w (St (numS (p/q))):=by
 have C:=hid (z3n p q hp hq np nq hq0 w hw);clear hp hq np nq hq0 hw;generalize numS (p/q)=z at*
 generalize numS p=x at*
 generalize numS q=y at*
 go_enter Tryz.func232,Tryz.ntmps232;go_wp2_with fail;refine zzM C.out λw1 hb=>?_;have HB:=hid hb;clear hb;go_wp2_with fail;go_ret;exact⟨rfl,HB.out⟩
theorem z4n (x y:Int) (hx:digs x<=300) (hy:digs y<=300) (hz:digs (x*y)<=300) (w:zA) (hw:Wd w):
 qJ 230 #[St (zE x),St (zE y)] w (St (zE (x*y))):=by
 have C:=hid (z4f x y hx hy hz w hw);clear hx hy hz hw;generalize zE (x*y)=z at*
 generalize zE x=a at*
 generalize zE y=b at*
 go_enter Tryz.func230,Tryz.ntmps230;go_wp2_with fail;refine zzM C.out λw1 hb=>?_;have HB:=hid hb;clear hb;go_wp2_with fail;go_ret;exact⟨rfl,HB.out⟩
theorem zx0 (p q:Rat) (hp:okN p) (hq:okN q) (np:zm0 p) (nq:zm0 q) (w:zA) (hw:Wd w):
 qJ 118 #[St (numS p),St (numS q)] w (.int .i64 (cmpR p q)):=by
 have C:=hid (zzm p q hp hq np nq w hw);clear hp hq np nq hw;generalize cmpR p q=z at*
 generalize numS p=x at*
 generalize numS q=y at*
 go_enter Tryz.func118,Tryz.ntmps118;go_wp2_with fail;refine zzM C.out λw1 hb=>?_;have HB:=hid hb;clear hb;go_wp2_with fail;go_ret;exact⟨rfl,HB.out⟩
theorem zze (z:Int) (hz:digs z<=300) (w:zA):
 qJ 269 #[St (zE z)] w (.int .i64 (digs z:Int)):=by
 have hl:=zqo z;obtain⟨s,hs⟩:=zzX (⟨(zE z).toArray⟩:ByteArray);obtain⟨h0,h1, -⟩:=zvq z s hs;have hsz:s.size=(zE z).length:=by rw[hs];show(zE z).toArray.size=_;simp
 have hne:(s.toList !=[])=true:=by
  rw[bne_iff_ne,ByteArray.toList_eq];intro e;have:=congrArg List.length e;simp at this;have:s.size=0:=by rw[this];rfl
  omega
 have hne0:¬s.toList=[]:=by simpa using hne
 have hie:s.toList.isEmpty=false:=by simpa using hne0
 rw[show St (zE z)=.string s from by rw[hs]];by_cases hn:z<0
 ·rw[if_pos hn] at hl
  have hb:(((s[0]'h0).toNat:Int)==45)=true:=by rw[h1,decide_eq_true hn]
  have hr:IntKind.i64.wrap ((s.size:Int)-1)=(digs z:Int):=by rw[zI _ ⟨by omega,by omega⟩];omega
  clear h1 hl hs hz hn hsz hne;go_enter Tryz.func269,Tryz.ntmps269;go_wp2_with fail;go_ret;exact⟨rfl,zM _ _⟩
 ·rw[if_neg hn] at hl
  have hb:(((s[0]'h0).toNat:Int)==45)=false:=by rw[h1,decide_eq_false hn]
  have hr:(s.size:Int)=(digs z:Int):=by omega
  clear h1 hl hs hz hn hsz hne;go_enter Tryz.func269,Tryz.ntmps269;go_wp2_with fail;go_ret;exact⟨rfl,zM _ _⟩
theorem zvu (n:Nat) (hn:0<n) (w:zA):
 qJ 228 #[St (zD n)] w (.int .i64 1):=by
 obtain⟨s,hs⟩:=zzX (⟨(zD n).toArray⟩:ByteArray);obtain⟨h0,h1⟩:=z3m n s hs;have hz:(s.toList==[48])=false:=by
  rw[hs,ByteArray.toList_eq];exact(z6h n 0 (by omega) [48] zdj).1
 rw[show St (zD n)=.string s from by rw[hs]];clear hs hn;go_enter Tryz.func228,Tryz.ntmps228;go_wp2_with fail;go_ret;exact⟨rfl,zM _ _⟩
theorem zvv (p:Option Addr) (cap n:Nat) (q:Nat->Rat) (hn:n<=5000) (hq:∀i,i<n->okN (q i)/\sz (q i) 90) (w:zA) (HW:Hid (Wd w)) (HP:Hid (RowNums p n q w)):
 qJ 227 #[.slice p n cap] w (.int .i64 0):=by
 have D0:=hid (zM w.heap.size w);have HQ:=hid hq;clear hq;go_enter Tryz.func227,Tryz.ntmps227;go_wp2_with fail;go_loopw [3] (λi wr=>∃(k:Nat),k<=n/\i=.int .i64 (k:Int)/\Hid (qL w wr))
  (λi _=>n-(zL i).toNat)
 case atStart=>exact⟨0,Nat.zero_le _,rfl,D0⟩
 case round=>
  clear D0;obtain⟨k,hk,rfl,hB⟩:=hrel;by_cases hlt:k<n
  ·obtain⟨b,off,rfl,c0⟩:=(HP.out.keep (zac hB.out)) k hlt
   obtain⟨hok,hsz⟩:=HQ.out k hlt;have dd:=zok (k:=90) (by omega) hsz;have hd1:¬(90:Int)<(digs (q k).num:Int):=by have:=dd.1;omega
   have hd2:¬(90:Int)<(digs ((q k).den:Int):Int):=by rw[zd9];have:=dd.2;omega
   have HC:=hid (λW hW=>zft (q k) hok W hW);have HPt:=hid (λW hW=>znm (q k) hok W hW);have HS1:=hid (λW=>zze (q k).num hok.1 W);have HS2:=hid (λW=>zze ((q k).den:Int) (by rw[zd9];exact hok.2) W);rw[Str.zad] at HS2;clear hok hsz dd;generalize numS (q k)=x at*
   generalize zE (q k).num=y at*
   generalize zD (q k).den=z at*
   generalize (digs (q k).num:Int)=g1 at*
   generalize (digs ((q k).den:Int):Int)=g2 at*
   go_wp2_with fail;refine zzM (HC.out wr (HW.out.below hB.out)) λw2 hb2=>?_;have hB2:=hid (hB.out.trans (hb2.mono hB.out.size));have c1:w2.cell? ⟨b,off+k,none⟩=some (St x):=zai hb2 c0;clear hb2 HC c0 hB;go_wp2_with fail;refine zzM (HPt.out w2 (HW.out.below hB2.out)) λw3 hb3=>?_;have hB3:=hid (hB2.out.trans (hb3.mono hB2.out.size));clear hb3 HPt c1 hB2;go_wp2_with fail;refine zzM (HS1.out w3) λw4 hb4=>?_;have hB4:=hid (hB3.out.trans (hb4.mono hB3.out.size));clear hb4 HS1 hB3;go_wp2_with fail;refine zzM (HS2.out w4) λw5 hb5=>?_;have hB5:=hid (hB4.out.trans (hb5.mono hB4.out.size));clear hb5 HS2 hB4;go_wp2_with fail;go_roundw
   case rel=>exact⟨k+1,by omega,by go_num,hB5⟩
   case measure=>simp[zL];omega
  ·go_wp2_with fail
   go_ret;exact⟨rfl,hB.out⟩
theorem z4p {b j:Nat} (h:b=2^j):(b/2=0/\b=1)\/∃i,b/2=2^i/\2*(b/2)=b:=by
 cases j with
 |zero=>left;subst h;decide
 |succ i=>
  right;have:b/2=2^i:=by rw[h,Nat.pow_succ];omega
  exact⟨i,this,by rw[this,h,Nat.pow_succ];omega⟩
theorem z0r (n:Nat) (hn:n<1000000000000000000) (w:zA):
 qJ 271 #[.int .i64 (n:Int)] w (.int .i64 (isq n:Int)):=by
 have D0:=hid (zM w.heap.size w);obtain⟨s,hs⟩:=zzX (isq n);have HS:=hid (show ∀r,r*r<=n->n<(r+1)*(r+1)->r=s from λr h1 h2=>by
  obtain⟨k1,k2⟩:=zv0 n;rw[<-hs] at k1 k2;have a:r<s+1:=Nat.mul_self_lt_mul_self_iff.1 (Nat.lt_of_le_of_lt h1 k2);have b:s<r+1:=Nat.mul_self_lt_mul_self_iff.1 (Nat.lt_of_le_of_lt k1 h2);omega)
 rw[<-hs];clear hs;have HN:=hid hn;clear hn;go_enter Tryz.func271,Tryz.ntmps271;go_wp2_with fail;go_loopw [3,4] (λr b wr=>∃(rn bn:Nat),r=.int .i64 (rn:Int)/\b=.int .i64 (bn:Int)/\Hid (rn*rn<=n)/\Hid (bn=0->n<(rn+1)*(rn+1))/\Hid (0<bn->(∃j,bn=2^j)/\n<(rn+2*bn)*(rn+2*bn))/\Hid (rn+2*bn<=1073741824)/\Hid (qL w wr))
  (λ_ b _=>(zL b).toNat)
 case atStart=>
  refine⟨0,536870912,rfl,rfl,hid (by omega),hid (λh=>by omega),hid (λ_=>⟨⟨29,by decide⟩,?_⟩),hid (by omega),D0⟩;have:=HN.out;omega
 case round=>
  clear D0;obtain⟨rn,bn,rfl,rfl,h1,h2,h3,h4,hB⟩:=hrel;by_cases hb0:0<bn
  ·obtain⟨⟨j,hj⟩,h5⟩:=h3.out hb0
   have hb1:(0:Int)<(bn:Int):=by omega
   have h4':=h4.out;have hw1:IntKind.i64.wrap ((rn:Int)+(bn:Int))=((rn+bn:Nat):Int):=by rw[zI _ ⟨by omega,by omega⟩];omega
   have hmb:(rn+bn)*(rn+bn)<=1073741824*1073741824:=Nat.mul_le_mul (by omega) (by omega);have hw2:IntKind.i64.wrap (((rn+bn:Nat):Int)*((rn+bn:Nat):Int))=(((rn+bn)*(rn+bn):Nat):Int):=by rw[<-Int.natCast_mul];exact zI _ ⟨by omega,by omega⟩
   have hdv:((bn:Int)).tdiv 2=((bn/2:Nat):Int):=by rw[Int.tdiv_eq_ediv_of_nonneg (by omega)];rfl
   have hwd:IntKind.i64.wrap ((bn/2:Nat):Int)=((bn/2:Nat):Int):=zI _ ⟨by omega,by omega⟩;have HJ:=hid (z4p hj);have H5:=hid h5;have HHB:=hid (show bn/2<=bn by omega);clear hj h5 h4' hmb h3;obtain⟨s2,hs2⟩:=zzX ((rn+bn)*(rn+bn));rw[<-hs2] at hw2;have HS2:=hid hs2;obtain⟨sm,hsm⟩:=zzX (rn+bn);rw[<-hsm] at hw1 hw2;have HSM:=hid hsm;obtain⟨bh,hbh⟩:=zzX (bn/2);rw[<-hbh] at hdv hwd;have HBH:=hid hbh;clear hs2 hsm hbh;by_cases hle:s2<=n
   ·have hlI:(s2:Int)<=(n:Int):=by omega
    have HL:=hid hle;clear hle;go_wp2_with fail;go_roundw
    case rel=>
     refine⟨sm,bh,rfl,rfl,hid ?_,hid ?_,hid ?_,hid ?_,hB⟩
     ·rw[HSM.out,<-HS2.out];exact HL.out
     ·intro h
      rcases HJ.out with⟨k1,k2⟩|⟨i,k1,k2⟩
      ·have:=H5.out
       rw[k2] at this;rw[HSM.out,k2];exact this
      ·rw[HBH.out] at h;omega
     ·intro h
      rcases HJ.out with⟨k1,k2⟩|⟨i,k1,k2⟩
      ·rw[HBH.out] at h;omega
      ·refine⟨⟨i,by rw[HBH.out];exact k1⟩,?_⟩
       rw[HBH.out,k2,HSM.out,Nat.add_assoc,<-Nat.two_mul];exact H5.out
     ·have:=h4.out;have:=HSM.out;have:=HBH.out;omega
    case measure=>simp[zL];have:=HBH.out;omega
   ·have hlI:¬(s2:Int)<=(n:Int):=by omega
    have HL:=hid hle;clear hle;go_wp2_with fail;go_roundw
    case rel=>
     refine⟨rn,bh,rfl,rfl,h1,hid ?_,hid ?_,hid ?_,hB⟩
     ·intro h
      have:=HL.out;rw[HS2.out] at this;rcases HJ.out with⟨k1,k2⟩|⟨i,k1,k2⟩
      ·rw[k2] at this;omega
      ·rw[HBH.out] at h;omega
     ·intro h
      have:=HL.out;rw[HS2.out] at this;rcases HJ.out with⟨k1,k2⟩|⟨i,k1,k2⟩
      ·rw[HBH.out] at h;omega
      ·refine⟨⟨i,by rw[HBH.out];exact k1⟩,?_⟩
       rw[HBH.out,k2];omega
     ·have:=h4.out;have:=HBH.out;omega
    case measure=>simp[zL];have:=HBH.out;omega
  ·have hb1:¬(0:Int)<(bn:Int):=by omega
   have HE:=hid (HS.out rn h1.out (h2.out (by omega)));clear h1 h2 h3 h4;go_wp2_with fail;go_ret;exact⟨by rw[HE.out];rfl,hB.out⟩
theorem zvj (n:Nat) (hn:n<10^16) (w:zA) (hw:Wd w):
 qJ 231 #[St (zD n)] w (.tuple #[St (zD (isq n)),.bool (decide (isq n*isq n=n))]):=by
 have hl:(zD n).length<=16:=(zaf n 16 (by omega)).2 hn;have hAT:=λW=>znc (n:Int) (by rw[Str.zad];omega) W;rw[Str.zad] at hAT;have hNT:=λW=>z0r n (by omega) W;have hs1:=(zv0 n).1;have hsn:isq n<=n:=by
  rcases Nat.eq_zero_or_pos (isq n) with e|e
  ·omega
  ·have:=Nat.le_mul_of_pos_left (isq n) e;omega
 have hIT:=λW hW=>zb3 (isq n:Int) (by omega) (by omega) W hW;rw[Str.zad] at hIT;have hws:IntKind.i64.wrap ((isq n:Int)*(isq n:Int))=((isq n*isq n:Nat):Int):=by rw[<-Int.natCast_mul];exact zI _ ⟨by omega,by omega⟩
 have hq:(((isq n*isq n:Nat):Int)==(n:Int))=decide (isq n*isq n=n):=by
  rw[Bool.eq_iff_iff,beq_iff_eq,decide_eq_true_eq];omega
 have hsz:(⟨(zD n).toArray⟩:ByteArray).size<=17:=by show(zD n).toArray.size<=17;simp;omega
 have HAT:=hid hAT;have HNT:=hid hNT;have HIT:=hid hIT;have HW:=hid hw;clear hAT hNT hIT hw hs1 hsn hl hn;obtain⟨s,hs⟩:=zzX (⟨(zD n).toArray⟩:ByteArray);rw[show St (zD n)=.string s by rw[hs]];rw[<-hs] at hsz HAT;have hsI:(s.size:Int)<=17:=by omega
 clear hs hsz;generalize decide (isq n*isq n=n)=bb at*
 obtain⟨q2,hq2⟩:=zzX (isq n*isq n);rw[<-hq2] at hws hq;clear hq2;generalize zD (isq n)=y at*
 generalize isq n=r at*
 go_enter Tryz.func231,Tryz.ntmps231;go_wp2_with fail;refine zzM (HAT.out w) λw1 hb=>?_;have B1:=hid hb;clear hb;go_wp2_with fail;refine zzM (HNT.out w1) λw2 hb=>?_;have B2:=hid (B1.out.trans (hb.mono B1.out.size));clear hb;go_wp2_with fail;refine zzM (HIT.out w2 (HW.out.below B2.out)) λw3 hb=>?_;have B3:=hid (B2.out.trans (hb.mono B2.out.size));clear hb;go_wp2_with fail;go_ret2;exact⟨rfl,B3.out⟩
theorem zvi (q:Rat) (most:Nat) (hm:most<=200) (hok:okN q) (hs:sz q 8) (h8:8<=most) (w:zA) (hw:Wd w):
 qJ 169 #[St (numS q),.int .i64 (most:Int)] w (.bool false):=by
 have hc:=znm q hok w hw;have dd:=zok (k:=8) (by omega) hs;obtain⟨s,hse⟩:=zzX (⟨(zE q.num).toArray⟩:ByteArray);obtain⟨h0,h1,h2⟩:=zvq q.num s hse;have hsz:s.size=(zE q.num).length:=by rw[hse];show(zE q.num).toArray.size=_;simp
 have hl:=zqo q.num;have hd2:¬(most:Int)<((⟨(zD q.den).toArray⟩:ByteArray).size:Int):=by
  have:(⟨(zD q.den).toArray⟩:ByteArray).size=(zD q.den).length:=by show(zD q.den).toArray.size=_;simp
  have:=dd.2;omega
 obtain⟨t,ht⟩:=zzX (⟨(zD q.den).toArray⟩:ByteArray);rw[<-ht] at hd2;rw[show St (zE q.num)=.string s by rw[hse],show St (zD q.den)=.string t by rw[ht]] at hc;have HC:=hid hc;have hs0:(0:Int)<(s.size:Int):=by omega
 clear hc hw ht;generalize numS q=x at*
 by_cases hn:q.num<0
 ·have hb:(((s[0]'h0).toNat:Int)==45)=true:=by rw[h1,decide_eq_true hn]
  have he:=h2 hn;have hd1:¬(most:Int)<((⟨(zD q.num.natAbs).toArray⟩:ByteArray).size:Int):=by
   have:(⟨(zD q.num.natAbs).toArray⟩:ByteArray).size=(zD q.num.natAbs).length:=by show(zD q.num.natAbs).toArray.size=_;simp
   have:=dd.1;unfold digs at this;omega
  generalize (⟨(zD q.num.natAbs).toArray⟩:ByteArray)=u at*
  have hs1:(1:Int)<=(s.size:Int):=by omega
  clear h1 h2 hl hse hsz dd hn;go_enter Tryz.func169,Tryz.ntmps169;go_wp2_with fail;refine zzM HC.out λw1 hb1=>?_;have HB:=hid hb1;clear hb1;go_wp2_with fail;go_ret;exact⟨by show Ending.returned (.bool (decide (most<u.size)||decide (most<t.size)))=_;rw[decide_eq_false (by omega),decide_eq_false (by omega)];rfl,HB.out⟩
 ·have hb:(((s[0]'h0).toNat:Int)==45)=false:=by rw[h1,decide_eq_false hn]
  have hd1:¬(most:Int)<(s.size:Int):=by
   rw[if_neg hn] at hl;have:=dd.1;omega
  clear h1 h2 hl hse hsz dd hn;go_enter Tryz.func169,Tryz.ntmps169;go_wp2_with fail;refine zzM HC.out λw1 hb1=>?_;have HB:=hid hb1;clear hb1;go_wp2_with fail;go_ret;exact⟨by show Ending.returned (.bool (decide (most<s.size)||decide (most<t.size)))=_;rw[decide_eq_false (by omega),decide_eq_false (by omega)];rfl,HB.out⟩
theorem z0s (w:zA):
 zC zF 270 #[] w λe w'=>∃A,e=.returned (.slice (some ⟨A,0,none⟩) 25 25)/\Below w.heap.size w w'/\∀i,i<25->w'.cell? ⟨A,i,none⟩=some (I (prN i)):=by
 go_enter Tryz.func270,Tryz.ntmps270;go_wp21;go_ret;refine⟨_,rfl,(zM _ w).alloc (zN _) _,λi hi=>?_⟩;rw[zJ (zG w _)]
 match i,hi with
 |0,_|1,_|2,_|3,_|4,_|5,_|6,_|7,_|8,_|9,_|10,_|11,_|12,_|13,_|14,_|15,_|16,_|17,_|18,_|19,_|20,_|21,_|22,_|23,_|24,_=>rfl
 |k+25,h=>exact absurd h (by omega)
structure SaS (N C L:Nat):Prop where
 out:zro prL (1,N)=(C,L)
theorem zyb (N C L:Nat) (HCL:SaS N C L) (hN0:0<N) (hN:N<10^16) (w:zA) (hw:Wd w):
 qJ 229 #[St (zD N)] w (.tuple #[St (zD L),St (zD C)]):=by
 have hl:(zD N).length<=16:=(zaf N 16 (by omega)).2 hN;have hAT:=λW=>znc (N:Int) (by rw[Str.zad];omega) W;rw[Str.zad] at hAT;have hsz:(⟨(zD N).toArray⟩:ByteArray).size<=17:=by show(zD N).toArray.size<=17;simp;omega
 have HAT:=hid hAT;have HW:=hid hw;have HN9:=hid (show N<10000000000000000 from hN);have HP:=hid (λW=>z0s W);clear hAT hw hl hN;obtain⟨s,hs⟩:=zzX (⟨(zD N).toArray⟩:ByteArray);rw[show St (zD N)=.string s by rw[hs]];rw[<-hs] at hsz HAT;have hsI:(s.size:Int)<=17:=by omega
 clear hs hsz;go_enter Tryz.func229,Tryz.ntmps229;go_wp21;refine(HP.out w).mono ?_;rintro e w0 ⟨A,rfl,hb,hc⟩;have B0:=hid hb;have HC0:=hid hc;clear hb hc HP;go_wp21;refine zzM (HAT.out w0) λw1 hb=>?_;have B1:=hid (B0.out.trans (hb.mono B0.out.size));have HC1:=hid (λi (hi:i<25)=>zai hb (HC0.out i hi));clear hb B0 HC0 HAT;go_wp21;go_loopw [5,7,8] (λlf c i wr=>∃k cN lN:Nat,k<=25/\c=I cN/\lf=I lN/\i=.int .i64 (k:Int)/\Hid (cN*cN*lN=N)/\Hid (NrmS N k (cN,lN))/\Hid (qL w wr)/\Hid (∀i,i<25->wr.cell? ⟨A,i,none⟩=some (I (prN i))))
  (λ_ _ i _=>25-(zL i).toNat)
 case atStart=>exact⟨0,1,N,by omega,rfl,rfl,rfl,hid (by omega),hid (NrmS.start N),B1,HC1⟩
 case round=>
  clear B1 HC1;obtain⟨k,cN,lN,hk,rfl,rfl,rfl,hE,hD,hB,hC⟩:=hrel;by_cases hlt:k<25
  ·obtain⟨g1,g2⟩:=zw4 k hlt
   have hcell:=hid (hC.out k hlt);obtain⟨p,hp⟩:=zzX (prN k);rw[<-hp] at g1 g2 hcell;have HPk:=hid hp;clear hp;have hwp:IntKind.i64.wrap ((p:Int)*(p:Int))=((p*p:Nat):Int):=by
    have:p*p<=97*97:=Nat.mul_le_mul g2 g2;rw[<-Int.natCast_mul];exact zI _ (by omega)
   have hpp:4<=p*p:=Nat.mul_le_mul g1 g1;obtain⟨pp,hpp2⟩:=zzX (p*p);rw[<-hpp2] at hwp hpp;have HPP:=hid hpp2;clear hpp2;have hkI:(k:Int)<25:=by omega
   go_wp21;go_loopw [5,7] (λlf c wr=>∃cN lN:Nat,c=I cN/\lf=I lN/\Hid (cN*cN*lN=N)/\Hid (NrmS N (k+1) (zkk p (cN,lN)))/\Hid (qL w wr)/\Hid (∀i,i<25->wr.cell? ⟨A,i,none⟩=some (I (prN i))))
    (λlf _ _=>(zL lf).toNat)
   case atStart=>exact⟨cN,lN,rfl,rfl,hE,hid (hD.out.enter hlt HPk.out),hB,hC⟩
   case round=>
    clear hE hD hB hcell hC;obtain⟨cN,lN,rfl,rfl,hE,hD,hB,hC⟩:=hrel;have hcell:=hC.out k hlt;rw[<-HPk.out] at hcell;have hl0:0<lN:=yS (λh=>by have:=hE.out;rw[h] at this;simp at this;omega);have hpp0:¬pp=0:=by omega
    have hle:lN<=N:=by rw[<-hE.out];exact Nat.le_mul_of_pos_left _ (yS (λh=>by have:=hE.out;rw[h] at this;simp at this;omega))
    have hmod:(lN:Int).tmod (pp:Int)=((lN%pp:Nat):Int):=rfl;have hdiv:(lN:Int).tdiv (pp:Int)=((lN/pp:Nat):Int):=rfl;have hwz:∀z:Nat,z<=lN->IntKind.i64.wrap (z:Int)=(z:Int):=λz hz=>zI _ (by have:=HN9.out;omega);have hwm:=hwz _ (Nat.mod_le lN pp);have hwd:=hwz _ (Nat.div_le_self lN pp);have hwq:IntKind.i64.wrap ((lN:Int)/(pp:Int))=((lN/pp:Nat):Int):=by rw[<-Int.natCast_ediv];exact hwd
    have HWQ:=hid hwq;clear hwz hwq;by_cases hd:pp∣lN
    ·have hm0:(((lN%pp:Nat):Int)==0)=true:=by rw[Nat.mod_eq_zero_of_dvd hd];rfl
     have hnext:=z1s (c:=cN) (l:=lN) (p:=p) (by rw[<-HPP.out];exact hd);rw[<-HPP.out,hE.out] at hnext;have hl1:0<lN/pp:=yS (λh=>by rw[h] at hnext;simp at hnext;omega);have hcp:cN*p<=N:=by
      rw[<-hnext];exact zO (Nat.le_mul_self _) (Nat.le_mul_of_pos_right _ hl1)
     have hwc:IntKind.i64.wrap ((cN:Int)*(p:Int))=((cN*p:Nat):Int):=by rw[<-Int.natCast_mul];exact zI _ (by have:=HN9.out;omega)
     have hlt2:lN/pp<lN:=Nat.div_lt_self hl0 (by omega);have hkeep:NrmS N (k+1) (zkk p (cN*p,lN/pp)):=by rw[HPP.out];exact hD.out.yes g1 hl0 (by rw[<-HPP.out];exact hd)
     have HNX:=hid hnext;have HK:=hid hkeep;have HL:=hid hlt2;clear hnext hkeep hd hlt2 hl1 hcp;go_wp2
     (refine wp_region_quiet_lit (by kernel_rfl) (by kernel_rfl) (WQ.out ?_);(repeat(first|(apply WQ.read (by rfl);(focus(rintro W ⟨n,rfl⟩;go_simp;try with_reducible rfl));try simp only[zzQ])|(apply WQ.skip (by rfl);try simp only[zzQ])));refine WQ.nil ?_;rintro _ ⟨nq,rfl⟩)
     go_wp2
     (refine wp_region_quiet_lit (by kernel_rfl) (by kernel_rfl) (WQ.out ?_);(repeat(first|(apply WQ.read (by rfl);(focus(rintro W ⟨n,rfl⟩;go_simp;try with_reducible rfl));try simp only[zzQ])|(apply WQ.skip (by rfl);try simp only[zzQ])));refine WQ.nil ?_;rintro _ ⟨nr,rfl⟩)
     go_wp2;go_roundw
     case rel=>exact⟨cN*p,lN/pp,by first|rfl|simp,by first|(rw[HWQ.out])|rfl|simp,HNX,HK,hid (zao (zao hB.out _) _),hC⟩
     case measure=>
      first|(rw[HWQ.out];show(lN/pp:Nat)<lN;exact HL.out)|(simp[zL];exact HL.out)
    ·have hm0:(((lN%pp:Nat):Int)==0)=false:=by
      rw[beq_eq_false_iff_ne];intro h;exact hd (Nat.dvd_of_mod_eq_zero (by omega))
     have hkeep:NrmS N (k+1) (cN,lN):=hD.out.no (by rw[<-HPP.out];exact hd);have HK:=hid hkeep;clear hkeep hd;go_wp2
     (refine wp_region_quiet_lit (by kernel_rfl) (by kernel_rfl) (WQ.out ?_);(repeat(first|(apply WQ.read (by rfl);(focus(rintro W ⟨n,rfl⟩;go_simp;try with_reducible rfl));try simp only[zzQ])|(apply WQ.skip (by rfl);try simp only[zzQ])));refine WQ.nil ?_;rintro _ ⟨nq,rfl⟩)
     go_wp2;go_roundw
     case rel=>exact⟨k+1,cN,lN,by omega,rfl,rfl,by go_num,hE,HK,hid (zao hB.out _),hC⟩
     case measure=>simp[zL];omega
  ·have hk25:k=25:=by omega
   have hc0:0<cN:=yS (λh=>by have:=hE.out;rw[h] at this;simp at this;omega);have hl0:0<lN:=yS (λh=>by have:=hE.out;rw[h] at this;simp at this;omega);have hle:lN<=N:=by rw[<-hE.out];exact Nat.le_mul_of_pos_left _ (Nat.mul_pos hc0 hc0)
   have hce:cN<=N:=by rw[<-hE.out];exact zO (Nat.le_mul_self _) (Nat.le_mul_of_pos_right _ hl0)
   have HNC:=hid (show(C,L)=(cN,lN) by
    have hd:=hD.out;rw[hk25] at hd;exact HCL.out.symm.trans hd.done)
   have HI1:=hid (λW hW=>zb3 (lN:Int) (by omega) (by have:=HN9.out;omega) W hW);have HI2:=hid (λW hW=>zb3 (cN:Int) (by omega) (by have:=HN9.out;omega) W hW);rw[Str.zad] at HI1 HI2;clear hc0 hl0 hle hce hD HCL hE hC hk25;go_wp21;refine zzM (HI1.out wr (HW.out.below hB.out)) λw2 hb=>?_;have B2:=hid (hB.out.trans (hb.mono hB.out.size));clear hb;go_wp21;refine zzM (HI2.out w2 (HW.out.below B2.out)) λw3 hb=>?_;have B3:=hid (B2.out.trans (hb.mono B2.out.size));clear hb;obtain⟨e1,e2⟩:=Prod.mk.inj HNC.out;subst e1;subst e2;clear HNC;go_wp21;go_ret2;exact⟨rfl,B3.out⟩
theorem z5m (A:Nat) (t:TypeId) (a:Rat) (W:zA) (h:W.heap[A]? =some (.cells #[St (numS a)] t (0,0))):RowNums (some ⟨A,0,none⟩) 1 (λ_=>a) W:=λi hi=>by
 refine⟨_,_,rfl,?_⟩;rw[zJ h]
 match i,hi with
 |0,_=>rfl
theorem z5n (A:Nat) (t:TypeId) (a b:Rat) (W:zA) (h:W.heap[A]? =some (.cells #[St (numS a),St (numS b)] t (0,0))):RowNums (some ⟨A,0,none⟩) 2 (λi=>if i=0 then a else b) W:=λi hi=>by
 refine⟨_,_,rfl,?_⟩;rw[zJ h]
 match i,hi with
 |0,_|1,_=>rfl
theorem zzo (n c l k q m:List UInt8) (is:Bool)
 (CK:Hid (∀(W:zA) (A:Nat),Wd W->W.heap[A]? =some (.cells #[St n] 22 (0,0))->qJ 227 #[.slice (some ⟨A,0,none⟩) 1 1] W (.int .i64 0)))
 (SG:Hid (∀W:zA,qJ 228 #[St n] W (.int .i64 1)))
 (PT:Hid (qK 170 #[St n] (.tuple #[St n,.string ⟨#[49]⟩,.int .i64 0])))
 (T1:Hid (qK 230 #[St n,.string ⟨#[49]⟩] (St n)))
 (RD:Hid (qK 229 #[St n] (.tuple #[St l,St c])))
 (SQ:Hid (qK 231 #[St l] (.tuple #[St k,.bool is])))
 (T2:Hid (is=true->qK 230 #[St c,St k] (St m)))
 (QU:Hid (qK 232 #[St (if is=true then m else c),.string ⟨#[49]⟩] (St q)))
 (w:zA) (HW:Hid (Wd w)):
 qJ 171 #[St n] w (.tuple #[St q,(if is=true then .string ⟨#[49]⟩ else St l),.int .i64 0]):=by
 obtain⟨v1,hv⟩:=zzX (w.alloc (.cells #[St n] 22));have a1:qL w v1:=by rw[hv];exact(zM _ w).alloc (zN _) _
 have A1:v1.heap[w.heap.size]? =some (.cells #[St n] 22 (0,0)):=by rw[hv];exact zG w _
 have HCK:=hid (CK.out v1 w.heap.size (HW.out.below a1) A1);have B0:=hid a1;have HV:=hid hv.symm;clear hv a1 A1 CK;go_enter Tryz.func171,Tryz.ntmps171;go_wp21;have h9:=HV.out;rw[show w.alloc (.cells #[.string ⟨n.toArray⟩] 22)=v1 from h9];clear h9 HV;refine zzM HCK.out λw1 hb=>?_;have B1:=hid (B0.out.trans (hb.mono B0.out.size));clear hb HCK B0;go_wp21;refine zzM (SG.out w1) λw2 hb=>?_;have B2:=hid (B1.out.trans (hb.mono B1.out.size));clear hb B1;go_wp21;refine zzM (SG.out w2) λw3 hb=>?_;have B3:=hid (B2.out.trans (hb.mono B2.out.size));clear hb B2 SG;go_wp21;refine zzM (PT.out w3 (HW.out.below B3.out)) λw4 hb=>?_;have B4:=hid (B3.out.trans (hb.mono B3.out.size));clear hb B3 PT;go_wp21;refine zzM (T1.out w4 (HW.out.below B4.out)) λw5 hb=>?_;have B5:=hid (B4.out.trans (hb.mono B4.out.size));clear hb B4 T1;go_wp21;refine zzM (RD.out w5 (HW.out.below B5.out)) λw6 hb=>?_;have B6:=hid (B5.out.trans (hb.mono B5.out.size));clear hb B5 RD;go_wp21;refine zzM (SQ.out w6 (HW.out.below B6.out)) λw7 hb=>?_;have B7:=hid (B6.out.trans (hb.mono B6.out.size));clear hb B6 SQ;cases is
 ·have HQ:=hid (λW hW=>QU.out W hW)
  rw[if_neg (by simp)] at HQ;clear QU T2;go_wp21;refine zzM (HQ.out w7 (HW.out.below B7.out)) λw8 hb=>?_;have B8:=hid (B7.out.trans (hb.mono B7.out.size));clear hb;go_wp21;go_ret3;exact⟨rfl,B8.out⟩
 ·have HQ:=hid (λW hW=>QU.out W hW)
  have HT:=hid (T2.out rfl);rw[if_pos rfl] at HQ;clear QU T2;go_wp21;refine zzM (HT.out w7 (HW.out.below B7.out)) λw8 hb=>?_;have B8:=hid (B7.out.trans (hb.mono B7.out.size));clear hb;go_wp21;refine zzM (HQ.out w8 (HW.out.below B8.out)) λw9 hb=>?_;have B9:=hid (B8.out.trans (hb.mono B8.out.size));clear hb;go_wp21;go_ret3;exact⟨rfl,B9.out⟩
theorem zzf {p:Nat}:∀(f:Nat) (x:Nat×Nat),(zlu p f x).1*(zlu p f x).1*(zlu p f x).2=x.1*x.1*x.2
 |0,_=>rfl
 |f+1,x=>by
  unfold zlu;split
  ·rw[zzf f]
   exact z1s (by assumption)
  ·rfl
theorem zvw:∀(l:List Nat) (x:Nat×Nat),(zro l x).1*(zro l x).1*(zro l x).2=x.1*x.1*x.2
 |[],_=>rfl
 |p::l,x=>by
  show(zro l (zkk p x)).1*(zro l (zkk p x)).1*(zro l (zkk p x)).2=_;rw[zvw l];exact zzf _ _
theorem zlj {n:Nat} (h:n<10^9):okN (n:Rat)/\zm0 (n:Rat)/\digs ((n:Int))<=9:=by
 have hl:(zD n).length<=9:=(zaf n 9 (by omega)).2 h;have d1:(zD 1).length=1:=by rw[zae (by omega)];rfl
 refine⟨⟨?_,?_⟩,⟨?_,?_⟩,?_⟩
 ·show digs ((n:Int))<=300;rw[zd9];omega
 ·show(zD 1).length<=300;omega
 ·show digs ((n:Int))<=9;rw[zd9];exact hl
 ·show(zD 1).length<=9;omega
 ·rw[zd9];exact hl
theorem z0x (n:Nat) (hn0:0<n) (hn:n<10^8) (w:zA) (hw:Wd w):
 qJ 171 #[St (zD n)] w (.tuple #[St (zD (zn7 n).1),St (zD (zn7 n).2),.int .i64 0]):=by
 obtain⟨C,L,hCL⟩:∃C L,zro prL (1,n)=(C,L):=by
  generalize zro prL (1,n)=x;exact⟨x.1,x.2,rfl⟩
 have d1:zD 1=[49]:=by rw[zae (by omega)];rfl
 obtain⟨o1,o2,o3⟩:=zlj (show n<10^9 by omega);have hinv:C*C*L=n:=by
  have:=zvw prL (1,n);rw[hCL] at this;simpa using this
 have hC0:0<C:=yS (λh=>by rw[h] at hinv;simp at hinv;omega);have hL0:0<L:=yS (λh=>by rw[h] at hinv;simp at hinv;omega);have hLn:L<=n:=by rw[<-hinv];exact Nat.le_mul_of_pos_left _ (Nat.mul_pos hC0 hC0)
 have hCn:C<=n:=by rw[<-hinv];exact zO (Nat.le_mul_self _) (Nat.le_mul_of_pos_right _ hL0)
 have hsq:=(zv0 L).1;have hsL:isq L<=L:=by
  rcases Nat.eq_zero_or_pos (isq L) with e|e
  ·omega
  ·have:=Nat.le_mul_of_pos_left (isq L) e;omega
 have hm:isq L*isq L=L->C*isq L<=n:=λh=>by
  have h2:(C*isq L)*(C*isq L)=n:=by
   rw[<-hinv]
   conv=>rhs;rw[<-h]
   generalize isq L=s;ac_rfl
  rw[<-h2];exact Nat.le_mul_self _
 have one:okN (1:Rat)/\zm0 (1:Rat):=by
  have:=zlj (n:=1) (by omega);exact⟨this.1,this.2.1⟩
 have quo:∀k:Nat,k<=n->∀W,Wd W->qJ 232 #[St (zD k),.string ⟨#[49]⟩] W (St (zD k)):=λk hk W hW=>by
  obtain⟨p1,p2, -⟩:=zlj (show k<10^9 by omega);have:=zxz (k:Rat) 1 p1 one.1 p2 one.2 (by decide) W hW;rw[show(k:Rat)/1=(k:Rat) by grind,zhe,zfc] at this;exact this
 have mul:∀a b:Nat,a<=n->b<=n->a*b<=n->∀W,Wd W->qJ 230 #[St (zD a),St (zD b)] W (St (zD (a*b))):=λa b ha hb hab W hW=>by
  have hd:∀x:Nat,x<=n->digs (x:Int)<=300:=λx hx=>by
   have:=(zlj (show x<10^9 by omega)).2.2;omega
  have:=z4n (a:Int) (b:Int) (hd a ha) (hd b hb) (by rw[<-Int.natCast_mul];exact hd _ hab) W hW;rw[<-Int.natCast_mul,Str.zad,Str.zad,Str.zad] at this;exact this
 have main:=zzo (zD n) (zD C) (zD L) (zD (isq L)) (zD (zn7 n).1) (zD (C*isq L)) (decide (isq L*isq L=L))
  (hid λW A hW hA=>zvv (some ⟨A,0,none⟩) 1 1 (λ_=>(n:Rat)) (by omega) (λi _=>⟨o1,(zrg (k:=9) (by omega) (by rw[<-zd9];exact o3)).mono (by omega)⟩) W (hid hW) (hid (z5m A _ (n:Rat) W (by rw[zhe];exact hA))))
  (hid λW=>zvu n hn0 W)
  (hid λW hW=>by
    have:=znm (n:Rat) o1 W hW;rw[zhe,show(n:Rat).num=(n:Int) from rfl,show(n:Rat).den=1 from rfl,Str.zad,d1] at this;exact this)
  (hid λW hW=>by
    have:=mul n 1 (zN _) hn0 (by omega) W hW;rw[Nat.mul_one,d1] at this;exact this)
  (hid λW hW=>zyb n C L ⟨hCL⟩ hn0 (by omega) W hW)
  (hid λW hW=>zvj L (by omega) W hW)
  (hid λh W hW=>mul C (isq L) hCn (by omega) (hm (of_decide_eq_true h)) W hW)
  (hid λW hW=>?_) w (hid hw)
 ·have hnc:zn7 n=if isq L*isq L=L then(C*isq L,1) else(C,L):=by unfold zn7;rw[hCL]
  have e2:(if decide (isq L*isq L=L)=true then Value.string ⟨#[49]⟩ else St (zD L))=St (zD (zn7 n).2):=by
   rw[hnc];by_cases h:isq L*isq L=L
   ·rw[if_pos (decide_eq_true h),if_pos h];show _=St (zD 1);rw[d1]
   ·rw[if_neg (by simpa using h),if_neg h]
  rw[e2] at main;exact main
 ·have hnc:zn7 n=if isq L*isq L=L then(C*isq L,1) else(C,L):=by unfold zn7;rw[hCL]
  rw[hnc];by_cases h:isq L*isq L=L
  ·rw[if_pos (decide_eq_true h),if_pos h];exact quo _ (hm h) W hW
  ·rw[if_neg (by simpa using h),if_neg h];exact quo _ hCn W hW
theorem z0e (a b q n d x y z:List UInt8) (i1 i2:Bool)
 (CK:Hid (∀(W:zA) (A:Nat),Wd W->W.heap[A]? =some (.cells #[St a,St b] 22 (0,0))->qJ 227 #[.slice (some ⟨A,0,none⟩) 2 2] W (.int .i64 0)))
 (S1:Hid (∀W:zA,qJ 228 #[St a] W (.int .i64 1)))
 (S2:Hid (∀W:zA,qJ 228 #[St b] W (.int .i64 1)))
 (Q1:Hid (qK 232 #[St a,St b] (St q)))
 (PT:Hid (qK 170 #[St q] (.tuple #[St n,St d,.int .i64 0])))
 (SN:Hid (qK 231 #[St n] (.tuple #[St x,.bool i1])))
 (SD:Hid (qK 231 #[St d] (.tuple #[St y,.bool i2])))
 (Q2:Hid (qK 232 #[St x,St y] (St z)))
 (w:zA) (HW:Hid (Wd w)):
 zC zF 173 #[St a,St b] w λe w'=>∃k,e=.returned (.tuple #[.string k,.bool (i1&&i2),.int .i64 0])/\Below w.heap.size w w':=by
 obtain⟨v1,hv⟩:=zzX (w.alloc (.cells #[St a,St b] 22));have a1:qL w v1:=by rw[hv];exact(zM _ w).alloc (zN _) _
 have A1:v1.heap[w.heap.size]? =some (.cells #[St a,St b] 22 (0,0)):=by rw[hv];exact zG w _
 have HCK:=hid (CK.out v1 w.heap.size (HW.out.below a1) A1);have B0:=hid a1;have HV:=hid hv.symm;clear hv a1 A1 CK;go_enter Tryz.func173,Tryz.ntmps173;go_wp21;have h9:=HV.out;rw[show w.alloc (.cells #[.string ⟨a.toArray⟩,.string ⟨b.toArray⟩] 22)=v1 from h9];clear h9 HV;refine zzM HCK.out λw1 hb=>?_;have B1:=hid (B0.out.trans (hb.mono B0.out.size));clear hb HCK B0;go_wp21;refine zzM (S1.out w1) λw2 hb=>?_;have B2:=hid (B1.out.trans (hb.mono B1.out.size));clear hb B1 S1;go_wp21;refine zzM (S2.out w2) λw3 hb=>?_;have B3:=hid (B2.out.trans (hb.mono B2.out.size));clear hb B2;go_wp21;refine zzM (S2.out w3) λw4 hb=>?_;have B4:=hid (B3.out.trans (hb.mono B3.out.size));clear hb B3 S2;go_wp21;refine zzM (Q1.out w4 (HW.out.below B4.out)) λw5 hb=>?_;have B5:=hid (B4.out.trans (hb.mono B4.out.size));clear hb B4 Q1;go_wp21;refine zzM (PT.out w5 (HW.out.below B5.out)) λw6 hb=>?_;have B6:=hid (B5.out.trans (hb.mono B5.out.size));clear hb B5 PT;go_wp21;refine zzM (SN.out w6 (HW.out.below B6.out)) λw7 hb=>?_;have B7:=hid (B6.out.trans (hb.mono B6.out.size));clear hb B6 SN;go_wp21;refine zzM (SD.out w7 (HW.out.below B7.out)) λw8 hb=>?_;have B8:=hid (B7.out.trans (hb.mono B7.out.size));clear hb B7 SD;cases i1
 ·clear Q2
  go_wp21;go_ret3;exact⟨_,rfl,B8.out⟩
 ·cases i2
  ·clear Q2
   go_wp21;go_ret3;exact⟨_,rfl,B8.out⟩
  ·go_wp21
   refine zzM (Q2.out w8 (HW.out.below B8.out)) λw9 hb=>?_;have B9:=hid (B8.out.trans (hb.mono B8.out.size));clear hb;go_wp21;go_ret3;exact⟨_,rfl,B9.out⟩
theorem z2g (r s:Nat) (hr0:0<r) (hs0:0<s) (hr:r<10^8) (hs:s<10^8) (w:zA) (hw:Wd w):
 zC zF 173 #[St (zD r),St (zD s)] w λe w'=>∃k,e=.returned (.tuple #[.string k,.bool (z5c (r:Rat) (s:Rat)),.int .i64 0])/\Below w.heap.size w w':=by
 obtain⟨r1,r2,r3⟩:=zlj (show r<10^9 by omega);obtain⟨s1,s2,s3⟩:=zlj (show s<10^9 by omega);have pr:(0:Rat)<(r:Rat):=by exact_mod_cast hr0
 have ps:(0:Rat)<(s:Rat):=by exact_mod_cast hs0
 have sq:sz ((r:Rat)/(s:Rat)) 8:=zvm (by omega) hr hs;have h90:∀x:Nat,x<10^8->sz (x:Rat) 90:=λx hx=>(zrg (k:=8) (by omega) ((zaf x 8 (by omega)).2 hx)).mono (by omega);have okq:okN ((r:Rat)/(s:Rat)):=z6i (by omega) (by omega) sq;have hn:0<=((r:Rat)/(s:Rat)).num:=Rat.num_nonneg.2 (Rat.le_of_lt (div_pos pr ps));have le:∀n:Nat,isq n<=n:=λn=>by
  have h1:=(zv0 n).1;rcases Nat.eq_zero_or_pos (isq n) with e|e
  ·omega
  ·have:=Nat.le_mul_of_pos_left (isq n) e;omega
 have pos:∀n:Nat,0<n->0<isq n:=λn h=>by
  have h2:=(zv0 n).2;rcases Nat.eq_zero_or_pos (isq n) with e|e
  ·rw[e] at h2;omega
  ·exact e
 have a1:=sq.1;have a2:=sq.2;have dp:=((r:Rat)/(s:Rat)).den_pos;obtain⟨n1,n2, -⟩:=zlj (show isq ((r:Rat)/(s:Rat)).num.natAbs<10^9 from Nat.lt_of_le_of_lt (le _) (by omega));obtain⟨d1,d2, -⟩:=zlj (show isq ((r:Rat)/(s:Rat)).den<10^9 from Nat.lt_of_le_of_lt (le _) (by omega));exact z0e (zD r) (zD s) (numS ((r:Rat)/(s:Rat))) (zD ((r:Rat)/(s:Rat)).num.natAbs) (zD ((r:Rat)/(s:Rat)).den) (zD (isq ((r:Rat)/(s:Rat)).num.natAbs)) (zD (isq ((r:Rat)/(s:Rat)).den)) _ _ _
  (hid λW A hW hA=>zvv (some ⟨A,0,none⟩) 2 2 (λi=>if i=0 then(r:Rat) else(s:Rat)) (by omega) (λi _=>by
    by_cases e:i=0
    ·rw[if_pos e];exact⟨r1,h90 r hr⟩
    ·rw[if_neg e];exact⟨s1,h90 s hs⟩) W (hid hW) (hid (z5n A _ (r:Rat) (s:Rat) W (by rw[zhe,zhe];exact hA))))
  (hid λW=>zvu r hr0 W) (hid λW=>zvu s hs0 W)
  (hid λW hW=>by
    have:=zxz (r:Rat) (s:Rat) r1 s1 r2 s2 ps W hW;rw[zhe,zhe] at this;exact this)
  (hid λW hW=>by
    have:=znm _ okq W hW;rw[show zE ((r:Rat)/(s:Rat)).num=zD ((r:Rat)/(s:Rat)).num.natAbs by rw[<-Str.zad];congr 1;omega] at this;exact this)
  (hid λW hW=>zvj _ (by omega) W hW) (hid λW hW=>zvj _ (by omega) W hW)
  (hid λW hW=>by
    have:=zxz ((isq ((r:Rat)/(s:Rat)).num.natAbs:Nat):Rat) ((isq ((r:Rat)/(s:Rat)).den:Nat):Rat) n1 d1 n2 d2 (by have:=pos _ dp;exact_mod_cast this) W hW;rw[zhe,zhe] at this;exact this) w (hid hw)
theorem z2h (a b:List UInt8) (r:Bool)
 (H2:Hid ((a==b)=false->(a==[49])=false->(b==[49])=false->∀W:zA,Wd W->zC zF 173 #[St a,St b] W λe w'=>∃k,e=.returned (.tuple #[.string k,.bool r,.int .i64 0])/\Below W.heap.size W w'))
 (w:zA) (HW:Hid (Wd w)):
 qJ 119 #[St a,St b] w (.bool (if(a==b)=true then true else if(a==[49])=true\/(b==[49])=true then false else r)):=by
 obtain⟨s,hs⟩:=zzX (⟨a.toArray⟩:ByteArray);obtain⟨t,ht⟩:=zzX (⟨b.toArray⟩:ByteArray);have es:s.toList=a:=by rw[hs,ByteArray.toList_eq]
 have et:t.toList=b:=by rw[ht,ByteArray.toList_eq]
 rw[show St a=.string s by rw[hs],show St b=.string t by rw[ht]] at*
 rw[<-es,<-et] at H2;rw[<-es,<-et];clear es et hs ht;cases h0:(s.toList==t.toList)
 ·rw[if_neg (by simp)]
  cases h1:(s.toList==[49])
  ·cases h2:(t.toList==[49])
   ·have HR:=hid (H2.out h0 h1 h2 w HW.out)
    rw[if_neg (by simp)];clear H2;go_enter Tryz.func119,Tryz.ntmps119;go_wp21;refine HR.out.mono ?_;rintro e w1 ⟨k,rfl,hb⟩;have HB:=hid hb;clear hb;go_wp21;go_ret;exact⟨rfl,HB.out⟩
   ·rw[if_pos (by simp)]
    clear H2;go_enter Tryz.func119,Tryz.ntmps119;go_wp21;go_ret;exact⟨rfl,zM _ _⟩
  ·rw[if_pos (by simp)]
   clear H2;go_enter Tryz.func119,Tryz.ntmps119;go_wp21;go_ret;exact⟨rfl,zM _ _⟩
 ·rw[if_pos (by simp)]
  clear H2;go_enter Tryz.func119,Tryz.ntmps119;go_wp21;go_ret;exact⟨rfl,zM _ _⟩
theorem zx7 {r:Nat} (h:NrmR r) (h1:r≠1):z5c (r:Rat) ((1:Nat):Rat)=false:=by
 have hnc:=h.nc;have e:¬isq r*isq r=r:=λe=>by
  obtain⟨C,L,hCL⟩:∃C L,zro prL (1,r)=(C,L):=by
   generalize zro prL (1,r)=x;exact⟨x.1,x.2,rfl⟩
  unfold zn7 at hnc;rw[hCL] at hnc;dsimp only at hnc;split at hnc
  ·have:=(Prod.mk.inj hnc).2
   exact h1 this.symm
  ·rename_i hne
   have:=(Prod.mk.inj hnc).2;rw[this] at hne;exact hne e
 unfold z5c;rw[Bool.and_eq_false_iff];left;have hd:(r:Rat)/((1:Nat):Rat)=(r:Rat):=by rw[show((1:Nat):Rat)=1 by decide+kernel];grind
 rw[hd,show(r:Rat).num.natAbs=r from rfl];exact decide_eq_false e
theorem zw7 {a b:Nat}:(zD a==zD b)=decide (a=b):=by
 rw[Bool.eq_iff_iff,beq_iff_eq,decide_eq_true_eq];constructor
 ·intro h
  rw[<-Str.zad,<-Str.zad] at h;have:=zdo h;omega
 ·rintro rfl;rfl
theorem z4q (r s:Nat) (hr:NrmR r) (hs:NrmR s) (r8:r<10^8) (s8:s<10^8):∃t:Bool,(t=false->z5c (s:Rat) (r:Rat)=false)/\∀W:zA,Wd W->
 qJ 119 #[St (zD r),St (zD s)] W (.bool t):=by
 have d1:[49]=zD 1:=by rw[zae (by omega)];rfl
 have pr:(0:Rat)<(r:Rat):=by have:=hr.pos;exact_mod_cast this
 have ps:(0:Rat)<(s:Rat):=by have:=hs.pos;exact_mod_cast this
 have p1:(0:Rat)<((1:Nat):Rat):=by decide+kernel
 refine⟨_,λh=>?_,λW hW=>z2h _ _ (z5c (r:Rat) (s:Rat)) (hid λ_ _ _ V hV=>z2g r s hr.pos hs.pos r8 s8 V hV) W (hid hW)⟩;rw[d1,zw7,zw7,zw7] at h;simp only[decide_eq_true_eq] at h;split at h
 ·cases h
 ·rename_i h0
  split at h
  ·rename_i h1
   rcases h1 with e|e
   ·subst e;exact zx7 hs (λe=>h0 e.symm)
   ·subst e;exact zu9 pr p1 (zx7 hr h0)
  ·exact zu9 pr ps h
theorem zxa (x y n d k l:List UInt8) (c:Int) (G:Prop)
 (C1:Hid (qK 25 #[St x] (.int .i64 0)))
 (C2:Hid (qK 25 #[St y] (.int .i64 0)))
 (L1:Hid (qK 169 #[St x,.int .i64 60] (.bool false)))
 (L2:Hid (qK 169 #[St y,.int .i64 40] (.bool false)))
 (PT:Hid (qK 170 #[St y] (.tuple #[St n,St d,.int .i64 0])))
 (CM:Hid (qK 118 #[St y,.string ⟨#[48]⟩] (.int .i64 c)))
 (H1:Hid ((x==[48])=false->(d==[49])=true->0<c->(y==[49])=true->G))
 (H2:Hid ((x==[48])=false->(d==[49])=true->0<c->(y==[49])=false->((k==[49])=true->(l==y)=true->G)/\qK 171 #[St y] (.tuple #[St k,St l,.int .i64 0])))
 (w:zA) (HW:Hid (Wd w)):
 zC zF 117 #[.agg #[St x,St y]] w (ErrP w G):=by
 obtain⟨s,hs⟩:=zzX (⟨x.toArray⟩:ByteArray);obtain⟨t,ht⟩:=zzX (⟨y.toArray⟩:ByteArray);obtain⟨dd,hd⟩:=zzX (⟨d.toArray⟩:ByteArray);obtain⟨kk,hk⟩:=zzX (⟨k.toArray⟩:ByteArray);obtain⟨ll,hl⟩:=zzX (⟨l.toArray⟩:ByteArray);have es:s.toList=x:=by rw[hs,ByteArray.toList_eq]
 have et:t.toList=y:=by rw[ht,ByteArray.toList_eq]
 have ed:dd.toList=d:=by rw[hd,ByteArray.toList_eq]
 have ek:kk.toList=k:=by rw[hk,ByteArray.toList_eq]
 have el:ll.toList=l:=by rw[hl,ByteArray.toList_eq]
 rw[show St x=.string s by rw[hs],show St y=.string t by rw[ht],show St d=.string dd by rw[hd],show St k=.string kk by rw[hk],show St l=.string ll by rw[hl]] at*
 rw[<-es,<-et,<-ed] at H1;rw[<-es,<-et,<-ed,<-ek,<-el] at H2;clear es et ed ek el hs ht hd hk hl;obtain⟨W0,hW0⟩:=zzX (w.alloc (.cells #[.string s,.string t] 69));have K0:=hid (show BxT w s t W0 by rw[hW0];exact BxT.start w s t);obtain⟨c0,c1⟩:=K0.out.cx;rw[hW0] at c0 c1;have H9:=hid hW0.symm;clear hW0;go_enter Tryz.func117,Tryz.ntmps117;go_wp21;rw[H9.out];clear c0 c1 H9;refine zzM (C1.out W0 (HW.out.below K0.out.bel)) λw1 hb1=>?_;have K1:=hid (K0.out.next hb1);clear hb1 K0 C1;obtain⟨c0,c1⟩:=K1.out.cx;go_wp21;clear c0 c1;refine zzM (C2.out w1 (HW.out.below K1.out.bel)) λw2 hb2=>?_;have K2:=hid (K1.out.next hb2);clear hb2 K1 C2;obtain⟨c0,c1⟩:=K2.out.cx;cases hx0:(s.toList==[48])
 ·go_wp21
  clear c0 c1;refine zzM (L1.out w2 (HW.out.below K2.out.bel)) λw3 hb3=>?_;have K3:=hid (K2.out.next hb3);clear hb3 K2 L1;obtain⟨c0,c1⟩:=K3.out.cx;go_wp21;clear c0 c1;refine zzM (L2.out w3 (HW.out.below K3.out.bel)) λw4 hb4=>?_;have K4:=hid (K3.out.next hb4);clear hb4 K3 L2;obtain⟨c0,c1⟩:=K4.out.cx;go_wp21;clear c0 c1;refine zzM (PT.out w4 (HW.out.below K4.out.bel)) λw5 hb5=>?_;have K5:=hid (K4.out.next hb5);clear hb5 K4 PT;obtain⟨c0,c1⟩:=K5.out.cx;cases hd1:(dd.toList==[49])
  ·have hdb:(dd.toList !=[49])=true:=by simp[bne,hd1]
   clear H1 H2 CM;go_wp21;go_ret;exact⟨_,rfl,(λh=>by cases h),K5.out.bel⟩
  ·have hdb:(dd.toList !=[49])=false:=by simp[bne,hd1]
   go_wp21;clear c0 c1;refine zzM (CM.out w5 (HW.out.below K5.out.bel)) λw6 hb6=>?_;have K6:=hid (K5.out.next hb6);clear hb6 K5 CM;obtain⟨c0,c1⟩:=K6.out.cx;by_cases hc:0<c
   ·have hcn:¬c<=0:=by omega
    cases hy1:(t.toList==[49])
    ·obtain⟨hG,hN⟩:=H2.out hx0 hd1 hc hy1
     have HG:=hid hG;have HN:=hid hN;clear hG hN H1 H2;go_wp21;clear c0 c1;refine zzM (HN.out w6 (HW.out.below K6.out.bel)) λw7 hb7=>?_;have K7:=hid (K6.out.next hb7);clear hb7 K6 HN;obtain⟨c0,c1⟩:=K7.out.cx;cases hk1:(kk.toList==[49])
     ·have hkb:(kk.toList !=[49])=true:=by simp[bne,hk1]
      go_wp21;go_ret;exact⟨_,rfl,(λh=>by cases h),K7.out.bel⟩
     ·have hkb:(kk.toList !=[49])=false:=by simp[bne,hk1]
      cases hl1:(ll.toList==t.toList)
      ·have hlb:(ll.toList !=t.toList)=true:=by simp[bne,hl1]
       go_wp21;go_ret;exact⟨_,rfl,(λh=>by cases h),K7.out.bel⟩
      ·have hlb:(ll.toList !=t.toList)=false:=by simp[bne,hl1]
       have HGG:=hid (HG.out hk1 hl1);go_wp21;go_ret;exact⟨_,rfl,λ_=>HGG.out,K7.out.bel⟩
    ·have HG:=hid (H1.out hx0 hd1 hc hy1)
     clear H1 H2;go_wp21;go_ret;exact⟨_,rfl,λ_=>HG.out,K6.out.bel⟩
   ·have hcn:c<=0:=by omega
    clear H1 H2;go_wp21;go_ret;exact⟨_,rfl,(λh=>by cases h),K6.out.bel⟩
 ·clear H1 H2 CM PT L1 L2
  go_wp21;go_ret;exact⟨_,rfl,(λh=>by cases h),K2.out.bel⟩
theorem zvy (x y:List UInt8) (hx:shT x) (hy:shT y) (w:zA) (hw:Wd w):
 zC zF 117 #[.agg #[St x,St y]] w (ErrP w (GoE x y)):=by
 obtain⟨lx,c,rfl,hc⟩:=hx;obtain⟨ly,q,rfl,hq⟩:=hy;have sc:=zto (by omega) lx;have sq:=zto (by omega) ly;have d1:zD 1=[49]:=by rw[zae (by omega)];rfl
 have near:∀{p:Rat},sz p 8->zm0 p:=λh=>by
  have:=zok (k:=8) (by omega) h;exact⟨by omega,by omega⟩
 have z0:okN (0:Rat)/\zm0 (0:Rat):=by
  have:=zlj (n:=0) (by omega);exact⟨this.1,this.2.1⟩
 have hnz:(numS c==[48])=false->c≠0:=λh e=>by
  rw[beq_eq_false_iff_ne] at h;exact h (by rw[e];exact zie)
 have inj:∀a b:Nat,zD a=zD b->a=b:=λa b h=>by
  have:=zw7 (a:=a) (b:=b);rw[h,beq_self_eq_true] at this;exact of_decide_eq_true this.symm
 have nat:(zD q.den==[49])=true->0<cmpR q 0->∃n:Nat,numS q=zD n/\0<n/\n<10^8:=λhd hcm=>by
  rw[beq_iff_eq,<-d1] at hd;have hden:=inj _ _ hd;have hqp:0<q:=by have:=zaw q 0;grind
  have hqn:0<=q.num:=Rat.num_nonneg.2 (Rat.le_of_lt hqp);have hq0:q.num≠0:=λe=>by have:=Rat.num_eq_zero.1 e;grind
  refine⟨q.num.natAbs,?_,by omega,sq.1⟩;unfold numS;rw[if_pos hden,List.append_nil,<-Str.zad];congr 1;omega
 by_cases hnat:(zD q.den==[49])=true/\0<cmpR q 0
 ·obtain⟨n,hn,n0,n8⟩:=nat hnat.1 hnat.2
  refine zxa (numS c) (numS q) (zE q.num) (zD q.den) (zD (zn7 n).1) (zD (zn7 n).2) (cmpR q 0) _ (hid λW hW=>zft c hc W hW) (hid λW hW=>zft q hq W hW) (hid λW hW=>zvi c 60 (by omega) hc sc (by omega) W hW) (hid λW hW=>zvi q 40 (by omega) hq sq (by omega) W hW) (hid λW hW=>znm q hq W hW) (hid λW hW=>?_) (hid λh0 _ _ h1=>?_) (hid λh0 _ _ h1=>⟨λhk hl=>?_,λW hW=>?_⟩) w (hid hw)
  ·have:=zx0 q 0 hq z0.1 (near sq) z0.2 W hW
   rw[nm0] at this;exact this
  ·rw[beq_iff_eq] at h1
   exact⟨c,1,rfl,sc,by rw[h1,d1],by omega,hnz h0,sc.mono (by omega),zyl.1⟩
  ·rw[beq_iff_eq,<-d1] at hk
   rw[beq_iff_eq,hn] at hl;exact⟨c,n,rfl,sc,hn,n8,hnz h0,sc.mono (by omega),n0,by have:=(zaf n 8 (by omega)).2 n8;omega,Prod.ext (inj _ _ hk) (inj _ _ hl)⟩
  ·rw[hn];exact z0x n n0 n8 W hW
 ·refine zxa (numS c) (numS q) (zE q.num) (zD q.den) [] [] (cmpR q 0) _ (hid λW hW=>zft c hc W hW) (hid λW hW=>zft q hq W hW) (hid λW hW=>zvi c 60 (by omega) hc sc (by omega) W hW) (hid λW hW=>zvi q 40 (by omega) hq sq (by omega) W hW) (hid λW hW=>znm q hq W hW) (hid λW hW=>?_) (hid λ_ h1 h2 _=>absurd ⟨h1,h2⟩ hnat) (hid λ_ h1 h2 _=>absurd ⟨h1,h2⟩ hnat) w (hid hw)
  have:=zx0 q 0 hq z0.1 (near sq) z0.2 W hW;rw[nm0] at this;exact this
theorem z0y (p:Option Addr) (cap:Nat) (w:zA):zC zF 67 #[.slice p 0 cap] w (ErrP w True):=by
 go_enter Tryz.func67,Tryz.ntmps67;go_wp21;refine wp_loop_rounds 1 ?_;rw[rounds_succ];go_wp21;go_ret;exact⟨_,rfl,λ_=>trivial,zM _ _⟩
theorem z0z (b off cap:Nat) (x0 y0:List UInt8) (G0:Prop)
 (T0:Hid (∀W:zA,Wd W->zC zF 117 #[.agg #[St x0,St y0]] W (ErrP W G0)))
 (w:zA) (HW:Hid (Wd w)) (HC:Hid (w.cell? ⟨b,off,none⟩=some (St x0)/\w.cell? ⟨b,off+1,none⟩=some (St y0))):
 zC zF 67 #[.slice (some ⟨b,off,none⟩) 1 cap] w (ErrP w G0):=by
 obtain⟨c0,c1⟩:=HC.out;go_enter Tryz.func67,Tryz.ntmps67;go_wp21;refine wp_loop_rounds 2 ?_;rw[rounds_succ];go_wp21;refine(T0.out w HW.out).mono ?_;rintro e w1 ⟨r,rfl,hr,hb⟩;have B1:=hid hb;have HR:=hid hr;clear hb hr c0 c1;by_cases h0:r=0
 ·subst h0
  have HG:=hid (HR.out rfl);go_wp21
  (refine wp_region_quiet_lit (by kernel_rfl) (by kernel_rfl) (WQ.out ?_);(repeat(first|(apply WQ.read (by rfl);(focus(rintro W ⟨n,rfl⟩;go_simp;try with_reducible rfl));try simp only[zzQ])|(apply WQ.skip (by rfl);try simp only[zzQ])));refine WQ.nil ?_;rintro _ ⟨nq,rfl⟩)
  go_wp21;refine wp_loop_rounds 1 ?_;rw[rounds_succ];go_wp21;rw[rounds_succ];go_wp21;go_ret;exact⟨_,rfl,λ_=>HG.out,zao B1.out _⟩
 ·have hrb:(r !=0)=true:=by simpa using h0
  have HN:=hid h0;clear h0;go_wp21;go_ret;exact⟨r,rfl,λh=>absurd h HN.out,B1.out⟩
theorem z00 (b off cap:Nat) (x0 y0 x1 y1:List UInt8) (G0 G1 OR UL:Prop)
 (T0:Hid (∀W:zA,Wd W->zC zF 117 #[.agg #[St x0,St y0]] W (ErrP W G0)))
 (T1:Hid (∀W:zA,Wd W->zC zF 117 #[.agg #[St x1,St y1]] W (ErrP W G1)))
 (CM:Hid (G0->G1->∃c:Int,(c<0->OR)/\qK 118 #[St y0,St y1] (.int .i64 c)))
 (RL:Hid (G0->G1->∃t:Bool,(t=false->UL)/\qK 119 #[St y0,St y1] (.bool t)))
 (w:zA) (HW:Hid (Wd w)) (HC:Hid (w.cell? ⟨b,off,none⟩=some (St x0)/\w.cell? ⟨b,off+1,none⟩=some (St y0)/\w.cell? ⟨b,off+2,none⟩=some (St x1)/\w.cell? ⟨b,off+2+1,none⟩=some (St y1))):
 zC zF 67 #[.slice (some ⟨b,off,none⟩) 2 cap] w (ErrP w (G0/\G1/\OR/\UL)):=by
 obtain⟨c0,c1,c2,c3⟩:=HC.out;go_enter Tryz.func67,Tryz.ntmps67;go_wp21;refine wp_loop_rounds 3 ?_;rw[rounds_succ];go_wp21;refine(T0.out w HW.out).mono ?_;rintro e w1 ⟨r,rfl,hr,hb⟩;have B1:=hid hb;have HR:=hid hr;clear hb hr c0 c1 c2 c3 T0;by_cases h0:r=0
 ·subst h0
  have HG0:=hid (HR.out rfl);clear HR;go_wp21
  (refine wp_region_quiet_lit (by kernel_rfl) (by kernel_rfl) (WQ.out ?_);(repeat(first|(apply WQ.read (by rfl);(focus(rintro W ⟨n,rfl⟩;go_simp;try with_reducible rfl));try simp only[zzQ])|(apply WQ.skip (by rfl);try simp only[zzQ])));refine WQ.nil ?_;rintro _ ⟨nq,rfl⟩)
  go_wp21;refine wp_loop_rounds 1 ?_;rw[rounds_succ];go_wp21;rw[rounds_succ];obtain⟨wq,hwq⟩:=zzX (w1.drewN nq);have BQ:Hid (qL w wq):=hid (by rw[hwq];exact zao B1.out _);rw[<-hwq];clear hwq;have c2:=zai BQ.out HC.out.2.2.1;have c3:=zai BQ.out HC.out.2.2.2;go_wp21;refine(T1.out wq (HW.out.below BQ.out)).mono ?_;rintro e w2 ⟨r,rfl,hr,hb⟩;have B2:=hid (BQ.out.trans (hb.mono BQ.out.size));have HR:=hid hr;clear hb hr c2 c3 T1 BQ;by_cases h0:r=0
  ·subst h0
   have HG1:=hid (HR.out rfl);obtain⟨c,hc1,hc2⟩:=CM.out HG0.out HG1.out;obtain⟨bb,hb1,hb2⟩:=RL.out HG0.out HG1.out;have HC1:=hid hc1;have HCM:=hid hc2;have HB1:=hid hb1;have HRL:=hid hb2;have HC2:=hid (⟨zai B2.out HC.out.1,zai B2.out HC.out.2.1,zai B2.out HC.out.2.2.1,zai B2.out HC.out.2.2.2⟩:_/\_/\_/\_);clear hc1 hc2 hb1 hb2 CM RL HR;by_cases hcn:c<0
   ·have hng:¬0<=c:=by omega
    have hgd:decide (0<=c)=false:=decide_eq_false hng;have HOR:=hid (HC1.out hcn);go_wp21
    focus
     refine zbl (λ_ W=>qL w2 W) (by kernel_rfl) (by kernel_rfl) (zM _ _).drew ?_;refine qR (.int .i64 1) ?_ (hy:=λf W' hf h=>by go_simp;try first|omega|decide);refine qR (.bool true) ?_ (hy:=λf W' hf h=>by go_simp;try first|omega|decide);refine qR (.bool true) ?_ (hy:=λf W' hf h=>by go_simp;try first|omega|decide);simp only[zzQ];refine qR (.slice (some ⟨b,off,none⟩) 2 cap) ?_ (hy:=λf W' hf h=>by go_simp;try first|omega|decide);refine qR (.int .i64 1) ?_ (hy:=λf W' hf h=>by go_simp;try first|omega|decide);refine qR (.int .i64 0) ?_ (hy:=λf W' hf h=>by go_simp;try first|omega|decide);simp only[zzQ];refine qR (.pointer (some ⟨b,off,none⟩)) ?_ (hy:=λf W' hf h=>by go_simp;try first|omega|decide);refine qR (.pointer (some ⟨b,off+1,none⟩)) ?_ (hy:=λf W' hf h=>by go_simp;try first|omega|decide);refine qR (St y0) ?_ (hy:=λf W' hf h=>by have c0:=zai h HC2.out.2.1;go_simp;try first|omega|decide);simp only[zzQ];refine qR (.slice (some ⟨b,off,none⟩) 2 cap) ?_ (hy:=λf W' hf h=>by go_simp;try first|omega|decide);refine qR (.int .i64 1) ?_ (hy:=λf W' hf h=>by go_simp;try first|omega|decide);refine qR (.pointer (some ⟨b,off+2,none⟩)) ?_ (hy:=λf W' hf h=>by go_simp;try first|omega|decide);simp only[zzQ];refine qR (.pointer (some ⟨b,off+2+1,none⟩)) ?_ (hy:=λf W' hf h=>by go_simp;try first|omega|decide);refine qR (St y1) ?_ (hy:=λf W' hf h=>by have c0:=zai h HC2.out.2.2.2;go_simp;try first|omega|decide);simp only[zzQ]
     refine zar (.int .i64 c) (by rfl) (λf W' hf h C' hC'=>by
      go_simp;refine zzM (HCM.out _ (HW.out.below (B2.out.trans (h.mono B2.out.size)))) λw' hb=>?_;exact⟨rfl,hC' _ (h.trans (hb.mono h.size))⟩) ?_
     refine qR (.bool false) ?_ (hy:=λf W' hf h=>by go_simp;try first|omega|decide);refine qR (.bool false) ?_ (hy:=λf W' hf h=>by go_simp;try first|omega|decide);simp only[zzQ];refine zck λf W5 hf h5=>?_;obtain⟨w5,hw5⟩:=zzX W5;rw[<-hw5] at h5⊢;have B5:=hid (B2.out.trans (h5.mono B2.out.size));have HC5:=hid (⟨zai B5.out HC.out.1,zai B5.out HC.out.2.1,zai B5.out HC.out.2.2.1,zai B5.out HC.out.2.2.2⟩:_/\_/\_/\_);clear hf h5 hw5 HC2 HCM;go_wp21;refine wp_loop_rounds 2 ?_;rw[rounds_succ];go_wp21;refine zbl (λ_ W=>qL w5 W) (by kernel_rfl) (by kernel_rfl) (zM _ _).drew ?_;refine qR (.slice (some ⟨b,off,none⟩) 2 cap) ?_ (hy:=λf W' hf h=>by go_simp;try first|omega|decide);refine qR (.int .i64 0) ?_ (hy:=λf W' hf h=>by go_simp;try first|omega|decide);refine qR (.pointer (some ⟨b,off,none⟩)) ?_ (hy:=λf W' hf h=>by go_simp;try first|omega|decide);simp only[zzQ];refine qR (.pointer (some ⟨b,off+1,none⟩)) ?_ (hy:=λf W' hf h=>by go_simp;try first|omega|decide);refine qR (St y0) ?_ (hy:=λf W' hf h=>by have c0:=zai h HC5.out.2.1;go_simp;try first|omega|decide);refine qR (.slice (some ⟨b,off,none⟩) 2 cap) ?_ (hy:=λf W' hf h=>by go_simp;try first|omega|decide);simp only[zzQ];refine qR (.int .i64 1) ?_ (hy:=λf W' hf h=>by go_simp;try first|omega|decide);refine qR (.pointer (some ⟨b,off+2,none⟩)) ?_ (hy:=λf W' hf h=>by go_simp;try first|omega|decide);refine qR (.pointer (some ⟨b,off+2+1,none⟩)) ?_ (hy:=λf W' hf h=>by go_simp;try first|omega|decide);simp only[zzQ];refine qR (St y1) ?_ (hy:=λf W' hf h=>by have c0:=zai h HC5.out.2.2.2;go_simp;try first|omega|decide);simp only[zzQ]
     refine zar (.bool bb) (by rfl) (λf W' hf h C' hC'=>by
      go_simp;refine zzM (HRL.out _ (HW.out.below (B5.out.trans (h.mono B5.out.size)))) λw' hb=>?_;exact⟨rfl,hC' _ (h.trans (hb.mono h.size))⟩) ?_
     try simp only[zzQ]
     refine zck λf W6 hf h6=>?_;have B6:=hid (B5.out.trans (h6.mono B5.out.size));clear hf h6 HC5 HRL;cases bb
     ·have HUL:=hid (HB1.out rfl)
      go_wp21;rw[rounds_succ];go_wp21;rw[rounds_succ];go_wp21;go_ret;exact⟨_,rfl,λ_=>⟨HG0.out,HG1.out,HOR.out,HUL.out⟩,B6.out⟩
     ·go_wp21
      go_ret;exact⟨_,rfl,(λh=>by cases h),B6.out⟩
   ·have hng:0<=c:=by omega
    have hgd:decide (0<=c)=true:=decide_eq_true hng;go_wp21
    focus
     refine zbl (λ_ W=>qL w2 W) (by kernel_rfl) (by kernel_rfl) (zM _ _).drew ?_;refine qR (.int .i64 1) ?_ (hy:=λf W' hf h=>by go_simp;try first|omega|decide);refine qR (.bool true) ?_ (hy:=λf W' hf h=>by go_simp;try first|omega|decide);refine qR (.bool true) ?_ (hy:=λf W' hf h=>by go_simp;try first|omega|decide);simp only[zzQ];refine qR (.slice (some ⟨b,off,none⟩) 2 cap) ?_ (hy:=λf W' hf h=>by go_simp;try first|omega|decide);refine qR (.int .i64 1) ?_ (hy:=λf W' hf h=>by go_simp;try first|omega|decide);refine qR (.int .i64 0) ?_ (hy:=λf W' hf h=>by go_simp;try first|omega|decide);simp only[zzQ];refine qR (.pointer (some ⟨b,off,none⟩)) ?_ (hy:=λf W' hf h=>by go_simp;try first|omega|decide);refine qR (.pointer (some ⟨b,off+1,none⟩)) ?_ (hy:=λf W' hf h=>by go_simp;try first|omega|decide);refine qR (St y0) ?_ (hy:=λf W' hf h=>by have c0:=zai h HC2.out.2.1;go_simp;try first|omega|decide);simp only[zzQ];refine qR (.slice (some ⟨b,off,none⟩) 2 cap) ?_ (hy:=λf W' hf h=>by go_simp;try first|omega|decide);refine qR (.int .i64 1) ?_ (hy:=λf W' hf h=>by go_simp;try first|omega|decide);refine qR (.pointer (some ⟨b,off+2,none⟩)) ?_ (hy:=λf W' hf h=>by go_simp;try first|omega|decide);simp only[zzQ];refine qR (.pointer (some ⟨b,off+2+1,none⟩)) ?_ (hy:=λf W' hf h=>by go_simp;try first|omega|decide);refine qR (St y1) ?_ (hy:=λf W' hf h=>by have c0:=zai h HC2.out.2.2.2;go_simp;try first|omega|decide);simp only[zzQ]
     refine zar (.int .i64 c) (by rfl) (λf W' hf h C' hC'=>by
      go_simp;refine zzM (HCM.out _ (HW.out.below (B2.out.trans (h.mono B2.out.size)))) λw' hb=>?_;exact⟨rfl,hC' _ (h.trans (hb.mono h.size))⟩) ?_
     refine qR (.bool true) ?_ (hy:=λf W' hf h=>by go_simp;try first|omega|decide);refine qR (.bool true) ?_ (hy:=λf W' hf h=>by go_simp;try first|omega|decide);simp only[zzQ];refine zck λf W5 hf h5=>?_;have B5:=hid (B2.out.trans (h5.mono B2.out.size));clear hf h5 HC2 HCM;go_wp21;go_ret;exact⟨_,rfl,(λh=>by cases h),B5.out⟩
  ·have hrb:(r !=0)=true:=by simpa using h0
   have HN:=hid h0;clear h0;go_wp21;go_ret;exact⟨r,rfl,λh=>absurd h HN.out,B2.out⟩
 ·have hrb:(r !=0)=true:=by simpa using h0
  have HN:=hid h0;clear h0;go_wp21;go_ret;exact⟨r,rfl,λh=>absurd h HN.out,B1.out⟩
theorem z2i (v:Value) (l:List (List UInt8×List UInt8)) (hl:ShS l) (w:zA) (hw:Wd w) (hv:SdT v l w):
 zC zF 67 #[v] w (ErrP w (∃D,GoS l D)):=by
 obtain⟨p,cap,rfl,hc,hx⟩:=hv.slice
 match l,hl,hx with
 |[],_,_=>
  refine(z0y p cap w).mono λe w' ⟨r,e1,_,e3⟩=>⟨r,e1,λ_=>⟨[],rfl,SdOk.nil,by simp,λt h=>by cases h⟩,e3⟩
 |[t],hl,hx=>
  obtain⟨b,off,rfl,_,d0,d1⟩:=hx 0 t rfl;have hm:=hl.2 t (yD ..);refine(z0z b off cap t.1 t.2 _ (hid λW hW=>zvy t.1 t.2 hm.1 hm.2 W hW) w (hid hw) (hid ⟨by simpa using d0,by simpa using d1⟩)).mono λe w' ⟨r,e1,e2,e3⟩=>⟨r,e1,λh=>?_,e3⟩
  exact z0d (by simp) (λi u hu=>by
   match i with
   |0=>simp at hu;subst hu;exact e2 h
   |i+1=>simp at hu) λt' u' _ _ _ _ e=>by simp at e
 |[t,u],hl,hx=>
  obtain⟨b,off,rfl,_,d0,d1⟩:=hx 0 t rfl;obtain⟨b',off',eb,_,k0,k1⟩:=hx 1 u rfl;obtain⟨rfl,rfl⟩:b=b'/\off=off':=by simpa using eb
  have hm:=hl.2 t (yD ..);have hm2:=hl.2 u (List.mem_cons_of_mem _ (yD ..));have uniq:∀{x y:List UInt8} {c d:Rat} {r s:Nat},GoT x y c r->GoT x y d s->r=s:=λh1 h2=>by
   have e:=h1.2.2.1.symm.trans h2.2.2.1;rw[<-Str.zad,<-Str.zad] at e;have:=zdo e;omega
  refine(z00 b off cap t.1 t.2 u.1 u.2 (GoE t.1 t.2) (GoE u.1 u.2) (∀c d r s,GoT t.1 t.2 c r->GoT u.1 u.2 d s->r<s) (∀c d r s,GoT t.1 t.2 c r->GoT u.1 u.2 d s->z5c ((s:Nat):Rat) ((r:Nat):Rat)=false)
   (hid λW hW=>zvy t.1 t.2 hm.1 hm.2 W hW) (hid λW hW=>zvy u.1 u.2 hm2.1 hm2.2 W hW) (hid λh1 h2=>?_) (hid λh1 h2=>?_) w (hid hw) (hid ⟨by simpa using d0,by simpa using d1,by simpa using k0,by simpa using k1⟩)).mono λe w' ⟨r,e1,e2,e3⟩=>⟨r,e1,λh=>?_,e3⟩
  ·obtain⟨c,r,hg⟩:=h1
   obtain⟨d,s,hh⟩:=h2;obtain⟨a1,a2, -⟩:=zlj (show r<10^9 by have:=hg.2.2.2.1;omega);obtain⟨b1,b2, -⟩:=zlj (show s<10^9 by have:=hh.2.2.2.1;omega);refine⟨cmpR (r:Rat) (s:Rat),λhlt c' d' r' s' hg' hh'=>?_,λW hW=>?_⟩
   ·rw[<-uniq hg hg',<-uniq hh hh']
    have hcc:=zaw (r:Rat) (s:Rat);have:(r:Rat)<(s:Rat):=by grind
    exact_mod_cast this
   ·have:=zx0 (r:Rat) (s:Rat) a1 b1 a2 b2 W hW
    rw[zhe,zhe] at this;rw[hg.2.2.1,hh.2.2.1];exact this
  ·obtain⟨c,r,hg⟩:=h1
   obtain⟨d,s,hh⟩:=h2;obtain⟨t0,t1,t2⟩:=z4q r s hg.2.2.2.2.nr hh.2.2.2.2.nr hg.2.2.2.1 hh.2.2.2.1;refine⟨t0,λhlt c' d' r' s' hg' hh'=>?_,λW hW=>?_⟩
   ·rw[<-uniq hg hg',<-uniq hh hh']
    exact t1 hlt
   ·rw[hg.2.2.1,hh.2.2.1]
    exact t2 W hW
  ·obtain⟨g1,g2,g3,g4⟩:=e2 h
   exact z0d (by simp) (λi v hv=>by
    match i with
    |0=>simp at hv;subst hv;exact g1
    |1=>simp at hv;subst hv;exact g2
    |i+2=>simp at hv) λt' u' c d r s e hg hh=>by
     obtain⟨rfl,rfl⟩:t=t'/\u=u':=by simpa using e
     exact⟨g3 c d r s hg hh,g4 c d r s hg hh⟩
theorem box2 {w y:zA} {cs ds:Array Value} {s t:TypeId} (hy:y=(w.alloc (.cells cs s)).alloc (.cells ds t)):qL w y/\y.heap[w.heap.size]? =some (.cells cs s (0,0))/\y.heap[w.heap.size+1]? =some (.cells ds t (0,0)):=by
 refine⟨by rw[hy];exact((zM _ w).alloc (zN _) _).alloc (by simp) _,by rw[hy];exact(Below.heap_alloc _ _ _ (by simp)).trans (zG w _),?_⟩;rw[hy];have:=zG (w.alloc (.cells cs s)) (.cells ds t);rw[zH] at this;exact this
theorem zu4 {w y:zA} {cs:Array Value} {t:TypeId} (hy:y=w.alloc (.cells cs t)):qL w y/\y.heap[w.heap.size]? =some (.cells cs t (0,0)):=by
 rw[hy];exact⟨(zM _ w).alloc (zN _) _,zG w _⟩
theorem zfb {W:zA} {A:Nat} {a b c d:Value} {t:TypeId} (h:W.heap[A]? =some (.cells #[a,b,c,d] t (0,0))):W.cell? ⟨A,0,none⟩=some a/\W.cell? ⟨A,1,none⟩=some b/\W.cell? ⟨A,2,none⟩=some c/\W.cell? ⟨A,3,none⟩=some d:=
 ⟨by rw[zJ h];rfl,by rw[zJ h];rfl,by rw[zJ h];rfl,by rw[zJ h];rfl⟩
theorem z4r (x y:List UInt8) (w:zA) (hw:Wd w):
 zC zF 63 #[.agg #[St x,St y]] w (BoolP w (shT x/\shT y)):=by
 obtain⟨v1,hv⟩:=zzX ((w.alloc (.cells #[St x,St y] 69)).alloc (.cells #[St x,St y] 22));obtain⟨b1,A1,A2⟩:=box2 hv
 have hs:=zmy (some ⟨w.heap.size+1,0,none⟩) 2 [x,y] (by simp) v1 (hw.below b1) (λi hi=>by
  refine⟨_,_,rfl,?_⟩;rw[zJ A2]
  match i,hi with
  |0,_|1,_=>rfl)
 have HS:=hid hs
 have HG:=hid (show(∀i,i<[x,y].length->shT ([x,y][i]?.getD []))↔shT x/\shT y from⟨λh=>⟨h 0 (by simp),h 1 (by simp)⟩,λh i hi=>by
  match i,hi with
  |0,_=>exact h.1
  |1,_=>exact h.2⟩)
 have B1:=hid b1;have HV:=hid hv.symm;clear hv b1 A1 A2 hs hw;go_enter Tryz.func63,Tryz.ntmps63;go_wp21;have h9:=HV.out;rw[show(w.alloc (.cells #[.string ⟨x.toArray⟩,.string ⟨y.toArray⟩] 69)).alloc (.cells #[.string ⟨x.toArray⟩,.string ⟨y.toArray⟩] 22)=v1 from h9];clear h9 HV;refine HS.out.mono ?_;rintro e w1 ⟨b,rfl,hb,hB⟩;have HB:=hid (B1.out.trans (hB.mono B1.out.size));have HN:=hid hb;clear hb hB HS;cases b
 ·go_wp21
  go_ret;exact BoolP.no (λh=>by have:=HN.out.2 (HG.out.2 h);simp at this) HB.out
 ·go_wp21
  go_ret;exact BoolP.yes (HG.out.1 (HN.out.1 (by trivial))) HB.out
theorem z5o (v:Value) (l:List (List UInt8×List UInt8)) (w:zA) (hw:Wd w) (hv:SdT v l w):
 zC zF 61 #[v] w (BoolP w (ShS l)):=by
 obtain⟨p,cap,rfl,hc,hx⟩:=hv.slice;by_cases h2:2<l.length
 ·have hlI:(2:Int)<(l.length:Int):=by omega
  have HN:=hid (λh=>by have:=h.1;omega:¬ShS l);clear h2 hx hv hw;go_enter Tryz.func61,Tryz.ntmps61;go_wp21;go_ret;exact BoolP.no HN.out (zM _ _)
 ·have hlI:¬(2:Int)<(l.length:Int):=by omega
  have at_:∀i,i<l.length->∃t,l[i]? =some t:=λi hi=>⟨_,List.getElem?_eq_getElem hi⟩;have hg:∀(i:Nat) (t:List UInt8×List UInt8),l[i]? =some t->l[i]?.getD ([],[])=t:=λi t h=>by rw[h];rfl
  have hr:RowTt p l.length (λi=>(l[i]?.getD ([],[])).1) (λi=>(l[i]?.getD ([],[])).2) w:=λi hi=>by
   obtain⟨t,ht⟩:=at_ i hi;obtain⟨b,off,e,_,c0,c1⟩:=hx i t ht;simp only[hg i t ht];exact⟨b,off,e,c0,c1⟩
  have hcn:=z2f p cap l.length _ w (hid (z3i p cap l.length _ _ (by omega) (λi=>shT (l[i]?.getD ([],[])).1/\shT (l[i]?.getD ([],[])).2) w (hid λi hi W hW=>z4r _ _ W (hw.below hW)) (hid hr)));have HC:=hid hcn
  have HG:=hid (show(∀i,i<l.length->shT (l[i]?.getD ([],[])).1/\shT (l[i]?.getD ([],[])).2)↔ShS l from⟨λh=>⟨by omega,λt ht=>by
   obtain⟨i,hi⟩:=List.mem_iff_getElem?.1 ht;have:=h i (List.getElem?_eq_some_iff.1 hi).1;rw[hg i t hi] at this;exact this⟩,λh i hi=>by
   obtain⟨t,ht⟩:=at_ i hi;rw[hg i t ht];exact h.2 t (List.mem_of_getElem? ht)⟩)
  clear hcn hr hx hv hw h2 at_ hg;go_enter Tryz.func61,Tryz.ntmps61;go_wp21;refine HC.out.mono ?_;rintro e w1 ⟨b,rfl,hb,hB⟩;have HB:=hid hB;have HN:=hid hb;clear hb hB HC;cases b
  ·go_wp21
   go_ret;exact BoolP.yes (HG.out.1 (HN.out.1 (by trivial))) HB.out
  ·go_wp21
   go_ret;exact BoolP.no (λh=>by have:=HN.out.2 (HG.out.2 h);simp at this) HB.out
theorem z3o (p:Option Addr) (cap n:Nat) (D:Nat->Value) (L:Nat->List (List UInt8×List UInt8)) (hn:n<=5000) (w:zA) (hw:Wd w) (hp:RowSl p n D w) (hD:∀i,i<n->SdT (D i) (L i) w):
 zC zF 21 #[.slice p n cap] w (YesP w (∀i,i<n->ShS (L i))):=by
 have HC:=hid (z3h p cap n _ w (hid (z4h p cap n D (λi hi=>(hD i hi).any) hn (λi=>ShS (L i)) w (hid λi hi W hW=>z5o (D i) (L i) W (hw.below hW) ((hD i hi).below hW)) (hid hp))));clear hw hp hD;go_enter Tryz.func21,Tryz.ntmps21;go_wp21;refine HC.out.mono ?_;rintro e w1 ⟨b,rfl,hb,hB⟩;have HN:=hid hb;clear hb;cases b
 ·go_wp21
  go_ret;exact YesP.yes (HN.out.1 (by trivial)) hB
 ·go_wp21
  go_ret;exact YesP.no (λh=>by have:=HN.out.2 h;simp at this) hB
theorem zvo (a b c:List UInt8) (p:Option Addr) (n k:Nat) (w:zA):
 qJ 65 #[.agg #[St a,St b,St c,.slice p n k]] w (.agg #[St a,St b,St c]):=by
 go_enter Tryz.func65,Tryz.ntmps65;go_wp21;exact bodyPost_ret (v:=.agg #[St a,St b,St c]) (by simp[results,Tryz.results65,go_sem]) rfl ⟨rfl,((zM _ w).alloc (zN _) _).alloc (by simp) _⟩
theorem z0f (a b c:List UInt8)
 (C0:Hid (qK 25 #[St a] (.int .i64 0)))
 (C1:Hid (qK 25 #[St b] (.int .i64 0)))
 (C2:Hid (qK 25 #[St c] (.int .i64 0)))
 (w:zA) (HW:Hid (Wd w)):
 qJ 64 #[.agg #[St a,St b,St c]] w (.int .i64 0):=by
 obtain⟨v1,hv⟩:=zzX (w.alloc (.cells #[St a,St b,St c] 45));have a1:qL w v1:=by rw[hv];exact(zM _ w).alloc (zN _) _
 have A1:v1.heap[w.heap.size]? =some (.cells #[St a,St b,St c] 45 (0,0)):=by rw[hv];exact zG w _
 have k0:v1.cell? ⟨w.heap.size,0,none⟩=some (St a):=by rw[zJ A1];rfl
 have HV:=hid hv.symm;have E1:=hid a1;have P1:=hid A1;rw[hv] at k0;clear hv a1 A1;go_enter Tryz.func64,Tryz.ntmps64;go_wp21;have h9:=HV.out;rw[show w.alloc (.cells #[.string ⟨a.toArray⟩,.string ⟨b.toArray⟩,.string ⟨c.toArray⟩] 45)=v1 from h9];clear h9 HV k0;refine zzM (C0.out v1 (HW.out.below E1.out)) λr1 hb=>?_;have E2:=hid (E1.out.trans (hb.mono E1.out.size));have P2:=hid (zac hb _ _ _ _ P1.out);clear hb E1 P1;have k1:r1.cell? ⟨w.heap.size,1,none⟩=some (St b):=by rw[zJ P2.out];rfl
 go_wp21;clear k1;refine zzM (C1.out r1 (HW.out.below E2.out)) λr2 hb=>?_;have E3:=hid (E2.out.trans (hb.mono E2.out.size));have P3:=hid (zac hb _ _ _ _ P2.out);clear hb E2 P2;have k2:r2.cell? ⟨w.heap.size,2,none⟩=some (St c):=by rw[zJ P3.out];rfl
 go_wp21;clear k2;refine zzM (C2.out r2 (HW.out.below E3.out)) λr3 hb=>?_;have E4:=hid (E3.out.trans (hb.mono E3.out.size));clear hb E3;go_wp21;go_ret;exact⟨rfl,E4.out⟩
theorem z0g (a b c:List UInt8) (w:zA):
 qJ 66 #[.agg #[St a,St b,St c]] w (.bool ((a==[48])&&(b==[48])&&(c==[48]))):=by
 obtain⟨s,hs⟩:=zzX (⟨a.toArray⟩:ByteArray);obtain⟨t,ht⟩:=zzX (⟨b.toArray⟩:ByteArray);obtain⟨u,hu⟩:=zzX (⟨c.toArray⟩:ByteArray);have es:s.toList=a:=by rw[hs,ByteArray.toList_eq]
 have et:t.toList=b:=by rw[ht,ByteArray.toList_eq]
 have eu:u.toList=c:=by rw[hu,ByteArray.toList_eq]
 rw[show St a=.string s by rw[hs],show St b=.string t by rw[ht],show St c=.string u by rw[hu],<-es,<-et,<-eu];clear es et eu hs ht hu;obtain⟨v1,hv⟩:=zzX (w.alloc (.cells #[.string s,.string t,.string u] 45));have a1:qL w v1:=by rw[hv];exact(zM _ w).alloc (zN _) _
 have A1:v1.heap[w.heap.size]? =some (.cells #[.string s,.string t,.string u] 45 (0,0)):=by rw[hv];exact zG w _
 have k0:v1.cell? ⟨w.heap.size,0,none⟩=some (.string s):=by rw[zJ A1];rfl
 have k1:v1.cell? ⟨w.heap.size,1,none⟩=some (.string t):=by rw[zJ A1];rfl
 have k2:v1.cell? ⟨w.heap.size,2,none⟩=some (.string u):=by rw[zJ A1];rfl
 have HB:=hid a1;have HV:=hid hv.symm;rw[hv] at k0 k1 k2;clear hv a1 A1;cases h0:(s.toList==[48])
 ·go_enter Tryz.func66,Tryz.ntmps66
  go_wp21;go_ret;exact⟨rfl,by rw[HV.out];exact HB.out⟩
 ·cases h1:(t.toList==[48])
  ·go_enter Tryz.func66,Tryz.ntmps66
   go_wp21;go_ret;exact⟨rfl,by rw[HV.out];exact HB.out⟩
  ·go_enter Tryz.func66,Tryz.ntmps66
   go_wp21;go_ret;exact⟨rfl,by rw[HV.out];exact HB.out⟩
theorem zzp (a b c:List UInt8) (p:Option Addr) (n k:Nat) (G:Prop)
 (CK:Hid (qK 64 #[.agg #[St a,St b,St c]] (.int .i64 0)))
 (w:zA) (HW:Hid (Wd w))
 (SC:Hid (∀W:zA,qL w W->zC zF 67 #[.slice p n k] W (ErrP W G))):
 zC zF 22 #[.agg #[St a,St b,St c,.slice p n k]] w (ErrP w (((a==[48])&&(b==[48])&&(c==[48]))=false/\G)):=by
 obtain⟨v1,hv⟩:=zzX (w.alloc (.cells #[St a,St b,St c,.slice p n k] 26));obtain⟨b1,A1⟩:=zu4 hv;obtain⟨k0,k1,k2,k3⟩:=zfb A1;have B1:=hid b1;have P1:=hid A1;have HV:=hid hv.symm;rw[hv] at k0 k1 k2 k3;clear hv b1 A1;go_enter Tryz.func22,Tryz.ntmps22;go_wp21;have h9:=HV.out;rw[show w.alloc (.cells #[.string ⟨a.toArray⟩,.string ⟨b.toArray⟩,.string ⟨c.toArray⟩,.slice p n k] 26)=v1 from h9];clear h9 HV k0 k1 k2 k3;refine zzM (zvo a b c p n k v1) λw1 hb=>?_;have B2:=hid (B1.out.trans (hb.mono B1.out.size));have P2:=hid (zac hb _ _ _ _ P1.out);clear hb B1 P1;go_wp21;refine zzM (CK.out w1 (HW.out.below B2.out)) λw2 hb=>?_;have B3:=hid (B2.out.trans (hb.mono B2.out.size));have P3:=hid (zac hb _ _ _ _ P2.out);clear hb B2 P2;obtain⟨k0,k1,k2,k3⟩:=zfb P3.out;go_wp21;clear k0 k1 k2 k3;refine zzM (zvo a b c p n k w2) λw3 hb=>?_;have B4:=hid (B3.out.trans (hb.mono B3.out.size));have P4:=hid (zac hb _ _ _ _ P3.out);clear hb B3 P3;go_wp21;refine zzM (z0g a b c w3) λw4 hb=>?_;have hB5:=B4.out.trans (hb.mono B4.out.size);have B5:=hid hB5;have P5:=hid (zac hb _ _ _ _ P4.out);have HS:=hid (SC.out w4 hB5);clear hb hB5 B4 P4 SC;obtain⟨k0,k1,k2,k3⟩:=zfb P5.out;generalize ((a==[48])&&(b==[48])&&(c==[48]))=zz at*
 cases zz
 ·go_wp21
  refine HS.out.mono ?_;rintro e w5 ⟨r,rfl,hr,hb⟩;have B6:=hid (B5.out.trans (hb.mono B5.out.size));have HR:=hid hr;clear hb hr;go_wp21;go_ret;exact⟨r,rfl,λh=>⟨by first|rfl|trivial,HR.out h⟩,B6.out⟩
 ·clear HS
  go_wp21;go_ret;exact⟨_,rfl,(λh=>by cases h),B5.out⟩
structure FinH (a b c:List UInt8) (l:List (List UInt8×List UInt8)) (A B C:Rat) (D:List (Rat×Nat)):Prop where
 a:a=numS A
 b:b=numS B
 c:c=numS C
 sa:sz A 8
 sb:sz B 8
 sc:sz C 8
 nz:A≠0\/B≠0\/C≠0
 d:GoS l D
theorem z01 (a b c:List UInt8) (ha:shT a) (hb:shT b) (hc:shT c) (v:Value) (l:List (List UInt8×List UInt8)) (hl:ShS l) (w:zA) (hw:Wd w) (hv:SdT v l w):
 zC zF 22 #[.agg #[St a,St b,St c,v]] w (ErrP w (∃A B C D,FinH a b c l A B C D)):=by
 obtain⟨p,n,k,rfl⟩:=hv.any;obtain⟨la,A,rfl,oa⟩:=ha;obtain⟨lb,B,rfl,ob⟩:=hb;obtain⟨lc,C,rfl,oc⟩:=hc;refine(zzp _ _ _ p n k (∃D,GoS l D) (hid λW hW=>z0f _ _ _ (hid λV hV=>zft A oa V hV) (hid λV hV=>zft B ob V hV) (hid λV hV=>zft C oc V hV) W (hid hW)) w (hid hw) (hid λW hW=>z2i _ l hl W (hw.below hW) (hv.below hW))).mono λe w' ⟨r,e1,e2,e3⟩=>⟨r,e1,λh=>?_,e3⟩;obtain⟨hz,D,hD⟩:=e2 h;refine⟨A,B,C,D,rfl,rfl,rfl,zto (by omega) la,zto (by omega) lb,zto (by omega) lc,?_,hD⟩;have z:∀q:Rat,q=0->(numS q==[48])=true:=λq h=>by rw[h,zie];rfl
 refine Classical.byContradiction λhn=>?_;rw[z A (Classical.byContradiction λh=>hn (.inl h)),z B (Classical.byContradiction λh=>hn (.inr (.inl h))),z C (Classical.byContradiction λh=>hn (.inr (.inr h)))] at hz;cases hz
theorem z2j (a b c:List UInt8) (p:Option Addr) (n k:Nat) (S F G:Prop) (w:zA)
 (SH:Hid (∀(W:zA) (A:Nat),qL w W->W.heap[A]? =some (.cells #[St a,St b,St c] 22 (0,0))->zC zF 6 #[.slice (some ⟨A,0,none⟩) 3 3] W (YesI W S)))
 (FW:Hid (∀(W:zA) (A:Nat),qL w W->W.heap[A]? =some (.cells #[.slice p n k] 24 (0,0))->zC zF 21 #[.slice (some ⟨A,0,none⟩) 1 1] W (YesI W F)))
 (CK:Hid (S->F->∀W:zA,qL w W->zC zF 22 #[.agg #[St a,St b,St c,.slice p n k]] W (ErrP W G))):
 zC zF 20 #[.agg #[St a,St b,St c,.slice p n k]] w (zzx w G):=by
 obtain⟨v1,hv⟩:=zzX ((w.alloc (.cells #[St a,St b,St c,.slice p n k] 26)).alloc (.cells #[St a,St b,St c] 22));obtain⟨b1,A1,A2⟩:=box2 hv;have HS:=hid (SH.out v1 _ b1 A2);have B1:=hid b1;have P1:=hid A1;have HV:=hid hv.symm;clear hv b1 A1 A2 SH;go_enter Tryz.func20,Tryz.ntmps20;go_wp21;have h9:=HV.out;rw[show(w.alloc (.cells #[.string ⟨a.toArray⟩,.string ⟨b.toArray⟩,.string ⟨c.toArray⟩,.slice p n k] 26)).alloc (.cells #[.string ⟨a.toArray⟩,.string ⟨b.toArray⟩,.string ⟨c.toArray⟩] 22)=v1 from h9];clear h9 HV;refine HS.out.mono ?_;rintro e w1 ⟨s,rfl,hs,hb⟩;have B2:=hid (B1.out.trans (hb.mono B1.out.size));have P2:=hid (zac hb _ _ _ _ P1.out);have HSS:=hid hs;clear hb B1 P1 HS hs;cases s
 ·clear FW CK
  go_wp21;go_ret;exact⟨true,rfl,(λh=>by cases h),B2.out⟩
 ·have HSP:=hid (HSS.out rfl)
  obtain⟨k0,k1,k2,k3⟩:=zfb P2.out;obtain⟨v2,hv2⟩:=zzX (w1.alloc (.cells #[.slice p n k] 24));have a2:qL w1 v2:=by rw[hv2];exact(zM _ w1).alloc (zN _) _
  have A2:v2.heap[w1.heap.size]? =some (.cells #[.slice p n k] 24 (0,0)):=by rw[hv2];exact zG w1 _
  have hB3:=B2.out.trans (a2.mono B2.out.size);have B3:=hid hB3;have P3:=hid (zac a2 _ _ _ _ P2.out);have HF:=hid (FW.out v2 _ hB3 A2);have HV2:=hid hv2.symm;clear hv2 a2 A2 hB3 B2 P2 FW;go_wp21;rw[HV2.out];clear HV2 k0 k1 k2 k3;refine HF.out.mono ?_;rintro e w2 ⟨s,rfl,hs,hb⟩;have hB4:=B3.out.trans (hb.mono B3.out.size);have B4:=hid hB4;have P4:=hid (zac hb _ _ _ _ P3.out);have HFF:=hid hs;clear hb B3 P3 HF hs hB4;cases s
  ·clear CK
   go_wp21;go_ret;exact⟨true,rfl,(λh=>by cases h),B4.out⟩
  ·have HCK:=hid (CK.out HSP.out (HFF.out rfl) w2 B4.out)
   obtain⟨k0,k1,k2,k3⟩:=zfb P4.out;clear CK;go_wp21;clear k0 k1 k2 k3;refine HCK.out.mono ?_;rintro e w3 ⟨r,rfl,hr,hb⟩;have B5:=hid (B4.out.trans (hb.mono B4.out.size));have HR:=hid hr;clear hb hr;by_cases h0:r=0
   ·subst h0
    have HG:=hid (HR.out rfl);go_wp21;go_ret;exact⟨false,rfl,λ_=>HG.out,B5.out⟩
   ·have hrb:(r !=0)=true:=by simpa using h0
    clear h0;go_wp21;go_ret;exact⟨true,rfl,(λh=>by cases h),B5.out⟩
theorem z4s (a b c:List UInt8) (v:Value) (l:List (List UInt8×List UInt8)) (w:zA) (hw:Wd w) (hv:SdT v l w):
 zC zF 20 #[.agg #[St a,St b,St c,v]] w (zzx w (∃A B C D,FinH a b c l A B C D)):=by
 obtain⟨p,n,k,rfl⟩:=hv.any;refine z2j a b c p n k (shT a/\shT b/\shT c) (ShS l) _ w (hid λW A hW hA=>?_) (hid λW A hW hA=>?_) (hid λhs hf W hW=>z01 a b c hs.1 hs.2.1 hs.2.2 _ l hf W (hw.below hW) (hv.below hW))
 ·have:=zmy (some ⟨A,0,none⟩) 3 [a,b,c] (by simp) W (hw.below hW) (λi hi=>by
   refine⟨_,_,rfl,?_⟩;rw[zJ hA]
   match i,hi with
   |0,_|1,_|2,_=>rfl)
  refine this.mono λe w' ⟨t,h1,h2,h3⟩=>⟨t,h1,λh=>?_,h3⟩;have g:=h2.1 h;exact⟨g 0 (by simp),g 1 (by simp),g 2 (by simp)⟩
 ·refine(z3o (some ⟨A,0,none⟩) 1 1 (λ_=>.slice p n k) (λ_=>l) (by omega) W (hw.below hW) (λi hi=>⟨A,0,rfl,?_⟩) (λ_ _=>hv.below hW)).mono λe w' ⟨t,h1,h2,h3⟩=>⟨t,h1,λh=>h2.1 h 0 (by omega),h3⟩
  obtain rfl:i=0:=by omega
  rw[zJ hA];rfl
theorem zt3 (p:Option Addr) (cap n:Nat) (X Y Z:Nat->List UInt8) (D:Nat->Value) (L:Nat->List (List UInt8×List UInt8)) (hn:n<=5000) (w:zA) (hw:Wd w) (hA:RowHf p n X Y Z D w) (hD:∀i,i<n->SdT (D i) (L i) w):
 zC zF 5 #[.slice p n cap] w (YesI w (∀i,i<n->∃A B C D,FinH (X i) (Y i) (Z i) (L i) A B C D)):=by
 have HC:=hid (z3k p cap n _ w (hid (z4i p cap n X Y Z D (λi hi=>(hD i hi).any) hn (λi=>∃A B C D,FinH (X i) (Y i) (Z i) (L i) A B C D) w (hid λi hi W hW=>z4s _ _ _ _ _ W (hw.below hW) ((hD i hi).below hW)) (hid hA))));clear hw hA hD;go_enter Tryz.func5,Tryz.ntmps5;go_wp21;refine HC.out.mono ?_;rintro e w1 ⟨t,rfl,hb,hB⟩;have HN:=hid hb;clear hb;cases t
 ·go_wp21
  go_ret;exact⟨true,rfl,λ_=>HN.out (by trivial),hB⟩
 ·go_wp21
  go_ret;exact⟨false,rfl,(λh=>by cases h),hB⟩
theorem z1k (p0 p1 p2:Option Addr) (n0 n1 n2 k0 k1 k2:Nat) (F G0 G1 G2:Prop) (w:zA)
 (FW:Hid (∀(W:zA) (A:Nat),qL w W->W.heap[A]? =some (.cells #[.slice p0 n0 k0,.slice p1 n1 k1,.slice p2 n2 k2] 24 (0,0))->zC zF 21 #[.slice (some ⟨A,0,none⟩) 3 3] W (YesI W F)))
 (C0:Hid (F->∀W:zA,qL w W->zC zF 26 #[.slice p0 n0 k0] W (ErrP W G0)))
 (C1:Hid (F->∀W:zA,qL w W->zC zF 26 #[.slice p1 n1 k1] W (ErrP W G1)))
 (C2:Hid (F->∀W:zA,qL w W->zC zF 26 #[.slice p2 n2 k2] W (ErrP W G2))):
 zC zF 7 #[.agg #[.slice p0 n0 k0,.slice p1 n1 k1,.slice p2 n2 k2]] w (YesI w (G0/\G1/\G2)):=by
 obtain⟨v1,hv⟩:=zzX ((w.alloc (.cells #[.slice p0 n0 k0,.slice p1 n1 k1,.slice p2 n2 k2] 28)).alloc (.cells #[.slice p0 n0 k0,.slice p1 n1 k1,.slice p2 n2 k2] 24));obtain⟨b1,A1,A2⟩:=box2 hv;have HS:=hid (FW.out v1 _ b1 A2);have B1:=hid b1;have P1:=hid A1;have HV:=hid hv.symm;clear hv b1 A1 A2 FW;go_enter Tryz.func7,Tryz.ntmps7;go_wp21;have h9:=HV.out;rw[h9];clear h9 HV;refine HS.out.mono ?_;rintro e w1 ⟨s,rfl,hs,hb⟩;have B2:=hid (B1.out.trans (hb.mono B1.out.size));have P2:=hid (zac hb _ _ _ _ P1.out);have HSS:=hid hs;clear hb B1 P1 HS hs;cases s
 ·clear C0 C1 C2
  go_wp21;go_ret;exact⟨false,rfl,(λh=>by cases h),B2.out⟩
 ·have HSP:=hid (HSS.out rfl)
  have HC:=hid (C0.out HSP.out w1 B2.out);clear C0;obtain⟨c0,c1,c2⟩:w1.cell? ⟨w.heap.size,0,none⟩=some (.slice p0 n0 k0)/\w1.cell? ⟨w.heap.size,1,none⟩=some (.slice p1 n1 k1)/\w1.cell? ⟨w.heap.size,2,none⟩=some (.slice p2 n2 k2):=⟨by rw[zJ P2.out];rfl,by rw[zJ P2.out];rfl,by rw[zJ P2.out];rfl⟩;go_wp21;clear c0 c1 c2;refine HC.out.mono ?_;rintro e w2 ⟨r,rfl,hr,hb⟩;have B3:=hid (B2.out.trans (hb.mono B2.out.size));have P3:=hid (zac hb _ _ _ _ P2.out);have HR:=hid hr;clear hb hr HC B2 P2;by_cases h0:r=0
  ·subst h0
   have HG0:=hid (HR.out rfl);have HC:=hid (C1.out HSP.out w2 B3.out);clear C1 HR;obtain⟨c0,c1,c2⟩:w2.cell? ⟨w.heap.size,0,none⟩=some (.slice p0 n0 k0)/\w2.cell? ⟨w.heap.size,1,none⟩=some (.slice p1 n1 k1)/\w2.cell? ⟨w.heap.size,2,none⟩=some (.slice p2 n2 k2):=⟨by rw[zJ P3.out];rfl,by rw[zJ P3.out];rfl,by rw[zJ P3.out];rfl⟩;go_wp21;clear c0 c1 c2;refine HC.out.mono ?_;rintro e w3 ⟨r,rfl,hr,hb⟩;have B4:=hid (B3.out.trans (hb.mono B3.out.size));have P4:=hid (zac hb _ _ _ _ P3.out);have HR:=hid hr;clear hb hr HC B3 P3;by_cases h0:r=0
   ·subst h0
    have HG1:=hid (HR.out rfl);have HC:=hid (C2.out HSP.out w3 B4.out);clear C2 HR;obtain⟨c0,c1,c2⟩:w3.cell? ⟨w.heap.size,0,none⟩=some (.slice p0 n0 k0)/\w3.cell? ⟨w.heap.size,1,none⟩=some (.slice p1 n1 k1)/\w3.cell? ⟨w.heap.size,2,none⟩=some (.slice p2 n2 k2):=⟨by rw[zJ P4.out];rfl,by rw[zJ P4.out];rfl,by rw[zJ P4.out];rfl⟩;go_wp21;clear c0 c1 c2;refine HC.out.mono ?_;rintro e w4 ⟨r,rfl,hr,hb⟩;have B5:=hid (B4.out.trans (hb.mono B4.out.size));have HR:=hid hr;clear hb hr HC B4 P4;by_cases h0:r=0
    ·subst h0
     have HG2:=hid (HR.out rfl);go_wp21;go_ret;exact⟨true,rfl,λ_=>⟨HG0.out,HG1.out,HG2.out⟩,B5.out⟩
    ·have hrb:(r==0)=false:=by simpa using h0
     clear h0;go_wp21;go_ret;exact⟨false,rfl,(λh=>by cases h),B5.out⟩
   ·have hrb:(r==0)=false:=by simpa using h0
    clear h0 C2;go_wp21;go_ret;exact⟨false,rfl,(λh=>by cases h),B4.out⟩
  ·have hrb:(r==0)=false:=by simpa using h0
   clear h0 C1 C2;go_wp21;go_ret;exact⟨false,rfl,(λh=>by cases h),B3.out⟩
theorem z3p (u0 u1 u2:Value) (l0 l1 l2:List (List UInt8×List UInt8)) (w:zA) (hw:Hw w) (s0:SdT u0 l0 w) (s1:SdT u1 l1 w) (s2:SdT u2 l2 w):
 zC zF 7 #[.agg #[u0,u1,u2]] w (YesI w ((∃D,GoS l0 D)/\(∃D,GoS l1 D)/\∃D,GoS l2 D)):=by
 obtain⟨p0,n0,k0,rfl⟩:=s0.any;obtain⟨p1,n1,k1,rfl⟩:=s1.any;obtain⟨p2,n2,k2,rfl⟩:=s2.any;refine z1k p0 p1 p2 n0 n1 n2 k0 k1 k2 (ShS l0/\ShS l1/\ShS l2) _ _ _ w (hid λW A hW hA=>?_) (hid λhF W hW=>zxy _ l0 hF.1 W (hw.below hW).wd (hw.below hW).pw (s0.below hW)) (hid λhF W hW=>zxy _ l1 hF.2.1 W (hw.below hW).wd (hw.below hW).pw (s1.below hW)) (hid λhF W hW=>zxy _ l2 hF.2.2 W (hw.below hW).wd (hw.below hW).pw (s2.below hW));refine(z3o (some ⟨A,0,none⟩) 3 3 (λi=>if i=0 then .slice p0 n0 k0 else if i=1 then .slice p1 n1 k1 else .slice p2 n2 k2) (λi=>if i=0 then l0 else if i=1 then l1 else l2) (by omega) W (hw.below hW).wd (λi hi=>⟨A,0,rfl,?_⟩) (λi hi=>?_)).mono λe w' ⟨t,e1,e2,e3⟩=>⟨t,e1,λh=>⟨e2.1 h 0 (by omega),e2.1 h 1 (by omega),e2.1 h 2 (by omega)⟩,e3⟩
 ·rw[zJ hA]
  match i,hi with
  |0,_|1,_|2,_=>rfl
 ·match i,hi with
  |0,_=>exact s0.below hW
  |1,_=>exact s1.below hW
  |2,_=>exact s2.below hW
end
section
open Go.RowKit Go.Shelf Lib Str Limb
attribute [local go_sem] Oper.semAt_some
theorem zlf (a b c:List UInt8) (w:zA):
 qJ 193 #[.agg #[St a,St b,St c]] w (.agg #[St a,St b,St c]):=by
 go_enter Tryz.func193,Tryz.ntmps193;go_wp21;exact bodyPost_ret (v:=.agg #[St a,St b,St c]) (by simp[results,Tryz.results193,go_sem]) rfl ⟨rfl,((zM _ w).alloc (zN _) _).alloc (by simp) _⟩
theorem zon (a b c d e f:List UInt8) (w:zA)
 (C0:Hid (∀W:zA,qL w W->qJ 52 #[.agg #[St a,St b,St c]] W (.int .i64 0)))
 (C1:Hid (∀W:zA,qL w W->qJ 52 #[.agg #[St d,St e,St f]] W (.int .i64 0))):
 qJ 107 #[.agg #[St a,St b,St c],.agg #[St d,St e,St f]] w (.int .i64 0):=by
 obtain⟨v1,hv⟩:=zzX ((w.alloc (.cells #[St a,St b,St c] 45)).alloc (.cells #[St d,St e,St f] 45));have b1:qL w v1:=by rw[hv];exact((zM _ w).alloc (zN _) _).alloc (by simp) _
 have A2:v1.heap[w.heap.size+1]? =some (.cells #[St d,St e,St f] 45 (0,0)):=by
  rw[hv];have:=zG (w.alloc (.cells #[St a,St b,St c] 45)) (.cells #[St d,St e,St f] 45);rw[zH] at this;exact this
 have B1:=hid b1;have P1:=hid A2;have HV:=hid hv.symm;have HC:=hid (C0.out v1 b1);clear hv b1 A2 C0;go_enter Tryz.func107,Tryz.ntmps107;go_wp21;have h9:=HV.out;rw[show(w.alloc (.cells #[.string ⟨a.toArray⟩,.string ⟨b.toArray⟩,.string ⟨c.toArray⟩] 45)).alloc (.cells #[.string ⟨d.toArray⟩,.string ⟨e.toArray⟩,.string ⟨f.toArray⟩] 45)=v1 from h9];clear h9 HV;refine zzM HC.out λr1 hb=>?_;have hbb:=B1.out.trans (hb.mono B1.out.size);have B2:=hid hbb;have hp:=zac hb _ _ _ _ P1.out;have k0:r1.cell? ⟨w.heap.size+1,0,none⟩=some (St d):=by rw[zJ hp];rfl
 have k1:r1.cell? ⟨w.heap.size+1,1,none⟩=some (St e):=by rw[zJ hp];rfl
 have k2:r1.cell? ⟨w.heap.size+1,2,none⟩=some (St f):=by rw[zJ hp];rfl
 have HS:=hid (C1.out r1 hbb);clear hb hbb hp B1 P1 HC C1;go_wp21;refine zzM HS.out λr2 hb=>?_;have B3:=hid (B2.out.trans (hb.mono B2.out.size));clear hb;go_wp21;go_ret;exact⟨rfl,B3.out⟩
structure WtS (w:zA) (a0 a1 a2 b0 b1 b2 o0 o1 o2:List UInt8) (Y:Nat) (W:zA):Prop where
 bel:qL w W
 h0:W.heap[w.heap.size]? =some (.cells #[St a0,St a1,St a2] 169 (0,0))
 h1:W.heap[w.heap.size+1]? =some (.cells #[St b0,St b1,St b2] 169 (0,0))
 h2:W.heap[w.heap.size+1+1]? =some (.cells #[St [],St [],St []] 45 (0,0))
 h3:W.heap[w.heap.size+1+1+1]? =some (.cells #[St o0,St o1,St o2] 170 (0,0))
 lo:w.heap.size+1+1+1<Y
 h4:W.heap[Y]? =some (.cells #[St b0,St b1,St b2] 170 (0,0))
section
variable {w W W':zA} {a0 a1 a2 b0 b1 b2 o0 o1 o2:List UInt8} {Y:Nat}
theorem WtS.next (h:WtS w a0 a1 a2 b0 b1 b2 o0 o1 o2 Y W) (hb:qL W W'):WtS w a0 a1 a2 b0 b1 b2 o0 o1 o2 Y W':=
 have hc:=zac hb
 ⟨h.bel.trans (hb.mono h.bel.size),hc _ _ _ _ h.h0,hc _ _ _ _ h.h1,hc _ _ _ _ h.h2,hc _ _ _ _ h.h3,h.lo,hc _ _ _ _ h.h4⟩
theorem zah {W:zA} {A:Nat} {x y z:Value} {t:TypeId} (h:W.heap[A]? =some (.cells #[x,y,z] t (0,0))):W.cell? ⟨A,0,none⟩=some x/\W.cell? ⟨A,1,none⟩=some y/\W.cell? ⟨A,2,none⟩=some z/\W.frozen? ⟨A,0,none⟩=false/\W.frozen? ⟨A,1,none⟩=false/\W.frozen? ⟨A,2,none⟩=false:=
 ⟨by rw[zJ h];rfl,by rw[zJ h];rfl,by rw[zJ h];rfl,Go.Joins.unfrozen_of_block h 0,Go.Joins.unfrozen_of_block h 1,Go.Joins.unfrozen_of_block h 2⟩
theorem WtS.ne (h:WtS w a0 a1 a2 b0 b1 b2 o0 o1 o2 Y W) (i:Nat) (u:Value):qL w (W.setCell ⟨w.heap.size+1+1+1,i,none⟩ u)/\(∀b,b≠w.heap.size+1+1+1->(W.setCell ⟨w.heap.size+1+1+1,i,none⟩ u).heap[b]? =W.heap[b]?):=
 ⟨h.bel.setCell (p:=⟨w.heap.size+1+1+1,i,none⟩) (by show _<=w.heap.size+1+1+1;omega) _,λb hb=>Below.heap_setCell _ _ _ _ (by exact hb)⟩
theorem WtS.put0 (h:WtS w a0 a1 a2 b0 b1 b2 o0 o1 o2 Y W) (u:List UInt8):WtS w a0 a1 a2 b0 b1 b2 u o1 o2 Y (W.setCell ⟨w.heap.size+1+1+1,0,none⟩ (St u)):=by
 obtain⟨k1,k2⟩:=h.ne 0 (St u);have:=h.lo;exact⟨k1,(k2 _ (by omega)).trans h.h0,(k2 _ (by omega)).trans h.h1,(k2 _ (by omega)).trans h.h2,zK (i:=0) h.h3 (St u),h.lo,(k2 _ (by omega)).trans h.h4⟩
theorem WtS.put1 (h:WtS w a0 a1 a2 b0 b1 b2 o0 o1 o2 Y W) (u:List UInt8):WtS w a0 a1 a2 b0 b1 b2 o0 u o2 Y (W.setCell ⟨w.heap.size+1+1+1,1,none⟩ (St u)):=by
 obtain⟨k1,k2⟩:=h.ne 1 (St u);have:=h.lo;exact⟨k1,(k2 _ (by omega)).trans h.h0,(k2 _ (by omega)).trans h.h1,(k2 _ (by omega)).trans h.h2,zK (i:=1) h.h3 (St u),h.lo,(k2 _ (by omega)).trans h.h4⟩
theorem WtS.put2 (h:WtS w a0 a1 a2 b0 b1 b2 o0 o1 o2 Y W) (u:List UInt8):WtS w a0 a1 a2 b0 b1 b2 o0 o1 u Y (W.setCell ⟨w.heap.size+1+1+1,2,none⟩ (St u)):=by
 obtain⟨k1,k2⟩:=h.ne 2 (St u);have:=h.lo;exact⟨k1,(k2 _ (by omega)).trans h.h0,(k2 _ (by omega)).trans h.h1,(k2 _ (by omega)).trans h.h2,zK (i:=2) h.h3 (St u),h.lo,(k2 _ (by omega)).trans h.h4⟩
end
theorem zoo (a0 a1 a2 b0 b1 b2 c0 c1 c2:List UInt8) (g:FuncId) (eg:∀args w,(callFunc g args).run zF w=.ok (.enter g args) w) (w:zA)
 (F0:Hid (∀W:zA,qL w W->zC zF g #[St a0,St b0] W λe w'=>e=.returned (.tuple #[St c0,.int .i64 0])/\Below W.heap.size W w'))
 (F1:Hid (∀W:zA,qL w W->zC zF g #[St a1,St b1] W λe w'=>e=.returned (.tuple #[St c1,.int .i64 0])/\Below W.heap.size W w'))
 (F2:Hid (∀W:zA,qL w W->zC zF g #[St a2,St b2] W λe w'=>e=.returned (.tuple #[St c2,.int .i64 0])/\Below W.heap.size W w')):
 qJ 137 #[.agg #[St a0,St a1,St a2],.agg #[St b0,St b1,St b2],.func (.func g) #[] #[]] w (.tuple #[.agg #[St c0,St c1,St c2],.int .i64 0]):=by
 have n0:=λw=>(zdr a0 a1 a2 w).1;have n1:=λw=>(zdr a0 a1 a2 w).2.1;have n2:=λw=>(zdr a0 a1 a2 w).2.2;obtain⟨x1,hx1⟩:=zzX (w.alloc (.cells #[St a0,St a1,St a2] 169));obtain⟨x2,hx2⟩:=zzX (x1.alloc (.cells #[St b0,St b1,St b2] 169));obtain⟨x3,hx3⟩:=zzX (x2.alloc (.cells #[St [],St [],St []] 45));obtain⟨x4,hx4⟩:=zzX (x3.alloc (.cells #[St [],St [],St []] 170));have s1:x1.heap.size=w.heap.size+1:=by rw[hx1];simp
 have s2:x2.heap.size=w.heap.size+1+1:=by rw[hx2,zH,s1]
 have s3:x3.heap.size=w.heap.size+1+1+1:=by rw[hx3,zH,s2]
 have s4:x4.heap.size=w.heap.size+1+1+1+1:=by rw[hx4,zH,s3]
 have q1:qL w x1:=by rw[hx1];exact(zM _ w).alloc (zN _) _
 have q2:qL x1 x2:=by rw[hx2];exact(zM _ x1).alloc (zN _) _
 have q3:qL x2 x3:=by rw[hx3];exact(zM _ x2).alloc (zN _) _
 have q4:qL x3 x4:=by rw[hx4];exact(zM _ x3).alloc (zN _) _
 have f1:x1.heap[w.heap.size]? =some (.cells #[St a0,St a1,St a2] 169 (0,0)):=by rw[hx1];exact zG w _
 have f2:x2.heap[w.heap.size+1]? =some (.cells #[St b0,St b1,St b2] 169 (0,0)):=by rw[hx2,<-s1];exact zG x1 _
 have f3:x3.heap[w.heap.size+1+1]? =some (.cells #[St [],St [],St []] 45 (0,0)):=by rw[hx3,<-s2];exact zG x2 _
 have f4:x4.heap[w.heap.size+1+1+1]? =some (.cells #[St [],St [],St []] 170 (0,0)):=by rw[hx4,<-s3];exact zG x3 _
 have q24:=(q2.trans (q3.mono q2.size)).trans (q4.mono (q2.trans (q3.mono q2.size)).size);have q34:=q3.trans (q4.mono q3.size);have q14:=q1.trans (q24.mono q1.size);have F:=hid (⟨q14,zac q24 _ _ _ _ f1,zac q34 _ _ _ _ f2,zac q4 _ _ _ _ f3,f4,s4⟩:
  qL w x4/\x4.heap[w.heap.size]? =some (.cells #[St a0,St a1,St a2] 169 (0,0))/\x4.heap[w.heap.size+1]? =some (.cells #[St b0,St b1,St b2] 169 (0,0))/\x4.heap[w.heap.size+1+1]? =some (.cells #[St [],St [],St []] 45 (0,0))/\x4.heap[w.heap.size+1+1+1]? =some (.cells #[St [],St [],St []] 170 (0,0))/\x4.heap.size=w.heap.size+1+1+1+1)
 have hall:x4=(((w.alloc (.cells #[St a0,St a1,St a2] 169)).alloc (.cells #[St b0,St b1,St b2] 169)).alloc (.cells #[St [],St [],St []] 45)).alloc (.cells #[St [],St [],St []] 170):=by rw[hx4,hx3,hx2,hx1]
 have HV:=hid hall.symm;have EG:=hid eg;clear hall hx1 hx2 hx3 hx4 s1 s2 s3 s4 q1 q2 q3 q4 f1 f2 f3 f4 q24 q34 q14 eg;clear x1 x2 x3;go_enter Tryz.func137,Tryz.ntmps137;go_wp21;have h9:=HV.out;rw[show(((w.alloc (.cells #[.string ⟨a0.toArray⟩,.string ⟨a1.toArray⟩,.string ⟨a2.toArray⟩] 169)).alloc (.cells #[.string ⟨b0.toArray⟩,.string ⟨b1.toArray⟩,.string ⟨b2.toArray⟩] 169)).alloc (.cells #[.string ⟨#[]⟩,.string ⟨#[]⟩,.string ⟨#[]⟩] 45)).alloc (.cells #[.string ⟨#[]⟩,.string ⟨#[]⟩,.string ⟨#[]⟩] 170)=x4 from h9];clear h9 HV;refine zzM (zda b0 b1 b2 x4) λr0 hb=>?_;obtain⟨y4,hy⟩:=zzX (r0.alloc (.cells #[St b0,St b1,St b2] 170));have by4:qL r0 y4:=by rw[hy];exact(zM _ r0).alloc (zN _) _
 obtain⟨Y,hY⟩:=zzX r0.heap.size;have hYb:y4.heap[Y]? =some (.cells #[St b0,St b1,St b2] 170 (0,0)):=by rw[hy,hY];exact zG r0 _
 have hx:=hb.trans (by4.mono hb.size);have hck:=zac hx;have HS0:Hid (WtS w a0 a1 a2 b0 b1 b2 [] [] [] Y y4):=hid ⟨F.out.1.trans (hx.mono F.out.1.size),hck _ _ _ _ F.out.2.1,hck _ _ _ _ F.out.2.2.1,hck _ _ _ _ F.out.2.2.2.1,hck _ _ _ _ F.out.2.2.2.2.1,by have:=hb.size;have:=F.out.2.2.2.2.2;omega,hYb⟩;have y0:y4.cell? ⟨w.heap.size,0,none⟩=some (St a0):=(zah HS0.out.h0).1;have y1:y4.cell? ⟨w.heap.size,1,none⟩=some (St a1):=(zah HS0.out.h0).2.1;have y2:y4.cell? ⟨w.heap.size,2,none⟩=some (St a2):=(zah HS0.out.h0).2.2.1;have HY:=hid hy.symm;have HYe:=hid hY.symm;clear hb hx hck hy hY by4 hYb F;rw[<-HY.out] at y0 y1 y2;go_wp21;have h9:=HY.out;rw[show r0.alloc (.cells #[.string ⟨b0.toArray⟩,.string ⟨b1.toArray⟩,.string ⟨b2.toArray⟩] 170)=y4 from h9,HYe.out];clear h9 HY HYe y0 y1 y2;refine zzM (zda a0 a1 a2 y4) λt3 hb=>?_;have HP3:=hid (HS0.out.next hb);clear hb HS0;go_wp21;refine wp_loop_rounds 4 ?_;rw[rounds_succ];obtain⟨d0,d1,d2, -, -, -⟩:=zah HP3.out.h4;have heg:=EG.out;have HC:=hid (F0.out t3 HP3.out.bel);go_wp21;clear d0 d1 d2 heg;refine zzM HC.out λr0 hb=>?_;have HR0:=hid (HP3.out.next hb);clear hb HC HP3;obtain⟨d0,d1,d2,z0,z1,z2⟩:=zah HR0.out.h3;obtain⟨t0,ht0⟩:=zzX (r0.setCell ⟨w.heap.size+1+1+1,0,none⟩ (St c0));have hp:=HR0.out.put0 c0;rw[<-ht0] at hp;have HQ0:=hid hp;have HT:=hid ht0.symm;clear hp ht0;go_wp21;have h9:=HT.out;rw[show r0.setCell ⟨w.heap.size+1+1+1,0,none⟩ (.string ⟨c0.toArray⟩)=t0 from h9];clear h9 HT d0 d1 d2 z0 z1 z2 HR0;rw[rounds_succ]
 obtain⟨d0,d1,d2, -, -, -⟩:=zah HQ0.out.h4;have heg:=EG.out;have HC:=hid (F1.out t0 HQ0.out.bel);go_wp21;clear d0 d1 d2 heg;refine zzM HC.out λr1 hb=>?_;have HR1:=hid (HQ0.out.next hb);clear hb HC HQ0;obtain⟨d0,d1,d2,z0,z1,z2⟩:=zah HR1.out.h3;obtain⟨t1,ht1⟩:=zzX (r1.setCell ⟨w.heap.size+1+1+1,1,none⟩ (St c1));have hp:=HR1.out.put1 c1;rw[<-ht1] at hp;have HQ1:=hid hp;have HT:=hid ht1.symm;clear hp ht1;go_wp21;have h9:=HT.out;rw[show r1.setCell ⟨w.heap.size+1+1+1,1,none⟩ (.string ⟨c1.toArray⟩)=t1 from h9];clear h9 HT d0 d1 d2 z0 z1 z2 HR1;rw[rounds_succ];obtain⟨d0,d1,d2, -, -, -⟩:=zah HQ1.out.h4;have heg:=EG.out;have HC:=hid (F2.out t1 HQ1.out.bel);go_wp21;clear d0 d1 d2 heg;refine zzM HC.out λr2 hb=>?_;have HR2:=hid (HQ1.out.next hb);clear hb HC HQ1;obtain⟨d0,d1,d2,z0,z1,z2⟩:=zah HR2.out.h3;obtain⟨t2,ht2⟩:=zzX (r2.setCell ⟨w.heap.size+1+1+1,2,none⟩ (St c2));have hp:=HR2.out.put2 c2;rw[<-ht2] at hp;have HQ2:=hid hp;have HT:=hid ht2.symm;clear hp ht2;go_wp21;have h9:=HT.out;rw[show r2.setCell ⟨w.heap.size+1+1+1,2,none⟩ (.string ⟨c2.toArray⟩)=t2 from h9];clear h9 HT d0 d1 d2 z0 z1 z2 HR2;rw[rounds_succ];obtain⟨d0,d1,d2, -, -, -⟩:=zah HQ2.out.h3;go_wp21;clear d0 d1 d2;refine zzM (zlf c0 c1 c2 t2) λr3 hb=>?_;have hn:=HQ2.out.next hb;obtain⟨d0,d1,d2,z0,z1,z2⟩:=zah hn.h2;have HF:=hid hn;clear hn hb HQ2;go_wp21;have hf:=HF.out.bel
 exact bodyPost_ret (v:=.tuple #[.agg #[St c0,St c1,St c2],.int .i64 0]) (by simp[results,Tryz.results137,go_sem,d0,d1,d2]) rfl ⟨rfl,((hf.setCell (p:=⟨w.heap.size+1+1,0,none⟩) (by show _<=w.heap.size+1+1;omega) _).setCell (p:=⟨w.heap.size+1+1,1,none⟩) (by show _<=w.heap.size+1+1;omega) _).setCell (p:=⟨w.heap.size+1+1,2,none⟩) (by show _<=w.heap.size+1+1;omega) _⟩
theorem zfs {w v1:zA} {a b c d e f:Value} {s t:TypeId} (hv:v1=(w.alloc (.cells #[a,b,c] s)).alloc (.cells #[d,e,f] t)):
 qL w v1/\v1.heap[w.heap.size]? =some (.cells #[a,b,c] s (0,0))/\v1.heap[w.heap.size+1]? =some (.cells #[d,e,f] t (0,0))/\v1.heap.size=w.heap.size+1+1:=by
 refine⟨by rw[hv];exact((zM _ w).alloc (zN _) _).alloc (by simp) _,by rw[hv];exact(Below.heap_alloc _ _ _ (by simp)).trans (zG w _),?_,by rw[hv];simp⟩;rw[hv];have:=zG (w.alloc (.cells #[a,b,c] s)) (.cells #[d,e,f] t);rw[zH] at this;exact this
theorem zqa (a0 a1 a2 b0 b1 b2 c0 c1 c2 s r:List UInt8) (w:zA)
 (WI:Hid (∀W:zA,qL w W->qJ 137 #[.agg #[St a0,St a1,St a2],.agg #[St b0,St b1,St b2],.func (.func 10) #[] #[]] W (.tuple #[.agg #[St c0,St c1,St c2],.int .i64 0])))
 (D1:Hid (∀W:zA,qL w W->qJ 160 #[St c0,St c1] W (.tuple #[St s,.int .i64 0])))
 (D2:Hid (∀W:zA,qL w W->qJ 160 #[St s,St c2] W (.tuple #[St r,.int .i64 0]))):
 qJ 108 #[.agg #[St a0,St a1,St a2],.agg #[St b0,St b1,St b2]] w (.tuple #[St r,.int .i64 0]):=by
 obtain⟨v1,hv⟩:=zzX ((w.alloc (.cells #[St a0,St a1,St a2] 169)).alloc (.cells #[St b0,St b1,St b2] 169));have b1:=(zfs hv).1;have HC:=hid (WI.out v1 b1);have B1:=hid b1;have HV:=hid hv.symm;clear hv b1 WI;go_enter Tryz.func108,Tryz.ntmps108;go_wp21;have h9:=HV.out;rw[show(w.alloc (.cells #[.string ⟨a0.toArray⟩,.string ⟨a1.toArray⟩,.string ⟨a2.toArray⟩] 169)).alloc (.cells #[.string ⟨b0.toArray⟩,.string ⟨b1.toArray⟩,.string ⟨b2.toArray⟩] 169)=v1 from h9];clear h9 HV;refine zzM HC.out λr0 hb=>?_;obtain⟨y4,hy⟩:=zzX (r0.alloc (.cells #[St c0,St c1,St c2] 45));have by4:qL r0 y4:=by rw[hy];exact(zM _ r0).alloc (zN _) _
 obtain⟨Y,hY⟩:=zzX r0.heap.size;have hYb:y4.heap[Y]? =some (.cells #[St c0,St c1,St c2] 45 (0,0)):=by rw[hy,hY];exact zG r0 _
 have hx:=hb.trans (by4.mono hb.size);have hB:=B1.out.trans (hx.mono B1.out.size);have B2:=hid hB;have HD:=hid (D1.out y4 hB);have P2:=hid hYb;obtain⟨d0,d1,d2, -, -, -⟩:=zah hYb;have HY:=hid hy.symm;have HYe:=hid hY.symm;clear hb hx hy hY by4 hYb hB B1 D1 HC;rw[<-HY.out] at d0 d1 d2;go_wp21;have h9:=HY.out;rw[show r0.alloc (.cells #[.string ⟨c0.toArray⟩,.string ⟨c1.toArray⟩,.string ⟨c2.toArray⟩] 45)=y4 from h9]
 try rw[HYe.out]
 clear h9 HY HYe d0 d1 d2;refine zzM HD.out λr1 hb=>?_;have hB:=B2.out.trans (hb.mono B2.out.size);have B3:=hid hB;have HD2:=hid (D2.out r1 hB);obtain⟨d0,d1,d2, -, -, -⟩:=zah (zac hb _ _ _ _ P2.out);clear hb hB HD D2 B2 P2;go_wp21;clear d0 d1 d2;refine zzM HD2.out λr2 hb=>?_;have B4:=hid (B3.out.trans (hb.mono B3.out.size));clear hb HD2 B3;go_wp21;go_ret2;exact⟨rfl,B4.out⟩
theorem zll (a0 a1 a2 b0 b1 b2 r:List UInt8) (w:zA)
 (BO:Hid (∀W:zA,qL w W->qJ 107 #[.agg #[St a0,St a1,St a2],.agg #[St b0,St b1,St b2]] W (.int .i64 0)))
 (DO:Hid (∀W:zA,qL w W->qJ 108 #[.agg #[St a0,St a1,St a2],.agg #[St b0,St b1,St b2]] W (.tuple #[St r,.int .i64 0]))):
 qJ 47 #[.agg #[St a0,St a1,St a2],.agg #[St b0,St b1,St b2]] w (.tuple #[St r,.int .i64 0]):=by
 obtain⟨v1,hv⟩:=zzX ((w.alloc (.cells #[St a0,St a1,St a2] 45)).alloc (.cells #[St b0,St b1,St b2] 45));obtain⟨b1,p1,p2, -⟩:=zfs hv;have HC:=hid (BO.out v1 b1);have B1:=hid b1;have P1:=hid p1;have P2:=hid p2;have HV:=hid hv.symm;clear hv b1 BO p1 p2;go_enter Tryz.func47,Tryz.ntmps47;go_wp21;have h9:=HV.out;rw[show(w.alloc (.cells #[.string ⟨a0.toArray⟩,.string ⟨a1.toArray⟩,.string ⟨a2.toArray⟩] 45)).alloc (.cells #[.string ⟨b0.toArray⟩,.string ⟨b1.toArray⟩,.string ⟨b2.toArray⟩] 45)=v1 from h9];clear h9 HV;refine zzM HC.out λr0 hb=>?_;have hB:=B1.out.trans (hb.mono B1.out.size);have B2:=hid hB;have HD:=hid (DO.out r0 hB);obtain⟨d0,d1,d2, -, -, -⟩:=zah (zac hb _ _ _ _ P1.out);obtain⟨d3,d4,d5, -, -, -⟩:=zah (zac hb _ _ _ _ P2.out);clear hb hB B1 DO HC P1 P2;go_wp21;clear d0 d1 d2 d3 d4 d5;refine zzM HD.out λr2 hb=>?_;have B4:=hid (B2.out.trans (hb.mono B2.out.size));clear hb HD B2;go_wp21;go_ret2;exact⟨rfl,B4.out⟩
theorem zhm {w v1:zA} {a b c d e f x y z:Value} {s t u:TypeId} (hv:v1=((w.alloc (.cells #[a,b,c] s)).alloc (.cells #[d,e,f] t)).alloc (.cells #[x,y,z] u)):
 qL w v1/\v1.heap[w.heap.size]? =some (.cells #[a,b,c] s (0,0))/\v1.heap[w.heap.size+1]? =some (.cells #[d,e,f] t (0,0))/\v1.heap[w.heap.size+1+1]? =some (.cells #[x,y,z] u (0,0))/\v1.heap.size=w.heap.size+1+1+1:=by
 obtain⟨v0,h0⟩:=zzX ((w.alloc (.cells #[a,b,c] s)).alloc (.cells #[d,e,f] t));obtain⟨h1,h2,h3,h4⟩:=zfs h0;rw[<-h0] at hv;have hb:qL v0 v1:=by rw[hv];exact(zM _ v0).alloc (zN _) _
 have hc:=zac hb;exact⟨h1.trans (hb.mono h1.size),hc _ _ _ _ h2,hc _ _ _ _ h3,by rw[hv,<-h4];exact zG v0 _,by rw[hv,zH,h4]⟩
theorem zjm (a0 a1 a2 b0 b1 b2 c0 c1 c2:List UInt8) (w:zA)
 (BO:Hid (∀W:zA,qL w W->qJ 107 #[.agg #[St a0,St a1,St a2],.agg #[St b0,St b1,St b2]] W (.int .i64 0)))
 (DO:Hid (∀W:zA,qL w W->qJ 134 #[.agg #[St a0,St a1,St a2],.agg #[St b0,St b1,St b2]] W (.tuple #[.agg #[St c0,St c1,St c2],.int .i64 0]))):
 qJ 81 #[.agg #[St a0,St a1,St a2],.agg #[St b0,St b1,St b2]] w (.tuple #[.agg #[St c0,St c1,St c2],.int .i64 0]):=by
 obtain⟨v1,hv⟩:=zzX (((w.alloc (.cells #[St a0,St a1,St a2] 45)).alloc (.cells #[St b0,St b1,St b2] 45)).alloc (.cells #[St [],St [],St []] 45));obtain⟨b1,p1,p2,p3, -⟩:=zhm hv;have HC:=hid (BO.out v1 b1);have B1:=hid b1;have P1:=hid p1;have P2:=hid p2;have P3:=hid p3;have HV:=hid hv.symm;clear hv b1 BO p1 p2 p3;go_enter Tryz.func81,Tryz.ntmps81;go_wp21;have h9:=HV.out;rw[show((w.alloc (.cells #[.string ⟨a0.toArray⟩,.string ⟨a1.toArray⟩,.string ⟨a2.toArray⟩] 45)).alloc (.cells #[.string ⟨b0.toArray⟩,.string ⟨b1.toArray⟩,.string ⟨b2.toArray⟩] 45)).alloc (.cells #[.string ⟨#[]⟩,.string ⟨#[]⟩,.string ⟨#[]⟩] 45)=v1 from h9];clear h9 HV;refine zzM HC.out λr0 hb=>?_;have hB:=B1.out.trans (hb.mono B1.out.size);have B2:=hid hB;have HD:=hid (DO.out r0 hB);obtain⟨d0,d1,d2, -, -, -⟩:=zah (zac hb _ _ _ _ P1.out);obtain⟨d3,d4,d5, -, -, -⟩:=zah (zac hb _ _ _ _ P2.out);have P4:=hid (zac hb _ _ _ _ P3.out);clear hb hB B1 DO HC P1 P2 P3;go_wp21;clear d0 d1 d2 d3 d4 d5;refine zzM HD.out λr2 hb=>?_;have hf:=B2.out.trans (hb.mono B2.out.size);have B4:=hid hf;obtain⟨d0,d1,d2,z0,z1,z2⟩:=zah (zac hb _ _ _ _ P4.out);clear hb HD B2 P4 hf;go_wp21
 exact bodyPost_ret (v:=.tuple #[.agg #[St c0,St c1,St c2],.int .i64 0]) (by simp[results,Tryz.results81,go_sem,d0,d1,d2]) rfl ⟨rfl,((B4.out.setCell (p:=⟨w.heap.size+1+1,0,none⟩) (by show _<=w.heap.size+1+1;omega) _).setCell (p:=⟨w.heap.size+1+1,1,none⟩) (by show _<=w.heap.size+1+1;omega) _).setCell (p:=⟨w.heap.size+1+1,2,none⟩) (by show _<=w.heap.size+1+1;omega) _⟩
theorem zj3 (a0 a1 a2 x c0 c1 c2:List UInt8) (w:zA)
 (CK:Hid (∀W:zA,qL w W->qJ 52 #[.agg #[St a0,St a1,St a2]] W (.int .i64 0)))
 (CX:Hid (∀W:zA,qL w W->qJ 41 #[St x] W (.int .i64 0)))
 (WI:Hid (∀W:zA,qL w W->qJ 137 #[.agg #[St a0,St a1,St a2],.agg #[St x,St x,St x],.func (.func 10) #[] #[]] W (.tuple #[.agg #[St c0,St c1,St c2],.int .i64 0]))):
 qJ 83 #[.agg #[St a0,St a1,St a2],St x] w (.tuple #[.agg #[St c0,St c1,St c2],.int .i64 0]):=by
 obtain⟨v1,hv⟩:=zzX ((w.alloc (.cells #[St a0,St a1,St a2] 45)).alloc (.cells #[St [],St [],St []] 45));obtain⟨b1,p1,p2, -⟩:=zfs hv;have HC:=hid (CK.out v1 b1);have B1:=hid b1;have P1:=hid p1;have P2:=hid p2;have HV:=hid hv.symm;clear hv b1 CK p1 p2;go_enter Tryz.func83,Tryz.ntmps83;go_wp21;have h9:=HV.out;rw[show(w.alloc (.cells #[.string ⟨a0.toArray⟩,.string ⟨a1.toArray⟩,.string ⟨a2.toArray⟩] 45)).alloc (.cells #[.string ⟨#[]⟩,.string ⟨#[]⟩,.string ⟨#[]⟩] 45)=v1 from h9];clear h9 HV;refine zzM HC.out λr0 hb=>?_;have hB:=B1.out.trans (hb.mono B1.out.size);have B2:=hid hB;have HD:=hid (CX.out r0 hB);have P3:=hid (zac hb _ _ _ _ P1.out);have P4:=hid (zac hb _ _ _ _ P2.out);clear hb hB B1 CX HC P1 P2;go_wp21;refine zzM HD.out λr1 hb=>?_;have hB:=B2.out.trans (hb.mono B2.out.size);have B3:=hid hB;have HW:=hid (WI.out r1 hB);obtain⟨d0,d1,d2, -, -, -⟩:=zah (zac hb _ _ _ _ P3.out);have P5:=hid (zac hb _ _ _ _ P4.out);clear hb hB B2 WI HD P3 P4;go_wp21;clear d0 d1 d2;refine zzM HW.out λr2 hb=>?_;have B4:=hid (B3.out.trans (hb.mono B3.out.size));obtain⟨d0,d1,d2,z0,z1,z2⟩:=zah (zac hb _ _ _ _ P5.out);clear hb HW B3 P5;go_wp21;exact bodyPost_ret (v:=.tuple #[.agg #[St c0,St c1,St c2],.int .i64 0]) (by simp[results,Tryz.results83,go_sem,d0,d1,d2]) rfl ⟨rfl,((B4.out.setCell (p:=⟨w.heap.size+1,0,none⟩) (by show _<=w.heap.size+1;omega) _).setCell (p:=⟨w.heap.size+1,1,none⟩) (by show _<=w.heap.size+1;omega) _).setCell (p:=⟨w.heap.size+1,2,none⟩) (by show _<=w.heap.size+1;omega) _⟩
end
end Go.Proofs.YtgeapfaiacoajaaGreatDoor
