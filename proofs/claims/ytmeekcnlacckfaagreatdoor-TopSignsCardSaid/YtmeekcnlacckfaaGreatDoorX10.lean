/- kingpostref01.Compare. -/
import Derived.Test.YtmeekcnlacckfaaGreatDoorX09
import Derived.Deep.Onto
set_option maxRecDepth 100000
set_option maxHeartbeats 8000000
open Go renaming World → zA, Calls → zC
open Go.RowKit renaming Below → zB, intOf → zL
open Go.Lib renaming decDigits → zD, itoa → zE
open Go.Proofs.Tryz renaming prog → zF
open Go.World renaming alloc_heap_new → zG, size_alloc → zH
open Go.IntWalk renaming i64_in → zI
open Go.Joins renaming cell_of_block → zJ, block_setCell → zK
open Go.RowKit.Below renaming refl → zM, heap_setCell → yE
open Nat renaming le_refl → zN, le_trans → zO, zero_le → zR, lt_of_lt_of_le → zS, pow_le_pow_right → yF, pos_of_ne_zero → yS
open List renaming getElem?_eq_getElem → yB, append_nil → yH
namespace Go.Proofs.YtmeekcnlacckfaaGreatDoor
section
open Go.RowKit Go.Shelf Lib Str Limb
attribute [local go_sem] Oper.semAt_some
theorem z1w (x y:Int) (hx:(zE x).length<=17) (hy:(zE y).length<=17) (w:zA):
 qJ 278 #[St (zE x),St (zE y)] w (.tuple #[.int .i64 (cmpZ x y),.int .i64 0]):=by
 have c1:=λW=>zcb x y (zO (zbr x) (by omega)) (zO (zbr y) (by omega)) W;have c2:=λW=>ze3 x y hx hy W;have C1:=hid c1;have C2:=hid c2;have CZ:=hid (show(x<y->cmpZ x y= -1)/\(y<x->cmpZ x y=1)/\(x=y->cmpZ x y=0) by
  unfold cmpZ;refine⟨λh=>?_,λh=>?_,λh=>?_⟩
  ·simp[h]
  ·have:¬x<y:=by omega
   have h2:¬x=y:=by omega
   simp[this,h]
  ·subst h;simp)
 clear c1 c2 hx hy;generalize zE x=u at*
 generalize zE y=v at*
 generalize cmpZ x y=z at*
 have hB:=hid (zM w.heap.size w);go_enter Tryz.func278,Tryz.ntmps278;go_wp21;refine zzM (C1.out w) λw1 hw1=>?_;subst hw1;go_wp21;refine zzM (C2.out w1) λw2 hw2=>?_;subst hw2;rcases Int.lt_trichotomy x y with h|h|h
 ·obtain rfl:=CZ.out.1 h
  go_wp21;go_ret2;exact⟨rfl,hB.out⟩
 ·obtain rfl:=CZ.out.2.2 h
  subst h;go_wp21;go_ret2;exact⟨rfl,hB.out⟩
 ·obtain rfl:=CZ.out.2.1 h
  have h2:¬x<y:=by omega
  go_wp21;go_ret2;exact⟨rfl,hB.out⟩
theorem z4u (x y:Int) (h:17<(zE x).length\/17<(zE y).length) (hx:digs x<=300) (hy:digs y<=300) (w:zA):
 qJ 278 #[St (zE x),St (zE y)] w (.tuple #[.int .i64 (cmpZ x y),.int .i64 0]):=by
 have c1:=λW=>zcb x y hx hy W;have c2:=λW=>zf5 x y h (zO (za7 x) (by omega)) (zO (za7 y) (by omega)) W;have c3:=λW=>zcp x W (by omega);have c4:=λW=>zcp y W (by omega);have bx:=zc6 x 50 (by omega) hx;have by':=zc6 y 50 (by omega) hy;have c7:=λvy W h1=>ya8 (decide (y<0)) vy y.natAbs W h1 (by omega);rw[zcs] at c7;have c5:=λm' vx vy n' (hs:sgn m' n'= -y) W h1 h2=>ya7 (decide (x<0)) m' vx vy x.natAbs n' W h1 h2 (by omega) (by have:=zge m' n';rw[hs,Int.natAbs_neg] at this;rw[<-this];omega);have C5:=hid (show ∀m' vx vy n',sgn m' n'= -y->∀W:zA,Sl W vx ((zaa B6 x.natAbs).map I)->Sl W vy ((zaa B6 n').map I)->zC zF 320 #[.agg #[.bool (decide (x<0)),vx],.agg #[.bool m',vy]] W (z50 W (x-y)) from λm' vx vy n' hs W h1 h2=>by
  have:=c5 m' vx vy n' hs W h1 h2;rw[zcs,hs] at this;exact this)
 have CZ:=hid (show(x<y->cmpZ x y= -1)/\(y<x->cmpZ x y=1)/\(x=y->cmpZ x y=0) by
  unfold cmpZ;refine⟨λh=>?_,λh=>?_,λh=>?_⟩
  ·simp[h]
  ·have:¬x<y:=by omega
   simp[this,h]
  ·subst h;simp)
 have C1:=hid c1;have C2:=hid c2;have C3:=hid c3;have C4:=hid c4;have C7:=hid c7;clear c1 c2 c3 c4 c5 c7 hx hy h bx by';generalize zE x=u at*
 generalize zE y=v at*
 generalize decide (x<0)=mx at*
 generalize decide (y<0)=my at*
 generalize cmpZ x y=z at*
 go_enter Tryz.func278,Tryz.ntmps278;go_wp21;refine zzM (C1.out w) λw1 hw1=>?_;subst hw1;go_wp21;refine(C2.out w1).mono ?_;rintro e w2 ⟨⟨a,b,rfl⟩,hw2⟩;subst hw2;go_wp21;refine(C3.out w2).mono ?_;rintro e w3 ⟨vx,rfl,hsx,hb3⟩;have H3:=hid (⟨hsx,hb3⟩:_/\_);clear hsx hb3;go_wp21;refine(C4.out w3).mono ?_;rintro e w4 ⟨vy,rfl,hsy,hb4⟩;have H4:=hid (⟨H3.out.1.below hb4,hsy,H3.out.2.trans (hb4.mono H3.out.2.size)⟩:_/\_/\_);clear hsy hb4 H3;go_wp21;refine(C7.out vy w4 H4.out.2.1).mono ?_;rintro e w5 ⟨m',vn,n',rfl,hs',hsn,hb5⟩;have H5:=hid (⟨H4.out.1.below hb5,hsn,H4.out.2.2.trans (hb5.mono H4.out.2.2.size),hs'⟩:_/\_/\_/\_);clear hsn hb5 hs' H4;go_wp21;refine(C5.out m' vx vn n' H5.out.2.2.2 w5 H5.out.1 H5.out.2.1).mono ?_;rintro e w6 ⟨m,vz,n,rfl,hs,hsz,hb6⟩;obtain⟨pz,cz,rfl, -⟩:=hsz;have hB6:=H5.out.2.2.1.trans (hb6.mono H5.out.2.2.1.size);have HB:=hid (hB6.alloc hB6.size (.cells #[.bool m,.slice pz ((zaa B6 n).map I).length cz] 203));have hl:((zaa B6 n).map I).length=0↔n=0:=by
  rw[List.length_map,List.length_eq_zero_iff];exact zbd (by decide) n
 generalize ((zaa B6 n).map I).length=L at*
 clear hb6 H5 hB6;rcases Nat.eq_zero_or_pos n with h0|h0
 ·have hL:L=0:=hl.2 h0
  obtain rfl:=CZ.out.2.2 (by rw[h0] at hs;cases m<;>simp[sgn] at hs<;>omega);subst hL;clear hl hs;go_wp21;go_ret2;exact⟨rfl,HB.out⟩
 ·have hL:((L:Int)==0)=false:=by rw[beq_eq_false_iff_ne];have:=hl.1;omega
  clear hl;cases m
  ·obtain rfl:=CZ.out.2.1 (by simp[sgn] at hs;omega)
   clear hs;go_wp21;go_ret2;exact⟨rfl,HB.out⟩
  ·obtain rfl:=CZ.out.1 (by simp[sgn] at hs;omega)
   clear hs;go_wp21;go_ret2;exact⟨rfl,HB.out⟩
theorem z7b (x y:Int) (hx:digs x<=300) (hy:digs y<=300) (w:zA):
 qJ 278 #[St (zE x),St (zE y)] w (.tuple #[.int .i64 (cmpZ x y),.int .i64 0]):=by
 by_cases h:17<(zE x).length\/17<(zE y).length
 ·exact z4u x y h hx hy w
 ·exact z1w x y (by omega) (by omega) w
theorem zvk (x y:Int) (hx:(zE x).length<=17) (hy:(zE y).length<=17) (w:zA) (hw:Wd w):
 qJ 95 #[St (zE x),St (zE y)] w (.tuple #[St (zE (Int.gcd x y:Int)),.int .i64 0]):=by
 obtain⟨x1,x2⟩:=lt18 (zO hx (by omega));obtain⟨y1,y2⟩:=lt18 (zO hy (by omega));have hb:=λW=>zcb x y (zO (zbf (by omega)) (by omega)) (zO (zbf (by omega)) (by omega)) W;have hs:=λW=>ze3 x y hx hy W;have HB:=hid hb;clear hb;have HS:=hid hs;clear hs hx hy;have HW:=hid hw;clear hw;obtain⟨g,hg⟩:=zzX (Int.gcd x y);rw[<-hg];have HG:=hid hg;clear hg;go_enter Tryz.func95,Tryz.ntmps95;go_wp21;refine zzM (HB.out w) λw1 hw1=>?_;have hw1':=hw1.symm;subst hw1';go_wp21;refine zzM (HS.out w) λw2 hw2=>?_;have hw2':=hw2.symm;subst hw2';have hB2:qL w w:=zM _ _;go_wp21;go_loopw [7,8] (λa b wr=>∃m n:Int,a=.int .i64 m/\b=.int .i64 n/\Hid (Int.gcd m n=g)/\(-1000000000000000000<m/\m<1000000000000000000)/\(-1000000000000000000<n/\n<1000000000000000000)/\Hid (qL w wr))
  (λ_ b _=>(zL b).natAbs)
 case atStart=>exact⟨x,y,rfl,rfl,HG.out.symm,⟨x1,x2⟩,⟨y1,y2⟩,hB2⟩
 case round=>
  clear x1 x2 y1 y2 hB2;obtain⟨m,n,rfl,rfl,hgm,⟨m1,m2⟩,⟨n1,n2⟩,hBr⟩:=hrel;by_cases h0:n=0
  ·subst h0
   have hgm':Int.gcd m 0=g:=hgm.out;rw[Int.gcd_zero_right] at hgm';have hmx:max m (-m)=(g:Int):=by omega
   have HM:=hid hgm';clear hgm hgm';have hg1:(g:Int)<=1000000000000000000:=by omega
   have hneg:IntKind.i64.wrap (-m)= -m:=zI _ (by omega);go_wp21;refine zzM (zb3 (g:Int) (by omega) (by omega) wr (HW.out.below hBr.out)) λw3 hb3=>?_;have hB3:=hBr.out.trans (hb3.mono hBr.out.size);clear hb3;go_wp21;go_ret2;exact⟨rfl,hB3⟩
  ·have hn0:(n !=0)=true:=by simpa using h0
   have ht1:(m.tmod n).natAbs<n.natAbs:=by rw[Int.natAbs_tmod];exact Nat.mod_lt _ (by omega)
   obtain⟨t,ht⟩:=zzX (m.tmod n);have hgt:=zmt m n;rw[<-ht] at ht1 hgt;have hwr:IntKind.i64.wrap (m.tmod n)=t:=by rw[<-ht];exact zI _ (by omega)
   have HGT:=hid hgt;have HT:=hid ht;clear hgt ht hwr;go_wp2
   (refine wp_region_quiet_lit (by kernel_rfl) (by kernel_rfl) (WQ.out ?_);(repeat(first|(apply WQ.read (by rfl);(focus(rintro W ⟨n,rfl⟩;go_simp;try with_reducible rfl));try simp only[zzQ])|(apply WQ.skip (by rfl);try simp only[zzQ])));refine WQ.nil ?_;rintro _ ⟨nq,rfl⟩)
   go_wp2;go_roundw
   case rel=>exact⟨n,t,rfl,by rw[HT.out],HGT.out.trans hgm.out,⟨n1,n2⟩,by omega,zao hBr.out _⟩
   case measure=>show(m.tmod n).natAbs<n.natAbs;rw[<-HT.out];exact ht1
theorem zm2 (b:Bool) (p:Option Addr) (k c:Nat) (W:zA):(Instr.field 203 (.agg #[.bool b,.slice p k c]) 1).run zF W=.ok (.slice p k c) W:=by kernel_rfl
theorem zxq (x y:Int) (hx:digs x<=300) (hy:digs y<=300) (h:17<(zE x).length\/17<(zE y).length) (w:zA) (hw:Wd w):
 qJ 95 #[St (zE x),St (zE y)] w (.tuple #[St (zE (Int.gcd x y:Int)),.int .i64 0]):=by
 have hb:=λW=>zcb x y hx hy W;have hs:=λW=>zf5 x y h (zO (za7 x) (by omega)) (zO (za7 y) (by omega)) W;have r1:=λW=>zcp x W (by omega);have r2:=λW=>zcp y W (by omega);have l1:=zO (zc6 x 50 (by omega) hx) (show 50<=100 by omega);have l2:=zO (zc6 y 50 (by omega) hy) (show 50<=100 by omega);have hgd:=zq4 x y hx hy;have HB:=hid hb;clear hb;have HS:=hid hs;clear hs hx hy h;have HW:=hid hw;clear hw;have R1:=hid r1;have R2:=hid r2;clear r1 r2;obtain⟨g,hg⟩:=zzX (Int.gcd x y);rw[<-hg] at hgd⊢;have HG:=hid hg;clear hg;have hfd:=zm2;go_enter Tryz.func95,Tryz.ntmps95;go_wp21;refine zzM (HB.out w) λw1 hw1=>?_;have hw1':=hw1.symm;subst hw1';go_wp21;refine(HS.out w).mono ?_;rintro e w2 ⟨⟨za,zb,rfl⟩,hw2⟩;have hw2':=hw2.symm;subst hw2';go_wp21;refine(R1.out w).mono ?_;rintro e w2 ⟨vx,rfl,hvx,hb2⟩;have hB2:=hb2;clear hb2;obtain⟨px,kx,cx,rfl, -⟩:=zbx hvx;have HVX:=hid hvx;clear hvx;go_wp21;refine(R2.out w2).mono ?_;rintro e w3 ⟨vy,rfl,hvy,hb3⟩;have hvx:=HVX.out.below hb3;have hB3:=hB2.trans (hb3.mono hB2.size);clear hb3 hB2 HVX;obtain⟨py,ky,cy,rfl, -⟩:=zbx hvy;have HVX:=hid hvx;have HVY:=hid hvy;clear hvx hvy;go_wp2;go_loopg [10,11] y.natAbs (λk va vb wr=>∃a b p kb c,vb=.slice p kb c/\Hid (k=b)/\Hid (kb=(zaa B6 b).length)/\(zaa B6 a).length<=100/\(zaa B6 b).length<=100/\Hid (Sl wr va ((zaa B6 a).map I))/\Hid (Sl wr vb ((zaa B6 b).map I))/\Hid (Nat.gcd a b=g)/\Hid (qL w wr))
 case atStart=>
  obtain⟨p,k,c,e,hk⟩:=zbx HVY.out;cases e;exact⟨x.natAbs,y.natAbs,py,ky,cy,rfl,rfl,hk,l1,l2,HVX.out,HVY.out,HG.out.symm,hB3⟩
 case round=>
  clear HVX HVY hB3;obtain⟨a,b,p,kb,c,rfl,hk,hkb,la,lb,hva,hvb,hgc,hBr⟩:=hrel;by_cases h0:kb=0
  ·have hb0:b=0:=(zbd (B:=B6) (by decide) b).1 (List.length_eq_zero_iff.1 (by rw[<-hkb.out];exact h0))
   have hga:a=g:=by have:=hgc.out;rw[hb0,Nat.gcd_zero_right] at this;exact this
   have hz0:¬(0:Int)<kb:=by omega
   have HA:=hid hga;clear hga;have HB0:=hid hb0;clear hb0;have HK0:=hid h0;clear h0;obtain⟨p1,k1,c1,rfl, -⟩:=zbx hva.out;have hres:=zn2 false _ a wr hva.out (by omega);rw[zkw,HA.out] at hres;have HRES:=hid hres;clear hres;go_wp21;refine zzM HRES.out λw4 hb4=>?_;have hB4:=hBr.out.trans (hb4.mono hBr.out.size);clear hb4;go_wp21;go_ret2;exact⟨rfl,hB4⟩
  ·have hz0:(0:Int)<kb:=by omega
   have hb0:b≠0:=λe=>h0 (by rw[hkb.out,e,zaz];rfl);go_wp21;refine(zmi _ (.slice p kb c) a b wr hva.out hvb.out (by omega) (by omega) (yS hb0)).mono ?_;rintro e w4 ⟨v1,v2,rfl,hs1,hs2,hb4⟩;have hB4:=hBr.out.trans (hb4.mono hBr.out.size);have hvb4:=hvb.out.below hb4;obtain⟨p2,k2,c2,rfl,hk2⟩:=zbx hs2;have HS2:=hid hs2;have HB4:=hid hB4;have HVB:=hid hvb4;have HK2:=hid hk2;have HB0:=hid hb0;clear hs1 hs2 hb4 hB4 hvb4 hk2 hb0 hva hvb hBr;go_wp2;go_roundg (a%b)
   case measure=>rw[hk.out];exact Nat.mod_lt _ (yS HB0.out)
   case rel=>exact⟨b,a%b,p2,k2,c2,rfl,rfl,HK2.out,lb,zO (zd6 (by decide) (Nat.le_of_lt (Nat.mod_lt _ (yS HB0.out)))) lb,HVB.out,HS2.out,(zkx a b).trans hgc.out,HB4.out⟩
theorem zgm (x y:Int) (hx:digs x<=300) (hy:digs y<=300) (w:zA) (hw:Wd w):
 qJ 95 #[St (zE x),St (zE y)] w (.tuple #[St (zE (Int.gcd x y:Int)),.int .i64 0]):=by
 by_cases h:17<(zE x).length\/17<(zE y).length
 ·exact zxq x y hx hy h w hw
 ·exact zvk x y (by omega) (by omega) w hw
theorem z43 (x y q:Int) (hq:x=q*y) (hy0:0<y) (hx:(zE x).length<=17) (hy:(zE y).length<=17) (w:zA) (hw:Wd w):
 qJ 315 #[St (zE x),St (zE y)] w (.tuple #[St (zE q),St [48],.int .i64 0]):=by
 obtain⟨x1,x2⟩:=lt18 (zO hx (by omega));obtain⟨y1,y2⟩:=lt18 (zO hy (by omega));have hb:=λW=>zcb x y (zO (zbf (by omega)) (by omega)) (zO (zbf (by omega)) (by omega)) W;have hs:=λW=>ze3 x y hx hy W;have hqa:q.natAbs<=x.natAbs:=by rw[hq,Int.natAbs_mul];exact Nat.le_mul_of_pos_right _ (by omega)
 have hit:=λW hW=>zb3 q (by omega) (by omega) W hW;have hiz:=λW hW=>zb3 0 (by omega) (by omega) W hW;have hd:x.tdiv y=q:=by rw[hq];exact Int.mul_tdiv_cancel _ (by omega)
 have hm:x.tmod y=0:=by rw[hq];exact Int.mul_tmod_left _ _
 have w1:IntKind.i64.wrap (x.tdiv y)=q:=by rw[hd];exact zI _ (by omega)
 have w2:IntKind.i64.wrap (x.tmod y)=0:=by rw[hm];rfl
 rw[zb9] at hiz;have hyn:(zE y==[48])=false:=by rw[beq_eq_false_iff_ne,<-zb9];exact λh=>by have:=zdo h;omega
 have hne:¬zE y=[48]:=by simpa using hyn
 have hy1:¬y=0:=by omega
 have HB:=hid hb;clear hb;have HIT:=hid hit;clear hit;have HIZ:=hid hiz;clear hiz;have HS:=hid hs;have HQD:=hid hd;have HMD:=hid hm;clear hs hx hy hq hd hm hqa;have HW:=hid hw;clear hw;go_enter Tryz.func315,Tryz.ntmps315;go_wp21;refine zzM (HB.out w) λw3 hw3=>?_;have hw3':=hw3.symm;subst hw3';go_wp21;refine zzM (HS.out w) λw4 hw4=>?_;have hw4':=hw4.symm;subst hw4';have hB2:qL w w:=zM _ _;go_wp21
 (refine wp_region_quiet_lit (by kernel_rfl) (by kernel_rfl) (WQ.out ?_);(repeat(first|(apply WQ.read (by rfl);(focus(rintro W ⟨n,rfl⟩;go_simp;try with_reducible rfl));try simp only[zzQ])|(apply WQ.skip (by rfl);try simp only[zzQ])));refine WQ.nil ?_;rintro _ ⟨nq,rfl⟩)
 go_wp21;have hB3:=zao hB2 nq;refine zzM (HIT.out (w.drewN nq) (HW.out.below hB3)) λw5 hb5=>?_;have hB5:=hB3.trans (hb5.mono hB3.size);clear hb5 hB3 hB2;go_wp21;refine zzM (HIZ.out w5 (HW.out.below hB5)) λw6 hb6=>?_;have hB6:=hB5.trans (hb6.mono hB5.size);clear hb6 hB5;go_wp21;go_ret3;exact⟨rfl,hB6⟩
theorem z7d (x y q:Int) (hq:x=q*y) (hy0:0<y) (hx:digs x<=300) (hy:digs y<=300) (h:17<(zE x).length\/17<(zE y).length) (w:zA):
 qJ 315 #[St (zE x),St (zE y)] w (.tuple #[St (zE q),St [48],.int .i64 0]):=by
 have c1:=λW=>zcb x y hx hy W;have c2:=λW=>zf5 x y h (zO (za7 x) (by omega)) (zO (za7 y) (by omega)) W;have c3:=λW=>zcp x W (by omega);have c4:=λW=>zcp y W (by omega);have bx:=zc6 x 50 (by omega) hx;have by':=zc6 y 50 (by omega) hy;have c5:=λvx vy W h1 h2=>zmi vx vy x.natAbs y.natAbs W h1 h2 (by omega) (by omega) (by omega);obtain⟨hsq,hr0⟩:=ztx x y q hq hy0;have hyf:decide (y<0)=false:=by simp;omega
 rw[hyf,Bool.bne_false] at hsq;rw[hr0,zaz] at c5;have hdq:digs q<=300:=by
  rw[za3 _ _ (by omega)] at hx⊢;have hqa:q.natAbs<=x.natAbs:=by rw[hq,Int.natAbs_mul];exact Nat.le_mul_of_pos_right _ (by omega)
  omega
 have hmx:decide (x<0)=true->¬(zaa B6 (x.natAbs/y.natAbs)).length=0:=λhm h0=>by
  have h1:=(zbd (B:=B6) (by decide) _).1 (List.length_eq_zero_iff.1 h0);rw[h1] at hsq;have:q=0:=by rw[<-hsq];cases decide (x<0)<;>simp[sgn]
  rw[this] at hq;simp at hm;omega
 have c6:=λv W h1=>zw9 (decide (x<0)) v (x.natAbs/y.natAbs) W h1 (by
  have:=zc6 q 50 (by omega) hdq;rw[<-hsq,zge] at this;omega) (by rw[hsq];exact hdq)
 rw[hsq] at c6;rw[hyf] at c4;have hyn:(zE y==[48])=false:=by rw[beq_eq_false_iff_ne,<-zb9];exact λh=>by have:=zdo h;omega
 have hne:¬zE y=[48]:=by simpa using hyn
 have C1:=hid c1;have C2:=hid c2;have C3:=hid c3;have C4:=hid c4;have C5:=hid c5;have C6:=hid c6;have HMX:=hid hmx;clear c1 c2 c3 c4 c5 c6 hx hy h bx by' hq hy0 hsq hr0 hyf hdq hmx;generalize zE x=u at*
 generalize zE y=v at*
 generalize zE q=t at*
 generalize decide (x<0)=mx at*
 go_enter Tryz.func315,Tryz.ntmps315;go_wp21;refine zzM (C1.out w) λw1 hw1=>?_;have hw1':=hw1.symm;subst hw1';go_wp21;refine(C2.out w).mono ?_;rintro e w2 ⟨⟨a,b,rfl⟩,hw2⟩;have hw2':=hw2.symm;subst hw2';go_wp21;refine(C3.out w).mono ?_;rintro e w3 ⟨vx,rfl,hsx,hb3⟩;have H3:=hid (⟨hsx,hb3⟩:_/\_);clear hsx hb3;go_wp21;refine(C4.out w3).mono ?_;rintro e w4 ⟨vy,rfl,hsy,hb4⟩;have hsx:=H3.out.1.below hb4;have hB4:=H3.out.2.trans (hb4.mono H3.out.2.size);clear hb4 H3;obtain⟨px,kx,cx,rfl, -⟩:=zbx hsx;obtain⟨py,ky,cy,rfl, -⟩:=zbx hsy;obtain⟨w5,hw5⟩:=zzX ((w4.alloc (.cells #[.bool mx,.slice px kx cx] 203)).alloc (.cells #[.bool false,.slice py ky cy] 203));have hb5:qL w4 w5:=by rw[hw5];exact((zM _ w4).alloc (zN _) _).alloc (by simp) _
 have a13:w5.heap[w4.heap.size]? =some (.cells #[.bool mx,.slice px kx cx] 203 (0,0)):=by
  rw[hw5];exact(Below.heap_alloc _ _ _ (by simp only[zH];omega)).trans (heap_alloc_new w4 _)
 have a14:w5.heap[w4.heap.size+1]? =some (.cells #[.bool false,.slice py ky cy] 203 (0,0)):=by
  rw[hw5];have:=heap_alloc_new (w4.alloc (.cells #[.bool mx,.slice px kx cx] 203)) (.cells #[.bool false,.slice py ky cy] 203);rwa [zH] at this
 have hz5:w5.heap.size=w4.heap.size+2:=by rw[hw5];simp
 have H5:=hid (⟨hsx.below hb5,hsy.below hb5,hB4.trans (hb5.mono hB4.size),a13,a14,hz5⟩:_/\_/\_/\_/\_/\_);have HW5:=hid hw5;clear hsx hsy hB4 hb5 a13 a14 hz5 hw5;go_wp21;rw[<-HW5.out];refine(C5.out _ _ w5 H5.out.1 H5.out.2.1).mono ?_;rintro e w6 ⟨v1,v2,rfl,hs1,hs2,hb6⟩;obtain⟨p1,k1,cc1,rfl,hk1⟩:=zbx hs1;obtain⟨p2,cc2,rfl, -⟩:=id hs2;have a13:=(hb6.block w4.heap.size (by have:=H5.out.2.2.2.2.2;omega)).trans H5.out.2.2.2.1;have a14:=(hb6.block (w4.heap.size+1) (by have:=H5.out.2.2.2.2.2;omega)).trans H5.out.2.2.2.2.1;have n0:w6.cell? ⟨w4.heap.size,0,none⟩=some (.bool mx):=by simp[World.cell?,a13]
 have n1:w6.cell? ⟨w4.heap.size+1,0,none⟩=some (.bool false):=by simp[World.cell?,a14]
 obtain⟨w7,hw7⟩:=zzX ((w6.alloc (.cells #[.bool mx,.slice p1 k1 cc1] 203)).alloc (.cells #[.bool false,.slice p2 0 cc2] 203));have hb7:qL w6 w7:=by rw[hw7];exact((zM _ w6).alloc (zN _) _).alloc (by simp) _
 have a17:w7.heap[w6.heap.size]? =some (.cells #[.bool mx,.slice p1 k1 cc1] 203 (0,0)):=by
  rw[hw7];exact(Below.heap_alloc _ _ _ (by simp only[zH];omega)).trans (heap_alloc_new w6 _)
 have a18:w7.heap[w6.heap.size+1]? =some (.cells #[.bool false,.slice p2 0 cc2] 203 (0,0)):=by
  rw[hw7];have:=heap_alloc_new (w6.alloc (.cells #[.bool mx,.slice p1 k1 cc1] 203)) (.cells #[.bool false,.slice p2 0 cc2] 203);rwa [zH] at this
 have hz7:w7.heap.size=w6.heap.size+2:=by rw[hw7];simp
 have hB7:qL w w7:=(H5.out.2.2.1.trans (hb6.mono H5.out.2.2.1.size)).trans (hb7.mono (zO H5.out.2.2.1.size hb6.size));have d0:w7.cell? ⟨w6.heap.size,0,none⟩=some (.bool mx):=by simp[World.cell?,a17]
 have d1:w7.cell? ⟨w6.heap.size,1,none⟩=some (.slice p1 k1 cc1):=by simp[World.cell?,a17]
 have H7:=hid (⟨hs1.below hb7,hB7,a18,hz7⟩:_/\_/\_/\_);have HW7:=hid hw7;have hkk:mx=true->(0:Int)<k1:=λhm=>by have:=HMX.out hm;omega
 have HKK:=hid hkk;clear hs1 hs2 hb6 hk1 a13 a14 hb7 a17 a18 hz7 hB7 hw7 hkk HMX H5 HW5 hyn hne;cases mx
 ·go_wp21
  rw[<-HW7.out];refine zzM (C6.out _ w7 H7.out.1) λw8 hb8=>?_;have a18:=(hb8.block (w6.heap.size+1) (by have:=H7.out.2.2.2;omega)).trans H7.out.2.2.1;have g0:w8.cell? ⟨w6.heap.size+1,0,none⟩=some (.bool false):=by simp[World.cell?,a18]
  have g1:w8.cell? ⟨w6.heap.size+1,1,none⟩=some (.slice p2 0 cc2):=by simp[World.cell?,a18]
  have HB8:=hid (H7.out.2.1.trans (hb8.mono H7.out.2.1.size));clear a18 hb8;go_wp21;refine zzM (zi1 false p2 cc2 w8) λw9 hb9=>?_;have HB9:=qT HB8 hb9;clear hb9;go_wp21;go_ret3;exact⟨rfl,HB9.out⟩
 ·have hk1:=HKK.out rfl
  have hkd:decide (0<k1)=true:=decide_eq_true (by omega);go_wp21;rw[<-HW7.out];refine zzM (C6.out _ w7 H7.out.1) λw8 hb8=>?_;have a18:=(hb8.block (w6.heap.size+1) (by have:=H7.out.2.2.2;omega)).trans H7.out.2.2.1;have g0:w8.cell? ⟨w6.heap.size+1,0,none⟩=some (.bool false):=by simp[World.cell?,a18]
  have g1:w8.cell? ⟨w6.heap.size+1,1,none⟩=some (.slice p2 0 cc2):=by simp[World.cell?,a18]
  have HB8:=hid (H7.out.2.1.trans (hb8.mono H7.out.2.1.size));clear a18 hb8;go_wp21;refine zzM (zi1 false p2 cc2 w8) λw9 hb9=>?_;have HB9:=qT HB8 hb9;clear hb9;go_wp21;go_ret3;exact⟨rfl,HB9.out⟩
theorem zxt (x y q:Int) (hq:x=q*y) (hy0:0<y) (hx:digs x<=300) (hy:digs y<=300) (w:zA) (hw:Wd w):
 qJ 315 #[St (zE x),St (zE y)] w (.tuple #[St (zE q),St [48],.int .i64 0]):=by
 by_cases h:17<(zE x).length\/17<(zE y).length
 ·exact z7d x y q hq hy0 hx hy h w
 ·exact z43 x y q hq hy0 (by omega) (by omega) w hw
theorem zz9 (l:List UInt8) (hd:∀c∈l,48<=c.toNat/\c.toNat<=57) (hl:l.length<=18) (w:zA):
 zC zF 94 #[St l] w λe w'=>e=.returned (I (val l))/\w'=w:=by
 obtain⟨s,hs⟩:=zzX (⟨l.toArray⟩:ByteArray);obtain⟨b1,b2⟩:=zdd l s hs;have hvt:=λk hk=>zg3 (l:=l) hd (k:=k) hk;have hst:∀k (hb:k<s.size),48<=(s[k]'hb).toNat/\(s[k]'hb).toNat<=57/\val (l.take (k+1))=10*val (l.take k)+((s[k]'hb).toNat-48):=λk hb=>by
  have hk:k<l.length:=by omega
  rw[b2 k hk hb,List.take_succ_eq_append_getElem hk,zde];exact⟨(hd _ (List.getElem_mem hk)).1,(hd _ (List.getElem_mem hk)).2,rfl⟩
 have hfull:val (l.take s.size)=val l:=by rw[b1,List.take_length]
 show zC _ _ #[.string ⟨l.toArray⟩] _ _;rw[<-hs];have hs9:s.size<=18:=by omega
 generalize hvf:(λk=>val (l.take k))=vf at*
 have hvt':∀k,k<=17->vf k<100000000000000000:=by rw[<-hvf];exact hvt
 have hst':∀k (hb:k<s.size),48<=(s[k]'hb).toNat/\(s[k]'hb).toNat<=57/\vf (k+1)=10*vf k+((s[k]'hb).toNat-48):=by rw[<-hvf];exact hst
 have hfull':vf s.size=val l:=by rw[<-hvf];exact hfull
 have hv0:vf 0=0:=by rw[<-hvf];rfl
 generalize val l=vl at*
 have VT:=hid hvt';have ST:=hid hst';have HF:=hid hfull';have V0:=hid hv0;clear hvt' hst' hfull' hv0 hvt hst hfull hvf b1 b2 hs hd hl;go_enter Tryz.func94,Tryz.ntmps94;go_wp2;go_loop [3,4] (λa i=>∃k:Nat,k<=s.size/\i=.int .i64 k/\a=.int .i64 (vf k:Nat)) (λ_ i=>s.size-(zL i).toNat)
 case atStart=>exact⟨0,zR _,rfl,by rw[V0.out];rfl⟩
 case round=>
  obtain⟨k,hk,rfl,rfl⟩:=hrel;by_cases hlt:k<s.size
  ·obtain⟨c1,c2,c3⟩:=ST.out k hlt
   have hv:=VT.out k (by omega);generalize vf k=v at*
   have C3:=hid c3;clear c3;have d1:(48:Int)<=(s[k].toNat:Int):=by omega
   have d2:(s[k].toNat:Int)<=57:=by omega
   go_wp2;go_round
   case rel=>exact⟨k+1,by omega,by go_num,by rw[C3.out];show Value.int .i64 _=Value.int .i64 _;congr 1;omega⟩
   case measure=>simp[zL];omega
  ·have hk':k=s.size:=by omega
   have HK:=hid hk';clear hk';go_wp2;go_ret;exact⟨by rw[HK.out,HF.out];rfl,rfl⟩
theorem zr5 (n:Nat) (t:List UInt8):(zD n++47::t).takeWhile (· !=47)=zD n/\((zD n++47::t).dropWhile (· !=47)).tail=t:=by
 have h:∀c∈zD n,(c !=47)=true:=λc hc=>by
  have:=zan n c hc;simp;intro e;subst e;simp at this
 constructor
 ·rw[List.takeWhile_append_of_pos h];simp
 ·rw[List.dropWhile_append_of_pos h];simp
theorem zpg (n:Nat):(zD n).takeWhile (· !=47)=zD n/\((zD n).dropWhile (· !=47)).tail=[]:=by
 have h:∀c∈zD n,(c !=47)=true:=λc hc=>by
  have:=zan n c hc;simp;intro e;subst e;simp at this
 constructor
 ·have:=List.takeWhile_append_of_pos (p:=λx:UInt8=>x !=47) (l₁:=zD n) (l₂:=[]) h
  simpa using this
 ·have:=List.dropWhile_append_of_pos (p:=λx:UInt8=>x !=47) (l₁:=zD n) (l₂:=[]) h
  rw[yH] at this;rw[this];rfl
def denS (q:Rat):List UInt8:=if q.den=1 then[] else zD q.den
theorem zph (q:Rat):upS (numS q)=zD q.num.natAbs/\dnS (numS q)=denS q/\((numS q).head? =some 45↔q.num<0)/\((47:UInt8)∈bare (numS q)↔q.den≠1):=by
 have hb:bare (numS q)=zD q.num.natAbs++(if q.den=1 then[] else 47::zD q.den):=zk1 _ _;unfold upS dnS denS;rw[hb];refine⟨?_,?_,zk2 _ _,?_⟩
 ·by_cases h:q.den=1
  ·rw[if_pos h,yH];exact(zpg _).1
  ·rw[if_neg h];exact(zr5 _ _).1
 ·by_cases h:q.den=1
  ·rw[if_pos h,if_pos h,yH];exact(zpg _).2
  ·rw[if_neg h,if_neg h];exact(zr5 _ _).2
 ·by_cases h:q.den=1
  ·rw[if_pos h,yH]
   exact⟨λk=>absurd k (zdz _),λk=>absurd h k⟩
  ·rw[if_neg h]
   exact⟨λ_=>h,λ_=>by simp⟩
def okN (q:Rat):Prop:=digs q.num<=300/\(zD q.den).length<=300
theorem z10 {q:Rat} (h:okN q):(numS q).length<=1000:=by
 have h1:=za7 q.num;obtain⟨h2,h3⟩:=h;unfold numS;rw[List.length_append];split
 ·simp;omega
 ·simp;omega
theorem zx3 (q:Rat) (h:okN q) (w:zA):
 qJ 91 #[St (numS q)] w (.tuple #[.bool (decide (q.num<0)),St (zD q.num.natAbs),St (denS q),.bool (decide (q.den≠1))]):=by
 obtain⟨h1,h2,h3,h4⟩:=zph q;have hc:=zn0 (numS q) (zO (z10 h) (by omega)) w;rw[h1,h2,show decide ((numS q).head? =some 45)=decide (q.num<0) by rw[decide_eq_decide];exact h3,show decide ((47:UInt8)∈bare (numS q))=decide (q.den≠1) by rw[decide_eq_decide];exact h4] at hc;exact hc
theorem z2d (q:Rat) (h:okN q) (w:zA):
 qJ 268 #[St (numS q)] w (.tuple #[St (zE q.num),St (zD q.den)]):=by
 have hc:=zx3 q h w;have hl:(zD q.num.natAbs).length<=300:=h.1;have hn:zE q.num=if q.num<0 then 45::zD q.num.natAbs else zD q.num.natAbs:=by
  rcases zbg q.num with⟨k,e⟩|⟨k,e⟩<;>rw[e]
  ·rw[if_neg (by omega)]
  ·rw[if_pos k]
 have hd:q.den=1->zD q.den=[49]:=λe=>by rw[e];decide+kernel
 have hd2:q.den≠1->denS q=zD q.den:=λe=>by unfold denS;rw[if_neg e]
 have HC:=hid hc;have HN:=hid hn;have HD:=hid hd;have HD2:=hid hd2;clear hc hn hd hd2 h;generalize zD q.num.natAbs=a at*
 generalize numS q=s at*
 have f1:¬(9223372036854775807<1+a.length):=by omega
 by_cases hm:q.num<0<;>by_cases h1:q.den=1
 ·rw[decide_eq_true hm,decide_eq_false (by simpa using h1)] at HC
  rw[if_pos hm] at HN;have hdd:=HD.out h1;clear hm h1 HD HD2;rw[hdd];clear hdd;generalize zE q.num=nn at*
  generalize zD q.den=dd at*
  generalize denS q=ds at*
  go_enter Tryz.func268,Tryz.ntmps268;go_wp21;refine zzM HC.out λw1 hb=>?_;go_wp21;go_ret2;refine⟨?_,hb⟩;rw[HN.out];show Ending.returned (.tuple #[.string (_++_),.string _])=_;rw[zhf]
 ·rw[decide_eq_true hm,decide_eq_true (by simpa using h1)] at HC
  rw[if_pos hm] at HN;have hdd:=HD2.out h1;rw[hdd] at HC;clear hm h1 HD HD2 hdd;generalize zE q.num=nn at*
  generalize zD q.den=dd at*
  generalize denS q=ds at*
  go_enter Tryz.func268,Tryz.ntmps268;go_wp21;refine zzM HC.out λw1 hb=>?_;go_wp21;go_ret2;refine⟨?_,hb⟩;rw[HN.out];show Ending.returned (.tuple #[.string (_++_),.string _])=_;rw[zhf]
 ·rw[decide_eq_false hm,decide_eq_false (by simpa using h1)] at HC
  rw[if_neg hm] at HN;have hdd:=HD.out h1;clear hm h1 HD HD2;rw[hdd];clear hdd;generalize zE q.num=nn at*
  generalize zD q.den=dd at*
  generalize denS q=ds at*
  go_enter Tryz.func268,Tryz.ntmps268;go_wp21;refine zzM HC.out λw1 hb=>?_;go_wp21;go_ret2;exact⟨by rw[HN.out];rfl,hb⟩
 ·rw[decide_eq_false hm,decide_eq_true (by simpa using h1)] at HC
  rw[if_neg hm] at HN;have hdd:=HD2.out h1;rw[hdd] at HC;clear hm h1 HD HD2 hdd;generalize zE q.num=nn at*
  generalize zD q.den=dd at*
  generalize denS q=ds at*
  go_enter Tryz.func268,Tryz.ntmps268;go_wp21;refine zzM HC.out λw1 hb=>?_;go_wp21;go_ret2;exact⟨by rw[HN.out];rfl,hb⟩
theorem ybf (x u v:ByteArray) (m sl b1 b2 z1 z2 z3:Bool) (hz:(300:Int)<u.size\/(¬(300:Int)<u.size/\(300:Int)<v.size))
 (e1:(v.toList==[48])=z1) (e2:(v.toList==[49])=z2) (e3:(u.toList==[48])=z3)
 (SP:Hid (∀W:zA,qJ 91 #[.string x] W (.tuple #[.bool m,.string u,.string v,.bool sl])))
 (D1:Hid (∀W:zA,zC zF 92 #[.string u] W λe w'=>e=.returned (.bool b1)/\w'=W))
 (D2:Hid (∀W:zA,zC zF 92 #[.string v] W λe w'=>e=.returned (.bool b2)/\w'=W))
 (w:zA):
 zC zF 33 #[.string x] w λe w'=>∃r:Int,e=.returned (.int .i64 r)/\r≠0/\zB w.heap.size w w':=by
 go_enter Tryz.func33,Tryz.ntmps33;go_wp21;refine zzM (SP.out w) λw1 hB=>?_;go_wp21;refine zzM (D1.out w1) λw2 hw=>?_;have hw2:=hw.symm;subst hw2;clear hw;cases b1
 ·go_wp21
  all_goals first|exact(zzU ‹_›).elim|skip
  go_ret;exact⟨11,rfl,by decide,hB⟩
 ·cases sl
  ·cases m
   ·rcases hz with h|⟨h,h'⟩
    all_goals
     go_wp21
     all_goals first|exact(zzU ‹_›).elim|skip
     go_ret;exact⟨4,rfl,by decide,hB⟩
   ·cases z3
    ·rcases hz with h|⟨h,h'⟩
     all_goals
      go_wp21
      all_goals first|exact(zzU ‹_›).elim|skip
      go_ret;exact⟨4,rfl,by decide,hB⟩
    ·go_wp21
     all_goals first|exact(zzU ‹_›).elim|skip
     go_ret;exact⟨11,rfl,by decide,hB⟩
  ·go_wp21
   all_goals first|exact(zzU ‹_›).elim|skip
   refine zzM (D2.out _) λw2 hw=>?_;have hw2:=hw.symm;subst hw2;clear hw;cases b2
   ·go_wp21
    all_goals first|exact(zzU ‹_›).elim|skip
    go_ret;exact⟨11,rfl,by decide,hB⟩
   ·cases z1<;>cases z2<;>cases m<;>cases z3
    all_goals
     rcases hz with h|⟨h,h'⟩
     all_goals
      go_wp21
      all_goals first|exact(zzU ‹_›).elim|skip
      go_ret
      first|exact⟨4,rfl,by decide,hB⟩|exact⟨11,rfl,by decide,hB⟩
theorem z97 {q:Rat}:okQ q↔(upS (numS q)).length<=300/\(dnS (numS q)).length<=300:=by
 obtain⟨h1,h2,_,_⟩:=zph q;rw[h1,h2];unfold okQ denS digs;by_cases c:q.den=1
 ·rw[if_pos c,c,(z15 1).2 rfl];simp
 ·rw[if_neg c]
theorem zuj (l:List UInt8) (hl:l.length<=1000) (w:zA) (hw:Wd w):
 zC zF 33 #[St l] w λe w'=>∃r:Int,e=.returned (.int .i64 r)/\(r=0↔∃q,l=numS q/\okQ q)/\zB w.heap.size w w':=by
 classical
 have sz:∀k:List UInt8,(⟨k.toArray⟩:ByteArray).size=k.length:=λk=>by show k.toArray.size=_;simp
 have lb:(bare l).length<=1000:=by
  have h2:(bare l).length<=l.length:=by unfold bare;split<;>simp
  omega
 have lu:(upS l).length<=1000:=zO (List.takeWhile_sublist _).length_le lb;have ld:(dnS l).length<=1000:=by
  have h1:((bare l).dropWhile (· !=47)).length<=(bare l).length:=(List.dropWhile_sublist _).length_le;have h3:(dnS l).length=((bare l).dropWhile (· !=47)).length-1:=by unfold dnS;rw[List.length_tail]
  omega
 have hd:∀k:List UInt8,k.length<=1000->∀W,zC zF 92 #[.string ⟨k.toArray⟩] W (λe w'=>e=.returned (.bool (decide (zds k)))/\w'=W):=λk hk W=>by
  refine(zme k (by omega) W).mono ?_;rintro e w' ⟨b,rfl,h,rfl⟩;refine⟨?_,rfl⟩;congr 2;cases b
  ·rw[eq_comm,decide_eq_false_iff_not];intro h';exact absurd (h.2 h') (by simp)
  ·rw[eq_comm,decide_eq_true_iff];exact h.1 rfl
 have hok:(∃q,l=numS q/\okQ q)↔okS l/\(upS l).length<=300/\(dnS l).length<=300:=by
  rw[zlq];constructor
  ·rintro⟨q,rfl,h⟩;exact⟨⟨q,rfl⟩,z97.1 h⟩
  ·rintro⟨⟨q,rfl⟩,h⟩;exact⟨q,rfl,z97.2 h⟩
 by_cases hL:(upS l).length<=300/\(dnS l).length<=300
 ·obtain⟨hu,hv⟩:=hL
  have e:(∃q,l=numS q/\okQ q)↔okS l:=by rw[hok];exact⟨λh=>h.1,λh=>⟨h,hu,hv⟩⟩
  simp only[e];refine ztd ⟨l.toArray⟩ ⟨(upS l).toArray⟩ ⟨(dnS l).toArray⟩ (decide (l.head? =some 45)) (decide ((47:UInt8)∈bare l)) (decide (zds (upS l))) (decide (zds (dnS l))) (decide (dnS l=[48])) (decide (dnS l=[49])) (decide (upS l=[48]))
   (Nat.gcd (val (upS l)) (val (dnS l))) (okS l) (by rw[sz];exact hu) (by rw[sz];exact hv) (hid ?_) (zgl _ _ rfl _) (zgl _ _ rfl _) (zgl _ _ rfl _)
   (hid λW=>zn0 l (by omega) W) (hid λW=>hd _ lu W) (hid λW=>hd _ ld W) (hid λh1 h2 h3 h4=>?_) (hid λh1 h2=>?_) w (hid hw)
  ·rw[zxf]
   simp only[decide_eq_true_eq,decide_eq_false_iff_not,ne_eq]
  ·rw[sz] at h3 h4
   have n1:zds (upS l):=of_decide_eq_true h1;have n2:zds (dnS l):=of_decide_eq_true h2;refine⟨val (upS l),val (dnS l),λW=>znz _ n1.2.1 h3 W,λW=>znz _ n2.2.1 h4 W,λW=>?_⟩;have b1:=zS (zjc _ n1.2.1) (yF (by omega) h3:10^(upS l).length<=10^9);have b2:=zS (zjc _ n2.2.1) (yF (by omega) h4:10^(dnS l).length<=10^9);refine(zzt _ _ (by omega) (by omega) W).mono ?_;rintro e w' ⟨nd,rfl,rfl⟩;exact⟨rfl,zao (zM _ _) _⟩
  ·have n1:zds (upS l):=of_decide_eq_true h1
   have n2:zds (dnS l):=of_decide_eq_true h2;refine⟨⟨(zD (Nat.gcd (val (upS l)) (val (dnS l)))).toArray⟩,?_,λW hW=>?_⟩
   ·rw[zgl _ _ rfl]
    exact decide_eq_decide.2 (z15 _)
   ·have:=zgm (val (upS l):Int) (val (dnS l):Int) (by unfold digs;rw[Int.natAbs_natCast,zeh n1];exact hu) (by unfold digs;rw[Int.natAbs_natCast,zeh n2];exact hv) W hW
    rw[Str.zad,Str.zad,Str.zad,zeh n1,zeh n2] at this;exact this
 ·refine(ybf ⟨l.toArray⟩ ⟨(upS l).toArray⟩ ⟨(dnS l).toArray⟩ (decide (l.head? =some 45)) (decide ((47:UInt8)∈bare l)) (decide (zds (upS l))) (decide (zds (dnS l))) (decide (dnS l=[48])) (decide (dnS l=[49])) (decide (upS l=[48])) ?_ (zgl _ _ rfl _) (zgl _ _ rfl _) (zgl _ _ rfl _)
   (hid λW=>zn0 l (by omega) W) (hid λW=>hd _ lu W) (hid λW=>hd _ ld W) w).mono ?_
  ·rw[sz,sz];omega
  ·rintro e w' ⟨r,rfl,hr,hb⟩
   exact⟨r,rfl,⟨λk=>absurd k hr,λk=>absurd (hok.1 k).2 hL⟩,hb⟩
end
section
open Go.RowKit Go.Shelf Lib Str Limb Geo
attribute [local go_sem] Oper.semAt_some
def ze5 (l:List Pt) (q:Pt) (k:Nat):Prop:=
 (cmpR (cor l k).y q.y<=0/\0<cmpR (cor l (k+1)).y q.y/\0<turn (cor l k) (cor l (k+1)) q)\/(cmpR (cor l (k+1)).y q.y<=0/\0<cmpR (cor l k).y q.y/\turn (cor l k) (cor l (k+1)) q<0)
instance (l:List Pt) (q:Pt) (k:Nat):Decidable (ze5 l q k):=by unfold ze5;infer_instance
end
section
open Go.RowKit Go.Shelf Lib Str Limb
attribute [local go_sem] Oper.semAt_some
theorem zsc:(Tryz.prog.info? 37).map (λi=>(i.zero,i.size,i.bytes))=some (some (.agg #[St [],St []]),2,32):=by kernel_rfl
theorem zoq (W:zA) (x y:Value) (t:TypeId):∀i u,[x,y][i]? =some u->(W.alloc (.cells #[x,y] t)).cell? ((⟨W.heap.size,0,none⟩:Addr).add i)=some u:=λi u hu=>by
 have A:=zG W (.cells #[x,y] t);have:((⟨W.heap.size,0,none⟩:Addr).add i)=⟨W.heap.size,i,none⟩:=by simp only[Addr.add,Nat.zero_add];split<;>simp_all
 rw[this,zJ A]
 match i,hu with
 |0,hu=>exact hu
 |1,hu=>exact hu
theorem zm4 (x y:List UInt8):∀u∈[St x,St y],u.oneCell'=true:=λu hu=>by
 simp at hu;rcases hu with rfl|rfl<;>rfl
theorem zgy (n:Nat) (W:zA):zC zF 55 #[St (zD n),.string ⟨#[45]⟩] W λe w'=>e=.returned (.bool false)/\w'=W:=by
 have hc:=Tryz.strings_HasPrefix ⟨(zD n).toArray⟩ ⟨#[45]⟩ W;obtain⟨c,r,e,hc1,_⟩:=dec_head n;have hc5:c≠45:=λh=>by subst h;simp at hc1
 have hp:Lib.hasPrefix (zD n) [45]=false:=by rw[e];simp[Lib.hasPrefix,List.isPrefixOf,Ne.symm hc5]
 rw[show(⟨(zD n).toArray⟩:ByteArray).data.toList=zD n from rfl,show(⟨#[45]⟩:ByteArray).data.toList=[45] from rfl,hp] at hc;exact hc
end
section
open Go.RowKit Go.Shelf Lib Str Limb Geo
attribute [local go_sem] Oper.semAt_some
theorem zye {w:zA} {base:Nat} {t:TypeId} {s:Nat} {v:Value} {n:Nat} {xs:List Value} (h:w.ownsRow base t s v n xs) (hn:0<n):
 ∃g c,v=.slice (some ⟨g,0,none⟩) n c/\base<=g/\∀i u,xs[i]? =some u->w.cell? ⟨g,i,none⟩=some u:=by
 rcases h.2 with⟨_,e⟩|⟨g,cp,cur,e,hg1,hg2,_,_,hcs,htk⟩
 ·omega
 ·refine⟨g,cp,e,hg1,λi u hu=>?_⟩
  rw[zJ hg2,<-Array.getElem?_toList];rw[<-htk,List.getElem?_take] at hu;split at hu
  ·exact hu
  ·cases hu
end
section
open Go.RowKit Go.Shelf Lib Str Limb
attribute [local go_sem] Oper.semAt_some
def zbj:List (List UInt8×List UInt8)->List Value
 |[]=>[]
 |c::l=>St c.1::St c.2::zbj l
theorem zn8:∀l,(zbj l).length=l.length*2
 |[]=>rfl
 |c::l=>by simp[zbj,zn8 l];omega
theorem zjb:∀l r,zbj (l++r)=zbj l++zbj r
 |[],_=>rfl
 |c::l,r=>by simp[zbj,zjb l r]
theorem zpb:∀(l:List (List UInt8×List UInt8)) (i:Nat) (c:List UInt8×List UInt8),l[i]? =some c->(zbj l)[i*2]? =some (St c.1)/\(zbj l)[i*2+1]? =some (St c.2)
 |c::l,0,d,h=>by simp at h;subst h;exact⟨rfl,rfl⟩
 |c::l,i+1,d,h=>by
  have:=zpb l i d (by simpa using h);rw[show(i+1)*2=i*2+1+1 by omega];exact this
structure GatL (gb:Nat) (l:List (List UInt8×List UInt8)) (W:zA):Prop where
 cls:∃v,W.cell? ⟨gb,0,none⟩=some v/\W.ownsRow (gb+1) 97 2 v l.length (zbj l)
 fr:W.frozen? ⟨gb,0,none⟩=false
theorem GatL.keep {gb:Nat} {l:List (List UInt8×List UInt8)} {W W':zA} (h:GatL gb l W) (hc:CellsKept W W'):GatL gb l W':=
 let ⟨v,h1,h2⟩:=h.cls
 ⟨⟨v,hc.cell h1,zcj hc h2⟩,hc.frozen h1 h.fr⟩
def RowCl (p:Option Addr) (l:List (List UInt8×List UInt8)) (W:zA):Prop:=∀i c,l[i]? =some c->∃g,p=some ⟨g,0,none⟩/\W.cell? ⟨g,i*2,none⟩=some (St c.1)/\W.cell? ⟨g,i*2+1,none⟩=some (St c.2)
theorem RowCl.keep {p:Option Addr} {l:List (List UInt8×List UInt8)} {W W':zA} (h:RowCl p l W) (hc:CellsKept W W'):RowCl p l W':=λi c hi=>let ⟨g,e,h1,h2⟩:=h i c hi;⟨g,e,hc.cell h1,hc.cell h2⟩
theorem GatL.row {gb:Nat} {l:List (List UInt8×List UInt8)} {W:zA} (h:GatL gb l W):∃p cap,W.cell? ⟨gb,0,none⟩=some (.slice p l.length cap)/\W.ownsRow (gb+1) 97 2 (.slice p l.length cap) l.length (zbj l)/\RowCl p l W:=by
 obtain⟨v,h1,h2⟩:=h.cls;rcases Nat.eq_zero_or_pos l.length with e|e
 ·rcases h2.2 with⟨rfl,e1⟩|⟨g,cp,cur,rfl,_⟩
  ·refine⟨none,0,by rw[e];exact h1,by rw[e] at h2⊢;exact h2,λi c hi=>?_⟩
   rw[List.length_eq_zero_iff.1 e] at hi;simp at hi
  ·refine⟨_,cp,h1,h2,λi c hi=>?_⟩
   rw[List.length_eq_zero_iff.1 e] at hi;simp at hi
 ·obtain⟨g,c,rfl, -,hx⟩:=zye h2 e
  refine⟨_,c,h1,h2,λi d hi=>⟨g,rfl,?_,?_⟩⟩
  ·exact hx _ _ (zpb l i d hi).1
  ·exact hx _ _ (zpb l i d hi).2
structure AdnS (W:zA) (x xr:List UInt8) (l:List (List UInt8×List UInt8)) (n:Nat) (v0:Value) (gb:Nat) (b:Nat×Value) (f:Nat->Bool) (X:zA):Prop where
 pre:f 11=false->qL W X
 new:f 11=false->f 10=true->X.cell? ⟨b.1,0,none⟩=some (St x)/\X.cell? ⟨b.1,1,none⟩=some (St xr)
 post:f 11=true->∃Y Z,qL W Y/\Y.grownBy Z v0.ownBlock/\Z.ownsRow (gb+1) 97 2 b.2 (n+1) (zbj l++[St x,St xr])/\X=if f 14=true then Z.setCell ⟨gb,0,none⟩ b.2 else Z
theorem AdnS.congr {W:zA} {x xr:List UInt8} {l:List (List UInt8×List UInt8)} {n:Nat} {v0:Value} {gb:Nat} {b:Nat×Value} {f g:Nat->Bool} {X:zA} (h:AdnS W x xr l n v0 gb b f X) (e10:g 10=f 10) (e11:g 11=f 11) (e14:g 14=f 14):AdnS W x xr l n v0 gb b g X:=
 ⟨by rw[e11];exact h.pre,by rw[e10,e11];exact h.new,by rw[e11,e14];exact h.post⟩
theorem zot (gb:Nat) (l:List (List UInt8×List UInt8)) (x xr:List UInt8) (hl:l.length<=5000)
 (R:Hid (∀(i:Nat) (c:List UInt8×List UInt8),l[i]? =some c->∃k,qK 121 #[St xr,St c.2] (.tuple #[.string k,.bool false,.int .i64 0])))
 (w:zA) (HW:Hid (Wd w)) (HG:Hid (GatL gb l w)):
 zC zF 57 #[.pointer (some ⟨gb,0,none⟩),.agg #[St x,St xr]] w λe w'=>e=.returned (.int .i64 0)/\zB gb w w'/\GatL gb (l++[(x,xr)]) w':=by
 obtain⟨i0,hi,hz0,hz1,hz2⟩:=info_parts zx5;obtain⟨p,cap,g0,o0,r0⟩:=HG.out.row;have hlt:=zbe g0;obtain⟨W1,hW1⟩:=zzX (w.alloc (.cells #[St x,St xr] 37));have hb1:qL w W1:=by rw[hW1];exact(zM _ w).alloc (zN _) _
 have A1:W1.heap[w.heap.size]? =some (.cells #[St x,St xr] 37 (0,0)):=by rw[hW1];exact zG w _
 have c0:=zai hb1 g0;rw[hW1] at c0;have HW1:=hid hW1.symm;have HB1:=hid hb1;have HA1:=hid A1;have HR0:=hid r0;have HO:=hid o0;have HG0:=hid g0;obtain⟨n,hn⟩:=zzX l.length;rw[<-hn] at c0 hl HO HG0;have HN:=hid hn;clear hW1 hb1 A1 r0 o0 g0 hn;go_enter Tryz.func57,Tryz.ntmps57;go_wp21;rw[HW1.out];clear c0 HW1;go_loopw [19] (λi wr=>∃(k:Nat),k<=n/\i=.int .i64 (k:Int)/\Hid (qL w wr)/\Hid (wr.heap[w.heap.size]? =some (.cells #[St x,St xr] 37 (0,0))))
  (λi _=>n-(zL i).toNat)
 case atStart=>exact⟨0,zR _,rfl,HB1,HA1⟩
 case round=>
  obtain⟨k,hk,rfl,hB,hT⟩:=hrel;by_cases hlt:k<n
  ·obtain⟨c,hc⟩:∃c,l[k]? =some c:=⟨_,yB (by rw[<-HN.out];exact hlt)⟩
   obtain⟨g,rfl,c0,c1⟩:=(HR0.out.keep (zac hB.out)) k c hc;obtain⟨q,hR⟩:=R.out k c hc;obtain⟨y,yr⟩:=c;have HRT:=hid hR;clear hR hc;simp only at c0 c1 HRT;obtain⟨v1,hv⟩:=zzX (wr.alloc (.cells #[St y,St yr] 97));have a1:qL wr v1:=by rw[hv];exact(zM _ wr).alloc (zN _) _
   have A1:v1.heap[wr.heap.size]? =some (.cells #[St y,St yr] 97 (0,0)):=by rw[hv];exact zG wr _
   have T1:=zac a1 _ _ _ _ hT.out;have k1:v1.cell? ⟨wr.heap.size,1,none⟩=some (St yr):=by rw[zJ A1];rfl
   have t1:v1.cell? ⟨w.heap.size,1,none⟩=some (St xr):=by rw[zJ T1];rfl
   have E1:=hid (hB.out.trans (a1.mono hB.out.size));have HT1:=hid T1;rw[hv] at k1 t1;have HV:=hid hv.symm;clear hv a1 A1 T1;go_wp21;rw[HV.out];clear k1 t1 HV c0 c1;refine zzM (HRT.out v1 (HW.out.below E1.out)) λw2 hb2=>?_;have hB2:=hid (E1.out.trans (hb2.mono E1.out.size));have hT2:=hid (zac hb2 _ _ _ _ HT1.out);clear hb2 HRT E1 HT1;go_wp21;go_roundw
   case rel=>exact⟨k+1,by omega,by go_num,hB2,hT2⟩
   case measure=>simp[zL];omega
  ·have hkn:k=n:=by omega
   go_wp21;have hks:∀w':zA,qL wr w'->w'.cell? ⟨gb,0,none⟩=some (.slice p n cap)/\w'.cell? ⟨w.heap.size,0,none⟩=some (St x)/\w'.cell? ⟨w.heap.size,1,none⟩=some (St xr):=λw' hb=>
    ⟨zai hb (zai hB.out HG0.out),zai hb (by rw[zJ hT.out];rfl),zai hb (by rw[zJ hT.out];rfl)⟩
   have KS:=hid hks;have HF:=hid ((zac hB.out).frozen HG0.out HG.out.fr);have HOw:=hid (zcj (zac hB.out) HO.out);have hgs:gb<w.heap.size:=zbe HG0.out;have hws:=hB.out.size;have hne:some gb≠(Value.slice p n cap).ownBlock:=λe=>by have:=(HO.out.lt _ e.symm).1;omega
   have HNE:=hid hne;clear hks hne HR0 HG R hkn hk hlt HW HB1 HA1;refine zc4 (λ(b:Nat×Value) i=>([.pointer (some ⟨gb,0,none⟩),.pointer (some ⟨gb,0,none⟩),.pointer (some ⟨gb,0,none⟩),.pointer (some ⟨gb,0,none⟩),.slice p n cap,.pointer (some ⟨w.heap.size,0,none⟩),St x,.pointer (some ⟨w.heap.size,1,none⟩),St xr,.agg #[St x,St xr],.slice (some ⟨b.1,0,none⟩) 1 1,b.2,.pointer (some ⟨gb,0,none⟩),.pointer (some ⟨gb,0,none⟩)]:List Value).getD i undef) (AdnS wr x xr l n (.slice p n cap) gb) (by kernel_rfl) (by kernel_rfl) (0,.slice none 0 0) ⟨λ_=>(zM _ wr).drew,λ_ h=>(by cases h),λh=>(by cases h)⟩ λb=>?_;refine qB (.pointer (some ⟨gb,0,none⟩)) (λf W' h=>h.congr rfl rfl rfl) ?_;refine qB (.pointer (some ⟨gb,0,none⟩)) (λf W' h=>h.congr rfl rfl rfl) ?_;refine qB (.pointer (some ⟨gb,0,none⟩)) (λf W' h=>h.congr rfl rfl rfl) ?_;simp only[zzQ];refine qB (.pointer (some ⟨gb,0,none⟩)) (λf W' h=>h.congr rfl rfl rfl) ?_;refine qB (.slice p n cap) (λf W' h=>h.congr rfl rfl rfl) ?_ (hy:=λf W' hf h=>by have g:=KS.out _ (h.pre (hf.no (j:=11) hf.self (by kernel_rfl)));obtain⟨q0,q1,q2⟩:=g;go_simp);refine qB (.pointer (some ⟨w.heap.size,0,none⟩)) (λf W' h=>h.congr rfl rfl rfl) ?_;simp only[zzQ];refine qB (St x) (λf W' h=>h.congr rfl rfl rfl) ?_ (hy:=λf W' hf h=>by have g:=KS.out _ (h.pre (hf.no (j:=11) (hf.no (j:=10) (hf.no (j:=9) hf.self (by kernel_rfl)) (by kernel_rfl)) (by kernel_rfl)));obtain⟨q0,q1,q2⟩:=g;go_simp);refine qB (.pointer (some ⟨w.heap.size,1,none⟩)) (λf W' h=>h.congr rfl rfl rfl) ?_;refine qB (St xr) (λf W' h=>h.congr rfl rfl rfl) ?_ (hy:=λf W' hf h=>by have g:=KS.out _ (h.pre (hf.no (j:=11) (hf.no (j:=10) (hf.no (j:=9) hf.self (by kernel_rfl)) (by kernel_rfl)) (by kernel_rfl)));obtain⟨q0,q1,q2⟩:=g;go_simp);simp only[zzQ];refine qB (.agg #[St x,St xr]) (λf W' h=>h.congr rfl rfl rfl) ?_;simp only[zzQ]
   refine zdc (.slice (some ⟨b.1,0,none⟩) 1 1) (by rfl) (by rfl) (λf W' hf h C' hC'=>by
    have h11:=(hf.no (j:=11) hf.self (by kernel_rfl));have hp:=h.pre h11;have ha:qL W' (W'.alloc (.cells #[St x,St xr] 97)):=(zM _ W').alloc (zN _) _;have A:=zG W' (.cells #[St x,St xr] 97);have:=hC' (W'.heap.size,b.2) (W'.alloc (.cells #[St x,St xr] 97)) (λi hi=>?_) ⟨λ_=>hp.trans (ha.mono hp.size),λ_ _=>⟨by rw[zJ A];rfl,by rw[zJ A];rfl⟩,λk=>(by have k':f 11=true:=k;rw[h11] at k';cases k')⟩
    ·go_simp
     exact this
    ·match i,hi with
     |0,_|1,_|2,_|3,_|4,_|5,_|6,_|7,_|8,_|9,_|11,_|12,_|13,_=>rfl
     |10,hi=>rw[hf.self] at hi;cases hi
     |_+14,_=>rfl) ?_
   try simp only[zzQ]
   refine zdc b.2 (by rfl) (by rfl) (λf W' hf h C' hC'=>by
    have h11:=hf.self;have h14:=(hf.no (j:=14) hf.self (by kernel_rfl));have h10:=hf.done 10 (by kernel_rfl);have hp:=h.pre h11;obtain⟨n0,n1⟩:=h.new h11 h10;refine zmb _ W' _ _ 91 rfl (gb+1) 97 i0 (.agg #[St [],St []]) 2 32 Tryz.underlying91 hi hz0 hz1 hz2 rfl (by decide) (.slice p n cap) n (zbj l) rfl (zcj (zac hp) HOw.out) ⟨b.1,0,none⟩ 1 1 [St x,St xr] rfl rfl (λi u hu=>?_) (λu hu=>?_) (by unfold maxLen;omega) (by omega) (by have:=hp.size;omega) (λv' w' hown' hgrow=>?_)
    ·match i,hu with
     |0,hu=>simp at hu;subst hu;exact n0
     |1,hu=>simp at hu;subst hu;exact n1
     |_+2,hu=>simp at hu
    ·simp at hu;rcases hu with rfl|rfl<;>rfl
    ·refine hC' (b.1,v') w' (λi hi=>?_) ⟨λk=>?_,λk=>?_,λ_=>⟨W',w',hp,hgrow,hown',?_⟩⟩
     ·match i,hi with
      |0,_|1,_|2,_|3,_|4,_|5,_|6,_|7,_|8,_|9,_|10,_|12,_|13,_=>rfl
      |11,hi=>rw[hf.self] at hi;cases hi
      |_+14,_=>rfl
     ·cases k
     ·cases k
     ·show w'=if f 14=true then _ else w'
      rw[h14];rfl) ?_
   refine qB (.pointer (some ⟨gb,0,none⟩)) (λf W' h=>h.congr rfl rfl rfl) ?_;refine qB (.pointer (some ⟨gb,0,none⟩)) (λf W' h=>h.congr rfl rfl rfl) ?_;simp only[zzQ]
   refine zbv undef (by rfl) (by rfl) (λf W' hf h C' hC'=>by
    have h11:=hf.done 11 (by kernel_rfl);have h14:=hf.self;obtain⟨Y,Z,hY,hZ,hz',rfl⟩:=h.post h11;rw[h14,if_neg (by simp)] at*
    have hc0:=(KS.out _ hY).1;have hcell:=hZ.cell hc0 HNE.out;have hfr:Z.frozen? ⟨gb,0,none⟩=false:=by
     rw[World.frozen?_of_block (a:=⟨gb,0,none⟩) (hZ.block _ (zbe hc0) HNE.out)];exact(zac hY).frozen (KS.out _ (zM _ wr)).1 HF.out
    have:=hC' (Z.setCell ⟨gb,0,none⟩ b.2) ⟨λk=>(by have k':f 11=false:=k;rw[h11] at k';cases k'),λk=>(by have k':f 11=false:=k;rw[h11] at k';cases k'),λ_=>⟨Y,Z,hY,hZ,hz',rfl⟩⟩;obtain⟨q,m,c,e2⟩:∃q m c,b.2=.slice q m c:=by
     rcases hz'.2 with⟨e,_⟩|⟨g,cp,cur,e,_⟩<;>exact⟨_,_,_,e⟩
    rw[e2] at this;go_simp;exact this) ?_
   try simp only[Act.put]
   refine ze1 λf X hf h=>?_;obtain⟨Y,Z,hY,hZ,hz',rfl⟩:=h.post (hf 11 (by decide));rw[if_pos (hf 14 (by decide))];have hc0:=(KS.out _ hY).1;have hcell:=hZ.cell hc0 HNE.out;have hfr:Z.frozen? ⟨gb,0,none⟩=false:=by
    rw[World.frozen?_of_block (a:=⟨gb,0,none⟩) (hZ.block _ (zbe hc0) HNE.out)];exact(zac hY).frozen (KS.out _ (zM _ wr)).1 HF.out
   have hbel:zB gb w (Z.setCell ⟨gb,0,none⟩ b.2):=by
    have h1:zB gb w Y:=(hB.out.mono (by omega)).trans (hY.mono (by omega));exact(h1.grown hZ (by have:=hY.size;omega) (λq e=>by have:=(HO.out.lt q e).1;omega)).setCell (by simp) _
   have hgate:GatL gb (l++[(x,xr)]) (Z.setCell ⟨gb,0,none⟩ b.2):=by
    refine⟨⟨b.2,za9 hcell,?_⟩,by rw[World.frozen?_setCell];exact hfr⟩;rw[zjb,List.length_append,<-HN.out];show World.ownsRow _ _ _ _ _ (n+1) (zbj l++[St x,St xr]);exact ownsRow_setCell_below hz' (by simp) _
   have HE:=hid (⟨hbel,hgate⟩:zB gb w (Z.setCell ⟨gb,0,none⟩ b.2)/\GatL gb (l++[(x,xr)]) (Z.setCell ⟨gb,0,none⟩ b.2));clear hbel hgate hcell hfr hY hZ hz' h hf hc0;go_wp21;go_ret;exact⟨rfl,HE.out⟩
theorem z4d:∀(l:List (List UInt8×List UInt8)) (k:Nat) (c:List UInt8×List UInt8),zbj (l.set k c)=((zbj l).set (k*2) (St c.1)).set (k*2+1) (St c.2)
 |[],_,_=>rfl
 |_::_,0,_=>rfl
 |d::l,k+1,c=>by
  rw[show(k+1)*2=k*2+1+1 by omega];simp[zbj,z4d l k c]
theorem z42 {W:zA} {B g n cap:Nat} {e:TypeId} {s:Nat} {xs:List Value} (h:W.ownsRow B e s (.slice (some ⟨g,0,none⟩) n cap) n xs) (i:Nat):W.frozen? ⟨g,i,none⟩=false:=by
 rcases h.2 with⟨e1,_⟩|⟨g',cp,cur,e1,_,hg,_⟩
 ·cases e1
 ·cases e1;exact Go.Joins.unfrozen_of_block hg i
theorem z6l {W:zA} {B g n cap k:Nat} {e:TypeId} {l:List (List UInt8×List UInt8)} {z zr:List UInt8} (h:W.ownsRow B e 2 (.slice (some ⟨g,0,none⟩) n cap) n (zbj l)) (hn:n=l.length) (_:k<n):
 ((W.setCell ⟨g,k*2,none⟩ (St z)).setCell ⟨g,k*2+1,none⟩ (St zr)).ownsRow B e 2 (.slice (some ⟨g,0,none⟩) n cap) n (zbj (l.set k (z,zr))):=by
 refine⟨by rw[zn8,List.length_set,hn],?_⟩;rcases h.2 with⟨e1,_⟩|⟨g',cp,cur,e1,h1,hg,h2,h3,h4,h5⟩
 ·cases e1
 ·cases e1
  refine .inr ⟨g,cap,_,rfl,h1,zK (i:=k*2+1) (zK (i:=k*2) hg (St z)) (St zr),h2,h3,by simpa using h4,?_⟩;rw[z4d,<-h5];simp[List.take_set]
theorem zrp (gb:Nat) (l:List (List UInt8×List UInt8)) (x xr y yr z zr:List UInt8) (kk:ByteArray) (j:Nat) (nn:Int) (o:Bool) (hl:l.length<=5000) (hj:l[j]? =some (y,yr)) (hnn:decide (nn<0)=o)
 (R:Hid (∀(i:Nat) (c:List UInt8×List UInt8),i<j->l[i]? =some c->∃k,qK 121 #[St xr,St c.2] (.tuple #[.string k,.bool false,.int .i64 0])))
 (R1:Hid (qK 121 #[St xr,St yr] (.tuple #[.string kk,.bool true,.int .i64 0])))
 (CM:Hid (qK 27 #[St xr,St yr] (.tuple #[.int .i64 nn,.int .i64 0])))
 (P:Hid (qK 122 #[bif o then .agg #[St x,St xr] else .agg #[St y,St yr],bif o then .agg #[St y,St yr] else .agg #[St x,St xr]] (.tuple #[.agg #[St z,St zr],.int .i64 0])))
 (w:zA) (HW:Hid (Wd w)) (HG:Hid (GatL gb l w)):
 zC zF 57 #[.pointer (some ⟨gb,0,none⟩),.agg #[St x,St xr]] w λe w'=>e=.returned (.int .i64 0)/\zB gb w w'/\GatL gb (l.set j (z,zr)) w':=by
 obtain⟨p,cap,g0,o0,r0⟩:=HG.out.row;have hlt:=zbe g0;obtain⟨W1,hW1⟩:=zzX (w.alloc (.cells #[St x,St xr] 37));have hb1:qL w W1:=by rw[hW1];exact(zM _ w).alloc (zN _) _
 have A1:W1.heap[w.heap.size]? =some (.cells #[St x,St xr] 37 (0,0)):=by rw[hW1];exact zG w _
 have c0:=zai hb1 g0;rw[hW1] at c0;have HW1:=hid hW1.symm;have HB1:=hid hb1;have HA1:=hid A1;have HR0:=hid r0;have HO:=hid o0;have HG0:=hid g0;obtain⟨n,hn⟩:=zzX l.length;have hjn:j<n:=by rw[hn];exact(List.getElem?_eq_some_iff.1 hj).1
 rw[<-hn] at c0 hl HO HG0;have HN:=hid hn;have HJ:=hid hj;clear hW1 hb1 A1 r0 o0 g0 hn hj;go_enter Tryz.func57,Tryz.ntmps57;go_wp21;rw[HW1.out];clear c0 HW1;go_loopw [19] (λi wr=>∃(k:Nat),k<=j/\i=.int .i64 (k:Int)/\Hid (qL w wr)/\Hid (wr.heap[w.heap.size]? =some (.cells #[St x,St xr] 37 (0,0))))
  (λi _=>n-(zL i).toNat)
 case atStart=>exact⟨0,zR _,rfl,HB1,HA1⟩
 case round=>
  obtain⟨k,hk,rfl,hB,hT⟩:=hrel;have hlt:k<n:=by omega
  by_cases hkj:k<j
  ·obtain⟨c,hc⟩:∃c,l[k]? =some c:=⟨_,yB (by rw[<-HN.out];exact hlt)⟩
   obtain⟨g,rfl,c0,c1⟩:=(HR0.out.keep (zac hB.out)) k c hc;obtain⟨q,hR⟩:=R.out k c hkj hc;obtain⟨u,ur⟩:=c;have HRT:=hid hR;clear hR hc;simp only at c0 c1 HRT;obtain⟨v1,hv⟩:=zzX (wr.alloc (.cells #[St u,St ur] 97));have a1:qL wr v1:=by rw[hv];exact(zM _ wr).alloc (zN _) _
   have A1:v1.heap[wr.heap.size]? =some (.cells #[St u,St ur] 97 (0,0)):=by rw[hv];exact zG wr _
   have T1:=zac a1 _ _ _ _ hT.out;have k1:v1.cell? ⟨wr.heap.size,1,none⟩=some (St ur):=by rw[zJ A1];rfl
   have t1:v1.cell? ⟨w.heap.size,1,none⟩=some (St xr):=by rw[zJ T1];rfl
   have E1:=hid (hB.out.trans (a1.mono hB.out.size));have HT1:=hid T1;rw[hv] at k1 t1;have HV:=hid hv.symm;clear hv a1 A1 T1;go_wp21;rw[HV.out];clear k1 t1 HV c0 c1;refine zzM (HRT.out v1 (HW.out.below E1.out)) λw2 hb2=>?_;have hB2:=hid (E1.out.trans (hb2.mono E1.out.size));have hT2:=hid (zac hb2 _ _ _ _ HT1.out);clear hb2 HRT E1 HT1;go_wp21;go_roundw
   case rel=>exact⟨k+1,by omega,by go_num,hB2,hT2⟩
   case measure=>simp[zL];omega
  ·have hkn:k=j:=by omega
   subst hkn;obtain⟨g,rfl,c0,c1⟩:=(HR0.out.keep (zac hB.out)) k (y,yr) HJ.out;simp only at c0 c1;obtain⟨v1,hv⟩:=zzX (wr.alloc (.cells #[St y,St yr] 97));have hvs:wr.heap.size+1=v1.heap.size:=by rw[hv];simp
   have a1:qL wr v1:=by rw[hv];exact(zM _ wr).alloc (zN _) _
   have A1:v1.heap[wr.heap.size]? =some (.cells #[St y,St yr] 97 (0,0)):=by rw[hv];exact zG wr _
   have T1:=zac a1 _ _ _ _ hT.out;have k1:v1.cell? ⟨wr.heap.size,1,none⟩=some (St yr):=by rw[zJ A1];rfl
   have t1:v1.cell? ⟨w.heap.size,1,none⟩=some (St xr):=by rw[zJ T1];rfl
   have E1:=hid (hB.out.trans (a1.mono hB.out.size));have HT1:=hid T1;have HK1:=hid A1;rw[hv] at k1 t1;have HV:=hid hv.symm;clear hv a1 A1 T1;go_wp21;rw[HV.out];clear k1 t1 HV c0 c1;refine zzM (R1.out v1 (HW.out.below E1.out)) λw2 hb2=>?_;have E2:=hid (E1.out.trans (hb2.mono E1.out.size));have HT2:=hid (zac hb2 _ _ _ _ HT1.out);have hlw2:wr.heap.size<w2.heap.size:=zS (by omega) hb2.size;have HK2:=hid (zac hb2 _ _ _ _ HK1.out);clear hb2 R1 E1 HT1 HK1;have t0:w2.cell? ⟨w.heap.size,0,none⟩=some (St x):=by rw[zJ HT2.out];rfl
   have t1:w2.cell? ⟨w.heap.size,1,none⟩=some (St xr):=by rw[zJ HT2.out];rfl
   obtain⟨w3,hw3⟩:=zzX (w2.alloc (.cells #[St x,St xr] 97));have b3:qL w2 w3:=by rw[hw3];exact(zM _ w2).alloc (zN _) _
   have A3:w3.heap[w2.heap.size]? =some (.cells #[St x,St xr] 97 (0,0)):=by rw[hw3];exact zG w2 _
   have E3:=hid (E2.out.trans (b3.mono E2.out.size));have HK3:=hid (zac b3 _ _ _ _ HK2.out);have p1:w3.cell? ⟨wr.heap.size,1,none⟩=some (St yr):=by rw[zJ HK3.out];rfl
   have p2:w3.cell? ⟨w2.heap.size,1,none⟩=some (St xr):=by rw[zJ A3];rfl
   rw[hw3] at p1 p2;have HA3:=hid A3;have HW3:=hid hw3.symm;clear hw3 b3 A3;go_wp21;rw[HW3.out];clear t0 t1 p1 p2 HW3 E2 HK2 HT2;refine zzM (CM.out w3 (HW.out.below E3.out)) λw4 hb4=>?_;have E4:=hid (E3.out.trans (hb4.mono E3.out.size));have HK4:=hid (zac hb4 _ _ _ _ HK3.out);have HA4:=hid (zac hb4 _ _ _ _ HA3.out);clear hb4 E3 HK3 HA3 CM;have hlow:=hB.out.size;have l0:w4.cell? ⟨wr.heap.size,0,none⟩=some (St y):=by rw[zJ HK4.out];rfl
   have l1:w4.cell? ⟨wr.heap.size,1,none⟩=some (St yr):=by rw[zJ HK4.out];rfl
   have p0:w4.cell? ⟨w2.heap.size,0,none⟩=some (St x):=by rw[zJ HA4.out];rfl
   have p1:w4.cell? ⟨w2.heap.size,1,none⟩=some (St xr):=by rw[zJ HA4.out];rfl
   cases o
   case' true=>
    have hab:wr.heap.size<w2.heap.size:=hlw2;have f0:w4.frozen? ⟨wr.heap.size,0,none⟩=false:=Go.Joins.unfrozen_of_block HK4.out 0;have f1:w4.frozen? ⟨wr.heap.size,1,none⟩=false:=Go.Joins.unfrozen_of_block HK4.out 1;have f2:w4.frozen? ⟨w2.heap.size,0,none⟩=false:=Go.Joins.unfrozen_of_block HA4.out 0;have f3:w4.frozen? ⟨w2.heap.size,1,none⟩=false:=Go.Joins.unfrozen_of_block HA4.out 1;obtain⟨v4,hv4⟩:=zzX ((((w4.setCell ⟨wr.heap.size,0,none⟩ (St x)).setCell ⟨wr.heap.size,1,none⟩ (St xr)).setCell ⟨w2.heap.size,0,none⟩ (St y)).setCell ⟨w2.heap.size,1,none⟩ (St yr));have V1:v4.heap[wr.heap.size]? =some (.cells #[St x,St xr] 97 (0,0)):=by
     rw[hv4,yE _ _ _ _ (by show wr.heap.size≠w2.heap.size;omega),yE _ _ _ _ (by show wr.heap.size≠w2.heap.size;omega)];exact zK (i:=1) (zK (i:=0) HK4.out _) _
    have V2:v4.heap[w2.heap.size]? =some (.cells #[St y,St yr] 97 (0,0)):=by
     have hA:((w4.setCell ⟨wr.heap.size,0,none⟩ (St x)).setCell ⟨wr.heap.size,1,none⟩ (St xr)).heap[w2.heap.size]? =some (.cells #[St x,St xr] 97 (0,0)):=by
      rw[yE _ _ _ _ (by show w2.heap.size≠wr.heap.size;omega),yE _ _ _ _ (by show w2.heap.size≠wr.heap.size;omega)];exact HA4.out
     rw[hv4];exact zK (i:=1) (zK (i:=0) hA _) _
    have VB:qL w v4:=by
     rw[hv4];exact(((E4.out.setCell (by show w.heap.size<=wr.heap.size;omega) _).setCell (by show w.heap.size<=wr.heap.size;omega) _).setCell (by show w.heap.size<=w2.heap.size;omega) _).setCell (by show w.heap.size<=w2.heap.size;omega) _
    have q0:v4.cell? ⟨wr.heap.size,0,none⟩=some (St x):=by rw[zJ V1];rfl
    have q1:v4.cell? ⟨wr.heap.size,1,none⟩=some (St xr):=by rw[zJ V1];rfl
    have q2:v4.cell? ⟨w2.heap.size,0,none⟩=some (St y):=by rw[zJ V2];rfl
    have q3:v4.cell? ⟨w2.heap.size,1,none⟩=some (St yr):=by rw[zJ V2];rfl
    rw[hv4] at q0 q1 q2 q3;have u1:(w4.setCell ⟨wr.heap.size,0,none⟩ (St x)).frozen? ⟨wr.heap.size,1,none⟩=false:=by rw[World.frozen?_setCell];exact f1
    have u2:((w4.setCell ⟨wr.heap.size,0,none⟩ (St x)).setCell ⟨wr.heap.size,1,none⟩ (St xr)).frozen? ⟨w2.heap.size,0,none⟩=false:=by rw[World.frozen?_setCell,World.frozen?_setCell];exact f2
    have u3:(((w4.setCell ⟨wr.heap.size,0,none⟩ (St x)).setCell ⟨wr.heap.size,1,none⟩ (St xr)).setCell ⟨w2.heap.size,0,none⟩ (St y)).frozen? ⟨w2.heap.size,1,none⟩=false:=by rw[World.frozen?_setCell,World.frozen?_setCell,World.frozen?_setCell];exact f3
    have HV4:=hid hv4.symm;have HVB:=hid VB;clear hv4 V1 V2 VB;go_wp21;rw[HV4.out];clear l0 l1 p0 p1 f0 f1 f2 f3 q0 q1 q2 q3 u1 u2 u3 HV4 E4 HK4 HA4
   case' false=>
    have HVB:=E4;clear E4 HK4 HA4 hlow hlw2;go_wp21;clear l0 l1 p0 p1
   all_goals
    refine zzM (P.out _ (HW.out.below HVB.out)) λw5 hb5=>?_;have E5:=qT HVB hb5;clear hb5 HVB P;obtain⟨w6,hw6⟩:=zzX (w5.alloc (.cells #[St z,St zr] 97));have b6:qL w5 w6:=by rw[hw6];exact(zM _ w5).alloc (zN _) _
    have A6:w6.heap[w5.heap.size]? =some (.cells #[St z,St zr] 97 (0,0)):=by rw[hw6];exact zG w5 _
    have hB6:=E5.out.trans (b6.mono E5.out.size);have HW6:=hid hw6.symm;clear hw6 b6;go_wp21;rw[HW6.out];clear HW6;obtain⟨g',e',r0,r1⟩:=(HR0.out.keep (zac hB6)) k (y,yr) HJ.out;obtain rfl:g=g':=by cases e';rfl
    have hgs:gb<w.heap.size:=zbe HG0.out;have m0:w6.drew.cell? ⟨gb,0,none⟩=some (.slice (some ⟨g,0,none⟩) n cap):=zai hB6 HG0.out;have m2:w6.drew.cell? ⟨g,k*2,none⟩=some (St y):=r0;have m3:w6.drew.cell? ⟨g,k*2+1,none⟩=some (St yr):=r1;have o6:w6.drew.ownsRow (gb+1) 97 2 (.slice (some ⟨g,0,none⟩) n cap) n (zbj l):=zcj (zac hB6) HO.out;have hgg:gb<g:=(o6.lt g rfl).1;have m4:w6.drew.frozen? ⟨g,k*2,none⟩=false:=z42 o6 _;have m5:w6.drew.frozen? ⟨g,k*2+1,none⟩=false:=z42 o6 _;have m6:w6.drew.cell? ⟨w5.heap.size,0,none⟩=some (St z):=by rw[zJ (show w6.drew.heap[w5.heap.size]? =_ from A6)];rfl
    have m7:w6.drew.cell? ⟨w5.heap.size,1,none⟩=some (St zr):=by rw[zJ (show w6.drew.heap[w5.heap.size]? =_ from A6)];rfl
    have n2:w6.cell? ⟨g,k*2,none⟩=some (St y):=m2;have n3:w6.cell? ⟨g,k*2+1,none⟩=some (St yr):=m3;have n4:w6.frozen? ⟨g,k*2,none⟩=false:=m4;have n5:w6.frozen? ⟨g,k*2+1,none⟩=false:=m5;have HF:=hid ((zac hB6).frozen HG0.out HG.out.fr);have HO6:=hid o6;have HM0:=hid m0;have HB6:=hid hB6;clear R HR0 HB1 HA1 HG r0 r1 e' o6 hT hB;refine zc4 (λ(_:Unit) i=>([.pointer (some ⟨gb,0,none⟩),.pointer (some ⟨gb,0,none⟩),.pointer (some ⟨gb,0,none⟩),.slice (some ⟨g,0,none⟩) n cap,.int .i64 (k:Int),.agg #[St z,St zr],.pointer (some ⟨g,k*2,none⟩)]:List Value).getD i undef) (λ_ f W'=>(f 7=false->W'=w6.drew)/\(f 7=true->W'=((w6.drew.setCell ⟨g,k*2,none⟩ (St z)).setCell ⟨g,k*2+1,none⟩ (St zr)))) (by kernel_rfl) (by kernel_rfl) () ⟨λ_=>rfl,λh=>(by cases h)⟩ λb=>?_;refine qB (.pointer (some ⟨gb,0,none⟩)) (λf W' h=>⟨h.1,h.2⟩) ?_ (hy:=λf W' hf h=>by
     obtain rfl:=h.1 (hf.no (j:=7) hf.self (by kernel_rfl));go_simp)
    refine qB (.pointer (some ⟨gb,0,none⟩)) (λf W' h=>⟨h.1,h.2⟩) ?_ (hy:=λf W' hf h=>by
     obtain rfl:=h.1 (hf.no (j:=7) hf.self (by kernel_rfl));go_simp)
    refine qB (.pointer (some ⟨gb,0,none⟩)) (λf W' h=>⟨h.1,h.2⟩) ?_ (hy:=λf W' hf h=>by
     obtain rfl:=h.1 (hf.no (j:=7) hf.self (by kernel_rfl));go_simp)
    try simp only[zzQ]
    refine qB (.slice (some ⟨g,0,none⟩) n cap) (λf W' h=>⟨h.1,h.2⟩) ?_ (hy:=λf W' hf h=>by
     obtain rfl:=h.1 (hf.no (j:=7) hf.self (by kernel_rfl));go_simp)
    refine qB (.int .i64 (k:Int)) (λf W' h=>⟨h.1,h.2⟩) ?_ (hy:=λf W' hf h=>by
     obtain rfl:=h.1 (hf.no (j:=7) hf.self (by kernel_rfl));go_simp)
    refine qB (.agg #[St z,St zr]) (λf W' h=>⟨h.1,h.2⟩) ?_ (hy:=λf W' hf h=>by
     obtain rfl:=h.1 (hf.no (j:=7) hf.self (by kernel_rfl));go_simp)
    try simp only[zzQ]
    refine qB (.pointer (some ⟨g,k*2,none⟩)) (λf W' h=>⟨h.1,h.2⟩) ?_ (hy:=λf W' hf h=>by
     obtain rfl:=h.1 (hf.no (j:=7) hf.self (by kernel_rfl));go_simp)
    try simp only[zzQ]
    refine zbv undef (by rfl) (by rfl) (λf W' hf h C' hC'=>by
     obtain rfl:=h.1 hf.self;have:=hC' ((w6.drew.setCell ⟨g,k*2,none⟩ (St z)).setCell ⟨g,k*2+1,none⟩ (St zr)) ⟨λk=>(by cases k),λ_=>rfl⟩;go_simp;exact this) ?_
    try simp only[Act.put]
    refine ze1 λf X hf h=>?_;obtain rfl:=h.2 (hf 7 (by decide));have hbel:zB gb w ((w6.drew.setCell ⟨g,k*2,none⟩ (St z)).setCell ⟨g,k*2+1,none⟩ (St zr)):=
     (((HB6.out.mono (by omega)).drew).setCell (by simp;omega) _).setCell (by simp;omega) _
    have hgate:GatL gb (l.set k (z,zr)) ((w6.drew.setCell ⟨g,k*2,none⟩ (St z)).setCell ⟨g,k*2+1,none⟩ (St zr)):=by
     refine⟨⟨_,by rw[zau _ _ _ _ (by omega),zau _ _ _ _ (by omega)];exact HM0.out,?_⟩,?_⟩
     ·rw[List.length_set,<-HN.out];exact z6l HO6.out HN.out (by omega)
     ·rw[World.frozen?_setCell,World.frozen?_setCell];exact HF.out
    have HE:=hid (⟨hbel,hgate⟩:zB gb w ((w6.drew.setCell ⟨g,k*2,none⟩ (St z)).setCell ⟨g,k*2+1,none⟩ (St zr))/\GatL gb (l.set k (z,zr)) ((w6.drew.setCell ⟨g,k*2,none⟩ (St z)).setCell ⟨g,k*2+1,none⟩ (St zr)));clear hbel hgate m0 m2 m3 m4 m5 m6 m7 n2 n3 n4 n5 h hf;go_wp21;go_ret;exact⟨rfl,HE.out⟩
structure VisC (gb:Nat) (c r:List UInt8) (S S':zA->Prop) (one:Bool) (k n m:List UInt8) (ln:Int):Prop where
 cz:(c==[48])=false
 rz:(r==[48])=false
 n1:(r==[49])=one
 kn:one=true->k=[49]/\n=r
 norm:one=false->∀W:zA,Wd W->Pw W->qJ 120 #[St r] W (.tuple #[St k,St n,.int .i64 0])
 lng:qK 58 #[St n] (.int .i64 ln)
 ln9:decide (90<ln)=false
 mul:qK 11 #[St c,St k] (.tuple #[St m,.int .i64 0])
 keep:∀W W':zA,S W->qL W W'->S W'
 each:∀W:zA,Wd W->S W->zC zF 57 #[.pointer (some ⟨gb,0,none⟩),.agg #[St m,St n]] W λe w'=>e=.returned (.int .i64 0)/\zB gb W w'/\S' w'
theorem z4e (gb:Nat) (p:Option Addr) (cap n:Nat) (X Y:Nat->List UInt8) (S:Nat->zA->Prop) (hn:n<=5000)
 (V:Hid (∀i,i<n->∃one k n m ln,VisC gb (X i) (Y i) (S i) (S (i+1)) one k n m ln))
 (w:zA) (hgb:gb<=w.heap.size) (HW:Hid (∀W,zB gb w W->Wd W)) (HP:Hid (∀W,zB gb w W->Pw W)) (h0:S 0 w)
 (HT:Hid (∀i,i<n->∃b off,p=some ⟨b,off,none⟩/\b<gb/\w.cell? ⟨b,off+i*2,none⟩=some (St (X i))/\w.cell? ⟨b,off+i*2+1,none⟩=some (St (Y i)))):
 zC zF 56 #[.slice p n cap,.func (.func 57) #[.pointer (some ⟨gb,0,none⟩)] #[]] w λe w'=>e=.returned (.int .i64 0)/\zB gb w w'/\S n w':=by
 have D0:=hid (zM gb w);have s0:=hid h0;have g0:=hid hgb;clear h0 hgb;go_enter Tryz.func56,Tryz.ntmps56;go_wp21;go_loopw [13] (λi wr=>∃(k:Nat),k<=n/\i=.int .i64 (k:Int)/\Hid (zB gb w wr)/\Hid (gb<=wr.heap.size)/\Hid (S k wr))
  (λi _=>n-(zL i).toNat)
 case atStart=>exact⟨0,zR _,rfl,D0,g0,s0⟩
 case round=>
  obtain⟨k,hk,rfl,D1,g1,s1⟩:=hrel;by_cases hlt:k<n
  ·obtain⟨b,off,rfl,hb,c0,c1⟩:=HT.out k hlt
   obtain⟨one,kk,nr,m,ln,HV⟩:=V.out k hlt;have R1:=hid HV;generalize X k=x at*
   generalize Y k=y at*
   have cz:=HV.cz;have rz:=HV.rz;have n1:=HV.n1;have ln9:=HV.ln9;have t0:wr.cell? ⟨b,off+k*2,none⟩=some (St x):=by rw[D1.out.cell (p:=⟨b,off+k*2,none⟩) hb];exact c0
   have t1:wr.cell? ⟨b,off+k*2+1,none⟩=some (St y):=by rw[D1.out.cell (p:=⟨b,off+k*2+1,none⟩) hb];exact c1
   obtain⟨v1,hv⟩:=zzX (wr.alloc (.cells #[St x,St y] 37));have a1:qL wr v1:=by rw[hv];exact(zM _ wr).alloc (zN _) _
   have A1:v1.heap[wr.heap.size]? =some (.cells #[St x,St y] 37 (0,0)):=by rw[hv];exact zG wr _
   have k0:v1.cell? ⟨wr.heap.size,0,none⟩=some (St x):=by rw[zJ A1];rfl
   have k1:v1.cell? ⟨wr.heap.size,1,none⟩=some (St y):=by rw[zJ A1];rfl
   have k0':=k0;have k1':=k1;rw[hv] at k0 k1;have HV1:=hid hv.symm;have E1:=hid a1;have B1:=hid A1;clear hv a1 A1 HV c0 c1 hb;go_wp21;rw[HV1.out];clear t0 t1 k0 k1 HV1
   (refine wp_region_quiet_lit (by kernel_rfl) (by kernel_rfl) (WQ.out ?_);(repeat(first|(apply WQ.read (by rfl);(focus(rintro W ⟨n,rfl⟩;go_simp;try with_reducible rfl));try simp only[zzQ])|(apply WQ.skip (by rfl);try simp only[zzQ])));refine WQ.nil ?_;rintro _ ⟨nq,rfl⟩)
   have E2:=hid (zao E1.out nq);have B2:=hid (show(v1.drewN nq).heap[wr.heap.size]? =_ from B1.out);clear E1 B1;cases one
   ·go_wp21
    refine zzM (R1.out.norm rfl _ (HW.out _ (D1.out.trans (E2.out.mono g1.out))) (HP.out _ (D1.out.trans (E2.out.mono g1.out)))) λy1 hb1=>?_;have E3:=hid (E2.out.trans (hb1.mono E2.out.size));have B3:=hid (zac hb1 _ _ _ _ B2.out);clear hb1 E2 B2 k0' k1' cz rz n1;go_wp21;refine zzM (R1.out.lng _ (HW.out _ (D1.out.trans (E3.out.mono g1.out)))) λy2 hb1=>?_;have E4:=hid (E3.out.trans (hb1.mono E3.out.size));have B4:=hid (zac hb1 _ _ _ _ B3.out);clear hb1 E3 B3;have k0:y2.cell? ⟨wr.heap.size,0,none⟩=some (St x):=by rw[zJ B4.out];rfl
    go_wp21;refine zzM (R1.out.mul y2 (HW.out _ (D1.out.trans (E4.out.mono g1.out)))) λy3 hb1=>?_;have E5:=hid (E4.out.trans (hb1.mono E4.out.size));clear hb1 E4 B4 k0;go_wp21;refine(R1.out.each y3 (HW.out _ (D1.out.trans (E5.out.mono g1.out))) (R1.out.keep _ _ s1.out E5.out)).mono ?_;rintro e u1 ⟨rfl,hb1,hs⟩;have D2:=hid ((D1.out.trans (E5.out.mono g1.out)).trans hb1);have g2:Hid (gb<=u1.heap.size):=hid (zO g1.out (zO E5.out.size hb1.size));have s2:=hid hs;clear hb1 hs E5 s1 R1 HT;go_wp21;go_roundw
    case rel=>exact⟨k+1,by omega,by go_num,D2,g2,s2⟩
    case measure=>simp[zL];omega
   ·obtain⟨rfl,rfl⟩:=R1.out.kn rfl
    have E3:=E2;have B3:=B2;clear E2 B2;go_wp21;clear k0' k1' cz rz n1;refine zzM (R1.out.lng _ (HW.out _ (D1.out.trans (E3.out.mono g1.out)))) λy2 hb1=>?_;have E4:=hid (E3.out.trans (hb1.mono E3.out.size));have B4:=hid (zac hb1 _ _ _ _ B3.out);clear hb1 E3 B3;have k0:y2.cell? ⟨wr.heap.size,0,none⟩=some (St x):=by rw[zJ B4.out];rfl
    go_wp21;refine zzM (R1.out.mul y2 (HW.out _ (D1.out.trans (E4.out.mono g1.out)))) λy3 hb1=>?_;have E5:=hid (E4.out.trans (hb1.mono E4.out.size));clear hb1 E4 B4 k0;go_wp21;refine(R1.out.each y3 (HW.out _ (D1.out.trans (E5.out.mono g1.out))) (R1.out.keep _ _ s1.out E5.out)).mono ?_;rintro e u1 ⟨rfl,hb1,hs⟩;have D2:=hid ((D1.out.trans (E5.out.mono g1.out)).trans hb1);have g2:Hid (gb<=u1.heap.size):=hid (zO g1.out (zO E5.out.size hb1.size));have s2:=hid hs;clear hb1 hs E5 s1 R1 HT;go_wp21;go_roundw
    case rel=>exact⟨k+1,by omega,by go_num,D2,g2,s2⟩
    case measure=>simp[zL];omega
  ·have hkn:k=n:=by omega
   subst hkn;go_wp21;go_ret;exact⟨rfl,D1.out,s1.out⟩
def zin (l:List (List UInt8×List UInt8)):List (List UInt8×List UInt8):=l.filter λc=>!(c.1==[48])
def ziq (l:List (List UInt8×List UInt8)) (k:Nat):List (List UInt8×List UInt8):=zin (l.take k)
theorem z7n (l:List (List UInt8×List UInt8)):ziq l l.length=zin l:=by simp[ziq]
theorem z6s {l:List (List UInt8×List UInt8)} {k:Nat} {c:List UInt8×List UInt8} (h:l[k]? =some c):ziq l (k+1)=ziq l k++(if(c.1==[48])=true then[] else[c]):=by
 unfold ziq zin;rw[List.take_add_one,h,List.filter_append];cases hc:(c.1==[48])<;>simp[hc]
theorem z8a (l:List (List UInt8×List UInt8)) (k:Nat):(ziq l k).length<=l.length:=by
 have h1:=List.length_filter_le (λc:List UInt8×List UInt8=>!(c.1==[48])) (l.take k);have h2:(l.take k).length<=l.length:=by simp;omega
 unfold ziq zin;omega
theorem zl0 (p:Option Addr) (cap n:Nat) (X Y:Nat->List UInt8) (L M:List (List UInt8×List UInt8)) (j0:Nat) (hn:n<=256) (hm:L.length<=5000)
 (CK:Hid (∀i,i<n->qK 54 #[St (X i)] (.int .i64 0)))
 (RK:Hid (∀i,i<n->qK 54 #[St (Y i)] (.int .i64 0)))
 (PF:Hid (∀i,i<n->∀W:zA,zC zF 55 #[St (Y i),.string ⟨#[45]⟩] W λe w'=>e=.returned (.bool false)/\w'=W))
 (w:zA) (HW:Hid (∀W,qL w W->Wd W))
 (HT:Hid (∀i,i<n->∃b off,p=some ⟨b,off,none⟩/\b<w.heap.size/\w.cell? ⟨b,off+i*2,none⟩=some (St (X i))/\w.cell? ⟨b,off+i*2+1,none⟩=some (St (Y i))))
 (VIS:Hid (∀u vg:zA,qL w u->qL u vg->vg.heap.size=u.heap.size+1->GatL u.heap.size [] vg->zC zF 56 #[.slice p n cap,.func (.func 57) #[.pointer (some ⟨u.heap.size,0,none⟩)] #[]] vg λe w'=>e=.returned (.int .i64 0)/\zB u.heap.size vg w'/\GatL u.heap.size L w'))
 (LG:Hid (∀(i:Nat) (c:List UInt8×List UInt8),i<j0->L[i]? =some c->(c.1==[48])=false->∃a b:Int,(qK 58 #[St c.1] (.int .i64 a))/\(qK 58 #[St c.2] (.int .i64 b))/\decide (60<a)=false/\decide (40<b)=false))
 (END:Hid ((j0=L.length/\(zin L).length<=16/\∀(B:Nat) (W:zA) (q:Option Addr) (c:Nat),qL w W->w.heap.size<=B->B<=W.heap.size->W.ownsRow B 37 2 (.slice q (zin L).length c) (zin L).length (zbj (zin L))->zC zF 59 #[.slice q (zin L).length c,.func (.func 60) #[] #[]] W λe w'=>(∃u,e=.returned u)/\zB B W w'/\w'.ownsRow B 37 2 (.slice q (zin L).length c) (zin L).length (zbj M))\/∃(bx br:List UInt8) (a0:Int),L[j0]? =some (bx,br)/\(bx==[48])=false/\decide (60<a0)=true/\qK 58 #[St bx] (.int .i64 a0))):
 zC zF 13 #[.slice p n cap] w λe w'=>∃q m c r,e=.returned (.tuple #[.slice q m c,.int .i64 r])/\zB w.heap.size w w'/\((r=0/\j0=L.length/\m=(zin L).length/\w'.ownsRow w.heap.size 37 2 (.slice q m c) m (zbj M))\/(r=4/\j0<L.length/\q=none/\m=0/\c=0)):=by
 obtain⟨i0,hi,hz0,hz1,hz2⟩:=info_parts zsc;have D0:=hid (zM w.heap.size w);go_enter Tryz.func13,Tryz.ntmps13;go_wp21;go_loopw [18] (λi wr=>∃(k:Nat),k<=n/\i=.int .i64 (k:Int)/\Hid (qL w wr))
  (λi _=>n-(zL i).toNat)
 case atStart=>exact⟨0,zR _,rfl,D0⟩
 case round=>
  obtain⟨k,hk,rfl,D1⟩:=hrel;by_cases hlt:k<n
  ·obtain⟨b,off,rfl,hb,c0,c1⟩:=HT.out k hlt
   have C1:=hid (CK.out k hlt);have C2:=hid (RK.out k hlt);have C3:=hid (PF.out k hlt);generalize X k=x at*
   generalize Y k=y at*
   have t0:wr.cell? ⟨b,off+k*2,none⟩=some (St x):=by rw[D1.out.cell (p:=⟨b,off+k*2,none⟩) hb];exact c0
   have t1:wr.cell? ⟨b,off+k*2+1,none⟩=some (St y):=by rw[D1.out.cell (p:=⟨b,off+k*2+1,none⟩) hb];exact c1
   obtain⟨v1,hv⟩:=zzX (wr.alloc (.cells #[St x,St y] 37));have a1:qL wr v1:=by rw[hv];exact(zM _ wr).alloc (zN _) _
   have A1:v1.heap[wr.heap.size]? =some (.cells #[St x,St y] 37 (0,0)):=by rw[hv];exact zG wr _
   have k0:v1.cell? ⟨wr.heap.size,0,none⟩=some (St x):=by rw[zJ A1];rfl
   rw[hv] at k0;have HV1:=hid hv.symm;have E1:=hid (D1.out.trans (a1.mono D1.out.size));have B1:=hid A1;clear hv a1 A1 c0 c1 hb;go_wp21;rw[HV1.out];clear t0 t1 k0 HV1;refine zzM (C1.out v1 (HW.out _ E1.out)) λy1 hb1=>?_;have E2:=hid (E1.out.trans (hb1.mono E1.out.size));have B2:=hid (zac hb1 _ _ _ _ B1.out);clear hb1 E1 B1;have k1:y1.cell? ⟨wr.heap.size,1,none⟩=some (St y):=by rw[zJ B2.out];rfl
   go_wp21;refine zzM (C2.out y1 (HW.out _ E2.out)) λy2 hb1=>?_;have E3:=hid (E2.out.trans (hb1.mono E2.out.size));have B3:=hid (zac hb1 _ _ _ _ B2.out);clear hb1 k1 E2 B2;have k1:y2.cell? ⟨wr.heap.size,1,none⟩=some (St y):=by rw[zJ B3.out];rfl
   go_wp21;refine zzM (C3.out y2) λu1 hw1=>?_;have D2:Hid (qL w u1):=hid (by rw[hw1];exact E3.out);clear hw1 k1 E3 B3;go_wp21;go_roundw
   case rel=>exact⟨k+1,by omega,by go_num,D2⟩
   case measure=>simp[zL];omega
  ·have hkn:k=n:=by omega
   subst hkn;go_wp21;have N0:qL wr (wr.alloc (.cells #[.slice none 0 0] 93)):=(zM _ wr).alloc (zN _) _;have NA:=zG wr (.cells #[.slice none 0 0] 93);have NZ:(wr.alloc (.cells #[.slice none 0 0] 93)).heap.size=wr.heap.size+1:=by simp
   generalize wr.alloc (.cells #[.slice none 0 0] 93)=vg at*
   have HV:=hid (VIS.out wr vg D1.out N0 NZ ⟨⟨_,by rw[zJ NA];rfl,World.ownsRow_nil _ _ _ _⟩,by rw[Go.Joins.unfrozen_of_block NA]⟩);have HN0:=hid N0;clear NA NZ N0 VIS HT CK RK PF;refine HV.out.mono ?_;rintro e z ⟨rfl,hz,hg⟩;have DZ:Hid (qL w z):=hid (D1.out.trans ((HN0.out.trans hz).mono D1.out.size));obtain⟨pc,cc,g0, -,r0⟩:=hg.row;have HR:=hid r0;obtain⟨m,hmm⟩:=zzX L.length;have hjm:j0<=m:=by
    rcases END.out with⟨h,_⟩|⟨_,_,_,h,_⟩
    ·omega
    ·have:=(List.getElem?_eq_some_iff.1 h).1;omega
   rw[<-hmm] at g0 hm;have HM:=hid hmm;have Z0:=hid (zM z.heap.size z);have ZO:=hid (show z.ownsRow z.heap.size 37 2 (.slice none 0 0) (ziq L 0).length (zbj (ziq L 0)) from World.ownsRow_nil _ _ _ _);clear hmm r0 hg hz HV;go_wp21;clear g0;go_loopw [10,47] (λv i wr=>∃(k:Nat) (q:Option Addr) (c:Nat),k<=j0/\i=.int .i64 (k:Int)/\v=.slice q (ziq L k).length c/\Hid (qL z wr)/\Hid (wr.ownsRow z.heap.size 37 2 (.slice q (ziq L k).length c) (ziq L k).length (zbj (ziq L k))))
    (λ_ i _=>m-(zL i).toNat)
   case atStart=>exact⟨0,none,0,zR _,rfl,rfl,Z0,ZO⟩
   case round=>
    obtain⟨k,q,c,hk,rfl,rfl,E0,O0⟩:=hrel;by_cases hlt:k<j0
    ·have hkm0:k<m:=by omega
     obtain⟨d,hd⟩:∃d,L[k]? =some d:=⟨_,yB (by rw[<-HM.out];exact hkm0)⟩;obtain⟨g,rfl,c0,c1⟩:=(HR.out.keep (zac E0.out)) k d hd;have hks:=z6s hd;have hkl:=z8a L k;rw[<-HM.out] at hkl;have hL:=λh=>LG.out k d hlt hd h;obtain⟨x,y⟩:=d;simp only at c0 c1 hks hL;obtain⟨v1,hv⟩:=zzX (wr.alloc (.cells #[St x,St y] 97));have a1:qL wr v1:=by rw[hv];exact(zM _ wr).alloc (zN _) _
     have A1:v1.heap[wr.heap.size]? =some (.cells #[St x,St y] 97 (0,0)):=by rw[hv];exact zG wr _
     have k0:v1.cell? ⟨wr.heap.size,0,none⟩=some (St x):=by rw[zJ A1];rfl
     rw[hv] at k0;have HV1:=hid hv.symm;have E1:=hid (E0.out.trans (a1.mono E0.out.size));have B1:=hid A1;have O1:=hid (zcj (zac a1) O0.out);have HK:=hid hks;have HL:=hid hL;clear hv a1 A1 O0 hd hks hL;cases hx:(x==[48])
     ·obtain⟨a,b,La,Lb,la,lb⟩:=HL.out hx
      have HLa:=hid La;have HLb:=hid Lb;clear La Lb;go_wp21;rw[HV1.out];clear c0 c1 k0 HV1;refine zzM (HLa.out v1 (HW.out _ (DZ.out.trans (E1.out.mono DZ.out.size)))) λy1 hb1=>?_;have E2:=hid (E1.out.trans (hb1.mono E1.out.size));have B2:=hid (zac hb1 _ _ _ _ B1.out);have O2:=hid (zcj (zac hb1) O1.out);clear hb1 E1 B1 O1;have k1:y1.cell? ⟨wr.heap.size,1,none⟩=some (St y):=by rw[zJ B2.out];rfl
      go_wp21;refine zzM (HLb.out y1 (HW.out _ (DZ.out.trans (E2.out.mono DZ.out.size)))) λy2 hb1=>?_;have E3:=hid (E2.out.trans (hb1.mono E2.out.size));have B3:=hid (zac hb1 _ _ _ _ B2.out);have O3:=hid (zcj (zac hb1) O2.out);clear hb1 k1 E2 B2 O2;have k0:y2.cell? ⟨wr.heap.size,0,none⟩=some (St x):=by rw[zJ B3.out];rfl
      have k1:y2.cell? ⟨wr.heap.size,1,none⟩=some (St y):=by rw[zJ B3.out];rfl
      go_wp2_with (at_builtin;refine wpList_append_own _ rfl _ _ 26 rfl z.heap.size 37 i0 (.agg #[St [],St []]) 2 32 Tryz.underlying26 hi hz0 hz1 hz2 rfl (by decide) _ _ _ rfl (O3.out.alloc _) ⟨y2.heap.size,0,none⟩ 1 1 [St x,St y] rfl rfl (zoq _ _ _ _) (zm4 _ _) (by unfold maxLen;omega) (by omega) (by have:=E3.out.size;simp;omega) (λv' w' hown' hgrow _=>?_));obtain⟨g',c',rfl, -, -⟩:=zye hown' (by omega);have F1:Hid (qL z w'):=hid ((E3.out.alloc E3.out.size _).grown hgrow (by have:=E3.out.size;simp;omega) (λq e=>(O3.out.lt q e).1));have he:ziq L (k+1)=ziq L k++[(x,y)]:=by rw[HK.out,hx];rfl
      have hel:(ziq L (k+1)).length=(ziq L k).length+1:=by rw[he];simp
      have G1:Hid (w'.ownsRow z.heap.size 37 2 (.slice (some ⟨g',0,none⟩) (ziq L (k+1)).length c') (ziq L (k+1)).length (zbj (ziq L (k+1)))):=hid (by rw[hel,he,zjb];exact hown');have HE:=hid hel;clear hgrow hown' k0 k1 E3 O3 B3 he hel HK HL;go_roundw
      case rel=>exact⟨k+1,some ⟨g',0,none⟩,c',by omega,by go_num,by rw[HE.out],F1,G1⟩
      case measure=>simp[zL];omega
     ·have he:ziq L (k+1)=ziq L k:=by rw[HK.out,hx];simp
      have HE:=hid he;clear he HK HL;go_wp21;rw[HV1.out];clear c0 c1 k0 HV1;go_roundw
      case rel=>exact⟨k+1,q,c,by omega,by go_num,by rw[HE.out],E1,by rw[HE.out];exact O1⟩
      case measure=>simp[zL];omega
    ·have hkm:k=j0:=by omega
     subst hkm;clear LG;rcases END.out with⟨hjl,ho,hS⟩|⟨bx,br,a0,hj,hb0,ha0,hLB⟩
     ·have HX:=hid hjl
      have hkm:k=m:=by rw[HM.out];exact hjl
      subst hkm;clear END hjl hjm hlt;have he:ziq L k=zin L:=by rw[HX.out,z7n]
      rw[he] at O0⊢;have DE:=hid (DZ.out.trans (E0.out.mono DZ.out.size));have hs:=hS z.heap.size wr q c DE.out DZ.out.size E0.out.size O0.out;have HS:=hid hs;clear hs he hS;go_wp21;refine HS.out.mono ?_;rintro e y5 ⟨⟨u,rfl⟩,h1,h2⟩;have FE:=hid (⟨DE.out.trans (h1.mono DZ.out.size),h2.mono DZ.out.size⟩:qL w y5/\y5.ownsRow w.heap.size 37 2 (.slice q (zin L).length c) (zin L).length (zbj M));clear h1 h2;go_wp21;go_ret2;exact⟨q,_,c,0,rfl,FE.out.1,.inl ⟨rfl,HX.out,rfl,FE.out.2⟩⟩
     ·have hkm0:k<m:=by have:=(List.getElem?_eq_some_iff.1 hj).1;rw[HM.out];exact this
      have HKM:=hid (show k<L.length by rw[<-HM.out];exact hkm0);have HJ:=hid hj;have HB0:=hid hb0;have HA0:=hid ha0;have LB:=hid hLB;clear END hj hb0 ha0 hLB hlt;obtain⟨g,rfl,c0,c1⟩:=(HR.out.keep (zac E0.out)) k (bx,br) HJ.out;simp only at c0 c1;have hx:=HB0.out;obtain⟨v1,hv⟩:=zzX (wr.alloc (.cells #[St bx,St br] 97));have a1:qL wr v1:=by rw[hv];exact(zM _ wr).alloc (zN _) _
      have A1:v1.heap[wr.heap.size]? =some (.cells #[St bx,St br] 97 (0,0)):=by rw[hv];exact zG wr _
      have k0:v1.cell? ⟨wr.heap.size,0,none⟩=some (St bx):=by rw[zJ A1];rfl
      rw[hv] at k0;have HV1:=hid hv.symm;have E1:=hid (E0.out.trans (a1.mono E0.out.size));clear hv a1 A1 O0;go_wp21;rw[HV1.out];clear c0 c1 k0 HV1;refine zzM (LB.out v1 (HW.out _ (DZ.out.trans (E1.out.mono DZ.out.size)))) λy1 hb1=>?_;have E2:=hid (DZ.out.trans ((E1.out.trans (hb1.mono E1.out.size)).mono DZ.out.size));have hai:60<a0:=by first|exact of_decide_eq_true HA0.out|exact HA0.out
      have ha:decide (60<a0)=true:=decide_eq_true hai;clear hb1 E1;go_wp21;go_ret2;exact⟨none,0,0,4,rfl,E2.out,.inr ⟨rfl,HKM.out,rfl,rfl,rfl⟩⟩
theorem z6g (v1 v2:Value) (C:zA->Prop) (hC:∀W W',C W->qL W W'->C W')
 (K1:Hid (∀W:zA,C W->qJ 70 #[v1] W (.int .i64 0)))
 (K2:Hid (∀W:zA,C W->qJ 70 #[v2] W (.int .i64 0)))
 (w:zA) (h:C w):
 qJ 71 #[v1,v2] w (.bool true):=by
 have HC:=hid hC;have H:=hid h;clear hC h;go_enter Tryz.func71,Tryz.ntmps71;go_wp21;refine zzM (K1.out w H.out) λw1 hb1=>?_;have B1:=hid hb1;clear hb1;go_wp21;refine zzM (K2.out w1 (HC.out _ _ H.out B1.out)) λw2 hb2=>?_;have B2:=hid (B1.out.trans (hb2.mono B1.out.size));clear hb2;go_wp21;go_ret;exact⟨rfl,B2.out⟩
def zuh (C D:Nat->Nat->List UInt8) (i:Nat):Nat->List (List UInt8×List UInt8)
 |0=>[]
 |j+1=>zuh C D i j++[(C i j,D i j)]
def zhr (C D:Nat->Nat->List UInt8) (m:Nat):Nat->List (List UInt8×List UInt8)
 |0=>[]
 |i+1=>zhr C D m i++zuh C D i m
theorem zwv (C D:Nat->Nat->List UInt8) (i:Nat):∀j,(zuh C D i j).length=j
 |0=>rfl
 |j+1=>by simp[zuh,zwv C D i j]
theorem zxw (C D:Nat->Nat->List UInt8) (m:Nat):∀i,(zhr C D m i).length=i*m
 |0=>by simp[zhr]
 |i+1=>by simp[zhr,zxw C D m i,zwv,Nat.succ_mul]
def zdq (C D:Nat->Nat->List UInt8) (m i j:Nat):List (List UInt8×List UInt8):=zhr C D m i++zuh C D i j
theorem z9h (C D:Nat->Nat->List UInt8) (m i j:Nat):(zdq C D m i j).length=i*m+j:=by simp[zdq,zxw,zwv]
theorem z8v (C D:Nat->Nat->List UInt8) (m i j:Nat):zdq C D m i (j+1)=zdq C D m i j++[(C i j,D i j)]:=by simp[zdq,zuh]
theorem z9i (C D:Nat->Nat->List UInt8) (m i:Nat):zdq C D m i m=zdq C D m (i+1) 0:=by simp[zdq,zhr,zuh]
theorem z8w (C D:Nat->Nat->List UInt8) (m i:Nat):zdq C D m i 0=zhr C D m i:=by simp[zdq,zuh]
theorem z7o (C D:Nat->Nat->List UInt8) {n m i j:Nat} (hi:i<n) (hj:j<=m) (hn:n<=16) (hm:m<=16):(zdq C D m i j).length<=256:=by
 rw[z9h];have:=Nat.mul_le_mul (show i+1<=16 by omega) hm;rw[Nat.succ_mul] at this;omega
theorem zy2 (p1 p2:Option Addr) (cap1 cap2 n m:Nat) (X1 Y1 X2 Y2:Nat->List UInt8) (C D:Nat->Nat->List UInt8) (R:Value->Int->zA->Prop) (hn:n<=16) (hm:m<=16)
 (w:zA) (HW:Hid (∀W,qL w W->Wd W))
 (BT:Hid (qJ 71 #[.slice p1 n cap1,.slice p2 m cap2] w (.bool true)))
 (CC:Hid (∀i j,i<n->j<m->qK 11 #[St (X1 i),St (X2 j)] (.tuple #[St (C i j),.int .i64 0])))
 (DD:Hid (∀i j,i<n->j<m->qK 11 #[St (Y1 i),St (Y2 j)] (.tuple #[St (D i j),.int .i64 0])))
 (T1:Hid (∀i,i<n->∃b off,p1=some ⟨b,off,none⟩/\b<w.heap.size/\w.cell? ⟨b,off+i*2,none⟩=some (St (X1 i))/\w.cell? ⟨b,off+i*2+1,none⟩=some (St (Y1 i))))
 (T2:Hid (∀i,i<m->∃b off,p2=some ⟨b,off,none⟩/\b<w.heap.size/\w.cell? ⟨b,off+i*2,none⟩=some (St (X2 i))/\w.cell? ⟨b,off+i*2+1,none⟩=some (St (Y2 i))))
 (MK:Hid (∀(W:zA) (q:Option Addr) (c:Nat),qL w W->W.ownsRow w.heap.size 37 2 (.slice q (zhr C D m n).length c) (zhr C D m n).length (zbj (zhr C D m n))->zC zF 13 #[.slice q (zhr C D m n).length c] W λe w'=>∃q' k' c' r,e=.returned (.tuple #[.slice q' k' c',.int .i64 r])/\zB W.heap.size W w'/\R (.slice q' k' c') r w')):
 zC zF 18 #[.slice p1 n cap1,.slice p2 m cap2] w λe w'=>∃q k c r,e=.returned (.tuple #[.slice q k c,.int .i64 r])/\zB w.heap.size w w'/\R (.slice q k c) r w':=by
 obtain⟨i0,hi,hz0,hz1,hz2⟩:=info_parts zsc;go_enter Tryz.func18,Tryz.ntmps18;go_wp21;refine zzM BT.out λw1 hb1=>?_;have D0:=hid hb1;have O0:=hid (show w1.ownsRow w.heap.size 37 2 (.slice none 0 0) (zdq C D m 0 0).length (zbj (zdq C D m 0 0)) from World.ownsRow_nil _ _ _ _);clear hb1 BT;go_wp21;go_loopw [6,20] (λv i wr=>∃(k:Nat) (q:Option Addr) (c:Nat),k<=n/\i=.int .i64 (k:Int)/\v=.slice q (zdq C D m k 0).length c/\Hid (qL w wr)/\Hid (wr.ownsRow w.heap.size 37 2 (.slice q (zdq C D m k 0).length c) (zdq C D m k 0).length (zbj (zdq C D m k 0))))
  (λ_ i _=>n-(zL i).toNat)
 case atStart=>exact⟨0,none,0,zR _,rfl,rfl,D0,O0⟩
 case round=>
  clear D0 O0;obtain⟨k,q,c,hk,rfl,rfl,D1,O1⟩:=hrel;by_cases hlt:k<n
  ·obtain⟨b,off,rfl,hb,c0,c1⟩:=T1.out k hlt
   have t0:wr.cell? ⟨b,off+k*2,none⟩=some (St (X1 k)):=by rw[D1.out.cell (p:=⟨b,off+k*2,none⟩) hb];exact c0
   have t1:wr.cell? ⟨b,off+k*2+1,none⟩=some (St (Y1 k)):=by rw[D1.out.cell (p:=⟨b,off+k*2+1,none⟩) hb];exact c1
   have hCk:=λj=>CC.out k j hlt;have hDk:=λj=>DD.out k j hlt;have HCk:=hid hCk;have HDk:=hid hDk;clear hCk hDk;generalize X1 k=x at*
   generalize Y1 k=y at*
   obtain⟨v1,hv⟩:=zzX (wr.alloc (.cells #[St x,St y] 37));have a1:qL wr v1:=by rw[hv];exact(zM _ wr).alloc (zN _) _
   have A1:v1.heap[wr.heap.size]? =some (.cells #[St x,St y] 37 (0,0)):=by rw[hv];exact zG wr _
   have HV1:=hid hv.symm;have E1:=hid (D1.out.trans (a1.mono D1.out.size));have B1:=hid A1;have O2:=hid (zcj (zac a1) O1.out);have NB:Hid (∀b,(Value.slice q (zdq C D m k 0).length c).ownBlock=some b->b<wr.heap.size):=hid (λb e=>(O1.out.lt b e).2);obtain⟨T,hT⟩:=zzX wr.heap.size;have HTs:=hid (show w.heap.size<=T by rw[hT];exact D1.out.size);rw[<-hT] at B1;have HT:=hid hT;clear hv a1 A1 c0 c1 hb O1 hT;go_wp21;rw[HV1.out];clear t0 t1 HV1;obtain⟨wo,hwo⟩:=zzX (wr:zA);have HWO:=hid hwo;clear hwo;rw[<-HT.out];have NB0:Hid (some T≠(Value.slice q (zdq C D m k 0).length c).ownBlock):=hid (λe=>by
    have:=(O2.out.lt T e.symm).2;have:=NB.out T e.symm;rw[HT.out] at this;omega)
   clear NB;go_loopw [6,26] (λv i wr=>∃(j:Nat) (q:Option Addr) (c:Nat),j<=m/\i=.int .i64 (j:Int)/\v=.slice q (zdq C D m k j).length c/\Hid (qL w wr)/\Hid (wr.ownsRow w.heap.size 37 2 (.slice q (zdq C D m k j).length c) (zdq C D m k j).length (zbj (zdq C D m k j)))/\Hid (wr.heap[T]? =some (.cells #[St x,St y] 37 (0,0)))/\Hid (some T≠(Value.slice q (zdq C D m k j).length c).ownBlock))
    (λ_ i _=>m-(zL i).toNat)
   case atStart=>exact⟨0,q,c,zR _,rfl,rfl,E1,O2,B1,NB0⟩
   case round=>
    clear E1 O2 B1 NB0;obtain⟨j,q,c,hj,rfl,rfl,E2,O3,B2,NB1⟩:=hrel;by_cases hjm:j<m
    ·obtain⟨b2,off2,rfl,hb,c0,c1⟩:=T2.out j hjm
     have t2:wr.cell? ⟨b2,off2+j*2,none⟩=some (St (X2 j)):=by rw[E2.out.cell (p:=⟨b2,off2+j*2,none⟩) hb];exact c0
     have t3:wr.cell? ⟨b2,off2+j*2+1,none⟩=some (St (Y2 j)):=by rw[E2.out.cell (p:=⟨b2,off2+j*2+1,none⟩) hb];exact c1
     have M1:=hid (HCk.out j hjm);have M2:=hid (HDk.out j hjm);have hs:=z8v C D m k j;have hsm:=z7o C D hlt hj hn hm;have HS:=hid hs;generalize X2 j=x2 at*
     generalize Y2 j=y2 at*
     generalize C k j=z at*
     generalize D k j=zr at*
     generalize zdq C D m k j=acc at*
     obtain⟨v2,hv⟩:=zzX (wr.alloc (.cells #[St x2,St y2] 37));have a1:qL wr v2:=by rw[hv];exact(zM _ wr).alloc (zN _) _
     have A1:v2.heap[wr.heap.size]? =some (.cells #[St x2,St y2] 37 (0,0)):=by rw[hv];exact zG wr _
     have A2:=zac a1 _ _ _ _ B2.out;have k0:v2.cell? ⟨T,0,none⟩=some (St x):=by rw[zJ A2];rfl
     have k1:v2.cell? ⟨wr.heap.size,0,none⟩=some (St x2):=by rw[zJ A1];rfl
     rw[hv] at k0 k1;have HV1:=hid hv.symm;have E3:=hid (E2.out.trans (a1.mono E2.out.size));have O4:=hid (zcj (zac a1) O3.out);have P1:=hid A1;have P2:=hid A2;clear hv a1 A1 A2 c0 c1 hb O3 E2 B2 hs;go_wp21;rw[HV1.out];clear t2 t3 k0 k1 HV1;refine zzM (M1.out v2 (HW.out _ E3.out)) λy1 hb1=>?_;have E4:=hid (E3.out.trans (hb1.mono E3.out.size));have O5:=hid (zcj (zac hb1) O4.out);have P3:=hid (zac hb1 _ _ _ _ P1.out);have P4:=hid (zac hb1 _ _ _ _ P2.out);clear hb1 E3 O4 P1 P2 M1;have k0:y1.cell? ⟨T,1,none⟩=some (St y):=by rw[zJ P4.out];rfl
     have k1:y1.cell? ⟨wr.heap.size,1,none⟩=some (St y2):=by rw[zJ P3.out];rfl
     go_wp21;refine zzM (M2.out y1 (HW.out _ E4.out)) λu1 hb1=>?_;have E5:=hid (E4.out.trans (hb1.mono E4.out.size));have O6:=hid (zcj (zac hb1) O5.out);have P5:=hid (zac hb1 _ _ _ _ P4.out);clear hb1 E4 O5 P3 P4 M2 k0 k1;go_wp2_with (at_builtin;refine wpList_append_own_at _ rfl _ _ 25 rfl w.heap.size 37 i0 (.agg #[St [],St []]) 2 32 Tryz.underlying25 hi hz0 hz1 hz2 rfl (by decide) _ _ _ rfl (O6.out.alloc _) ⟨u1.heap.size,0,none⟩ 1 1 [St z,St zr] rfl rfl (zoq _ _ _ _) (zm4 _ _) (by unfold maxLen;omega) (by omega) (by have:=E5.out.size;simp;omega) (λv' w' hown' hgrow _ hat=>?_));obtain⟨g',c',rfl, -, -⟩:=zye hown' (by omega);have F1:Hid (qL w w'):=hid ((E5.out.alloc E5.out.size _).grown hgrow (by have:=E5.out.size;simp;omega) (λq e=>(O6.out.lt q e).1));have hTu:T<u1.heap.size:=(Array.getElem?_eq_some_iff.1 P5.out).1;have P6:w'.heap[T]? =some (.cells #[St x,St y] 37 (0,0)):=by
      rw[hgrow.block T (by simp;omega) NB1.out];exact zac (show qL u1 (u1.alloc _) from(zM _ u1).alloc (zN _) _) _ _ _ _ P5.out
     have NB2:some T≠(Value.slice (some ⟨g',0,none⟩) (acc.length+1) c').ownBlock:=λe=>by
      rcases hat with h|h
      ·exact NB1.out (e.trans h)
      ·have:=e.trans h
       simp at this;omega
     have hel:(zdq C D m k (j+1)).length=acc.length+1:=by rw[HS.out];simp
     have G1:Hid (w'.ownsRow w.heap.size 37 2 (.slice (some ⟨g',0,none⟩) (zdq C D m k (j+1)).length c') (zdq C D m k (j+1)).length (zbj (zdq C D m k (j+1)))):=hid (by rw[hel,HS.out,zjb];exact hown');have HE:=hid hel;have G2:=hid P6;have G3:Hid (some T≠(Value.slice (some ⟨g',0,none⟩) (zdq C D m k (j+1)).length c').ownBlock):=hid (by rw[hel];exact NB2);clear hgrow hown' hat hTu P6 NB2 hel E5 O6 P5 NB1;go_roundw
     case rel=>exact⟨j+1,some ⟨g',0,none⟩,c',by omega,by go_num,by rw[HE.out],F1,G1,G2,G3⟩
     case measure=>simp[zL];omega
    ·have hjm':j=m:=by omega
     subst hjm';have he:=z9i C D j k;have HE:=hid he;clear he;go_wp21;go_roundw
     case rel=>exact⟨k+1,q,c,by omega,by go_num,by rw[HE.out],E2,by rw[<-HE.out];exact O3⟩
     case measure=>simp[zL];omega
  ·have hkn:k=n:=by omega
   subst hkn;have he:=z8w C D m k;rw[he] at O1⊢;have HM:=hid (MK.out wr q c D1.out O1.out);clear he MK;go_wp21;refine HM.out.mono ?_;rintro e y5 ⟨q',k',c',r,rfl,h1,h2⟩;have FE:=hid (⟨D1.out.trans (h1.mono D1.out.size),h2⟩:qL w y5/\R (.slice q' k' c') r y5);clear h1 h2 HM;go_wp21;go_ret2;exact⟨q',k',c',r,rfl,FE.out.1,FE.out.2⟩
theorem z8y (p1 p2:Option Addr) (cap1 cap2 n m K:Nat) (X1 Y1 X2 Y2:Nat->List UInt8) (C D:Nat->Nat->List UInt8) (M:List (List UInt8×List UInt8)) (hn:n<=16) (hm:m<=16)
 (w:zA) (HW:Hid (∀W,qL w W->Wd W))
 (BT:Hid (qJ 71 #[.slice p1 n cap1,.slice p2 m cap2] w (.bool true)))
 (CC:Hid (∀i j,i<n->j<m->qK 11 #[St (X1 i),St (X2 j)] (.tuple #[St (C i j),.int .i64 0])))
 (DD:Hid (∀i j,i<n->j<m->qK 11 #[St (Y1 i),St (Y2 j)] (.tuple #[St (D i j),.int .i64 0])))
 (T1:Hid (∀i,i<n->∃b off,p1=some ⟨b,off,none⟩/\b<w.heap.size/\w.cell? ⟨b,off+i*2,none⟩=some (St (X1 i))/\w.cell? ⟨b,off+i*2+1,none⟩=some (St (Y1 i))))
 (T2:Hid (∀i,i<m->∃b off,p2=some ⟨b,off,none⟩/\b<w.heap.size/\w.cell? ⟨b,off+i*2,none⟩=some (St (X2 i))/\w.cell? ⟨b,off+i*2+1,none⟩=some (St (Y2 i))))
 (MK:Hid (∀(W:zA) (q:Option Addr) (c:Nat),qL w W->W.ownsRow w.heap.size 37 2 (.slice q (zhr C D m n).length c) (zhr C D m n).length (zbj (zhr C D m n))->zC zF 13 #[.slice q (zhr C D m n).length c] W λe w'=>∃q' c',e=.returned (.tuple #[.slice q' K c',.int .i64 0])/\zB W.heap.size W w'/\w'.ownsRow W.heap.size 37 2 (.slice q' K c') K (zbj M))):
 zC zF 18 #[.slice p1 n cap1,.slice p2 m cap2] w λe w'=>∃q c,e=.returned (.tuple #[.slice q K c,.int .i64 0])/\zB w.heap.size w w'/\w'.ownsRow w.heap.size 37 2 (.slice q K c) K (zbj M):=
 (zy2 p1 p2 cap1 cap2 n m X1 Y1 X2 Y2 C D (λv r W=>∃q' c',v=.slice q' K c'/\r=0/\W.ownsRow w.heap.size 37 2 (.slice q' K c') K (zbj M)) hn hm w HW BT CC DD T1 T2
   (hid λW q c hW ho=>(MK.out W q c hW ho).mono λe w' ⟨q',c',h1,h2,h3⟩=>⟨q',K,c',0,h1,h2,q',c',rfl,rfl,h3.mono hW.size⟩)).mono λe w' ⟨q,k,c,r,h1,h2,q',c',h3,h4,h5⟩=>by
   subst h4;injection h3 with e1 e2 e3;subst e1;subst e2;subst e3;exact⟨q,c,h1,h2,h5⟩
end
section
open Go.RowKit Go.Shelf Lib Str Limb
theorem z7p (p:Option Addr) (cap n:Nat) (X Y:Nat->List UInt8) (L M:List (List UInt8×List UInt8)) (hn:n<=256) (hm:L.length<=5000) (ho:(zin L).length<=16)
 (CK:Hid (∀i,i<n->qK 54 #[St (X i)] (.int .i64 0)))
 (RK:Hid (∀i,i<n->qK 54 #[St (Y i)] (.int .i64 0)))
 (PF:Hid (∀i,i<n->∀W:zA,zC zF 55 #[St (Y i),.string ⟨#[45]⟩] W λe w'=>e=.returned (.bool false)/\w'=W))
 (w:zA) (HW:Hid (∀W,qL w W->Wd W))
 (HT:Hid (∀i,i<n->∃b off,p=some ⟨b,off,none⟩/\b<w.heap.size/\w.cell? ⟨b,off+i*2,none⟩=some (St (X i))/\w.cell? ⟨b,off+i*2+1,none⟩=some (St (Y i))))
 (VIS:Hid (∀u vg:zA,qL w u->qL u vg->vg.heap.size=u.heap.size+1->GatL u.heap.size [] vg->zC zF 56 #[.slice p n cap,.func (.func 57) #[.pointer (some ⟨u.heap.size,0,none⟩)] #[]] vg λe w'=>e=.returned (.int .i64 0)/\zB u.heap.size vg w'/\GatL u.heap.size L w'))
 (LG:Hid (∀(i:Nat) (c:List UInt8×List UInt8),L[i]? =some c->(c.1==[48])=false->∃a b:Int,(qK 58 #[St c.1] (.int .i64 a))/\(qK 58 #[St c.2] (.int .i64 b))/\decide (60<a)=false/\decide (40<b)=false))
 (SRT:Hid (∀(B:Nat) (W:zA) (q:Option Addr) (c:Nat),qL w W->w.heap.size<=B->B<=W.heap.size->W.ownsRow B 37 2 (.slice q (zin L).length c) (zin L).length (zbj (zin L))->zC zF 59 #[.slice q (zin L).length c,.func (.func 60) #[] #[]] W λe w'=>(∃u,e=.returned u)/\zB B W w'/\w'.ownsRow B 37 2 (.slice q (zin L).length c) (zin L).length (zbj M))):
 zC zF 13 #[.slice p n cap] w λe w'=>∃q c,e=.returned (.tuple #[.slice q (zin L).length c,.int .i64 0])/\zB w.heap.size w w'/\w'.ownsRow w.heap.size 37 2 (.slice q (zin L).length c) (zin L).length (zbj M):=by
 refine(zl0 p cap n X Y L M L.length hn hm CK RK PF w HW HT VIS (hid λi c _ hc h=>LG.out i c hc h) (hid (.inl ⟨rfl,ho,SRT.out⟩))).mono λe w' ⟨q,m,c,r,e1,hb,h⟩=>?_;rcases h with⟨rfl,_,rfl,h⟩|⟨_,h,_⟩
 ·exact⟨q,c,e1,hb,h⟩
 ·omega
end
section
open Go.RowKit Go.Shelf Lib Str Limb
attribute [local go_sem] Oper.semAt_some
structure PlsS (w:zA) (x xr y yr:List UInt8) (W:zA):Prop where
 bel:qL w W
 h0:W.heap[w.heap.size]? =some (.cells #[St x,St xr] 97 (0,0))
 h1:W.heap[w.heap.size+1]? =some (.cells #[St y,St yr] 97 (0,0))
 h2:W.heap[w.heap.size+1+1]? =some (.cells #[St [],St []] 97 (0,0))
theorem PlsS.next {w:zA} {x xr y yr:List UInt8} {W W':zA} (h:PlsS w x xr y yr W) (hb:qL W W'):PlsS w x xr y yr W':=
 have hc:=zac hb
 ⟨h.bel.trans (hb.mono h.bel.size),hc _ _ _ _ h.h0,hc _ _ _ _ h.h1,hc _ _ _ _ h.h2⟩
theorem PlsS.cells {w:zA} {x xr y yr:List UInt8} {W:zA} (h:PlsS w x xr y yr W):
 W.cell? ⟨w.heap.size,0,none⟩=some (St x)/\W.cell? ⟨w.heap.size,1,none⟩=some (St xr)/\W.cell? ⟨w.heap.size+1,0,none⟩=some (St y)/\W.cell? ⟨w.heap.size+1,1,none⟩=some (St yr)/\
 W.cell? ⟨w.heap.size+1+1,0,none⟩=some (St [])/\W.cell? ⟨w.heap.size+1+1,1,none⟩=some (St [])/\W.frozen? ⟨w.heap.size+1+1,0,none⟩=false/\W.frozen? ⟨w.heap.size+1+1,1,none⟩=false:=by
 refine⟨?_,?_,?_,?_,?_,?_,Go.Joins.unfrozen_of_block h.h2 0,Go.Joins.unfrozen_of_block h.h2 1⟩
 ·rw[zJ h.h0];rfl
 ·rw[zJ h.h0];rfl
 ·rw[zJ h.h1];rfl
 ·rw[zJ h.h1];rfl
 ·rw[zJ h.h2];rfl
 ·rw[zJ h.h2];rfl
theorem PlsS.start (w:zA) (x xr y yr:List UInt8):PlsS w x xr y yr (((w.alloc (.cells #[St x,St xr] 97)).alloc (.cells #[St y,St yr] 97)).alloc (.cells #[St [],St []] 97)):=by
 refine⟨(((zM _ w).alloc (zN _) _).alloc (by simp) _).alloc (by simp;omega) _,?_,?_,?_⟩
 ·exact(Below.heap_alloc _ _ _ (by simp;omega)).trans ((Below.heap_alloc _ _ _ (by simp)).trans (zG w _))
 ·have:=zG (w.alloc (.cells #[St x,St xr] 97)) (.cells #[St y,St yr] 97)
  rw[zH] at this;exact(Below.heap_alloc _ _ _ (by simp)).trans this
 ·have:=zG ((w.alloc (.cells #[St x,St xr] 97)).alloc (.cells #[St y,St yr] 97)) (.cells #[St [],St []] 97)
  simp only[zH] at this;exact this
theorem zvt (x xr y yr k m z:List UInt8) (is:Bool)
 (R:Hid (qK 121 #[St yr,St xr] (.tuple #[St k,.bool is,.int .i64 0])))
 (M:Hid (qK 11 #[St y,St k] (.tuple #[St m,.int .i64 0])))
 (A:Hid (qK 12 #[St x,St m] (.tuple #[St z,.int .i64 0])))
 (w:zA) (HW:Hid (Wd w)):
 qJ 122 #[.agg #[St x,St xr],.agg #[St y,St yr]] w (.tuple #[.agg #[St z,St xr],.int .i64 0]):=by
 have hS:=PlsS.start w x xr y yr;obtain⟨c0,c1,c2,c3,c4,c5,f0,f1⟩:=hS.cells;obtain⟨W1,hW1⟩:=zzX (((w.alloc (.cells #[St x,St xr] 97)).alloc (.cells #[St y,St yr] 97)).alloc (.cells #[St [],St []] 97));rw[<-hW1] at hS;have HS:=hid hS;have HW1:=hid hW1;clear hS hW1;go_enter Tryz.func122,Tryz.ntmps122;go_wp21;have h9:=HW1.out;rw[<-h9];clear h9 c0 c1 c2 c3 c4 c5 f0 f1;refine zzM (R.out W1 (HW.out.below HS.out.bel)) λw2 hb2=>?_;have H2:=hid (HS.out.next hb2);clear hb2 HS HW1;obtain⟨c0,c1,c2,c3,c4,c5,f0,f1⟩:=H2.out.cells;go_wp21;refine zzM (M.out w2 (HW.out.below H2.out.bel)) λw3 hb3=>?_;have H3:=hid (H2.out.next hb3);clear hb3 H2 c0 c1 c2 c3 c4 c5 f0 f1;obtain⟨c0,c1,c2,c3,c4,c5,f0,f1⟩:=H3.out.cells;go_wp21;refine zzM (A.out w3 (HW.out.below H3.out.bel)) λw4 hb4=>?_;have H4:=hid (H3.out.next hb4);clear hb4 H3 c0 c1 c2 c3 c4 c5 f0 f1;obtain⟨c0,c1,c2,c3,c4,c5,f0,f1⟩:=H4.out.cells;have hB4:=H4.out.bel;go_wp21;refine bodyPost_ret (v:=.tuple #[.agg #[St z,St xr],.int .i64 0]) (by simp[results,Tryz.results122,go_sem,c4,c5]) rfl ⟨rfl,?_⟩
 repeat(first|exact hB4|refine Below.setCell ?_ (by simp;omega) _)
end
end Go.Proofs.YtmeekcnlacckfaaGreatDoor
