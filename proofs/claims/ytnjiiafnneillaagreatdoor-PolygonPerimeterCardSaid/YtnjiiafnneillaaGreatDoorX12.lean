/- kingpostref01.Mul. -/
import Derived.Test.YtnjiiafnneillaaGreatDoorX11
import Derived.Deep.Onto
set_option maxRecDepth 100000
set_option maxHeartbeats 8000000
open Go renaming World → zA, Calls → zC
open Go.RowKit renaming Below → zB, intOf → zL
open Go.Lib renaming decDigits → zD, itoa → zE
open Go.Proofs.Tryz renaming prog → zF
open Go.World renaming alloc_heap_new → zG, size_alloc → zH
open Go.IntWalk renaming i64_in → zI
open Go.Joins renaming cell_of_block → zJ, block_setCell → zK
open Go.RowKit.Below renaming refl → zM
open Nat renaming le_refl → zN, le_trans → zO, lt_of_lt_of_le → zS, pow_le_pow_right → yF, pos_of_ne_zero → yS
open List renaming append_nil → yH
open Int renaming natAbs_mul → yK
namespace Go.Proofs.YtnjiiafnneillaaGreatDoor
section
open Go.RowKit Go.Shelf Lib Str Limb
attribute [local go_sem] Oper.semAt_some
theorem z9a (x y:Int) (hx:(zE x).length<=17) (hy:(zE y).length<=17) (hxy:(zE x).length+(zE y).length<=18) (w:zA) (hw:Wd w):
 qJ 230 #[St (zE x),St (zE y)] w (.tuple #[St (zE (x*y)),.int .i64 0]):=by
 have ax:=z0r (by omega) hx;have ay:=z0r (by omega) hy;have hux:(zE x).length<=17:=hx;have huy:(zE y).length<=17:=hy;have c1:=λW=>zj7 x y (zO (zbr x) (by omega)) (zO (zbr y) (by omega)) W;have c2:=λW=>zth x y hx hy W;have hp:(x*y).natAbs<1000000000000000000:=by
  rw[yK];have hlx:1<=(zE x).length:=zO (zbn x) (zbr x);have hly:1<=(zE y).length:=zO (zbn y) (zbr y);have h1:=z0r (z:=x) hlx (zN _);have h2:=z0r (z:=y) hly (zN _);have h3:=Nat.mul_lt_mul'' h1 h2;rw[<-Nat.pow_add] at h3;exact zS h3 (zO (yF (by omega) hxy) (by decide))
 have c3:=zb3 (x*y) (by omega) (by omega) w hw;have e1:IntKind.i64.wrap (x*y)=x*y:=zI _ (by omega);have hsum:((zE x).length:Int)+(zE y).length<=18:=by omega
 generalize zE x=u at*
 generalize zE y=v at*
 generalize zE (x*y)=t at*
 have C1:=hid c1;have C2:=hid c2;have C3:=hid c3;clear c1 c2 c3 hx hy ax ay hp hxy;go_enter Tryz.func230,Tryz.ntmps230;go_wp21;refine zzM (C1.out w) λw1 hw1=>?_;subst hw1;go_wp21;refine zzM (C2.out w1) λw2 hw2=>?_;subst hw2;go_wp21;refine zzM C3.out λw3 hb3=>?_;go_wp21;go_ret2;exact⟨rfl,hb3⟩
theorem z98 (x y:Int) (h:17<(zE x).length\/17<(zE y).length) (hx:digs x<=300) (hy:digs y<=300) (hz:digs (x*y)<=300) (w:zA):
 qJ 230 #[St (zE x),St (zE y)] w (.tuple #[St (zE (x*y)),.int .i64 0]):=by
 have c1:=λW=>zj7 x y hx hy W;have c2:=λW=>ztj x y h (zO (za7 x) (by omega)) (zO (za7 y) (by omega)) W;have c3:=λW=>znu x W (by omega);have c4:=λW=>znu y W (by omega);have bx:=zve x 50 (by omega) hx;have by':=zve y 50 (by omega) hy;have c5:=λvx vy W h1 h2=>z5f (decide (x<0)) (decide (y<0)) vx vy x.natAbs y.natAbs W h1 h2 (by omega) (by omega);rw[zcs,zcs] at c5;have c6:=λm v n (hs:sgn m n=x*y) W h1=>z1a m v n W h1 (by
  have:=zve (x*y) 50 (by omega) hz;rw[<-hs,zge] at this;omega) (by rw[hs];exact hz)
 have C1:=hid c1;have C2:=hid c2;have C3:=hid c3;have C4:=hid c4;have C5:=hid c5;have C6:=hid (show ∀m v n,sgn m n=x*y->∀W:zA,Sl W v ((zaa B6 n).map I)->qJ 278 #[.agg #[.bool m,v]] W (.tuple #[St (zE (x*y)),.int .i64 0]) from λm v n hs W h1=>by
  have:=c6 m v n hs W h1;rw[hs] at this;exact this)
 clear c1 c2 c3 c4 c5 c6 hx hy hz h bx by';generalize zE x=u at*
 generalize zE y=v at*
 generalize zE (x*y)=t at*
 generalize decide (x<0)=mx at*
 generalize decide (y<0)=my at*
 go_enter Tryz.func230,Tryz.ntmps230;go_wp21;refine zzM (C1.out w) λw1 hw1=>?_;subst hw1;go_wp21;refine(C2.out w1).mono ?_;rintro e w2 ⟨⟨a,b,rfl⟩,hw2⟩;subst hw2;go_wp21;refine(C3.out w2).mono ?_;rintro e w3 ⟨vx,rfl,hsx,hb3⟩;have H3:=hid (⟨hsx,hb3⟩:_/\_);clear hsx hb3;go_wp21;refine(C4.out w3).mono ?_;rintro e w4 ⟨vy,rfl,hsy,hb4⟩;have H4:=hid (⟨H3.out.1.below hb4,hsy,H3.out.2.trans (hb4.mono H3.out.2.size)⟩:_/\_/\_);clear hsy hb4 H3;go_wp21;refine(C5.out vx vy w4 H4.out.1 H4.out.2.1).mono ?_;rintro e w5 ⟨m,vz,n,rfl,hs,hsz,hb5⟩;have H5:=hid (⟨hs,hsz,H4.out.2.2.trans (hb5.mono H4.out.2.2.size)⟩:_/\_/\_);clear hs hsz hb5 H4;go_wp21;refine zzM (C6.out m vz n H5.out.1 w5 H5.out.2.1) λw6 hb6=>?_;have H6:=hid (H5.out.2.2.trans (hb6.mono H5.out.2.2.size));clear hb6 H5;go_wp21;go_ret2;exact⟨rfl,H6.out⟩
theorem ybj (x y:Int) (h1:(zE x).length<=17) (h2:(zE y).length<=17) (h:18<(zE x).length+(zE y).length) (hx:digs x<=300) (hy:digs y<=300) (hz:digs (x*y)<=300) (w:zA):
 qJ 230 #[St (zE x),St (zE y)] w (.tuple #[St (zE (x*y)),.int .i64 0]):=by
 have c1:=λW=>zj7 x y hx hy W;have c2:=λW=>zth x y h1 h2 W;have hsum:¬((zE x).length:Int)+(zE y).length<=18:=by omega
 have hux:(zE x).length<=17:=h1;have huy:(zE y).length<=17:=h2;have c3:=λW=>znu x W (by omega);have c4:=λW=>znu y W (by omega);have bx:=zve x 50 (by omega) hx;have by':=zve y 50 (by omega) hy;have c5:=λvx vy W h1 h2=>z5f (decide (x<0)) (decide (y<0)) vx vy x.natAbs y.natAbs W h1 h2 (by omega) (by omega);rw[zcs,zcs] at c5;have c6:=λm v n (hs:sgn m n=x*y) W h1=>z1a m v n W h1 (by
  have:=zve (x*y) 50 (by omega) hz;rw[<-hs,zge] at this;omega) (by rw[hs];exact hz)
 have C1:=hid c1;have C2:=hid c2;have C3:=hid c3;have C4:=hid c4;have C5:=hid c5;have C6:=hid (show ∀m v n,sgn m n=x*y->∀W:zA,Sl W v ((zaa B6 n).map I)->qJ 278 #[.agg #[.bool m,v]] W (.tuple #[St (zE (x*y)),.int .i64 0]) from λm v n hs W h1=>by
  have:=c6 m v n hs W h1;rw[hs] at this;exact this)
 clear c1 c2 c3 c4 c5 c6 hx hy hz h h1 h2 bx by';generalize zE x=u at*
 generalize zE y=v at*
 generalize zE (x*y)=t at*
 generalize decide (x<0)=mx at*
 generalize decide (y<0)=my at*
 go_enter Tryz.func230,Tryz.ntmps230;go_wp21;refine zzM (C1.out w) λw1 hw1=>?_;subst hw1;go_wp21;refine zzM (C2.out w1) λw2 hw2=>?_;subst hw2;go_wp21;refine(C3.out w2).mono ?_;rintro e w3 ⟨vx,rfl,hsx,hb3⟩;have H3:=hid (⟨hsx,hb3⟩:_/\_);clear hsx hb3;go_wp21;refine(C4.out w3).mono ?_;rintro e w4 ⟨vy,rfl,hsy,hb4⟩;have H4:=hid (⟨H3.out.1.below hb4,hsy,H3.out.2.trans (hb4.mono H3.out.2.size)⟩:_/\_/\_);clear hsy hb4 H3;go_wp21;refine(C5.out vx vy w4 H4.out.1 H4.out.2.1).mono ?_;rintro e w5 ⟨m,vz,n,rfl,hs,hsz,hb5⟩;have H5:=hid (⟨hs,hsz,H4.out.2.2.trans (hb5.mono H4.out.2.2.size)⟩:_/\_/\_);clear hs hsz hb5 H4;go_wp21;refine zzM (C6.out m vz n H5.out.1 w5 H5.out.2.1) λw6 hb6=>?_;have H6:=hid (H5.out.2.2.trans (hb6.mono H5.out.2.2.size));clear hb6 H5;go_wp21;go_ret2;exact⟨rfl,H6.out⟩
theorem z26 (x y:Int) (hx:digs x<=300) (hy:digs y<=300) (hz:digs (x*y)<=300) (w:zA) (hw:Wd w):
 qJ 230 #[St (zE x),St (zE y)] w (.tuple #[St (zE (x*y)),.int .i64 0]):=by
 by_cases h:17<(zE x).length\/17<(zE y).length
 ·exact z98 x y h hx hy hz w
 ·by_cases h2:(zE x).length+(zE y).length<=18
  ·exact z9a x y (by omega) (by omega) h2 w hw
  ·exact ybj x y (by omega) (by omega) (by omega) hx hy hz w
theorem z3m (x y:Int) (hx:(zE x).length<=17) (hy:(zE y).length<=17) (w:zA):
 qJ 169 #[St (zE x),St (zE y)] w (.tuple #[.int .i64 (cmpZ x y),.int .i64 0]):=by
 have c1:=λW=>zj7 x y (zO (zbr x) (by omega)) (zO (zbr y) (by omega)) W;have c2:=λW=>zth x y hx hy W;have C1:=hid c1;have C2:=hid c2;have CZ:=hid (show(x<y->cmpZ x y= -1)/\(y<x->cmpZ x y=1)/\(x=y->cmpZ x y=0) by
  unfold cmpZ;refine⟨λh=>?_,λh=>?_,λh=>?_⟩
  ·simp[h]
  ·have:¬x<y:=by omega
   have h2:¬x=y:=by omega
   simp[this,h]
  ·subst h;simp)
 clear c1 c2 hx hy;generalize zE x=u at*
 generalize zE y=v at*
 generalize cmpZ x y=z at*
 have hB:=hid (zM w.heap.size w);go_enter Tryz.func169,Tryz.ntmps169;go_wp21;refine zzM (C1.out w) λw1 hw1=>?_;subst hw1;go_wp21;refine zzM (C2.out w1) λw2 hw2=>?_;subst hw2;rcases Int.lt_trichotomy x y with h|h|h
 ·obtain rfl:=CZ.out.1 h
  go_wp21;go_ret2;exact⟨rfl,hB.out⟩
 ·obtain rfl:=CZ.out.2.2 h
  subst h;go_wp21;go_ret2;exact⟨rfl,hB.out⟩
 ·obtain rfl:=CZ.out.2.1 h
  have h2:¬x<y:=by omega
  go_wp21;go_ret2;exact⟨rfl,hB.out⟩
theorem z4l (x y:Int) (h:17<(zE x).length\/17<(zE y).length) (hx:digs x<=300) (hy:digs y<=300) (w:zA):
 qJ 169 #[St (zE x),St (zE y)] w (.tuple #[.int .i64 (cmpZ x y),.int .i64 0]):=by
 have c1:=λW=>zj7 x y hx hy W;have c2:=λW=>ztj x y h (zO (za7 x) (by omega)) (zO (za7 y) (by omega)) W;have c3:=λW=>znu x W (by omega);have c4:=λW=>znu y W (by omega);have bx:=zve x 50 (by omega) hx;have by':=zve y 50 (by omega) hy;have c7:=λvy W h1=>ybi (decide (y<0)) vy y.natAbs W h1 (by omega);rw[zcs] at c7;have c5:=λm' vx vy n' (hs:sgn m' n'= -y) W h1 h2=>ybh (decide (x<0)) m' vx vy x.natAbs n' W h1 h2 (by omega) (by have:=zge m' n';rw[hs,Int.natAbs_neg] at this;rw[<-this];omega);have C5:=hid (show ∀m' vx vy n',sgn m' n'= -y->∀W:zA,Sl W vx ((zaa B6 x.natAbs).map I)->Sl W vy ((zaa B6 n').map I)->zC zF 231 #[.agg #[.bool (decide (x<0)),vx],.agg #[.bool m',vy]] W (zsb W (x-y)) from λm' vx vy n' hs W h1 h2=>by
  have:=c5 m' vx vy n' hs W h1 h2;rw[zcs,hs] at this;exact this)
 have CZ:=hid (show(x<y->cmpZ x y= -1)/\(y<x->cmpZ x y=1)/\(x=y->cmpZ x y=0) by
  unfold cmpZ;refine⟨λh=>?_,λh=>?_,λh=>?_⟩
  ·simp[h]
  ·have:¬x<y:=by omega
   simp[this,h]
  ·subst h;simp)
 have C1:=hid c1;have C2:=hid c2;have C3:=hid c3;have C4:=hid c4;have C7:=hid c7;clear c1 c2 c3 c4 c5 c7 hx hy h bx by';generalize zE x=u at*
 generalize zE y=v at*
 generalize decide (x<0)=mx at*
 generalize decide (y<0)=my at*
 generalize cmpZ x y=z at*
 go_enter Tryz.func169,Tryz.ntmps169;go_wp21;refine zzM (C1.out w) λw1 hw1=>?_;subst hw1;go_wp21;refine(C2.out w1).mono ?_;rintro e w2 ⟨⟨a,b,rfl⟩,hw2⟩;subst hw2;go_wp21;refine(C3.out w2).mono ?_;rintro e w3 ⟨vx,rfl,hsx,hb3⟩;have H3:=hid (⟨hsx,hb3⟩:_/\_);clear hsx hb3;go_wp21;refine(C4.out w3).mono ?_;rintro e w4 ⟨vy,rfl,hsy,hb4⟩;have H4:=hid (⟨H3.out.1.below hb4,hsy,H3.out.2.trans (hb4.mono H3.out.2.size)⟩:_/\_/\_);clear hsy hb4 H3;go_wp21;refine(C7.out vy w4 H4.out.2.1).mono ?_;rintro e w5 ⟨m',vn,n',rfl,hs',hsn,hb5⟩;have H5:=hid (⟨H4.out.1.below hb5,hsn,H4.out.2.2.trans (hb5.mono H4.out.2.2.size),hs'⟩:_/\_/\_/\_);clear hsn hb5 hs' H4;go_wp21;refine(C5.out m' vx vn n' H5.out.2.2.2 w5 H5.out.1 H5.out.2.1).mono ?_;rintro e w6 ⟨m,vz,n,rfl,hs,hsz,hb6⟩;obtain⟨pz,cz,rfl, -⟩:=hsz;have hB6:=H5.out.2.2.1.trans (hb6.mono H5.out.2.2.1.size);have HB:=hid (hB6.alloc hB6.size (.cells #[.bool m,.slice pz ((zaa B6 n).map I).length cz] 268));have hl:((zaa B6 n).map I).length=0↔n=0:=by
  rw[List.length_map,List.length_eq_zero_iff];exact zbd (by decide) n
 generalize ((zaa B6 n).map I).length=L at*
 clear hb6 H5 hB6;rcases Nat.eq_zero_or_pos n with h0|h0
 ·have hL:L=0:=hl.2 h0
  obtain rfl:=CZ.out.2.2 (by rw[h0] at hs;cases m<;>simp[sgn] at hs<;>omega);subst hL;clear hl hs;go_wp21;go_ret2;exact⟨rfl,HB.out⟩
 ·have hL:((L:Int)==0)=false:=by rw[beq_eq_false_iff_ne];have:=hl.1;omega
  clear hl;cases m
  ·obtain rfl:=CZ.out.2.1 (by simp[sgn] at hs;omega)
   clear hs;go_wp21;go_ret2;exact⟨rfl,HB.out⟩
  ·obtain rfl:=CZ.out.1 (by simp[sgn] at hs;omega)
   clear hs;go_wp21;go_ret2;exact⟨rfl,HB.out⟩
theorem z5h (x y:Int) (hx:digs x<=300) (hy:digs y<=300) (w:zA):
 qJ 169 #[St (zE x),St (zE y)] w (.tuple #[.int .i64 (cmpZ x y),.int .i64 0]):=by
 by_cases h:17<(zE x).length\/17<(zE y).length
 ·exact z4l x y h hx hy w
 ·exact z3m x y (by omega) (by omega) w
theorem zt3 (x y:Int) (hx:(zE x).length<=17) (hy:(zE y).length<=17) (w:zA) (hw:Wd w):
 qJ 164 #[St (zE x),St (zE y)] w (.tuple #[St (zE (Int.gcd x y:Int)),.int .i64 0]):=by
 obtain⟨x1,x2⟩:=lt18 (zO hx (by omega));obtain⟨y1,y2⟩:=lt18 (zO hy (by omega));have hb:=λW=>zj7 x y (zO (zbf (by omega)) (by omega)) (zO (zbf (by omega)) (by omega)) W;have hs:=λW=>zth x y hx hy W;have HB:=hid hb;clear hb;have HS:=hid hs;clear hs hx hy;have HW:=hid hw;clear hw;obtain⟨g,hg⟩:=zzX (Int.gcd x y);rw[<-hg];have HG:=hid hg;clear hg;go_enter Tryz.func164,Tryz.ntmps164;go_wp21;refine zzM (HB.out w) λw1 hw1=>?_;have hw1':=hw1.symm;subst hw1';go_wp21;refine zzM (HS.out w) λw2 hw2=>?_;have hw2':=hw2.symm;subst hw2';have hB2:qL w w:=zM _ _;go_wp21;go_loopw [7,8] (λa b wr=>∃m n:Int,a=.int .i64 m/\b=.int .i64 n/\Hid (Int.gcd m n=g)/\(-1000000000000000000<m/\m<1000000000000000000)/\(-1000000000000000000<n/\n<1000000000000000000)/\Hid (qL w wr))
  (λ_ b _=>(zL b).natAbs)
 case atStart=>exact⟨x,y,rfl,rfl,HG.out.symm,⟨x1,x2⟩,⟨y1,y2⟩,hB2⟩
 case round=>
  clear x1 x2 y1 y2 hB2;obtain⟨m,n,rfl,rfl,hgm,⟨m1,m2⟩,⟨n1,n2⟩,hBr⟩:=hrel;by_cases h0:n=0
  ·subst h0
   have hgm':Int.gcd m 0=g:=hgm.out;rw[Int.gcd_zero_right] at hgm';have hmx:max m (-m)=(g:Int):=by omega
   have HM:=hid hgm';clear hgm hgm';have hg1:(g:Int)<=1000000000000000000:=by omega
   have hneg:IntKind.i64.wrap (-m)= -m:=zI _ (by omega);go_wp21;refine zzM (zb3 (g:Int) (by omega) (by omega) wr (HW.out.below hBr.out)) λw3 hb3=>?_;have hB3:=hBr.out.trans (hb3.mono hBr.out.size);clear hb3;go_wp21;go_ret2;exact⟨rfl,hB3⟩
  ·have hn0:(n !=0)=true:=by simpa using h0
   have ht1:(m.tmod n).natAbs<n.natAbs:=by rw[Int.natAbs_tmod];exact Nat.mod_lt _ (by omega)
   obtain⟨t,ht⟩:=zzX (m.tmod n);have hgt:=zmt m n;rw[<-ht] at ht1 hgt;have hwr:IntKind.i64.wrap (m.tmod n)=t:=by rw[<-ht];exact zI _ (by omega)
   have HGT:=hid hgt;have HT:=hid ht;clear hgt ht hwr;go_wp2
   (refine wp_region_quiet_lit (by kernel_rfl) (by kernel_rfl) (WQ.out ?_);(repeat(first|(apply WQ.read (by rfl);(focus(rintro W ⟨n,rfl⟩;go_simp;try with_reducible rfl));try simp only[zzQ])|(apply WQ.skip (by rfl);try simp only[zzQ])));refine WQ.nil ?_;rintro _ ⟨nq,rfl⟩)
   go_wp2;go_roundw
   case rel=>exact⟨n,t,rfl,by rw[HT.out],HGT.out.trans hgm.out,⟨n1,n2⟩,by omega,zao hBr.out _⟩
   case measure=>show(m.tmod n).natAbs<n.natAbs;rw[<-HT.out];exact ht1
theorem zld (b:Bool) (p:Option Addr) (k c:Nat) (W:zA):(Instr.field 268 (.agg #[.bool b,.slice p k c]) 1).run zF W=.ok (.slice p k c) W:=by kernel_rfl
theorem zvf (x y:Int) (hx:digs x<=300) (hy:digs y<=300) (h:17<(zE x).length\/17<(zE y).length) (w:zA) (hw:Wd w):
 qJ 164 #[St (zE x),St (zE y)] w (.tuple #[St (zE (Int.gcd x y:Int)),.int .i64 0]):=by
 have hb:=λW=>zj7 x y hx hy W;have hs:=λW=>ztj x y h (zO (za7 x) (by omega)) (zO (za7 y) (by omega)) W;have r1:=λW=>znu x W (by omega);have r2:=λW=>znu y W (by omega);have l1:=zO (zve x 50 (by omega) hx) (show 50<=100 by omega);have l2:=zO (zve y 50 (by omega) hy) (show 50<=100 by omega);have hgd:=zq4 x y hx hy;have HB:=hid hb;clear hb;have HS:=hid hs;clear hs hx hy h;have HW:=hid hw;clear hw;have R1:=hid r1;have R2:=hid r2;clear r1 r2;obtain⟨g,hg⟩:=zzX (Int.gcd x y);rw[<-hg] at hgd⊢;have HG:=hid hg;clear hg;have hfd:=zld;go_enter Tryz.func164,Tryz.ntmps164;go_wp21;refine zzM (HB.out w) λw1 hw1=>?_;have hw1':=hw1.symm;subst hw1';go_wp21;refine(HS.out w).mono ?_;rintro e w2 ⟨⟨za,zb,rfl⟩,hw2⟩;have hw2':=hw2.symm;subst hw2';go_wp21;refine(R1.out w).mono ?_;rintro e w2 ⟨vx,rfl,hvx,hb2⟩;have hB2:=hb2;clear hb2;obtain⟨px,kx,cx,rfl, -⟩:=zbx hvx;have HVX:=hid hvx;clear hvx;go_wp21;refine(R2.out w2).mono ?_;rintro e w3 ⟨vy,rfl,hvy,hb3⟩;have hvx:=HVX.out.below hb3;have hB3:=hB2.trans (hb3.mono hB2.size);clear hb3 hB2 HVX;obtain⟨py,ky,cy,rfl, -⟩:=zbx hvy;have HVX:=hid hvx;have HVY:=hid hvy;clear hvx hvy;go_wp2;go_loopg [10,11] y.natAbs (λk va vb wr=>∃a b p kb c,vb=.slice p kb c/\Hid (k=b)/\Hid (kb=(zaa B6 b).length)/\(zaa B6 a).length<=100/\(zaa B6 b).length<=100/\Hid (Sl wr va ((zaa B6 a).map I))/\Hid (Sl wr vb ((zaa B6 b).map I))/\Hid (Nat.gcd a b=g)/\Hid (qL w wr))
 case atStart=>
  obtain⟨p,k,c,e,hk⟩:=zbx HVY.out;cases e;exact⟨x.natAbs,y.natAbs,py,ky,cy,rfl,rfl,hk,l1,l2,HVX.out,HVY.out,HG.out.symm,hB3⟩
 case round=>
  clear HVX HVY hB3;obtain⟨a,b,p,kb,c,rfl,hk,hkb,la,lb,hva,hvb,hgc,hBr⟩:=hrel;by_cases h0:kb=0
  ·have hb0:b=0:=(zbd (B:=B6) (by decide) b).1 (List.length_eq_zero_iff.1 (by rw[<-hkb.out];exact h0))
   have hga:a=g:=by have:=hgc.out;rw[hb0,Nat.gcd_zero_right] at this;exact this
   have hz0:¬(0:Int)<kb:=by omega
   have HA:=hid hga;clear hga;have HB0:=hid hb0;clear hb0;have HK0:=hid h0;clear h0;obtain⟨p1,k1,c1,rfl, -⟩:=zbx hva.out;have hres:=zt0 false _ a wr hva.out (by omega);rw[zkw,HA.out] at hres;have HRES:=hid hres;clear hres;go_wp21;refine zzM HRES.out λw4 hb4=>?_;have hB4:=hBr.out.trans (hb4.mono hBr.out.size);clear hb4;go_wp21;go_ret2;exact⟨rfl,hB4⟩
  ·have hz0:(0:Int)<kb:=by omega
   have hb0:b≠0:=λe=>h0 (by rw[hkb.out,e,zaz];rfl);go_wp21;refine(zs1 _ (.slice p kb c) a b wr hva.out hvb.out (by omega) (by omega) (yS hb0)).mono ?_;rintro e w4 ⟨v1,v2,rfl,hs1,hs2,hb4⟩;have hB4:=hBr.out.trans (hb4.mono hBr.out.size);have hvb4:=hvb.out.below hb4;obtain⟨p2,k2,c2,rfl,hk2⟩:=zbx hs2;have HS2:=hid hs2;have HB4:=hid hB4;have HVB:=hid hvb4;have HK2:=hid hk2;have HB0:=hid hb0;clear hs1 hs2 hb4 hB4 hvb4 hk2 hb0 hva hvb hBr;go_wp2;go_roundg (a%b)
   case measure=>rw[hk.out];exact Nat.mod_lt _ (yS HB0.out)
   case rel=>exact⟨b,a%b,p2,k2,c2,rfl,rfl,HK2.out,lb,zO (zd6 (by decide) (Nat.le_of_lt (Nat.mod_lt _ (yS HB0.out)))) lb,HVB.out,HS2.out,(zkx a b).trans hgc.out,HB4.out⟩
theorem zxp (x y:Int) (hx:digs x<=300) (hy:digs y<=300) (w:zA) (hw:Wd w):
 qJ 164 #[St (zE x),St (zE y)] w (.tuple #[St (zE (Int.gcd x y:Int)),.int .i64 0]):=by
 by_cases h:17<(zE x).length\/17<(zE y).length
 ·exact zvf x y hx hy h w hw
 ·exact zt3 x y (by omega) (by omega) w hw
theorem z4m (x y q:Int) (hq:x=q*y) (hy0:0<y) (hx:(zE x).length<=17) (hy:(zE y).length<=17) (w:zA) (hw:Wd w):
 qJ 295 #[St (zE x),St (zE y)] w (.tuple #[St (zE q),St [48],.int .i64 0]):=by
 obtain⟨x1,x2⟩:=lt18 (zO hx (by omega));obtain⟨y1,y2⟩:=lt18 (zO hy (by omega));have hb:=λW=>zj7 x y (zO (zbf (by omega)) (by omega)) (zO (zbf (by omega)) (by omega)) W;have hs:=λW=>zth x y hx hy W;have hqa:q.natAbs<=x.natAbs:=by rw[hq,yK];exact Nat.le_mul_of_pos_right _ (by omega)
 have hit:=λW hW=>zb3 q (by omega) (by omega) W hW;have hiz:=λW hW=>zb3 0 (by omega) (by omega) W hW;have hd:x.tdiv y=q:=by rw[hq];exact Int.mul_tdiv_cancel _ (by omega)
 have hm:x.tmod y=0:=by rw[hq];exact Int.mul_tmod_left _ _
 have w1:IntKind.i64.wrap (x.tdiv y)=q:=by rw[hd];exact zI _ (by omega)
 have w2:IntKind.i64.wrap (x.tmod y)=0:=by rw[hm];rfl
 rw[zb9] at hiz;have hyn:(zE y==[48])=false:=by rw[beq_eq_false_iff_ne,<-zb9];exact λh=>by have:=zdo h;omega
 have hne:¬zE y=[48]:=by simpa using hyn
 have hy1:¬y=0:=by omega
 have HB:=hid hb;clear hb;have HIT:=hid hit;clear hit;have HIZ:=hid hiz;clear hiz;have HS:=hid hs;have HQD:=hid hd;have HMD:=hid hm;clear hs hx hy hq hd hm hqa;have HW:=hid hw;clear hw;go_enter Tryz.func295,Tryz.ntmps295;go_wp21;refine zzM (HB.out w) λw3 hw3=>?_;have hw3':=hw3.symm;subst hw3';go_wp21;refine zzM (HS.out w) λw4 hw4=>?_;have hw4':=hw4.symm;subst hw4';have hB2:qL w w:=zM _ _;go_wp21
 (refine wp_region_quiet_lit (by kernel_rfl) (by kernel_rfl) (WQ.out ?_);(repeat(first|(apply WQ.read (by rfl);(focus(rintro W ⟨n,rfl⟩;go_simp;try with_reducible rfl));try simp only[zzQ])|(apply WQ.skip (by rfl);try simp only[zzQ])));refine WQ.nil ?_;rintro _ ⟨nq,rfl⟩)
 go_wp21;have hB3:=zao hB2 nq;refine zzM (HIT.out (w.drewN nq) (HW.out.below hB3)) λw5 hb5=>?_;have hB5:=hB3.trans (hb5.mono hB3.size);clear hb5 hB3 hB2;go_wp21;refine zzM (HIZ.out w5 (HW.out.below hB5)) λw6 hb6=>?_;have hB6:=hB5.trans (hb6.mono hB5.size);clear hb6 hB5;go_wp21;go_ret3;exact⟨rfl,hB6⟩
theorem z5i (x y q:Int) (hq:x=q*y) (hy0:0<y) (hx:digs x<=300) (hy:digs y<=300) (h:17<(zE x).length\/17<(zE y).length) (w:zA):
 qJ 295 #[St (zE x),St (zE y)] w (.tuple #[St (zE q),St [48],.int .i64 0]):=by
 have c1:=λW=>zj7 x y hx hy W;have c2:=λW=>ztj x y h (zO (za7 x) (by omega)) (zO (za7 y) (by omega)) W;have c3:=λW=>znu x W (by omega);have c4:=λW=>znu y W (by omega);have bx:=zve x 50 (by omega) hx;have by':=zve y 50 (by omega) hy;have c5:=λvx vy W h1 h2=>zs1 vx vy x.natAbs y.natAbs W h1 h2 (by omega) (by omega) (by omega);obtain⟨hsq,hr0⟩:=ztx x y q hq hy0;have hyf:decide (y<0)=false:=by simp;omega
 rw[hyf,Bool.bne_false] at hsq;rw[hr0,zaz] at c5;have hdq:digs q<=300:=by
  rw[za3 _ _ (by omega)] at hx⊢;have hqa:q.natAbs<=x.natAbs:=by rw[hq,yK];exact Nat.le_mul_of_pos_right _ (by omega)
  omega
 have hmx:decide (x<0)=true->¬(zaa B6 (x.natAbs/y.natAbs)).length=0:=λhm h0=>by
  have h1:=(zbd (B:=B6) (by decide) _).1 (List.length_eq_zero_iff.1 h0);rw[h1] at hsq;have:q=0:=by rw[<-hsq];cases decide (x<0)<;>simp[sgn]
  rw[this] at hq;simp at hm;omega
 have c6:=λv W h1=>z1a (decide (x<0)) v (x.natAbs/y.natAbs) W h1 (by
  have:=zve q 50 (by omega) hdq;rw[<-hsq,zge] at this;omega) (by rw[hsq];exact hdq)
 rw[hsq] at c6;rw[hyf] at c4;have hyn:(zE y==[48])=false:=by rw[beq_eq_false_iff_ne,<-zb9];exact λh=>by have:=zdo h;omega
 have hne:¬zE y=[48]:=by simpa using hyn
 have C1:=hid c1;have C2:=hid c2;have C3:=hid c3;have C4:=hid c4;have C5:=hid c5;have C6:=hid c6;have HMX:=hid hmx;clear c1 c2 c3 c4 c5 c6 hx hy h bx by' hq hy0 hsq hr0 hyf hdq hmx;generalize zE x=u at*
 generalize zE y=v at*
 generalize zE q=t at*
 generalize decide (x<0)=mx at*
 go_enter Tryz.func295,Tryz.ntmps295;go_wp21;refine zzM (C1.out w) λw1 hw1=>?_;have hw1':=hw1.symm;subst hw1';go_wp21;refine(C2.out w).mono ?_;rintro e w2 ⟨⟨a,b,rfl⟩,hw2⟩;have hw2':=hw2.symm;subst hw2';go_wp21;refine(C3.out w).mono ?_;rintro e w3 ⟨vx,rfl,hsx,hb3⟩;have H3:=hid (⟨hsx,hb3⟩:_/\_);clear hsx hb3;go_wp21;refine(C4.out w3).mono ?_;rintro e w4 ⟨vy,rfl,hsy,hb4⟩;have hsx:=H3.out.1.below hb4;have hB4:=H3.out.2.trans (hb4.mono H3.out.2.size);clear hb4 H3;obtain⟨px,kx,cx,rfl, -⟩:=zbx hsx;obtain⟨py,ky,cy,rfl, -⟩:=zbx hsy;obtain⟨w5,hw5⟩:=zzX ((w4.alloc (.cells #[.bool mx,.slice px kx cx] 268)).alloc (.cells #[.bool false,.slice py ky cy] 268));have hb5:qL w4 w5:=by rw[hw5];exact((zM _ w4).alloc (zN _) _).alloc (by simp) _
 have a13:w5.heap[w4.heap.size]? =some (.cells #[.bool mx,.slice px kx cx] 268 (0,0)):=by
  rw[hw5];exact(Below.heap_alloc _ _ _ (by simp only[zH];omega)).trans (heap_alloc_new w4 _)
 have a14:w5.heap[w4.heap.size+1]? =some (.cells #[.bool false,.slice py ky cy] 268 (0,0)):=by
  rw[hw5];have:=heap_alloc_new (w4.alloc (.cells #[.bool mx,.slice px kx cx] 268)) (.cells #[.bool false,.slice py ky cy] 268);rwa [zH] at this
 have hz5:w5.heap.size=w4.heap.size+2:=by rw[hw5];simp
 have H5:=hid (⟨hsx.below hb5,hsy.below hb5,hB4.trans (hb5.mono hB4.size),a13,a14,hz5⟩:_/\_/\_/\_/\_/\_);have HW5:=hid hw5;clear hsx hsy hB4 hb5 a13 a14 hz5 hw5;go_wp21;rw[<-HW5.out];refine(C5.out _ _ w5 H5.out.1 H5.out.2.1).mono ?_;rintro e w6 ⟨v1,v2,rfl,hs1,hs2,hb6⟩;obtain⟨p1,k1,cc1,rfl,hk1⟩:=zbx hs1;obtain⟨p2,cc2,rfl, -⟩:=id hs2;have a13:=(hb6.block w4.heap.size (by have:=H5.out.2.2.2.2.2;omega)).trans H5.out.2.2.2.1;have a14:=(hb6.block (w4.heap.size+1) (by have:=H5.out.2.2.2.2.2;omega)).trans H5.out.2.2.2.2.1;have n0:w6.cell? ⟨w4.heap.size,0,none⟩=some (.bool mx):=by simp[World.cell?,a13]
 have n1:w6.cell? ⟨w4.heap.size+1,0,none⟩=some (.bool false):=by simp[World.cell?,a14]
 obtain⟨w7,hw7⟩:=zzX ((w6.alloc (.cells #[.bool mx,.slice p1 k1 cc1] 268)).alloc (.cells #[.bool false,.slice p2 0 cc2] 268));have hb7:qL w6 w7:=by rw[hw7];exact((zM _ w6).alloc (zN _) _).alloc (by simp) _
 have a17:w7.heap[w6.heap.size]? =some (.cells #[.bool mx,.slice p1 k1 cc1] 268 (0,0)):=by
  rw[hw7];exact(Below.heap_alloc _ _ _ (by simp only[zH];omega)).trans (heap_alloc_new w6 _)
 have a18:w7.heap[w6.heap.size+1]? =some (.cells #[.bool false,.slice p2 0 cc2] 268 (0,0)):=by
  rw[hw7];have:=heap_alloc_new (w6.alloc (.cells #[.bool mx,.slice p1 k1 cc1] 268)) (.cells #[.bool false,.slice p2 0 cc2] 268);rwa [zH] at this
 have hz7:w7.heap.size=w6.heap.size+2:=by rw[hw7];simp
 have hB7:qL w w7:=(H5.out.2.2.1.trans (hb6.mono H5.out.2.2.1.size)).trans (hb7.mono (zO H5.out.2.2.1.size hb6.size));have d0:w7.cell? ⟨w6.heap.size,0,none⟩=some (.bool mx):=by simp[World.cell?,a17]
 have d1:w7.cell? ⟨w6.heap.size,1,none⟩=some (.slice p1 k1 cc1):=by simp[World.cell?,a17]
 have H7:=hid (⟨hs1.below hb7,hB7,a18,hz7⟩:_/\_/\_/\_);have HW7:=hid hw7;have hkk:mx=true->(0:Int)<k1:=λhm=>by have:=HMX.out hm;omega
 have HKK:=hid hkk;clear hs1 hs2 hb6 hk1 a13 a14 hb7 a17 a18 hz7 hB7 hw7 hkk HMX H5 HW5 hyn hne;cases mx
 ·go_wp21
  rw[<-HW7.out];refine zzM (C6.out _ w7 H7.out.1) λw8 hb8=>?_;have a18:=(hb8.block (w6.heap.size+1) (by have:=H7.out.2.2.2;omega)).trans H7.out.2.2.1;have g0:w8.cell? ⟨w6.heap.size+1,0,none⟩=some (.bool false):=by simp[World.cell?,a18]
  have g1:w8.cell? ⟨w6.heap.size+1,1,none⟩=some (.slice p2 0 cc2):=by simp[World.cell?,a18]
  have HB8:=hid (H7.out.2.1.trans (hb8.mono H7.out.2.1.size));clear a18 hb8;go_wp21;refine zzM (zs2 false p2 cc2 w8) λw9 hb9=>?_;have HB9:=qT HB8 hb9;clear hb9;go_wp21;go_ret3;exact⟨rfl,HB9.out⟩
 ·have hk1:=HKK.out rfl
  have hkd:decide (0<k1)=true:=decide_eq_true (by omega);go_wp21;rw[<-HW7.out];refine zzM (C6.out _ w7 H7.out.1) λw8 hb8=>?_;have a18:=(hb8.block (w6.heap.size+1) (by have:=H7.out.2.2.2;omega)).trans H7.out.2.2.1;have g0:w8.cell? ⟨w6.heap.size+1,0,none⟩=some (.bool false):=by simp[World.cell?,a18]
  have g1:w8.cell? ⟨w6.heap.size+1,1,none⟩=some (.slice p2 0 cc2):=by simp[World.cell?,a18]
  have HB8:=hid (H7.out.2.1.trans (hb8.mono H7.out.2.1.size));clear a18 hb8;go_wp21;refine zzM (zs2 false p2 cc2 w8) λw9 hb9=>?_;have HB9:=qT HB8 hb9;clear hb9;go_wp21;go_ret3;exact⟨rfl,HB9.out⟩
theorem z14 (x y q:Int) (hq:x=q*y) (hy0:0<y) (hx:digs x<=300) (hy:digs y<=300) (w:zA) (hw:Wd w):
 qJ 295 #[St (zE x),St (zE y)] w (.tuple #[St (zE q),St [48],.int .i64 0]):=by
 by_cases h:17<(zE x).length\/17<(zE y).length
 ·exact z5i x y q hq hy0 hx hy h w
 ·exact z4m x y q hq hy0 (by omega) (by omega) w hw
theorem zrk (l:List UInt8) (hd:∀c∈l,48<=c.toNat/\c.toNat<=57) (hl:l.length<=18) (w:zA):
 zC zF 163 #[St l] w λe w'=>e=.returned (I (val l))/\w'=w:=by
 obtain⟨s,hs⟩:=zzX (⟨l.toArray⟩:ByteArray);obtain⟨b1,b2⟩:=zds l s hs;have hvt:=λk hk=>zhb (l:=l) hd (k:=k) hk;have hst:∀k (hb:k<s.size),48<=(s[k]'hb).toNat/\(s[k]'hb).toNat<=57/\val (l.take (k+1))=10*val (l.take k)+((s[k]'hb).toNat-48):=λk hb=>by
  have hk:k<l.length:=by omega
  rw[b2 k hk hb,List.take_succ_eq_append_getElem hk,zde];exact⟨(hd _ (List.getElem_mem hk)).1,(hd _ (List.getElem_mem hk)).2,rfl⟩
 have hfull:val (l.take s.size)=val l:=by rw[b1,List.take_length]
 show zC _ _ #[.string ⟨l.toArray⟩] _ _;rw[<-hs];have hs9:s.size<=18:=by omega
 generalize hvf:(λk=>val (l.take k))=vf at*
 have hvt':∀k,k<=17->vf k<100000000000000000:=by rw[<-hvf];exact hvt
 have hst':∀k (hb:k<s.size),48<=(s[k]'hb).toNat/\(s[k]'hb).toNat<=57/\vf (k+1)=10*vf k+((s[k]'hb).toNat-48):=by rw[<-hvf];exact hst
 have hfull':vf s.size=val l:=by rw[<-hvf];exact hfull
 have hv0:vf 0=0:=by rw[<-hvf];rfl
 generalize val l=vl at*
 have VT:=hid hvt';have ST:=hid hst';have HF:=hid hfull';have V0:=hid hv0;clear hvt' hst' hfull' hv0 hvt hst hfull hvf b1 b2 hs hd hl;go_enter Tryz.func163,Tryz.ntmps163;go_wp2;go_loop [3,4] (λa i=>∃k:Nat,k<=s.size/\i=.int .i64 k/\a=.int .i64 (vf k:Nat)) (λ_ i=>s.size-(zL i).toNat)
 case atStart=>exact⟨0,Nat.zero_le _,rfl,by rw[V0.out];rfl⟩
 case round=>
  obtain⟨k,hk,rfl,rfl⟩:=hrel;by_cases hlt:k<s.size
  ·obtain⟨c1,c2,c3⟩:=ST.out k hlt
   have hv:=VT.out k (by omega);generalize vf k=v at*
   have C3:=hid c3;clear c3;have d1:(48:Int)<=(s[k].toNat:Int):=by omega
   have d2:(s[k].toNat:Int)<=57:=by omega
   go_wp2;go_round
   case rel=>exact⟨k+1,by omega,by go_num,by rw[C3.out];show Value.int .i64 _=Value.int .i64 _;congr 1;omega⟩
   case measure=>simp[zL];omega
  ·have hk':k=s.size:=by omega
   have HK:=hid hk';clear hk';go_wp2;go_ret;exact⟨by rw[HK.out,HF.out];rfl,rfl⟩
theorem zq6 (n:Nat) (t:List UInt8):(zD n++47::t).takeWhile (· !=47)=zD n/\((zD n++47::t).dropWhile (· !=47)).tail=t:=by
 have h:∀c∈zD n,(c !=47)=true:=λc hc=>by
  have:=zan n c hc;simp;intro e;subst e;simp at this
 constructor
 ·rw[List.takeWhile_append_of_pos h];simp
 ·rw[List.dropWhile_append_of_pos h];simp
theorem znx (n:Nat):(zD n).takeWhile (· !=47)=zD n/\((zD n).dropWhile (· !=47)).tail=[]:=by
 have h:∀c∈zD n,(c !=47)=true:=λc hc=>by
  have:=zan n c hc;simp;intro e;subst e;simp at this
 constructor
 ·have:=List.takeWhile_append_of_pos (p:=λx:UInt8=>x !=47) (l₁:=zD n) (l₂:=[]) h
  simpa using this
 ·have:=List.dropWhile_append_of_pos (p:=λx:UInt8=>x !=47) (l₁:=zD n) (l₂:=[]) h
  rw[yH] at this;rw[this];rfl
def denS (q:Rat):List UInt8:=if q.den=1 then[] else zD q.den
theorem zvg (q:Rat):upS (numS q)=zD q.num.natAbs/\dnS (numS q)=denS q/\((numS q).head? =some 45↔q.num<0)/\((47:UInt8)∈bare (numS q)↔q.den≠1):=by
 have hb:bare (numS q)=zD q.num.natAbs++(if q.den=1 then[] else 47::zD q.den):=zhw _ _;unfold upS dnS denS;rw[hb];refine⟨?_,?_,zk2 _ _,?_⟩
 ·by_cases h:q.den=1
  ·rw[if_pos h,yH];exact(znx _).1
  ·rw[if_neg h];exact(zq6 _ _).1
 ·by_cases h:q.den=1
  ·rw[if_pos h,if_pos h,yH];exact(znx _).2
  ·rw[if_neg h,if_neg h];exact(zq6 _ _).2
 ·by_cases h:q.den=1
  ·rw[if_pos h,yH]
   exact⟨λk=>absurd k (zdz _),λk=>absurd h k⟩
  ·rw[if_neg h]
   exact⟨λ_=>h,λ_=>by simp⟩
def okN (q:Rat):Prop:=digs q.num<=300/\(zD q.den).length<=300
theorem z8i {q:Rat} (h:okN q):(numS q).length<=1000:=by
 have h1:=za7 q.num;obtain⟨h2,h3⟩:=h;unfold numS;rw[List.length_append];split
 ·simp;omega
 ·simp;omega
theorem z1x (q:Rat) (h:okN q) (w:zA):
 qJ 160 #[St (numS q)] w (.tuple #[.bool (decide (q.num<0)),St (zD q.num.natAbs),St (denS q),.bool (decide (q.den≠1))]):=by
 obtain⟨h1,h2,h3,h4⟩:=zvg q;have hc:=zlq (numS q) (zO (z8i h) (by omega)) w;rw[h1,h2,show decide ((numS q).head? =some 45)=decide (q.num<0) by rw[decide_eq_decide];exact h3,show decide ((47:UInt8)∈bare (numS q))=decide (q.den≠1) by rw[decide_eq_decide];exact h4] at hc;exact hc
theorem zre (q:Rat) (h:okN q) (w:zA):
 qJ 167 #[St (numS q)] w (.tuple #[St (zE q.num),St (zD q.den)]):=by
 have hc:=z1x q h w;have hl:(zD q.num.natAbs).length<=300:=h.1;have hn:zE q.num=if q.num<0 then 45::zD q.num.natAbs else zD q.num.natAbs:=by
  rcases zbg q.num with⟨k,e⟩|⟨k,e⟩<;>rw[e]
  ·rw[if_neg (by omega)]
  ·rw[if_pos k]
 have hd:q.den=1->zD q.den=[49]:=λe=>by rw[e];decide+kernel
 have hd2:q.den≠1->denS q=zD q.den:=λe=>by unfold denS;rw[if_neg e]
 have HC:=hid hc;have HN:=hid hn;have HD:=hid hd;have HD2:=hid hd2;clear hc hn hd hd2 h;generalize zD q.num.natAbs=a at*
 generalize numS q=s at*
 have f1:¬(9223372036854775807<1+a.length):=by omega
 by_cases hm:q.num<0<;>by_cases h1:q.den=1
 ·rw[decide_eq_true hm,decide_eq_false (by simpa using h1)] at HC
  rw[if_pos hm] at HN;have hdd:=HD.out h1;clear hm h1 HD HD2;rw[hdd];clear hdd;generalize zE q.num=nn at*
  generalize zD q.den=dd at*
  generalize denS q=ds at*
  go_enter Tryz.func167,Tryz.ntmps167;go_wp21;refine zzM HC.out λw1 hb=>?_;go_wp21;go_ret2;refine⟨?_,hb⟩;rw[HN.out];show Ending.returned (.tuple #[.string (_++_),.string _])=_;rw[ztl]
 ·rw[decide_eq_true hm,decide_eq_true (by simpa using h1)] at HC
  rw[if_pos hm] at HN;have hdd:=HD2.out h1;rw[hdd] at HC;clear hm h1 HD HD2 hdd;generalize zE q.num=nn at*
  generalize zD q.den=dd at*
  generalize denS q=ds at*
  go_enter Tryz.func167,Tryz.ntmps167;go_wp21;refine zzM HC.out λw1 hb=>?_;go_wp21;go_ret2;refine⟨?_,hb⟩;rw[HN.out];show Ending.returned (.tuple #[.string (_++_),.string _])=_;rw[ztl]
 ·rw[decide_eq_false hm,decide_eq_false (by simpa using h1)] at HC
  rw[if_neg hm] at HN;have hdd:=HD.out h1;clear hm h1 HD HD2;rw[hdd];clear hdd;generalize zE q.num=nn at*
  generalize zD q.den=dd at*
  generalize denS q=ds at*
  go_enter Tryz.func167,Tryz.ntmps167;go_wp21;refine zzM HC.out λw1 hb=>?_;go_wp21;go_ret2;exact⟨by rw[HN.out];rfl,hb⟩
 ·rw[decide_eq_false hm,decide_eq_true (by simpa using h1)] at HC
  rw[if_neg hm] at HN;have hdd:=HD2.out h1;rw[hdd] at HC;clear hm h1 HD HD2 hdd;generalize zE q.num=nn at*
  generalize zD q.den=dd at*
  generalize denS q=ds at*
  go_enter Tryz.func167,Tryz.ntmps167;go_wp21;refine zzM HC.out λw1 hb=>?_;go_wp21;go_ret2;exact⟨by rw[HN.out];rfl,hb⟩
theorem zt4 (x u v:ByteArray) (m sl b1 b2 z1 z2 z3:Bool) (hz:(300:Int)<u.size\/(¬(300:Int)<u.size/\(300:Int)<v.size))
 (e1:(v.toList==[48])=z1) (e2:(v.toList==[49])=z2) (e3:(u.toList==[48])=z3)
 (SP:Hid (∀W:zA,qJ 160 #[.string x] W (.tuple #[.bool m,.string u,.string v,.bool sl])))
 (D1:Hid (∀W:zA,zC zF 161 #[.string u] W λe w'=>e=.returned (.bool b1)/\w'=W))
 (D2:Hid (∀W:zA,zC zF 161 #[.string v] W λe w'=>e=.returned (.bool b2)/\w'=W))
 (w:zA):
 zC zF 86 #[.string x] w λe w'=>∃r:Int,e=.returned (.int .i64 r)/\r≠0/\zB w.heap.size w w':=by
 go_enter Tryz.func86,Tryz.ntmps86;go_wp21;refine zzM (SP.out w) λw1 hB=>?_;go_wp21;refine zzM (D1.out w1) λw2 hw=>?_;have hw2:=hw.symm;subst hw2;clear hw;cases b1
 ·go_wp21
  all_goals first|exact(zzU ‹_›).elim|skip
  go_ret;exact⟨11,rfl,by decide,hB⟩
 ·cases sl
  ·cases m
   ·rcases hz with h|⟨h,h'⟩
    all_goals
     go_wp21
     all_goals first|exact(zzU ‹_›).elim|skip
     go_ret;exact⟨4,rfl,by decide,hB⟩
   ·cases z3
    ·rcases hz with h|⟨h,h'⟩
     all_goals
      go_wp21
      all_goals first|exact(zzU ‹_›).elim|skip
      go_ret;exact⟨4,rfl,by decide,hB⟩
    ·go_wp21
     all_goals first|exact(zzU ‹_›).elim|skip
     go_ret;exact⟨11,rfl,by decide,hB⟩
  ·go_wp21
   all_goals first|exact(zzU ‹_›).elim|skip
   refine zzM (D2.out _) λw2 hw=>?_;have hw2:=hw.symm;subst hw2;clear hw;cases b2
   ·go_wp21
    all_goals first|exact(zzU ‹_›).elim|skip
    go_ret;exact⟨11,rfl,by decide,hB⟩
   ·cases z1<;>cases z2<;>cases m<;>cases z3
    all_goals
     rcases hz with h|⟨h,h'⟩
     all_goals
      go_wp21
      all_goals first|exact(zzU ‹_›).elim|skip
      go_ret
      first|exact⟨4,rfl,by decide,hB⟩|exact⟨11,rfl,by decide,hB⟩
theorem zri {q:Rat}:okQ q↔(upS (numS q)).length<=300/\(dnS (numS q)).length<=300:=by
 obtain⟨h1,h2,_,_⟩:=zvg q;rw[h1,h2];unfold okQ denS digs;by_cases c:q.den=1
 ·rw[if_pos c,c,(zta 1).2 rfl];simp
 ·rw[if_neg c]
theorem zt5 (l:List UInt8) (hl:l.length<=1000) (w:zA) (hw:Wd w):
 zC zF 86 #[St l] w λe w'=>∃r:Int,e=.returned (.int .i64 r)/\(r=0↔∃q,l=numS q/\okQ q)/\zB w.heap.size w w':=by
 classical
 have sz:∀k:List UInt8,(⟨k.toArray⟩:ByteArray).size=k.length:=λk=>by show k.toArray.size=_;simp
 have lb:(bare l).length<=1000:=by
  have h2:(bare l).length<=l.length:=by unfold bare;split<;>simp
  omega
 have lu:(upS l).length<=1000:=zO (List.takeWhile_sublist _).length_le lb;have ld:(dnS l).length<=1000:=by
  have h1:((bare l).dropWhile (· !=47)).length<=(bare l).length:=(List.dropWhile_sublist _).length_le;have h3:(dnS l).length=((bare l).dropWhile (· !=47)).length-1:=by unfold dnS;rw[List.length_tail]
  omega
 have hd:∀k:List UInt8,k.length<=1000->∀W,zC zF 161 #[.string ⟨k.toArray⟩] W (λe w'=>e=.returned (.bool (decide (zcb k)))/\w'=W):=λk hk W=>by
  refine(zsg k (by omega) W).mono ?_;rintro e w' ⟨b,rfl,h,rfl⟩;refine⟨?_,rfl⟩;congr 2;cases b
  ·rw[eq_comm,decide_eq_false_iff_not];intro h';exact absurd (h.2 h') (by simp)
  ·rw[eq_comm,decide_eq_true_iff];exact h.1 rfl
 have hok:(∃q,l=numS q/\okQ q)↔okS l/\(upS l).length<=300/\(dnS l).length<=300:=by
  rw[zy2];constructor
  ·rintro⟨q,rfl,h⟩;exact⟨⟨q,rfl⟩,zri.1 h⟩
  ·rintro⟨⟨q,rfl⟩,h⟩;exact⟨q,rfl,zri.2 h⟩
 by_cases hL:(upS l).length<=300/\(dnS l).length<=300
 ·obtain⟨hu,hv⟩:=hL
  have e:(∃q,l=numS q/\okQ q)↔okS l:=by rw[hok];exact⟨λh=>h.1,λh=>⟨h,hu,hv⟩⟩
  simp only[e];refine zsl ⟨l.toArray⟩ ⟨(upS l).toArray⟩ ⟨(dnS l).toArray⟩ (decide (l.head? =some 45)) (decide ((47:UInt8)∈bare l)) (decide (zcb (upS l))) (decide (zcb (dnS l))) (decide (dnS l=[48])) (decide (dnS l=[49])) (decide (upS l=[48]))
   (Nat.gcd (val (upS l)) (val (dnS l))) (okS l) (by rw[sz];exact hu) (by rw[sz];exact hv) (hid ?_) (zeb _ _ rfl _) (zeb _ _ rfl _) (zeb _ _ rfl _)
   (hid λW=>zlq l (by omega) W) (hid λW=>hd _ lu W) (hid λW=>hd _ ld W) (hid λh1 h2 h3 h4=>?_) (hid λh1 h2=>?_) w (hid hw)
  ·rw[zuh]
   simp only[decide_eq_true_eq,decide_eq_false_iff_not,ne_eq]
  ·rw[sz] at h3 h4
   have n1:zcb (upS l):=of_decide_eq_true h1;have n2:zcb (dnS l):=of_decide_eq_true h2;refine⟨val (upS l),val (dnS l),λW=>zlj _ n1.2.1 h3 W,λW=>zlj _ n2.2.1 h4 W,λW=>?_⟩;have b1:=zS (zjc _ n1.2.1) (yF (by omega) h3:10^(upS l).length<=10^9);have b2:=zS (zjc _ n2.2.1) (yF (by omega) h4:10^(dnS l).length<=10^9);refine(zxf _ _ (by omega) (by omega) W).mono ?_;rintro e w' ⟨nd,rfl,rfl⟩;exact⟨rfl,zao (zM _ _) _⟩
  ·have n1:zcb (upS l):=of_decide_eq_true h1
   have n2:zcb (dnS l):=of_decide_eq_true h2;refine⟨⟨(zD (Nat.gcd (val (upS l)) (val (dnS l)))).toArray⟩,?_,λW hW=>?_⟩
   ·rw[zeb _ _ rfl]
    exact decide_eq_decide.2 (zta _)
   ·have:=zxp (val (upS l):Int) (val (dnS l):Int) (by unfold digs;rw[Int.natAbs_natCast,zdd n1];exact hu) (by unfold digs;rw[Int.natAbs_natCast,zdd n2];exact hv) W hW
    rw[Str.zad,Str.zad,Str.zad,zdd n1,zdd n2] at this;exact this
 ·refine(zt4 ⟨l.toArray⟩ ⟨(upS l).toArray⟩ ⟨(dnS l).toArray⟩ (decide (l.head? =some 45)) (decide ((47:UInt8)∈bare l)) (decide (zcb (upS l))) (decide (zcb (dnS l))) (decide (dnS l=[48])) (decide (dnS l=[49])) (decide (upS l=[48])) ?_ (zeb _ _ rfl _) (zeb _ _ rfl _) (zeb _ _ rfl _)
   (hid λW=>zlq l (by omega) W) (hid λW=>hd _ lu W) (hid λW=>hd _ ld W) w).mono ?_
  ·rw[sz,sz];omega
  ·rintro e w' ⟨r,rfl,hr,hb⟩
   exact⟨r,rfl,⟨λk=>absurd k hr,λk=>absurd (hok.1 k).2 hL⟩,hb⟩
end
section
open Go.RowKit Go.Shelf Lib Str Limb Geo
attribute [local go_sem] Oper.semAt_some
def ze5 (l:List Pt) (q:Pt) (k:Nat):Prop:=
 (cmpR (cor l k).y q.y<=0/\0<cmpR (cor l (k+1)).y q.y/\0<turn (cor l k) (cor l (k+1)) q)\/(cmpR (cor l (k+1)).y q.y<=0/\0<cmpR (cor l k).y q.y/\turn (cor l k) (cor l (k+1)) q<0)
instance (l:List Pt) (q:Pt) (k:Nat):Decidable (ze5 l q k):=by unfold ze5;infer_instance
def insI (l:List Pt) (q:Pt):Nat->Int
 |0=> -1
 |k+1=>if ze5 l q k then-insI l q k else insI l q k
theorem zrd (l:List Pt) (q:Pt):∀k,insI l q k=1\/insI l q k= -1
 |0=>.inr rfl
 |k+1=>by
  have:=zrd l q k;unfold insI;split<;>omega
def onS (l:List Pt) (q:Pt) (k:Nat):Prop:=meet (cor l k) (cor l (k+1)) q q=1
structure InsS (w:zA) (p:Option Addr) (cap n:Nat) (l:List Pt) (q:Pt) (ib k:Nat) (W:zA):Prop where
 bel:qL w W
 ib1:w.heap.size+2<ib
 q0:W.cell? ⟨w.heap.size,0,none⟩=some (St (numS q.x))
 q1:W.cell? ⟨w.heap.size,1,none⟩=some (St (numS q.y))
 r1:W.cell? ⟨w.heap.size+1,0,none⟩=some (I 0)
 f1:W.frozen? ⟨w.heap.size+1,0,none⟩=false
 r2:W.cell? ⟨w.heap.size+1+1,0,none⟩=some (I 0)
 f2:W.frozen? ⟨w.heap.size+1+1,0,none⟩=false
 ic:W.cell? ⟨ib,0,none⟩=some (.int .i64 (insI l q k))
 fi:W.frozen? ⟨ib,0,none⟩=false
 cbx:W.cell? ⟨ib+1,0,none⟩=some (.slice p n cap)
 pts:∀i,i<n->∃b off,p=some ⟨b,off,none⟩/\b<w.heap.size/\W.cell? ⟨b,off+i*2,none⟩=some (St (ptOf (txt l) i).1)/\W.cell? ⟨b,off+i*2+1,none⟩=some (St (ptOf (txt l) i).2)
theorem InsS.keep {w:zA} {p:Option Addr} {cap n:Nat} {l:List Pt} {q:Pt} {ib k:Nat} {W W':zA} (h:InsS w p cap n l q ib k W) (hc:CellsKept W W') (hb:zB w.heap.size W W'):InsS w p cap n l q ib k W':=
 ⟨h.bel.trans hb,h.ib1,hc.cell h.q0,hc.cell h.q1,hc.cell h.r1,hc.frozen h.r1 h.f1,hc.cell h.r2,hc.frozen h.r2 h.f2,hc.cell h.ic,hc.frozen h.ic h.fi,hc.cell h.cbx,
  λi hi=>let ⟨b,off,e,h0,h1,h2⟩:=h.pts i hi;⟨b,off,e,h0,hc.cell h1,hc.cell h2⟩⟩
theorem InsS.ptsAt {w:zA} {p:Option Addr} {cap n:Nat} {l:List Pt} {q:Pt} {ib k:Nat} {W:zA} (hn:n=l.length) (h:InsS w p cap n l q ib k W):zmh (ib+1) p cap (txt l) W:=
 ⟨by rw[zce,<-hn];exact h.cbx,λi hi=>let ⟨b,off,e,_,h1,h2⟩:=h.pts i (by rw[zce] at hi;omega);⟨b,off,e,h1,h2⟩⟩
theorem InsS.put {w:zA} {p:Option Addr} {cap n:Nat} {l:List Pt} {q:Pt} {ib k k':Nat} {W:zA} (h:InsS w p cap n l q ib k W):InsS w p cap n l q ib k' (W.setCell ⟨ib,0,none⟩ (.int .i64 (insI l q k'))):=by
 have hib:=h.ib1;refine⟨h.bel.setCell (by simp;omega) _,hib,?_,?_,?_,?_,?_,?_,za9 h.ic,?_,?_,λi hi=>?_⟩
 ·rw[zau _ _ _ _ (by omega)];exact h.q0
 ·rw[zau _ _ _ _ (by omega)];exact h.q1
 ·rw[zau _ _ _ _ (by omega)];exact h.r1
 ·rw[World.frozen?_setCell];exact h.f1
 ·rw[zau _ _ _ _ (by omega)];exact h.r2
 ·rw[World.frozen?_setCell];exact h.f2
 ·rw[World.frozen?_setCell];exact h.fi
 ·rw[zau _ _ _ _ (by omega)];exact h.cbx
 ·obtain⟨b,off,e,h0,h1,h2⟩:=h.pts i hi
  exact⟨b,off,e,h0,by rw[zau _ _ _ _ (by omega)];exact h1,by rw[zau _ _ _ _ (by omega)];exact h2⟩
structure InsB (w:zA) (p:Option Addr) (n:Nat) (l:List Pt) (q:Pt) (W:zA):Prop where
 bel:qL w W
 q0:W.cell? ⟨w.heap.size,0,none⟩=some (St (numS q.x))
 q1:W.cell? ⟨w.heap.size,1,none⟩=some (St (numS q.y))
 r1:W.cell? ⟨w.heap.size+1,0,none⟩=some (I 0)
 f1:W.frozen? ⟨w.heap.size+1,0,none⟩=false
 r2:W.cell? ⟨w.heap.size+1+1,0,none⟩=some (I 0)
 f2:W.frozen? ⟨w.heap.size+1+1,0,none⟩=false
 pts:∀i,i<n->∃b off,p=some ⟨b,off,none⟩/\b<w.heap.size/\W.cell? ⟨b,off+i*2,none⟩=some (St (ptOf (txt l) i).1)/\W.cell? ⟨b,off+i*2+1,none⟩=some (St (ptOf (txt l) i).2)
theorem InsB.keep {w:zA} {p:Option Addr} {n:Nat} {l:List Pt} {q:Pt} {W W':zA} (h:InsB w p n l q W) (hb:qL W W'):InsB w p n l q W':=
 have hc:=zac hb
 ⟨h.bel.trans (hb.mono h.bel.size),hc.cell h.q0,hc.cell h.q1,hc.cell h.r1,hc.frozen h.r1 h.f1,hc.cell h.r2,hc.frozen h.r2 h.f2,
  λi hi=>let ⟨b,off,e,h0,h1,h2⟩:=h.pts i hi;⟨b,off,e,h0,hc.cell h1,hc.cell h2⟩⟩
theorem InsB.start (w:zA) (p:Option Addr) (l:List Pt) (q:Pt) (hp:RowPts p l w):
 InsB w p l.length l q (((w.alloc (.cells #[St (numS q.x),St (numS q.y)] 32)).alloc (.cells #[I 0] 3)).alloc (.cells #[I 0] 27)):=by
 have hb:qL w (((w.alloc (.cells #[St (numS q.x),St (numS q.y)] 32)).alloc (.cells #[I 0] 3)).alloc (.cells #[I 0] 27)):=(((zM _ w).alloc (zN _) _).alloc (by simp) _).alloc (by simp;omega) _;have A0:=(Below.heap_alloc (((w.alloc (.cells #[St (numS q.x),St (numS q.y)] 32)).alloc (.cells #[I 0] 3))) (.cells #[I 0] 27) w.heap.size (by simp;omega)).trans ((Below.heap_alloc (w.alloc (.cells #[St (numS q.x),St (numS q.y)] 32)) (.cells #[I 0] 3) w.heap.size (by simp)).trans (zG w (.cells #[St (numS q.x),St (numS q.y)] 32 (0,0))));have b1:=(Boxed.new (w.alloc (.cells #[St (numS q.x),St (numS q.y)] 32)) 3 (I 0)).alloc (.cells #[I 0] 27);have b2:=Boxed.new ((w.alloc (.cells #[St (numS q.x),St (numS q.y)] 32)).alloc (.cells #[I 0] 3)) 27 (I 0);simp only[zH] at b1 b2;refine⟨hb,by rw[zJ A0];rfl,by rw[zJ A0];rfl,b1.cell,b1.frozen,b2.cell,b2.frozen,λi hi=>?_⟩;obtain⟨b,off,e,h1,h2⟩:=hp i hi;exact⟨b,off,e,zbe h1,zai hb h1,zai hb h2⟩
theorem InsB.row {w:zA} {p:Option Addr} {l:List Pt} {q:Pt} {W:zA} (h:InsB w p l.length l q W):RowPts p l W:=λi hi=>let ⟨b,off,e,_,h1,h2⟩:=h.pts i hi;⟨b,off,e,h1,h2⟩
theorem zs5 (p:Option Addr) (cap:Nat) (l:List Pt) (q:Pt) (h3:3<=l.length) (hlen:l.length<=4096)
 (C:Hid (∀W:zA,Wd W->RowPts p l W->qJ 30 #[.slice p l.length cap] W (.int .i64 0)))
 (CP:Hid (qK 94 #[ptV q] (.int .i64 0)))
 (M:Hid (∀k,qK 95 #[segV (cor l k) (cor l (k+1)),segV q q] (.int .i64 (meet (cor l k) (cor l (k+1)) q q))))
 (Y:Hid (∀k,qK 96 #[St (numS (cor l k).y),St (numS q.y)] (.int .i64 (cmpR (cor l k).y q.y))))
 (T:Hid (∀k,qK 97 #[ptV (cor l k),ptV (cor l (k+1)),ptV q] (.int .i64 (turn (cor l k) (cor l (k+1)) q))))
 (w:zA) (HW:Hid (Wd w)) (HP:Hid (RowPts p l w)):
 zC zF 28 #[.slice p l.length cap,ptV q] w λe w'=>∃r:Int,e=.returned (.tuple #[.int .i64 r,.int .i64 0])/\(((∃k,k<l.length/\onS l q k)/\r=0)\/((∀k,k<l.length->¬onS l q k)/\r=insI l q l.length))/\zB w.heap.size w w':=by
 refine(callsIn_wide (n:=3)).1 ?_;refine callsIn_of_wp_marks Tryz.func28 rfl trivial ?_ rfl;simp only[Tryz.ntmps28,List.size_toArray,List.length_cons,List.length_nil,Nat.reduceAdd,Nat.reduceSub,Array.replicate_succ,Array.replicate_zero,List.push_toArray,List.append_toArray,List.nil_append,List.cons_append];obtain⟨n,hn⟩:=zzX l.length;obtain⟨W0,hW0⟩:=zzX (((w.alloc (.cells #[St (numS q.x),St (numS q.y)] 32)).alloc (.cells #[I 0] 3)).alloc (.cells #[I 0] 27));have hb0:=InsB.start w p l q HP.out;rw[<-hW0] at hb0;have hCk:=C.out W0 (HW.out.below hb0.bel) hb0.row;rw[<-hn] at h3 hlen hCk hb0⊢;have HN:=hid hn;clear hn;have HCk:=hid hCk;clear hCk C;have HB0:=hid hb0;have HW0:=hid hW0;clear hW0 hb0;unfold ptV;gi_wp2;refine⟨trivial,?_⟩;have h9:((w.alloc (.cells #[St (numS q.x),St (numS q.y)] 32)).alloc (.cells #[.int .i64 0] 3)).alloc (.cells #[.int .i64 0] 27)=W0:=HW0.out.symm;rw[h9];clear h9 HW0;refine(callsIn_wide.2 HCk.out).mono ?_;rintro e w1 ⟨rfl,hb1⟩;have HB1:=hid (HB0.out.keep hb1);clear hb1 HB0 HCk;have g0:=HB1.out.q0;have g1:=HB1.out.q1;gi_wp2;refine⟨trivial,(callsIn_wide.2 (CP.out w1 (HW.out.below HB1.out.bel))).mono ?_⟩;rintro e w2 ⟨rfl,hb2⟩;have HB2:=hid (HB1.out.keep hb2);clear hb2 HB1 g0 g1 CP;gi_wp2_with (refine⟨trivial,?_⟩;gi_at_call 31;refine(callsIn_wide.2 (zf8 _ _ _ _ _ rfl)).mono ?_;rintro e w' ⟨rfl,rfl⟩);obtain⟨W1,hW1⟩:=zzX ((w2.alloc (.cells #[.int .i64 (-1)] 3)).alloc (.cells #[.slice p n cap] 22));rw[<-hW1];have hS1:InsS w p cap n l q w2.heap.size 0 W1:=by
  have b1:=(Boxed.new w2 3 (.int .i64 (-1))).alloc (.cells #[.slice p n cap] 22);have b2:=Boxed.new (w2.alloc (.cells #[.int .i64 (-1)] 3)) 22 (.slice p n cap);rw[zH] at b2;have hw:qL w2 ((w2.alloc (.cells #[.int .i64 (-1)] 3)).alloc (.cells #[.slice p n cap] 22)):=((zM _ w2).alloc (zN _) _).alloc (by simp) _;have h:=HB2.out.keep hw;rw[hW1];exact⟨h.bel,zbe HB2.out.r2,h.q0,h.q1,h.r1,h.f1,h.r2,h.f2,b1.cell,b1.frozen,b2.cell,h.pts⟩
 clear hW1;have HS1:=hid hS1.bel.size;have hseq:=zgo 2 (by omega) (w2.heap.size+1) (txt l) (by rw[zce,<-HN.out];omega) (λW=>∃j,InsS w p cap n l q w2.heap.size j W) p cap (λW ⟨j,h⟩=>h.ptsAt HN.out);rw[zce,<-HN.out] at hseq
 refine z9z (n:=3) (B:=w.heap.size) rfl (by omega) rfl trivial (enters_of Tryz.func99 (by kernel_rfl) rfl) hseq (λk args h=>by subst h;rfl) hS1.bel.size
  (λj W=>InsS w p cap n l q w2.heap.size j W/\∀i,i<j->¬onS l q i)
  (λc _ W=>c=.ret/\zB w.heap.size w W/\W.cell? ⟨w.heap.size+1,0,none⟩=some (I 0)/\W.cell? ⟨w.heap.size+1+1,0,none⟩=some (I 0)/\∃k,k<n/\onS l q k)
  (λj X Y h hc hb=>⟨h.1.keep hc hb,h.2⟩) (λc j X Y h hc hb=>⟨h.1,h.2.1.trans hb,hc.cell h.2.2.1,hc.cell h.2.2.2.1,h.2.2.2.2⟩) (λj W h=>⟨j,h.1⟩) ⟨hS1,λi h=>by omega⟩
  (λj _ a' W=>∃bs,a'={tmps:= #[Value.slice p n cap,Value.agg #[St (numS q.x),St (numS q.y)],undef,Value.pointer (some {block:=w.heap.size,off:=0}),Value.pointer (some {block:=w.heap.size+1,off:=0}),Value.pointer (some {block:=w.heap.size+1+1,off:=0}),Value.pointer (some {block:=w2.heap.size,off:=0}),undef,.pointer (some ⟨bs,0,none⟩),undef,undef,undef,Value.slice p n cap,Value.int IntKind.i64 0,Value.bool false,Value.bool false,Value.agg #[St (numS q.x),St (numS q.y)],Value.int IntKind.i64 0,Value.bool false,Value.bool false,Value.slice p n cap,Value.func (Fn.func 99) #[] #[Value.pointer (some {block:=w2.heap.size+1,off:=0})],I j,segV (cor l j) (cor l (j+1)),undef,undef,undef,undef,undef,undef,undef,undef,undef,undef,undef,undef,undef,undef,undef,undef,undef,undef,undef,undef,undef,undef,undef,undef,undef,undef,undef,undef,undef,undef,undef,undef,undef,undef,undef,undef,undef,undef,undef,undef,undef,undef,undef,undef,undef,undef,undef,undef,undef,undef,undef,undef,undef,undef,undef,undef,undef,undef,undef],defers:=[]}/\SegAt bs (cor l j) (cor l (j+1)) W)
  (λj _ a' X Y h hc hb=>let ⟨bs,e,h2⟩:=h;⟨bs,e,h2.keep hc⟩) ?assign ?body ?done ?stop
 case assign=>
  rintro lp j args W K hlp hrec ⟨hS,hP⟩ hj rfl hK;rw[zgr l j (by rw[<-HN.out];exact hj)];have HK:=hid hK;clear hK;unfold segV;gi_wp2;have hb1:qL W (W.alloc (.cells #[St (numS (cor l j).x),St (numS (cor l j).y),St (numS (cor l (j+1)).x),St (numS (cor l (j+1)).y)] 64)):=(zM _ W).alloc (zN _) _;exact HK.out _ _ ((za0 hb1).from _) ⟨hS.keep (zac hb1) (hb1.mono hS.bel.size),hP⟩ ⟨W.heap.size,rfl,SegAt.new W (cor l j) (cor l (j+1)) 64⟩
 case body=>
  rintro lp j args a' W hlp ⟨r',hr'⟩ ⟨hS,hP⟩ hj rfl ⟨bs,rfl,hseg⟩;have hbl:=hS.bel;have H0:=hid (⟨hS,hP⟩:InsS w p cap n l q w2.heap.size j W/\∀i,i<j->¬onS l q i);have hks:∀W':zA,qL W W'->
   W'.cell? ⟨bs,0,none⟩=some (St (numS (cor l j).x))/\W'.cell? ⟨bs,1,none⟩=some (St (numS (cor l j).y))/\W'.cell? ⟨bs,2,none⟩=some (St (numS (cor l (j+1)).x))/\W'.cell? ⟨bs,3,none⟩=some (St (numS (cor l (j+1)).y))/\
   W'.cell? ⟨w.heap.size,0,none⟩=some (St (numS q.x))/\W'.cell? ⟨w.heap.size,1,none⟩=some (St (numS q.y))/\W'.cell? ⟨w.heap.size+1,0,none⟩=some (I 0)/\W'.frozen? ⟨w.heap.size+1,0,none⟩=false/\
   W'.cell? ⟨w.heap.size+1+1,0,none⟩=some (I 0)/\W'.frozen? ⟨w.heap.size+1+1,0,none⟩=false/\W'.cell? ⟨w2.heap.size,0,none⟩=some (.int .i64 (insI l q j))/\W'.frozen? ⟨w2.heap.size,0,none⟩=false:=λW' hb=>by
   have h1:=hseg.keep (zac hb);have h2:=hS.keep (zac hb) (hb.mono hS.bel.size);exact⟨h1.h0,h1.h1,h1.h2,h1.h3,h2.q0,h2.q1,h2.r1,h2.f1,h2.r2,h2.f2,h2.ic,h2.fi⟩
  have KS:=hid hks;clear hks hseg hS hP hseq hS1 hr' HB2;have hbb:qL W W:=zM _ W;obtain⟨g0,g1,g2,g3,q0,q1,r1,f1,r2,f2,ic,fi⟩:=KS.out W hbb;obtain⟨c1,hc1⟩:=zzX (cmpR (cor l j).y q.y);obtain⟨c2,hc2⟩:=zzX (cmpR (cor l (j+1)).y q.y);obtain⟨t,ht⟩:=zzX (turn (cor l j) (cor l (j+1)) q);obtain⟨m,hm⟩:=zzX (meet (cor l j) (cor l (j+1)) q q);obtain⟨z,hz⟩:=zzX (insI l q j);have y1:=Y.out j;have y2:=Y.out (j+1);have t1:=T.out j;have m1:=M.out j;rw[<-hc1] at y1;rw[<-hc2] at y2;rw[<-ht] at t1;rw[<-hm] at m1;have hfl:ze5 l q j↔(c1<=0/\0<c2/\0<t)\/(c2<=0/\0<c1/\t<0):=by rw[hc1,hc2,ht];exact Iff.rfl
  have hi1:insI l q (j+1)=if ze5 l q j then-z else z:=by rw[hz];rfl
  have hzz:z=1\/z= -1:=by rw[hz];exact zrd l q j
  have hon:onS l q j↔m=1:=by rw[hm];exact Iff.rfl
  have hwz:IntKind.i64.wrap (-z)= -z:=zI _ (by omega);rw[<-hz] at ic KS;unfold segV ptV at*
  have Y1:=hid y1;have Y2:=hid y2;have T1:=hid t1;have MM:=hid m1;have HF:=hid hfl;have HI:=hid hi1;have HO:=hid hon;clear y1 y2 t1 m1 hfl hi1 hon hzz hc1 hc2 ht hm Y T M;have HZ:=hid hz;clear hz;generalize numS (cor l j).x=a1 at*
  generalize numS (cor l j).y=a2 at*
  generalize numS (cor l (j+1)).x=a3 at*
  generalize numS (cor l (j+1)).y=a4 at*
  gi_wp2
  all_goals first|exact(zzU ‹_›).elim|skip
  refine⟨trivial,(CallsIn.inRound lp (callsIn_wide.2 (MM.out W (HW.out.below (hbl.trans (hbb.mono hbl.size)))))).mono ?_⟩;rintro e X1 ⟨rfl,hbn⟩;have hbx:=hbb.trans (hbn.mono hbb.size);clear hbb hbn g0 g1 g2 g3 q0 q1 r1 f1 r2 f2 ic fi;have hbb:=hbx;clear hbx;obtain⟨g0,g1,g2,g3,q0,q1,r1,f1,r2,f2,ic,fi⟩:=KS.out X1 hbb;have hend:∀X:zA,qL W X->m≠1->¬ze5 l q j->KeepsFrom W1.heap.size W X/\InsS w p cap n l q w2.heap.size (j+1) X/\∀i,i<j+1->¬onS l q i:=by
   intro X hb hm hf;obtain⟨hS,hP⟩:=H0.out;have h:=hS.keep (zac hb) (hb.mono hS.bel.size);refine⟨(za0 hb).from _,⟨h.bel,h.ib1,h.q0,h.q1,h.r1,h.f1,h.r2,h.f2,?_,h.fi,h.cbx,h.pts⟩,λi hi=>?_⟩
   ·rw[HI.out,if_neg hf,HZ.out];exact h.ic
   ·by_cases e:i=j
    ·subst e;rw[HO.out];exact hm
    ·exact hP i (by omega)
  have hflip:∀X:zA,qL W X->m≠1->ze5 l q j->KeepsFrom W1.heap.size W (X.setCell ⟨w2.heap.size,0,none⟩ (.int .i64 (-z)))/\InsS w p cap n l q w2.heap.size (j+1) (X.setCell ⟨w2.heap.size,0,none⟩ (.int .i64 (-z)))/\∀i,i<j+1->¬onS l q i:=by
   intro X hb hm hf;obtain⟨hS,hP⟩:=H0.out;have h:=(hS.keep (zac hb) (hb.mono hS.bel.size)).put (k':=j+1);rw[HI.out,if_pos hf] at h;refine⟨((za0 hb).from _).trans ((KeepsOthers.setCell _ _ _).from _),h,λi hi=>?_⟩;by_cases e:i=j
   ·subst e;rw[HO.out];exact hm
   ·exact hP i (by omega)
  have HEnd:=hid hend;have HFlip:=hid hflip;clear hend hflip;by_cases hm:m=1
  ·have hmb:(m==1)=true:=by simpa using hm
   have HM:=hid hm;clear hm;gi_wp2;obtain⟨hS,hP⟩:=H0.out;refine⟨((za0 hbb).from _).trans (((KeepsOthers.setCell _ _ _).from _).trans ((KeepsOthers.setCell _ _ _).from _)),rfl,((hbl.trans (hbb.mono hbl.size)).setCell (p:=⟨w.heap.size+1,0,none⟩) (by simp) _).setCell (p:=⟨w.heap.size+1+1,0,none⟩) (by simp;omega) _,?_,?_,j,hj,HO.out.2 HM.out⟩
   ·rw[zau _ _ _ _ (by omega)];exact za9 r1
   ·exact za9 (by rw[zau _ _ _ _ (by omega)];exact r2)
  ·have hmb:(m==1)=false:=by simpa using hm
   have HM:=hid hm;clear hm;rcases(show(decide (c1<=0)=true/\decide (0<c1)=false)\/(decide (c1<=0)=false/\decide (0<c1)=true) by simp only[decide_eq_true_eq,decide_eq_false_iff_not];omega) with⟨d1,d2⟩|⟨d1,d2⟩<;>rcases(show(decide (0<c2)=true/\decide (c2<=0)=false)\/(decide (0<c2)=false/\decide (c2<=0)=true) by simp only[decide_eq_true_eq,decide_eq_false_iff_not];omega) with⟨e1,e2⟩|⟨e1,e2⟩
   ·gi_wp2
    all_goals first|exact(zzU ‹_›).elim|skip
    refine⟨trivial,(CallsIn.inRound lp (callsIn_wide.2 (Y1.out X1 (HW.out.below (hbl.trans (hbb.mono hbl.size)))))).mono ?_⟩;rintro e X2 ⟨rfl,hbn⟩;have hbx:=hbb.trans (hbn.mono hbb.size);clear hbb hbn g0 g1 g2 g3 q0 q1 r1 f1 r2 f2 ic fi;have hbb:=hbx;clear hbx;obtain⟨g0,g1,g2,g3,q0,q1,r1,f1,r2,f2,ic,fi⟩:=KS.out X2 hbb;gi_wp2
    all_goals first|exact(zzU ‹_›).elim|skip
    refine⟨trivial,(CallsIn.inRound lp (callsIn_wide.2 (Y2.out X2 (HW.out.below (hbl.trans (hbb.mono hbl.size)))))).mono ?_⟩;rintro e X3 ⟨rfl,hbn⟩;have hbx:=hbb.trans (hbn.mono hbb.size);clear hbb hbn g0 g1 g2 g3 q0 q1 r1 f1 r2 f2 ic fi;have hbb:=hbx;clear hbx;obtain⟨g0,g1,g2,g3,q0,q1,r1,f1,r2,f2,ic,fi⟩:=KS.out X3 hbb;gi_wp2
    all_goals first|exact(zzU ‹_›).elim|skip
    refine⟨trivial,(CallsIn.inRound lp (callsIn_wide.2 (Y2.out X3 (HW.out.below (hbl.trans (hbb.mono hbl.size)))))).mono ?_⟩;rintro e X4 ⟨rfl,hbn⟩;have hbx:=hbb.trans (hbn.mono hbb.size);clear hbb hbn g0 g1 g2 g3 q0 q1 r1 f1 r2 f2 ic fi;have hbb:=hbx;clear hbx;obtain⟨g0,g1,g2,g3,q0,q1,r1,f1,r2,f2,ic,fi⟩:=KS.out X4 hbb;gi_wp2
    all_goals first|exact(zzU ‹_›).elim|skip
    refine⟨trivial,?_⟩;gi_wp2
    all_goals first|exact(zzU ‹_›).elim|skip
    refine⟨trivial,(CallsIn.inRound lp (callsIn_wide.2 (T1.out X4 (HW.out.below (hbl.trans (hbb.mono hbl.size)))))).mono ?_⟩;rintro e X5 ⟨rfl,hbn⟩;have hbx:=hbb.trans (hbn.mono hbb.size);clear hbb hbn g0 g1 g2 g3 q0 q1 r1 f1 r2 f2 ic fi;have hbb:=hbx;clear hbx;obtain⟨g0,g1,g2,g3,q0,q1,r1,f1,r2,f2,ic,fi⟩:=KS.out X5 hbb;rcases(show(decide (0<t)=true/\decide (t<0)=false)\/(decide (0<t)=false/\decide (t<0)=true)\/(decide (0<t)=false/\decide (t<0)=false) by simp only[decide_eq_true_eq,decide_eq_false_iff_not];omega) with⟨t1,t2⟩|⟨t1,t2⟩|⟨t1,t2⟩
    ·have HD:=hid (⟨⟨d1,d2⟩,⟨e1,e2⟩,⟨t1,t2⟩⟩:(_/\_)/\(_/\_)/\(_/\_))
     gi_wp2
     all_goals first|exact(zzU ‹_›).elim|skip
     obtain⟨⟨d1,d2⟩,⟨e1,e2⟩,⟨t1,t2⟩⟩:=HD.out;simp only[decide_eq_true_eq,decide_eq_false_iff_not] at d1 d2 e1 e2 t1 t2;exact HFlip.out _ hbb HM.out (by rw[HF.out];omega)
    ·have HD:=hid (⟨⟨d1,d2⟩,⟨e1,e2⟩,⟨t1,t2⟩⟩:(_/\_)/\(_/\_)/\(_/\_))
     gi_wp2
     all_goals first|exact(zzU ‹_›).elim|skip
     obtain⟨⟨d1,d2⟩,⟨e1,e2⟩,⟨t1,t2⟩⟩:=HD.out;simp only[decide_eq_true_eq,decide_eq_false_iff_not] at d1 d2 e1 e2 t1 t2;exact HEnd.out _ hbb HM.out (by rw[HF.out];omega)
    ·have HD:=hid (⟨⟨d1,d2⟩,⟨e1,e2⟩,⟨t1,t2⟩⟩:(_/\_)/\(_/\_)/\(_/\_))
     gi_wp2
     all_goals first|exact(zzU ‹_›).elim|skip
     obtain⟨⟨d1,d2⟩,⟨e1,e2⟩,⟨t1,t2⟩⟩:=HD.out;simp only[decide_eq_true_eq,decide_eq_false_iff_not] at d1 d2 e1 e2 t1 t2;exact HEnd.out _ hbb HM.out (by rw[HF.out];omega)
   ·gi_wp2
    all_goals first|exact(zzU ‹_›).elim|skip
    refine⟨trivial,(CallsIn.inRound lp (callsIn_wide.2 (Y1.out X1 (HW.out.below (hbl.trans (hbb.mono hbl.size)))))).mono ?_⟩;rintro e X2 ⟨rfl,hbn⟩;have hbx:=hbb.trans (hbn.mono hbb.size);clear hbb hbn g0 g1 g2 g3 q0 q1 r1 f1 r2 f2 ic fi;have hbb:=hbx;clear hbx;obtain⟨g0,g1,g2,g3,q0,q1,r1,f1,r2,f2,ic,fi⟩:=KS.out X2 hbb;gi_wp2
    all_goals first|exact(zzU ‹_›).elim|skip
    refine⟨trivial,(CallsIn.inRound lp (callsIn_wide.2 (Y2.out X2 (HW.out.below (hbl.trans (hbb.mono hbl.size)))))).mono ?_⟩;rintro e X3 ⟨rfl,hbn⟩;have hbx:=hbb.trans (hbn.mono hbb.size);clear hbb hbn g0 g1 g2 g3 q0 q1 r1 f1 r2 f2 ic fi;have hbb:=hbx;clear hbx;obtain⟨g0,g1,g2,g3,q0,q1,r1,f1,r2,f2,ic,fi⟩:=KS.out X3 hbb;gi_wp2
    all_goals first|exact(zzU ‹_›).elim|skip
    refine⟨trivial,(CallsIn.inRound lp (callsIn_wide.2 (Y2.out X3 (HW.out.below (hbl.trans (hbb.mono hbl.size)))))).mono ?_⟩;rintro e X4 ⟨rfl,hbn⟩;have hbx:=hbb.trans (hbn.mono hbb.size);clear hbb hbn g0 g1 g2 g3 q0 q1 r1 f1 r2 f2 ic fi;have hbb:=hbx;clear hbx;obtain⟨g0,g1,g2,g3,q0,q1,r1,f1,r2,f2,ic,fi⟩:=KS.out X4 hbb;gi_wp2
    all_goals first|exact(zzU ‹_›).elim|skip
    refine⟨trivial,(CallsIn.inRound lp (callsIn_wide.2 (Y1.out X4 (HW.out.below (hbl.trans (hbb.mono hbl.size)))))).mono ?_⟩;rintro e X5 ⟨rfl,hbn⟩;have hbx:=hbb.trans (hbn.mono hbb.size);clear hbb hbn g0 g1 g2 g3 q0 q1 r1 f1 r2 f2 ic fi;have hbb:=hbx;clear hbx;obtain⟨g0,g1,g2,g3,q0,q1,r1,f1,r2,f2,ic,fi⟩:=KS.out X5 hbb;gi_wp2
    all_goals first|exact(zzU ‹_›).elim|skip
    refine⟨trivial,(CallsIn.inRound lp (callsIn_wide.2 (T1.out X5 (HW.out.below (hbl.trans (hbb.mono hbl.size)))))).mono ?_⟩;rintro e X6 ⟨rfl,hbn⟩;have hbx:=hbb.trans (hbn.mono hbb.size);clear hbb hbn g0 g1 g2 g3 q0 q1 r1 f1 r2 f2 ic fi;have hbb:=hbx;clear hbx;obtain⟨g0,g1,g2,g3,q0,q1,r1,f1,r2,f2,ic,fi⟩:=KS.out X6 hbb;rcases(show(decide (0<t)=true/\decide (t<0)=false)\/(decide (0<t)=false/\decide (t<0)=true)\/(decide (0<t)=false/\decide (t<0)=false) by simp only[decide_eq_true_eq,decide_eq_false_iff_not];omega) with⟨t1,t2⟩|⟨t1,t2⟩|⟨t1,t2⟩
    ·have HD:=hid (⟨⟨d1,d2⟩,⟨e1,e2⟩,⟨t1,t2⟩⟩:(_/\_)/\(_/\_)/\(_/\_))
     gi_wp2
     all_goals first|exact(zzU ‹_›).elim|skip
     obtain⟨⟨d1,d2⟩,⟨e1,e2⟩,⟨t1,t2⟩⟩:=HD.out;simp only[decide_eq_true_eq,decide_eq_false_iff_not] at d1 d2 e1 e2 t1 t2;exact HEnd.out _ hbb HM.out (by rw[HF.out];omega)
    ·have HD:=hid (⟨⟨d1,d2⟩,⟨e1,e2⟩,⟨t1,t2⟩⟩:(_/\_)/\(_/\_)/\(_/\_))
     gi_wp2
     all_goals first|exact(zzU ‹_›).elim|skip
     obtain⟨⟨d1,d2⟩,⟨e1,e2⟩,⟨t1,t2⟩⟩:=HD.out;simp only[decide_eq_true_eq,decide_eq_false_iff_not] at d1 d2 e1 e2 t1 t2;exact HEnd.out _ hbb HM.out (by rw[HF.out];omega)
    ·have HD:=hid (⟨⟨d1,d2⟩,⟨e1,e2⟩,⟨t1,t2⟩⟩:(_/\_)/\(_/\_)/\(_/\_))
     gi_wp2
     all_goals first|exact(zzU ‹_›).elim|skip
     obtain⟨⟨d1,d2⟩,⟨e1,e2⟩,⟨t1,t2⟩⟩:=HD.out;simp only[decide_eq_true_eq,decide_eq_false_iff_not] at d1 d2 e1 e2 t1 t2;exact HEnd.out _ hbb HM.out (by rw[HF.out];omega)
   ·gi_wp2
    all_goals first|exact(zzU ‹_›).elim|skip
    refine⟨trivial,(CallsIn.inRound lp (callsIn_wide.2 (Y1.out X1 (HW.out.below (hbl.trans (hbb.mono hbl.size)))))).mono ?_⟩;rintro e X2 ⟨rfl,hbn⟩;have hbx:=hbb.trans (hbn.mono hbb.size);clear hbb hbn g0 g1 g2 g3 q0 q1 r1 f1 r2 f2 ic fi;have hbb:=hbx;clear hbx;obtain⟨g0,g1,g2,g3,q0,q1,r1,f1,r2,f2,ic,fi⟩:=KS.out X2 hbb;gi_wp2
    all_goals first|exact(zzU ‹_›).elim|skip
    refine⟨trivial,?_⟩;gi_wp2
    all_goals first|exact(zzU ‹_›).elim|skip
    refine⟨trivial,(CallsIn.inRound lp (callsIn_wide.2 (Y2.out X2 (HW.out.below (hbl.trans (hbb.mono hbl.size)))))).mono ?_⟩;rintro e X3 ⟨rfl,hbn⟩;have hbx:=hbb.trans (hbn.mono hbb.size);clear hbb hbn g0 g1 g2 g3 q0 q1 r1 f1 r2 f2 ic fi;have hbb:=hbx;clear hbx;obtain⟨g0,g1,g2,g3,q0,q1,r1,f1,r2,f2,ic,fi⟩:=KS.out X3 hbb;gi_wp2
    all_goals first|exact(zzU ‹_›).elim|skip
    refine⟨trivial,?_⟩;gi_wp2
    all_goals first|exact(zzU ‹_›).elim|skip
    refine⟨trivial,(CallsIn.inRound lp (callsIn_wide.2 (T1.out X3 (HW.out.below (hbl.trans (hbb.mono hbl.size)))))).mono ?_⟩;rintro e X4 ⟨rfl,hbn⟩;have hbx:=hbb.trans (hbn.mono hbb.size);clear hbb hbn g0 g1 g2 g3 q0 q1 r1 f1 r2 f2 ic fi;have hbb:=hbx;clear hbx;obtain⟨g0,g1,g2,g3,q0,q1,r1,f1,r2,f2,ic,fi⟩:=KS.out X4 hbb;rcases(show(decide (0<t)=true/\decide (t<0)=false)\/(decide (0<t)=false/\decide (t<0)=true)\/(decide (0<t)=false/\decide (t<0)=false) by simp only[decide_eq_true_eq,decide_eq_false_iff_not];omega) with⟨t1,t2⟩|⟨t1,t2⟩|⟨t1,t2⟩
    ·have HD:=hid (⟨⟨d1,d2⟩,⟨e1,e2⟩,⟨t1,t2⟩⟩:(_/\_)/\(_/\_)/\(_/\_))
     gi_wp2
     all_goals first|exact(zzU ‹_›).elim|skip
     obtain⟨⟨d1,d2⟩,⟨e1,e2⟩,⟨t1,t2⟩⟩:=HD.out;simp only[decide_eq_true_eq,decide_eq_false_iff_not] at d1 d2 e1 e2 t1 t2;exact HEnd.out _ hbb HM.out (by rw[HF.out];omega)
    ·have HD:=hid (⟨⟨d1,d2⟩,⟨e1,e2⟩,⟨t1,t2⟩⟩:(_/\_)/\(_/\_)/\(_/\_))
     gi_wp2
     all_goals first|exact(zzU ‹_›).elim|skip
     obtain⟨⟨d1,d2⟩,⟨e1,e2⟩,⟨t1,t2⟩⟩:=HD.out;simp only[decide_eq_true_eq,decide_eq_false_iff_not] at d1 d2 e1 e2 t1 t2;exact HEnd.out _ hbb HM.out (by rw[HF.out];omega)
    ·have HD:=hid (⟨⟨d1,d2⟩,⟨e1,e2⟩,⟨t1,t2⟩⟩:(_/\_)/\(_/\_)/\(_/\_))
     gi_wp2
     all_goals first|exact(zzU ‹_›).elim|skip
     obtain⟨⟨d1,d2⟩,⟨e1,e2⟩,⟨t1,t2⟩⟩:=HD.out;simp only[decide_eq_true_eq,decide_eq_false_iff_not] at d1 d2 e1 e2 t1 t2;exact HEnd.out _ hbb HM.out (by rw[HF.out];omega)
   ·gi_wp2
    all_goals first|exact(zzU ‹_›).elim|skip
    refine⟨trivial,(CallsIn.inRound lp (callsIn_wide.2 (Y1.out X1 (HW.out.below (hbl.trans (hbb.mono hbl.size)))))).mono ?_⟩;rintro e X2 ⟨rfl,hbn⟩;have hbx:=hbb.trans (hbn.mono hbb.size);clear hbb hbn g0 g1 g2 g3 q0 q1 r1 f1 r2 f2 ic fi;have hbb:=hbx;clear hbx;obtain⟨g0,g1,g2,g3,q0,q1,r1,f1,r2,f2,ic,fi⟩:=KS.out X2 hbb;gi_wp2
    all_goals first|exact(zzU ‹_›).elim|skip
    refine⟨trivial,?_⟩;gi_wp2
    all_goals first|exact(zzU ‹_›).elim|skip
    refine⟨trivial,(CallsIn.inRound lp (callsIn_wide.2 (Y2.out X2 (HW.out.below (hbl.trans (hbb.mono hbl.size)))))).mono ?_⟩;rintro e X3 ⟨rfl,hbn⟩;have hbx:=hbb.trans (hbn.mono hbb.size);clear hbb hbn g0 g1 g2 g3 q0 q1 r1 f1 r2 f2 ic fi;have hbb:=hbx;clear hbx;obtain⟨g0,g1,g2,g3,q0,q1,r1,f1,r2,f2,ic,fi⟩:=KS.out X3 hbb;gi_wp2
    all_goals first|exact(zzU ‹_›).elim|skip
    refine⟨trivial,(CallsIn.inRound lp (callsIn_wide.2 (Y1.out X3 (HW.out.below (hbl.trans (hbb.mono hbl.size)))))).mono ?_⟩;rintro e X4 ⟨rfl,hbn⟩;have hbx:=hbb.trans (hbn.mono hbb.size);clear hbb hbn g0 g1 g2 g3 q0 q1 r1 f1 r2 f2 ic fi;have hbb:=hbx;clear hbx;obtain⟨g0,g1,g2,g3,q0,q1,r1,f1,r2,f2,ic,fi⟩:=KS.out X4 hbb;gi_wp2
    all_goals first|exact(zzU ‹_›).elim|skip
    refine⟨trivial,(CallsIn.inRound lp (callsIn_wide.2 (T1.out X4 (HW.out.below (hbl.trans (hbb.mono hbl.size)))))).mono ?_⟩;rintro e X5 ⟨rfl,hbn⟩;have hbx:=hbb.trans (hbn.mono hbb.size);clear hbb hbn g0 g1 g2 g3 q0 q1 r1 f1 r2 f2 ic fi;have hbb:=hbx;clear hbx;obtain⟨g0,g1,g2,g3,q0,q1,r1,f1,r2,f2,ic,fi⟩:=KS.out X5 hbb;rcases(show(decide (0<t)=true/\decide (t<0)=false)\/(decide (0<t)=false/\decide (t<0)=true)\/(decide (0<t)=false/\decide (t<0)=false) by simp only[decide_eq_true_eq,decide_eq_false_iff_not];omega) with⟨t1,t2⟩|⟨t1,t2⟩|⟨t1,t2⟩
    ·have HD:=hid (⟨⟨d1,d2⟩,⟨e1,e2⟩,⟨t1,t2⟩⟩:(_/\_)/\(_/\_)/\(_/\_))
     gi_wp2
     all_goals first|exact(zzU ‹_›).elim|skip
     obtain⟨⟨d1,d2⟩,⟨e1,e2⟩,⟨t1,t2⟩⟩:=HD.out;simp only[decide_eq_true_eq,decide_eq_false_iff_not] at d1 d2 e1 e2 t1 t2;exact HEnd.out _ hbb HM.out (by rw[HF.out];omega)
    ·have HD:=hid (⟨⟨d1,d2⟩,⟨e1,e2⟩,⟨t1,t2⟩⟩:(_/\_)/\(_/\_)/\(_/\_))
     gi_wp2
     all_goals first|exact(zzU ‹_›).elim|skip
     obtain⟨⟨d1,d2⟩,⟨e1,e2⟩,⟨t1,t2⟩⟩:=HD.out;simp only[decide_eq_true_eq,decide_eq_false_iff_not] at d1 d2 e1 e2 t1 t2;exact HFlip.out _ hbb HM.out (by rw[HF.out];omega)
    ·have HD:=hid (⟨⟨d1,d2⟩,⟨e1,e2⟩,⟨t1,t2⟩⟩:(_/\_)/\(_/\_)/\(_/\_))
     gi_wp2
     all_goals first|exact(zzU ‹_›).elim|skip
     obtain⟨⟨d1,d2⟩,⟨e1,e2⟩,⟨t1,t2⟩⟩:=HD.out;simp only[decide_eq_true_eq,decide_eq_false_iff_not] at d1 d2 e1 e2 t1 t2;exact HEnd.out _ hbb HM.out (by rw[HF.out];omega)
 case done=>
  rintro D W hD ⟨hS,hP⟩ hK;have ic:=hS.ic;have r1:=hS.r1;have f1:=hS.f1;have r2:=hS.r2;have f2:=hS.f2;obtain⟨z,hz⟩:=zzX (insI l q n);rw[<-hz] at ic;have HX:=hid (⟨hS.bel,hK,hP⟩:qL w W/\W.heap[D]? =some (.deferred (some []))/\∀i,i<n->¬onS l q i);have HZ:=hid hz;clear hS hP hK hseq hS1 hz Y T M HB2;gi_wp2;obtain⟨hbel,hK,hP⟩:=HX.out;have hK1:=(KeepsOthers.setCell W ⟨w.heap.size+1,0,none⟩ (.int .i64 z)).same D _ hK rfl;have hK':=(KeepsOthers.setCell (W.setCell ⟨w.heap.size+1,0,none⟩ (.int .i64 z)) ⟨w.heap.size+1+1,0,none⟩ (.int .i64 0)).same D _ hK1 rfl;refine⟨by simp,.inl ⟨_,_,rfl,run_takeDeferred hK',?_⟩⟩;have c1:=za9 (u:=.int .i64 z) r1;have c2:(W.setCell ⟨w.heap.size+1,0,none⟩ (.int .i64 z)).cell? ⟨w.heap.size+1+1,0,none⟩=some (I 0):=by rw[zau _ _ _ _ (by omega)];exact r2
  have c3:=za9 (u:=.int .i64 0) c2;have c4:((W.setCell ⟨w.heap.size+1,0,none⟩ (.int .i64 z)).setCell ⟨w.heap.size+1+1,0,none⟩ (.int .i64 0)).cell? ⟨w.heap.size+1,0,none⟩=some (.int .i64 z):=by rw[zau _ _ _ _ (by omega)];exact c1
  have e1:=(zbk hK').cell c4;have e2:=(zbk hK').cell c3;refine⟨.tuple #[.int .i64 z,.int .i64 0],?_,z,rfl,.inr ⟨λk hk=>hP k hk,HZ.out⟩,zby ((hbel.setCell (p:=⟨w.heap.size+1,0,none⟩) (by simp) _).setCell (p:=⟨w.heap.size+1+1,0,none⟩) (by simp;omega) _) (by have:=HS1.out;omega) hK'⟩;simp[results,Tryz.f28,go_sem,e1,e2]
 case stop=>
  rintro D c k W hD ⟨rfl,hbel,r1,r2,hon⟩ hK;have HX:=hid (⟨hbel,hon⟩:qL w W/\∃k,k<n/\onS l q k);clear hbel hon hseq hS1;gi_wp2;refine⟨by simp,.inl ⟨_,_,rfl,run_takeDeferred hK,?_⟩⟩;have e1:=(zbk hK).cell r1;have e2:=(zbk hK).cell r2;obtain⟨k',h1,h2⟩:=HX.out.2;refine⟨.tuple #[.int .i64 0,.int .i64 0],?_,0,rfl,.inl ⟨⟨k',h1,h2⟩,rfl⟩,zby HX.out.1 (by have:=HS1.out;omega) hK⟩;simp[results,Tryz.f28,go_sem,e1,e2]
theorem z0h (p:Option Addr) (cap:Nat) (l:List Pt) (q:Pt) (h3:3<=l.length) (hlen:l.length<=4096) (hz:∀i,szP (cor l i) 36) (hq:szP q 36) (hs:zc9 l) (hm:zc8 l) (w:zA) (hw:Wd w) (hp:RowPts p l w):
 zC zF 28 #[.slice p l.length cap,ptV q] w λe w'=>∃r:Int,e=.returned (.tuple #[.int .i64 r,.int .i64 0])/\(((∃k,k<l.length/\onS l q k)/\r=0)\/((∀k,k<l.length->¬onS l q k)/\r=insI l q l.length))/\zB w.heap.size w w':=
 zs5 p cap l q h3 hlen (hid λW hW hp=>zlc p cap l h3 hlen hz hs hm W hW hp) (hid λW hW=>zll q hq W hW)
  (hid λk W hW=>zub _ _ _ _ 36 (by omega) (by omega) (hz _) (hz _) hq hq W hW) (hid λk W hW=>zme _ _ 36 36 (by omega) (by omega) (by omega) (hz _).2 hq.2 W hW)
  (hid λk W hW=>zj3 _ _ _ 36 (by omega) (by omega) (hz _) (hz _) hq W hW) w (hid hw) (hid hp)
end
section
open Go.RowKit Go.Shelf Lib Str Limb
attribute [local go_sem] Oper.semAt_some
theorem zsc:(Tryz.prog.info? 37).map (λi=>(i.zero,i.size,i.bytes))=some (some (.agg #[St [],St []]),2,32):=by kernel_rfl
theorem zoq (W:zA) (x y:Value) (t:TypeId):∀i u,[x,y][i]? =some u->(W.alloc (.cells #[x,y] t)).cell? ((⟨W.heap.size,0,none⟩:Addr).add i)=some u:=λi u hu=>by
 have A:=zG W (.cells #[x,y] t);have:((⟨W.heap.size,0,none⟩:Addr).add i)=⟨W.heap.size,i,none⟩:=by simp only[Addr.add,Nat.zero_add];split<;>simp_all
 rw[this,zJ A]
 match i,hu with
 |0,hu=>exact hu
 |1,hu=>exact hu
theorem zm4 (x y:List UInt8):∀u∈[St x,St y],u.oneCell'=true:=λu hu=>by
 simp at hu;rcases hu with rfl|rfl<;>rfl
theorem zgy (n:Nat) (W:zA):zC zF 46 #[St (zD n),.string ⟨#[45]⟩] W λe w'=>e=.returned (.bool false)/\w'=W:=by
 have hc:=Tryz.strings_HasPrefix ⟨(zD n).toArray⟩ ⟨#[45]⟩ W;obtain⟨c,r,e,hc1,_⟩:=dec_head n;have hc5:c≠45:=λh=>by subst h;simp at hc1
 have hp:Lib.hasPrefix (zD n) [45]=false:=by rw[e];simp[Lib.hasPrefix,List.isPrefixOf,Ne.symm hc5]
 rw[show(⟨(zD n).toArray⟩:ByteArray).data.toList=zD n from rfl,show(⟨#[45]⟩:ByteArray).data.toList=[45] from rfl,hp] at hc;exact hc
end
section
open Go.RowKit Go.Shelf Lib Str Limb Geo
attribute [local go_sem] Oper.semAt_some
def sqS (l:List Pt) (k:Nat):Rat:=((cor l (k+1)).x-(cor l k).x)*((cor l (k+1)).x-(cor l k).x)+((cor l (k+1)).y-(cor l k).y)*((cor l (k+1)).y-(cor l k).y)
def zeu (l:List Pt):Nat->List Value
 |0=>[]
 |k+1=>zeu l k++[St [49],St (numS (sqS l k))]
theorem zlm (l:List Pt):∀k,(zeu l k).length=2*k
 |0=>rfl
 |k+1=>by simp[zeu,zlm l k];omega
theorem zpe (l:List Pt):∀k i,i<k->(zeu l k)[2*i]? =some (St [49])/\(zeu l k)[2*i+1]? =some (St (numS (sqS l i)))
 |k+1,i,h=>by
  have hl:=zlm l k;by_cases e:i=k
  ·subst e
   unfold zeu;rw[List.getElem?_append_right (by omega),List.getElem?_append_right (by omega),hl];simp
  ·have:=zpe l k i (by omega)
   unfold zeu;rw[List.getElem?_append_left (by omega),List.getElem?_append_left (by omega)];exact this
theorem zye {w:zA} {base:Nat} {t:TypeId} {s:Nat} {v:Value} {n:Nat} {xs:List Value} (h:w.ownsRow base t s v n xs) (hn:0<n):
 ∃g c,v=.slice (some ⟨g,0,none⟩) n c/\base<=g/\∀i u,xs[i]? =some u->w.cell? ⟨g,i,none⟩=some u:=by
 rcases h.2 with⟨_,e⟩|⟨g,cp,cur,e,hg1,hg2,_,_,hcs,htk⟩
 ·omega
 ·refine⟨g,cp,e,hg1,λi u hu=>?_⟩
  rw[zJ hg2,<-Array.getElem?_toList];rw[<-htk,List.getElem?_take] at hu;split at hu
  ·exact hu
  ·cases hu
structure PerS (w:zA) (p:Option Addr) (cap n:Nat) (l:List Pt) (bt j:Nat) (W:zA):Prop where
 bel:qL w W
 bt1:w.heap.size+2<=bt
 r1:W.cell? ⟨w.heap.size,0,none⟩=some (.slice none 0 0)
 f1:W.frozen? ⟨w.heap.size,0,none⟩=false
 r2:W.cell? ⟨w.heap.size+1,0,none⟩=some (I 0)
 f2:W.frozen? ⟨w.heap.size+1,0,none⟩=false
 pts:∀i,i<n->∃b off,p=some ⟨b,off,none⟩/\b<w.heap.size/\W.cell? ⟨b,off+i*2,none⟩=some (St (ptOf (txt l) i).1)/\W.cell? ⟨b,off+i*2+1,none⟩=some (St (ptOf (txt l) i).2)
 cbx:W.cell? ⟨bt+1,0,none⟩=some (.slice p n cap)
 box:∃v,W.cell? ⟨bt,0,none⟩=some v/\W.ownsRow (bt+2) 37 2 v j (zeu l j)
 fr:W.frozen? ⟨bt,0,none⟩=false
theorem PerS.keep {w:zA} {p:Option Addr} {cap n:Nat} {l:List Pt} {bt j:Nat} {W W':zA} (h:PerS w p cap n l bt j W) (hc:CellsKept W W') (hb:zB w.heap.size W W'):PerS w p cap n l bt j W':=
 ⟨h.bel.trans hb,h.bt1,hc.cell h.r1,hc.frozen h.r1 h.f1,hc.cell h.r2,hc.frozen h.r2 h.f2,λi hi=>let ⟨b,off,e,h0,h1,h2⟩:=h.pts i hi;⟨b,off,e,h0,hc.cell h1,hc.cell h2⟩,hc.cell h.cbx,let ⟨v,h1,h2⟩:=h.box;⟨v,hc.cell h1,zcj hc h2⟩,let ⟨_,h1,_⟩:=h.box;hc.frozen h1 h.fr⟩
theorem PerS.ptsAt {w:zA} {p:Option Addr} {cap n:Nat} {l:List Pt} {bt j:Nat} {W:zA} (hn:n=l.length) (h:PerS w p cap n l bt j W):zmh (bt+1) p cap (txt l) W:=
 ⟨by rw[zce,<-hn];exact h.cbx,λi hi=>let ⟨b,off,e,_,h1,h2⟩:=h.pts i (by rw[zce] at hi;omega);⟨b,off,e,h1,h2⟩⟩
theorem yfb {w:zA} {p:Option Addr} {cap n:Nat} {l:List Pt} {bt j:Nat} {W Y Z:zA} {v v':Value} (h:PerS w p cap n l bt j W) (hv:W.cell? ⟨bt,0,none⟩=some v) (hown:W.ownsRow (bt+2) 37 2 v j (zeu l j))
 (hY:qL W Y) (hZ:Y.grownBy Z v.ownBlock) (hz:Z.ownsRow (bt+2) 37 2 v' (j+1) (zeu l (j+1))) (B:Nat):
 KeepsFrom B W (Z.setCell ⟨bt,0,none⟩ v')/\PerS w p cap n l bt (j+1) (Z.setCell ⟨bt,0,none⟩ v'):=by
 have ck:=zac hY;have hS:=h.keep ck (hY.mono h.bel.size);have ho:=zcj ck hown;have hlt:∀q,v.ownBlock=some q->bt+2<=q:=λq e=>(ho.lt q e).1;have hne:∀b,b<bt+2->some b≠v.ownBlock:=λb hb e=>by have:=hlt b e.symm;omega
 have hbt:=h.bt1;have cz:∀{b o:Nat} {x:Value},b<bt+2->Y.cell? ⟨b,o,none⟩=some x->Z.cell? ⟨b,o,none⟩=some x:=λhb hc=>hZ.cell hc (hne _ hb);have hYs:bt<Y.heap.size:=zbe (ck.cell hv);refine⟨?_,?_,hbt,?_,?_,?_,?_,λi hi=>?_,?_,⟨v',?_,?_⟩,?_⟩
 ·refine((za0 hY).from B).trans (((KeepsOthers.of_grownBy hZ ?_).from B).trans ((KeepsOthers.setCell _ _ _).from B))
  intro q o e hq;rcases ho.2 with⟨rfl,_⟩|⟨g,cp,cur,rfl,_,hg,_⟩
  ·simp[Value.ownBlock] at e
  ·simp[Value.ownBlock] at e;subst e;rw[hg] at hq;cases hq;rfl
 ·exact((hS.bel.grown hZ (by have:=zbe hS.cbx;simp at this;omega) (λq e=>by have:=hlt q e;omega))).setCell (by simp;omega) _
 ·rw[zau _ _ _ _ (by omega)];exact cz (by omega) hS.r1
 ·rw[World.frozen?_setCell,World.frozen?_of_block (a:=⟨w.heap.size,0,none⟩) (hZ.block w.heap.size (by omega) (hne _ (by omega)))];exact hS.f1
 ·rw[zau _ _ _ _ (by omega)];exact cz (by omega) hS.r2
 ·rw[World.frozen?_setCell,World.frozen?_of_block (a:=⟨w.heap.size+1,0,none⟩) (hZ.block (w.heap.size+1) (by omega) (hne _ (by omega)))];exact hS.f2
 ·obtain⟨b,off,e,h0,h1,h2⟩:=hS.pts i hi
  exact⟨b,off,e,h0,by rw[zau _ _ _ _ (by omega)];exact cz (by omega) h1,by rw[zau _ _ _ _ (by omega)];exact cz (by omega) h2⟩
 ·rw[zau _ _ _ _ (by omega)];exact cz (by omega) hS.cbx
 ·exact za9 (cz (by omega) (ck.cell hv))
 ·exact ownsRow_setCell_below hz (by simp) _
 ·rw[World.frozen?_setCell,World.frozen?_of_block (a:=⟨bt,0,none⟩) (hZ.block bt hYs (hne bt (by omega)))];exact hS.fr
structure MadeC (w:zA) (Ψ :Option Addr->Nat->Nat->Int->zA->Prop):Prop where
 keep:∀p m c k W W',Ψ p m c k W->(∀b o x,w.heap.size+2<=b->W.cell? ⟨b,o,none⟩=some x->W'.cell? ⟨b,o,none⟩=some x)-> Ψ p m c k W'
theorem yfc (p:Option Addr) (cap:Nat) (l:List Pt) (h3:3<=l.length) (hlen:l.length<=4096) (Ψ :Option Addr->Nat->Nat->Int->zA->Prop)
 (w:zA) (HW:Hid (∀W,qL w W->Wd W/\Pw W)) (HP:Hid (RowPts p l w)) (HM:Hid (MadeC w Ψ))
 (C:Hid (∀W:zA,Wd W->RowPts p l W->qJ 30 #[.slice p l.length cap] W (.int .i64 0)))
 (SX:Hid (∀k,k<l.length->qK 32 #[St (numS (cor l (k+1)).x),St (numS (cor l k).x)] (St (numS ((cor l (k+1)).x-(cor l k).x)))))
 (SY:Hid (∀k,k<l.length->qK 32 #[St (numS (cor l (k+1)).y),St (numS (cor l k).y)] (St (numS ((cor l (k+1)).y-(cor l k).y)))))
 (MX:Hid (∀k,k<l.length->qK 33 #[St (numS ((cor l (k+1)).x-(cor l k).x)),St (numS ((cor l (k+1)).x-(cor l k).x))] (St (numS (((cor l (k+1)).x-(cor l k).x)*((cor l (k+1)).x-(cor l k).x))))))
 (MY:Hid (∀k,k<l.length->qK 33 #[St (numS ((cor l (k+1)).y-(cor l k).y)),St (numS ((cor l (k+1)).y-(cor l k).y))] (St (numS (((cor l (k+1)).y-(cor l k).y)*((cor l (k+1)).y-(cor l k).y))))))
 (AD:Hid (∀k,k<l.length->qK 10 #[St (numS (((cor l (k+1)).x-(cor l k).x)*((cor l (k+1)).x-(cor l k).x))),St (numS (((cor l (k+1)).y-(cor l k).y)*((cor l (k+1)).y-(cor l k).y)))] (.tuple #[St (numS (sqS l k)),.int .i64 0])))
 (MK:Hid (∀g gc (W:zA),qL w W->w.heap.size+2<=W.heap.size->w.heap.size<=g->(∀i,i<l.length->W.cell? ⟨g,2*i,none⟩=some (.string ⟨#[49]⟩)/\W.cell? ⟨g,2*i+1,none⟩=some (St (numS (sqS l i))))->
   zC zF 11 #[.slice (some ⟨g,0,none⟩) l.length gc] W λe w'=>∃q m c k,e=.returned (.tuple #[.slice q m c,.int .i64 k])/\zB W.heap.size W w'/\ Ψ q m c k w')):
 zC zF 7 #[.slice p l.length cap] w λe w'=>∃q m c k,e=.returned (.tuple #[.slice q m c,.int .i64 k])/\zB w.heap.size w w'/\ Ψ q m c k w':=by
 obtain⟨i0,hi,hz0,hz1,hz2⟩:=info_parts zsc;refine(callsIn_wide (n:=3)).1 ?_;refine callsIn_of_wp_marks Tryz.func7 rfl trivial ?_ rfl;simp only[Tryz.ntmps7,List.size_toArray,List.length_cons,List.length_nil,Nat.reduceAdd,Nat.reduceSub,Array.replicate_succ,Array.replicate_zero,List.push_toArray,List.append_toArray,List.nil_append,List.cons_append];obtain⟨n,hn⟩:=zzX l.length;obtain⟨w0,hw0⟩:=zzX ((w.alloc (.cells #[.slice none 0 0] 26)).alloc (.cells #[.int .i64 0] 27));have b0:qL w w0:=by rw[hw0];exact((zM _ w).alloc (zN _) _).alloc (by simp) _
 have hCk:=C.out w0 (HW.out _ b0).1 (λi hi=>let ⟨b,off,e,h1,h2⟩:=HP.out i hi;⟨b,off,e,zai b0 h1,zai b0 h2⟩);rw[<-hn] at h3 hlen hCk⊢;have hr0:w0.cell? ⟨w.heap.size,0,none⟩=some (.slice none 0 0)/\w0.frozen? ⟨w.heap.size,0,none⟩=false/\w0.cell? ⟨w.heap.size+1,0,none⟩=some (I 0)/\w0.frozen? ⟨w.heap.size+1,0,none⟩=false:=by
  have b1:=(Boxed.new w 26 (.slice none 0 0)).alloc (.cells #[.int .i64 0] 27);have b2:=Boxed.new (w.alloc (.cells #[.slice none 0 0] 26)) 27 (.int .i64 0);rw[zH] at b2;rw[hw0];exact⟨b1.cell,b1.frozen,b2.cell,b2.frozen⟩
 have HB0:=hid (⟨b0,hr0⟩:_/\_);have HW0:=hid hw0;have HN:=hid hn;clear hn hr0 b0 hw0;have HCk:=hid hCk;clear hCk C;gi_wp2;rw[<-show w0=(w.alloc (.cells #[.slice none 0 0] 26)).alloc (.cells #[.int .i64 0] 27) from HW0.out];refine⟨trivial,(callsIn_wide.2 HCk.out).mono ?_⟩;rintro e w1 ⟨rfl,hb1⟩;have HB1:=hid (⟨HB0.out.1.trans (hb1.mono HB0.out.1.size),zai hb1 HB0.out.2.1,(zac hb1).frozen HB0.out.2.1 HB0.out.2.2.1,zai hb1 HB0.out.2.2.2.1,(zac hb1).frozen HB0.out.2.2.2.1 HB0.out.2.2.2.2⟩:_/\_/\_/\_/\_);clear hb1 HCk HB0 HW0;gi_wp2_with (refine⟨trivial,?_⟩;gi_at_call 31;refine(callsIn_wide.2 (zf8 _ _ _ _ _ rfl)).mono ?_;rintro e w' ⟨rfl,rfl⟩);obtain⟨W1,hW1⟩:=zzX ((w1.alloc (.cells #[.slice none 0 0] 25)).alloc (.cells #[.slice p n cap] 22));rw[<-hW1];have hsz:w.heap.size+2<=w1.heap.size:=by have:=zbe HB1.out.2.2.2.1;simp at this;omega
 have hS1:PerS w p cap n l w1.heap.size 0 W1:=by
  obtain⟨hb,g1,g2,g3,g4⟩:=HB1.out;have b1:=(Boxed.new w1 25 (.slice none 0 0)).alloc (.cells #[.slice p n cap] 22);have b2:=Boxed.new (w1.alloc (.cells #[.slice none 0 0] 25)) 22 (.slice p n cap);rw[zH] at b2;have hw:qL w1 ((w1.alloc (.cells #[.slice none 0 0] 25)).alloc (.cells #[.slice p n cap] 22)):=((zM _ w1).alloc (zN _) _).alloc (by simp) _;have ck:=zac hw;rw[hW1];refine⟨hb.trans (hw.mono hb.size),hsz,ck.cell g1,ck.frozen g1 g2,ck.cell g3,ck.frozen g3 g4,λi hi=>?_,b2.cell,⟨_,b1.cell,World.ownsRow_nil _ _ _ _⟩,b1.frozen⟩;obtain⟨b,off,e,h1,h2⟩:=HP.out i (by rw[<-HN.out];exact hi);have hlt:=zbe h1;exact⟨b,off,e,hlt,zai hw (by rw[hb.cell (p:=⟨b,off+i*2,none⟩) hlt];exact h1),zai hw (by rw[hb.cell (p:=⟨b,off+i*2+1,none⟩) hlt];exact h2)⟩
 have hsz1:W1.heap.size=w1.heap.size+2:=by rw[hW1];simp
 clear hW1;have HS1:=hid hS1.bel.size;have HZ:=hid (⟨hsz1,hsz⟩:_/\_);clear hsz1 hsz;have hseq:=zgo 2 (by omega) (w1.heap.size+1) (txt l) (by rw[zce,<-HN.out];omega) (λW=>∃j,PerS w p cap n l w1.heap.size j W) p cap (λW ⟨j,h⟩=>h.ptsAt HN.out);rw[zce,<-HN.out] at hseq
 refine z9z (n:=3) (B:=w.heap.size) rfl (by omega) rfl trivial (enters_of Tryz.func99 (by kernel_rfl) rfl) hseq (λk args h=>by subst h;rfl) hS1.bel.size
  (λj W=>PerS w p cap n l w1.heap.size j W) (λc _ W=>False)
  (λj X Y h hc hb=>h.keep hc hb) (λc j X Y h hc hb=>h) (λj W h=>⟨j,h⟩) hS1
  (λj _ a' W=>∃bs,a'={tmps:= #[Value.slice p n cap,undef,.pointer (some ⟨w.heap.size,0,none⟩),.pointer (some ⟨w.heap.size+1,0,none⟩),.pointer (some ⟨w1.heap.size,0,none⟩),undef,.pointer (some ⟨bs,0,none⟩),undef,undef,undef,undef,Value.slice p n cap,.int .i64 0,.bool false,Value.slice p n cap,Value.func (Fn.func 99) #[] #[.pointer (some ⟨w1.heap.size+1,0,none⟩)],I j,segV (cor l j) (cor l (j+1)),undef,undef,undef,undef,undef,undef,undef,undef,undef,undef,undef,undef,undef,undef,undef,undef,undef,undef,undef,undef,undef,undef,undef,undef,undef,undef,undef,undef,undef,undef,undef,undef,undef,undef,undef,undef],defers:=[]}/\SegB bs (cor l j) (cor l (j+1)) W)
  (λj _ a' X Y h hc hb=>let ⟨bs,e,h2⟩:=h;⟨bs,e,hc _ _ _ _ h2⟩) ?assign ?body ?done ?stop
 case assign=>
  rintro lp j args W K hlp hrec hS hj rfl hK;rw[zgr l j (by rw[<-HN.out];exact hj)];have HK:=hid hK;clear hK;unfold segV;gi_wp2;have hb1:qL W (W.alloc (.cells #[St (numS (cor l j).x),St (numS (cor l j).y),St (numS (cor l (j+1)).x),St (numS (cor l (j+1)).y)] 64)):=(zM _ W).alloc (zN _) _;exact HK.out _ _ ((za0 hb1).from _) (hS.keep (zac hb1) (hb1.mono hS.bel.size)) ⟨W.heap.size,rfl,zG W _⟩
 case body=>
  rintro lp j args a' W hlp ⟨r',hr'⟩ hS hj rfl ⟨bs,rfl,hseg⟩;have hjl:j<l.length:=by rw[<-HN.out];exact hj
  have sx:=SX.out j hjl;have sy:=SY.out j hjl;have mx:=MX.out j hjl;have my:=MY.out j hjl;have ad:=AD.out j hjl;obtain⟨v,hv,hown⟩:=hS.box;obtain⟨vq,vm,vc,rfl⟩:∃q m c,v=.slice q m c:=by
   rcases hown.2 with⟨e,_⟩|⟨g,cp,cur,e,_⟩<;>exact⟨_,_,_,e⟩
  have H0:=hid hS;have HT:=hid (show zeu l (j+1)=zeu l j++[St [49],St (numS (sqS l j))] from rfl);have HO:=hid hown;obtain⟨u1,hu1⟩:=zzX (numS ((cor l (j+1)).x-(cor l j).x));obtain⟨u2,hu2⟩:=zzX (numS ((cor l (j+1)).y-(cor l j).y));obtain⟨u3,hu3⟩:=zzX (numS (((cor l (j+1)).x-(cor l j).x)*((cor l (j+1)).x-(cor l j).x)));obtain⟨u4,hu4⟩:=zzX (numS (((cor l (j+1)).y-(cor l j).y)*((cor l (j+1)).y-(cor l j).y)));obtain⟨u5,hu5⟩:=zzX (numS (sqS l j));rw[<-hu1] at sx mx;rw[<-hu2] at sy my;rw[<-hu3] at mx ad;rw[<-hu4] at my ad;rw[<-hu5] at ad HT;have Sx:=hid sx;have Sy:=hid sy;have Mx:=hid mx;have My:=hid my;have Ad:=hid ad;obtain⟨q1,q2,q3,q4⟩:=hseg.at
  clear hseg sx sy mx my ad;unfold segV;generalize numS (cor l j).x=x1 at*
  generalize numS (cor l j).y=y1 at*
  generalize numS (cor l (j+1)).x=x2 at*
  generalize numS (cor l (j+1)).y=y2 at*
  have hbl:=H0.out.bel;have KS:=hid (λ(w':zA) (hb:qL W w')=>(⟨zai hb q1,zai hb q2,zai hb q3,zai hb q4⟩:w'.cell? ⟨bs,0,none⟩=some (St x1)/\w'.cell? ⟨bs,1,none⟩=some (St y1)/\w'.cell? ⟨bs,2,none⟩=some (St x2)/\w'.cell? ⟨bs,3,none⟩=some (St y2)));have HV:=hid hv;have WD:∀W',qL W W'->Wd W':=λW' h=>(HW.out _ (hbl.trans (h.mono hbl.size))).1;have HWD:=hid WD;clear q1 q2 q3 q4 hv hown hu1 hu2 hu3 hu4 hu5 hseq hS1 hr' hS SX SY MX MY AD MK WD;gi_wp2;refine zjk (λ(b:Unit) i=>([.pointer (some ⟨bs,2,none⟩),.pointer (some ⟨bs,2,none⟩),St x2,.pointer (some ⟨bs,0,none⟩),.pointer (some ⟨bs,0,none⟩),St x1,St u1,.pointer (some ⟨bs,2,none⟩),.pointer (some ⟨bs,3,none⟩),St y2,.pointer (some ⟨bs,0,none⟩),.pointer (some ⟨bs,1,none⟩),St y1,St u2,St u1,St u2]:List Value).getD i undef) (λ_ _ X=>qL W X) (by kernel_rfl) (by kernel_rfl) (by kernel_rfl) () ((zM _ W).drew) λb=>?_
  refine qB (.pointer (some ⟨bs,2,none⟩)) (λf W' h=>h) ?_;refine qB (.pointer (some ⟨bs,2,none⟩)) (λf W' h=>h) ?_;simp only[zzQ];refine qB (St x2) (λf W' h=>h) ?_ (hy:=λf W' hf h=>by obtain⟨q0,q1,q2,q3⟩:=KS.out _ h;go_simp);refine qB (.pointer (some ⟨bs,0,none⟩)) (λf W' h=>h) ?_;refine qB (.pointer (some ⟨bs,0,none⟩)) (λf W' h=>h) ?_;simp only[zzQ];refine qB (St x1) (λf W' h=>h) ?_ (hy:=λf W' hf h=>by obtain⟨q0,q1,q2,q3⟩:=KS.out _ h;go_simp);simp only[zzQ]
  refine zbv (St u1) (by rfl) (by rfl) (λf W' hf h C' hC'=>by
   go_simp;refine zzM (Sx.out _ (HWD.out _ h)) λw' hb=>?_;exact⟨_,rfl,hC' _ (h.trans (hb.mono h.size))⟩) ?_
  refine qB (.pointer (some ⟨bs,2,none⟩)) (λf W' h=>h) ?_;refine qB (.pointer (some ⟨bs,3,none⟩)) (λf W' h=>h) ?_;simp only[zzQ];refine qB (St y2) (λf W' h=>h) ?_ (hy:=λf W' hf h=>by obtain⟨q0,q1,q2,q3⟩:=KS.out _ h;go_simp);refine qB (.pointer (some ⟨bs,0,none⟩)) (λf W' h=>h) ?_;refine qB (.pointer (some ⟨bs,1,none⟩)) (λf W' h=>h) ?_;simp only[zzQ];refine qB (St y1) (λf W' h=>h) ?_ (hy:=λf W' hf h=>by obtain⟨q0,q1,q2,q3⟩:=KS.out _ h;go_simp);simp only[zzQ]
  refine zbv (St u2) (by rfl) (by rfl) (λf W' hf h C' hC'=>by
   go_simp;refine zzM (Sy.out _ (HWD.out _ h)) λw' hb=>?_;exact⟨_,rfl,hC' _ (h.trans (hb.mono h.size))⟩) ?_
  refine qB (St u1) (λf W' h=>h) ?_;refine qB (St u2) (λf W' h=>h) ?_;simp only[zzQ];refine ze1 λf X hf hX=>?_;gi_wp2;refine⟨trivial,(CallsIn.inRound lp (callsIn_wide.2 (Mx.out X (HWD.out _ hX)))).mono ?_⟩;rintro e X2 ⟨rfl,hbn⟩;have hX2:=hX.trans (hbn.mono hX.size);clear hX hbn;gi_wp2;refine⟨trivial,(CallsIn.inRound lp (callsIn_wide.2 (My.out X2 (HWD.out _ hX2)))).mono ?_⟩;rintro e X3 ⟨rfl,hbn⟩;have hX3:=hX2.trans (hbn.mono hX2.size);clear hX2 hbn;gi_wp2;refine⟨trivial,(CallsIn.inRound lp (callsIn_wide.2 (Ad.out X3 (HWD.out _ hX3)))).mono ?_⟩;rintro e X4 ⟨rfl,hbn⟩;have hX4:=hX3.trans (hbn.mono hX3.size);clear hX3 hbn;have ck:=zac hX4;have g0:=ck.cell HV.out;have g1:=ck.frozen HV.out H0.out.fr;have HO4:=hid (zcj ck HO.out);clear ck;have hbt:=H0.out.bt1;have hlj:=hj;have hX5:qL W (X4.alloc (.cells #[St [49],St u5] 37)):=hX4.alloc hX4.size _;have hbs:w1.heap.size+2<=(X4.alloc (.cells #[St [49],St u5] 37)).heap.size:=by
   have:=zbe H0.out.cbx;have h2:=hX4.size;simp at this;simp;omega
  gi_wp2_with (gi_at_builtin;refine wpListIn_append_own _ rfl _ _ 25 rfl (w1.heap.size+2) 37 i0 (.agg #[St [],St []]) 2 32 Tryz.underlying25 hi hz0 hz1 hz2 rfl (by decide) (.slice vq vm vc) j (zeu l j) rfl (HO4.out.alloc _) ⟨X4.heap.size,0,none⟩ 1 1 [St [49],St u5] rfl rfl (zoq _ _ _ _) (zm4 _ _) (by unfold maxLen;omega) (by omega) hbs ?_);intro v' w' hown' hgrow _;have hst:=yfb H0.out HV.out HO.out hX5 hgrow (by rw[HT.out];exact hown') W1.heap.size;have ck:=zac hX5;have hlt:some w1.heap.size≠(Value.slice vq vm vc).ownBlock:=λe=>by have:=((zcj ck HO.out).lt _ e.symm).1;omega
  have hcell:=hgrow.cell (ck.cell HV.out) hlt;have hfr:w'.frozen? ⟨w1.heap.size,0,none⟩=false:=by
   rw[World.frozen?_of_block (a:=⟨w1.heap.size,0,none⟩) (hgrow.block _ (zbe (ck.cell HV.out)) hlt)];exact ck.frozen HV.out H0.out.fr
  obtain⟨q,m,c,rfl⟩:∃q m c,v'=.slice q m c:=by
   rcases hown'.2 with⟨e,_⟩|⟨g,cp,cur,e,_⟩<;>exact⟨_,_,_,e⟩
  have HST:=hid hst;clear hst hown' hgrow ck hlt hX5 hbs hX4 g0 g1;gi_wp2;exact HST.out
 case done=>
  rintro D W hD hS hK;obtain⟨v,hv,hown⟩:=hS.box;obtain⟨g,gc,rfl,hg,hcs⟩:=zye hown (by omega);have hs0:=hS.bel.size
  have hmk:=MK.out g gc W hS.bel (by have:=zbe hS.r2;simp at this;omega) (by have:=hS.bt1;omega) (λi hi=>by
   have:=zpe l n i (by rw[HN.out];exact hi);exact⟨hcs _ _ this.1,hcs _ _ this.2⟩)
  rw[<-HN.out] at hmk;have HMK:=hid hmk;have HX:=hid (⟨hS.bel,hK,hS.r1,hS.f1,hS.r2,hS.f2⟩:qL w W/\W.heap[D]? =some (.deferred (some []))/\_/\_/\_/\_);clear hS hK hown hcs hmk hseq hS1 SX SY MX MY AD MK hs0;gi_wp2;refine⟨trivial,(callsIn_wide.2 HMK.out).mono ?_⟩;rintro e W2 ⟨q,m,c,k,rfl,hb2,hΨ⟩;have hbl2:=HX.out.1.trans (hb2.mono HX.out.1.size);have ck:=zac hb2;have HX2:=hid (⟨hbl2,(hb2.block _ (Array.getElem?_eq_some_iff.1 HX.out.2.1).1).trans HX.out.2.1,hΨ⟩:qL w W2/\W2.heap[D]? =some (.deferred (some []))/\ Ψ q m c k W2);obtain⟨_,_,r1,f1,r2,f2⟩:=HX.out;have r1:=ck.cell r1;have f1:=(ck.frozen HX.out.2.2.1 f1);have r2:=ck.cell r2;have f2:=(ck.frozen HX.out.2.2.2.2.1 f2);clear hb2 hbl2 HX HMK hΨ ck hv;gi_wp2;obtain⟨hbel,hK,hΨ⟩:=HX2.out;have hK1:=(KeepsOthers.setCell W2 ⟨w.heap.size,0,none⟩ (.slice q m c)).same D _ hK rfl;have hK':=(KeepsOthers.setCell (W2.setCell ⟨w.heap.size,0,none⟩ (.slice q m c)) ⟨w.heap.size+1,0,none⟩ (.int .i64 k)).same D _ hK1 rfl;refine⟨by simp,.inl ⟨_,_,rfl,run_takeDeferred hK',?_⟩⟩;have c1:=za9 (u:=.slice q m c) r1;have c2:(W2.setCell ⟨w.heap.size,0,none⟩ (.slice q m c)).cell? ⟨w.heap.size+1,0,none⟩=some (I 0):=by rw[zau _ _ _ _ (by omega)];exact r2
  have c3:=za9 (u:=.int .i64 k) c2;have c4:((W2.setCell ⟨w.heap.size,0,none⟩ (.slice q m c)).setCell ⟨w.heap.size+1,0,none⟩ (.int .i64 k)).cell? ⟨w.heap.size,0,none⟩=some (.slice q m c):=by rw[zau _ _ _ _ (by omega)];exact c1
  have e1:=(zbk hK').cell c4;have e2:=(zbk hK').cell c3;refine⟨.tuple #[.slice q m c,.int .i64 k],?_,q,m,c,k,rfl,zby ((hbel.setCell (p:=⟨w.heap.size,0,none⟩) (by simp) _).setCell (p:=⟨w.heap.size+1,0,none⟩) (by simp) _) (by have:=HS1.out;omega) hK',HM.out.keep _ _ _ _ _ _ hΨ λb o x hb hc=>(zbk hK').cell (by rw[zau _ _ _ _ (by omega),zau _ _ _ _ (by omega)];exact hc)⟩;simp[results,Tryz.f7,go_sem,e1,e2]
 case stop=>
  rintro D c j W hD h hK;exact h.elim
end
section
open Go.RowKit Go.Shelf Lib Str Limb
attribute [local go_sem] Oper.semAt_some
def zbj:List (List UInt8×List UInt8)->List Value
 |[]=>[]
 |c::l=>St c.1::St c.2::zbj l
theorem zn8:∀l,(zbj l).length=l.length*2
 |[]=>rfl
 |c::l=>by simp[zbj,zn8 l];omega
theorem zjb:∀l r,zbj (l++r)=zbj l++zbj r
 |[],_=>rfl
 |c::l,r=>by simp[zbj,zjb l r]
theorem zpb:∀(l:List (List UInt8×List UInt8)) (i:Nat) (c:List UInt8×List UInt8),l[i]? =some c->(zbj l)[i*2]? =some (St c.1)/\(zbj l)[i*2+1]? =some (St c.2)
 |c::l,0,d,h=>by simp at h;subst h;exact⟨rfl,rfl⟩
 |c::l,i+1,d,h=>by
  have:=zpb l i d (by simpa using h);rw[show(i+1)*2=i*2+1+1 by omega];exact this
structure GatL (gb:Nat) (l:List (List UInt8×List UInt8)) (W:zA):Prop where
 cls:∃v,W.cell? ⟨gb,0,none⟩=some v/\W.ownsRow (gb+1) 87 2 v l.length (zbj l)
 fr:W.frozen? ⟨gb,0,none⟩=false
theorem GatL.keep {gb:Nat} {l:List (List UInt8×List UInt8)} {W W':zA} (h:GatL gb l W) (hc:CellsKept W W'):GatL gb l W':=
 let ⟨v,h1,h2⟩:=h.cls
 ⟨⟨v,hc.cell h1,zcj hc h2⟩,hc.frozen h1 h.fr⟩
def RowCl (p:Option Addr) (l:List (List UInt8×List UInt8)) (W:zA):Prop:=∀i c,l[i]? =some c->∃g,p=some ⟨g,0,none⟩/\W.cell? ⟨g,i*2,none⟩=some (St c.1)/\W.cell? ⟨g,i*2+1,none⟩=some (St c.2)
theorem RowCl.keep {p:Option Addr} {l:List (List UInt8×List UInt8)} {W W':zA} (h:RowCl p l W) (hc:CellsKept W W'):RowCl p l W':=λi c hi=>let ⟨g,e,h1,h2⟩:=h i c hi;⟨g,e,hc.cell h1,hc.cell h2⟩
theorem GatL.row {gb:Nat} {l:List (List UInt8×List UInt8)} {W:zA} (h:GatL gb l W):∃p cap,W.cell? ⟨gb,0,none⟩=some (.slice p l.length cap)/\W.ownsRow (gb+1) 87 2 (.slice p l.length cap) l.length (zbj l)/\RowCl p l W:=by
 obtain⟨v,h1,h2⟩:=h.cls;rcases Nat.eq_zero_or_pos l.length with e|e
 ·rcases h2.2 with⟨rfl,e1⟩|⟨g,cp,cur,rfl,_⟩
  ·refine⟨none,0,by rw[e];exact h1,by rw[e] at h2⊢;exact h2,λi c hi=>?_⟩
   rw[List.length_eq_zero_iff.1 e] at hi;simp at hi
  ·refine⟨_,cp,h1,h2,λi c hi=>?_⟩
   rw[List.length_eq_zero_iff.1 e] at hi;simp at hi
 ·obtain⟨g,c,rfl, -,hx⟩:=zye h2 e
  refine⟨_,c,h1,h2,λi d hi=>⟨g,rfl,?_,?_⟩⟩
  ·exact hx _ _ (zpb l i d hi).1
  ·exact hx _ _ (zpb l i d hi).2
structure AdnS (W:zA) (x xr:List UInt8) (l:List (List UInt8×List UInt8)) (n:Nat) (v0:Value) (gb:Nat) (b:Nat×Value) (f:Nat->Bool) (X:zA):Prop where
 pre:f 11=false->qL W X
 new:f 11=false->f 10=true->X.cell? ⟨b.1,0,none⟩=some (St x)/\X.cell? ⟨b.1,1,none⟩=some (St xr)
 post:f 11=true->∃Y Z,qL W Y/\Y.grownBy Z v0.ownBlock/\Z.ownsRow (gb+1) 87 2 b.2 (n+1) (zbj l++[St x,St xr])/\X=if f 14=true then Z.setCell ⟨gb,0,none⟩ b.2 else Z
theorem AdnS.congr {W:zA} {x xr:List UInt8} {l:List (List UInt8×List UInt8)} {n:Nat} {v0:Value} {gb:Nat} {b:Nat×Value} {f g:Nat->Bool} {X:zA} (h:AdnS W x xr l n v0 gb b f X) (e10:g 10=f 10) (e11:g 11=f 11) (e14:g 14=f 14):AdnS W x xr l n v0 gb b g X:=
 ⟨by rw[e11];exact h.pre,by rw[e10,e11];exact h.new,by rw[e11,e14];exact h.post⟩
theorem zot (gb:Nat) (l:List (List UInt8×List UInt8)) (x xr:List UInt8) (hl:l.length<=5000)
 (R:Hid (∀(i:Nat) (c:List UInt8×List UInt8),l[i]? =some c->∃k,qK 114 #[St xr,St c.2] (.tuple #[.string k,.bool false,.int .i64 0])))
 (w:zA) (HW:Hid (Wd w)) (HG:Hid (GatL gb l w)):
 zC zF 48 #[.pointer (some ⟨gb,0,none⟩),.agg #[St x,St xr]] w λe w'=>e=.returned (.int .i64 0)/\zB gb w w'/\GatL gb (l++[(x,xr)]) w':=by
 obtain⟨i0,hi,hz0,hz1,hz2⟩:=info_parts zx5;obtain⟨p,cap,g0,o0,r0⟩:=HG.out.row;have hlt:=zbe g0;obtain⟨W1,hW1⟩:=zzX (w.alloc (.cells #[St x,St xr] 37));have hb1:qL w W1:=by rw[hW1];exact(zM _ w).alloc (zN _) _
 have A1:W1.heap[w.heap.size]? =some (.cells #[St x,St xr] 37 (0,0)):=by rw[hW1];exact zG w _
 have c0:=zai hb1 g0;rw[hW1] at c0;have HW1:=hid hW1.symm;have HB1:=hid hb1;have HA1:=hid A1;have HR0:=hid r0;have HO:=hid o0;have HG0:=hid g0;obtain⟨n,hn⟩:=zzX l.length;rw[<-hn] at c0 hl HO HG0;have HN:=hid hn;clear hW1 hb1 A1 r0 o0 g0 hn;go_enter Tryz.func48,Tryz.ntmps48;go_wp21;rw[HW1.out];clear c0 HW1;go_loopw [19] (λi wr=>∃(k:Nat),k<=n/\i=.int .i64 (k:Int)/\Hid (qL w wr)/\Hid (wr.heap[w.heap.size]? =some (.cells #[St x,St xr] 37 (0,0))))
  (λi _=>n-(zL i).toNat)
 case atStart=>exact⟨0,Nat.zero_le _,rfl,HB1,HA1⟩
 case round=>
  obtain⟨k,hk,rfl,hB,hT⟩:=hrel;by_cases hlt:k<n
  ·obtain⟨c,hc⟩:∃c,l[k]? =some c:=⟨_,List.getElem?_eq_getElem (by rw[<-HN.out];exact hlt)⟩
   obtain⟨g,rfl,c0,c1⟩:=(HR0.out.keep (zac hB.out)) k c hc;obtain⟨q,hR⟩:=R.out k c hc;obtain⟨y,yr⟩:=c;have HRT:=hid hR;clear hR hc;simp only at c0 c1 HRT;obtain⟨v1,hv⟩:=zzX (wr.alloc (.cells #[St y,St yr] 87));have a1:qL wr v1:=by rw[hv];exact(zM _ wr).alloc (zN _) _
   have A1:v1.heap[wr.heap.size]? =some (.cells #[St y,St yr] 87 (0,0)):=by rw[hv];exact zG wr _
   have T1:=zac a1 _ _ _ _ hT.out;have k1:v1.cell? ⟨wr.heap.size,1,none⟩=some (St yr):=by rw[zJ A1];rfl
   have t1:v1.cell? ⟨w.heap.size,1,none⟩=some (St xr):=by rw[zJ T1];rfl
   have E1:=hid (hB.out.trans (a1.mono hB.out.size));have HT1:=hid T1;rw[hv] at k1 t1;have HV:=hid hv.symm;clear hv a1 A1 T1;go_wp21;rw[HV.out];clear k1 t1 HV c0 c1;refine zzM (HRT.out v1 (HW.out.below E1.out)) λw2 hb2=>?_;have hB2:=hid (E1.out.trans (hb2.mono E1.out.size));have hT2:=hid (zac hb2 _ _ _ _ HT1.out);clear hb2 HRT E1 HT1;go_wp21;go_roundw
   case rel=>exact⟨k+1,by omega,by go_num,hB2,hT2⟩
   case measure=>simp[zL];omega
  ·have hkn:k=n:=by omega
   go_wp21;have hks:∀w':zA,qL wr w'->w'.cell? ⟨gb,0,none⟩=some (.slice p n cap)/\w'.cell? ⟨w.heap.size,0,none⟩=some (St x)/\w'.cell? ⟨w.heap.size,1,none⟩=some (St xr):=λw' hb=>
    ⟨zai hb (zai hB.out HG0.out),zai hb (by rw[zJ hT.out];rfl),zai hb (by rw[zJ hT.out];rfl)⟩
   have KS:=hid hks;have HF:=hid ((zac hB.out).frozen HG0.out HG.out.fr);have HOw:=hid (zcj (zac hB.out) HO.out);have hgs:gb<w.heap.size:=zbe HG0.out;have hws:=hB.out.size;have hne:some gb≠(Value.slice p n cap).ownBlock:=λe=>by have:=(HO.out.lt _ e.symm).1;omega
   have HNE:=hid hne;clear hks hne HR0 HG R hkn hk hlt HW HB1 HA1;refine zc4 (λ(b:Nat×Value) i=>([.pointer (some ⟨gb,0,none⟩),.pointer (some ⟨gb,0,none⟩),.pointer (some ⟨gb,0,none⟩),.pointer (some ⟨gb,0,none⟩),.slice p n cap,.pointer (some ⟨w.heap.size,0,none⟩),St x,.pointer (some ⟨w.heap.size,1,none⟩),St xr,.agg #[St x,St xr],.slice (some ⟨b.1,0,none⟩) 1 1,b.2,.pointer (some ⟨gb,0,none⟩),.pointer (some ⟨gb,0,none⟩)]:List Value).getD i undef) (AdnS wr x xr l n (.slice p n cap) gb) (by kernel_rfl) (by kernel_rfl) (0,.slice none 0 0) ⟨λ_=>(zM _ wr).drew,λ_ h=>(by cases h),λh=>(by cases h)⟩ λb=>?_;refine qB (.pointer (some ⟨gb,0,none⟩)) (λf W' h=>h.congr rfl rfl rfl) ?_;refine qB (.pointer (some ⟨gb,0,none⟩)) (λf W' h=>h.congr rfl rfl rfl) ?_;refine qB (.pointer (some ⟨gb,0,none⟩)) (λf W' h=>h.congr rfl rfl rfl) ?_;simp only[zzQ];refine qB (.pointer (some ⟨gb,0,none⟩)) (λf W' h=>h.congr rfl rfl rfl) ?_;refine qB (.slice p n cap) (λf W' h=>h.congr rfl rfl rfl) ?_ (hy:=λf W' hf h=>by have g:=KS.out _ (h.pre (hf.no (j:=11) hf.self (by kernel_rfl)));obtain⟨q0,q1,q2⟩:=g;go_simp);refine qB (.pointer (some ⟨w.heap.size,0,none⟩)) (λf W' h=>h.congr rfl rfl rfl) ?_;simp only[zzQ];refine qB (St x) (λf W' h=>h.congr rfl rfl rfl) ?_ (hy:=λf W' hf h=>by have g:=KS.out _ (h.pre (hf.no (j:=11) (hf.no (j:=10) (hf.no (j:=9) hf.self (by kernel_rfl)) (by kernel_rfl)) (by kernel_rfl)));obtain⟨q0,q1,q2⟩:=g;go_simp);refine qB (.pointer (some ⟨w.heap.size,1,none⟩)) (λf W' h=>h.congr rfl rfl rfl) ?_;refine qB (St xr) (λf W' h=>h.congr rfl rfl rfl) ?_ (hy:=λf W' hf h=>by have g:=KS.out _ (h.pre (hf.no (j:=11) (hf.no (j:=10) (hf.no (j:=9) hf.self (by kernel_rfl)) (by kernel_rfl)) (by kernel_rfl)));obtain⟨q0,q1,q2⟩:=g;go_simp);simp only[zzQ];refine qB (.agg #[St x,St xr]) (λf W' h=>h.congr rfl rfl rfl) ?_;simp only[zzQ]
   refine zdc (.slice (some ⟨b.1,0,none⟩) 1 1) (by rfl) (by rfl) (λf W' hf h C' hC'=>by
    have h11:=(hf.no (j:=11) hf.self (by kernel_rfl));have hp:=h.pre h11;have ha:qL W' (W'.alloc (.cells #[St x,St xr] 87)):=(zM _ W').alloc (zN _) _;have A:=zG W' (.cells #[St x,St xr] 87);have:=hC' (W'.heap.size,b.2) (W'.alloc (.cells #[St x,St xr] 87)) (λi hi=>?_) ⟨λ_=>hp.trans (ha.mono hp.size),λ_ _=>⟨by rw[zJ A];rfl,by rw[zJ A];rfl⟩,λk=>(by have k':f 11=true:=k;rw[h11] at k';cases k')⟩
    ·go_simp
     exact this
    ·match i,hi with
     |0,_|1,_|2,_|3,_|4,_|5,_|6,_|7,_|8,_|9,_|11,_|12,_|13,_=>rfl
     |10,hi=>rw[hf.self] at hi;cases hi
     |_+14,_=>rfl) ?_
   try simp only[zzQ]
   refine zdc b.2 (by rfl) (by rfl) (λf W' hf h C' hC'=>by
    have h11:=hf.self;have h14:=(hf.no (j:=14) hf.self (by kernel_rfl));have h10:=hf.done 10 (by kernel_rfl);have hp:=h.pre h11;obtain⟨n0,n1⟩:=h.new h11 h10;refine zmb _ W' _ _ 81 rfl (gb+1) 87 i0 (.agg #[St [],St []]) 2 32 Tryz.underlying81 hi hz0 hz1 hz2 rfl (by decide) (.slice p n cap) n (zbj l) rfl (zcj (zac hp) HOw.out) ⟨b.1,0,none⟩ 1 1 [St x,St xr] rfl rfl (λi u hu=>?_) (λu hu=>?_) (by unfold maxLen;omega) (by omega) (by have:=hp.size;omega) (λv' w' hown' hgrow=>?_)
    ·match i,hu with
     |0,hu=>simp at hu;subst hu;exact n0
     |1,hu=>simp at hu;subst hu;exact n1
     |_+2,hu=>simp at hu
    ·simp at hu;rcases hu with rfl|rfl<;>rfl
    ·refine hC' (b.1,v') w' (λi hi=>?_) ⟨λk=>?_,λk=>?_,λ_=>⟨W',w',hp,hgrow,hown',?_⟩⟩
     ·match i,hi with
      |0,_|1,_|2,_|3,_|4,_|5,_|6,_|7,_|8,_|9,_|10,_|12,_|13,_=>rfl
      |11,hi=>rw[hf.self] at hi;cases hi
      |_+14,_=>rfl
     ·cases k
     ·cases k
     ·show w'=if f 14=true then _ else w'
      rw[h14];rfl) ?_
   refine qB (.pointer (some ⟨gb,0,none⟩)) (λf W' h=>h.congr rfl rfl rfl) ?_;refine qB (.pointer (some ⟨gb,0,none⟩)) (λf W' h=>h.congr rfl rfl rfl) ?_;simp only[zzQ]
   refine zbv undef (by rfl) (by rfl) (λf W' hf h C' hC'=>by
    have h11:=hf.done 11 (by kernel_rfl);have h14:=hf.self;obtain⟨Y,Z,hY,hZ,hz',rfl⟩:=h.post h11;rw[h14,if_neg (by simp)] at*
    have hc0:=(KS.out _ hY).1;have hcell:=hZ.cell hc0 HNE.out;have hfr:Z.frozen? ⟨gb,0,none⟩=false:=by
     rw[World.frozen?_of_block (a:=⟨gb,0,none⟩) (hZ.block _ (zbe hc0) HNE.out)];exact(zac hY).frozen (KS.out _ (zM _ wr)).1 HF.out
    have:=hC' (Z.setCell ⟨gb,0,none⟩ b.2) ⟨λk=>(by have k':f 11=false:=k;rw[h11] at k';cases k'),λk=>(by have k':f 11=false:=k;rw[h11] at k';cases k'),λ_=>⟨Y,Z,hY,hZ,hz',rfl⟩⟩;obtain⟨q,m,c,e2⟩:∃q m c,b.2=.slice q m c:=by
     rcases hz'.2 with⟨e,_⟩|⟨g,cp,cur,e,_⟩<;>exact⟨_,_,_,e⟩
    rw[e2] at this;go_simp;exact this) ?_
   try simp only[Act.put]
   refine ze1 λf X hf h=>?_;obtain⟨Y,Z,hY,hZ,hz',rfl⟩:=h.post (hf 11 (by decide));rw[if_pos (hf 14 (by decide))];have hc0:=(KS.out _ hY).1;have hcell:=hZ.cell hc0 HNE.out;have hfr:Z.frozen? ⟨gb,0,none⟩=false:=by
    rw[World.frozen?_of_block (a:=⟨gb,0,none⟩) (hZ.block _ (zbe hc0) HNE.out)];exact(zac hY).frozen (KS.out _ (zM _ wr)).1 HF.out
   have hbel:zB gb w (Z.setCell ⟨gb,0,none⟩ b.2):=by
    have h1:zB gb w Y:=(hB.out.mono (by omega)).trans (hY.mono (by omega));exact(h1.grown hZ (by have:=hY.size;omega) (λq e=>by have:=(HO.out.lt q e).1;omega)).setCell (by simp) _
   have hgate:GatL gb (l++[(x,xr)]) (Z.setCell ⟨gb,0,none⟩ b.2):=by
    refine⟨⟨b.2,za9 hcell,?_⟩,by rw[World.frozen?_setCell];exact hfr⟩;rw[zjb,List.length_append,<-HN.out];show World.ownsRow _ _ _ _ _ (n+1) (zbj l++[St x,St xr]);exact ownsRow_setCell_below hz' (by simp) _
   have HE:=hid (⟨hbel,hgate⟩:zB gb w (Z.setCell ⟨gb,0,none⟩ b.2)/\GatL gb (l++[(x,xr)]) (Z.setCell ⟨gb,0,none⟩ b.2));clear hbel hgate hcell hfr hY hZ hz' h hf hc0;go_wp21;go_ret;exact⟨rfl,HE.out⟩
theorem z4d:∀(l:List (List UInt8×List UInt8)) (k:Nat) (c:List UInt8×List UInt8),zbj (l.set k c)=((zbj l).set (k*2) (St c.1)).set (k*2+1) (St c.2)
 |[],_,_=>rfl
 |_::_,0,_=>rfl
 |d::l,k+1,c=>by
  rw[show(k+1)*2=k*2+1+1 by omega];simp[zbj,z4d l k c]
theorem z42 {W:zA} {B g n cap:Nat} {e:TypeId} {s:Nat} {xs:List Value} (h:W.ownsRow B e s (.slice (some ⟨g,0,none⟩) n cap) n xs) (i:Nat):W.frozen? ⟨g,i,none⟩=false:=by
 rcases h.2 with⟨e1,_⟩|⟨g',cp,cur,e1,_,hg,_⟩
 ·cases e1
 ·cases e1;exact Go.Joins.unfrozen_of_block hg i
theorem z6l {W:zA} {B g n cap k:Nat} {e:TypeId} {l:List (List UInt8×List UInt8)} {z zr:List UInt8} (h:W.ownsRow B e 2 (.slice (some ⟨g,0,none⟩) n cap) n (zbj l)) (hn:n=l.length) (_:k<n):
 ((W.setCell ⟨g,k*2,none⟩ (St z)).setCell ⟨g,k*2+1,none⟩ (St zr)).ownsRow B e 2 (.slice (some ⟨g,0,none⟩) n cap) n (zbj (l.set k (z,zr))):=by
 refine⟨by rw[zn8,List.length_set,hn],?_⟩;rcases h.2 with⟨e1,_⟩|⟨g',cp,cur,e1,h1,hg,h2,h3,h4,h5⟩
 ·cases e1
 ·cases e1
  refine .inr ⟨g,cap,_,rfl,h1,zK (i:=k*2+1) (zK (i:=k*2) hg (St z)) (St zr),h2,h3,by simpa using h4,?_⟩;rw[z4d,<-h5];simp[List.take_set]
def zin (l:List (List UInt8×List UInt8)):List (List UInt8×List UInt8):=l.filter λc=>!(c.1==[48])
def ziq (l:List (List UInt8×List UInt8)) (k:Nat):List (List UInt8×List UInt8):=zin (l.take k)
theorem z7n (l:List (List UInt8×List UInt8)):ziq l l.length=zin l:=by simp[ziq]
theorem z6s {l:List (List UInt8×List UInt8)} {k:Nat} {c:List UInt8×List UInt8} (h:l[k]? =some c):ziq l (k+1)=ziq l k++(if(c.1==[48])=true then[] else[c]):=by
 unfold ziq zin;rw[List.take_add_one,h,List.filter_append];cases hc:(c.1==[48])<;>simp[hc]
theorem z8a (l:List (List UInt8×List UInt8)) (k:Nat):(ziq l k).length<=l.length:=by
 have h1:=List.length_filter_le (λc:List UInt8×List UInt8=>!(c.1==[48])) (l.take k);have h2:(l.take k).length<=l.length:=by simp;omega
 unfold ziq zin;omega
theorem z6g (v1 v2:Value) (C:zA->Prop) (hC:∀W W',C W->qL W W'->C W')
 (K1:Hid (∀W:zA,C W->qJ 64 #[v1] W (.int .i64 0)))
 (K2:Hid (∀W:zA,C W->qJ 64 #[v2] W (.int .i64 0)))
 (w:zA) (h:C w):
 qJ 120 #[v1,v2] w (.bool true):=by
 have HC:=hid hC;have H:=hid h;clear hC h;go_enter Tryz.func120,Tryz.ntmps120;go_wp21;refine zzM (K1.out w H.out) λw1 hb1=>?_;have B1:=hid hb1;clear hb1;go_wp21;refine zzM (K2.out w1 (HC.out _ _ H.out B1.out)) λw2 hb2=>?_;have B2:=hid (B1.out.trans (hb2.mono B1.out.size));clear hb2;go_wp21;go_ret;exact⟨rfl,B2.out⟩
end
section
open Go.RowKit Go.Shelf Lib Str Limb
end
end Go.Proofs.YtnjiiafnneillaaGreatDoor
