/- integer.Root. -/
import Derived.Test.YtmeekcnlacckfaaGreatDoorW06
import Derived.Lib.SmallJoins
import Derived.OwnWalkIn
import Derived.Maps.AppendAt
import Derived.Sort.LoopGhostIn
set_option maxRecDepth 100000
set_option maxHeartbeats 8000000
open Go renaming World → zA, Calls → zC
open Go.RowKit renaming Below → zB, intOf → zL
open Go.Lib renaming decDigits → zD, itoa → zE
open Go.Proofs.Tryz renaming prog → zF
open Go.World renaming alloc_heap_new → zG, size_alloc → zH
open Go.IntWalk renaming i64_in → zI
open Go.Joins renaming cell_of_block → zJ
open Go.RowKit.Below renaming refl → zM, heap_setCell → yE
open Nat renaming le_refl → zN, le_trans → zO, zero_le → zR, lt_of_lt_of_le → zS, pow_le_pow_right → yF, mul_comm → yP, pos_of_ne_zero → yS
open List renaming length_cons → yA, getElem?_eq_getElem → yB
namespace Go.Proofs.YtmeekcnlacckfaaGreatDoor
open Go.RowKit Go.Shelf Lib Str Limb
attribute [local go_sem] Oper.semAt_some
theorem z7e {n s k:Nat} (hs:s*s<=n) (hn:n<10^(2*k)):s<=10^k:=by
 by_cases c:s<=10^k
 ·exact c
 ·exfalso
  have:=Nat.mul_le_mul (show 10^k<=s by omega) (show 10^k<=s by omega);rw[<-Nat.pow_add,show k+k=2*k by omega] at this;omega
theorem z4b:(zaa B9 2).map I=[I 2]:=by
 rw[<-zwd (r:=2) (by decide)];rfl
theorem z6c (W:zA):Sl (W.alloc (.cells #[I 2] 3)) (.slice (some ⟨W.heap.size,0,none⟩) 1 1) ((zaa B9 2).map I):=by
 rw[z4b];refine⟨some ⟨W.heap.size,0,none⟩,1,rfl,zN _,λi x hx=>⟨W.heap.size,0,rfl,?_⟩⟩;have A:=zG W (.cells #[I 2] 3)
 match i,hx with
 |0,hx=>exact(zJ A 0).trans (by rw[<-hx];rfl)
 |_+1,hx=>cases hx
theorem z7f (t z y:ByteArray) (n s k X:Nat) (HS:Hid (s*s<=n/\n<(s+1)*(s+1))) (hn1:1<=n) (hX:1<=X) (hsX:s<=X) (HL:Hid ((zaa B9 n).length<=400/\(zaa B9 X).length<=400/\(zaa B9 (X+n)).length<=400))
 (ht0:0<t.size) (h45:(((t[0]'ht0).toNat:Int)==45)=false) (h48:(t.toList==[48])=false) (hsz:¬(t.size:Int)<=18) (hsz2:t.size<=1000) (hk:(t.size+1)/2=k)
 (CK:Hid (∀W:zA,qJ 173 #[.string t] W (.int .i64 0)))
 (RD:Hid (∀W:zA,zC zF 112 #[.string t] W λe w'=>∃v,e=.returned (.agg #[.bool false,v])/\Sl w' v ((zaa B9 n).map I)/\zB W.heap.size W w'))
 (RP:Hid (∀W:zA,qJ 204 #[.string ⟨#[48]⟩,.int .i64 (k:Int)] W (.string z)))
 (RX:Hid (∀W:zA,zC zF 112 #[.string y] W λe w'=>∃v,e=.returned (.agg #[.bool false,v])/\Sl w' v ((zaa B9 X).map I)/\zB W.heap.size W w'))
 (hzs:z.size<=1000) (hy:(⟨#[49]⟩:ByteArray)++z=y) (hr:digs (s:Int)<=300) (w:zA) (HW:Hid (Wd w)):
 qJ 205 #[.string t] w (.tuple #[St (zD s),.int .i64 0]):=by
 have hfd:=znj;have q1:IntKind.i64.wrap ((t.size:Int)+1)=(t.size:Int)+1:=zI _ ⟨by omega,by omega⟩;have HKI:=hid (show((t.size:Int)+1)/2=(k:Int) by omega);have HK:=hid hk;have HY:=hid hy;clear hk hy;go_enter Tryz.func205,Tryz.ntmps205;go_wp21;refine zzM (CK.out w) λw1 hb1=>?_;have HB1:=hid hb1;clear hb1 CK;go_wp21;refine(RD.out w1).mono ?_;rintro e w2 ⟨vn,rfl,hvn,hb2⟩;obtain⟨pn,kn,cn,rfl, -⟩:=zbx hvn;have HB2:=qT HB1 hb2;clear hb2 HB1 RD;have HVN:=hid hvn;clear hvn;go_wp21;simp only[HKI.out];refine zzM (RP.out w2) λw3 hb3=>?_;have HB3:=qT HB2 hb3;have HVN3:=hid (HVN.out.below hb3);clear hb3 HB2 HVN RP;go_wp21
 try rw[HY.out]
 refine(RX.out w3).mono ?_;rintro e w4 ⟨vx,rfl,hvx,hb4⟩;obtain⟨px,kx,cx,rfl, -⟩:=zbx hvx;have HB4:=qT HB3 hb4;have HVN4:=hid (HVN3.out.below hb4);clear hb4 HB3 HVN3 RX;have HVX:=hid hvx;clear hvx;clear q1 h45 h48 hsz hsz2;have HT2:=hid (λW=>z6c W);go_wp21;go_loopg [6] X (λk0 vx wr=>∃(x:Nat) (p:Option Addr) (a c:Nat),Hid (k0=x)/\1<=x/\s<=x/\Hid (x<=X)/\vx=.slice p a c/\Hid (Sl wr (.slice p a c) ((zaa B9 x).map I))/\Hid (Sl wr (.slice pn kn cn) ((zaa B9 n).map I))/\Hid (qL w wr))
 case atStart=>exact⟨X,px,kx,cx,hid rfl,hX,hsX,hid (zN _),rfl,HVX,HVN4,HB4⟩
 case round=>
  clear hX hsX;obtain⟨x,p,a,c,hk0,hx,hsx,hxX,rfl,hvx,hvn,hB⟩:=hrel;obtain⟨l1,l2,l3⟩:=HL.out;have m1:(zaa B9 x).length<=400:=zO (zd6 (by decide) hxX.out) l2;have hq:n/x<=n:=Nat.div_le_self _ _;have m2:(zaa B9 (n/x)).length<=400:=zO (zd6 (by decide) hq) l1;have m3:(zaa B9 (x+n/x)).length<=400:=zO (zd6 (by decide) (by have:=hxX.out;omega)) l3;have m4:(zaa B9 ((x+n/x)/2)).length<=400:=zO (zd6 (by decide) (Nat.div_le_self _ _)) m3;have m5:(zaa B9 2).length<=400:=by have:=congrArg List.length z4b;simp at this;omega
  have g1:=ztp (by omega) HS.out.1 hsx;have g2:=zrf (n:=n) (x:=x) (by omega);have g3:x<=(x+n/x)/2->x=s:=λh=>by
   have h1:=g2 h;by_cases c:x<=s
   ·omega
   ·have:=Nat.mul_le_mul (show s+1<=x by omega) (show s+1<=x by omega)
    have:=HS.out.2;omega
  have hs1:1<=s\/(x+n/x)/2≥0:=.inr (zR _);have HDV:=hid (znf _ _ n x wr hvn.out hvx.out (by omega) (by omega) (by omega));have G:=hid (⟨g1,g3⟩:_/\_);have M:=hid (⟨m1,m2,m3,m4,m5⟩:_/\_/\_/\_/\_);clear l1 l2 l3 m1 m2 m3 m4 m5 hq g1 g2 g3 hs1;go_wp21;refine HDV.out.mono ?_;rintro e w5 ⟨v1,v2,rfl,hs1,hs2,hb5⟩;obtain⟨p1,k1,c1,rfl, -⟩:=zbx hs1;have HB5:=hid (hB.out.trans (hb5.mono hB.out.size));have HVX5:=hid (hvx.out.below hb5);have HVN5:=hid (hvn.out.below hb5);have HPL:=hid (z09 _ _ x (n/x) w5 HVX5.out hs1 (by have:=M.out.1;omega) (by have:=M.out.2.1;omega));clear hs1 hs2 hb5 hB hvx hvn HDV;go_wp21;refine HPL.out.mono ?_;rintro e w6 ⟨p2,k2,c2,rfl,hs2,hb6⟩;have HB6:=qT HB5 hb6;have hal:qL w6 (w6.alloc (.cells #[I 2] 3)):=(zM _ w6).alloc (zN _) _;have HVX6:=hid ((HVX5.out.below hb6).below hal);have HVN6:=hid ((HVN5.out.below hb6).below hal);have HD2:=hid (znf _ _ (x+n/x) 2 (w6.alloc (.cells #[I 2] 3)) (hs2.below hal) (z6c w6) (by have:=M.out.2.2.1;omega) (by have:=M.out.2.2.2.2;omega) (by omega));have HB6':=qT HB6 hal;clear hs2 hb6 hal HB5 HVX5 HVN5 HPL;go_wp21;refine HD2.out.mono ?_;rintro e w7 ⟨v3,v4,rfl,hs3,hs4,hb7⟩;obtain⟨p3,k3,c3,rfl, -⟩:=zbx hs3;have HB7:=hid (HB6'.out.trans (hb7.mono HB6'.out.size));have HVX7:=hid (HVX6.out.below hb7);have HVN7:=hid (HVN6.out.below hb7);have HS3:=hid hs3;have HCM:=hid (zi9 _ _ ((x+n/x)/2) x w7 hs3 HVX7.out (by have:=M.out.2.2.2.1;omega) (by have:=M.out.1;omega));clear hs3 hs4 hb7 HB6 HB6' HVX6 HVN6 HD2;generalize (x+n/x)/2=y at*
  go_wp21;refine HCM.out.mono ?_;rintro e w8 ⟨cc,rfl,⟨hc1,hc2⟩,hb8⟩;have HB8:=qT HB7 hb8;have HVX8:=hid (HVX7.out.below hb8);have HVN8:=hid (HVN7.out.below hb8);have HS8:=hid (HS3.out.below hb8);clear hb8 HB7 HVX7 HVN7 HS3 HCM;by_cases hge:x<=y
  ·have hcI:(0:Int)<=cc:=by omega
   have hxs:=G.out.2 hge;have hres:=zez false _ x w8 (HW.out.below HB8.out) HVX8.out (by have:=M.out.1;omega);rw[zkw,hxs,zcf hr,zcg hr,Str.zad] at hres;have HRES:=hid hres;clear hge G hc1 hc2 hres hxs;go_wp21;refine zzM HRES.out λw9 hb9=>?_;have HB9':=qT HB8 hb9;clear hb9 HRES;go_wp21;go_ret2;exact⟨rfl,HB9'.out⟩
  ·have hcI:¬(0:Int)<=cc:=by omega
   have hsy:=G.out.1;have hy1:1<=y:=by
    by_cases c0:s=0
    ·have h1:=HS.out.2
     rw[c0] at h1;omega
    ·omega
   have hyX:y<=X:=by have:=hxX.out;omega
   have HYX:=hid (show y<x by omega);clear hge G hc1 hc2;go_wp21;go_roundg y
   case measure=>rw[hk0.out];exact HYX.out
   case rel=>exact⟨y,p3,k3,c3,hid rfl,hy1,hsy,hid hyX,rfl,HS8,HVN8,HB8⟩
theorem z6p (t:ByteArray) (n s:Nat) (ht0:0<t.size) (h45:(((t[0]'ht0).toNat:Int)==45)=false) (h48:(t.toList==[48])=false) (hsz:(t.size:Int)<=18)
 (CK:Hid (∀W:zA,qJ 173 #[.string t] W (.int .i64 0)))
 (RD:Hid (∀W:zA,zC zF 112 #[.string t] W λe w'=>∃v,e=.returned (.agg #[.bool false,v])/\Sl w' v ((zaa B9 n).map I)/\zB W.heap.size W w'))
 (SR:Hid (qK 267 #[.string t] (.tuple #[St (zD s),.int .i64 0]))) (w:zA) (HW:Hid (Wd w)):
 qJ 205 #[.string t] w (.tuple #[St (zD s),.int .i64 0]):=by
 have hfd:=znj;go_enter Tryz.func205,Tryz.ntmps205;go_wp21;refine zzM (CK.out w) λw1 hb1=>?_;have HB1:=hid hb1;clear hb1 CK;go_wp21;refine(RD.out w1).mono ?_;rintro e w2 ⟨vn,rfl,hvn,hb2⟩;obtain⟨pn,kn,cn,rfl, -⟩:=zbx hvn;have HB2:=qT HB1 hb2;clear hb2 HB1 RD hvn;go_wp21;refine zzM (SR.out w2 (HW.out.below HB2.out)) λw3 hb3=>?_;have HB3:=qT HB2 hb3;clear hb3;go_wp21;go_ret2;exact⟨rfl,HB3.out⟩
theorem z7g (t:ByteArray) (ht0:0<t.size) (h45:(((t[0]'ht0).toNat:Int)==45)=false) (h48:(t.toList==[48])=true)
 (CK:Hid (∀W:zA,qJ 173 #[.string t] W (.int .i64 0))) (w:zA):
 qJ 205 #[.string t] w (.tuple #[.string t,.int .i64 0]):=by
 go_enter Tryz.func205,Tryz.ntmps205;go_wp21;refine zzM (CK.out w) λw1 hb1=>?_;have HB1:=hid hb1;clear hb1 CK;go_wp21;go_ret2;exact⟨rfl,HB1.out⟩
theorem z13:∀k:Nat,zD (10^k)=49::List.replicate k 48
 |0=>by show zD 1=[49];rw[zae (by omega)];rfl
 |k+1=>by
  have:=zi4 (n:=10^k) (d:=0) (yS (by simp)) (by omega);rw[Nat.add_zero,yP,<-Nat.pow_succ,z13 k] at this;rw[this,List.replicate_succ'];rfl
theorem z7h (a b:List UInt8):((⟨a.toArray⟩:ByteArray)++(⟨b.toArray⟩:ByteArray))=⟨(a++b).toArray⟩:=by
 apply ByteArray.ext;rw[ByteArray.data_append];simp
theorem zvx (n s:Nat) (hs:s*s<=n/\n<(s+1)*(s+1)) (hl:(zD n).length<=200) (w:zA) (hw:Wd w):
 qJ 205 #[St (zD n)] w (.tuple #[St (zD s),.int .i64 0]):=by
 obtain⟨t,ht⟩:=zzX (⟨(zD n).toArray⟩:ByteArray);obtain⟨s1,s2,s3,s4⟩:=zco _ (zci n) t ht;obtain⟨c,r,hd,hc1,hc2⟩:=dec_head n;have h45:(((t[0]'s2).toNat:Int)==45)=false:=by
  rw[beq_eq_false_iff_ne,s4 s2];simp only[hd,List.head_cons];omega
 have ck:∀W:zA,qJ 173 #[.string t] W (.int .i64 0):=λW=>by
  have:=zl4 (n:Int) (by unfold digs;rw[Int.natAbs_natCast];omega) W;rw[Str.zad] at this;rw[ht];exact this
 have rd:∀W:zA,zC zF 112 #[.string t] W λe w'=>∃v,e=.returned (.agg #[.bool false,v])/\Sl w' v ((zaa B9 n).map I)/\zB W.heap.size W w':=λW=>by
  have:=zc3 (n:Int) W (by unfold digs;rw[Int.natAbs_natCast];omega);rw[Str.zad,decide_eq_false (by omega),Int.natAbs_natCast] at this;rw[ht];exact this
 show zC _ _ #[.string ⟨(zD n).toArray⟩] _ _;rw[<-ht];by_cases h0:n=0
 ·have hs0:s=0:=by
   by_cases d:s=0
   ·exact d
   ·have:=Nat.mul_pos (show 0<s by omega) (show 0<s by omega);omega
  have h48:(t.toList==[48])=true:=by rw[ht,ByteArray.toList_eq,h0,zae (by omega)];rfl
  have:=z7g t s2 h45 h48 (hid ck) w;rw[hs0];rw[show St (zD 0)=.string t by rw[ht,h0]];exact this
 ·have h48:(t.toList==[48])=false:=zhl ht 0 (by omega) h0
  by_cases hsm:(zD n).length<=18
  ·have hn18:n<1000000000000000000:=(zaf n 18 (by omega)).1 hsm
   refine z6p t n s s2 h45 h48 (by omega) (hid ck) (hid rd) (hid λW hW=>?_) w (hid hw);refine zd3 t n s (by omega) (hid hn18) (hid hs) (hid λW=>?_) (hid λW hW=>?_) W (hid hW)
   ·have:=znc (n:Int) (by rw[Str.zad];exact hsm) W
    rw[Str.zad] at this;rw[ht];exact this
   ·have hsn:s<=n:=zO (Nat.le_mul_self s) hs.1
    have:=zb3 (s:Int) (by omega) (by omega) W hW;rw[Str.zad] at this;exact this
  ·obtain⟨k,hk⟩:∃k,(t.size+1)/2=k:=⟨_,rfl⟩
   have hn2:n<10^(2*k):=(zaf n (2*k) (by omega)).1 (by omega);have hk2:k<=101:=by omega
   have hX:=z7e hs.1 hn2;have hrep:=λW=>Tryz.strings_Repeat ⟨#[48]⟩ k W (by omega) (by show 1*k<=_;omega);have b9:∀m,m<10^250->(zaa B9 m).length<=400:=λm hm=>zO (zfv (k:=28) (by decide) (zS hm (by decide+kernel))) (by omega);have n200:n<10^200:=(zaf n 200 (by omega)).1 hl;have x101:10^k<=10^101:=yF (by omega) hk2;have p1:(10:Nat)^200+10^101<=10^250:=by decide+kernel
   have y1:(⟨#[49]⟩:ByteArray)++⟨(Lib.repeatL [48] k).toArray⟩=⟨(zD (10^k)).toArray⟩:=by
    rw[z13,zhy];exact z7h [49] (List.replicate k 48)
   refine z7f t ⟨(Lib.repeatL [48] k).toArray⟩ ⟨(zD (10^k)).toArray⟩ n s k (10^k) (hid hs) (by omega) (yS (by simp)) hX (hid ⟨b9 _ (by omega),b9 _ (by omega),b9 _ (by omega)⟩) s2 h45 h48 (by omega) (by omega) hk (hid ck) (hid rd) (hid hrep) (hid λW=>?_) ?_ y1 ?_ w (hid hw)
   ·have hx2:10^k<10^102:=Nat.pow_lt_pow_right (by omega) (by omega)
    have:=zc3 ((10^k:Nat):Int) W (by unfold digs;rw[Int.natAbs_natCast];exact zO ((zaf _ 102 (by omega)).2 hx2) (by omega));rw[Str.zad,decide_eq_false (by omega),Int.natAbs_natCast] at this;exact this
   ·show(Lib.repeatL [48] k).toArray.size<=1000
    rw[zhy];simp;omega
   ·unfold digs
    rw[Int.natAbs_natCast];exact zO ((zaf _ 102 (by omega)).2 (Nat.lt_of_le_of_lt (zO hX x101) (Nat.pow_lt_pow_right (by omega) (by omega)))) (by omega)
theorem z6d (x y:Int) (hx:digs x<=300) (hy:digs y<=300) (hxy:digs (x*y)<=300) (w:zA) (hw:Wd w):
 qJ 189 #[St (zE x),St (zE y)] w (St (zE (x*y))):=by
 have hc:=zhk x y hx hy w hw;rw[zcf hxy,zcg hxy] at hc;generalize zE (x*y)=z at*
 have HC:=hid hc;clear hc;go_enter Tryz.func189,Tryz.ntmps189;go_wp21;refine zzM HC.out λw1 hb=>?_;go_wp21;go_ret;exact⟨rfl,hb⟩
theorem z7j (n:Nat) (hl:17<(zD n).length) (w:zA):
 qJ 187 #[St (zD n)] w (.tuple #[.int .i64 0,.bool false]):=by
 obtain⟨t,ht⟩:=zzX (⟨(zD n).toArray⟩:ByteArray);have h17:(17:Int)<(t.size:Int):=by rw[ht];show(17:Int)<((zD n).toArray.size:Int);simp;omega
 show zC _ _ #[.string ⟨(zD n).toArray⟩] _ _;rw[<-ht];clear ht hl;go_enter Tryz.func187,Tryz.ntmps187;go_wp21;go_ret2;exact⟨rfl,zM _ _⟩
theorem z5v (t r:ByteArray) (n s m:Nat) (b:Bool) (hm:IntKind.i64.wrap ((s:Int)*(s:Int))=(m:Int)) (hb:((m:Int)==(n:Int))=b)
 (NT:Hid (qK 187 #[.string t] (.tuple #[.int .i64 (n:Int),.bool true])))
 (NR:Hid (∀W:zA,zC zF 256 #[.int .i64 (n:Int)] W λe w'=>e=.returned (.int .i64 (s:Int))/\w'=W))
 (IT:Hid (qK 78 #[.int .i64 (s:Int)] (.string r))) (w:zA) (HW:Hid (Wd w)):
 qJ 191 #[.string t] w (.tuple #[.string r,.bool b]):=by
 go_enter Tryz.func191,Tryz.ntmps191;go_wp21;refine zzM (NT.out w HW.out) λw1 hb1=>?_;have HB1:=hid hb1;clear hb1 NT;go_wp21;refine zzM (NR.out w1) λw2 hw2=>?_;obtain rfl:=hw2.symm;clear hw2;go_wp21;refine zzM (IT.out w1 (HW.out.below HB1.out)) λw3 hb3=>?_;have HB3:=qT HB1 hb3;clear hb3;go_wp21;go_ret2;exact⟨rfl,HB3.out⟩
theorem z7k (t r q:ByteArray) (b:Bool) (hb:(q.toList==t.toList)=b)
 (NT:Hid (∀W:zA,qJ 187 #[.string t] W (.tuple #[.int .i64 0,.bool false])))
 (NR:Hid (qK 205 #[.string t] (.tuple #[.string r,.int .i64 0])))
 (MU:Hid (qK 189 #[.string r,.string r] (.string q))) (w:zA) (HW:Hid (Wd w)):
 qJ 191 #[.string t] w (.tuple #[.string r,.bool b]):=by
 go_enter Tryz.func191,Tryz.ntmps191;go_wp21;refine zzM (NT.out w) λw1 hb1=>?_;have HB1:=hid hb1;clear hb1 NT;go_wp21;refine zzM (NR.out w1 (HW.out.below HB1.out)) λw2 hb2=>?_;have HB2:=qT HB1 hb2;clear hb2 HB1 NR;go_wp21;refine zzM (MU.out w2 (HW.out.below HB2.out)) λw3 hb3=>?_;have HB3:=qT HB2 hb3;clear hb3;go_wp21;go_ret2;exact⟨rfl,HB3.out⟩
theorem z6f {n s:Nat} (h:s*s<=n):s<=n:=zO (Nat.le_mul_self s) h
theorem zt9 {m n:Nat} (h:m<=n):(zD m).length<=(zD n).length:=by
 have:=(zaf n (zD n).length (List.length_pos_iff.2 (zci n))).1 (zN _);exact(zaf m _ (List.length_pos_iff.2 (zci n))).2 (Nat.lt_of_le_of_lt h this)
theorem z4y (n s:Nat) (hs:s*s<=n/\n<(s+1)*(s+1)) (hl:(zD n).length<=190) (w:zA) (hw:Wd w):
 qJ 191 #[St (zD n)] w (.tuple #[St (zD s),.bool (decide (s*s=n))]):=by
 have hsn:=z6f hs.1;by_cases h17:(zD n).length<=17
 ·have hn17:n<100000000000000000:=(zaf n 17 (by omega)).1 h17
  have hss:=hs.1;refine z5v _ _ n s (s*s) _ (by rw[<-Int.natCast_mul];exact zI _ (by omega)) ?_ (hid λW hW=>zk7 n h17 W hW) (hid λW=>ztm n s (by omega) hs W) (hid λW hW=>?_) w (hid hw)
  ·rw[Bool.eq_iff_iff,beq_iff_eq,decide_eq_true_iff];omega
  ·have:=zb3 (s:Int) (by omega) (by omega) W hW
   rw[Str.zad] at this;exact this
 ·have l1:digs (s:Int)<=190:=by rw[zd9];exact zO (zt9 hsn) hl
  have l2:digs ((s:Int)*(s:Int))<=190:=by rw[<-Int.natCast_mul,zd9];exact zO (zt9 hs.1) hl
  refine z7k _ ⟨(zD s).toArray⟩ ⟨(zD (s*s)).toArray⟩ _ ?_ (hid λW=>z7j n (by omega) W) (hid λW hW=>zvx n s hs (by omega) W hW) (hid λW hW=>?_) w (hid hw)
  ·rw[ByteArray.toList_eq,ByteArray.toList_eq,Bool.eq_iff_iff,beq_iff_eq,decide_eq_true_iff]
   exact⟨λh=>zfk (by simpa using h),λh=>by rw[h]⟩
  ·have:=z6d (s:Int) (s:Int) (by omega) (by omega) (by omega) W hW
   rw[<-Int.natCast_mul,Str.zad,Str.zad] at this;exact this
theorem zhe (n:Nat):numS (n:Rat)=zD n:=by
 have:=zha (n:Int);rw[Str.zad] at this;rw[<-this];rfl
theorem zrg {n k:Nat} (hk:0<k) (h:(zD n).length<=k):sz (n:Rat) k:=by
 have h1:=(zaf n k hk).1 h;have:10^1<=10^k:=yF (by omega) hk;exact⟨by show((n:Int)).natAbs<_;rw[Int.natAbs_natCast];exact h1,by show 1<_;omega⟩
theorem z5x (n d:Nat) (hd:0<d) (h1:(zD n).length<=140) (h2:(zD d).length<=140) (w:zA) (hw:Wd w):
 qJ 192 #[St (zD n),St (zD d)] w (St (numS ((n:Rat)/(d:Rat)))):=by
 have hc:=zoj (n:Rat) (d:Rat) (by
  intro h;have:d=0:=by exact_mod_cast h
  omega) 140 140 (by omega) (by omega) (by omega) (zrg (by omega) h1) (zrg (by omega) h2) w hw
 rw[zhe,zhe] at hc;generalize numS ((n:Rat)/(d:Rat))=z at*
 have HC:=hid hc;clear hc;go_enter Tryz.func192,Tryz.ntmps192;go_wp21;refine zzM HC.out λw1 hb=>?_;go_wp21;go_ret;exact⟨rfl,hb⟩
theorem z4z (u v r1 r2 f:ByteArray) (b1 b2:Bool)
 (E1:Hid (qK 191 #[.string u] (.tuple #[.string r1,.bool b1])))
 (E2:Hid (qK 191 #[.string v] (.tuple #[.string r2,.bool b2])))
 (FR:Hid (b1=true->b2=true->qK 192 #[.string r1,.string r2] (.string f))) (w:zA) (HW:Hid (Wd w)):
 qJ 193 #[.agg #[.string u,.string v]] w (.tuple #[.string (if(b1&&b2)=true then f else⟨#[]⟩),.bool (b1&&b2)]):=by
 obtain⟨W1,hW1⟩:=zzX (w.alloc (.cells #[.string u,.string v] 235));have hb1:qL w W1:=by rw[hW1];exact(zM _ w).alloc (zN _) _
 have A:W1.heap[w.heap.size]? =some (.cells #[.string u,.string v] 235 (0,0)):=by rw[hW1];exact zG w _
 have a0:W1.cell? ⟨w.heap.size,0,none⟩=some (.string u):=by rw[zJ A];rfl
 have a1:W1.cell? ⟨w.heap.size,1,none⟩=some (.string v):=by rw[zJ A];rfl
 have HA:=hid (⟨a0,a1⟩:W1.cell? ⟨w.heap.size,0,none⟩=some (.string u)/\W1.cell? ⟨w.heap.size,1,none⟩=some (.string v));have HB:=hid hb1;rw[hW1] at a0 a1;have HW1:=hid hW1;clear hW1 hb1 A;go_enter Tryz.func193,Tryz.ntmps193;go_wp21;rw[<-HW1.out];refine zzM (E1.out W1 (HW.out.below HB.out)) λw2 hb2=>?_;have HB2:=qT HB hb2;have g0:=(zac hb2).cell HA.out.1;have g1:=(zac hb2).cell HA.out.2;clear hb2 a0 a1;go_wp21;refine zzM (E2.out w2 (HW.out.below HB2.out)) λw3 hb3=>?_;have HB3:=qT HB2 hb3;clear hb3 g0 g1;cases b1
 ·go_wp21
  all_goals first|exact(zzU ‹_›).elim|skip
  go_ret2;exact⟨rfl,HB3.out⟩
 ·cases b2
  ·go_wp21
   all_goals first|exact(zzU ‹_›).elim|skip
   go_ret2;exact⟨rfl,HB3.out⟩
  ·have HF:=hid (FR.out rfl rfl w3 (HW.out.below HB3.out))
   go_wp21
   all_goals first|exact(zzU ‹_›).elim|skip
   refine zzM HF.out λw4 hb4=>?_;have HB4:=qT HB3 hb4;clear hb4;go_wp21;go_ret2;exact⟨rfl,HB4.out⟩
theorem z6q (n d sn sd:Nat) (hd:0<d) (hn:sn*sn<=n/\n<(sn+1)*(sn+1)) (hd2:sd*sd<=d/\d<(sd+1)*(sd+1)) (h1:(zD n).length<=190) (h2:(zD d).length<=190) (w:zA) (hw:Wd w):
 qJ 193 #[.agg #[St (zD n),St (zD d)]] w (.tuple #[.string (if(decide (sn*sn=n)&&decide (sd*sd=d))=true then⟨(numS ((sn:Rat)/(sd:Rat))).toArray⟩ else⟨#[]⟩),.bool (decide (sn*sn=n)&&decide (sd*sd=d))]):=by
 refine z4z _ _ ⟨(zD sn).toArray⟩ ⟨(zD sd).toArray⟩ _ _ _ (hid λW hW=>z4y n sn hn h1 W hW) (hid λW hW=>z4y d sd hd2 h2 W hW) (hid λ_ hb W hW=>?_) w (hid hw);have hsd:0<sd:=by
  by_cases c:sd=0
  ·have:=hd2.2;rw[c] at this;omega
  ·omega
 have half:∀s m:Nat,s*s<=m->(zD m).length<=190->(zD s).length<=140:=λs m h hm=>by
  have k1:m<10^190:=(zaf m 190 (by omega)).1 hm;refine(zaf s 140 (by omega)).2 ?_;by_cases c:s<10^140
  ·exact c
  ·exfalso
   have:=Nat.mul_le_mul (show 10^140<=s by omega) (show 10^140<=s by omega);have e:(10:Nat)^190<=10^140*10^140:=by decide+kernel
   omega
 exact z5x sn sd hsd (half _ _ hn.1 h1) (half _ _ hd2.1 h2) W hW
theorem z40 (W:zA) (t:TypeId) (p q:Rat):
 RowNums (some ⟨W.heap.size,0,none⟩) 2 (λi=>if i=0 then p else q) ((W.alloc (.cells #[St (numS p),St (numS q)] t)).alloc (.cells #[St (numS p),St (numS q)] t))/\
 RowNums (some ⟨W.heap.size+1,0,none⟩) 2 (λi=>if i=0 then p else q) ((W.alloc (.cells #[St (numS p),St (numS q)] t)).alloc (.cells #[St (numS p),St (numS q)] t)):=by
 have A1:=(Below.heap_alloc (W.alloc (.cells #[St (numS p),St (numS q)] t)) (.cells #[St (numS p),St (numS q)] t) W.heap.size (by simp)).trans (zG W (.cells #[St (numS p),St (numS q)] t (0,0)));have A2:=zG (W.alloc (.cells #[St (numS p),St (numS q)] t)) (.cells #[St (numS p),St (numS q)] t (0,0));rw[zH] at A2;constructor
 ·intro i hi
  refine⟨_,_,rfl,?_⟩;rw[zJ A1]
  match i,hi with
  |0,_|1,_=>rfl
 ·intro i hi
  refine⟨_,_,rfl,?_⟩;rw[zJ A2]
  match i,hi with
  |0,_|1,_=>rfl
theorem z6r (x y a u v r:ByteArray) (is:Bool) (hy:(y.toList==[48])=false)
 (CK:Hid (∀W:zA,Wd W->zC zF 185 #[.slice (some ⟨W.heap.size,0,none⟩) 2 2,.slice (some ⟨W.heap.size+1,0,none⟩) 2 2] ((W.alloc (.cells #[.string x,.string y] 30)).alloc (.cells #[.string x,.string y] 30)) λe w'=>e=.returned (.int .i64 0)/\zB W.heap.size W w'))
 (DV:Hid (qK 101 #[.string x,.string y] (.tuple #[.string a,.int .i64 0])))
 (OF:Hid (qK 186 #[.string a] (.agg #[.string u,.string v])))
 (RT:Hid (qK 193 #[.agg #[.string u,.string v]] (.tuple #[.string r,.bool is]))) (w:zA) (HW:Hid (Wd w)):
 qJ 121 #[.string x,.string y] w (.tuple #[.string r,.bool is,.int .i64 0]):=by
 have HC:=hid (CK.out w HW.out);clear CK;go_enter Tryz.func121,Tryz.ntmps121;go_wp21;refine zzM HC.out λw2 hb2=>?_;have HB2:=hid hb2;clear hb2 HC;go_wp21;refine zzM (DV.out w2 (HW.out.below HB2.out)) λw3 hb3=>?_;have HB3:=qT HB2 hb3;clear hb3 HB2 DV;go_wp21;refine zzM (OF.out w3 (HW.out.below HB3.out)) λw4 hb4=>?_;have HB4:=qT HB3 hb4;clear hb4 HB3 OF;go_wp21;refine zzM (RT.out w4 (HW.out.below HB4.out)) λw5 hb5=>?_;have HB5:=qT HB4 hb5;clear hb5 HB4 RT;go_wp21;go_ret3;exact⟨rfl,HB5.out⟩
theorem zvz (p q:Rat) (hp:0<=p) (hq:0<q) (sp:sz p 90) (sq:sz q 90) (sn sd:Nat) (hn:sn*sn<=(p/q).num.natAbs/\(p/q).num.natAbs<(sn+1)*(sn+1)) (hd:sd*sd<=(p/q).den/\(p/q).den<(sd+1)*(sd+1)) (w:zA) (hw:Wd w):
 qJ 121 #[St (numS p),St (numS q)] w (.tuple #[.string (if(decide (sn*sn=(p/q).num.natAbs)&&decide (sd*sd=(p/q).den))=true then⟨(numS ((sn:Rat)/(sd:Rat))).toArray⟩ else⟨#[]⟩),.bool (decide (sn*sn=(p/q).num.natAbs)&&decide (sd*sd=(p/q).den)),.int .i64 0]):=by
 have hq0:q≠0:=by grind
 have hpn:0<=p.num:=Rat.num_nonneg.2 hp;have hqn:0<=q.num:=Rat.num_nonneg.2 (Rat.le_of_lt hq);have h0:0<=p/q:=by rw[Rat.div_def];exact Rat.mul_nonneg hp (Rat.le_of_lt (Rat.inv_pos.2 hq))
 have han:0<=(p/q).num:=Rat.num_nonneg.2 h0;have okp:=zd0 (by omega) (by omega) sp;have okq:=zd0 (by omega) (by omega) sq;have sa:sz (p/q) 180:=z8t hq0 sp sq;have oka:=zd0 (by omega) (by omega) sa;have da:=zok (k:=180) (by omega) sa;have dp:=zok (k:=90) (by omega) sp;have dq:=zok (k:=90) (by omega) sq;refine z6r ⟨(numS p).toArray⟩ ⟨(numS q).toArray⟩ ⟨(numS (p/q)).toArray⟩ ⟨(zE (p/q).num).toArray⟩ ⟨(zD (p/q).den).toArray⟩ _ _ ?_ (hid λW hW=>?_) (hid λW hW=>zoj p q hq0 90 90 (by omega) (by omega) (by omega) sp sq W hW) (hid λW hW=>zio (p/q) oka W hW) (hid λW hW=>?_) w (hid hw)
 ·rw[ByteArray.toList_eq,beq_eq_false_iff_ne]
  exact λh=>hq0 ((zpy q).1 (by simpa using h))
 ·obtain⟨t1,t2⟩:=z40 W 30 p q
  have hal:qL W ((W.alloc (.cells #[St (numS p),St (numS q)] 30)).alloc (.cells #[St (numS p),St (numS q)] 30)):=((zM _ W).alloc (zN _) _).alloc (by simp) _;refine(zji _ _ 2 2 2 2 _ _ (by omega) (by omega) (hid λi _ W hW=>?_) (hid λi _ W hW=>?_) (hid λi _=>?_) (hid λi _ W=>?_) _ (hid (hW.below hal)) (hid t1) (hid t2)).mono ?_
  ·show zC _ _ #[St (numS (if i=0 then p else q))] _ _
   split
   ·exact zfj p okp W hW
   ·exact zfj q okq W hW
  ·by_cases c:i=0
   ·simp only[c,if_true];exact zio p okp W hW
   ·simp only[c,if_false];exact zio q okq W hW
  ·by_cases c:i=0
   ·simp only[c,if_true];exact dp
   ·simp only[c,if_false];exact dq
  ·by_cases c:i=0
   ·simp only[c,if_true];exact zma p hpn W
   ·simp only[c,if_false];exact zma q hqn W
  ·rintro e w' ⟨rfl,hb⟩
   exact⟨rfl,hal.trans (hb.mono hal.size)⟩
 ·have hi:zE (p/q).num=zD (p/q).num.natAbs:=by
   have:=Str.zad (p/q).num.natAbs;rw[Int.natAbs_of_nonneg han] at this;exact this
  rw[hi];exact z6q (p/q).num.natAbs (p/q).den sn sd (p/q).den_pos hn hd (by have:=da.1;unfold digs at this;omega) (by have:=da.2;omega) W hW
theorem z77 (n d:Int) (s t r:List UInt8) (h0:(d==0)=false) (h1:(d==1)=false)
 (C1:Hid (qK 78 #[.int .i64 n] (St s)))
 (C2:Hid (qK 78 #[.int .i64 d] (St t)))
 (C3:Hid (qK 51 #[St s,St t] (.tuple #[St r,.int .i64 0])))
 (w:zA) (HW:Hid (Wd w)):
 qJ 26 #[.int .i64 n,.int .i64 d] w (.tuple #[St r,.int .i64 0]):=by
 go_enter Tryz.func26,Tryz.ntmps26;go_wp21;refine zzM (C1.out _ HW.out) λw1 hb1=>?_;have HB1:=hid hb1;clear hb1;go_wp21;refine zzM (C2.out _ (HW.out.below HB1.out)) λw2 hb2=>?_;have HB2:=qT HB1 hb2;clear hb2;go_wp21;refine zzM (C3.out _ (HW.out.below HB2.out)) λw3 hb3=>?_;have HB3:=qT HB2 hb3;clear hb3;go_wp21;go_ret2;exact⟨rfl,HB3.out⟩
theorem z7l (n d:Nat) (hd:0<d) (h1:n<1000000000000000000) (h2:d<1000000000000000000) (w:zA) (hw:Wd w):
 qJ 26 #[.int .i64 (n:Int),.int .i64 (d:Int)] w (.tuple #[St (numS ((n:Rat)/(d:Rat))),.int .i64 0]):=by
 have dg:∀k:Nat,k<1000000000000000000->digs (k:Int)<=300:=λk hk=>zO (zhd (k:=18) (by omega) (by rw[Int.natAbs_natCast];omega)) (by omega);have e:(n:Rat)/(d:Rat)=Rat.divInt (n:Int) (d:Int):=by rw[Rat.divInt_eq_div];rfl
 by_cases h:d=1
 ·subst h
  have hc:=zb3 (n:Int) (by omega) (by omega) w hw;have e1:numS ((n:Rat)/((1:Nat):Rat))=zE (n:Int):=by
   rw[show(n:Rat)/((1:Nat):Rat)=(n:Rat) by grind,zhe,Str.zad]
  rw[e1];generalize zE (n:Int)=z at*
  have HC:=hid hc;clear hc dg e e1;show zC _ _ #[.int .i64 (n:Int),.int .i64 1] _ _;clear h1 h2 hd;go_enter Tryz.func26,Tryz.ntmps26;go_wp21;refine zzM HC.out λw1 hb=>?_;go_wp21;go_ret2;exact⟨rfl,hb⟩
 ·rw[e]
  exact z77 _ _ (zE n) (zE (d:Int)) _ (by rw[beq_eq_false_iff_ne];omega) (by rw[beq_eq_false_iff_ne];omega) (hid λW hW=>zb3 _ (by omega) (by omega) W hW) (hid λW hW=>zb3 _ (by omega) (by omega) W hW)
   (hid λW hW=>zfa _ _ (by omega) (dg _ h1) (dg _ h2) W hW) w (hid hw)
def zrn (n:Nat):Nat->Nat
 |0=>0
 |k+1=>if(k+1)*(k+1)<=n then k+1 else zrn n k
def isq (n:Nat):Nat:=zrn n n
theorem zyh (n:Nat):∀k,n<(k+1)*(k+1)->zrn n k*zrn n k<=n/\n<(zrn n k+1)*(zrn n k+1)
 |0,h=>⟨zR _,h⟩
 |k+1,h=>by
  unfold zrn;split
  ·exact⟨‹_›,h⟩
  ·exact zyh n k (by omega)
theorem zv0 (n:Nat):isq n*isq n<=n/\n<(isq n+1)*(isq n+1):=zyh n n (by
 have:=Nat.le_mul_self (n+1);omega)
def zlu (p:Nat):Nat->Nat×Nat->Nat×Nat
 |0,x=>x
 |f+1,x=>if p*p∣x.2 then zlu p f (x.1*p,x.2/(p*p)) else x
def zkk (p:Nat) (x:Nat×Nat):Nat×Nat:=zlu p x.2 x
theorem zyi {p:Nat} (hp:2<=p):∀(f:Nat) (x:Nat×Nat),0<x.2->x.2<=f->zlu p (f+1) x=zlu p f x
 |0,x,h,k=>by omega
 |f+1,x,h,k=>by
  have hpp:4<=p*p:=Nat.mul_le_mul hp hp;rw[zlu]
  conv=>rhs;rw[zlu]
  by_cases c:p*p∣x.2
  ·rw[if_pos c,if_pos c]
   have h1:0<x.2/(p*p):=Nat.div_pos (Nat.le_of_dvd h c) (by omega);have h2:x.2/(p*p)<x.2:=Nat.div_lt_self h (by omega);exact zyi hp f _ h1 (by show x.2/(p*p)<=f;omega)
  ·rw[if_neg c,if_neg c]
theorem zyj {p:Nat} (hp:2<=p) (x:Nat×Nat) (h:0<x.2):∀d,zlu p (x.2+d) x=zlu p x.2 x
 |0=>rfl
 |d+1=>by rw[<-Nat.add_assoc,zyi hp _ x h (by omega),zyj hp x h d]
theorem z78 {p c l:Nat} (h:¬p*p∣l):zkk p (c,l)=(c,l):=by
 unfold zkk
 cases l with
 |zero=>rfl
 |succ l=>show zlu p (l+1) _=_;rw[zlu,if_neg h]
theorem z7m {p c l:Nat} (hp:2<=p) (hl:0<l) (h:p*p∣l):zkk p (c,l)=zkk p (c*p,l/(p*p)):=by
 have hpp:4<=p*p:=Nat.mul_le_mul hp hp;have h1:0<l/(p*p):=Nat.div_pos (Nat.le_of_dvd hl h) (by omega);have h2:l/(p*p)<l:=Nat.div_lt_self hl (by omega);unfold zkk;show zlu p l (c,l)=zlu p (l/(p*p)) (c*p,l/(p*p));obtain⟨m,rfl⟩:∃m,l=m+1:=⟨l-1,by omega⟩;rw[zlu,if_pos h];obtain⟨d,hd⟩:∃d,m=(m+1)/(p*p)+d:=⟨m-(m+1)/(p*p),by omega⟩;have:=zyj hp (c*p,(m+1)/(p*p)) h1 d;exact(congrArg (λf=>zlu p f (c*p,(m+1)/(p*p))) hd).trans this
def zro (l:List Nat) (x:Nat×Nat):Nat×Nat:=l.foldl (λx p=>zkk p x) x
def zn7 (N:Nat):Nat×Nat:=
 let x:=zro prL (1,N)
 if isq x.2*isq x.2=x.2 then(x.1*isq x.2,1) else x
structure NrmS (N k:Nat) (x:Nat×Nat):Prop where
 out:zro (prL.drop k) x=zro prL (1,N)
structure NcS (N C L:Nat):Prop where
 out:zn7 N=(C,L)
theorem NrmS.start (N:Nat):NrmS N 0 (1,N):=⟨rfl⟩
theorem z79 (k:Nat) (hk:k<25):prL.drop k=prN k::prL.drop (k+1):=by
 have h:k<prL.length:=hk;rw[List.drop_eq_getElem_cons h];congr 1;unfold prN;rw[List.getD_eq_getElem?_getD,yB h];rfl
theorem NrmS.enter {N k p c l:Nat} (h:NrmS N k (c,l)) (hk:k<25) (hp:p=prN k):NrmS N (k+1) (zkk p (c,l)):=⟨by
 rw[<-h.out,z79 k hk,hp];rfl⟩
theorem NrmS.yes {N k p c l:Nat} (h:NrmS N k (zkk p (c,l))) (hp:2<=p) (hl:0<l) (hd:p*p∣l):NrmS N k (zkk p (c*p,l/(p*p))):=by rw[<-z7m hp hl hd];exact h
theorem NrmS.no {N k p c l:Nat} (h:NrmS N k (zkk p (c,l))) (hd:¬p*p∣l):NrmS N k (c,l):=by rw[z78 hd] at h;exact h
theorem NrmS.done {N c l:Nat} (h:NrmS N 25 (c,l)):zro prL (1,N)=(c,l):=h.out.symm
theorem zv1 (n d N C L:Nat) (HCL:NcS N C L) (hN0:0<N) (hd0:0<d) (HN:Hid (n*d=N)) (HN9:Hid (N<1000000000000000000/\d<1000000000000000000))
 (AT:Hid (∀i,i<25->∀W:zA,qJ 174 #[St (prS i)] W (.tuple #[I (prN i),.nilIface])))
 (w:zA) (HW:Hid (Wd w)) (HP:Hid (Pw w)):
 qJ 188 #[.int .i64 (n:Int),.int .i64 (d:Int)] w (.tuple #[St (numS ((C:Rat)/(d:Rat))),St (zD L)]):=by
 obtain⟨tt,fz,hblk⟩:=HP.out.block;have hwm:IntKind.i64.wrap ((n:Int)*(d:Int))=N:=by rw[<-Int.natCast_mul,HN.out];exact zI _ (by have:=HN9.out;omega)
 go_enter Tryz.func188,Tryz.ntmps188;go_wp2_with (refine wpList_load_row rfl 287 (.global 1) rfl 1 rfl tt prV fz (.array 25 9) hblk (by kernel_rfl) rfl (by kernel_rfl) ?_);have hB0:=zM w.heap.size w;go_loopw [6,7,19] (λc lf i wr=>∃k cN lN:Nat,k<=25/\c=I cN/\lf=I lN/\i=.int .i64 (k:Int)/\Hid (cN*cN*lN=N)/\Hid (NrmS N k (cN,lN))/\Hid (qL w wr))
  (λ_ _ i _=>25-(zL i).toNat)
 case atStart=>exact⟨0,1,N,by omega,rfl,rfl,rfl,hid (by omega),hid (NrmS.start N),hid hB0⟩
 case round=>
  clear hB0 hwm hblk;obtain⟨k,cN,lN,hk,rfl,rfl,rfl,hE,hD,hB⟩:=hrel;by_cases hlt:k<25
  ·have hx:=λw=>z25 k hlt w
   obtain⟨g1,g2⟩:=zw4 k hlt;have hat:=hid (AT.out k hlt);obtain⟨p,hp⟩:=zzX (prN k);rw[<-hp] at g1 g2 hat
   have HPk:=hid hp;clear hp;generalize prS k=y at*
   have hwp:IntKind.i64.wrap ((p:Int)*(p:Int))=((p*p:Nat):Int):=by
    have:p*p<=97*97:=Nat.mul_le_mul g2 g2;rw[<-Int.natCast_mul];exact zI _ (by omega)
   have hpp:4<=p*p:=Nat.mul_le_mul g1 g1;obtain⟨pp,hpp2⟩:=zzX (p*p);rw[<-hpp2] at hwp hpp;have HPP:=hid hpp2;clear hpp2;go_wp21;refine zzM (hat.out wr) λw2 hb2=>?_;have hB2:=hid (hB.out.trans (hb2.mono hB.out.size));clear hb2 hB hx hat
   go_wp21;go_loopw [6,7] (λc lf wr=>∃cN lN:Nat,c=I cN/\lf=I lN/\Hid (cN*cN*lN=N)/\Hid (NrmS N (k+1) (zkk p (cN,lN)))/\Hid (qL w wr))
    (λ_ lf _=>(zL lf).toNat)
   case atStart=>exact⟨cN,lN,rfl,rfl,hE,hid (hD.out.enter hlt HPk.out),hB2⟩
   case round=>
    clear hE hD hB2;obtain⟨cN,lN,rfl,rfl,hE,hD,hB⟩:=hrel;have hl0:0<lN:=yS (λh=>by have:=hE.out;rw[h] at this;simp at this;omega);have hpp0:¬pp=0:=by omega
    have hle:lN<=N:=by rw[<-hE.out];exact Nat.le_mul_of_pos_left _ (yS (λh=>by have:=hE.out;rw[h] at this;simp at this;omega))
    have hmod:(lN:Int).tmod (pp:Int)=((lN%pp:Nat):Int):=rfl;have hdiv:(lN:Int).tdiv (pp:Int)=((lN/pp:Nat):Int):=rfl;have hwz:∀z:Nat,z<=lN->IntKind.i64.wrap (z:Int)=(z:Int):=λz hz=>zI _ (by have:=HN9.out;omega);have hwm:=hwz _ (Nat.mod_le lN pp);have hwd:=hwz _ (Nat.div_le_self lN pp);have hwq:IntKind.i64.wrap ((lN:Int)/(pp:Int))=((lN/pp:Nat):Int):=by rw[<-Int.natCast_ediv];exact hwd
    have HWQ:=hid hwq;clear hwz hwq;by_cases hd:pp∣lN
    ·have hm0:(((lN%pp:Nat):Int)==0)=true:=by rw[Nat.mod_eq_zero_of_dvd hd];rfl
     have hnext:=z1s (c:=cN) (l:=lN) (p:=p) (by rw[<-HPP.out];exact hd);rw[<-HPP.out,hE.out] at hnext;have hl1:0<lN/pp:=yS (λh=>by rw[h] at hnext;simp at hnext;omega);have hcp:cN*p<=N:=by
      rw[<-hnext];exact zO (Nat.le_mul_self _) (Nat.le_mul_of_pos_right _ hl1)
     have hwc:IntKind.i64.wrap ((cN:Int)*(p:Int))=((cN*p:Nat):Int):=by rw[<-Int.natCast_mul];exact zI _ (by have:=HN9.out;omega)
     have hlt2:lN/pp<lN:=Nat.div_lt_self hl0 (by omega);have hkeep:NrmS N (k+1) (zkk p (cN*p,lN/pp)):=by rw[HPP.out];exact hD.out.yes g1 hl0 (by rw[<-HPP.out];exact hd)
     have HNX:=hid hnext;have HK:=hid hkeep;have HL:=hid hlt2;clear hnext hkeep hd hlt2 hl1 hcp;go_wp2
     (refine wp_region_quiet_lit (by kernel_rfl) (by kernel_rfl) (WQ.out ?_);(repeat(first|(apply WQ.read (by rfl);(focus(rintro W ⟨n,rfl⟩;go_simp;try with_reducible rfl));try simp only[zzQ])|(apply WQ.skip (by rfl);try simp only[zzQ])));refine WQ.nil ?_;rintro _ ⟨nq,rfl⟩)
     go_wp2;go_roundw
     case rel=>exact⟨cN*p,lN/pp,by first|rfl|simp,by first|(rw[HWQ.out])|rfl|simp,HNX,HK,hid (zao hB.out _)⟩
     case measure=>
      rw[HWQ.out];show(lN/pp:Nat)<lN;exact HL.out
    ·have hm0:(((lN%pp:Nat):Int)==0)=false:=by
      rw[beq_eq_false_iff_ne];intro h;exact hd (Nat.dvd_of_mod_eq_zero (by omega))
     have hkeep:NrmS N (k+1) (cN,lN):=hD.out.no (by rw[<-HPP.out];exact hd);have HK:=hid hkeep;clear hkeep hd;go_wp2;go_roundw
     case rel=>exact⟨k+1,cN,lN,by omega,rfl,rfl,by go_num,hE,HK,hB⟩
     case measure=>simp[zL];omega
  ·have hk25:k=25:=by omega
   have hc0:0<cN:=yS (λh=>by have:=hE.out;rw[h] at this;simp at this;omega);have hl0:0<lN:=yS (λh=>by have:=hE.out;rw[h] at this;simp at this;omega);have hle:lN<=N:=by rw[<-hE.out];exact Nat.le_mul_of_pos_left _ (Nat.mul_pos hc0 hc0)
   have hce:cN<=N:=by rw[<-hE.out];exact zO (Nat.le_mul_self _) (Nat.le_mul_of_pos_right _ hl0)
   have hsq0:=zv0 lN;have HNC:=hid (show(C,L)=if isq lN*isq lN=lN then(cN*isq lN,1) else(cN,lN) by
    have hd:=hD.out;rw[hk25] at hd;have hd2:=hd.done;rw[<-HCL.out];unfold zn7;rw[hd2])
   generalize isq lN=s at*
   obtain⟨hs1,hs2⟩:=hsq0;have HSQ:=hid (⟨hs1,hs2⟩:s*s<=lN/\lN<(s+1)*(s+1));have hwss:IntKind.i64.wrap ((s:Int)*(s:Int))=((s*s:Nat):Int):=by rw[<-Int.natCast_mul];exact zI _ (by have:=HN9.out;omega)
   have HRT:=hid (ztm lN s (by have:=HN9.out;omega) ⟨hs1,hs2⟩ wr);have HLL:=hid (⟨hle,hce,hc0⟩:_/\_/\_);clear hk25 hD HCL AT hs1 hs2 hle hce hl0 hc0;obtain⟨ss,hss⟩:=zzX (s*s);rw[<-hss] at hwss;have HSS:=hid hss;clear hss;go_wp21;refine zzM HRT.out λw2 hw1=>?_;have hw2:=hw1.symm;subst hw2;clear hw1 HRT;by_cases hsq:ss=lN
   ·have hsq1:((ss:Int)==(lN:Int))=true:=by rw[hsq];simp
    have hcs:cN*s<=N:=by
     have h1:=hE.out;rw[<-hsq,HSS.out] at h1;have h2:(cN*s)*(cN*s)=N:=by rw[<-h1];simp only[yP,Nat.mul_left_comm]
     rw[<-h2];exact Nat.le_mul_self _
    have hwcs:IntKind.i64.wrap ((cN:Int)*(s:Int))=((cN*s:Nat):Int):=by rw[<-Int.natCast_mul];exact zI _ (by have:=HN9.out;omega)
    have HE:=hid (show C=cN*s/\L=1 by have:=HNC.out;rw[if_pos (by rw[<-HSS.out];exact hsq)] at this;exact Prod.mk.inj this);have HX:=hid (show(cN*s)*(cN*s)*1=N by
     have h1:=hE.out;rw[<-hsq,HSS.out] at h1;rw[Nat.mul_one,<-h1];simp only[yP,Nat.mul_left_comm])
    have HOF:=hid (λW hW=>z7l (cN*s) d hd0 (by have:=HN9.out;omega) HN9.out.2 W hW);clear hsq hcs hE HX HNC;generalize cN*s=cs at*
    go_wp21;refine zzM (HOF.out wr (HW.out.below hB.out)) λw3 hb3=>?_;have hB3:=hB.out.trans (hb3.mono hB.out.size);go_wp21;have hit:=zb3 1 (by omega) (by omega) w3 (HW.out.below hB3);rw[show Lib.itoa 1=zD 1 from by show Lib.itoa ((1:Nat):Int)=_;rw[Str.zad]] at hit;refine zzM hit λw4 hb4=>?_;have hB4:=hB3.trans (hb4.mono hB3.size);clear hit hb3 hb4;go_wp21;go_ret2;exact⟨by rw[HE.out.1,HE.out.2]<;>rfl,hB4⟩
   ·have hsq1:((ss:Int)==(lN:Int))=false:=beq_eq_false_iff_ne.2 (by omega)
    have HNL:=hid (show C=cN/\L=lN by have:=HNC.out;rw[if_neg (by rw[<-HSS.out];exact hsq)] at this;exact Prod.mk.inj this);have HOF:=hid (λW hW=>z7l cN d hd0 (by have:=HN9.out;have:=HLL.out;omega) HN9.out.2 W hW);have HIT:=hid (λW hW=>zb3 (lN:Int) (by omega) (by have:=HN9.out;have:=HLL.out;omega) W hW);clear hsq HNC;go_wp21;refine zzM (HOF.out wr (HW.out.below hB.out)) λw3 hb3=>?_;have hB3:=hB.out.trans (hb3.mono hB.out.size);go_wp21;refine zzM (HIT.out w3 (HW.out.below hB3)) λw4 hb4=>?_;have hB4:=hB3.trans (hb4.mono hB3.size);clear hb3 hb4;go_wp21;go_ret2;exact⟨by rw[HNL.out.1,HNL.out.2,Str.zad]<;>rfl,hB4⟩
theorem zln:zn7 1=(1,1)/\zn7 2=(1,2)/\zn7 4=(2,1):=by decide+kernel
theorem zfg:zD 1=[49]:=by rw[zae (by omega)];rfl
theorem zfc:numS 1=[49]:=by have:=zc5 1;rw[zfg] at this;exact this
end Go.Proofs.YtmeekcnlacckfaaGreatDoor
namespace Go.Proofs.YtmeekcnlacckfaaGreatDoor
open Go
variable {F:Fence} {n:Nat} {P:Program} {ops:Array Oper} {β:Type}
section
variable {vs:β->Nat->Value} {C:β->(Nat->Bool)->zA->Prop} {K:Act->zA->Prop} {k:Nat} {o:Oper} {rest:List Oper} {a:Act} {b:β}
end
end Go.Proofs.YtmeekcnlacckfaaGreatDoor
namespace Go.Proofs.YtmeekcnlacckfaaGreatDoor
open Go.RowKit Go.Shelf Lib Str Limb
attribute [local go_sem] Oper.semAt_some
theorem zai {W W':zA} (h:qL W W') {b o:Nat} {v:Value} (hc:W.cell? ⟨b,o,none⟩=some v):W'.cell? ⟨b,o,none⟩=some v:=(zac h).cell hc
end Go.Proofs.YtmeekcnlacckfaaGreatDoor
namespace Go.Proofs.YtmeekcnlacckfaaGreatDoor
open Go.RowKit Go.Shelf Lib Str Limb Geo
attribute [local go_sem] Oper.semAt_some
def cor (l:List Pt) (k:Nat):Pt:=l[k%l.length]?.getD ⟨0,0⟩
theorem zcj {W W':zA} (h:CellsKept W W') {B:Nat} {e:TypeId} {s:Nat} {v:Value} {n:Nat} {xs:List Value} (ho:W.ownsRow B e s v n xs):W'.ownsRow B e s v n xs:=by
 obtain⟨hl,ho⟩:=ho;refine⟨hl,?_⟩;rcases ho with ho|⟨g,cap,cur,e,hb,hg,hr⟩
 ·exact .inl ho
 ·exact .inr ⟨g,cap,cur,e,hb,h _ _ _ _ hg,hr⟩
theorem zmb {P:Program} (C':Value->zA->Prop) {o:Oper} {a:Act} (w:zA) (s x:Operand) (t:TypeId)
 (ho:o.op=.call {callee:=.builtin .append,args:= #[s,x],argTypes:= #[t,t]})
 (base:Nat) (e:TypeId) (i:TypeInfo) (z:Value) (size bytes:Nat) (ht:P.underlying t=some (.slice e)) (hi:P.info? e=some i) (hz:i.zero=some z)
 (hsize:i.size=size) (hby:i.bytes=bytes) (hzs:z.cells.size=size) (hsz:0<size)
 (v:Value) (n:Nat) (xs:List Value) (hs:a.eval s=v) (hown:w.ownsRow base e size v n xs)
 (ad:Addr) (m c:Nat) (news:List Value) (hx:a.eval x=.slice (some ad) m c) (hl:news.length=m*size) (hnews:∀j u,news[j]? =some u->w.cell? (ad.add j)=some u) (h1:∀u∈news,u.oneCell'=true)
 (h63:n+m<=maxLen) (hbytes:(n+m)*bytes<=140737488355328) (hbase:base<=w.heap.size)
 (h:∀v' w',w'.ownsRow base e size v' (n+m) (xs++news)->w.grownBy w' v.ownBlock->C' v' w'):zfp P C' ((execOp a.eval o).run P w):=by
 obtain⟨v',w',hr,h2,h3,h4⟩:=run_append_own (P:=P) w base t o.type e i z size bytes ht hi hz hsize hby hzs hsz v n xs hown ad m c news hl hnews h1 h63 hbytes hbase;unfold execOp;simp only[ho,resolve,invoke,builtin,Sem.run_bind,Sem.run_pure,Result.andThen_ok,List.map_toArray,List.map_cons,List.map_nil,hs,hx,hr];exact h v' w' h2 h3
end Go.Proofs.YtmeekcnlacckfaaGreatDoor
namespace Go.Proofs.YtmeekcnlacckfaaGreatDoor
open Go.RowKit Go.Shelf Lib Str Limb
attribute [local go_sem] Oper.semAt_some
theorem zx5:(Tryz.prog.info? 97).map (λi=>(i.zero,i.size,i.bytes))=some (some (.agg #[St [],St []]),2,32):=by kernel_rfl
end Go.Proofs.YtmeekcnlacckfaaGreatDoor
namespace Go.Proofs.YtmeekcnlacckfaaGreatDoor
open Go.RowKit Go.Shelf Lib Str Limb
end Go.Proofs.YtmeekcnlacckfaaGreatDoor
namespace Go.Proofs.YtmeekcnlacckfaaGreatDoor
open Go.RowKit Go.Shelf Lib Str Limb
attribute [local go_sem] Oper.semAt_some
structure BxT (w:zA) (x y:ByteArray) (W:zA):Prop where
 bel:qL w W
 bx:W.heap[w.heap.size]? =some (.cells #[.string x,.string y] 37 (0,0))
section
variable {w W W':zA} {x y:ByteArray}
theorem BxT.next (h:BxT w x y W) (hb:qL W W'):BxT w x y W':=
 ⟨h.bel.trans (hb.mono h.bel.size),(hb.block _ (Array.getElem?_eq_some_iff.1 h.bx).1).trans h.bx⟩
theorem BxT.cx (h:BxT w x y W):W.cell? ⟨w.heap.size,0,none⟩=some (.string x)/\W.cell? ⟨w.heap.size,1,none⟩=some (.string y):=by have:=h.bx;simp[World.cell?,this]
theorem BxT.start (w:zA) (x y:ByteArray):BxT w x y (w.alloc (.cells #[.string x,.string y] 37)):=⟨(zM _ w).alloc (zN _) _,zG _ _⟩
end
theorem z6v (x y:ByteArray) (a b:Int) (hx0:(x.toList==[48])=false) (ha:¬60<a) (hb:¬40<b)
 (C1:Hid (qK 54 #[.string x] (.int .i64 0)))
 (C2:Hid (qK 54 #[.string y] (.int .i64 0)))
 (L1:Hid (qK 58 #[.string x] (.int .i64 a)))
 (L2:Hid (qK 58 #[.string y] (.int .i64 b)))
 (YY:Hid ((y.toList==[49])=true\/((y.toList==[49])=false/\(y.toList==[48])=false/\
   (qK 55 #[.string y,.string ⟨#[45]⟩] (.bool false))/\
   (qK 215 #[.string y,.string ⟨#[47]⟩] (.bool false))/\
   (∀W:zA,Wd W->Pw W->qJ 120 #[.string y] W (.tuple #[.string ⟨#[49]⟩,.string y,.int .i64 0])))))
 (w:zA) (HW:Hid (Wd w)) (HP:Hid (Pw w)):
 qJ 136 #[.agg #[.string x,.string y]] w (.int .i64 0):=by
 obtain⟨W0,hW0⟩:=zzX (w.alloc (.cells #[.string x,.string y] 37));have K0:=hid (show BxT w x y W0 by rw[hW0];exact BxT.start w x y);obtain⟨c0,c1⟩:=K0.out.cx;rw[hW0] at c0 c1;have H9:=hid hW0.symm;clear hW0;go_enter Tryz.func136,Tryz.ntmps136;go_wp21;rw[H9.out];clear c0 c1 H9;refine zzM (C1.out W0 (HW.out.below K0.out.bel)) λw1 hb1=>?_;have K1:=hid (K0.out.next hb1);clear hb1 K0 C1;obtain⟨c0,c1⟩:=K1.out.cx;go_wp21;clear c0 c1;refine zzM (C2.out w1 (HW.out.below K1.out.bel)) λw2 hb2=>?_;have K2:=hid (K1.out.next hb2);clear hb2 K1 C2;obtain⟨c0,c1⟩:=K2.out.cx;go_wp21;clear c0 c1;refine zzM (L1.out w2 (HW.out.below K2.out.bel)) λw3 hb3=>?_;have K3:=hid (K2.out.next hb3);clear hb3 K2 L1;obtain⟨c0,c1⟩:=K3.out.cx;go_wp21;clear c0 c1;refine zzM (L2.out w3 (HW.out.below K3.out.bel)) λw4 hb4=>?_;have K4:=hid (K3.out.next hb4);clear hb4 K3 L2;obtain⟨c0,c1⟩:=K4.out.cx;rcases YY.out with h1|⟨h1,h0,HPX,CT,NM⟩
 ·clear YY
  go_wp21;go_ret;exact⟨rfl,K4.out.bel⟩
 ·have HPX:=hid HPX;have CT:=hid CT;have NM:=hid NM
  clear YY;go_wp21;clear c0 c1;refine zzM (HPX.out w4 (HW.out.below K4.out.bel)) λw5 hb5=>?_;have K5:=hid (K4.out.next hb5);clear hb5 K4 HPX;obtain⟨c0,c1⟩:=K5.out.cx;go_wp21;clear c0 c1;refine zzM (CT.out w5 (HW.out.below K5.out.bel)) λw6 hb6=>?_;have K6:=hid (K5.out.next hb6);clear hb6 K5 CT;obtain⟨c0,c1⟩:=K6.out.cx;go_wp21;clear c0 c1;refine zzM (NM.out w6 (HW.out.below K6.out.bel) (HP.out.below K6.out.bel)) λw7 hb7=>?_;have K7:=hid (K6.out.next hb7);clear hb7 K6 NM;obtain⟨c0,c1⟩:=K7.out.cx;go_wp21;go_ret;exact⟨rfl,K7.out.bel⟩
end Go.Proofs.YtmeekcnlacckfaaGreatDoor
namespace Go.Proofs.YtmeekcnlacckfaaGreatDoor
open Go.RowKit Go.Shelf Lib Str Limb Geo
attribute [local go_sem] Oper.semAt_some
end Go.Proofs.YtmeekcnlacckfaaGreatDoor
namespace Go.Proofs.YtmeekcnlacckfaaGreatDoor.Geo
def onR (a b p:Pt):Prop:=cmpR p.x a.x*cmpR p.x b.x<=0/\cmpR p.y a.y*cmpR p.y b.y<=0
instance (a b p:Pt):Decidable (onR a b p):=by unfold onR;infer_instance
def cr (a b c:Pt):Rat:=(b.x-a.x)*(c.y-a.y)-(b.y-a.y)*(c.x-a.x)
def le (p q:Pt):Prop:=ordP p q<=0
theorem le_trans {p q r:Pt} (h:le p q) (k:le q r):le p r:=by unfold le at*;have:=zas p q;have:=zas q r;have:=zas p r;grind
theorem le_antisymm {p q:Pt} (h:le p q) (k:le q p):p=q:=by unfold le at*;have:=zas p q;have:=zas q p;grind
end Go.Proofs.YtmeekcnlacckfaaGreatDoor.Geo
namespace Go.Proofs.YtmeekcnlacckfaaGreatDoor.Geo
end Go.Proofs.YtmeekcnlacckfaaGreatDoor.Geo
namespace Go.Proofs.YtmeekcnlacckfaaGreatDoor.Geo
end Go.Proofs.YtmeekcnlacckfaaGreatDoor.Geo
namespace Go.Proofs.YtmeekcnlacckfaaGreatDoor
open Go.RowKit Go.Shelf Lib Str Limb Geo
end Go.Proofs.YtmeekcnlacckfaaGreatDoor
namespace Go.Proofs.YtmeekcnlacckfaaGreatDoor
open Go.RowKit Go.Shelf Lib Str Limb Geo
attribute [local go_sem] Oper.semAt_some
end Go.Proofs.YtmeekcnlacckfaaGreatDoor
namespace Go.Proofs.YtmeekcnlacckfaaGreatDoor
open Go.RowKit Go.Shelf Lib Str Limb
attribute [local go_sem] Oper.semAt_some
abbrev BolQ (w:zA) (b:Bool) (e:Ending) (w':zA):Prop:=e=.returned (.bool b)/\zB w.heap.size w w'
theorem z6w (x y r:ByteArray) (is:Bool) (A:Nat) (xx:ByteArray)
 (RT:Hid (qK 121 #[.string xx,.string y] (.tuple #[.string r,.bool is,.int .i64 0])))
 (w:zA) (HW:Hid (Wd w)) (HA:Hid (w.cell? ⟨A,1,none⟩=some (.string xx))):
 zC zF 137 #[.agg #[.string x,.string y],.pointer (some ⟨A,0,none⟩)] w (BolQ w is):=by
 obtain⟨W0,hW0⟩:=zzX (w.alloc (.cells #[.string x,.string y] 37));have K0:=hid (show BxT w x y W0 by rw[hW0];exact BxT.start w x y);obtain⟨c0,c1⟩:=K0.out.cx;have a1:=(zac (show qL w W0 from K0.out.bel)).cell HA.out;rw[hW0] at c0 c1 a1;have H9:=hid hW0.symm;clear hW0;go_enter Tryz.func137,Tryz.ntmps137;go_wp21;rw[H9.out];clear c0 c1 a1 H9;refine zzM (RT.out W0 (HW.out.below K0.out.bel)) λw1 hb1=>?_;have K1:=hid (K0.out.next hb1);clear hb1 K0 RT;cases is
 ·go_wp21
  all_goals
   go_ret;exact⟨rfl,K1.out.bel⟩
 ·go_wp21
  all_goals
   go_ret;exact⟨rfl,K1.out.bel⟩
def RowTm (p:Option Addr) (n:Nat) (X Y:Nat->ByteArray) (W:zA):Prop:=∀i,i<n->∃b off,p=some ⟨b,off,none⟩/\W.cell? ⟨b,off+i*2,none⟩=some (.string (X i))/\W.cell? ⟨b,off+i*2+1,none⟩=some (.string (Y i))
theorem RowTm.keep {p:Option Addr} {n:Nat} {X Y:Nat->ByteArray} {W W':zA} (h:RowTm p n X Y W) (hc:CellsKept W W'):RowTm p n X Y W':=λi hi=>let ⟨b,off,e,h1,h2⟩:=h i hi;⟨b,off,e,hc.cell h1,hc.cell h2⟩
theorem z7r (p:Option Addr) (cap n:Nat) (X Y:Nat->ByteArray) (hl:n<=5000) (A:Nat) (C:zA->Prop) (hC:∀W W',C W->qL W W'->C W')
 (F:Hid (∀i,i<n->∀W:zA,Wd W->C W->zC zF 137 #[.agg #[.string (X i),.string (Y i)],.pointer (some ⟨A,0,none⟩)] W (BolQ W false)))
 (w:zA) (HW:Hid (Wd w)) (HC:Hid (C w)) (HP:Hid (RowTm p n X Y w)):
 qJ 129 #[.slice p n cap,.func (.func 137) #[] #[.pointer (some ⟨A,0,none⟩)]] w (.int .i64 (-1)):=by
 have HCC:=hid hC;clear hC;go_enter Tryz.func129,Tryz.ntmps129;go_wp2;go_loopw [8] (λi wr=>∃(k:Nat),k<=n/\i=.int .i64 (k:Int)/\Hid (qL w wr))
  (λi _=>n-(zL i).toNat)
 case atStart=>exact⟨0,zR _,rfl,zM _ _⟩
 case round=>
  obtain⟨k,hk,rfl,hB⟩:=hrel;by_cases hlt:k<n
  ·obtain⟨b,off,rfl,c0,c1⟩:=(HP.out.keep (zac hB.out)) k hlt
   have HF:=hid (F.out k hlt wr (HW.out.below hB.out) (HCC.out _ _ HC.out hB.out));generalize X k=x at*
   generalize Y k=y at*
   go_wp21;refine zzM HF.out λw2 hb2=>?_;have hB2:=hid (hB.out.trans (hb2.mono hB.out.size));clear hb2 HF;go_wp21;go_roundw
   case rel=>exact⟨k+1,by omega,by go_num,hB2⟩
   case measure=>simp[zL];omega
  ·have hkn:k=n:=by omega
   go_wp21;go_ret;exact⟨rfl,hB.out⟩
theorem z7s (p:Option Addr) (cap n A:Nat) (w:zA)
 (F:Hid (qJ 129 #[.slice p n cap,.func (.func 137) #[] #[.pointer (some ⟨A,0,none⟩)]] w (.int .i64 (-1)))):
 zC zF 65 #[.slice p n cap,.func (.func 137) #[] #[.pointer (some ⟨A,0,none⟩)]] w (BolQ w false):=by
 go_enter Tryz.func65,Tryz.ntmps65;go_wp21;refine zzM F.out λw1 hB=>?_;go_wp21;go_ret;exact⟨rfl,hB⟩
structure BxA (w:zA) (A:Nat) (x y:ByteArray) (W:zA):Prop where
 bel:qL w W
 bx:W.heap[A]? =some (.cells #[.string x,.string y] 37 (0,0))
section
variable {w W W':zA} {A:Nat} {x y:ByteArray}
theorem BxA.next (h:BxA w A x y W) (hb:qL W W'):BxA w A x y W':=
 ⟨h.bel.trans (hb.mono h.bel.size),(hb.block _ (Array.getElem?_eq_some_iff.1 h.bx).1).trans h.bx⟩
theorem BxA.cx (h:BxA w A x y W):W.cell? ⟨A,0,none⟩=some (.string x)/\W.cell? ⟨A,1,none⟩=some (.string y):=by have:=h.bx;simp[World.cell?,this]
end
theorem z2l (p:Option Addr) (cap n:Nat) (X Y:Nat->ByteArray) (hn:n<=16) (hcap:n<=cap)
 (RG:Hid (∀i,i<n->∀W:zA,Wd W->Pw W->qJ 136 #[.agg #[.string (X i),.string (Y i)]] W (.int .i64 0)))
 (CM:Hid (∀i,i+1<n->qK 27 #[.string (Y i),.string (Y (i+1))] (.tuple #[.int .i64 (-1),.int .i64 0])))
 (CT:Hid (∀k A,k<n->∀W:zA,Wd W->RowTm p n X Y W->W.cell? ⟨A,1,none⟩=some (.string (Y k))->zC zF 65 #[.slice p k cap,.func (.func 137) #[] #[.pointer (some ⟨A,0,none⟩)]] W (BolQ W false)))
 (w:zA) (HW:Hid (Wd w)) (HQ:Hid (Pw w)) (HP:Hid (RowTm p n X Y w)):
 qJ 70 #[.slice p n cap] w (.int .i64 0):=by
 have hn16:decide ((16:Int)<(n:Int))=false:=decide_eq_false (by omega);go_enter Tryz.func70,Tryz.ntmps70;go_wp21;clear hn16;go_loopw [13] (λi wr=>∃(k:Nat),k<=n/\i=.int .i64 (k:Int)/\Hid (qL w wr))
  (λi _=>n-(zL i).toNat)
 case atStart=>exact⟨0,zR _,rfl,zM _ _⟩
 case round=>
  obtain⟨k,hk,rfl,hB⟩:=hrel;by_cases hlt:k<n
  ·have HR:=hid λW (h:qL w W)=>HP.out.keep (zac h)
   obtain⟨b,off,hp,c0,c1⟩:=HR.out wr hB.out k hlt;subst hp;have HRG:=hid (RG.out k hlt);have HCT:=hid λA W hW hr hc=>CT.out k A hlt W hW hr hc;have HY:=hid (show ∀j,j+1=k->(qK 27 #[.string (Y j),.string (Y k)] (.tuple #[.int .i64 (-1),.int .i64 0])) from λj hj=>by subst hj;exact CM.out j hlt);obtain⟨j,hj⟩:=zzX (k-1);have HJ:=hid hj;obtain⟨x,hx⟩:=zzX (X k);obtain⟨y,hy⟩:=zzX (Y k);rw[<-hx,<-hy] at HRG;rw[<-hy] at HCT HY;rw[<-hx] at c0;rw[<-hy] at c1;clear hj hx hy;have HS:Hid (BxA w wr.heap.size x y (wr.alloc (.cells #[.string x,.string y] 37))):=hid (by
    have hal:qL wr (wr.alloc (.cells #[.string x,.string y] 37)):=(zM _ wr).alloc (zN _) _;exact⟨hB.out.trans (hal.mono hB.out.size),zG _ _⟩)
   obtain⟨g0,g1⟩:=HS.out.cx;go_wp21;clear hB c0 c1 g0 g1;obtain⟨W1,hW1⟩:=zzX (wr.alloc (.cells #[.string x,.string y] 37));rw[<-hW1] at HS⊢;clear hW1;generalize wr.heap.size=A at*
   refine zzM (HRG.out W1 (HW.out.below HS.out.bel) (HQ.out.below HS.out.bel)) λw2 hb2=>?_;have HS2:=hid (HS.out.next hb2);clear hb2 HS HRG;by_cases hk0:k=0
   ·have hkb:((k:Int)==0)=true:=by rw[hk0];rfl
    clear hk0;go_wp21;go_roundw
    case rel=>exact⟨k+1,by omega,by go_num,hid HS2.out.bel⟩
    case measure=>simp[zL];omega
   ·have hkb:((k:Int)==0)=false:=beq_eq_false_iff_ne.2 (by omega)
    have hjk:j+1=k:=by have:=HJ.out;omega
    have HCM:=hid (HY.out j hjk);have hw1:IntKind.i64.wrap ((k:Int)-1)=(j:Int):=by rw[zI _ ⟨by omega,by omega⟩];omega
    have hjn:j<n:=by omega
    have hkc:(k:Int)<=(cap:Int):=by omega
    have HRj:=hid (λW h=>(by
     obtain⟨b',off',e,d0,d1⟩:=HR.out W h j hjn;obtain⟨rfl,rfl⟩:b=b'/\off=off':=by simpa using e
     exact d1):∀W,qL w W->W.cell? ⟨b,off+j*2+1,none⟩=some (.string (Y j)))
    generalize Y j=yj at*
    clear HY hjk hk0;go_wp21;refine zbl (λ_ W=>BxA w A x y W) (by kernel_rfl) (by kernel_rfl) (HS2.out.next (zM _ _).drew) ?_;refine qR (.slice (some ⟨b,off,none⟩) n cap) ?_;refine qR (.int .i64 (k:Int)) ?_;refine qR (.int .i64 (j:Int)) ?_;simp only[zzQ];refine qR (.pointer (some ⟨b,off+j*2,none⟩)) ?_;refine qR (.pointer (some ⟨b,off+j*2+1,none⟩)) ?_;refine qR (.string yj) ?_ (hy:=λf W' hf h=>by have c0:=HRj.out _ h.bel;go_simp);simp only[zzQ];refine qR (.pointer (some ⟨A,1,none⟩)) ?_;refine qR (.string y) ?_ (hy:=λf W' hf h=>by obtain⟨c0,c1⟩:=h.cx;go_simp);simp only[zzQ]
    refine zar (.tuple #[.int .i64 (-1),.int .i64 0]) (by rfl) (λf W' hf h C' hC'=>by
     go_simp;refine zzM (HCM.out _ (HW.out.below h.bel)) λw' hb=>?_;exact⟨rfl,hC' _ (h.next hb)⟩) ?_
    refine qR (.tuple #[.int .i64 (-1),.int .i64 0]) ?_;refine qR (.int .i64 (-1)) ?_;simp only[zzQ];refine qR (.int .i64 0) ?_;refine qR (.int .i64 (-1)) ?_;refine qR (.int .i64 0) ?_;simp only[zzQ];refine zck λf W5 hf h5=>?_;have HS5:=hid h5;clear hf h5 HS2 HCM HRj;have HCC:=hid (HCT.out A W5 (HW.out.below HS5.out.bel) (HR.out _ HS5.out.bel) HS5.out.cx.2);clear HCT;go_wp21;refine zzM HCC.out λw6 hb6=>?_;have HS6:=hid (HS5.out.next hb6);clear hb6 HS5 HCC;go_wp21;go_roundw
    case rel=>exact⟨k+1,by omega,by go_num,hid HS6.out.bel⟩
    case measure=>simp[zL];omega
  ·have hkn:k=n:=by omega
   go_wp21;go_ret;exact⟨rfl,hB.out⟩
end Go.Proofs.YtmeekcnlacckfaaGreatDoor
namespace Go.Proofs.YtmeekcnlacckfaaGreatDoor
open Go.RowKit Go.Shelf
attribute [local go_sem] Oper.semAt_some
def ybu (F:Fence) (n:Nat) (P:Program) (gf:Nat) (lb:Array Value) (T:Nat->zA->zA) (Rd:Nat->zA->Prop) (R:Nat->Array Value->Prop) (len:Nat):Prop:=
 ∀(l:Nat) (J:Nat->zA->Prop) (Jx:zA->Prop) (W:zA),(∀k W1,J k W1->Rd k W1)->(∀k W1 W2,J k W1->qL W1 W2->J k W2)->
  (∀k args W1,J k W1->k<len->R k args->YieldAt F (n-1) P l args (T k W1) λe W'=>(e=.returned (.bool true)/\J (k+1) W')\/(e=.returned (.bool false)/\Jx W'))->
  J 0 W->CallsIn F n P gf (#[.func (.yield l) #[] #[]]++lb) W λe W'=>(∃v,e=.returned v)/\(J len W'\/Jx W')
theorem z95 {F:Fence} {n:Nat} {P:Program} {g:Operand} {ps:Array Tmp} {assign body:Code} {Q:Exit->Act->zA->Prop} {a:Act} {w:zA}
 (hro:F.round=none) (h1:1<=n) {gf:Nat} {lb:Array Value} (hg:a.eval g=.func (.func gf) #[] lb) (hFg:F.fn gf) (eg:∀args w,(callFunc gf args).run P w=.ok (.enter gf args) w)
 {T:Nat->zA->zA} {Rd:Nat->zA->Prop} {R:Nat->Array Value->Prop} {len:Nat} (hseq:ybu F (n-1) P gf lb T Rd R len) (hps:∀k args,R k args->args.size=ps.size)
 {B:Nat} (hB:B<=w.heap.size) (I:Nat->zA->Prop) (Ix:Code->Nat->zA->Prop) (hI:∀k W W',I k W->CellsKept W W'->zB B W W'->I k W') (hIx:∀c k W W',Ix c k W->CellsKept W W'->zB B W W'->Ix c k W')
 (hRd:∀k W,I k W->Rd k W) (h0:I 0 w) (I':Nat->zA->Prop) (hI':∀k W W',I' k W->CellsKept W W'->zB B W W'->I' k W') (hT:∀k W b,w.heap.size<=b->(T k W).heap[b]? =W.heap[b]?) (hTI:∀k W,I k W->I' k (T k W)) (a₁:Nat->Array Value->Act)
 (hassign:∀(l k:Nat) (args:Array Value) (W:zA) (K:Act->zA->Prop),R k args->K (a₁ k args) W->
   assign.wpIn (F.inRound l) (n-1-1) P (Exit.then K (λ_ _ _=>False)) {tmps:=(ps.zip args).foldl (λt (p,v)=>t.setIfInBounds p v) a.tmps,defers:=[]} W)
 (hbody:∀(l k:Nat) (args:Array Value) (W:zA),w.heap.size<=l->(∃r,W.heap[l]? =some (.loop r))->I' k W->k<len->R k args->body.wpIn (F.inRound l) (n-1-1) P (zja w.heap.size I Ix k W) (a₁ k args) W)
 (hdone:∀(D:Nat) (W:zA),w.heap.size<=D->I len W->W.heap[D]? =some (.deferred (some []))->Q .normal {a with defers:={target:=.collected D,args:= #[]}::a.defers} W)
 (hstop:∀(D:Nat) (c:Code) (k:Nat) (W:zA),w.heap.size<=D->Ix c k W->W.heap[D]? =some (.deferred (some []))->c.wpIn F n P Q {a with defers:={target:=.collected D,args:= #[]}::a.defers} W):
 (Code.rangeFunc g ps assign body).wpIn F n P Q a w:=by
 refine wpIn_rangeFunc λfn hfn=>?_;rw[hro];obtain⟨z,hz⟩:=zzX w.heap.size;let rec':LoopState->Option Code->Obj:=λst pe=>.loop {state:=st,pending:=pe,fn,tmps:=a.tmps,params:=ps,assign,body,defers:=z};have hnc:∀st pe,(rec' st pe).isCells=false:=λ_ _=>rfl;have hbk:∀st,((w.alloc (.deferred (some []))).alloc (rec' st none)).heap[z+1]? =some (rec' st none)/\((w.alloc (.deferred (some []))).alloc (rec' st none)).heap[z]? =some (.deferred (some [])):=λst=>by
  subst hz;refine⟨?_,?_⟩
  ·have:=zG (w.alloc (.deferred (some []))) (rec' st none);rwa [zH] at this
  ·exact(Below.heap_alloc _ _ _ (by simp)).trans (zG w _)
 have hstart:qL w ((w.alloc (.deferred (some []))).alloc (rec' .ready none)):=((zM _ w).alloc (zN _) _).alloc (by simp) _;let bk:LoopState->Option Code->zA->Prop:=λst pe W=>W.heap[z+1]? =some (rec' st pe)/\W.heap[z]? =some (.deferred (some []));have hturn:∀st pe st' pe' W,bk st pe W->bk st' pe' (W.putObj (z+1) (rec' st' pe')):=λst pe st' pe' W h=>
  ⟨World.putObj_heap_same (Array.getElem?_eq_some_iff.1 h.1).1,(World.putObj_heap_other (by omega)).trans h.2⟩
 refine⟨z+1,[{target:=.collected z,args:= #[]}],(w.alloc (.deferred (some []))).alloc (rec' .ready none),{target:=.fn (.func gf) lb,args:= #[.func (.yield (z+1)) #[] #[]]},(w.alloc (.deferred (some []))).alloc (rec' .ready none),gf,
  #[.func (.yield (z+1)) #[] #[]]++lb,(w.alloc (.deferred (some []))).alloc (rec' .ready none),?_,?_,?_,?_,λ_=>h1,?_⟩
 ·subst hz;exact run_enterLoop_outer _ _ _ _ _
 ·simp only[resolve,hg]
  simp[go_sem]
 ·intro f' hf';simp[Target.leads] at hf';subst hf';exact hFg
 ·simp[invoke,go_sem,eg]
 refine(hseq (z+1) (λk W=>I k W/\bk .ready none W) (λW=>∃c k,Ix c k W/\bk .done (some c) W) _ (λk W1 h=>hRd k W1 h.1) (λk W1 W2 h hb=>?_) ?_ ?_).mono ?_
 ·exact⟨hI k W1 W2 h.1 (zac hb) (hb.mono (by have:=(Array.getElem?_eq_some_iff.1 h.2.2).1;omega)),
   (hb.block _ (Array.getElem?_eq_some_iff.1 h.2.1).1).trans h.2.1,(hb.block _ (Array.getElem?_eq_some_iff.1 h.2.2).1).trans h.2.2⟩
 ·rintro k args W0 ⟨hi0,hbW0⟩ hk hR
  have hi:=hTI k W0 hi0;have hbW:bk .ready none (T k W0):=⟨(hT k W0 _ (by omega)).trans hbW0.1,(hT k W0 _ (by omega)).trans hbW0.2⟩;generalize T k W0=W at hi hbW⊢;clear hi0 hbW0;have hy:=run_yield (P:=P) (args:=args) hbW.1 (hps k args hR);refine⟨fn,_,assign,body,hy,roundIn_of_wpIn hfn (hassign _ k args W _ hR ?_)⟩;refine⟨_,run_beginRound hbW.1 rfl,?_⟩;have hb2:bk .busy none (W.putObj (z+1) (rec' .busy none)):=hturn _ _ _ _ _ hbW;have hi2:=hI' k _ _ hi (zcw (rec' .busy none) hbW.1 rfl) (zcx (B:=B) (rec' .busy none) hbW.1 (by omega));refine wpIn_mono (hbody _ k args _ (by omega) ⟨_,hb2.1⟩ hi2 hk hR) ?_;have fin:∀(jump:Option Code) (W3:zA),KeepsFrom w.heap.size (W.putObj (z+1) (rec' .busy none)) W3->
   (Instr.endRound (z+1) jump).run P W3=.ok (.bool jump.isNone) (W3.putObj (z+1) (rec' (if jump.isNone then .ready else .done) jump))/\
   CellsKept W3 (W3.putObj (z+1) (rec' (if jump.isNone then .ready else .done) jump))/\zB B W3 (W3.putObj (z+1) (rec' (if jump.isNone then .ready else .done) jump))/\
   bk (if jump.isNone then .ready else .done) jump (W3.putObj (z+1) (rec' (if jump.isNone then .ready else .done) jump)):=λjump W3 hk3=>by
   have hb3:bk .busy none W3:=⟨hk3.same _ _ (by omega) hb2.1 rfl,hk3.same _ _ (by omega) hb2.2 rfl⟩;exact⟨run_endRound jump hb3.1,zcw _ hb3.1 rfl,zcx _ hb3.1 (by omega),hturn _ _ _ _ _ hb3⟩
  rintro e a3 W3 hp
  cases e with
  |normal=>
   obtain⟨hk3,hi3⟩:=hp;obtain⟨hr,hc,hbl,hb4⟩:=fin none W3 hk3;exact⟨_,_,hr,.inl ⟨rfl,hI _ _ _ hi3 hc hbl,hb4⟩⟩
  |ret=>
   obtain⟨hk3,hi3⟩:=hp;obtain⟨hr,hc,hbl,hb4⟩:=fin (some .ret) W3 hk3;exact⟨_,_,hr,.inr ⟨rfl,_,_,hIx _ _ _ _ hi3 hc hbl,hb4⟩⟩
  |exit id=>
   obtain⟨hk3,hi3⟩:=hp;obtain⟨hr,hc,hbl,hb4⟩:=fin (some (.exit id)) W3 hk3;exact⟨_,_,hr,.inr ⟨rfl,_,_,hIx _ _ _ _ hi3 hc hbl,hb4⟩⟩
  |goto t=>
   obtain⟨hk3,hi3⟩:=hp;obtain⟨hr,hc,hbl,hb4⟩:=fin (some (.goto t)) W3 hk3;exact⟨_,_,hr,.inr ⟨rfl,_,_,hIx _ _ _ _ hi3 hc hbl,hb4⟩⟩
  |panic ch=>exact hp.elim
  |outgrown=>exact hp.elim
 ·exact⟨hI 0 _ _ h0 (zac hstart) (hstart.mono hB),hbk .ready⟩
 ·rintro e W2 ⟨⟨v,rfl⟩,(⟨hi,hb4⟩|⟨c,k,hi,hb4⟩)⟩
  ·exact⟨none,_,run_endLoop hb4.1 (by simp),hdone z _ (by omega) (hI _ _ _ hi (zcw _ hb4.1 rfl) (zcx _ hb4.1 (by omega))) ((World.putObj_heap_other (by omega)).trans hb4.2)⟩
  ·exact⟨some c,_,run_endLoop hb4.1 (by simp),hstop z c k _ (by omega) (hIx _ _ _ _ hi (zcw _ hb4.1 rfl) (zcx _ hb4.1 (by omega))) ((World.putObj_heap_other (by omega)).trans hb4.2)⟩
end Go.Proofs.YtmeekcnlacckfaaGreatDoor
namespace Go.Proofs.YtmeekcnlacckfaaGreatDoor
open Go.RowKit Go.Shelf Lib Str Limb
attribute [local go_sem] Oper.semAt_some
theorem z4o (x y q r:Int) (hx0:0<=x) (hy0:0<y) (hd:x.tdiv y=q) (hm:x.tmod y=r) (hr0:0<=r) (hz:¬r=0) (hqa:q.natAbs<=x.natAbs) (hra:r.natAbs<=x.natAbs) (hx:(zE x).length<=18) (hy:(zE y).length<=18) (w:zA) (hw:Wd w):
 qJ 118 #[St (zE x),St (zE y)] w (.tuple #[St (zE q),St (zE r),.int .i64 0]):=by
 obtain⟨x1,x2⟩:=lt18 hx;obtain⟨y1,y2⟩:=lt18 hy;have hb:=λW=>zdh x y (zO (zbf (by omega)) (by omega)) (zO (zbf (by omega)) (by omega)) W;have hs:=λW=>zdy x y hx hy W;have hit:=λW hW=>zb3 q (by omega) (by omega) W hW;have hiz:=λW hW=>zb3 r (by omega) (by omega) W hW;have w1:IntKind.i64.wrap (x.tdiv y)=q:=by rw[hd];exact zI _ (by omega)
 have w2:IntKind.i64.wrap (x.tmod y)=r:=by rw[hm];exact zI _ (by omega)
 have hme:¬x%y=0:=by rw[<-Int.tmod_eq_emod_of_nonneg hx0,hm];exact hz
 have hre:x%y=r:=by rw[<-Int.tmod_eq_emod_of_nonneg hx0,hm]
 have hrn:decide (x%y<0)=false:=decide_eq_false (by rw[hre];omega);have HRE:=hid hre;clear hre;have hyl:decide (y<0)=false:=decide_eq_false (by omega);have hyn:(zE y==[48])=false:=by rw[beq_eq_false_iff_ne,<-zb9];exact λh=>by have:=zdo h;omega
 have hne:¬zE y=[48]:=by simpa using hyn
 have hy1:¬y=0:=by omega
 have HB:=hid hb;clear hb;have HIT:=hid hit;clear hit;have HIZ:=hid hiz;clear hiz;have HS:=hid hs;have HQD:=hid hd;have HMD:=hid hm;clear hs hx hy hd hm hqa hra;have HW:=hid hw;clear hw;go_enter Tryz.func118,Tryz.ntmps118;go_wp21;refine zzM (HB.out w) λw3 hB1=>?_;go_wp21;refine zzM (HS.out w3) λw4 hb2=>?_;have hB2:=hB1.trans (hb2.mono hB1.size);clear hb2 hB1;go_wp21
 (refine wp_region_quiet_lit (by kernel_rfl) (by kernel_rfl) (WQ.out ?_);(repeat(first|(apply WQ.read (by rfl);(focus(rintro W ⟨n,rfl⟩;go_simp;try with_reducible rfl));try simp only[zzQ])|(apply WQ.skip (by rfl);try simp only[zzQ])));refine WQ.nil ?_;rintro _ ⟨nq,rfl⟩)
 go_wp21;have hB3:=zao hB2 nq;refine zzM (HIT.out (w4.drewN nq) (HW.out.below hB3)) λw5 hb5=>?_;have hB5:=hB3.trans (hb5.mono hB3.size);clear hb5 hB3 hB2;go_wp21;rw[HRE.out];refine zzM (HIZ.out w5 (HW.out.below hB5)) λw6 hb6=>?_;have hB6:=hB5.trans (hb6.mono hB5.size);clear hb6 hB5;go_wp21;go_ret3;exact⟨rfl,hB6⟩
theorem z58 (x y q r:Int) (hx0:0<=x) (hy0:0<y) (hq:((x.natAbs/y.natAbs:Nat):Int)=q) (hr:((x.natAbs%y.natAbs:Nat):Int)=r) (hx:digs x<=300) (hy:digs y<=300) (h:18<(zE x).length\/18<(zE y).length) (w:zA) (hw:Wd w):
 qJ 118 #[St (zE x),St (zE y)] w (.tuple #[St (zE q),St (zE r),.int .i64 0]):=by
 have hb:=λW=>zdh x y hx hy W;have hs:=λW=>ze8 x y h W;have r1:=λW=>zc3 x W (by omega);have r2:=λW=>zc3 y W (by omega);have l1:=zb4 (z:=x) (k:=100) (by omega) (by omega);have l2:=zb4 (z:=y) (k:=100) (by omega) (by omega);have hqd:digs q<=300:=by
  have hqa:q.natAbs<=x.natAbs:=by rw[<-hq,Int.natAbs_natCast];exact Nat.div_le_self _ _
  rw[za3 _ _ (by omega)] at hx⊢;exact Nat.lt_of_le_of_lt hqa hx
 have hrd:digs r<=300:=by
  have hra:r.natAbs<=x.natAbs:=by rw[<-hr,Int.natAbs_natCast];exact Nat.mod_le _ _
  rw[za3 _ _ (by omega)] at hx⊢;exact Nat.lt_of_le_of_lt hra hx
 have lr:=zd6 (B:=B9) (by decide) (Nat.mod_le x.natAbs y.natAbs);have hyn:(zE y==[48])=false:=by rw[beq_eq_false_iff_ne,<-zb9];exact λh=>by have:=zdo h;omega
 have hne:¬zE y=[48]:=by simpa using hyn
 have hm0:y.natAbs≠0:=by omega
 have lq:=zd6 (B:=B9) (by decide) (Nat.div_le_self x.natAbs y.natAbs);have HB:=hid hb;clear hb;have HS:=hid hs;clear hs hx hy h;have HW:=hid hw;clear hw;have R1:=hid r1;have R2:=hid r2;clear r1 r2;have S1:=hid hq;have S2:=hid hr;clear hq hr;go_enter Tryz.func118,Tryz.ntmps118;go_wp21;refine zzM (HB.out w) λw1 hB1=>?_;go_wp21;refine(HS.out w1).mono ?_;rintro e w2 ⟨rfl,rfl⟩;go_wp21;refine(R1.out w1).mono ?_;rintro e w2 ⟨vx,rfl,hvx,hb2⟩;have hB2:=hB1.trans (hb2.mono hB1.size);clear hb2 hB1;obtain⟨px,kx,cx,rfl, -⟩:=zbx hvx;have HVX:=hid hvx;clear hvx;go_wp21;refine(R2.out w2).mono ?_;rintro e w3 ⟨vy,rfl,hvy,hb3⟩;have hvx:=HVX.out.below hb3;have hB3:=hB2.trans (hb3.mono hB2.size);clear hb3 hB2 HVX;obtain⟨py,ky,cy,rfl, -⟩:=zbx hvy;have HVX:=hid hvx;have HVY:=hid hvy;clear hvx hvy;have hby2:decide (y<0)=false:=by simp;omega
 have hbx2:decide (x<0)=false:=by simp;omega
 rw[hby2,hbx2] at*
 clear hbx2 hby2;go_wp21;have hB4:=(hB3.alloc hB3.size (.cells #[.bool false,.slice px kx cx] 161)).alloc (by have:=hB3.size;simp;omega) (.cells #[.bool false,.slice py ky cy] 161);have hb4:qL w3 ((w3.alloc (.cells #[.bool false,.slice px kx cx] 161)).alloc (.cells #[.bool false,.slice py ky cy] 161)):=((zM _ _).alloc (zN _) _).alloc (by simp) _;have b1k:=(Below.heap_alloc (w3.alloc (.cells #[.bool false,.slice px kx cx] 161)) (.cells #[.bool false,.slice py ky cy] 161) w3.heap.size (by simp)).trans (zG w3 (.cells #[.bool false,.slice px kx cx] 161));have b2k:=zG (w3.alloc (.cells #[.bool false,.slice px kx cx] 161)) (.cells #[.bool false,.slice py ky cy] 161);rw[zH] at b2k;refine(znf (.slice px kx cx) (.slice py ky cy) _ _ _ (HVX.out.below hb4) (HVY.out.below hb4) (by omega) (by omega) hm0).mono ?_;rintro e w5 ⟨v1,v2,rfl,hs1,hs2,hb5⟩;obtain⟨p1,k1,c1,rfl, -⟩:=zbx hs1;obtain⟨p2,k2,c2,rfl,hk2⟩:=zbx hs2;clear hk2;have hB5:=hB4.trans (hb5.mono hB4.size);have b1k:=(hb5.block w3.heap.size (by simp only[zH];omega)).trans b1k;have b2k:=(hb5.block (w3.heap.size+1) (by simp only[zH];omega)).trans b2k;have c1k:w5.cell? ⟨w3.heap.size,0,none⟩=some (.bool false):=by simp[World.cell?,b1k]
 have c2k:w5.cell? ⟨w3.heap.size+1,0,none⟩=some (.bool false):=by simp[World.cell?,b2k]
 have lz:w3.heap.size+1<w5.heap.size:=(Array.getElem?_eq_some_iff.1 b2k).1;have HV1:=hid hs1;have HV2:=hid hs2;clear hb4 hB4 hb5 hs1 hs2 hB3 HVX HVY b1k b2k;have rs:=zez (false !=false) (.slice p1 k1 c1) (x.natAbs/y.natAbs) w5 (HW.out.below hB5) HV1.out (by omega);rw[show sgn (false !=false) (x.natAbs/y.natAbs)=q from S1.out,zcf hqd,zcg hqd] at rs;rw[Bool.bne_false] at rs;have RS:=hid rs;clear rs;go_wp21;refine zzM RS.out λw6 hb6=>?_;have hB6:=hB5.trans (hb6.mono hB5.size);have d1:=(hb6.cell (p:=⟨w3.heap.size,0,none⟩) (by show w3.heap.size<w5.heap.size;omega)).trans c1k;have d2:=(hb6.cell (p:=⟨w3.heap.size+1,0,none⟩) lz).trans c2k;have rt:=zez false (.slice p2 k2 c2) (x.natAbs%y.natAbs) w6 (HW.out.below hB6) (HV2.out.below hb6) (by omega);rw[show sgn false (x.natAbs%y.natAbs)=r from S2.out,zcf hrd,zcg hrd] at rt;have RT:=hid rt;clear rt hb6 c1k c2k hB5;go_wp21;refine zzM RT.out λw7 hb7=>?_;have hB7:=hB6.trans (hb7.mono hB6.size);clear hb7 hB6;go_wp21;go_ret3;exact⟨rfl,hB7⟩
theorem zzn (a b:Nat) (hb:0<b) (ha:(zD a).length<=300) (hb3:(zD b).length<=300) (w:zA) (hw:Wd w):
 qJ 118 #[St (zD a),St (zD b)] w (.tuple #[St (zD (a/b)),St (zD (a%b)),.int .i64 0]):=by
 have e1:digs (a:Int)<=300:=by rw[zd9];exact ha
 have e2:digs (b:Int)<=300:=by rw[zd9];exact hb3
 rw[<-Str.zad a,<-Str.zad b,<-Str.zad (a/b),<-Str.zad (a%b)];by_cases hz:a%b=0
 ·rw[hz,show zE ((0:Nat):Int)=[48] from zb9]
  refine zky a b ((a/b:Nat):Int) ?_ (by omega) e1 e2 w hw;have:=Nat.div_add_mod a b;rw[hz,Nat.add_zero,yP] at this;rw[<-Int.natCast_mul,this]
 by_cases h:(zE a).length<=18/\(zE b).length<=18
 ·have hq:=Nat.div_le_self a b
  have hr:=Nat.mod_le a b;exact z4o a b ((a/b:Nat):Int) ((a%b:Nat):Int) (by omega) (by omega) (by rw[Int.ofNat_tdiv]) (by rw[Int.ofNat_tmod]) (by omega) (by omega) (by rw[Int.natAbs_natCast,Int.natAbs_natCast];exact hq) (by rw[Int.natAbs_natCast,Int.natAbs_natCast];exact hr) h.1 h.2 w hw
 ·exact z58 a b ((a/b:Nat):Int) ((a%b:Nat):Int) (by omega) (by omega) rfl rfl e1 e2 (by omega) w hw
theorem zzq (a b:Nat) (hb:0<b) (ha:(zD a).length<=300) (hb3:(zD b).length<=300) (w:zA) (hw:Wd w):
 qJ 258 #[St (zD a),St (zD b)] w (.tuple #[St (zD (a/b)),St (zD (a%b))]):=by
 have hd:=zzn a b hb ha hb3 w hw;generalize zD a=x at*
 generalize zD b=y at*
 generalize zD (a/b)=q at*
 generalize zD (a%b)=r at*
 have HD:=hid hd;clear hd;go_enter Tryz.func258,Tryz.ntmps258;go_wp21;refine zzM HD.out λw1 hb1=>?_;have B1:=hid hb1;clear hb1;go_wp21;go_ret2;exact⟨rfl,B1.out⟩
theorem zs4 (x y:Nat) (hx:(zD x).length<=300) (hy:(zD y).length<=300) (hxy:(zD (x*y)).length<=300) (w:zA) (hw:Wd w):
 qJ 189 #[St (zD x),St (zD y)] w (St (zD (x*y))):=by
 have:=z6d (x:Int) (y:Int) (by rw[zd9];exact hx) (by rw[zd9];exact hy) (by rw[<-Int.natCast_mul,zd9];exact hxy) w hw;rwa [<-Int.natCast_mul,Str.zad,Str.zad,Str.zad] at this
theorem zya {F:Fence} {n:Nat} {P:Program} {ops:Array Oper} {rest:List Oper} {o:Oper} {a:Act} {w:zA} {Q:Exit->Act->zA->Prop} (hgd:o.guard=none) (ty:TypeId) (x:Operand) (ho:o.op=.load ty x)
 (g:Nat) (hx:a.eval x=.pointer (some ⟨g,0,none⟩)) (t:TypeId) (cs:Array Value) (fr:Nat×Nat) (d:TypeDesc) (hg:w.heap[g]? =some (.cells cs t fr))
 (hu:P.underlying ty=some d) (hd:(match d with| .struct _| .array _ _=>true|_=>false)=true) (hi:(P.info? ty).map (·.size)=some cs.size)
 (h:wpListIn F n P ops Q rest (a.put o.dst (.agg cs)) w):wpListIn F n P ops Q (o::rest) a w:=by
 refine wpListIn_plain hgd λK hK'=>?_;unfold Oper.wpIn;refine⟨?_,?_⟩
 ·simp[Oper.about,ho]
 ·rw[Oper.semAt_plain F _ _ (by rw[ho];intro c hc';cases hc')]
  simp only[execOp,ho,hx,Instr.loadAt,Instr.sureAddr,Sem.run_bind,Sem.run_pure,Result.andThen_ok,run_loadVar_row w g t ty cs fr d hg hu hd hi];exact hK' _ _ h
def sqY:Nat->Nat->Nat->List (Nat×Nat)
 |0,_,_=>[]
 |f+1,i,l=>if 25<=i then[] else if prN i*prN i∣l then(prN i,l/(prN i*prN i))::sqY f i (l/(prN i*prN i)) else sqY f (i+1) l
structure SqY (i l:Nat) (Y:List (Nat×Nat)):Prop where
 out:∃f,25-i+l<=f/\Y=sqY f i l
theorem z65 (i l:Nat):∃Y,SqY i l Y:=⟨_,⟨_,zN _,rfl⟩⟩
theorem SqY.done {l:Nat} {Y:List (Nat×Nat)} (h:SqY 25 l Y):Y=[]:=by
 obtain⟨f, -,e⟩:=h.out;subst e
 cases f with
 |zero=>rfl
 |succ f=>rw[sqY,if_pos (by omega)]
theorem SqY.skip {i l:Nat} {Y:List (Nat×Nat)} (h:SqY i l Y) (hi:i<25) (hd:¬prN i*prN i∣l):SqY (i+1) l Y:=by
 obtain⟨f,hf,e⟩:=h.out
 cases f with
 |zero=>omega
 |succ f=>
  rw[sqY,if_neg (by omega),if_neg hd] at e;exact⟨f,by omega,e⟩
theorem SqY.take {i l:Nat} {Y:List (Nat×Nat)} (h:SqY i l Y) (hi:i<25) (hl:0<l) (hd:prN i*prN i∣l):∃Y',Y=(prN i,l/(prN i*prN i))::Y'/\SqY i (l/(prN i*prN i)) Y':=by
 obtain⟨f,hf,e⟩:=h.out;have h2:=(zw4 i hi).1;have hpp:4<=prN i*prN i:=Nat.mul_le_mul h2 h2;have hlt:l/(prN i*prN i)<l:=Nat.div_lt_self hl (by omega)
 cases f with
 |zero=>omega
 |succ f=>
  rw[sqY,if_neg (by omega),if_pos hd] at e;exact⟨_,e,f,by omega,rfl⟩
def sqX (l:Nat) (Y:List (Nat×Nat)):Nat->Nat
 |0=>l
 |k+1=>(Y[k]?.getD (0,0)).2
def sqC (Y:List (Nat×Nat)):Nat->Nat
 |0=>1
 |k+1=>sqC Y k*(Y[k]?.getD (0,0)).1
theorem zy3 (l:Nat) (y:Nat×Nat) (Y:List (Nat×Nat)):∀k,sqX l (y::Y) (k+1)=sqX y.2 Y k
 |0=>rfl
 |_+1=>rfl
theorem zza (y:Nat×Nat) (Y:List (Nat×Nat)):∀k,sqC (y::Y) (k+1)=y.1*sqC Y k
 |0=>by simp[sqC]
 |k+1=>by
  rw[sqC,zza y Y k,sqC,Nat.mul_assoc];rfl
theorem SqY.law {f:Nat}:∀{i l:Nat} {Y:List (Nat×Nat)},i<=25->0<l->25-i+l<=f->SqY i l Y->
 (∀k,k<=Y.length->sqC Y k*sqC Y k*sqX l Y k=l)/\∀c,zro (prL.drop i) (c,l)=(c*sqC Y Y.length,sqX l Y Y.length):=by
 induction f with
 |zero=>intro i l Y hi hl hf;omega
 |succ f ih=>
  intro i l Y hi hl hf h;by_cases h25:i=25
  ·subst h25
   obtain rfl:=h.done;refine⟨λk hk=>?_,λc=>?_⟩
   ·obtain rfl:k=0:=by simpa using hk
    simp[sqC,sqX]
   ·show zro [] (c,l)=_
    simp[zro,sqC,sqX]
  ·have hlt:i<25:=by omega
   obtain⟨h2, -⟩:=zw4 i hlt;by_cases hd:prN i*prN i∣l
   ·obtain⟨Y',rfl,h'⟩:=h.take hlt hl hd
    have hpp:4<=prN i*prN i:=Nat.mul_le_mul h2 h2;have hl1:0<l/(prN i*prN i):=Nat.div_pos (Nat.le_of_dvd hl hd) (by omega);have hl2:l/(prN i*prN i)<l:=Nat.div_lt_self hl (by omega);obtain⟨a1,a2⟩:=ih hi hl1 (by omega) h';have e:prN i*prN i*(l/(prN i*prN i))=l:=Nat.mul_div_cancel' hd;refine⟨λk hk=>?_,λc=>?_⟩
    ·cases k with
     |zero=>simp[sqC,sqX]
     |succ k=>
      rw[zy3,zza];have:=a1 k (by simpa using hk);dsimp only;generalize sqC Y' k=C at*
      generalize sqX (l/(prN i*prN i)) Y' k=X at*
      generalize prN i=p at*
      generalize l/(p*p)=m at*
      subst this;rw[<-e];ac_rfl
    ·have hdrop:=z79 i hlt
     have h3:=a2 (c*prN i);rw[hdrop] at h3⊢;show zro (prL.drop (i+1)) (zkk (prN i) (c,l))=_;rw[z7m h2 hl hd];have h4:zro (prL.drop (i+1)) (zkk (prN i) (c*prN i,l/(prN i*prN i)))=_:=h3;rw[h4,yA,zy3,zza,Nat.mul_assoc]
   ·have h':=h.skip hlt hd
    obtain⟨a1,a2⟩:=ih (i:=i+1) (by omega) hl (by omega) h';refine⟨a1,λc=>?_⟩;rw[z79 i hlt];show zro (prL.drop (i+1)) (zkk (prN i) (c,l))=_;rw[z78 hd];exact a2 c
theorem ycl {k:Nat} {y:Nat×Nat} {Y Y':List (Nat×Nat)} (h:Y.drop k=y::Y'):Y[k]? =some y/\k<Y.length/\Y.drop (k+1)=Y':=by
 have h1:k<Y.length:=by
  refine Classical.byContradiction λhn=>?_;rw[List.drop_eq_nil_of_le (by omega)] at h;cases h
 rw[List.drop_eq_getElem_cons h1] at h;injection h with h2 h3;exact⟨by rw[yB h1,h2],h1,h3⟩
theorem yc3 (x m:Nat):(zD (x%m)==[48])=decide (m∣x):=by
 have z:zD 0=[48]:=by rw[zae (by omega)];rfl
 by_cases h:m∣x
 ·rw[decide_eq_true h,Nat.mod_eq_zero_of_dvd h,z];rfl
 ·rw[decide_eq_false h,beq_eq_false_iff_ne,<-z]
  exact λe=>h (Nat.dvd_of_mod_eq_zero (zfk e))
theorem z9g (n:Nat) (hn:1<=n) (Bs N:Nat) (Y:List (Nat×Nat)) (hY:SqY 0 N Y) (hN:0<N) (hN9:(zD N).length<=200) (Rd:Nat->zA->Prop)
 (hRd:∀k W,Rd k W->Wd W/\Pw W/\W.heap[Bs]? =some (.cells #[St (zD (sqX N Y k))] 9 (0,0))):
 ybu Fence.wide n zF 257 #[.pointer (some ⟨Bs,0,none⟩)] (λk W=>W.setCell ⟨Bs,0,none⟩ (St (zD (sqX N Y (k+1))))) Rd (λk args=>args= #[St (zD (Y[k]?.getD (0,0)).1),St (zD (sqX N Y (k+1)))]) Y.length:=by
 intro lp J Jx W hJr hJb hYl h0;refine callsIn_of_wp Tryz.func257 rfl trivial ?_ rfl;simp only[Tryz.ntmps257,List.size_toArray,yA,List.length_nil,Nat.reduceAdd,Nat.reduceSub,Array.replicate_succ,Array.replicate_zero,List.push_toArray,List.append_toArray,List.nil_append,List.cons_append];obtain⟨hwd,hpw,hbx⟩:=hRd 0 W (hJr 0 W h0);obtain⟨tt,fz,hblk⟩:=hpw.block;have HRd:=hid λk W h=>hRd k W (hJr k W h);clear hRd hJr;have HYL:=hid hYl;clear hYl;have HJB:=hid hJb;clear hJb hwd hpw hbx;have HLAW:=hid (SqY.law (f:=25-0+N) (by omega) hN (zN _) hY).1;have H0:=hid h0;clear h0;have HSY:=hid (show SqY 0 (sqX N Y 0) (Y.drop 0) from hY);clear hY;gi_wp2_with (refine zya rfl 287 (.global 1) rfl 1 rfl tt prV fz (.array 25 9) hblk (by kernel_rfl) rfl (by kernel_rfl) ?_);gi_loopw [9] (λi wr=>∃(j k:Nat),j<=25/\i=.int .i64 (j:Int)/\Hid (k<=Y.length/\SqY j (sqX N Y k) (Y.drop k))/\Hid (J k wr))
  (λi _=>25-(zL i).toNat)
 case atStart=>exact⟨0,0,by omega,rfl,hid ⟨zR _,HSY.out⟩,H0⟩
 case round=>
  clear H0 HSY hblk;obtain⟨j,k,hj,rfl,hS,hJ⟩:=hrel;by_cases hlt:j<25
  ·have hx:=λw=>z25 j hlt w
   obtain⟨g1,g2⟩:=zw4 j hlt;rw[z1r j hlt] at hx;obtain⟨p,hp⟩:=zzX (prN j);have hpp:p*p<=97*97:=by rw[hp];exact Nat.mul_le_mul g2 g2
   have hml:=hid (zs4 p p (zO (zki (k:=5) (by omega) (by omega)) (by omega)) (zO (zki (k:=5) (by omega) (by omega)) (by omega)) (zO (zki (k:=5) (by omega) (by omega)) (by omega)) wr (HRd.out k wr hJ.out).1);rw[<-hp] at hx g1;have HP:=hid hp;have HPP:=hid (⟨hpp,g1⟩:_/\_);clear hpp g1 g2 hp;generalize hps:zD p=ps at*
   generalize hpq:zD (p*p)=pq at*
   have HPS:=hid hps;have HPQ:=hid hpq;clear hps hpq;gi_wp2_with fail;refine⟨trivial,(callsIn_wide.2 hml.out).mono ?_⟩;rintro e w2 ⟨rfl,hb2⟩;have hJ2:=hid (HJB.out k wr w2 hJ.out hb2);clear hb2 hml hJ hx;gi_wp2_with fail;gi_loopg [] (Y.length-k) (λm wr=>∃(k:Nat),Hid (k<=Y.length/\Y.length-k=m/\SqY j (sqX N Y k) (Y.drop k))/\Hid (J k wr))
   case atStart=>exact⟨k,hid ⟨hS.out.1,rfl,hS.out.2⟩,hJ2⟩
   case round=>
    clear hS hJ2;obtain⟨k,hS,hJ⟩:=hrel;obtain⟨hk,hm,hsy⟩:=hS.out;obtain⟨x,hx⟩:=zzX (sqX N Y k);have hx0:0<x/\x<=N:=by
     have:=HLAW.out k hk;rw[<-hx] at this;have h3:0<x:=yS λe=>by rw[e] at this;simp at this;omega
     refine⟨h3,?_⟩;rw[<-this];exact Nat.le_mul_of_pos_left _ (yS λe=>by rw[e] at this;simp at this;omega)
    rw[<-hx] at hsy;obtain⟨hwd, -,hbx⟩:=HRd.out k _ hJ.out;rw[<-hx] at hbx;have hlen:(zD x).length<=300:=zO ((zaf x 200 (by omega)).2 (Nat.lt_of_le_of_lt hx0.2 ((zaf N 200 (by omega)).1 hN9))) (by omega);have hquo:=zzq x (p*p) (Nat.mul_pos (by have:=HPP.out;omega) (by have:=HPP.out;omega)) hlen (zO (zki (k:=5) (by omega) (by have:=HPP.out;omega)) (by omega)) _ hwd;rw[HPQ.out] at hquo;have HQU:=hid hquo;have cb:wr.cell? ⟨Bs,0,none⟩=some (St (zD x)):=by rw[zJ hbx];rfl
    clear hquo hwd hbx;have hdv:=yc3 x (p*p);by_cases hd:p*p∣x
    ·rw[decide_eq_true hd] at hdv
     obtain⟨Y',e1,e2⟩:=hsy.take hlt hx0.1 (by rw[<-HP.out];exact hd);rw[<-HP.out] at e1 e2;obtain⟨a1,a2,a3⟩:=ycl e1;have hX1:sqX N Y (k+1)=x/(p*p):=by show(Y[k]?.getD (0,0)).2=_;rw[a1];rfl
     have hS2:=hid (⟨a2,by omega,by rw[hX1,a3];exact e2⟩:k+1<=Y.length/\Y.length-(k+1)=gk-1/\SqY j (sqX N Y (k+1)) (Y.drop (k+1)));have hYL:=λW h=>HYL.out k _ W h a2 rfl;rw[hX1,a1] at hYL;dsimp only[Option.getD_some] at hYL;rw[HPS.out] at hYL;have HM:=hid (show 0<gk by omega);clear e1 e2 a1 a2 a3 hd hsy hx0 hlen hm hk hS;generalize zD (x/(p*p))=q at*
     generalize zD (x%(p*p))=r at*
     generalize zD x=xs at*
     have HYL2:=hid hYL;clear hYL hX1 hx;gi_wp2_with fail;refine⟨trivial,(callsIn_wide.2 HQU.out).mono ?_⟩;rintro e w3 ⟨rfl,hb3⟩;have hJ3:=HJB.out k _ w3 hJ.out hb3;have hbx3:=(HRd.out k w3 hJ3).2.2;have fb:=Go.Joins.unfrozen_of_block hbx3 0;have cb3:w3.cell? ⟨Bs,0,none⟩=some (St (zD (sqX N Y k))):=by rw[zJ hbx3];rfl
     obtain⟨fn,tmps,assign,body,hy,hR⟩:=HYL2.out w3 hJ3;clear hbx3 hb3 hJ3 HQU HYL2;generalize zD (sqX N Y k)=xs3 at*
     gi_wp2_with fail;refine hR.mono ?_;rintro e W3 (⟨rfl,hJ3⟩|⟨rfl,hJx3⟩)
     ·have HJ3:=hid hJ3;clear hJ3
      gi_wp2;go_roundg (gk-1)
      case measure=>have:=HM.out;omega
      case rel=>exact⟨k+1,hS2,HJ3⟩
     ·have HJx3:=hid hJx3;clear hJx3
      gi_wp2;refine bodyPost_ret (results_none rfl _ _ _) rfl ?_;exact⟨⟨_,rfl⟩,.inr HJx3.out⟩
    ·rw[decide_eq_false hd] at hdv
     have hS2:=hid (⟨hk,hsy.skip hlt (by rw[<-HP.out];exact hd)⟩:k<=Y.length/\SqY (j+1) x (Y.drop k));rw[hx] at hS2;clear hd hsy hx0 hlen hm hk hS;generalize zD (x/(p*p))=q at*
     generalize zD (x%(p*p))=r at*
     generalize zD x=xs at*
     clear hx;gi_wp2_with fail;refine⟨trivial,(callsIn_wide.2 HQU.out).mono ?_⟩;rintro e w3 ⟨rfl,hb3⟩;have hJ3:=hid (HJB.out k _ w3 hJ.out hb3);clear hb3 HQU cb;gi_wp2_with fail;go_roundw
     case rel=>exact⟨j+1,k,by omega,by go_num,hS2,hJ3⟩
     case measure=>simp[zL];omega
  ·obtain rfl:j=25:=by omega
   obtain⟨hk,hsy⟩:=hS.out;have hkl:k=Y.length:=by
    have:=hsy.done;have h2:(Y.drop k).length=0:=by rw[this];rfl
    rw[List.length_drop] at h2;omega
   have hJ2:=hJ.out;rw[hkl] at hJ2;have HJ2:=hid hJ2;clear hsy hS hJ hkl hJ2 hk;gi_wp2;go_end0;exact⟨⟨_,rfl⟩,.inl HJ2.out⟩
theorem z8s (x:List UInt8) (w:zA):
 zC zF 190 #[St x] w λe w'=>e=.returned (.func (.func 257) #[] #[.pointer (some ⟨w.heap.size,0,none⟩)])/\w.alloc (.cells #[St x] 9)=w':=by
 go_enter Tryz.func190,Tryz.ntmps190;go_wp2;go_ret;exact⟨rfl,rfl⟩
theorem z67 {g:Operand} {ps:Array Tmp} {assign body:Code} {Q:Exit->Act->zA->Prop} {a:Act} {w:zA}
 (Bs N:Nat) (Y:List (Nat×Nat)) (hY:SqY 0 N Y) (hN:0<N) (hN9:(zD N).length<=200)
 (hg:a.eval g=.func (.func 257) #[] #[.pointer (some ⟨Bs,0,none⟩)]) (hps:ps.size=2)
 {B:Nat} (hB:B<=w.heap.size) (I:Nat->zA->Prop) (Ix:Code->Nat->zA->Prop) (hI:∀k W W',I k W->CellsKept W W'->zB B W W'->I k W') (hIx:∀c k W W',Ix c k W->CellsKept W W'->zB B W W'->Ix c k W')
 (hRd:∀k W,I k W->Wd W/\Pw W/\W.heap[Bs]? =some (.cells #[St (zD (sqX N Y k))] 9 (0,0))) (h0:I 0 w)
 (I':Nat->zA->Prop) (hI':∀k W W',I' k W->CellsKept W W'->zB B W W'->I' k W') (hBs:Bs<w.heap.size) (hTI:∀k W,I k W->I' k (W.setCell ⟨Bs,0,none⟩ (St (zD (sqX N Y (k+1)))))) (a₁:Nat->Act)
 (hassign:∀(l k:Nat) (W:zA) (K:Act->zA->Prop),K (a₁ k) W->
   assign.wpIn (Fence.wide.inRound l) 1 zF (Exit.then K (λ_ _ _=>False)) {tmps:=(ps.zip #[St (zD (Y[k]?.getD (0,0)).1),St (zD (sqX N Y (k+1)))]).foldl (λt (p,v)=>t.setIfInBounds p v) a.tmps,defers:=[]} W)
 (hbody:∀(l k:Nat) (W:zA),w.heap.size<=l->I' k W->k<Y.length->body.wpIn (Fence.wide.inRound l) 1 zF (zja w.heap.size I Ix k W) (a₁ k) W)
 (hdone:∀(D:Nat) (W:zA),w.heap.size<=D->I Y.length W->W.heap[D]? =some (.deferred (some []))->Q .normal {a with defers:={target:=.collected D,args:= #[]}::a.defers} W)
 (hstop:∀(D:Nat) (c:Code) (k:Nat) (W:zA),w.heap.size<=D->Ix c k W->W.heap[D]? =some (.deferred (some []))->c.wpIn Fence.wide 3 zF Q {a with defers:={target:=.collected D,args:= #[]}::a.defers} W):
 (Code.rangeFunc g ps assign body).wpIn Fence.wide 3 zF Q a w:=
 z95 (n:=3) rfl (by omega) hg trivial (enters_of Tryz.func257 (by kernel_rfl) rfl) (z9g 2 (by omega) Bs N Y hY hN hN9 I hRd)
  (λk args h=>by subst h;exact hps.symm) hB I Ix hI hIx (λ_ _ h=>h) h0 I' hI' (λk W b hb=>yE W ⟨Bs,0,none⟩ _ b (by show b≠Bs;omega)) hTI (λk _=>a₁ k)
  (λl k args W K h hK=>by subst h;exact hassign l k W K hK)
  (λl k args W h1 h2 h3 h4 h5=>hbody l k W h1 h3 h4)
  hdone hstop
structure NmS (w:zA) (A B:Nat) (u v:List UInt8) (N:Nat) (Y:List (Nat×Nat)) (k j:Nat) (W:zA):Prop where
 bel:qL w W
 hp:W.heap[A]? =some (.cells #[St u,St v] 235 (0,0))
 hc:Boxed W B 9 (St (zD (sqC Y k)))
 hl:Boxed W (B+1) 9 (St (zD (sqX N Y k)))
 hm:Boxed W (B+2) 9 (St (zD (sqX N Y j)))
 lt:w.heap.size<=A/\A<B
theorem NmS.keep {w:zA} {A B:Nat} {u v:List UInt8} {N:Nat} {Y:List (Nat×Nat)} {k j:Nat} {W W':zA} (h:NmS w A B u v N Y k j W) (hc:CellsKept W W') (hb:zB w.heap.size W W'):NmS w A B u v N Y k j W':=
 ⟨h.bel.trans hb,hc _ _ _ _ h.hp,hc.boxed h.hc,hc.boxed h.hl,hc.boxed h.hm,h.lt⟩
theorem NmS.next {w:zA} {A B:Nat} {u v:List UInt8} {N:Nat} {Y:List (Nat×Nat)} {k j:Nat} {W W':zA} (h:NmS w A B u v N Y k j W) (hb:qL W W'):NmS w A B u v N Y k j W':=h.keep (zac hb) (hb.mono h.bel.size)
theorem NmS.turn {w:zA} {A B:Nat} {u v:List UInt8} {N:Nat} {Y:List (Nat×Nat)} {k j:Nat} {W:zA} (h:NmS w A B u v N Y k j W) (i:Nat):NmS w A B u v N Y k i (W.setCell ⟨B+2,0,none⟩ (St (zD (sqX N Y i)))):=
 ⟨h.bel.setCell (p:=⟨B+2,0,none⟩) (by have:=h.lt;show w.heap.size<=B+2;omega) _,(yE W ⟨B+2,0,none⟩ _ A (by have:=h.lt;show A≠B+2;omega)).trans h.hp,h.hc.other (by omega) _,h.hl.other (by omega) _,Boxed.put h.hm _,h.lt⟩
theorem NmS.setc {w:zA} {A B:Nat} {u v:List UInt8} {N:Nat} {Y:List (Nat×Nat)} {k j:Nat} {W:zA} (h:NmS w A B u v N Y k j W) (x y:List UInt8) (hx:x=zD (sqC Y (k+1))) (hy:y=zD (sqX N Y (k+1))):NmS w A B u v N Y (k+1) j ((W.setCell ⟨B,0,none⟩ (St x)).setCell ⟨B+1,0,none⟩ (St y)):=by
 subst hx;subst hy;have hl:=h.lt
 exact⟨(h.bel.setCell (p:=⟨B,0,none⟩) (by show w.heap.size<=B;omega) _).setCell (p:=⟨B+1,0,none⟩) (by show w.heap.size<=B+1;omega) _,
  (yE _ ⟨B+1,0,none⟩ _ A (by show A≠B+1;omega)).trans ((yE W ⟨B,0,none⟩ _ A (by show A≠B;omega)).trans h.hp),
  (Boxed.put h.hc _).other (by omega) _,Boxed.put (h.hl.other (by omega) _) _,(h.hm.other (by omega) _).other (by omega) _,hl⟩
structure NmD (w:zA) (A B D:Nat) (u v c l:List UInt8) (W:zA):Prop where
 bel:qL w W
 hp:W.heap[A]? =some (.cells #[St u,St v] 235 (0,0))
 hc:Boxed W B 9 (St c)
 hl:Boxed W (B+1) 9 (St l)
 hd:W.heap[D]? =some (.deferred (some []))
 lt:w.heap.size<=A/\A<B
theorem NmD.next {w:zA} {A B D:Nat} {u v c l:List UInt8} {W W':zA} (h:NmD w A B D u v c l W) (hb:qL W W'):NmD w A B D u v c l W':=
 have k:=λ(j:Nat) (o:Obj) (ho:W.heap[j]? =some o)=>(hb.block j (Array.getElem?_eq_some_iff.1 ho).1).trans ho
 ⟨h.bel.trans (hb.mono h.bel.size),k _ _ h.hp,k _ _ h.hc,k _ _ h.hl,k _ _ h.hd,h.lt⟩
theorem NmD.v {w:zA} {A B D:Nat} {u v c l:List UInt8} {W:zA} (h:NmD w A B D u v c l W):W.cell? ⟨A,1,none⟩=some (St v):=by rw[zJ h.hp];rfl
theorem NmD.set {w:zA} {A B D:Nat} {u v c l:List UInt8} {W:zA} (h:NmD w A B D u v c l W) (x y:List UInt8):NmD w A B D u v x y ((W.setCell ⟨B,0,none⟩ (St x)).setCell ⟨B+1,0,none⟩ (St y)):=by
 have hl:=h.lt;have e1:D≠B:=λe=>by have:=h.hd;rw[e,show W.heap[B]? =_ from h.hc] at this;cases this
 have e2:D≠B+1:=λe=>by have:=h.hd;rw[e,show W.heap[B+1]? =_ from h.hl] at this;cases this
 exact⟨(h.bel.setCell (p:=⟨B,0,none⟩) (by show w.heap.size<=B;omega) _).setCell (p:=⟨B+1,0,none⟩) (by show w.heap.size<=B+1;omega) _,
  (yE _ ⟨B+1,0,none⟩ _ A (by show A≠B+1;omega)).trans ((yE W ⟨B,0,none⟩ _ A (by show A≠B;omega)).trans h.hp),
  (Boxed.put h.hc _).other (by omega) _,Boxed.put (h.hl.other (by omega) _) _,(yE _ ⟨B+1,0,none⟩ _ D e2).trans ((yE W ⟨B,0,none⟩ _ D e1).trans h.hd),hl⟩
theorem z69 (x:ByteArray) (u v s1 r c2 cf lf:List UInt8) (N:Nat) (Y:List (Nat×Nat)) (hY:SqY 0 N Y) (hN:0<N) (hN9:(zD N).length<=200) (b:Bool) (hu:(u==[48])=false) (hl:17<(u.length:Int)+v.length) (hl0:u.length<=1000/\v.length<=1000)
 (CK:Hid (∀W:zA,Wd W->zC zF 185 #[.slice (some ⟨W.heap.size,0,none⟩) 1 1,.slice (some ⟨W.heap.size+1,0,none⟩) 1 1] ((W.alloc (.cells #[.string x] 30)).alloc (.cells #[.string x] 30)) λe w'=>e=.returned (.int .i64 0)/\zB W.heap.size W w'))
 (O:Hid (qK 186 #[.string x] (.agg #[St u,St v])))
 (M0:Hid (qK 189 #[St u,St v] (St (zD N))))
 (M1:Hid (∀k,k<Y.length->qK 189 #[St (zD (sqC Y k)),St (zD (Y[k]?.getD (0,0)).1)] (St (zD (sqC Y (k+1))))))
 (EX:Hid (qK 191 #[St (zD (sqX N Y Y.length))] (.tuple #[St r,.bool b])))
 (M2:Hid (b=true->qK 189 #[St (zD (sqC Y Y.length)),St r] (St c2)))
 (HCF:Hid (cf=(if b then c2 else zD (sqC Y Y.length))/\lf=(if b then[49] else zD (sqX N Y Y.length))))
 (FR:Hid (qK 192 #[St cf,St v] (St s1)))
 (w:zA) (HW:Hid (Wd w)) (HP:Hid (Pw w)):
 qJ 120 #[.string x] w (.tuple #[St s1,St lf,.int .i64 0]):=by
 refine(callsIn_wide (n:=3)).1 ?_;refine callsIn_of_wp_marks Tryz.func120 rfl trivial ?_ rfl;simp only[Tryz.ntmps120,List.size_toArray,yA,List.length_nil,Nat.reduceAdd,Nat.reduceSub,Array.replicate_succ,Array.replicate_zero,List.push_toArray,List.append_toArray,List.nil_append,List.cons_append];have hck:=CK.out w HW.out;have HCK:=hid hck;clear hck CK;have hwl:IntKind.i64.wrap ((u.length:Int)+v.length)=(u.length:Int)+v.length:=zI _ ⟨by omega,by omega⟩;have HWL:=hid hwl;clear hwl;gi_wp2_with fail;refine⟨trivial,(callsIn_wide.2 HCK.out).mono ?_⟩;rintro e w1 ⟨rfl,hb1⟩;have HB1:=hid hb1;clear hb1 HCK;gi_wp2_with fail;refine⟨trivial,(callsIn_wide.2 (O.out w1 (HW.out.below HB1.out))).mono ?_⟩;rintro e w2 ⟨rfl,hb2⟩;have HB2:=qT HB1 hb2;clear hb2 HB1;obtain⟨w3,hw3⟩:=zzX (w2.alloc (.cells #[St u,St v] 235));have ha:qL w2 w3:=by rw[hw3];exact(zM _ w2).alloc (zN _) _
 have A3:w3.heap[w2.heap.size]? =some (.cells #[St u,St v] 235 (0,0)):=by rw[hw3];exact zG w2 _
 have HB3:=qT HB2 ha;have c0:w3.cell? ⟨w2.heap.size,0,none⟩=some (St u):=by rw[zJ A3];rfl
 have c1:w3.cell? ⟨w2.heap.size,1,none⟩=some (St v):=by rw[zJ A3];rfl
 rw[hw3] at c0 c1;have HA3:=hid A3;have HA:=hid HB2.out.size;have HW3:=hid hw3;clear hw3 ha A3;have hlt:decide ((u.length:Int)+v.length<=17)=false:=decide_eq_false (by omega);gi_wp2_with fail;rw[<-HW3.out];clear c0 c1 hlt;refine⟨trivial,(callsIn_wide.2 (M0.out w3 (HW.out.below HB3.out))).mono ?_⟩;rintro e w4 ⟨rfl,hb4⟩;have HB4:=qT HB3 hb4;have HA4:=hid (zac hb4 _ _ _ _ HA3.out);have HLT:=hid (show w2.heap.size<w4.heap.size by have:=hb4.size;have:=(Array.getElem?_eq_some_iff.1 HA3.out).1;omega);clear hb4 HA3 HW3;have hb1:=Boxed.new w4 9 (St [49]);have hb2:=Boxed.new (w4.alloc (.cells #[St [49]] 9)) 9 (St (zD N));have hb3:=Boxed.new ((w4.alloc (.cells #[St [49]] 9)).alloc (.cells #[St (zD N)] 9)) 9 (St (zD N));have hb12:=(hb1.alloc (.cells #[St (zD N)] 9)).alloc (.cells #[St (zD N)] 9);have hb22:=hb2.alloc (.cells #[St (zD N)] 9);have hbel:qL w4 (((w4.alloc (.cells #[St [49]] 9)).alloc (.cells #[St (zD N)] 9)).alloc (.cells #[St (zD N)] 9)):=(((zM _ w4).alloc (zN _) _).alloc (by simp) _).alloc (by simp;omega) _;simp only[zH] at hb2 hb22 hb3;obtain⟨W0,hW0⟩:=zzX (((w4.alloc (.cells #[St [49]] 9)).alloc (.cells #[St (zD N)] 9)).alloc (.cells #[St (zD N)] 9));have hsz:W0.heap.size=w4.heap.size+1+1+1:=by rw[hW0];simp
 rw[<-hW0] at hb12 hb22 hb3 hbel;have d1:zD 1=[49]:=by rw[zae (by omega)];rfl
 have HS0:Hid (NmS w w2.heap.size w4.heap.size u v N Y 0 0 W0):=hid ⟨HB4.out.trans (hbel.mono HB4.out.size),zac hbel _ _ _ _ HA4.out,by rw[show sqC Y 0=1 from rfl,d1];exact hb12,hb22,hb3,HA.out,HLT.out⟩;have HSZ:=hid hsz;have HW0:=hid hW0.symm;clear hb1 hb2 hb3 hb12 hb22 hbel hsz hW0 d1;gi_wp2_with (refine⟨trivial,?_⟩;gi_at_call 190;refine(callsIn_wide.2 (z8s _ _)).mono ?_;rintro e w' ⟨rfl,rfl⟩);have h9:=HW0.out;rw[h9];clear h9 HW0;refine z67 (w4.heap.size+1+1) N Y hY hN hN9 rfl rfl (B:=w.heap.size) HS0.out.bel.size (λk W=>NmS w w2.heap.size w4.heap.size u v N Y k k W) (λ_ _ _=>False)
  (λk W W' h hk hb=>h.keep hk hb) (λ_ _ _ _ h _ _=>h) (λk W h=>⟨HW.out.below h.bel,HP.out.below h.bel,h.hm⟩) HS0.out
  (λk W=>NmS w w2.heap.size w4.heap.size u v N Y k (k+1) W) (λk W W' h hk hb=>h.keep hk hb) (by rw[HSZ.out];omega) (λk W h=>h.turn (k+1)) ?a1 ?assign ?body ?done ?stop
 case stop=>exact λ_ _ _ _ _ h _=>h.elim
 case assign=>
  intro lp k W K hK;gi_wp2;exact hK
 case body=>
  rintro lp k W hlp hI hk;have HI:=hid hI;have c0:=hI.hc.cell;have hm:=hid (M1.out k hk W (HW.out.below hI.bel));generalize hpe:zD (Y[k]?.getD (0,0)).1=pe at*
  clear hI hpe;gi_wp2_with fail;refine⟨trivial,(CallsIn.inRound lp (callsIn_wide.2 hm.out)).mono ?_⟩;rintro e W2 ⟨rfl,hb⟩;have hI2:=HI.out.next hb;have f0:=hI2.hc.frozen;have f1:=hI2.hl.frozen;have g0:=hI2.hc.cell;have g1:=hI2.hl.cell;have g2:=(zau W2 (b:=w4.heap.size+1) (b':=w4.heap.size) 0 0 (St (zD (sqC Y (k+1)))) (by omega)).trans g1;have HI2:=hid hI2;have HBB:=hid hb;clear hI2 hb hm c0 HI;gi_wp2_with fail;exact⟨(((za0 HBB.out).from _).trans ((KeepsOthers.setCell W2 _ _).from _)).trans ((KeepsOthers.setCell _ _ _).from _),HI2.out.setc _ _ rfl rfl⟩
 case done=>
  rintro D W hD hI hK;have HD:Hid (NmD w w2.heap.size w4.heap.size D u v (zD (sqC Y Y.length)) (zD (sqX N Y Y.length)) W):=hid ⟨hI.bel,hI.hp,hI.hc,hI.hl,hK,hI.lt⟩;have HDD:=hid (zO HS0.out.bel.size hD);have HC:=hid (EX.out W (HW.out.below hI.bel));clear hI hK HS0 HSZ HLT HA HA4 hD;generalize zD (sqC Y Y.length)=cc at*
  generalize zD (sqX N Y Y.length)=ll at*
  have c1:=HD.out.hl.cell;generalize w2.heap.size=A at*
  generalize w4.heap.size=B at*
  gi_step;gi_step;refine wpIn_wide.2 ?_;go_wp21;refine zzM HC.out λW1 hb=>?_;have HD1:=hid (HD.out.next hb);clear hb HC HD c1 EX;cases b
  case' true=>
   have c0:=HD1.out.hc.cell;have HM:=hid (M2.out rfl W1 (HW.out.below HD1.out.bel));clear M2;go_wp21;refine zzM HM.out λW2 hb=>?_;have hD2:=HD1.out.next hb;have f0:=hD2.hc.frozen;have f1:=hD2.hl.frozen;have g0:=hD2.hc.cell;have g1:=hD2.hl.cell;have g2:=(zau W2 (b:=B+1) (b':=B) 0 0 (St c2) (by omega)).trans g1;obtain⟨W3,hW3⟩:=zzX ((W2.setCell ⟨B,0,none⟩ (St c2)).setCell ⟨B+1,0,none⟩ (St [49]));have hD3:=hD2.set c2 [49];rw[<-hW3] at hD3;have HDX:=hid hD3;have HW3:=hid hW3.symm;clear hb hD2 hD3 hW3 c0 HD1 HM;go_wp21;have h9:=HW3.out;rw[show(W2.setCell ⟨B,0,none⟩ (.string ⟨c2.toArray⟩)).setCell ⟨B+1,0,none⟩ (.string ⟨#[49]⟩)=W3 from h9];clear h9 HW3 f0 f1 g0 g1 g2
  case' false=>
   have HDX:=HD1;clear M2 HD1;go_wp21
  all_goals
   obtain⟨h1,h2⟩:=HCF.out;simp only[if_true,if_false,Bool.false_eq_true] at h1 h2;rw[<-h1,<-h2] at HDX;clear h1 h2;refine zbl (λ_ W=>NmD w A B D u v cf lf W) (by kernel_rfl) (by kernel_rfl) (HDX.out.next (zM _ _).drew) ?_;refine qR (St cf) ?_ (hy:=λf W' hf h=>by have:=h.hc.cell;go_simp);refine qR (.pointer (some ⟨A,1,none⟩)) ?_;refine qR (St v) ?_ (hy:=λf W' hf h=>by have:=h.v;go_simp);simp only[zzQ]
   refine zar (St s1) (by rfl) (λf W' hf h C' hC'=>by
    have hg:=FR.out W' (HW.out.below h.bel);go_simp;refine zzM hg λw' hb=>?_;exact⟨rfl,hC' _ (h.next hb)⟩) ?_
   refine qR (St lf) ?_ (hy:=λf W' hf h=>by have:=h.hl.cell;go_simp);refine qR (St s1) ?_;simp only[zzQ];refine qR (St lf) ?_;refine qR (.int .i64 0) ?_;simp only[zzQ];refine zck λf W9 hf h=>?_;have HX:=hid h;clear h hf HDX;go_wp21;refine⟨by simp,.inl ⟨_,_,rfl,run_takeDeferred HX.out.hd,?_⟩⟩;refine⟨.tuple #[St s1,St lf,.int .i64 0],?_,rfl,zby HX.out.bel HDD.out HX.out.hd⟩;simp[results,Tryz.f120,go_sem]
theorem zxv {N:Nat} {Y:List (Nat×Nat)} (hN:0<N) (h:∀k,k<=Y.length->sqC Y k*sqC Y k*sqX N Y k=N) {k:Nat} (hk:k<=Y.length):sqC Y k*sqC Y k<=N/\sqC Y k<=N/\0<sqC Y k/\0<sqX N Y k/\sqX N Y k<=N:=by
 have e:=h k hk;have h1:0<sqC Y k:=yS λz=>by rw[z] at e;simp at e;omega
 have h2:0<sqX N Y k:=yS λz=>by rw[z] at e;simp at e;omega
 have h3:sqC Y k*sqC Y k<=N:=by rw[<-e];exact Nat.le_mul_of_pos_right _ h2
 exact⟨h3,zO (Nat.le_mul_self _) h3,h1,h2,by
  conv=>rhs;rw[<-e]
  exact Nat.le_mul_of_pos_left _ (Nat.mul_pos h1 h1)⟩
theorem z9b {q:Rat} (hq:0<q):zE q.num=zD q.num.natAbs/\0<q.num.natAbs:=by
 have hn:0<=q.num:=Rat.num_nonneg.2 (Rat.le_of_lt hq);have h0:q.num≠0:=λe=>by rw[Rat.num_eq_zero.1 e] at hq;exact absurd hq (by decide)
 refine⟨?_,by omega⟩;have:=Str.zad q.num.natAbs;rwa [show((q.num.natAbs:Nat):Int)=q.num by omega] at this
theorem z96 {c N k:Nat} (hk:0<k) (h:c*c<=N) (hN:N<10^(k+k)):(zD c).length<=k:=by
 refine(zaf c k hk).2 (Nat.lt_of_not_le λhc=>?_);have:=Nat.mul_le_mul hc hc;rw[<-Nat.pow_add] at this;omega
theorem z7a (q:Rat) (hq:0<q) (h:sz q 90) (w:zA) (hw:Wd w) (hp:Pw w):
 qJ 120 #[St (numS q)] w (.tuple #[St (numS (((zn7 (q.num.natAbs*q.den)).1:Rat)/(q.den:Rat))),St (zD (zn7 (q.num.natAbs*q.den)).2),.int .i64 0]):=by
 have szl:∀k:List UInt8,(⟨k.toArray⟩:ByteArray).size=k.length:=λk=>by show k.toArray.size=_;simp
 obtain⟨en,n0⟩:=z9b hq;have d0:=q.den_pos;have okq:okQ q:=zd0 (by omega) (by omega) h;have dq:=zok (k:=90) (by omega) h;have ln:(zD q.num.natAbs).length<=90:=(zaf _ 90 (by omega)).2 h.1;have ld:(zD q.den).length<=90:=dq.2;have hN:0<q.num.natAbs*q.den:=Nat.mul_pos n0 d0;have hNl:q.num.natAbs*q.den<10^(90+90):=zcc h.1 h.2;have hN180:(zD (q.num.natAbs*q.den)).length<=180:=(zaf _ 180 (by omega)).2 hNl;have z48:zD 0=[48]:=by rw[zae (by omega)];rfl
 have hu:(zD q.num.natAbs==[48])=false:=by
  rw[beq_eq_false_iff_ne,<-z48];exact λe=>by have:=zfk e;omega
 have CK:∀W:zA,Wd W->zC zF 185 #[.slice (some ⟨W.heap.size,0,none⟩) 1 1,.slice (some ⟨W.heap.size+1,0,none⟩) 1 1] ((W.alloc (.cells #[St (numS q)] 30)).alloc (.cells #[St (numS q)] 30)) λe w'=>e=.returned (.int .i64 0)/\zB W.heap.size W w':=λW hW=>by
  obtain⟨t1,t2⟩:=z0b W 30 _ q rfl;have hal:qL W ((W.alloc (.cells #[St (numS q)] 30)).alloc (.cells #[St (numS q)] 30)):=((zM _ W).alloc (zN _) _).alloc (by simp) _
  refine zzM (zji _ _ 1 1 1 1 (λ_=>q) (λ_=>q) (by omega) (by omega) (hid λ_ _ W hW=>zfj q okq W hW) (hid λ_ _ W hW=>zio q okq W hW) (hid λ_ _=>⟨dq.1,dq.2⟩)
   (hid λ_ _ W=>zma q (Rat.num_nonneg.2 (Rat.le_of_lt hq)) W) _ (hid (hW.below hal)) (hid t1) (hid t2)) λw' hb=>?_
  exact⟨rfl,hal.trans (hb.mono hal.size)⟩
 have RO:qK 186 #[St (numS q)] (.agg #[St (zD q.num.natAbs),St (zD q.den)]):=λW hW=>by
  have:=zio q okq W hW;rwa [en] at this
 obtain⟨C0,hC0⟩:=zzX ((zn7 (q.num.natAbs*q.den)).1);obtain⟨L0,hL0⟩:=zzX ((zn7 (q.num.natAbs*q.den)).2);rw[<-hC0,<-hL0];by_cases hs:(zD q.num.natAbs).length+(zD q.den).length<=17
 ·have hn17:q.num.natAbs<10^(zD q.num.natAbs).length:=(zaf _ _ (List.length_pos_iff.2 (zci _))).1 (zN _)
  have hd17:q.den<10^(zD q.den).length:=(zaf _ _ (List.length_pos_iff.2 (zci _))).1 (zN _);have hNN:q.num.natAbs*q.den<10^17:=zS (zcc hn17 hd17) (yF (by omega) hs);have hdd:q.den<10^17:=zS hd17 (yF (by omega) (by omega));refine zti ⟨(numS q).toArray⟩ ⟨(zD q.num.natAbs).toArray⟩ ⟨(zD q.den).toArray⟩ ⟨(numS ((C0:Rat)/(q.den:Rat))).toArray⟩ ⟨(zD L0).toArray⟩ (q.num.natAbs:Int) (q.den:Int) (by rw[ByteArray.toList_eq];exact hu) (by rw[szl,szl];omega) (by rw[szl,szl];omega) (hid CK) (hid RO) (hid λW hW=>zk7 _ (by omega) W hW) (hid λW hW=>zk7 _ (by omega) W hW) (hid λW hW hP=>?_) w (hid hw) (hid hp)
  exact zv1 q.num.natAbs q.den (q.num.natAbs*q.den) C0 L0 ⟨by rw[hC0,hL0]⟩ hN d0 (hid rfl) (hid ⟨by omega,by omega⟩) (hid λi hi W=>by
   have h9:=zw4 i hi;have h2:=zki (n:=prN i) (k:=2) (by omega) (by omega);have:=znc (prN i:Int) (by rw[Str.zad];omega) W;rw[Str.zad] at this;rw[z1r i hi];exact this) W (hid hW) (hid hP)
 ·obtain⟨Y,hY⟩:=z65 0 (q.num.natAbs*q.den)
  obtain⟨h1,h2⟩:=SqY.law (f:=25-0+q.num.natAbs*q.den) (by omega) hN (zN _) hY;have h3:=h2 1;rw[Nat.one_mul,List.drop_zero] at h3;obtain⟨b1,b2,b3,b4,b5⟩:=zxv hN h1 (zN _);have hsp:=zv0 (sqX (q.num.natAbs*q.den) Y Y.length);have hn:zn7 (q.num.natAbs*q.den)=if isq (sqX (q.num.natAbs*q.den) Y Y.length)*isq (sqX (q.num.natAbs*q.den) Y Y.length)=sqX (q.num.natAbs*q.den) Y Y.length then(sqC Y Y.length*isq (sqX (q.num.natAbs*q.den) Y Y.length),1) else(sqC Y Y.length,sqX (q.num.natAbs*q.den) Y Y.length):=by
   unfold zn7;rw[h3]
  have eN:=h1 _ (zN _);have len:∀x:Nat,x<=q.num.natAbs*q.den->(zD x).length<=180:=λx hx=>(zaf _ 180 (by omega)).2 (Nat.lt_of_le_of_lt hx hNl);rw[hC0,hL0,hn];clear hC0 hL0 C0 L0;have hcl:∀k,k<=Y.length->(zD (sqC Y k)).length<=180:=λk hk=>len _ (zxv hN h1 hk).2.1;have lx:=len _ b5;have ll1:=z96 (k:=90) (by omega) b1 hNl;have e1:zD 1=[49]:=by rw[zae (by omega)];rfl
  generalize hX:sqX (q.num.natAbs*q.den) Y Y.length=X at*
  generalize hC:sqC Y Y.length=C at*
  have hCX:(C*isq X)*(C*isq X)<=q.num.natAbs*q.den:=by
   rw[<-eN,show C*isq X*(C*isq X)=C*C*(isq X*isq X) by ac_rfl];exact Nat.mul_le_mul_left _ hsp.1
  have ll2:=z96 (k:=90) (by omega) hCX hNl;have hix:isq X<=X:=zO (Nat.le_mul_self _) hsp.1
  refine z69 ⟨(numS q).toArray⟩ (zD q.num.natAbs) (zD q.den) _ (zD (isq X)) (zD (C*isq X)) (zD (if isq X*isq X=X then(C*isq X,1) else(C,X)).1) (zD (if isq X*isq X=X then(C*isq X,1) else(C,X)).2) (q.num.natAbs*q.den) Y hY hN (by omega) (decide (isq X*isq X=X)) hu (by omega) ⟨by omega,by omega⟩ (hid CK) (hid RO)
   (hid λW hW=>zs4 _ _ (by omega) (by omega) (by omega) W hW) (hid λk hk W hW=>?_) (hid λW hW=>?_) (hid λ_ W hW=>?_) (hid ?_) (hid λW hW=>?_) w (hid hw) (hid hp)
  ·have:=hcl (k+1) hk
   refine zs4 (sqC Y k) (Y[k]?.getD (0,0)).1 (by have:=hcl k (by omega);omega) ?_ (by show(zD (sqC Y (k+1))).length<=300;omega) W hW;have h5:(Y[k]?.getD (0,0)).1<=sqC Y (k+1):=by
    show _<=sqC Y k*_;exact Nat.le_mul_of_pos_left _ (zxv hN h1 (Nat.le_of_lt hk)).2.2.1
   have:=len _ (zO h5 (zxv hN h1 hk).2.1);omega
  ·rw[hX]
   exact z4y X (isq X) hsp (by omega) W hW
  ·rw[hC]
   have:=len _ (zO hix b5);exact zs4 C (isq X) (by omega) (by omega) (by omega) W hW
  ·rw[hC,hX,<-e1]
   by_cases g:isq X*isq X=X
   ·rw[decide_eq_true g,if_pos g];exact⟨rfl,rfl⟩
   ·rw[decide_eq_false g,if_neg g];exact⟨rfl,rfl⟩
  ·refine z5x _ _ d0 ?_ (by omega) W hW
   by_cases g:isq X*isq X=X
   ·rw[if_pos g];show(zD (C*isq X)).length<=140;omega
   ·rw[if_neg g];show(zD C).length<=140;omega
theorem zz4 (r:Nat) (hr:0<r) (hl:(zD r).length<=90) (w:zA) (hw:Wd w) (hp:Pw w):
 qJ 120 #[St (zD r)] w (.tuple #[St (zD (zn7 r).1),St (zD (zn7 r).2),.int .i64 0]):=by
 have:=z7a (r:Rat) (by exact_mod_cast hr) (zrg (by omega) hl) w hw hp;rw[zhe,show((r:Nat):Rat).num.natAbs*((r:Nat):Rat).den=r from Nat.mul_one r,show(((zn7 r).1:Nat):Rat)/(((r:Nat):Rat).den:Rat)=((zn7 r).1:Rat) from by rw[show((r:Nat):Rat).den=1 from rfl];grind,zhe] at this;exact this
end Go.Proofs.YtmeekcnlacckfaaGreatDoor
