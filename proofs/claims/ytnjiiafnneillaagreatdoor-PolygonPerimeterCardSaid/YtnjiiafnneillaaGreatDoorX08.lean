/- integer.Root. -/
import Derived.Test.YtnjiiafnneillaaGreatDoorX07
import Derived.Lib.SmallJoins
import Derived.OwnWalkIn
set_option maxRecDepth 100000
set_option maxHeartbeats 8000000
open Go renaming World → zA, Calls → zC
open Go.RowKit renaming Below → zB, intOf → zL
open Go.Lib renaming decDigits → zD
open Go.Proofs.Tryz renaming prog → zF
open Go.World renaming alloc_heap_new → zG, size_alloc → zH
open Go.IntWalk renaming i64_in → zI
open Go.Joins renaming cell_of_block → zJ
open Go.RowKit.Below renaming refl → zM
open Nat renaming le_refl → zN, le_trans → zO, zero_le → zR, pow_le_pow_right → yF, mul_comm → yP, pos_of_ne_zero → yS
open List renaming size_toArray → zZ, length_cons → yA, getElem?_eq_getElem → yB, nil_append → yI, cons_append → yM
namespace Go.Proofs.YtnjiiafnneillaaGreatDoor
section
open Go.RowKit Go.Shelf Lib Str Limb
attribute [local go_sem] Oper.semAt_some
theorem z7e {n s k:Nat} (hs:s*s<=n) (hn:n<10^(2*k)):s<=10^k:=by
 by_cases c:s<=10^k
 ·exact c
 ·exfalso
  have:=Nat.mul_le_mul (show 10^k<=s by omega) (show 10^k<=s by omega);rw[<-Nat.pow_add,show k+k=2*k by omega] at this;omega
theorem z4b:(zaa B9 2).map I=[I 2]:=by
 rw[<-zwd (r:=2) (by decide)];rfl
theorem z6c (W:zA):Sl (W.alloc (.cells #[I 2] 3)) (.slice (some ⟨W.heap.size,0,none⟩) 1 1) ((zaa B9 2).map I):=by
 rw[z4b];refine⟨some ⟨W.heap.size,0,none⟩,1,rfl,zN _,λi x hx=>⟨W.heap.size,0,rfl,?_⟩⟩;have A:=zG W (.cells #[I 2] 3)
 match i,hx with
 |0,hx=>exact(zJ A 0).trans (by rw[<-hx];rfl)
 |_+1,hx=>cases hx
theorem z7f (t z y:ByteArray) (n s k X:Nat) (HS:Hid (s*s<=n/\n<(s+1)*(s+1))) (hn1:1<=n) (hX:1<=X) (hsX:s<=X) (HL:Hid ((zaa B9 n).length<=400/\(zaa B9 X).length<=400/\(zaa B9 (X+n)).length<=400))
 (ht0:0<t.size) (h45:(((t[0]'ht0).toNat:Int)==45)=false) (h48:(t.toList==[48])=false) (hsz:¬(t.size:Int)<=18) (hsz2:t.size<=1000) (hk:(t.size+1)/2=k)
 (CK:Hid (∀W:zA,qJ 152 #[.string t] W (.int .i64 0)))
 (RD:Hid (∀W:zA,zC zF 105 #[.string t] W λe w'=>∃v,e=.returned (.agg #[.bool false,v])/\Sl w' v ((zaa B9 n).map I)/\zB W.heap.size W w'))
 (RP:Hid (∀W:zA,qJ 76 #[.string ⟨#[48]⟩,.int .i64 (k:Int)] W (.string z)))
 (RX:Hid (∀W:zA,zC zF 105 #[.string y] W λe w'=>∃v,e=.returned (.agg #[.bool false,v])/\Sl w' v ((zaa B9 X).map I)/\zB W.heap.size W w'))
 (hzs:z.size<=1000) (hy:(⟨#[49]⟩:ByteArray)++z=y) (hr:digs (s:Int)<=300) (w:zA) (HW:Hid (Wd w)):
 qJ 78 #[.string t] w (.tuple #[St (zD s),.int .i64 0]):=by
 have hfd:=znj;have q1:IntKind.i64.wrap ((t.size:Int)+1)=(t.size:Int)+1:=zI _ ⟨by omega,by omega⟩;have HKI:=hid (show((t.size:Int)+1)/2=(k:Int) by omega);have HK:=hid hk;have HY:=hid hy;clear hk hy;go_enter Tryz.func78,Tryz.ntmps78;go_wp21;refine zzM (CK.out w) λw1 hb1=>?_;have HB1:=hid hb1;clear hb1 CK;go_wp21;refine(RD.out w1).mono ?_;rintro e w2 ⟨vn,rfl,hvn,hb2⟩;obtain⟨pn,kn,cn,rfl, -⟩:=zbx hvn;have HB2:=qT HB1 hb2;clear hb2 HB1 RD;have HVN:=hid hvn;clear hvn;go_wp21;simp only[HKI.out];refine zzM (RP.out w2) λw3 hb3=>?_;have HB3:=qT HB2 hb3;have HVN3:=hid (HVN.out.below hb3);clear hb3 HB2 HVN RP;go_wp21
 try rw[HY.out]
 refine(RX.out w3).mono ?_;rintro e w4 ⟨vx,rfl,hvx,hb4⟩;obtain⟨px,kx,cx,rfl, -⟩:=zbx hvx;have HB4:=qT HB3 hb4;have HVN4:=hid (HVN3.out.below hb4);clear hb4 HB3 HVN3 RX;have HVX:=hid hvx;clear hvx;clear q1 h45 h48 hsz hsz2;have HT2:=hid (λW=>z6c W);go_wp21;go_loopg [6] X (λk0 vx wr=>∃(x:Nat) (p:Option Addr) (a c:Nat),Hid (k0=x)/\1<=x/\s<=x/\Hid (x<=X)/\vx=.slice p a c/\Hid (Sl wr (.slice p a c) ((zaa B9 x).map I))/\Hid (Sl wr (.slice pn kn cn) ((zaa B9 n).map I))/\Hid (qL w wr))
 case atStart=>exact⟨X,px,kx,cx,hid rfl,hX,hsX,hid (zN _),rfl,HVX,HVN4,HB4⟩
 case round=>
  clear hX hsX;obtain⟨x,p,a,c,hk0,hx,hsx,hxX,rfl,hvx,hvn,hB⟩:=hrel;obtain⟨l1,l2,l3⟩:=HL.out;have m1:(zaa B9 x).length<=400:=zO (zd6 (by decide) hxX.out) l2;have hq:n/x<=n:=Nat.div_le_self _ _;have m2:(zaa B9 (n/x)).length<=400:=zO (zd6 (by decide) hq) l1;have m3:(zaa B9 (x+n/x)).length<=400:=zO (zd6 (by decide) (by have:=hxX.out;omega)) l3;have m4:(zaa B9 ((x+n/x)/2)).length<=400:=zO (zd6 (by decide) (Nat.div_le_self _ _)) m3;have m5:(zaa B9 2).length<=400:=by have:=congrArg List.length z4b;simp at this;omega
  have g1:=ztp (by omega) HS.out.1 hsx;have g2:=zrf (n:=n) (x:=x) (by omega);have g3:x<=(x+n/x)/2->x=s:=λh=>by
   have h1:=g2 h;by_cases c:x<=s
   ·omega
   ·have:=Nat.mul_le_mul (show s+1<=x by omega) (show s+1<=x by omega)
    have:=HS.out.2;omega
  have hs1:1<=s\/(x+n/x)/2≥0:=.inr (zR _);have HDV:=hid (znf _ _ n x wr hvn.out hvx.out (by omega) (by omega) (by omega));have G:=hid (⟨g1,g3⟩:_/\_);have M:=hid (⟨m1,m2,m3,m4,m5⟩:_/\_/\_/\_/\_);clear l1 l2 l3 m1 m2 m3 m4 m5 hq g1 g2 g3 hs1;go_wp21;refine HDV.out.mono ?_;rintro e w5 ⟨v1,v2,rfl,hs1,hs2,hb5⟩;obtain⟨p1,k1,c1,rfl, -⟩:=zbx hs1;have HB5:=hid (hB.out.trans (hb5.mono hB.out.size));have HVX5:=hid (hvx.out.below hb5);have HVN5:=hid (hvn.out.below hb5);have HPL:=hid (z09 _ _ x (n/x) w5 HVX5.out hs1 (by have:=M.out.1;omega) (by have:=M.out.2.1;omega));clear hs1 hs2 hb5 hB hvx hvn HDV;go_wp21;refine HPL.out.mono ?_;rintro e w6 ⟨p2,k2,c2,rfl,hs2,hb6⟩;have HB6:=qT HB5 hb6;have hal:qL w6 (w6.alloc (.cells #[I 2] 3)):=(zM _ w6).alloc (zN _) _;have HVX6:=hid ((HVX5.out.below hb6).below hal);have HVN6:=hid ((HVN5.out.below hb6).below hal);have HD2:=hid (znf _ _ (x+n/x) 2 (w6.alloc (.cells #[I 2] 3)) (hs2.below hal) (z6c w6) (by have:=M.out.2.2.1;omega) (by have:=M.out.2.2.2.2;omega) (by omega));have HB6':=qT HB6 hal;clear hs2 hb6 hal HB5 HVX5 HVN5 HPL;go_wp21;refine HD2.out.mono ?_;rintro e w7 ⟨v3,v4,rfl,hs3,hs4,hb7⟩;obtain⟨p3,k3,c3,rfl, -⟩:=zbx hs3;have HB7:=hid (HB6'.out.trans (hb7.mono HB6'.out.size));have HVX7:=hid (HVX6.out.below hb7);have HVN7:=hid (HVN6.out.below hb7);have HS3:=hid hs3;have HCM:=hid (zi9 _ _ ((x+n/x)/2) x w7 hs3 HVX7.out (by have:=M.out.2.2.2.1;omega) (by have:=M.out.1;omega));clear hs3 hs4 hb7 HB6 HB6' HVX6 HVN6 HD2;generalize (x+n/x)/2=y at*
  go_wp21;refine HCM.out.mono ?_;rintro e w8 ⟨cc,rfl,⟨hc1,hc2⟩,hb8⟩;have HB8:=qT HB7 hb8;have HVX8:=hid (HVX7.out.below hb8);have HVN8:=hid (HVN7.out.below hb8);have HS8:=hid (HS3.out.below hb8);clear hb8 HB7 HVX7 HVN7 HS3 HCM;by_cases hge:x<=y
  ·have hcI:(0:Int)<=cc:=by omega
   have hxs:=G.out.2 hge;have hres:=zez false _ x w8 (HW.out.below HB8.out) HVX8.out (by have:=M.out.1;omega);rw[zkw,hxs,zcf hr,zcg hr,Str.zad] at hres;have HRES:=hid hres;clear hge G hc1 hc2 hres hxs;go_wp21;refine zzM HRES.out λw9 hb9=>?_;have HB9':=qT HB8 hb9;clear hb9 HRES;go_wp21;go_ret2;exact⟨rfl,HB9'.out⟩
  ·have hcI:¬(0:Int)<=cc:=by omega
   have hsy:=G.out.1;have hy1:1<=y:=by
    by_cases c0:s=0
    ·have h1:=HS.out.2
     rw[c0] at h1;omega
    ·omega
   have hyX:y<=X:=by have:=hxX.out;omega
   have HYX:=hid (show y<x by omega);clear hge G hc1 hc2;go_wp21;go_roundg y
   case measure=>rw[hk0.out];exact HYX.out
   case rel=>exact⟨y,p3,k3,c3,hid rfl,hy1,hsy,hid hyX,rfl,HS8,HVN8,HB8⟩
theorem z6p (t:ByteArray) (n s:Nat) (ht0:0<t.size) (h45:(((t[0]'ht0).toNat:Int)==45)=false) (h48:(t.toList==[48])=false) (hsz:(t.size:Int)<=18)
 (CK:Hid (∀W:zA,qJ 152 #[.string t] W (.int .i64 0)))
 (RD:Hid (∀W:zA,zC zF 105 #[.string t] W λe w'=>∃v,e=.returned (.agg #[.bool false,v])/\Sl w' v ((zaa B9 n).map I)/\zB W.heap.size W w'))
 (SR:Hid (qK 153 #[.string t] (.tuple #[St (zD s),.int .i64 0]))) (w:zA) (HW:Hid (Wd w)):
 qJ 78 #[.string t] w (.tuple #[St (zD s),.int .i64 0]):=by
 have hfd:=znj;go_enter Tryz.func78,Tryz.ntmps78;go_wp21;refine zzM (CK.out w) λw1 hb1=>?_;have HB1:=hid hb1;clear hb1 CK;go_wp21;refine(RD.out w1).mono ?_;rintro e w2 ⟨vn,rfl,hvn,hb2⟩;obtain⟨pn,kn,cn,rfl, -⟩:=zbx hvn;have HB2:=qT HB1 hb2;clear hb2 HB1 RD hvn;go_wp21;refine zzM (SR.out w2 (HW.out.below HB2.out)) λw3 hb3=>?_;have HB3:=qT HB2 hb3;clear hb3;go_wp21;go_ret2;exact⟨rfl,HB3.out⟩
theorem z7g (t:ByteArray) (ht0:0<t.size) (h45:(((t[0]'ht0).toNat:Int)==45)=false) (h48:(t.toList==[48])=true)
 (CK:Hid (∀W:zA,qJ 152 #[.string t] W (.int .i64 0))) (w:zA):
 qJ 78 #[.string t] w (.tuple #[.string t,.int .i64 0]):=by
 go_enter Tryz.func78,Tryz.ntmps78;go_wp21;refine zzM (CK.out w) λw1 hb1=>?_;have HB1:=hid hb1;clear hb1 CK;go_wp21;go_ret2;exact⟨rfl,HB1.out⟩
theorem z13:∀k:Nat,zD (10^k)=49::List.replicate k 48
 |0=>by show zD 1=[49];rw[zae (by omega)];rfl
 |k+1=>by
  have:=zi4 (n:=10^k) (d:=0) (yS (by simp)) (by omega);rw[Nat.add_zero,yP,<-Nat.pow_succ,z13 k] at this;rw[this,List.replicate_succ'];rfl
theorem z7h (a b:List UInt8):((⟨a.toArray⟩:ByteArray)++(⟨b.toArray⟩:ByteArray))=⟨(a++b).toArray⟩:=by
 apply ByteArray.ext;rw[ByteArray.data_append];simp
theorem zvx (n s:Nat) (hs:s*s<=n/\n<(s+1)*(s+1)) (hl:(zD n).length<=200) (w:zA) (hw:Wd w):
 qJ 78 #[St (zD n)] w (.tuple #[St (zD s),.int .i64 0]):=by
 obtain⟨t,ht⟩:=zzX (⟨(zD n).toArray⟩:ByteArray);obtain⟨s1,s2,s3,s4⟩:=zco _ (zci n) t ht;obtain⟨c,r,hd,hc1,hc2⟩:=dec_head n;have h45:(((t[0]'s2).toNat:Int)==45)=false:=by
  rw[beq_eq_false_iff_ne,s4 s2];simp only[hd,List.head_cons];omega
 have ck:∀W:zA,qJ 152 #[.string t] W (.int .i64 0):=λW=>by
  have:=zl4 (n:Int) (by unfold digs;rw[Int.natAbs_natCast];omega) W;rw[Str.zad] at this;rw[ht];exact this
 have rd:∀W:zA,zC zF 105 #[.string t] W λe w'=>∃v,e=.returned (.agg #[.bool false,v])/\Sl w' v ((zaa B9 n).map I)/\zB W.heap.size W w':=λW=>by
  have:=zc3 (n:Int) W (by unfold digs;rw[Int.natAbs_natCast];omega);rw[Str.zad,decide_eq_false (by omega),Int.natAbs_natCast] at this;rw[ht];exact this
 show zC _ _ #[.string ⟨(zD n).toArray⟩] _ _;rw[<-ht];by_cases h0:n=0
 ·have hs0:s=0:=by
   by_cases d:s=0
   ·exact d
   ·have:=Nat.mul_pos (show 0<s by omega) (show 0<s by omega);omega
  have h48:(t.toList==[48])=true:=by rw[ht,ByteArray.toList_eq,h0,zae (by omega)];rfl
  have:=z7g t s2 h45 h48 (hid ck) w;rw[hs0];rw[show St (zD 0)=.string t by rw[ht,h0]];exact this
 ·have h48:(t.toList==[48])=false:=zhl ht 0 (by omega) h0
  by_cases hsm:(zD n).length<=18
  ·have hn18:n<1000000000000000000:=(zaf n 18 (by omega)).1 hsm
   refine z6p t n s s2 h45 h48 (by omega) (hid ck) (hid rd) (hid λW hW=>?_) w (hid hw);refine zd3 t n s (by omega) (hid hn18) (hid hs) (hid λW=>?_) (hid λW hW=>?_) W (hid hW)
   ·have:=znc (n:Int) (by rw[Str.zad];exact hsm) W
    rw[Str.zad] at this;rw[ht];exact this
   ·have hsn:s<=n:=zO (Nat.le_mul_self s) hs.1
    have:=zb3 (s:Int) (by omega) (by omega) W hW;rw[Str.zad] at this;exact this
  ·obtain⟨k,hk⟩:∃k,(t.size+1)/2=k:=⟨_,rfl⟩
   have hn2:n<10^(2*k):=(zaf n (2*k) (by omega)).1 (by omega);have hk2:k<=101:=by omega
   have hX:=z7e hs.1 hn2;have hrep:=λW=>Tryz.strings_Repeat ⟨#[48]⟩ k W (by omega) (by show 1*k<=_;omega);have b9:∀m,m<10^250->(zaa B9 m).length<=400:=λm hm=>zO (zfv (k:=28) (by decide) (Nat.lt_of_lt_of_le hm (by decide+kernel))) (by omega);have n200:n<10^200:=(zaf n 200 (by omega)).1 hl;have x101:10^k<=10^101:=yF (by omega) hk2;have p1:(10:Nat)^200+10^101<=10^250:=by decide+kernel
   have y1:(⟨#[49]⟩:ByteArray)++⟨(Lib.repeatL [48] k).toArray⟩=⟨(zD (10^k)).toArray⟩:=by
    rw[z13,zhy];exact z7h [49] (List.replicate k 48)
   refine z7f t ⟨(Lib.repeatL [48] k).toArray⟩ ⟨(zD (10^k)).toArray⟩ n s k (10^k) (hid hs) (by omega) (yS (by simp)) hX (hid ⟨b9 _ (by omega),b9 _ (by omega),b9 _ (by omega)⟩) s2 h45 h48 (by omega) (by omega) hk (hid ck) (hid rd) (hid hrep) (hid λW=>?_) ?_ y1 ?_ w (hid hw)
   ·have hx2:10^k<10^102:=Nat.pow_lt_pow_right (by omega) (by omega)
    have:=zc3 ((10^k:Nat):Int) W (by unfold digs;rw[Int.natAbs_natCast];exact zO ((zaf _ 102 (by omega)).2 hx2) (by omega));rw[Str.zad,decide_eq_false (by omega),Int.natAbs_natCast] at this;exact this
   ·show(Lib.repeatL [48] k).toArray.size<=1000
    rw[zhy];simp;omega
   ·unfold digs
    rw[Int.natAbs_natCast];exact zO ((zaf _ 102 (by omega)).2 (Nat.lt_of_le_of_lt (zO hX x101) (Nat.pow_lt_pow_right (by omega) (by omega)))) (by omega)
theorem z6d (x y:Int) (hx:digs x<=300) (hy:digs y<=300) (hxy:digs (x*y)<=300) (w:zA) (hw:Wd w):
 qJ 79 #[St (itoa x),St (itoa y)] w (St (itoa (x*y))):=by
 have hc:=zhk x y hx hy w hw;rw[zcf hxy,zcg hxy] at hc;generalize itoa (x*y)=z at*
 have HC:=hid hc;clear hc;go_enter Tryz.func79,Tryz.ntmps79;go_wp21;refine zzM HC.out λw1 hb=>?_;go_wp21;go_ret;exact⟨rfl,hb⟩
theorem z7j (n:Nat) (hl:17<(zD n).length) (w:zA):
 qJ 189 #[St (zD n)] w (.tuple #[.int .i64 0,.bool false]):=by
 obtain⟨t,ht⟩:=zzX (⟨(zD n).toArray⟩:ByteArray);have h17:(17:Int)<(t.size:Int):=by rw[ht];show(17:Int)<((zD n).toArray.size:Int);simp;omega
 show zC _ _ #[.string ⟨(zD n).toArray⟩] _ _;rw[<-ht];clear ht hl;go_enter Tryz.func189,Tryz.ntmps189;go_wp21;go_ret2;exact⟨rfl,zM _ _⟩
theorem z5v (t r:ByteArray) (n s m:Nat) (b:Bool) (hm:IntKind.i64.wrap ((s:Int)*(s:Int))=(m:Int)) (hb:((m:Int)==(n:Int))=b)
 (NT:Hid (qK 189 #[.string t] (.tuple #[.int .i64 (n:Int),.bool true])))
 (NR:Hid (∀W:zA,zC zF 224 #[.int .i64 (n:Int)] W λe w'=>e=.returned (.int .i64 (s:Int))/\w'=W))
 (IT:Hid (qK 104 #[.int .i64 (s:Int)] (.string r))) (w:zA) (HW:Hid (Wd w)):
 qJ 159 #[.string t] w (.tuple #[.string r,.bool b]):=by
 go_enter Tryz.func159,Tryz.ntmps159;go_wp21;refine zzM (NT.out w HW.out) λw1 hb1=>?_;have HB1:=hid hb1;clear hb1 NT;go_wp21;refine zzM (NR.out w1) λw2 hw2=>?_;obtain rfl:=hw2.symm;clear hw2;go_wp21;refine zzM (IT.out w1 (HW.out.below HB1.out)) λw3 hb3=>?_;have HB3:=qT HB1 hb3;clear hb3;go_wp21;go_ret2;exact⟨rfl,HB3.out⟩
theorem z7k (t r q:ByteArray) (b:Bool) (hb:(q.toList==t.toList)=b)
 (NT:Hid (∀W:zA,qJ 189 #[.string t] W (.tuple #[.int .i64 0,.bool false])))
 (NR:Hid (qK 78 #[.string t] (.tuple #[.string r,.int .i64 0])))
 (MU:Hid (qK 79 #[.string r,.string r] (.string q))) (w:zA) (HW:Hid (Wd w)):
 qJ 159 #[.string t] w (.tuple #[.string r,.bool b]):=by
 go_enter Tryz.func159,Tryz.ntmps159;go_wp21;refine zzM (NT.out w) λw1 hb1=>?_;have HB1:=hid hb1;clear hb1 NT;go_wp21;refine zzM (NR.out w1 (HW.out.below HB1.out)) λw2 hb2=>?_;have HB2:=qT HB1 hb2;clear hb2 HB1 NR;go_wp21;refine zzM (MU.out w2 (HW.out.below HB2.out)) λw3 hb3=>?_;have HB3:=qT HB2 hb3;clear hb3;go_wp21;go_ret2;exact⟨rfl,HB3.out⟩
theorem z6f {n s:Nat} (h:s*s<=n):s<=n:=zO (Nat.le_mul_self s) h
theorem zt9 {m n:Nat} (h:m<=n):(zD m).length<=(zD n).length:=by
 have:=(zaf n (zD n).length (List.length_pos_iff.2 (zci n))).1 (zN _);exact(zaf m _ (List.length_pos_iff.2 (zci n))).2 (Nat.lt_of_le_of_lt h this)
theorem z4y (n s:Nat) (hs:s*s<=n/\n<(s+1)*(s+1)) (hl:(zD n).length<=190) (w:zA) (hw:Wd w):
 qJ 159 #[St (zD n)] w (.tuple #[St (zD s),.bool (decide (s*s=n))]):=by
 have hsn:=z6f hs.1;by_cases h17:(zD n).length<=17
 ·have hn17:n<100000000000000000:=(zaf n 17 (by omega)).1 h17
  have hss:=hs.1;refine z5v _ _ n s (s*s) _ (by rw[<-Int.natCast_mul];exact zI _ (by omega)) ?_ (hid λW hW=>zk7 n h17 W hW) (hid λW=>ztm n s (by omega) hs W) (hid λW hW=>?_) w (hid hw)
  ·rw[Bool.eq_iff_iff,beq_iff_eq,decide_eq_true_iff];omega
  ·have:=zb3 (s:Int) (by omega) (by omega) W hW
   rw[Str.zad] at this;exact this
 ·have l1:digs (s:Int)<=190:=by rw[zd9];exact zO (zt9 hsn) hl
  have l2:digs ((s:Int)*(s:Int))<=190:=by rw[<-Int.natCast_mul,zd9];exact zO (zt9 hs.1) hl
  refine z7k _ ⟨(zD s).toArray⟩ ⟨(zD (s*s)).toArray⟩ _ ?_ (hid λW=>z7j n (by omega) W) (hid λW hW=>zvx n s hs (by omega) W hW) (hid λW hW=>?_) w (hid hw)
  ·rw[ByteArray.toList_eq,ByteArray.toList_eq,Bool.eq_iff_iff,beq_iff_eq,decide_eq_true_iff]
   exact⟨λh=>zfk (by simpa using h),λh=>by rw[h]⟩
  ·have:=z6d (s:Int) (s:Int) (by omega) (by omega) (by omega) W hW
   rw[<-Int.natCast_mul,Str.zad,Str.zad] at this;exact this
theorem zhe (n:Nat):numS (n:Rat)=zD n:=by
 have:=zha (n:Int);rw[Str.zad] at this;rw[<-this];rfl
theorem zrg {n k:Nat} (hk:0<k) (h:(zD n).length<=k):sz (n:Rat) k:=by
 have h1:=(zaf n k hk).1 h;have:10^1<=10^k:=yF (by omega) hk;exact⟨by show((n:Int)).natAbs<_;rw[Int.natAbs_natCast];exact h1,by show 1<_;omega⟩
theorem z5x (n d:Nat) (hd:0<d) (h1:(zD n).length<=140) (h2:(zD d).length<=140) (w:zA) (hw:Wd w):
 qJ 81 #[St (zD n),St (zD d)] w (St (numS ((n:Rat)/(d:Rat)))):=by
 have hc:=zoj (n:Rat) (d:Rat) (by
  intro h;have:d=0:=by exact_mod_cast h
  omega) 140 140 (by omega) (by omega) (by omega) (zrg (by omega) h1) (zrg (by omega) h2) w hw
 rw[zhe,zhe] at hc;generalize numS ((n:Rat)/(d:Rat))=z at*
 have HC:=hid hc;clear hc;go_enter Tryz.func81,Tryz.ntmps81;go_wp21;refine zzM HC.out λw1 hb=>?_;go_wp21;go_ret;exact⟨rfl,hb⟩
theorem z4z (u v r1 r2 f:ByteArray) (b1 b2:Bool)
 (E1:Hid (qK 159 #[.string u] (.tuple #[.string r1,.bool b1])))
 (E2:Hid (qK 159 #[.string v] (.tuple #[.string r2,.bool b2])))
 (FR:Hid (b1=true->b2=true->qK 81 #[.string r1,.string r2] (.string f))) (w:zA) (HW:Hid (Wd w)):
 qJ 82 #[.agg #[.string u,.string v]] w (.tuple #[.string (if(b1&&b2)=true then f else⟨#[]⟩),.bool (b1&&b2)]):=by
 obtain⟨W1,hW1⟩:=zzX (w.alloc (.cells #[.string u,.string v] 123));have hb1:qL w W1:=by rw[hW1];exact(zM _ w).alloc (zN _) _
 have A:W1.heap[w.heap.size]? =some (.cells #[.string u,.string v] 123 (0,0)):=by rw[hW1];exact zG w _
 have a0:W1.cell? ⟨w.heap.size,0,none⟩=some (.string u):=by rw[zJ A];rfl
 have a1:W1.cell? ⟨w.heap.size,1,none⟩=some (.string v):=by rw[zJ A];rfl
 have HA:=hid (⟨a0,a1⟩:W1.cell? ⟨w.heap.size,0,none⟩=some (.string u)/\W1.cell? ⟨w.heap.size,1,none⟩=some (.string v));have HB:=hid hb1;rw[hW1] at a0 a1;have HW1:=hid hW1;clear hW1 hb1 A;go_enter Tryz.func82,Tryz.ntmps82;go_wp21;rw[<-HW1.out];refine zzM (E1.out W1 (HW.out.below HB.out)) λw2 hb2=>?_;have HB2:=qT HB hb2;have g0:=(zac hb2).cell HA.out.1;have g1:=(zac hb2).cell HA.out.2;clear hb2 a0 a1;go_wp21;refine zzM (E2.out w2 (HW.out.below HB2.out)) λw3 hb3=>?_;have HB3:=qT HB2 hb3;clear hb3 g0 g1;cases b1
 ·go_wp21
  all_goals first|exact(zzU ‹_›).elim|skip
  go_ret2;exact⟨rfl,HB3.out⟩
 ·cases b2
  ·go_wp21
   all_goals first|exact(zzU ‹_›).elim|skip
   go_ret2;exact⟨rfl,HB3.out⟩
  ·have HF:=hid (FR.out rfl rfl w3 (HW.out.below HB3.out))
   go_wp21
   all_goals first|exact(zzU ‹_›).elim|skip
   refine zzM HF.out λw4 hb4=>?_;have HB4:=qT HB3 hb4;clear hb4;go_wp21;go_ret2;exact⟨rfl,HB4.out⟩
theorem z6q (n d sn sd:Nat) (hd:0<d) (hn:sn*sn<=n/\n<(sn+1)*(sn+1)) (hd2:sd*sd<=d/\d<(sd+1)*(sd+1)) (h1:(zD n).length<=190) (h2:(zD d).length<=190) (w:zA) (hw:Wd w):
 qJ 82 #[.agg #[St (zD n),St (zD d)]] w (.tuple #[.string (if(decide (sn*sn=n)&&decide (sd*sd=d))=true then⟨(numS ((sn:Rat)/(sd:Rat))).toArray⟩ else⟨#[]⟩),.bool (decide (sn*sn=n)&&decide (sd*sd=d))]):=by
 refine z4z _ _ ⟨(zD sn).toArray⟩ ⟨(zD sd).toArray⟩ _ _ _ (hid λW hW=>z4y n sn hn h1 W hW) (hid λW hW=>z4y d sd hd2 h2 W hW) (hid λ_ hb W hW=>?_) w (hid hw);have hsd:0<sd:=by
  by_cases c:sd=0
  ·have:=hd2.2;rw[c] at this;omega
  ·omega
 have half:∀s m:Nat,s*s<=m->(zD m).length<=190->(zD s).length<=140:=λs m h hm=>by
  have k1:m<10^190:=(zaf m 190 (by omega)).1 hm;refine(zaf s 140 (by omega)).2 ?_;by_cases c:s<10^140
  ·exact c
  ·exfalso
   have:=Nat.mul_le_mul (show 10^140<=s by omega) (show 10^140<=s by omega);have e:(10:Nat)^190<=10^140*10^140:=by decide+kernel
   omega
 exact z5x sn sd hsd (half _ _ hn.1 h1) (half _ _ hd2.1 h2) W hW
theorem z40 (W:zA) (t:TypeId) (p q:Rat):
 RowNums (some ⟨W.heap.size,0,none⟩) 2 (λi=>if i=0 then p else q) ((W.alloc (.cells #[St (numS p),St (numS q)] t)).alloc (.cells #[St (numS p),St (numS q)] t))/\
 RowNums (some ⟨W.heap.size+1,0,none⟩) 2 (λi=>if i=0 then p else q) ((W.alloc (.cells #[St (numS p),St (numS q)] t)).alloc (.cells #[St (numS p),St (numS q)] t)):=by
 have A1:=(Below.heap_alloc (W.alloc (.cells #[St (numS p),St (numS q)] t)) (.cells #[St (numS p),St (numS q)] t) W.heap.size (by simp)).trans (zG W (.cells #[St (numS p),St (numS q)] t (0,0)));have A2:=zG (W.alloc (.cells #[St (numS p),St (numS q)] t)) (.cells #[St (numS p),St (numS q)] t (0,0));rw[zH] at A2;constructor
 ·intro i hi
  refine⟨_,_,rfl,?_⟩;rw[zJ A1]
  match i,hi with
  |0,_|1,_=>rfl
 ·intro i hi
  refine⟨_,_,rfl,?_⟩;rw[zJ A2]
  match i,hi with
  |0,_|1,_=>rfl
theorem z6r (x y a u v r:ByteArray) (is:Bool) (hy:(y.toList==[48])=false)
 (CK:Hid (∀W:zA,Wd W->zC zF 75 #[.slice (some ⟨W.heap.size,0,none⟩) 2 2,.slice (some ⟨W.heap.size+1,0,none⟩) 2 2] ((W.alloc (.cells #[.string x,.string y] 30)).alloc (.cells #[.string x,.string y] 30)) λe w'=>e=.returned (.int .i64 0)/\zB W.heap.size W w'))
 (DV:Hid (qK 93 #[.string x,.string y] (.tuple #[.string a,.int .i64 0])))
 (OF:Hid (qK 77 #[.string a] (.agg #[.string u,.string v])))
 (RT:Hid (qK 82 #[.agg #[.string u,.string v]] (.tuple #[.string r,.bool is]))) (w:zA) (HW:Hid (Wd w)):
 qJ 114 #[.string x,.string y] w (.tuple #[.string r,.bool is,.int .i64 0]):=by
 have HC:=hid (CK.out w HW.out);clear CK;go_enter Tryz.func114,Tryz.ntmps114;go_wp21;refine zzM HC.out λw2 hb2=>?_;have HB2:=hid hb2;clear hb2 HC;go_wp21;refine zzM (DV.out w2 (HW.out.below HB2.out)) λw3 hb3=>?_;have HB3:=qT HB2 hb3;clear hb3 HB2 DV;go_wp21;refine zzM (OF.out w3 (HW.out.below HB3.out)) λw4 hb4=>?_;have HB4:=qT HB3 hb4;clear hb4 HB3 OF;go_wp21;refine zzM (RT.out w4 (HW.out.below HB4.out)) λw5 hb5=>?_;have HB5:=qT HB4 hb5;clear hb5 HB4 RT;go_wp21;go_ret3;exact⟨rfl,HB5.out⟩
theorem zvz (p q:Rat) (hp:0<=p) (hq:0<q) (sp:sz p 90) (sq:sz q 90) (sn sd:Nat) (hn:sn*sn<=(p/q).num.natAbs/\(p/q).num.natAbs<(sn+1)*(sn+1)) (hd:sd*sd<=(p/q).den/\(p/q).den<(sd+1)*(sd+1)) (w:zA) (hw:Wd w):
 qJ 114 #[St (numS p),St (numS q)] w (.tuple #[.string (if(decide (sn*sn=(p/q).num.natAbs)&&decide (sd*sd=(p/q).den))=true then⟨(numS ((sn:Rat)/(sd:Rat))).toArray⟩ else⟨#[]⟩),.bool (decide (sn*sn=(p/q).num.natAbs)&&decide (sd*sd=(p/q).den)),.int .i64 0]):=by
 have hq0:q≠0:=by grind
 have hpn:0<=p.num:=Rat.num_nonneg.2 hp;have hqn:0<=q.num:=Rat.num_nonneg.2 (Rat.le_of_lt hq);have h0:0<=p/q:=by rw[Rat.div_def];exact Rat.mul_nonneg hp (Rat.le_of_lt (Rat.inv_pos.2 hq))
 have han:0<=(p/q).num:=Rat.num_nonneg.2 h0;have okp:=zd0 (by omega) (by omega) sp;have okq:=zd0 (by omega) (by omega) sq;have sa:sz (p/q) 180:=z8t hq0 sp sq;have oka:=zd0 (by omega) (by omega) sa;have da:=zok (k:=180) (by omega) sa;have dp:=zok (k:=90) (by omega) sp;have dq:=zok (k:=90) (by omega) sq;refine z6r ⟨(numS p).toArray⟩ ⟨(numS q).toArray⟩ ⟨(numS (p/q)).toArray⟩ ⟨(itoa (p/q).num).toArray⟩ ⟨(zD (p/q).den).toArray⟩ _ _ ?_ (hid λW hW=>?_) (hid λW hW=>zoj p q hq0 90 90 (by omega) (by omega) (by omega) sp sq W hW) (hid λW hW=>zio (p/q) oka W hW) (hid λW hW=>?_) w (hid hw)
 ·rw[ByteArray.toList_eq,beq_eq_false_iff_ne]
  exact λh=>hq0 ((zpy q).1 (by simpa using h))
 ·obtain⟨t1,t2⟩:=z40 W 30 p q
  have hal:qL W ((W.alloc (.cells #[St (numS p),St (numS q)] 30)).alloc (.cells #[St (numS p),St (numS q)] 30)):=((zM _ W).alloc (zN _) _).alloc (by simp) _;refine(zji _ _ 2 2 2 2 _ _ (by omega) (by omega) (hid λi _ W hW=>?_) (hid λi _ W hW=>?_) (hid λi _=>?_) (hid λi _ W=>?_) _ (hid (hW.below hal)) (hid t1) (hid t2)).mono ?_
  ·show zC _ _ #[St (numS (if i=0 then p else q))] _ _
   split
   ·exact zfj p okp W hW
   ·exact zfj q okq W hW
  ·by_cases c:i=0
   ·simp only[c,if_true];exact zio p okp W hW
   ·simp only[c,if_false];exact zio q okq W hW
  ·by_cases c:i=0
   ·simp only[c,if_true];exact dp
   ·simp only[c,if_false];exact dq
  ·by_cases c:i=0
   ·simp only[c,if_true];exact zma p hpn W
   ·simp only[c,if_false];exact zma q hqn W
  ·rintro e w' ⟨rfl,hb⟩
   exact⟨rfl,hal.trans (hb.mono hal.size)⟩
 ·have hi:itoa (p/q).num=zD (p/q).num.natAbs:=by
   have:=Str.zad (p/q).num.natAbs;rw[Int.natAbs_of_nonneg han] at this;exact this
  rw[hi];exact z6q (p/q).num.natAbs (p/q).den sn sd (p/q).den_pos hn hd (by have:=da.1;unfold digs at this;omega) (by have:=da.2;omega) W hW
theorem z77 (n d:Int) (s t r:List UInt8) (h0:(d==0)=false) (h1:(d==1)=false)
 (C1:Hid (qK 104 #[.int .i64 n] (St s)))
 (C2:Hid (qK 104 #[.int .i64 d] (St t)))
 (C3:Hid (qK 42 #[St s,St t] (.tuple #[St r,.int .i64 0])))
 (w:zA) (HW:Hid (Wd w)):
 qJ 243 #[.int .i64 n,.int .i64 d] w (.tuple #[St r,.int .i64 0]):=by
 go_enter Tryz.func243,Tryz.ntmps243;go_wp21;refine zzM (C1.out _ HW.out) λw1 hb1=>?_;have HB1:=hid hb1;clear hb1;go_wp21;refine zzM (C2.out _ (HW.out.below HB1.out)) λw2 hb2=>?_;have HB2:=qT HB1 hb2;clear hb2;go_wp21;refine zzM (C3.out _ (HW.out.below HB2.out)) λw3 hb3=>?_;have HB3:=qT HB2 hb3;clear hb3;go_wp21;go_ret2;exact⟨rfl,HB3.out⟩
theorem z7l (n d:Nat) (hd:0<d) (h1:n<1000000000000000000) (h2:d<1000000000000000000) (w:zA) (hw:Wd w):
 qJ 243 #[.int .i64 (n:Int),.int .i64 (d:Int)] w (.tuple #[St (numS ((n:Rat)/(d:Rat))),.int .i64 0]):=by
 have dg:∀k:Nat,k<1000000000000000000->digs (k:Int)<=300:=λk hk=>zO (zhd (k:=18) (by omega) (by rw[Int.natAbs_natCast];omega)) (by omega);have e:(n:Rat)/(d:Rat)=Rat.divInt (n:Int) (d:Int):=by rw[Rat.divInt_eq_div];rfl
 by_cases h:d=1
 ·subst h
  have hc:=zb3 (n:Int) (by omega) (by omega) w hw;have e1:numS ((n:Rat)/((1:Nat):Rat))=itoa (n:Int):=by
   rw[show(n:Rat)/((1:Nat):Rat)=(n:Rat) by grind,zhe,Str.zad]
  rw[e1];generalize itoa (n:Int)=z at*
  have HC:=hid hc;clear hc dg e e1;show zC _ _ #[.int .i64 (n:Int),.int .i64 1] _ _;clear h1 h2 hd;go_enter Tryz.func243,Tryz.ntmps243;go_wp21;refine zzM HC.out λw1 hb=>?_;go_wp21;go_ret2;exact⟨rfl,hb⟩
 ·rw[e]
  exact z77 _ _ (itoa n) (itoa (d:Int)) _ (by rw[beq_eq_false_iff_ne];omega) (by rw[beq_eq_false_iff_ne];omega) (hid λW hW=>zb3 _ (by omega) (by omega) W hW) (hid λW hW=>zb3 _ (by omega) (by omega) W hW)
   (hid λW hW=>zfa _ _ (by omega) (dg _ h1) (dg _ h2) W hW) w (hid hw)
def zrn (n:Nat):Nat->Nat
 |0=>0
 |k+1=>if(k+1)*(k+1)<=n then k+1 else zrn n k
def isq (n:Nat):Nat:=zrn n n
theorem zyh (n:Nat):∀k,n<(k+1)*(k+1)->zrn n k*zrn n k<=n/\n<(zrn n k+1)*(zrn n k+1)
 |0,h=>⟨zR _,h⟩
 |k+1,h=>by
  unfold zrn;split
  ·exact⟨‹_›,h⟩
  ·exact zyh n k (by omega)
theorem zv0 (n:Nat):isq n*isq n<=n/\n<(isq n+1)*(isq n+1):=zyh n n (by
 have:=Nat.le_mul_self (n+1);omega)
def zlu (p:Nat):Nat->Nat×Nat->Nat×Nat
 |0,x=>x
 |f+1,x=>if p*p∣x.2 then zlu p f (x.1*p,x.2/(p*p)) else x
def zkk (p:Nat) (x:Nat×Nat):Nat×Nat:=zlu p x.2 x
theorem zyi {p:Nat} (hp:2<=p):∀(f:Nat) (x:Nat×Nat),0<x.2->x.2<=f->zlu p (f+1) x=zlu p f x
 |0,x,h,k=>by omega
 |f+1,x,h,k=>by
  have hpp:4<=p*p:=Nat.mul_le_mul hp hp;rw[zlu]
  conv=>rhs;rw[zlu]
  by_cases c:p*p∣x.2
  ·rw[if_pos c,if_pos c]
   have h1:0<x.2/(p*p):=Nat.div_pos (Nat.le_of_dvd h c) (by omega);have h2:x.2/(p*p)<x.2:=Nat.div_lt_self h (by omega);exact zyi hp f _ h1 (by show x.2/(p*p)<=f;omega)
  ·rw[if_neg c,if_neg c]
theorem zyj {p:Nat} (hp:2<=p) (x:Nat×Nat) (h:0<x.2):∀d,zlu p (x.2+d) x=zlu p x.2 x
 |0=>rfl
 |d+1=>by rw[<-Nat.add_assoc,zyi hp _ x h (by omega),zyj hp x h d]
theorem z78 {p c l:Nat} (h:¬p*p∣l):zkk p (c,l)=(c,l):=by
 unfold zkk
 cases l with
 |zero=>rfl
 |succ l=>show zlu p (l+1) _=_;rw[zlu,if_neg h]
theorem z7m {p c l:Nat} (hp:2<=p) (hl:0<l) (h:p*p∣l):zkk p (c,l)=zkk p (c*p,l/(p*p)):=by
 have hpp:4<=p*p:=Nat.mul_le_mul hp hp;have h1:0<l/(p*p):=Nat.div_pos (Nat.le_of_dvd hl h) (by omega);have h2:l/(p*p)<l:=Nat.div_lt_self hl (by omega);unfold zkk;show zlu p l (c,l)=zlu p (l/(p*p)) (c*p,l/(p*p));obtain⟨m,rfl⟩:∃m,l=m+1:=⟨l-1,by omega⟩;rw[zlu,if_pos h];obtain⟨d,hd⟩:∃d,m=(m+1)/(p*p)+d:=⟨m-(m+1)/(p*p),by omega⟩;have:=zyj hp (c*p,(m+1)/(p*p)) h1 d;exact(congrArg (λf=>zlu p f (c*p,(m+1)/(p*p))) hd).trans this
def zro (l:List Nat) (x:Nat×Nat):Nat×Nat:=l.foldl (λx p=>zkk p x) x
def zn7 (N:Nat):Nat×Nat:=
 let x:=zro prL (1,N)
 if isq x.2*isq x.2=x.2 then(x.1*isq x.2,1) else x
structure NrmS (N k:Nat) (x:Nat×Nat):Prop where
 out:zro (prL.drop k) x=zro prL (1,N)
structure NcS (N C L:Nat):Prop where
 out:zn7 N=(C,L)
theorem NrmS.start (N:Nat):NrmS N 0 (1,N):=⟨rfl⟩
theorem z79 (k:Nat) (hk:k<25):prL.drop k=prN k::prL.drop (k+1):=by
 have h:k<prL.length:=hk;rw[List.drop_eq_getElem_cons h];congr 1;unfold prN;rw[List.getD_eq_getElem?_getD,yB h];rfl
theorem NrmS.enter {N k p c l:Nat} (h:NrmS N k (c,l)) (hk:k<25) (hp:p=prN k):NrmS N (k+1) (zkk p (c,l)):=⟨by
 rw[<-h.out,z79 k hk,hp];rfl⟩
theorem NrmS.yes {N k p c l:Nat} (h:NrmS N k (zkk p (c,l))) (hp:2<=p) (hl:0<l) (hd:p*p∣l):NrmS N k (zkk p (c*p,l/(p*p))):=by rw[<-z7m hp hl hd];exact h
theorem NrmS.no {N k p c l:Nat} (h:NrmS N k (zkk p (c,l))) (hd:¬p*p∣l):NrmS N k (c,l):=by rw[z78 hd] at h;exact h
theorem NrmS.done {N c l:Nat} (h:NrmS N 25 (c,l)):zro prL (1,N)=(c,l):=h.out.symm
theorem zv1 (n d N C L:Nat) (HCL:NcS N C L) (hN0:0<N) (hd0:0<d) (HN:Hid (n*d=N)) (HN9:Hid (N<1000000000000000000/\d<1000000000000000000))
 (AT:Hid (∀i,i<25->∀W:zA,qJ 181 #[St (prS i)] W (.tuple #[I (prN i),.nilIface])))
 (w:zA) (HW:Hid (Wd w)) (HP:Hid (Pw w)):
 qJ 190 #[.int .i64 (n:Int),.int .i64 (d:Int)] w (.tuple #[St (numS ((C:Rat)/(d:Rat))),St (zD L)]):=by
 obtain⟨tt,fz,hblk⟩:=HP.out.block;have hwm:IntKind.i64.wrap ((n:Int)*(d:Int))=N:=by rw[<-Int.natCast_mul,HN.out];exact zI _ (by have:=HN9.out;omega)
 go_enter Tryz.func190,Tryz.ntmps190;go_wp2_with (refine wpList_load_row rfl 278 (.global 1) rfl 1 rfl tt prV fz (.array 25 9) hblk (by kernel_rfl) rfl (by kernel_rfl) ?_);have hB0:=zM w.heap.size w;go_loopw [6,7,19] (λc lf i wr=>∃k cN lN:Nat,k<=25/\c=I cN/\lf=I lN/\i=.int .i64 (k:Int)/\Hid (cN*cN*lN=N)/\Hid (NrmS N k (cN,lN))/\Hid (qL w wr))
  (λ_ _ i _=>25-(zL i).toNat)
 case atStart=>exact⟨0,1,N,by omega,rfl,rfl,rfl,hid (by omega),hid (NrmS.start N),hid hB0⟩
 case round=>
  clear hB0 hwm hblk;obtain⟨k,cN,lN,hk,rfl,rfl,rfl,hE,hD,hB⟩:=hrel;by_cases hlt:k<25
  ·have hx:=λw=>z25 k hlt w
   obtain⟨g1,g2⟩:=zw4 k hlt;have hat:=hid (AT.out k hlt);obtain⟨p,hp⟩:=zzX (prN k);rw[<-hp] at g1 g2 hat
   have HPk:=hid hp;clear hp;generalize prS k=y at*
   have hwp:IntKind.i64.wrap ((p:Int)*(p:Int))=((p*p:Nat):Int):=by
    have:p*p<=97*97:=Nat.mul_le_mul g2 g2;rw[<-Int.natCast_mul];exact zI _ (by omega)
   have hpp:4<=p*p:=Nat.mul_le_mul g1 g1;obtain⟨pp,hpp2⟩:=zzX (p*p);rw[<-hpp2] at hwp hpp;have HPP:=hid hpp2;clear hpp2;go_wp21;refine zzM (hat.out wr) λw2 hb2=>?_;have hB2:=hid (hB.out.trans (hb2.mono hB.out.size));clear hb2 hB hx hat
   go_wp21;go_loopw [6,7] (λc lf wr=>∃cN lN:Nat,c=I cN/\lf=I lN/\Hid (cN*cN*lN=N)/\Hid (NrmS N (k+1) (zkk p (cN,lN)))/\Hid (qL w wr))
    (λ_ lf _=>(zL lf).toNat)
   case atStart=>exact⟨cN,lN,rfl,rfl,hE,hid (hD.out.enter hlt HPk.out),hB2⟩
   case round=>
    clear hE hD hB2;obtain⟨cN,lN,rfl,rfl,hE,hD,hB⟩:=hrel;have hl0:0<lN:=yS (λh=>by have:=hE.out;rw[h] at this;simp at this;omega);have hpp0:¬pp=0:=by omega
    have hle:lN<=N:=by rw[<-hE.out];exact Nat.le_mul_of_pos_left _ (yS (λh=>by have:=hE.out;rw[h] at this;simp at this;omega))
    have hmod:(lN:Int).tmod (pp:Int)=((lN%pp:Nat):Int):=rfl;have hdiv:(lN:Int).tdiv (pp:Int)=((lN/pp:Nat):Int):=rfl;have hwz:∀z:Nat,z<=lN->IntKind.i64.wrap (z:Int)=(z:Int):=λz hz=>zI _ (by have:=HN9.out;omega);have hwm:=hwz _ (Nat.mod_le lN pp);have hwd:=hwz _ (Nat.div_le_self lN pp);have hwq:IntKind.i64.wrap ((lN:Int)/(pp:Int))=((lN/pp:Nat):Int):=by rw[<-Int.natCast_ediv];exact hwd
    have HWQ:=hid hwq;clear hwz hwq;by_cases hd:pp∣lN
    ·have hm0:(((lN%pp:Nat):Int)==0)=true:=by rw[Nat.mod_eq_zero_of_dvd hd];rfl
     have hnext:=z1s (c:=cN) (l:=lN) (p:=p) (by rw[<-HPP.out];exact hd);rw[<-HPP.out,hE.out] at hnext;have hl1:0<lN/pp:=yS (λh=>by rw[h] at hnext;simp at hnext;omega);have hcp:cN*p<=N:=by
      rw[<-hnext];exact zO (Nat.le_mul_self _) (Nat.le_mul_of_pos_right _ hl1)
     have hwc:IntKind.i64.wrap ((cN:Int)*(p:Int))=((cN*p:Nat):Int):=by rw[<-Int.natCast_mul];exact zI _ (by have:=HN9.out;omega)
     have hlt2:lN/pp<lN:=Nat.div_lt_self hl0 (by omega);have hkeep:NrmS N (k+1) (zkk p (cN*p,lN/pp)):=by rw[HPP.out];exact hD.out.yes g1 hl0 (by rw[<-HPP.out];exact hd)
     have HNX:=hid hnext;have HK:=hid hkeep;have HL:=hid hlt2;clear hnext hkeep hd hlt2 hl1 hcp;go_wp2
     (refine wp_region_quiet_lit (by kernel_rfl) (by kernel_rfl) (WQ.out ?_);(repeat(first|(apply WQ.read (by rfl);(focus(rintro W ⟨n,rfl⟩;go_simp;try with_reducible rfl));try simp only[zzQ])|(apply WQ.skip (by rfl);try simp only[zzQ])));refine WQ.nil ?_;rintro _ ⟨nq,rfl⟩)
     go_wp2;go_roundw
     case rel=>exact⟨cN*p,lN/pp,by first|rfl|simp,by first|(rw[HWQ.out])|rfl|simp,HNX,HK,hid (zao hB.out _)⟩
     case measure=>
      rw[HWQ.out];show(lN/pp:Nat)<lN;exact HL.out
    ·have hm0:(((lN%pp:Nat):Int)==0)=false:=by
      rw[beq_eq_false_iff_ne];intro h;exact hd (Nat.dvd_of_mod_eq_zero (by omega))
     have hkeep:NrmS N (k+1) (cN,lN):=hD.out.no (by rw[<-HPP.out];exact hd);have HK:=hid hkeep;clear hkeep hd;go_wp2;go_roundw
     case rel=>exact⟨k+1,cN,lN,by omega,rfl,rfl,by go_num,hE,HK,hB⟩
     case measure=>simp[zL];omega
  ·have hk25:k=25:=by omega
   have hc0:0<cN:=yS (λh=>by have:=hE.out;rw[h] at this;simp at this;omega);have hl0:0<lN:=yS (λh=>by have:=hE.out;rw[h] at this;simp at this;omega);have hle:lN<=N:=by rw[<-hE.out];exact Nat.le_mul_of_pos_left _ (Nat.mul_pos hc0 hc0)
   have hce:cN<=N:=by rw[<-hE.out];exact zO (Nat.le_mul_self _) (Nat.le_mul_of_pos_right _ hl0)
   have hsq0:=zv0 lN;have HNC:=hid (show(C,L)=if isq lN*isq lN=lN then(cN*isq lN,1) else(cN,lN) by
    have hd:=hD.out;rw[hk25] at hd;have hd2:=hd.done;rw[<-HCL.out];unfold zn7;rw[hd2])
   generalize isq lN=s at*
   obtain⟨hs1,hs2⟩:=hsq0;have HSQ:=hid (⟨hs1,hs2⟩:s*s<=lN/\lN<(s+1)*(s+1));have hwss:IntKind.i64.wrap ((s:Int)*(s:Int))=((s*s:Nat):Int):=by rw[<-Int.natCast_mul];exact zI _ (by have:=HN9.out;omega)
   have HRT:=hid (ztm lN s (by have:=HN9.out;omega) ⟨hs1,hs2⟩ wr);have HLL:=hid (⟨hle,hce,hc0⟩:_/\_/\_);clear hk25 hD HCL AT hs1 hs2 hle hce hl0 hc0;obtain⟨ss,hss⟩:=zzX (s*s);rw[<-hss] at hwss;have HSS:=hid hss;clear hss;go_wp21;refine zzM HRT.out λw2 hw1=>?_;have hw2:=hw1.symm;subst hw2;clear hw1 HRT;by_cases hsq:ss=lN
   ·have hsq1:((ss:Int)==(lN:Int))=true:=by rw[hsq];simp
    have hcs:cN*s<=N:=by
     have h1:=hE.out;rw[<-hsq,HSS.out] at h1;have h2:(cN*s)*(cN*s)=N:=by rw[<-h1];simp only[yP,Nat.mul_left_comm]
     rw[<-h2];exact Nat.le_mul_self _
    have hwcs:IntKind.i64.wrap ((cN:Int)*(s:Int))=((cN*s:Nat):Int):=by rw[<-Int.natCast_mul];exact zI _ (by have:=HN9.out;omega)
    have HE:=hid (show C=cN*s/\L=1 by have:=HNC.out;rw[if_pos (by rw[<-HSS.out];exact hsq)] at this;exact Prod.mk.inj this);have HX:=hid (show(cN*s)*(cN*s)*1=N by
     have h1:=hE.out;rw[<-hsq,HSS.out] at h1;rw[Nat.mul_one,<-h1];simp only[yP,Nat.mul_left_comm])
    have HOF:=hid (λW hW=>z7l (cN*s) d hd0 (by have:=HN9.out;omega) HN9.out.2 W hW);clear hsq hcs hE HX HNC;generalize cN*s=cs at*
    go_wp21;refine zzM (HOF.out wr (HW.out.below hB.out)) λw3 hb3=>?_;have hB3:=hB.out.trans (hb3.mono hB.out.size);go_wp21;have hit:=zb3 1 (by omega) (by omega) w3 (HW.out.below hB3);rw[show Lib.itoa 1=zD 1 from by show Lib.itoa ((1:Nat):Int)=_;rw[Str.zad]] at hit;refine zzM hit λw4 hb4=>?_;have hB4:=hB3.trans (hb4.mono hB3.size);clear hit hb3 hb4;go_wp21;go_ret2;exact⟨by rw[HE.out.1,HE.out.2]<;>rfl,hB4⟩
   ·have hsq1:((ss:Int)==(lN:Int))=false:=beq_eq_false_iff_ne.2 (by omega)
    have HNL:=hid (show C=cN/\L=lN by have:=HNC.out;rw[if_neg (by rw[<-HSS.out];exact hsq)] at this;exact Prod.mk.inj this);have HOF:=hid (λW hW=>z7l cN d hd0 (by have:=HN9.out;have:=HLL.out;omega) HN9.out.2 W hW);have HIT:=hid (λW hW=>zb3 (lN:Int) (by omega) (by have:=HN9.out;have:=HLL.out;omega) W hW);clear hsq HNC;go_wp21;refine zzM (HOF.out wr (HW.out.below hB.out)) λw3 hb3=>?_;have hB3:=hB.out.trans (hb3.mono hB.out.size);go_wp21;refine zzM (HIT.out w3 (HW.out.below hB3)) λw4 hb4=>?_;have hB4:=hB3.trans (hb4.mono hB3.size);clear hb3 hb4;go_wp21;go_ret2;exact⟨by rw[HNL.out.1,HNL.out.2,Str.zad]<;>rfl,hB4⟩
theorem zfg:zD 1=[49]:=by rw[zae (by omega)];rfl
theorem zfc:numS 1=[49]:=by have:=zc5 1;rw[zfg] at this;exact this
theorem sz_1:sz 1 1:=⟨by decide,by decide⟩
end
section
open Go
variable {F:Fence} {n:Nat} {P:Program} {ops:Array Oper} {β:Type}
def zh5 (F:Fence) (n:Nat) (P:Program) (C:Value->zA->Prop):Result Next->Prop
 | .ok (.value u) w'=>C u w'
 | .ok .skip w'=>C undef w'
 | .ok (.enter f args) w'=>(F.depth.isSome=true->1<=n)/\CallsIn F (n-1) P f args w' (λe w''=>∃v,e=.returned v/\C v w'')
 | .ok (.round l f tmps assign body) w'=>(F.depth.isSome=true->1<=n)/\RoundIn F (n-1) P l f tmps assign body w' (λe w''=>∃v,e=.returned v/\C v w'')
 |_=>False
theorem zzr {o:Oper} {a:Act} {w:zA} {C:Value->zA->Prop} {K:Act->zA->Prop} {Q:Exit->Act->zA->Prop} (hF:∀f,F.fn f) (hro:F.round=none) (hK:∀v w',C v w'->K (a.put o.dst v) w') (h:zh5 F n P C ((execOp a.eval o).run P w)):o.wpIn F n P a w K Q:=by
 refine⟨λf _=>hF f,?_⟩;rw[hro,Oper.semAt_none];generalize (execOp a.eval o).run P w=r at*
 cases r with
 |ok x w'=>
  cases x<;>simp only[zh5] at h<;>simp only[Oper.uponIn]
  ·exact hK _ _ h
  ·exact hK _ _ h
  ·exact⟨h.1,CallsIn.mono h.2 λe w'' ⟨v,he,hc⟩=>by subst he;exact hK _ _ hc⟩
  ·exact⟨h.1,RoundIn.mono h.2 λe w'' ⟨v,he,hc⟩=>by subst he;exact hK _ _ hc⟩
 |halt x w'=>simp only[zh5] at h
def ygl (F:Fence) (n:Nat) (P:Program) (ops:Array Oper) (vs:β->Nat->Value) (C:β->Array Bool->zA->Prop) (i:Nat) (o:Oper) (a:Act) (b:β):Prop:=
 ∀L w,AcAt ops i L->C b L w->if Region.wanted o (yielded ops a.tmps) then zh5 F n P (zgx vs C i L b) ((execOp a.eval o).run P w) else zgx vs C i L b undef w
theorem zr5 (hF:∀f,F.fn f) (hro:F.round=none) {Q:Exit->Act->zA->Prop} {C:β->Array Bool->zA->Prop} (hB:(acB ops&&zfd ops)=true) (vs:β->Nat->Value) (a:Act)
 (step:∀b i o,ops[i]? =some o->ygl F n P ops vs C i o (zax ops (vs b) a (zbw ops.size i) ops.size) b)
 (hend:∀b L w,(∀i,i<ops.size->L.getD i false=true)->C b L w->Q .normal (zax ops (vs b) a (zbw ops.size ops.size) ops.size) w):
 ∀(fuel:Nat) (L:Array Bool) (w:zA) (b:β),L.size=ops.size->zoe ops L->((List.range ops.size).filter λi=>!L.getD i false).length<=fuel->C b L w->wpAnyIn F n P .any ops Q fuel L (zax ops (vs b) a L ops.size) w:=by
 obtain⟨hsel,hdist,hlook,hback⟩:=zmq hB;have hq:∀b L w,(∀i,i<ops.size->L.getD i false=true)->C b L w->Q .normal (zax ops (vs b) a L ops.size) w:=by
  intro b L w hall hC;have e:zax ops (vs b) a L ops.size=zax ops (vs b) a (zbw ops.size ops.size) ops.size:=by
   have:∀k,k<=ops.size->zax ops (vs b) a L k=zax ops (vs b) a (zbw ops.size ops.size) k:=by
    intro k
    induction k with
    |zero=>intro _;rfl
    |succ k ih=>
     intro hk;simp only[zax];rw[ih (by omega),hall k (by omega),zd5];simp[show k<ops.size by omega]
   exact this _ (zN _)
  rw[e];exact hend b L w hall hC
 have hready:∀L,L.size=ops.size->Region.ready .any ops L=[]->∀i,i<ops.size->L.getD i false=true:=by
  intro L hsz h0 i
  induction i using Nat.strongRecOn with
  |_ i ih=>
   intro hi
   cases hl:L.getD i false with
   |true=>rfl
   |false=>
    have hm:i∈Region.ready .any ops L:=by
     refine mem_ready.2 ⟨getD_in (by omega) hl,ops[i],by simp[hi],λe he hb=>?_⟩;have hlt:=hback i (ops[i]) (show ops[i]? =some (ops[i]) from Array.getElem?_eq_getElem hi) e he hb;exact ih e.on hlt (Nat.lt_trans hlt hi)
    rw[h0] at hm;cases hm
 intro fuel
 induction fuel with
 |zero=>
  intro L w b hsz hcl hcount hC;have hall:∀i,i<ops.size->L.getD i false=true:=by
   intro i hi
   cases hl:L.getD i false with
   |true=>rfl
   |false=>
    have:i∈(List.range ops.size).filter λi=>!L.getD i false:=List.mem_filter.2 ⟨List.mem_range.2 hi,by rw[hl];rfl⟩;rw[List.length_eq_zero_iff.1 (Nat.le_zero.1 hcount)] at this;cases this
  refine⟨?_,hq b L w hall hC⟩;apply List.eq_nil_iff_forall_not_mem.2;intro i hi;obtain⟨h1,o,ho,_⟩:=mem_ready.1 hi;have:=hall i (Array.getElem?_eq_some_iff.1 ho).1;rw[getD_both h1] at this;cases this
 |succ fuel ih=>
  intro L w b hsz hcl hcount hC;refine⟨λh0=>hq b L w (hready L hsz h0) hC,λi hi=>?_⟩;obtain⟨h1,o,ho,hall⟩:=mem_ready.1 hi;have hin:i<ops.size:=(Array.getElem?_eq_some_iff.1 ho).1;have hLi:=getD_both h1;have hdone:∀j,Region.waitsFor .any ops i j=true->L.getD j false=true:=by
   intro j hw;obtain⟨o',ho',e,he,hb,rfl⟩:=Region.waitsFor_spec hw;have:o'=o:=Option.some.inj (ho'.symm.trans ho);subst this;exact hall e he hb
  have hopen:∀j,Region.waitsFor .any ops j i=true->L.getD j false=false:=by
   intro j hw
   cases hl:L.getD j false with
   |false=>rfl
   |true=>rw[hcl j i hl hw] at hLi;cases hLi
  have hat:AcAt ops i L:=⟨hsz,hLi,hdone,hcl⟩;have hst:=step b i o ho L w hat hC
  have hset:=λb'=>zic (vs b') a L i (by omega) hLi (λj d hne hd hj=>by
   rcases Nat.lt_or_ge j ops.size with hjn|hjn
   ·exact hdist i j d hin hjn (Ne.symm hne) hj hd
   ·simp[zcr,Array.getElem?_eq_none hjn] at hj) ops.size
  simp only[if_pos hin] at hset;have hsame:=zit (ops:=ops) (a:=zax ops (vs b) a L ops.size) (b:=zax ops (vs b) a (zbw ops.size i) ops.size) (o:=o) (λcs b=>Region.noSelect_spec hsel i o cs b ho) (λt ht=>by
   refine zib (vs b) a L _ t ops.size λj hj hd=>?_;rw[zd5];by_cases hji:j=i
   ·subst hji;rw[hLi];simp
   ·have:=hlook i j t hin hj (Ne.symm hji) hd (by simpa [zi8,ho] using ht)
    rcases this with⟨h2,h3⟩|⟨h2,h3⟩
    ·rw[hdone j h3];simp[hj,h2]
    ·rw[hopen j h3];simp;omega)
  have hnext:∀v w',zgx vs C i L b v w'->wpAnyIn F n P .any ops Q fuel (L.setIfInBounds i true) ((zax ops (vs b) a L ops.size).put o.dst v) w':=by
   rintro v w' ⟨b',hagree,rfl,hC'⟩;have hd:o.dst=zcr ops i:=by simp[zcr,ho]
   rw[hd,ziw (vs b) (vs b') a L (λj hj=>(hagree j hj).symm) ops.size,<-hset b'];refine ih _ w' b' (by simpa using hsz) ?_ ?_ hC'
   ·intro x y hx hw
    rw[zdp L i _ (by omega)] at hx⊢;split
    ·rfl
    ·split at hx
     ·rename_i h;subst h;exact hdone y hw
     ·exact hcl x y hx hw
   ·have e:((List.range ops.size).filter λx=>!(L.setIfInBounds i true).getD x false)=((List.range ops.size).filter λx=>!L.getD x false).filter λx=>decide (x≠i):=by
     rw[List.filter_filter];refine List.filter_congr λx _=>?_;rw[zdp L i x (by omega)];by_cases h:i=x
     ·subst h;simp
     ·simp[h,Ne.symm h]
    rw[e];have:=(List.length_filter_lt_length_iff_exists (l:=(List.range ops.size).filter λx=>!L.getD x false) (p:=λx=>decide (x≠i))).2 ⟨i,List.mem_filter.2 ⟨List.mem_range.2 hin,by rw[hLi];rfl⟩,by simp⟩;omega
  unfold wpOpIn;simp only[ho];rw[hsame.2];by_cases hw:Region.wanted o (yielded ops (zax ops (vs b) a (zbw ops.size i) ops.size).tmps)=true
  ·rw[if_pos hw] at hst⊢
   rw[<-hsame.1] at hst;exact zzr hF hro hnext hst
  ·rw[if_neg hw] at hst⊢
   exact⟨λf _=>hF f,hnext _ _ hst⟩
def zuc (F:Fence) (n:Nat) (P:Program) (ops:Array Oper) (vs:β->Nat->Value) (C:β->(Nat->Bool)->zA->Prop) (i:Nat) (o:Oper) (a:Act) (b:β):Prop:=
 ∀f w,AcF ops i f->C b f w->
  if Region.wanted o (yielded ops a.tmps) then zh5 F n P (zhn vs C i f b) ((execOp a.eval o).run P w) else zhn vs C i f b undef w
def AcLN (F:Fence) (n:Nat) (P:Program) (ops:Array Oper) (vs:β->Nat->Value) (C:β->(Nat->Bool)->zA->Prop) (K:Act->zA->Prop) (b:β):Nat->List Oper->Act->Prop
 |_,[],a=>∀f w,(∀i,i<ops.size->f i=true)->C b f w->K a w
 |k,o::rest,a=>zuc F n P ops vs C k o a b/\AcLN F n P ops vs C K b (k+1) rest (a.put o.dst (vs b k))
section
variable {vs:β->Nat->Value} {C:β->(Nat->Bool)->zA->Prop} {K:Act->zA->Prop} {k:Nat} {o:Oper} {rest:List Oper} {a:Act} {b:β}
theorem ygm (h:∀f w,(∀i,i<ops.size->f i=true)->C b f w->K a w):AcLN F n P ops vs C K b k [] a:=h
theorem zdi (v:Value) (hv:vs b k=v) (hw:Region.wanted o (yielded ops a.tmps)=true)
 (hset:∀f w,C b f w->C b (λj=>if k=j then true else f j) w)
 (hy:∀f w,AcF ops k f->C b f w->(execOp a.eval o).run P w=.ok (.value v) w)
 (h:AcLN F n P ops vs C K b (k+1) rest (a.put o.dst v)):AcLN F n P ops vs C K b k (o::rest) a:=by
 subst hv;refine⟨λf w hf hC=>?_,h⟩;rw[if_pos hw,hy f w hf hC];exact⟨b,λ_ _=>rfl,rfl,hset f w hC⟩
theorem ygn (v:Value) (hv:vs b k=v) (hw:Region.wanted o (yielded ops a.tmps)=true)
 (hy:∀f w,AcF ops k f->C b f w->∀C':Value->zA->Prop,(∀b' w',(∀j,f j=true->vs b' j=vs b j)->C b' (λj=>if k=j then true else f j) w'->C' (vs b' k) w')->zh5 F n P C' ((execOp a.eval o).run P w))
 (h:AcLN F n P ops vs C K b (k+1) rest (a.put o.dst v)):AcLN F n P ops vs C K b k (o::rest) a:=by
 subst hv;refine⟨λf w hf hC=>?_,h⟩;rw[if_pos hw];exact hy f w hf hC _ λb' w' hj h'=>⟨b',hj,rfl,h'⟩
end
theorem zls {vs:β->Nat->Value} {C:β->(Nat->Bool)->zA->Prop} {K:Act->zA->Prop} {b:β}:∀(l:List Oper) (k:Nat) (a:Act),AcLN F n P ops vs C K b k l a->
 (∀i o,l[i]? =some o->zuc F n P ops vs C (k+i) o (zbq (vs b) k l a i) b)/\(∀f w,(∀i,i<ops.size->f i=true)->C b f w->K (zbq (vs b) k l a l.length) w)
 |[],k,a,h=>⟨λi o h=>by simp at h,h⟩
 |o::l,k,a,⟨hv,h⟩=>by
  obtain⟨h1,h2⟩:=zls l (k+1) _ h;refine⟨λi o' ho=>?_,?_⟩
  ·cases i with
   |zero=>
    obtain rfl:o=o':=by simpa using ho
    simpa [zbq] using hv
   |succ i=>
    have:=h1 i o' (by simpa using ho);simp only[zbq];rw[show k+(i+1)=k+1+i by omega];exact this
  ·simp only[zbq,yA]
   exact h2
theorem zqj (hF:∀f,F.fn f) (hro:F.round=none) {K:Act->zA->Prop} {Q:Exit->Act->zA->Prop} (hQ:∀a w,K a w->Q .normal a w) {l:List Oper} (vs:β->Nat->Value) (C:β->(Nat->Bool)->zA->Prop) (hB:(acB l.toArray&&zfd l.toArray)=true) {a:Act} {w:zA} (b0:β) (hC:C b0 (λ_=>false) w) (h:∀b,AcLN F n P l.toArray vs C K b 0 l a):
 wpAnyIn F n P .any l.toArray Q l.toArray.size (Array.replicate l.toArray.size false) a w:=by
 have e0:zax l.toArray (vs b0) a (Array.replicate l.toArray.size false) l.toArray.size=a:=by
  have:∀k,zax l.toArray (vs b0) a (Array.replicate l.toArray.size false) k=a:=by
   intro k
   induction k with
   |zero=>rfl
   |succ k ih=>
    have:(Array.replicate l.toArray.size false).getD k false=false:=by
     simp only[Array.getD];split<;>simp
    simp only[zax,this,Bool.false_eq_true,if_false];exact ih
  exact this _
 have:=zr5 (n:=n) hF hro (P:=P) (ops:=l.toArray) (Q:=Q) (C:=λb L w=>C b (λj=>L.getD j false) w) hB vs a ?_ ?_ l.toArray.size (Array.replicate l.toArray.size false) w b0 (by simp) ?_ ?_ ?_
 ·rw[e0] at this;exact this
 ·intro b i o ho L w hat hc
  have h1:=(zls l 0 a (h b)).1;have hi:i<l.length:=by
   have:=(Array.getElem?_eq_some_iff.1 ho).1;simpa using this
  have hst:=h1 i o (by simpa using ho) (λj=>L.getD j false) w (by rw[Nat.zero_add];exact⟨hat.self,hat.done,hat.closed⟩) hc;have ea:zax l.toArray (vs b) a (zbw l.toArray.size i) l.toArray.size=zbq (vs b) 0 l a i:=by
   have:=zdg (vs b) l a i (by omega) l.length (zN _);rw[Nat.min_eq_left (by omega)] at this;simpa using this
  have es:(λj=>(L.setIfInBounds i true).getD j false)=(λj=>if i=j then true else L.getD j false):=by
   funext j;exact zdp L i j (by rw[hat.size];simpa using hi)
  rw[Nat.zero_add] at hst;rw[ea];unfold zhn at hst;unfold zgx;simp only[es];exact hst
 ·intro b L w hall hc
  have h2:=(zls l 0 a (h b)).2;have ea:zax l.toArray (vs b) a (zbw l.toArray.size l.toArray.size) l.toArray.size=zbq (vs b) 0 l a l.length:=by
   have:=zdg (vs b) l a l.length (zN _) l.length (zN _);rw[Nat.min_self] at this;simpa using this
  rw[ea];exact hQ _ _ (h2 _ w hall hc)
 ·intro i j hi
  have:(Array.replicate l.toArray.size false).getD i false=false:=by simp only[Array.getD];split<;>simp
  rw[this] at hi;cases hi
 ·refine zO (List.length_filter_le _ _) (by simp)
 ·have:(λj=>(Array.replicate l.toArray.size false).getD j false)= λ_=>false:=by
   funext j;simp only[Array.getD];split<;>simp
  simpa only[this] using hC
theorem znw {id:Nat} {Q:Exit->Act->zA->Prop} {a:Act} {w:zA} {l:List Oper} (hF:∀f,F.fn f) (hro:F.round=none) (vs:β->Nat->Value) (C:β->(Nat->Bool)->zA->Prop) (hm:P.follows .mixedOrders=true) (hB:(acB l.toArray&&zfd l.toArray)=true) (b0:β) (hC:C b0 (λ_=>false) {w with drawn:=w.drawn+1})
 (h:∀b,AcLN F n P l.toArray vs C (Q .normal) b 0 l a):(Code.region id l.toArray true).wpIn F n P Q a w:=
 wpIn_region_any hm (zqj hF hro (λ_ _ h=>h) vs C hB b0 hC h)
end
section
open Go.RowKit Go.Shelf Lib Str Limb
attribute [local go_sem] Oper.semAt_some
theorem zf8 (v:Value) (w:zA) (p:Option Addr) (n cap:Nat) (hv:v=.slice p n cap):
 zC zF 31 #[v] w λe w'=>e=.returned (.func (.func 99) #[] #[.pointer (some ⟨w.heap.size,0,none⟩)])/\w.alloc (.cells #[v] 22)=w':=by
 subst hv;go_enter Tryz.func31,Tryz.ntmps31;go_wp2;go_ret;exact⟨rfl,rfl⟩
theorem zai {W W':zA} (h:qL W W') {b o:Nat} {v:Value} (hc:W.cell? ⟨b,o,none⟩=some v):W'.cell? ⟨b,o,none⟩=some v:=(zac h).cell hc
def ptOf (l:List (List UInt8×List UInt8)) (i:Nat):List UInt8×List UInt8:=l[i]?.getD ([],[])
def zmh (Bs:Nat) (p:Option Addr) (cap:Nat) (l:List (List UInt8×List UInt8)) (W:zA):Prop:=
 W.cell? ⟨Bs,0,none⟩=some (.slice p l.length cap)/\∀i,i<l.length->∃b off,p=some ⟨b,off,none⟩/\W.cell? ⟨b,off+i*2,none⟩=some (St (ptOf l i).1)/\W.cell? ⟨b,off+i*2+1,none⟩=some (St (ptOf l i).2)
def zlv (l:List (List UInt8×List UInt8)) (k:Nat):Value:=
 .agg #[St (ptOf l k).1,St (ptOf l k).2,St (ptOf l ((k+1)%l.length)).1,St (ptOf l ((k+1)%l.length)).2]
theorem zgo (n:Nat) (hn:1<=n) (Bs:Nat) (l:List (List UInt8×List UInt8)) (hlen:l.length<=5000) (Rd:zA->Prop) (p:Option Addr) (cap:Nat) (hRd:∀W,Rd W->zmh Bs p cap l W):
 IterC Fence.wide n zF 99 #[.pointer (some ⟨Bs,0,none⟩)] Rd (λk args=>args= #[I k,zlv l k]) l.length:=by
 intro lp J Jx W hJr hJb hY h0;refine callsIn_of_wp Tryz.func99 rfl trivial ?_ rfl;simp only[Tryz.ntmps99,zZ,yA,List.length_nil,Nat.reduceAdd,Nat.reduceSub,Array.replicate_succ,Array.replicate_zero,List.push_toArray,List.append_toArray,yI,yM];obtain⟨hb,hcs⟩:=hRd W (hJr 0 W h0);obtain⟨N,hN⟩:=zzX l.length;have HRd:=hid λk W h=>hRd W (hJr k W h);clear hRd hJr;have HY:=hid hY;clear hY;have HJB:=hid hJb;clear hJb;rw[<-hN] at hb hlen HY⊢;have HN:=hid hN;clear hN hcs;gi_wp2;gi_loopw [7] (λi wr=>∃(k:Nat),k<=N/\i=.int .i64 (k:Int)/\Hid (J k wr))
  (λi _=>N-(zL i).toNat)
 case atStart=>exact⟨0,zR _,rfl,h0⟩
 case round=>
  clear hb;obtain⟨k,hk,rfl,hJ⟩:=hrel;by_cases hlt:k<N
  ·have hlN:l.length=N:=HN.out.symm
   obtain⟨hb,hc⟩:=HRd.out k wr hJ.out;have hk2:(k+1)%N<N:=Nat.mod_lt _ (by omega);obtain⟨b,off,rfl,c0,c1⟩:=hc k (by omega);obtain⟨b',off',e,d0,d1⟩:=hc ((k+1)%N) (by omega);cases e;rw[hlN] at hb;have HY1:=hid λW h=>HY.out k #[I k,zlv l k] W h hlt rfl;unfold zlv at HY1;rw[hlN] at HY1;clear HY HRd hc;generalize (ptOf l k).1=x1 at c0 HY1;generalize (ptOf l k).2=y1 at c1 HY1;generalize (ptOf l ((k+1)%N)).1=x2 at d0 HY1;generalize (ptOf l ((k+1)%N)).2=y2 at d1 HY1;clear hlN HN;have hm:Int.tmod ((k:Int)+1) (N:Int)=((k+1)%N:Nat):=by
    rw[show((k:Int)+1)=((k+1:Nat):Int) by omega];rfl
   generalize (k+1)%N=j at hk2 d0 d1 hm;have hN0:¬N=0:=by omega
   have hwr:IntKind.i64.wrap ((k:Int)+1)=(k:Int)+1:=zI _ ⟨by omega,by omega⟩;obtain⟨W4,hW4⟩:=zzX (wr.alloc (.cells #[St x1,St y1] 32));have hB4:qL wr W4:=by rw[hW4];exact(zM _ wr).alloc (zN _) _
   have A4:W4.heap[wr.heap.size]? =some (.cells #[St x1,St y1] 32 (0,0)):=by rw[hW4];exact zG wr _
   have e0:W4.drew.cell? ⟨wr.heap.size,0,none⟩=some (St x1):=by show W4.cell? _=_;simp[World.cell?,A4]
   have e1:W4.drew.cell? ⟨wr.heap.size,1,none⟩=some (St y1):=by show W4.cell? _=_;simp[World.cell?,A4]
   have hb4:W4.drew.cell? ⟨Bs,0,none⟩=some (.slice (some ⟨b,off,none⟩) N cap):=zai hB4 hb;have d04:W4.drew.cell? ⟨b,off+j*2,none⟩=some (St x2):=zai hB4 d0;have d14:W4.drew.cell? ⟨b,off+j*2+1,none⟩=some (St y2):=zai hB4 d1;have hJ4:=HJB.out k wr W4.drew hJ.out hB4.drew;obtain⟨fn,tmps,assign,body,hy,hR⟩:=HY1.out W4.drew hJ4;have HW4:=hid hW4;clear hW4 HY1 A4;gi_wp2;rw[<-HW4.out];refine znw (λ_=>trivial) rfl (λ(g:Bool) i=>([.func (.yield lp) #[] #[],.int .i64 (k:Int),.agg #[St x1,St y1],.slice (some ⟨b,off,none⟩) N cap,.int .i64 (k:Int),.int .i64 ((k:Int)+1),.slice (some ⟨b,off,none⟩) N cap,.int .i64 (N:Int),.int .i64 (j:Int),.pointer (some ⟨b,off+j*2,none⟩),.agg #[St x2,St y2],.agg #[St x1,St y1,St x2,St y2],.bool g,.bool !g]:List Value).getD i undef)
    (λg f W'=>(f 12=false->W'=W4.drew)/\(f 12=true->(g=true/\J (k+1) W')\/(g=false/\Jx W'))) (by kernel_rfl) (by kernel_rfl) true ⟨λ_=>rfl,λh=>by cases h⟩ λg=>?_
   refine zdi (.func (.yield lp) #[] #[]) (by rfl) (by rfl) (λf W' h=>⟨h.1,h.2⟩) (λf W' hf h=>by
    obtain rfl:=h.1 (hf.no (j:=12) hf.self (by kernel_rfl));go_simp) ?_
   try simp only[zzQ]
   refine zdi (.int .i64 (k:Int)) (by rfl) (by rfl) (λf W' h=>⟨h.1,h.2⟩) (λf W' hf h=>by
    obtain rfl:=h.1 (hf.no (j:=12) hf.self (by kernel_rfl));go_simp) ?_
   try simp only[zzQ]
   refine zdi (.agg #[St x1,St y1]) (by rfl) (by rfl) (λf W' h=>⟨h.1,h.2⟩) (λf W' hf h=>by
    obtain rfl:=h.1 (hf.no (j:=12) (hf.no (j:=11) hf.self (by kernel_rfl)) (by kernel_rfl));go_simp) ?_
   try simp only[zzQ]
   refine zdi (.slice (some ⟨b,off,none⟩) N cap) (by rfl) (by rfl) (λf W' h=>⟨h.1,h.2⟩) (λf W' hf h=>by
    obtain rfl:=h.1 (hf.no (j:=12) (hf.no (j:=11) (hf.no (j:=10) (hf.no (j:=9) hf.self (by kernel_rfl)) (by kernel_rfl)) (by kernel_rfl)) (by kernel_rfl));go_simp) ?_
   try simp only[zzQ]
   refine zdi (.int .i64 (k:Int)) (by rfl) (by rfl) (λf W' h=>⟨h.1,h.2⟩) (λf W' hf h=>by
    obtain rfl:=h.1 (hf.no (j:=12) (hf.no (j:=11) (hf.no (j:=10) (hf.no (j:=9) (hf.no (j:=8) (hf.no (j:=5) hf.self (by kernel_rfl)) (by kernel_rfl)) (by kernel_rfl)) (by kernel_rfl)) (by kernel_rfl)) (by kernel_rfl));go_simp) ?_
   try simp only[zzQ]
   refine zdi (.int .i64 ((k:Int)+1)) (by rfl) (by rfl) (λf W' h=>⟨h.1,h.2⟩) (λf W' hf h=>by
    obtain rfl:=h.1 (hf.no (j:=12) (hf.no (j:=11) (hf.no (j:=10) (hf.no (j:=9) (hf.no (j:=8) hf.self (by kernel_rfl)) (by kernel_rfl)) (by kernel_rfl)) (by kernel_rfl)) (by kernel_rfl));go_simp) ?_
   try simp only[zzQ]
   refine zdi (.slice (some ⟨b,off,none⟩) N cap) (by rfl) (by rfl) (λf W' h=>⟨h.1,h.2⟩) (λf W' hf h=>by
    obtain rfl:=h.1 (hf.no (j:=12) (hf.no (j:=11) (hf.no (j:=10) (hf.no (j:=9) (hf.no (j:=8) (hf.no (j:=7) hf.self (by kernel_rfl)) (by kernel_rfl)) (by kernel_rfl)) (by kernel_rfl)) (by kernel_rfl)) (by kernel_rfl));go_simp) ?_
   try simp only[zzQ]
   refine zdi (.int .i64 (N:Int)) (by rfl) (by rfl) (λf W' h=>⟨h.1,h.2⟩) (λf W' hf h=>by
    obtain rfl:=h.1 (hf.no (j:=12) (hf.no (j:=11) (hf.no (j:=10) (hf.no (j:=9) (hf.no (j:=8) hf.self (by kernel_rfl)) (by kernel_rfl)) (by kernel_rfl)) (by kernel_rfl)) (by kernel_rfl));go_simp) ?_
   try simp only[zzQ]
   refine zdi (.int .i64 (j:Int)) (by rfl) (by rfl) (λf W' h=>⟨h.1,h.2⟩) (λf W' hf h=>by
    obtain rfl:=h.1 (hf.no (j:=12) (hf.no (j:=11) (hf.no (j:=10) (hf.no (j:=9) hf.self (by kernel_rfl)) (by kernel_rfl)) (by kernel_rfl)) (by kernel_rfl));go_simp) ?_
   try simp only[zzQ]
   refine zdi (.pointer (some ⟨b,off+j*2,none⟩)) (by rfl) (by rfl) (λf W' h=>⟨h.1,h.2⟩) (λf W' hf h=>by
    obtain rfl:=h.1 (hf.no (j:=12) (hf.no (j:=11) (hf.no (j:=10) hf.self (by kernel_rfl)) (by kernel_rfl)) (by kernel_rfl));go_simp) ?_
   try simp only[zzQ]
   refine zdi (.agg #[St x2,St y2]) (by rfl) (by rfl) (λf W' h=>⟨h.1,h.2⟩) (λf W' hf h=>by
    obtain rfl:=h.1 (hf.no (j:=12) (hf.no (j:=11) hf.self (by kernel_rfl)) (by kernel_rfl));go_simp) ?_
   try simp only[zzQ]
   refine zdi (.agg #[St x1,St y1,St x2,St y2]) (by rfl) (by rfl) (λf W' h=>⟨h.1,h.2⟩) (λf W' hf h=>by
    obtain rfl:=h.1 (hf.no (j:=12) hf.self (by kernel_rfl));go_simp) ?_
   try simp only[zzQ]
   refine ygn (.bool g) (by rfl) (by rfl) (λf W' hf h C' hC'=>by
    obtain rfl:=h.1 hf.self;go_simp;refine⟨λ_=>by omega,hR.mono ?_⟩;rintro e W3 (⟨rfl,hJ3⟩|⟨rfl,hJx3⟩)
    ·refine⟨_,rfl,hC' true W3 (λi hi=>?_) ⟨λh=>(by cases h),λ_=>.inl ⟨rfl,hJ3⟩⟩⟩
     match i,hi with
     |0,_|1,_|2,_|3,_|4,_|5,_|6,_|7,_|8,_|9,_|10,_|11,_=>rfl
     |12,hi=>rw[hf.self] at hi;cases hi
     |13,hi=>rw[hf.no (j:=13) hf.self (by kernel_rfl)] at hi;cases hi
     |_+14,_=>rfl
    ·refine⟨_,rfl,hC' false W3 (λi hi=>?_) ⟨λh=>(by cases h),λ_=>.inr ⟨rfl,hJx3⟩⟩⟩
     match i,hi with
     |0,_|1,_|2,_|3,_|4,_|5,_|6,_|7,_|8,_|9,_|10,_|11,_=>rfl
     |12,hi=>rw[hf.self] at hi;cases hi
     |13,hi=>rw[hf.no (j:=13) hf.self (by kernel_rfl)] at hi;cases hi
     |_+14,_=>rfl) ?_
   try simp only[zzQ]
   refine zdi (.bool !g) (by rfl) (by rfl) (λf W' h=>⟨h.1,h.2⟩) (λf W' hf h=>by go_simp) ?_
   try simp only[zzQ]
   refine ygm λf W5 hf h=>?_;rcases h.2 (hf 12 (by decide)) with⟨rfl,hJ5⟩|⟨rfl,hJx5⟩
   ·have HJ5:=hid hJ5;clear hJ5 hf h
    gi_wp2;go_roundw
    case rel=>exact⟨k+1,by omega,by go_num,HJ5.out⟩
    case measure=>simp[zL];omega
   ·have HJx5:=hid hJx5;clear hJx5 hf h
    gi_wp2;refine bodyPost_ret (results_none rfl _ _ _) rfl ?_;exact⟨⟨_,rfl⟩,.inr HJx5.out⟩
  ·obtain rfl:k=N:=by omega
   gi_wp2;go_end0;exact⟨⟨_,rfl⟩,.inl hJ.out⟩
end
section
open Go.RowKit Go.Shelf Lib Str Limb Geo
attribute [local go_sem] Oper.semAt_some
def txt (l:List Pt):List (List UInt8×List UInt8):=l.map λp=>(numS p.x,numS p.y)
theorem zce (l:List Pt):(txt l).length=l.length:=by simp[txt]
def cor (l:List Pt) (k:Nat):Pt:=l[k%l.length]?.getD ⟨0,0⟩
theorem zlb (l:List Pt) (k:Nat) (hk:k<l.length):ptOf (txt l) k=(numS (cor l k).x,numS (cor l k).y):=by
 unfold ptOf txt cor;rw[List.getElem?_map,Nat.mod_eq_of_lt hk,yB hk];rfl
theorem zj4 (l:List Pt) (k:Nat):cor l (k%l.length)=cor l k:=by unfold cor;rw[Nat.mod_mod]
theorem zgr (l:List Pt) (k:Nat) (hk:k<l.length):zlv (txt l) k=segV (cor l k) (cor l (k+1)):=by
 unfold zlv;rw[zce,zlb l k hk,zlb l _ (Nat.mod_lt _ (by omega)),zj4];rfl
def zft (n i k:Nat):Int:=if k=i+1\/(i=0/\k=n-1) then 1 else 0
def okS2 (l:List Pt) (i k:Nat):Prop:=meet (cor l i) (cor l (i+1)) (cor l k) (cor l (k+1))=zft l.length i k
def zc8 (l:List Pt):Prop:=∀i k,i<k->k<l.length->okS2 l i k
structure SimS (w:zA) (p:Option Addr) (cap n:Nat) (l:List Pt) (W:zA):Prop where
 bel:qL w W
 box:W.cell? ⟨w.heap.size,0,none⟩=some (.slice p n cap)
 res:W.cell? ⟨w.heap.size+1,0,none⟩=some (.bool false)
 fr:W.frozen? ⟨w.heap.size+1,0,none⟩=false
 cbx:W.cell? ⟨w.heap.size+1+1,0,none⟩=some (.slice p n cap)
 pts:∀i,i<n->∃b off,p=some ⟨b,off,none⟩/\W.cell? ⟨b,off+i*2,none⟩=some (St (ptOf (txt l) i).1)/\W.cell? ⟨b,off+i*2+1,none⟩=some (St (ptOf (txt l) i).2)
theorem SimS.keep {w:zA} {p:Option Addr} {cap n:Nat} {l:List Pt} {W W':zA} (h:SimS w p cap n l W) (hc:CellsKept W W') (hb:zB w.heap.size W W'):SimS w p cap n l W':=
 ⟨h.bel.trans hb,hc.cell h.box,hc.cell h.res,hc.frozen h.res h.fr,hc.cell h.cbx,λi hi=>let ⟨b,off,e,h1,h2⟩:=h.pts i hi;⟨b,off,e,hc.cell h1,hc.cell h2⟩⟩
theorem SimS.ptsAt {w:zA} {p:Option Addr} {cap n:Nat} {l:List Pt} {W:zA} (hn:n=l.length) (h:SimS w p cap n l W) {B:Nat} (hB:W.cell? ⟨B,0,none⟩=some (.slice p n cap)):zmh B p cap (txt l) W:=by
 refine⟨by rw[zce,<-hn];exact hB,λi hi=>h.pts i (by rw[zce] at hi;omega)⟩
structure SegAt (b:Nat) (x y:Pt) (W:zA):Prop where
 h0:W.cell? ⟨b,0,none⟩=some (St (numS x.x))
 h1:W.cell? ⟨b,1,none⟩=some (St (numS x.y))
 h2:W.cell? ⟨b,2,none⟩=some (St (numS y.x))
 h3:W.cell? ⟨b,3,none⟩=some (St (numS y.y))
theorem SegAt.new (W:zA) (x y:Pt) (t:TypeId):SegAt W.heap.size x y (W.alloc (.cells #[St (numS x.x),St (numS x.y),St (numS y.x),St (numS y.y)] t)):=by
 have A:=zG W (.cells #[St (numS x.x),St (numS x.y),St (numS y.x),St (numS y.y)] t);constructor<;>(rw[zJ A];rfl)
theorem SegAt.keep {b:Nat} {x y:Pt} {W W':zA} (h:SegAt b x y W) (hc:CellsKept W W'):SegAt b x y W':=⟨hc.cell h.h0,hc.cell h.h1,hc.cell h.h2,hc.cell h.h3⟩
theorem zse (p:Option Addr) (cap:Nat) (l:List Pt) (h3:3<=l.length) (hlen:l.length<=4096)
 (M:Hid (∀i k,i<l.length->k<l.length->qK 95 #[segV (cor l i) (cor l (i+1)),segV (cor l k) (cor l (k+1))] (.int .i64 (meet (cor l i) (cor l (i+1)) (cor l k) (cor l (k+1))))))
 (w:zA) (HW:Hid (Wd w))
 (HP:Hid (∀i,i<l.length->∃b off,p=some ⟨b,off,none⟩/\w.cell? ⟨b,off+i*2,none⟩=some (St (ptOf (txt l) i).1)/\w.cell? ⟨b,off+i*2+1,none⟩=some (St (ptOf (txt l) i).2))):
 zC zF 98 #[.slice p l.length cap] w λe w'=>∃b,e=.returned (.bool b)/\(b=true↔zc8 l)/\zB w.heap.size w w':=by
 refine(callsIn_wide (n:=5)).1 ?_;refine callsIn_of_wp_marks Tryz.func98 rfl trivial ?_ rfl;simp only[Tryz.ntmps98,zZ,yA,List.length_nil,Nat.reduceAdd,Nat.reduceSub,Array.replicate_succ,Array.replicate_zero,List.push_toArray,List.append_toArray,yI,yM];obtain⟨n,hn⟩:=zzX l.length;have hS0:SimS w p cap n l (((w.alloc (.cells #[.slice p n cap] 22)).alloc (.cells #[.bool false] 4)).alloc (.cells #[.slice p n cap] 22)):=by
  have b1:=Boxed.new w 22 (.slice p n cap);have b2:=Boxed.new (w.alloc (.cells #[.slice p n cap] 22)) 4 (.bool false);have b3:=Boxed.new ((w.alloc (.cells #[.slice p n cap] 22)).alloc (.cells #[.bool false] 4)) 22 (.slice p n cap);have b12:=(b1.alloc (.cells #[.bool false] 4)).alloc (.cells #[.slice p n cap] 22);have b22:=b2.alloc (.cells #[.slice p n cap] 22);simp only[zH] at b3 b22;have hbel:qL w (((w.alloc (.cells #[.slice p n cap] 22)).alloc (.cells #[.bool false] 4)).alloc (.cells #[.slice p n cap] 22)):=(((zM _ w).alloc (zN _) _).alloc (by simp) _).alloc (by simp;omega) _;refine⟨hbel,b12.cell,b22.cell,b22.frozen,b3.cell,λi hi=>?_⟩;obtain⟨b,off,e,h1,h2⟩:=HP.out i (by omega);exact⟨b,off,e,zai hbel h1,zai hbel h2⟩
 rw[<-hn] at h3 hlen⊢;have HN:=hid hn;clear hn;have HS0:=hid hS0;clear hS0 HP;gi_wp2_with (refine⟨trivial,?_⟩;gi_at_call 31;refine(callsIn_wide.2 (zf8 _ _ _ _ _ rfl)).mono ?_;rintro e w' ⟨rfl,rfl⟩);have hS0:=HS0.out;clear HS0;generalize ((w.alloc (.cells #[.slice p n cap] 22)).alloc (.cells #[.bool false] 4)).alloc (.cells #[.slice p n cap] 22)=W0 at*
 have HS:=hid hS0.bel.size;have hseq:=zgo 4 (by omega) (w.heap.size+1+1) (txt l) (by rw[zce,<-HN.out];omega) (λW=>SimS w p cap n l W) p cap (λW h=>h.ptsAt HN.out h.cbx);rw[zce,<-HN.out] at hseq
 refine z9z (n:=5) (B:=w.heap.size) rfl (by omega) rfl trivial (enters_of Tryz.func99 (by kernel_rfl) rfl) hseq (λk args h=>by subst h;rfl) hS0.bel.size
  (λk W=>SimS w p cap n l W/\∀i j,i<k->i<j->j<n->okS2 l i j)
  (λc _ W=>c=.ret/\zB w.heap.size w W/\W.cell? ⟨w.heap.size+1,0,none⟩=some (.bool false)/\¬zc8 l)
  (λk W W' h hc hb=>⟨h.1.keep hc hb,h.2⟩) (λc k W W' h hc hb=>⟨h.1,h.2.1.trans hb,hc.cell h.2.2.1,h.2.2.2⟩) (λk W h=>h.1) ⟨hS0,λi j h=>by omega⟩
  (λk _ a' W=>∃bi bs,a'={tmps:= #[Value.slice p n cap,Value.pointer (some {block:=w.heap.size,off:=0}),Value.pointer (some {block:=w.heap.size+1,off:=0}),.pointer (some ⟨bi,0,none⟩),.pointer (some ⟨bs,0,none⟩),undef,undef,undef,Value.slice p n cap,
    Value.func (Fn.func 99) #[] #[Value.pointer (some {block:=w.heap.size+1+1,off:=0})],I k,segV (cor l k) (cor l (k+1)),undef,undef,undef,undef,undef,undef,undef,undef,undef,undef,undef,undef,undef,undef,undef,undef,undef,undef,undef,undef,undef,undef,undef,undef,undef,undef,undef],defers:=[]}/\W.cell? ⟨bi,0,none⟩=some (I k)/\SegAt bs (cor l k) (cor l (k+1)) W)
  (λk _ a' W W' h hc hb=>let ⟨bi,bs,e,h1,h2⟩:=h;⟨bi,bs,e,hc.cell h1,h2.keep hc⟩) ?assign ?body ?done ?stop
 case assign=>
  rintro lp k args W K hlp hrec ⟨hS,hP⟩ hk rfl hK;rw[zgr l k (by rw[<-HN.out];exact hk)];have HK:=hid hK;clear hK;unfold segV;gi_wp2;have hb1:qL W (W.alloc (.cells #[I k] 3)):=(zM _ W).alloc (zN _) _;have hb2:qL W ((W.alloc (.cells #[I k] 3)).alloc (.cells #[St (numS (cor l k).x),St (numS (cor l k).y),St (numS (cor l (k+1)).x),St (numS (cor l (k+1)).y)] 64)):=hb1.alloc (by simp) _;have hseg:=SegAt.new (W.alloc (.cells #[I k] 3)) (cor l k) (cor l (k+1)) 64;rw[zH] at hseg;refine HK.out _ _ ((za0 hb2).from _) ⟨hS.keep (zac hb2) (hb2.mono hS.bel.size),hP⟩ ⟨W.heap.size,W.heap.size+1,rfl,?_,hseg⟩;exact(Boxed.alloc (Boxed.new W 3 (I k)) _).cell
 case body=>
  rintro lp k args a' W hlp ⟨r,hr⟩ ⟨hS,hP⟩ hk rfl ⟨bi,bs,rfl,hi,hseg⟩;have hbox:=hS.box;obtain⟨W2,hW2⟩:=zzX (W.alloc (.cells #[.slice p n cap] 22));have hb2:qL W W2:=by rw[hW2];exact(zM _ W).alloc (zN _) _
  have hcb:W2.cell? ⟨W.heap.size,0,none⟩=some (.slice p n cap):=by rw[hW2];exact(Boxed.new W 22 (.slice p n cap)).cell
  have hr2:W2.heap[lp]? =some (.loop r):=(hb2.block _ (Array.getElem?_eq_some_iff.1 hr).1).trans hr;have H0:=hid (⟨hS,hP⟩:SimS w p cap n l W/\∀i j,i<k->i<j->j<n->okS2 l i j);have HC:=hid (⟨hi,hseg,hb2,hcb⟩:W.cell? ⟨bi,0,none⟩=some (I k)/\SegAt bs (cor l k) (cor l (k+1)) W/\zB W.heap.size W W2/\W2.cell? ⟨W.heap.size,0,none⟩=some (.slice p n cap));have HW2:=hid hW2;clear hW2 hS hP hi hseg hb2 hcb hr hseq hS0;gi_wp2_with (refine⟨trivial,?_⟩;gi_at_call 31;refine(CallsIn.inRound lp (callsIn_wide.2 (zf8 _ _ _ _ _ rfl))).mono ?_;rintro e w' ⟨rfl,rfl⟩);rw[<-HW2.out];obtain⟨hi,hseg,hb2,hcb⟩:=HC.out;obtain⟨hS,hP⟩:=H0.out;have hseq:=zgo 2 (by omega) W.heap.size (txt l) (by rw[zce,<-HN.out];omega) (λW'=>SimS w p cap n l W'/\W'.cell? ⟨W.heap.size,0,none⟩=some (.slice p n cap)) p cap (λW h=>h.1.ptsAt HN.out h.2);rw[zce,<-HN.out] at hseq
  refine zr1 (l₀:=lp) (r₀:=r) (n:=3) (B:=W.heap.size) rfl hr2 (by omega) rfl trivial (enters_of Tryz.func99 (by kernel_rfl) rfl) (hseq.inRound lp) (λk args h=>by subst h;rfl) hb2.size
   (λj W'=>qL W W'/\W'.cell? ⟨W.heap.size,0,none⟩=some (.slice p n cap)/\∀j',k<j'->j'<j->okS2 l k j')
   (λc _ W'=>c=.ret/\KeepsFrom W0.heap.size W W'/\zB w.heap.size w W'/\W'.cell? ⟨w.heap.size+1,0,none⟩=some (.bool false)/\¬zc8 l)
   (λj X Y h hc hb=>⟨h.1.trans hb,hc.cell h.2.1,h.2.2⟩)
   (λc j X Y h hc hb=>⟨h.1,⟨zO h.2.1.size hb.size,λq o hq h0 ho=>(hb.block _ (Array.getElem?_eq_some_iff.1 h0).1).trans (h.2.1.same q o hq h0 ho)⟩,h.2.2.1.trans (hb.mono hS.bel.size),hc.cell h.2.2.2.1,h.2.2.2.2⟩)
   (λj W' h=>⟨hS.keep (zac h.1) (h.1.mono hS.bel.size),h.2.1⟩) ⟨hb2,hcb,λj' h1 h2=>by omega⟩
   (λj _ a' W'=>∃bt,a'={tmps:= #[Value.slice p n cap,Value.pointer (some {block:=w.heap.size,off:=0}),Value.pointer (some {block:=w.heap.size+1,off:=0}),.pointer (some ⟨bi,0,none⟩),.pointer (some ⟨bs,0,none⟩),I j,.pointer (some ⟨bt,0,none⟩),undef,Value.slice p n cap,Value.func (Fn.func 99) #[] #[Value.pointer (some {block:=w.heap.size+1+1,off:=0})],I k,segV (cor l k) (cor l (k+1)),Value.slice p n cap,Value.func (Fn.func 99) #[] #[Value.pointer (some {block:=W.heap.size,off:=0})],I j,segV (cor l j) (cor l (j+1)),undef,undef,undef,undef,undef,undef,undef,undef,undef,undef,undef,undef,undef,undef,undef,undef,undef,undef,undef,undef,undef,undef,undef],defers:=[]}/\SegAt bt (cor l j) (cor l (j+1)) W')
   (λj _ a' X Y h hc hb=>let ⟨bt,e,h1⟩:=h;⟨bt,e,h1.keep hc⟩) ?iassign ?ibody ?idone ?istop
  case iassign=>
   rintro lq j args W' K hlq hrec ⟨hB',hcb',hP'⟩ hj rfl hK;rw[zgr l j (by rw[<-HN.out];exact hj)];have HK:=hid hK;clear hK;unfold segV;gi_wp2;have hb1:qL W' (W'.alloc (.cells #[St (numS (cor l j).x),St (numS (cor l j).y),St (numS (cor l (j+1)).x),St (numS (cor l (j+1)).y)] 64)):=(zM _ W').alloc (zN _) _;refine HK.out _ _ ((za0 hb1).from _) ⟨hB'.trans (hb1.mono hB'.size),zai hb1 hcb',hP'⟩ ⟨W'.heap.size,rfl,SegAt.new W' (cor l j) (cor l (j+1)) 64⟩
  case ibody=>
   rintro lq j args a' W' hlq ⟨r',hr'⟩ ⟨hB',hcb',hP'⟩ hj rfl ⟨bt,rfl,hseg'⟩;have hi':=zai hB' hi;have hS':=hS.keep (zac hB') (hB'.mono hS.bel.size);have hbox':=hS'.box;have hres:=hS'.res;have hfr:=hS'.fr;obtain⟨g0,g1,g2,g3⟩:=hseg.keep (zac hB');obtain⟨k0,k1,k2,k3⟩:=hseg';have hwd:=HW.out.below hS'.bel;have HS2:=hid (⟨hB',hcb',hP',hS'⟩:qL W W'/\W'.cell? ⟨W.heap.size,0,none⟩=some (.slice p n cap)/\(∀j',k<j'->j'<j->okS2 l k j')/\SimS w p cap n l W');have hM:=M.out k j (by rw[<-HN.out];exact hk) (by rw[<-HN.out];exact hj) W' hwd;obtain⟨m,hm⟩:=zzX (meet (cor l k) (cor l (k+1)) (cor l j) (cor l (j+1)));rw[<-hm] at hM;unfold segV at hM⊢;have HM:=hid hM;have HMM:=hid hm;have hwk:IntKind.i64.wrap ((k:Int)+1)=(k:Int)+1:=zI _ ⟨by omega,by omega⟩;have hwn:IntKind.i64.wrap ((n:Int)-1)=(n:Int)-1:=zI _ ⟨by omega,by omega⟩;clear hM hm hB' hcb' hP' hS' hi hseg hb2 hcb hS hP hseq hbox hwd HW2 H0 hr2 hr';by_cases hle:j<=k
   ·have e1:decide ((j:Int)<=(k:Int))=true:=decide_eq_true (by omega)
    gi_wp2;obtain⟨hB',hcb',hP',hS'⟩:=HS2.out;exact⟨KeepsFrom.refl _ _,hB',hcb',λj' h1 h2=>hP' j' h1 (by omega)⟩
   ·have e1:decide ((j:Int)<=(k:Int))=false:=decide_eq_false (by omega)
    have hcase:(zft n k j=1/\((((j:Int)==(k:Int)+1)=true)\/(((j:Int)==(k:Int)+1)=false/\((k:Int)==0)=true/\((j:Int)==(n:Int)-1)=true)))\/
     (zft n k j=0/\((((j:Int)==(k:Int)+1)=false/\((k:Int)==0)=true/\((j:Int)==(n:Int)-1)=false)\/(((j:Int)==(k:Int)+1)=false/\((k:Int)==0)=false))):=by
     unfold zft;simp only[beq_iff_eq,beq_eq_false_iff_ne];by_cases h1:j=k+1
     ·left;exact⟨if_pos (.inl h1),.inl (by omega)⟩
     ·by_cases h2:k=0
      ·by_cases h3:j=n-1
       ·left;exact⟨if_pos (.inr ⟨h2,h3⟩),.inr ⟨by omega,by omega,by omega⟩⟩
       ·right;exact⟨if_neg (by omega),.inl ⟨by omega,by omega,by omega⟩⟩
      ·right;exact⟨if_neg (by omega),.inr ⟨by omega,by omega⟩⟩
    have hgood:∀W3,qL W' W3->m=zft n k j->KeepsFrom W2.heap.size W' W3/\zB W.heap.size W W3/\W3.cell? ⟨W.heap.size,0,none⟩=some (.slice p n cap)/\∀j',k<j'->j'<j+1->okS2 l k j':=by
     intro W3 hb3 hmw;obtain⟨hB',hcb',hP',hS'⟩:=HS2.out;refine⟨(za0 hb3).from _,hB'.trans (hb3.mono hB'.size),zai hb3 hcb',λj' h1 h2=>?_⟩;by_cases h:j'=j
     ·subst h;unfold okS2;rw[<-HMM.out,hmw,<-HN.out]
     ·exact hP' j' h1 (by omega)
    have hbad:∀W3,qL W' W3->m≠zft n k j->KeepsFrom W2.heap.size W' (W3.setCell ⟨w.heap.size+1,0,none⟩ (.bool false))/\Code.ret=Code.ret/\KeepsFrom W0.heap.size W (W3.setCell ⟨w.heap.size+1,0,none⟩ (.bool false))/\zB w.heap.size w (W3.setCell ⟨w.heap.size+1,0,none⟩ (.bool false))/\(W3.setCell ⟨w.heap.size+1,0,none⟩ (.bool false)).cell? ⟨w.heap.size+1,0,none⟩=some (.bool false)/\¬zc8 l:=by
     intro W3 hb3 hmw;obtain⟨hB',hcb',hP',hS'⟩:=HS2.out;have k3:=KeepsOthers.setCell W3 ⟨w.heap.size+1,0,none⟩ (.bool false);have hS3:=hS'.keep (zac hb3) (hb3.mono hS'.bel.size);refine⟨((za0 hb3).from _).trans (k3.from _),rfl,(((za0 hB').from _).trans ((za0 hb3).from _)).trans (k3.from _),hS3.bel.setCell (p:=⟨w.heap.size+1,0,none⟩) (by simp) _,World.cell?_setCell_same' _ _ _ (by rw[hS3.res];rfl),λhs=>hmw ?_⟩;have:=hs k j (by omega) (by rw[<-HN.out];exact hj);unfold okS2 at this;rw[<-HMM.out,<-HN.out] at this;exact this
    have HG:=hid hgood;have HBd:=hid hbad;clear hgood hbad;rcases hcase with⟨hwant,f1|⟨f1,f2,f3⟩⟩|⟨hwant,⟨f1,f2,f3⟩|⟨f1,f2⟩⟩
    ·by_cases hmw:m=1
     ·have hmb:(m !=1)=false:=by simpa [hwant] using hmw
      have HWT:=hid hwant;have HMW:=hid hmw;clear hwant hmw;gi_wp2
      all_goals first|exact(zzU ‹_›).elim|skip
      refine⟨trivial,(CallsIn.inRound lq (CallsIn.inRound lp (callsIn_wide.2 HM.out))).mono ?_⟩;rintro e W3 ⟨rfl,hb3⟩;have h9:=HG.out W3 hb3 (by rw[HWT.out];exact HMW.out);clear hb3;gi_wp2;exact h9
     ·have hmb:(m !=1)=true:=by simpa [hwant] using hmw
      have HWT:=hid hwant;have HMW:=hid hmw;clear hwant hmw;gi_wp2
      all_goals first|exact(zzU ‹_›).elim|skip
      refine⟨trivial,(CallsIn.inRound lq (CallsIn.inRound lp (callsIn_wide.2 HM.out))).mono ?_⟩;rintro e W3 ⟨rfl,hb3⟩;have h9:=HBd.out W3 hb3 (by rw[HWT.out];exact HMW.out);have hres3:=zai hb3 hres;have hfr3:W3.frozen? ⟨w.heap.size+1,0,none⟩=false:=(zac hb3).frozen hres hfr;have H9:=hid h9;clear hb3 h9;gi_wp2;exact⟨H9.out.1,rfl,H9.out.2.2⟩
    ·by_cases hmw:m=1
     ·have hmb:(m !=1)=false:=by simpa [hwant] using hmw
      have HWT:=hid hwant;have HMW:=hid hmw;clear hwant hmw;gi_wp2
      all_goals first|exact(zzU ‹_›).elim|skip
      refine⟨trivial,(CallsIn.inRound lq (CallsIn.inRound lp (callsIn_wide.2 HM.out))).mono ?_⟩;rintro e W3 ⟨rfl,hb3⟩;have h9:=HG.out W3 hb3 (by rw[HWT.out];exact HMW.out);clear hb3;gi_wp2;exact h9
     ·have hmb:(m !=1)=true:=by simpa [hwant] using hmw
      have HWT:=hid hwant;have HMW:=hid hmw;clear hwant hmw;gi_wp2
      all_goals first|exact(zzU ‹_›).elim|skip
      refine⟨trivial,(CallsIn.inRound lq (CallsIn.inRound lp (callsIn_wide.2 HM.out))).mono ?_⟩;rintro e W3 ⟨rfl,hb3⟩;have h9:=HBd.out W3 hb3 (by rw[HWT.out];exact HMW.out);have hres3:=zai hb3 hres;have hfr3:W3.frozen? ⟨w.heap.size+1,0,none⟩=false:=(zac hb3).frozen hres hfr;have H9:=hid h9;clear hb3 h9;gi_wp2;exact⟨H9.out.1,rfl,H9.out.2.2⟩
    ·by_cases hmw:m=0
     ·have hmb:(m !=0)=false:=by simpa [hwant] using hmw
      have HWT:=hid hwant;have HMW:=hid hmw;clear hwant hmw;gi_wp2
      all_goals first|exact(zzU ‹_›).elim|skip
      refine⟨trivial,(CallsIn.inRound lq (CallsIn.inRound lp (callsIn_wide.2 HM.out))).mono ?_⟩;rintro e W3 ⟨rfl,hb3⟩;have h9:=HG.out W3 hb3 (by rw[HWT.out];exact HMW.out);clear hb3;gi_wp2;exact h9
     ·have hmb:(m !=0)=true:=by simpa [hwant] using hmw
      have HWT:=hid hwant;have HMW:=hid hmw;clear hwant hmw;gi_wp2
      all_goals first|exact(zzU ‹_›).elim|skip
      refine⟨trivial,(CallsIn.inRound lq (CallsIn.inRound lp (callsIn_wide.2 HM.out))).mono ?_⟩;rintro e W3 ⟨rfl,hb3⟩;have h9:=HBd.out W3 hb3 (by rw[HWT.out];exact HMW.out);have hres3:=zai hb3 hres;have hfr3:W3.frozen? ⟨w.heap.size+1,0,none⟩=false:=(zac hb3).frozen hres hfr;have H9:=hid h9;clear hb3 h9;gi_wp2;exact⟨H9.out.1,rfl,H9.out.2.2⟩
    ·by_cases hmw:m=0
     ·have hmb:(m !=0)=false:=by simpa [hwant] using hmw
      have HWT:=hid hwant;have HMW:=hid hmw;clear hwant hmw;gi_wp2
      all_goals first|exact(zzU ‹_›).elim|skip
      refine⟨trivial,(CallsIn.inRound lq (CallsIn.inRound lp (callsIn_wide.2 HM.out))).mono ?_⟩;rintro e W3 ⟨rfl,hb3⟩;have h9:=HG.out W3 hb3 (by rw[HWT.out];exact HMW.out);clear hb3;gi_wp2;exact h9
     ·have hmb:(m !=0)=true:=by simpa [hwant] using hmw
      have HWT:=hid hwant;have HMW:=hid hmw;clear hwant hmw;gi_wp2
      all_goals first|exact(zzU ‹_›).elim|skip
      refine⟨trivial,(CallsIn.inRound lq (CallsIn.inRound lp (callsIn_wide.2 HM.out))).mono ?_⟩;rintro e W3 ⟨rfl,hb3⟩;have h9:=HBd.out W3 hb3 (by rw[HWT.out];exact HMW.out);have hres3:=zai hb3 hres;have hfr3:W3.frozen? ⟨w.heap.size+1,0,none⟩=false:=(zac hb3).frozen hres hfr;have H9:=hid h9;clear hb3 h9;gi_wp2;exact⟨H9.out.1,rfl,H9.out.2.2⟩
  case idone=>
   rintro W' ⟨hB',hcb',hP'⟩;have HX:=hid (⟨hB',hP'⟩:qL W W'/\∀j',k<j'->j'<n->okS2 l k j');clear hB' hP' hcb';gi_wp2;obtain⟨hB',hP'⟩:=HX.out;obtain⟨hS,hP⟩:=H0.out;refine⟨(za0 hB').from _,hS.keep (zac hB') (hB'.mono hS.bel.size),λi j h1 h2 h3=>?_⟩;by_cases h:i=k
   ·subst h;exact hP' j h2 h3
   ·exact hP i j (by omega) h2 h3
  case istop=>
   rintro c j W' ⟨rfl,h⟩;have HX:=hid h;clear h;gi_wp2;exact⟨HX.out.1,rfl,HX.out.2⟩
 case done=>
  rintro D W hD ⟨hS,hP⟩ hK;have hres:=hS.res;have hfr:=hS.fr;have HX:=hid (⟨hS,hP⟩:SimS w p cap n l W/\∀i j,i<n->i<j->j<n->okS2 l i j);clear hS hP hseq hS0;gi_wp2;have hK':=(KeepsOthers.setCell W ⟨w.heap.size+1,0,none⟩ (.bool true)).same D _ hK rfl;refine⟨by simp,.inl ⟨_,_,rfl,run_takeDeferred hK',?_⟩⟩;have hc5:=(zbk hK').cell (World.cell?_setCell_same' W ⟨w.heap.size+1,0,none⟩ (.bool true) (by rw[hres];rfl));obtain⟨hS,hP⟩:=HX.out;refine⟨.bool true,?_,true,rfl,⟨λ_ i k h1 h2=>?_,λ_=>rfl⟩,zby (hS.bel.setCell (p:=⟨w.heap.size+1,0,none⟩) (by simp) _) (by have:=HS.out;omega) hK'⟩
  ·simp[results,Tryz.f98,go_sem,hc5]
  ·have hn:=HN.out;exact hP i k (by omega) h1 (by omega)
 case stop=>
  rintro D c k W hD ⟨rfl,hbel,hres,hno⟩ hK;have HX:=hid (⟨hbel,hno⟩:qL w W/\¬zc8 l);clear hbel hno hseq hS0;gi_wp2;refine⟨by simp,.inl ⟨_,_,rfl,run_takeDeferred hK,?_⟩⟩;have hc5:=(zbk hK).cell hres;refine⟨.bool false,by simp[results,Tryz.f98,go_sem,hc5],false,rfl,⟨λh=>by simp at h,λh=>absurd h HX.out.2⟩,zby HX.out.1 (by have:=HS.out;omega) hK⟩
def zc9 (l:List Pt):Prop:=∀i,i<l.length->cor l i≠cor l (i+1)
structure ChkS (w:zA) (p:Option Addr) (n:Nat) (l:List Pt) (W:zA):Prop where
 bel:qL w W
 res:∃r,W.cell? ⟨w.heap.size,0,none⟩=some (.int .i64 r)
 fr:W.frozen? ⟨w.heap.size,0,none⟩=false
 pts:∀i,i<n->∃b off,p=some ⟨b,off,none⟩/\W.cell? ⟨b,off+i*2,none⟩=some (St (ptOf (txt l) i).1)/\W.cell? ⟨b,off+i*2+1,none⟩=some (St (ptOf (txt l) i).2)
theorem ChkS.keep {w:zA} {p:Option Addr} {n:Nat} {l:List Pt} {W W':zA} (h:ChkS w p n l W) (hc:CellsKept W W') (hb:zB w.heap.size W W'):ChkS w p n l W':=
 ⟨h.bel.trans hb,let ⟨r,e⟩:=h.res;⟨r,hc.cell e⟩,let ⟨_,e⟩:=h.res;hc.frozen e h.fr,λi hi=>let ⟨b,off,e,h1,h2⟩:=h.pts i hi;⟨b,off,e,hc.cell h1,hc.cell h2⟩⟩
theorem ChkS.ptsAt {w:zA} {p:Option Addr} {cap n:Nat} {l:List Pt} {W:zA} (hn:n=l.length) (h:ChkS w p n l W) {B:Nat} (hB:W.cell? ⟨B,0,none⟩=some (.slice p n cap)):zmh B p cap (txt l) W:=by
 refine⟨by rw[zce,<-hn];exact hB,λi hi=>h.pts i (by rw[zce] at hi;omega)⟩
theorem zxq (p:Option Addr) (cap:Nat) (l:List Pt) (h3:3<=l.length) (hlen:l.length<=4096)
 (CP:Hid (∀i,i<l.length->qK 94 #[ptV (cor l i)] (.int .i64 0)))
 (S:Hid (∀W:zA,Wd W->(∀i,i<l.length->∃b off,p=some ⟨b,off,none⟩/\W.cell? ⟨b,off+i*2,none⟩=some (St (ptOf (txt l) i).1)/\W.cell? ⟨b,off+i*2+1,none⟩=some (St (ptOf (txt l) i).2))->
   zC zF 98 #[.slice p l.length cap] W λe w'=>∃b,e=.returned (.bool b)/\(b=true↔zc8 l)/\zB W.heap.size W w'))
 (w:zA) (HW:Hid (Wd w))
 (HP:Hid (∀i,i<l.length->∃b off,p=some ⟨b,off,none⟩/\w.cell? ⟨b,off+i*2,none⟩=some (St (ptOf (txt l) i).1)/\w.cell? ⟨b,off+i*2+1,none⟩=some (St (ptOf (txt l) i).2))):
 zC zF 30 #[.slice p l.length cap] w λe w'=>∃r:Int,e=.returned (.int .i64 r)/\((¬zc9 l/\r=12)\/(zc9 l/\¬zc8 l/\r=15)\/(zc9 l/\zc8 l/\r=0))/\zB w.heap.size w w':=by
 refine(callsIn_wide (n:=3)).1 ?_;refine callsIn_of_wp_marks Tryz.func30 rfl trivial ?_ rfl;simp only[Tryz.ntmps30,zZ,yA,List.length_nil,Nat.reduceAdd,Nat.reduceSub,Array.replicate_succ,Array.replicate_zero,List.push_toArray,List.append_toArray,yI,yM];obtain⟨n,hn⟩:=zzX l.length;have hS0:ChkS w p n l (w.alloc (.cells #[.int .i64 0] 27)):=by
  have b1:=Boxed.new w 27 (.int .i64 0);have hbel:qL w (w.alloc (.cells #[.int .i64 0] 27)):=(zM _ w).alloc (zN _) _;refine⟨hbel,⟨_,b1.cell⟩,b1.frozen,λi hi=>?_⟩;obtain⟨b,off,e,h1,h2⟩:=HP.out i (by omega);exact⟨b,off,e,zai hbel h1,zai hbel h2⟩
 rw[<-hn] at h3 hlen⊢;have HN:=hid hn;clear hn;have HS0:=hid hS0;clear hS0 HP;have hn1:decide ((4096:Int)<(n:Int))=false:=decide_eq_false (by omega);have hn2:decide ((n:Int)<3)=false:=decide_eq_false (by omega);gi_wp2;gi_loopw [18] (λi wr=>∃(k:Nat),k<=n/\i=.int .i64 (k:Int)/\Hid (ChkS w p n l wr))
  (λi _=>n-(zL i).toNat)
 case atStart=>exact⟨0,zR _,rfl,HS0.out⟩
 case round=>
  clear hn1 hn2;obtain⟨k,hk,rfl,hS⟩:=hrel;by_cases hlt:k<n
  ·obtain⟨b,off,rfl,c0,c1⟩:=hS.out.pts k hlt
   have hb1:qL wr (wr.alloc (.cells #[St (ptOf (txt l) k).1,St (ptOf (txt l) k).2] 32)):=(zM _ wr).alloc (zN _) _;have hS1:=hid (hS.out.keep (zac hb1) (hb1.mono hS.out.bel.size));have hcp:=CP.out k (by rw[<-HN.out];exact hlt) _ (HW.out.below hS1.out.bel);have ep:ptV (cor l k)=.agg #[St (ptOf (txt l) k).1,St (ptOf (txt l) k).2]:=by rw[zlb l k (by rw[<-HN.out];exact hlt)];rfl
   rw[ep] at hcp;have HCP:=hid hcp;clear hcp ep hb1;generalize (ptOf (txt l) k).1=x at*
   generalize (ptOf (txt l) k).2=y at*
   gi_wp2;refine⟨trivial,(callsIn_wide.2 HCP.out).mono ?_⟩;rintro e W2 ⟨rfl,hb2⟩;have hS2:=hid (hS1.out.keep (zac hb2) (hb2.mono hS1.out.bel.size));clear hb2 HCP hS1 HS0;gi_wp2;go_roundw
   case rel=>exact⟨k+1,by omega,by go_num,hS2⟩
   case measure=>simp[zL];omega
  ·obtain rfl:k=n:=by omega
   clear HS0;gi_wp2_with (refine⟨trivial,?_⟩;gi_at_call 31;refine(callsIn_wide.2 (zf8 _ _ _ _ _ rfl)).mono ?_;rintro e w' ⟨rfl,rfl⟩);obtain⟨W1,hW1⟩:=zzX (wr.alloc (.cells #[.slice p k cap] 22));have hb1:qL wr W1:=by rw[hW1];exact(zM _ wr).alloc (zN _) _
   have hcb:W1.cell? ⟨wr.heap.size,0,none⟩=some (.slice p k cap):=by rw[hW1];exact(Boxed.new wr 22 (.slice p k cap)).cell
   have hS1:=hS.out.keep (zac hb1) (hb1.mono hS.out.bel.size);rw[<-hW1];clear hW1 hS;have HS1:=hid hS1.bel.size;have hseq:=zgo 2 (by omega) wr.heap.size (txt l) (by rw[zce,<-HN.out];omega) (λW=>ChkS w p k l W/\W.cell? ⟨wr.heap.size,0,none⟩=some (.slice p k cap)) p cap (λW h=>h.1.ptsAt HN.out h.2);rw[zce,<-HN.out] at hseq
   refine z9z (n:=3) (B:=w.heap.size) rfl (by omega) rfl trivial (enters_of Tryz.func99 (by kernel_rfl) rfl) hseq (λk args h=>by subst h;rfl) hS1.bel.size
    (λj W=>ChkS w p k l W/\W.cell? ⟨wr.heap.size,0,none⟩=some (.slice p k cap)/\∀i,i<j->cor l i≠cor l (i+1))
    (λc _ W=>c=.ret/\zB w.heap.size w W/\W.cell? ⟨w.heap.size,0,none⟩=some (.int .i64 12)/\¬zc9 l)
    (λj X Y h hc hb=>⟨h.1.keep hc hb,hc.cell h.2.1,h.2.2⟩) (λc j X Y h hc hb=>⟨h.1,h.2.1.trans hb,hc.cell h.2.2.1,h.2.2.2⟩) (λj W h=>⟨h.1,h.2.1⟩) ⟨hS1,hcb,λi h=>by omega⟩
    (λj _ a' W=>∃bs,a'={tmps:= #[Value.slice p k cap,undef,Value.pointer (some {block:=w.heap.size,off:=0}),undef,u4,u5,undef,.pointer (some ⟨bs,0,none⟩),Value.bool false,Value.slice p k cap,Value.int IntKind.i64 ↑k,Value.bool false,Value.bool false,Value.slice p k cap,Value.int IntKind.i64 ↑k,Value.bool false,Value.slice p k cap,Value.int IntKind.i64 ↑k,Value.int IntKind.i64 ↑k,Value.bool false,u20,u21,u22,u23,u24,u25,u26,u27,Value.slice p k cap,Value.func (Fn.func 99) #[] #[Value.pointer (some {block:=wr.heap.size,off:=0})],I j,segV (cor l j) (cor l (j+1)),undef,undef,undef,undef,undef,undef,undef,undef],defers:=[]}/\SegAt bs (cor l j) (cor l (j+1)) W)
    (λj _ a' X Y h hc hb=>let ⟨bs,e,h2⟩:=h;⟨bs,e,h2.keep hc⟩) ?assign ?body ?done ?stop
   case assign=>
    rintro lp j args W K hlp hrec ⟨hS,hcb,hP⟩ hj rfl hK;rw[zgr l j (by rw[<-HN.out];exact hj)];have HK:=hid hK;clear hK;unfold segV;gi_wp2;have hb1:qL W (W.alloc (.cells #[St (numS (cor l j).x),St (numS (cor l j).y),St (numS (cor l (j+1)).x),St (numS (cor l (j+1)).y)] 64)):=(zM _ W).alloc (zN _) _;exact HK.out _ _ ((za0 hb1).from _) ⟨hS.keep (zac hb1) (hb1.mono hS.bel.size),zai hb1 hcb,hP⟩ ⟨W.heap.size,rfl,SegAt.new W (cor l j) (cor l (j+1)) 64⟩
   case body=>
    rintro lp j args a' W hlp ⟨r,hr⟩ ⟨hS,hcb,hP⟩ hj rfl ⟨bs,rfl,hseg⟩;obtain⟨g0,g1,g2,g3⟩:=hseg;obtain⟨r0,hres⟩:=hS.res;have hfr:=hS.fr;have H0:=hid (⟨hS,hcb,hP⟩:ChkS w p k l W/\W.cell? ⟨wr.heap.size,0,none⟩=some (.slice p k cap)/\∀i,i<j->cor l i≠cor l (i+1));clear hS hcb hP hseq hS1 hr;unfold segV;have hgood:cor l j≠cor l (j+1)->KeepsFrom W1.heap.size W W/\ChkS w p k l W/\W.cell? ⟨wr.heap.size,0,none⟩=some (.slice p k cap)/\∀i,i<j+1->cor l i≠cor l (i+1):=λhne=>by
     obtain⟨hS,hcb,hP⟩:=H0.out;refine⟨KeepsFrom.refl _ _,hS,hcb,λi hi=>?_⟩;by_cases h:i=j
     ·subst h;exact hne
     ·exact hP i (by omega)
    have HG:=hid hgood;clear hgood;by_cases hx:numS (cor l j).x=numS (cor l (j+1)).x
    ·by_cases hy:numS (cor l j).y=numS (cor l (j+1)).y
     ·have HE:=hid (⟨hx,hy⟩:numS (cor l j).x=numS (cor l (j+1)).x/\numS (cor l j).y=numS (cor l (j+1)).y)
      gi_wp2;obtain⟨hS,hcb,hP⟩:=H0.out;refine⟨(KeepsOthers.setCell _ _ _).from _,rfl,hS.bel.setCell (p:=⟨w.heap.size,0,none⟩) (by simp) _,World.cell?_setCell_same' _ _ _ (by rw[hres];rfl),λhs=>hs j (by rw[<-HN.out];exact hj) ?_⟩;have h1:=zh0 HE.out.1;have h2:=zh0 HE.out.2;revert h1 h2;generalize cor l j=a;generalize cor l (j+1)=b;intro h1 h2;cases a;cases b;simp at h1 h2;rw[h1,h2]
     ·have HE:=hid hy
      gi_wp2;exact HG.out λh=>HE.out (by rw[h])
    ·have HE:=hid hx
     gi_wp2;exact HG.out λh=>HE.out (by rw[h])
   case done=>
    rintro D W hD ⟨hS,hcb,hP⟩ hK;have hs:=S.out W (HW.out.below hS.bel) (λi hi=>hS.pts i (by rw[HN.out];exact hi));rw[<-HN.out] at hs;have HSm:=hid hs;have HX:=hid (⟨hS,hP,hK⟩:ChkS w p k l W/\(∀i,i<k->cor l i≠cor l (i+1))/\W.heap[D]? =some (.deferred (some [])));clear hS hP hseq hS1 hs hK;gi_wp2;refine⟨trivial,(callsIn_wide.2 HSm.out).mono ?_⟩;rintro e W3 ⟨b,rfl,hb,hb3⟩;obtain⟨hS,hP,hK⟩:=HX.out;have hS3:=hS.keep (zac hb3) (hb3.mono hS.bel.size);have hK3:W3.heap[D]? =some (.deferred (some [])):=(hb3.block _ (Array.getElem?_eq_some_iff.1 hK).1).trans hK;have hside:zc9 l:=λi hi=>hP i (by rw[HN.out];exact hi);obtain⟨r3,hres⟩:=hS3.res;have hfr:=hS3.fr;have H3:=hid (⟨hS3.bel,hK3,hside,hb⟩:qL w W3/\W3.heap[D]? =some (.deferred (some []))/\zc9 l/\(b=true↔zc8 l));clear HX hS hP hK hS3 hK3 hside hb hb3 HSm;cases b
    ·gi_wp2
     obtain⟨hbel,hK3,hside,hb⟩:=H3.out;have hK':=(KeepsOthers.setCell W3 ⟨w.heap.size,0,none⟩ (.int .i64 15)).same D _ hK3 rfl;refine⟨by simp,.inl ⟨_,_,rfl,run_takeDeferred hK',?_⟩⟩;have hc5:=(zbk hK').cell (World.cell?_setCell_same' W3 ⟨w.heap.size,0,none⟩ (.int .i64 15) (by rw[hres];rfl));refine⟨.int .i64 15,?_,15,rfl,.inr (.inl ⟨hside,λh=>(by have:=hb.2 h;simp at this),rfl⟩),zby (hbel.setCell (p:=⟨w.heap.size,0,none⟩) (by simp) _) (by have:=HS1.out;omega) hK'⟩;simp[results,Tryz.f30,go_sem,hc5]
    ·gi_wp2
     obtain⟨hbel,hK3,hside,hb⟩:=H3.out;have hK':=(KeepsOthers.setCell W3 ⟨w.heap.size,0,none⟩ (.int .i64 0)).same D _ hK3 rfl;refine⟨by simp,.inl ⟨_,_,rfl,run_takeDeferred hK',?_⟩⟩;have hc5:=(zbk hK').cell (World.cell?_setCell_same' W3 ⟨w.heap.size,0,none⟩ (.int .i64 0) (by rw[hres];rfl));refine⟨.int .i64 0,?_,0,rfl,.inr (.inr ⟨hside,hb.1 (by trivial),rfl⟩),zby (hbel.setCell (p:=⟨w.heap.size,0,none⟩) (by simp) _) (by have:=HS1.out;omega) hK'⟩;simp[results,Tryz.f30,go_sem,hc5]
   case stop=>
    rintro D c j W hD ⟨rfl,hbel,hres,hno⟩ hK;have HX:=hid (⟨hbel,hno⟩:qL w W/\¬zc9 l);clear hbel hno hseq hS1;gi_wp2;refine⟨by simp,.inl ⟨_,_,rfl,run_takeDeferred hK,?_⟩⟩;have hc5:=(zbk hK).cell hres;refine⟨.int .i64 12,by simp[results,Tryz.f30,go_sem,hc5],12,rfl,.inl ⟨HX.out.2,rfl⟩,zby HX.out.1 (by have:=HS1.out;omega) hK⟩
def RowPts (p:Option Addr) (l:List Pt) (W:zA):Prop:=
 ∀i,i<l.length->∃b off,p=some ⟨b,off,none⟩/\W.cell? ⟨b,off+i*2,none⟩=some (St (ptOf (txt l) i).1)/\W.cell? ⟨b,off+i*2+1,none⟩=some (St (ptOf (txt l) i).2)
theorem RowPts.keep {p:Option Addr} {l:List Pt} {W W':zA} (h:RowPts p l W) (hc:CellsKept W W'):RowPts p l W':=λi hi=>let ⟨b,off,e,h1,h2⟩:=h i hi;⟨b,off,e,hc.cell h1,hc.cell h2⟩
theorem zzt (p:Option Addr) (cap:Nat) (l:List Pt) (h3:3<=l.length) (hlen:l.length<=4096) (hz:∀i,szP (cor l i) 36) (w:zA) (hw:Wd w) (hp:RowPts p l w):
 zC zF 98 #[.slice p l.length cap] w λe w'=>∃b,e=.returned (.bool b)/\(b=true↔zc8 l)/\zB w.heap.size w w':=
 zse p cap l h3 hlen (hid λi k _ _ W hW=>zub _ _ _ _ 36 (by omega) (by omega) (hz _) (hz _) (hz _) (hz _) W hW) w (hid hw) (hid hp)
theorem zxr (p:Option Addr) (cap:Nat) (l:List Pt) (h3:3<=l.length) (hlen:l.length<=4096) (hz:∀i,szP (cor l i) 36) (w:zA) (hw:Wd w) (hp:RowPts p l w):
 zC zF 30 #[.slice p l.length cap] w λe w'=>∃r:Int,e=.returned (.int .i64 r)/\((¬zc9 l/\r=12)\/(zc9 l/\¬zc8 l/\r=15)\/(zc9 l/\zc8 l/\r=0))/\zB w.heap.size w w':=
 zxq p cap l h3 hlen (hid λi _ W hW=>zll _ (hz i) W hW) (hid λW hW hp=>zzt p cap l h3 hlen hz W hW hp) w (hid hw) (hid hp)
theorem zlc (p:Option Addr) (cap:Nat) (l:List Pt) (h3:3<=l.length) (hlen:l.length<=4096) (hz:∀i,szP (cor l i) 36) (hs:zc9 l) (hm:zc8 l) (w:zA) (hw:Wd w) (hp:RowPts p l w):
 qJ 30 #[.slice p l.length cap] w (.int .i64 0):=by
 refine(zxr p cap l h3 hlen hz w hw hp).mono ?_;rintro e w' ⟨r,rfl,h,hb⟩;rcases h with⟨h,_⟩|⟨_,h,_⟩|⟨_,_,rfl⟩
 ·exact absurd hs h
 ·exact absurd hm h
 ·exact⟨rfl,hb⟩
end
end Go.Proofs.YtnjiiafnneillaaGreatDoor
