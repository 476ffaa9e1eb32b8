/- rational.Of; root.nativeNormal, of any numbers whose product has up to 17 digits. -/
import Derived.Test.YtheinkfbiedidaaGreatDoorQ08
import Derived.OwnWalkIn
import Derived.Maps.AppendAt
import Derived.Lib.IndexAny
set_option maxRecDepth 100000
set_option maxHeartbeats 8000000
open Go renaming World → zA, Calls → zC
open Go.Lib renaming decDigits → zD
open Go.Proofs.Tryz renaming prog → zF
open Go.World renaming alloc_heap_new → zG
open Go.IntWalk renaming i64_in → zI
open Go.RowKit renaming intOf → zL
open Go.RowKit.Below renaming refl → zM
open Nat renaming le_refl → zN, le_trans → zO, zero_le → zR, pos_of_ne_zero → yS
open List renaming getElem_mem → zY, getElem?_eq_getElem → yB
namespace Go.Proofs.YtheinkfbiedidaaGreatDoor
open Go.RowKit Go.Shelf Lib Str Limb
attribute [local go_sem] Oper.semAt_some
theorem z77 (n d:Int) (s t r:List UInt8) (h0:(d==0)=false) (h1:(d==1)=false)
 (C1:Hid (qK 132 #[.int .i64 n] (St s)))
 (C2:Hid (qK 132 #[.int .i64 d] (St t)))
 (C3:Hid (qK 76 #[St s,St t] (.tuple #[St r,.int .i64 0])))
 (w:zA) (HW:Hid (Wd w)):
 qJ 233 #[.int .i64 n,.int .i64 d] w (.tuple #[St r,.int .i64 0]):=by
 go_enter Tryz.func233,Tryz.ntmps233;go_wp2_with fail;refine(C1.out _ HW.out).mono ?_;rintro e w1 ⟨rfl,hb1⟩;have HB1:=hid hb1;clear hb1;go_wp2_with fail;refine(C2.out _ (HW.out.below HB1.out)).mono ?_;rintro e w2 ⟨rfl,hb2⟩;have HB2:=qT HB1 hb2;clear hb2;go_wp2_with fail;refine(C3.out _ (HW.out.below HB2.out)).mono ?_;rintro e w3 ⟨rfl,hb3⟩;have HB3:=qT HB2 hb3;clear hb3;go_wp2_with fail;go_ret2;exact⟨rfl,HB3.out⟩
theorem z7l (n d:Nat) (hd:0<d) (h1:n<1000000000000000000) (h2:d<1000000000000000000) (w:zA) (hw:Wd w):
 qJ 233 #[.int .i64 (n:Int),.int .i64 (d:Int)] w (.tuple #[St (numS ((n:Rat)/(d:Rat))),.int .i64 0]):=by
 have dg:∀k:Nat,k<1000000000000000000->digs (k:Int)<=300:=λk hk=>zO (zhd (k:=18) (by omega) (by rw[Int.natAbs_natCast];omega)) (by omega);have e:(n:Rat)/(d:Rat)=Rat.divInt (n:Int) (d:Int):=by rw[Rat.divInt_eq_div];rfl
 by_cases h:d=1
 ·subst h
  have hc:=zb3 (n:Int) (by omega) (by omega) w hw;have e1:numS ((n:Rat)/((1:Nat):Rat))=itoa (n:Int):=by
   rw[show(n:Rat)/((1:Nat):Rat)=(n:Rat) by grind,zhe,Str.zad]
  rw[e1];generalize itoa (n:Int)=z at*
  have HC:=hid hc;clear hc dg e e1;show zC _ _ #[.int .i64 (n:Int),.int .i64 1] _ _;clear h1 h2 hd;go_enter Tryz.func233,Tryz.ntmps233;go_wp2_with fail;refine HC.out.mono ?_;rintro e w1 ⟨rfl,hb⟩;go_wp2_with fail;go_ret2;exact⟨rfl,hb⟩
 ·rw[e]
  exact z77 _ _ (itoa n) (itoa (d:Int)) _ (by rw[beq_eq_false_iff_ne];omega) (by rw[beq_eq_false_iff_ne];omega) (hid λW hW=>zb3 _ (by omega) (by omega) W hW) (hid λW hW=>zb3 _ (by omega) (by omega) W hW)
   (hid λW hW=>zfa _ _ (by omega) (dg _ h1) (dg _ h2) W hW) w (hid hw)
def zrn (n:Nat):Nat->Nat
 |0=>0
 |k+1=>if(k+1)*(k+1)<=n then k+1 else zrn n k
def isq (n:Nat):Nat:=zrn n n
theorem zyh (n:Nat):∀k,n<(k+1)*(k+1)->zrn n k*zrn n k<=n/\n<(zrn n k+1)*(zrn n k+1)
 |0,h=>⟨zR _,h⟩
 |k+1,h=>by
  unfold zrn;split
  ·exact⟨‹_›,h⟩
  ·exact zyh n k (by omega)
theorem zv0 (n:Nat):isq n*isq n<=n/\n<(isq n+1)*(isq n+1):=zyh n n (by
 have:=Nat.le_mul_self (n+1);omega)
def zlu (p:Nat):Nat->Nat×Nat->Nat×Nat
 |0,x=>x
 |f+1,x=>if p*p∣x.2 then zlu p f (x.1*p,x.2/(p*p)) else x
def zkk (p:Nat) (x:Nat×Nat):Nat×Nat:=zlu p x.2 x
theorem zyi {p:Nat} (hp:2<=p):∀(f:Nat) (x:Nat×Nat),0<x.2->x.2<=f->zlu p (f+1) x=zlu p f x
 |0,x,h,k=>by omega
 |f+1,x,h,k=>by
  have hpp:4<=p*p:=Nat.mul_le_mul hp hp;rw[zlu]
  conv=>rhs;rw[zlu]
  by_cases c:p*p∣x.2
  ·rw[if_pos c,if_pos c]
   have h1:0<x.2/(p*p):=Nat.div_pos (Nat.le_of_dvd h c) (by omega);have h2:x.2/(p*p)<x.2:=Nat.div_lt_self h (by omega);exact zyi hp f _ h1 (by show x.2/(p*p)<=f;omega)
  ·rw[if_neg c,if_neg c]
theorem zyj {p:Nat} (hp:2<=p) (x:Nat×Nat) (h:0<x.2):∀d,zlu p (x.2+d) x=zlu p x.2 x
 |0=>rfl
 |d+1=>by rw[<-Nat.add_assoc,zyi hp _ x h (by omega),zyj hp x h d]
theorem z78 {p c l:Nat} (h:¬p*p∣l):zkk p (c,l)=(c,l):=by
 unfold zkk
 cases l with
 |zero=>rfl
 |succ l=>show zlu p (l+1) _=_;rw[zlu,if_neg h]
theorem z7m {p c l:Nat} (hp:2<=p) (hl:0<l) (h:p*p∣l):zkk p (c,l)=zkk p (c*p,l/(p*p)):=by
 have hpp:4<=p*p:=Nat.mul_le_mul hp hp;have h1:0<l/(p*p):=Nat.div_pos (Nat.le_of_dvd hl h) (by omega);have h2:l/(p*p)<l:=Nat.div_lt_self hl (by omega);unfold zkk;show zlu p l (c,l)=zlu p (l/(p*p)) (c*p,l/(p*p));obtain⟨m,rfl⟩:∃m,l=m+1:=⟨l-1,by omega⟩;rw[zlu,if_pos h];obtain⟨d,hd⟩:∃d,m=(m+1)/(p*p)+d:=⟨m-(m+1)/(p*p),by omega⟩;have:=zyj hp (c*p,(m+1)/(p*p)) h1 d;exact(congrArg (λf=>zlu p f (c*p,(m+1)/(p*p))) hd).trans this
def zro (l:List Nat) (x:Nat×Nat):Nat×Nat:=l.foldl (λx p=>zkk p x) x
def zn7 (N:Nat):Nat×Nat:=
 let x:=zro prL (1,N)
 if isq x.2*isq x.2=x.2 then(x.1*isq x.2,1) else x
structure NrmS (N k:Nat) (x:Nat×Nat):Prop where
 out:zro (prL.drop k) x=zro prL (1,N)
structure NcS (N C L:Nat):Prop where
 out:zn7 N=(C,L)
theorem NrmS.start (N:Nat):NrmS N 0 (1,N):=⟨rfl⟩
theorem z79 (k:Nat) (hk:k<25):prL.drop k=prN k::prL.drop (k+1):=by
 have h:k<prL.length:=hk;rw[List.drop_eq_getElem_cons h];congr 1;unfold prN;rw[List.getD_eq_getElem?_getD,yB h];rfl
theorem NrmS.enter {N k p c l:Nat} (h:NrmS N k (c,l)) (hk:k<25) (hp:p=prN k):NrmS N (k+1) (zkk p (c,l)):=⟨by
 rw[<-h.out,z79 k hk,hp];rfl⟩
theorem NrmS.yes {N k p c l:Nat} (h:NrmS N k (zkk p (c,l))) (hp:2<=p) (hl:0<l) (hd:p*p∣l):NrmS N k (zkk p (c*p,l/(p*p))):=by rw[<-z7m hp hl hd];exact h
theorem NrmS.no {N k p c l:Nat} (h:NrmS N k (zkk p (c,l))) (hd:¬p*p∣l):NrmS N k (c,l):=by rw[z78 hd] at h;exact h
theorem NrmS.done {N c l:Nat} (h:NrmS N 25 (c,l)):zro prL (1,N)=(c,l):=h.out.symm
theorem zv1 (n d N C L:Nat) (HCL:NcS N C L) (hN0:0<N) (hd0:0<d) (HN:Hid (n*d=N)) (HN9:Hid (N<1000000000000000000/\d<1000000000000000000))
 (AT:Hid (∀i,i<25->∀W:zA,qJ 219 #[St (prS i)] W (.tuple #[I (prN i),.nilIface])))
 (w:zA) (HW:Hid (Wd w)) (HP:Hid (Pw w)):
 qJ 173 #[.int .i64 (n:Int),.int .i64 (d:Int)] w (.tuple #[St (numS ((C:Rat)/(d:Rat))),St (zD L)]):=by
 obtain⟨tt,fz,hblk⟩:=HP.out.block;have hwm:IntKind.i64.wrap ((n:Int)*(d:Int))=N:=by rw[<-Int.natCast_mul,HN.out];exact zI _ (by have:=HN9.out;omega)
 go_enter Tryz.func173,Tryz.ntmps173;go_wp2_with (refine wpList_load_row rfl 268 (.global 1) rfl 1 rfl tt prV fz (.array 25 9) hblk (by kernel_rfl) rfl (by kernel_rfl) ?_);have hB0:=zM w.heap.size w;go_loopw [6,7,19] (λc lf i wr=>∃k cN lN:Nat,k<=25/\c=I cN/\lf=I lN/\i=.int .i64 (k:Int)/\Hid (cN*cN*lN=N)/\Hid (NrmS N k (cN,lN))/\Hid (qL w wr))
  (λ_ _ i _=>25-(zL i).toNat)
 case atStart=>exact⟨0,1,N,by omega,rfl,rfl,rfl,hid (by omega),hid (NrmS.start N),hid hB0⟩
 case round=>
  clear hB0 hwm hblk;obtain⟨k,cN,lN,hk,rfl,rfl,rfl,hE,hD,hB⟩:=hrel;by_cases hlt:k<25
  ·have hx:=λw=>z25 k hlt w
   obtain⟨g1,g2⟩:=zw4 k hlt;have hat:=hid (AT.out k hlt);obtain⟨p,hp⟩:∃p,p=prN k:=⟨_,rfl⟩;rw[<-hp] at g1 g2 hat
   have HPk:=hid hp;clear hp;generalize prS k=y at*
   have hwp:IntKind.i64.wrap ((p:Int)*(p:Int))=((p*p:Nat):Int):=by
    have:p*p<=97*97:=Nat.mul_le_mul g2 g2;rw[<-Int.natCast_mul];exact zI _ (by omega)
   have hpp:4<=p*p:=Nat.mul_le_mul g1 g1;obtain⟨pp,hpp2⟩:∃pp,pp=p*p:=⟨_,rfl⟩;rw[<-hpp2] at hwp hpp;have HPP:=hid hpp2;clear hpp2;go_wp2_with fail;refine(hat.out wr).mono ?_;rintro e w2 ⟨rfl,hb2⟩;have hB2:=hid (hB.out.trans (hb2.mono hB.out.size));clear hb2 hB hx hat
   go_wp2_with fail;go_loopw [6,7] (λc lf wr=>∃cN lN:Nat,c=I cN/\lf=I lN/\Hid (cN*cN*lN=N)/\Hid (NrmS N (k+1) (zkk p (cN,lN)))/\Hid (qL w wr))
    (λ_ lf _=>(zL lf).toNat)
   case atStart=>exact⟨cN,lN,rfl,rfl,hE,hid (hD.out.enter hlt HPk.out),hB2⟩
   case round=>
    clear hE hD hB2;obtain⟨cN,lN,rfl,rfl,hE,hD,hB⟩:=hrel;have hl0:0<lN:=yS (λh=>by have:=hE.out;rw[h] at this;simp at this;omega);have hpp0:¬pp=0:=by omega
    have hle:lN<=N:=by rw[<-hE.out];exact Nat.le_mul_of_pos_left _ (yS (λh=>by have:=hE.out;rw[h] at this;simp at this;omega))
    have hmod:(lN:Int).tmod (pp:Int)=((lN%pp:Nat):Int):=rfl;have hdiv:(lN:Int).tdiv (pp:Int)=((lN/pp:Nat):Int):=rfl;have hwz:∀z:Nat,z<=lN->IntKind.i64.wrap (z:Int)=(z:Int):=λz hz=>zI _ (by have:=HN9.out;omega);have hwm:=hwz _ (Nat.mod_le lN pp);have hwd:=hwz _ (Nat.div_le_self lN pp);have hwq:IntKind.i64.wrap ((lN:Int)/(pp:Int))=((lN/pp:Nat):Int):=by rw[<-Int.natCast_ediv];exact hwd
    have HWQ:=hid hwq;clear hwz hwq;by_cases hd:pp∣lN
    ·have hm0:(((lN%pp:Nat):Int)==0)=true:=by rw[Nat.mod_eq_zero_of_dvd hd];rfl
     have hnext:=z1s (c:=cN) (l:=lN) (p:=p) (by rw[<-HPP.out];exact hd);rw[<-HPP.out,hE.out] at hnext;have hl1:0<lN/pp:=yS (λh=>by rw[h] at hnext;simp at hnext;omega);have hcp:cN*p<=N:=by
      rw[<-hnext];exact zO (Nat.le_mul_self _) (Nat.le_mul_of_pos_right _ hl1)
     have hwc:IntKind.i64.wrap ((cN:Int)*(p:Int))=((cN*p:Nat):Int):=by rw[<-Int.natCast_mul];exact zI _ (by have:=HN9.out;omega)
     have hlt2:lN/pp<lN:=Nat.div_lt_self hl0 (by omega);have hkeep:NrmS N (k+1) (zkk p (cN*p,lN/pp)):=by rw[HPP.out];exact hD.out.yes g1 hl0 (by rw[<-HPP.out];exact hd)
     have HNX:=hid hnext;have HK:=hid hkeep;have HL:=hid hlt2;clear hnext hkeep hd hlt2 hl1 hcp;go_wp2
     (refine wp_region_quiet_lit (by kernel_rfl) (by kernel_rfl) (WQ.out ?_);(repeat(first|(apply WQ.read (by rfl);(focus(rintro W ⟨n,rfl⟩;go_simp;try with_reducible rfl));try simp only[zzQ])|(apply WQ.skip (by rfl);try simp only[zzQ])));refine WQ.nil ?_;rintro _ ⟨nq,rfl⟩)
     go_wp2;go_roundw
     case rel=>exact⟨cN*p,lN/pp,by first|rfl|simp,by first|(rw[HWQ.out])|rfl|simp,HNX,HK,hid (zao hB.out _)⟩
     case measure=>
      rw[HWQ.out];show(lN/pp:Nat)<lN;exact HL.out
    ·have hm0:(((lN%pp:Nat):Int)==0)=false:=by
      rw[beq_eq_false_iff_ne];intro h;exact hd (Nat.dvd_of_mod_eq_zero (by omega))
     have hkeep:NrmS N (k+1) (cN,lN):=hD.out.no (by rw[<-HPP.out];exact hd);have HK:=hid hkeep;clear hkeep hd;go_wp2;go_roundw
     case rel=>exact⟨k+1,cN,lN,by omega,rfl,rfl,by go_num,hE,HK,hB⟩
     case measure=>simp[zL];omega
  ·have hk25:k=25:=by omega
   have hc0:0<cN:=yS (λh=>by have:=hE.out;rw[h] at this;simp at this;omega);have hl0:0<lN:=yS (λh=>by have:=hE.out;rw[h] at this;simp at this;omega);have hle:lN<=N:=by rw[<-hE.out];exact Nat.le_mul_of_pos_left _ (Nat.mul_pos hc0 hc0)
   have hce:cN<=N:=by rw[<-hE.out];exact zO (Nat.le_mul_self _) (Nat.le_mul_of_pos_right _ hl0)
   have hsq0:=zv0 lN;have HNC:=hid (show(C,L)=if isq lN*isq lN=lN then(cN*isq lN,1) else(cN,lN) by
    have hd:=hD.out;rw[hk25] at hd;have hd2:=hd.done;rw[<-HCL.out];unfold zn7;rw[hd2])
   generalize isq lN=s at*
   obtain⟨hs1,hs2⟩:=hsq0;have HSQ:=hid (⟨hs1,hs2⟩:s*s<=lN/\lN<(s+1)*(s+1));have hwss:IntKind.i64.wrap ((s:Int)*(s:Int))=((s*s:Nat):Int):=by rw[<-Int.natCast_mul];exact zI _ (by have:=HN9.out;omega)
   have HRT:=hid (ztm lN s (by have:=HN9.out;omega) ⟨hs1,hs2⟩ wr);have HLL:=hid (⟨hle,hce,hc0⟩:_/\_/\_);clear hk25 hD HCL AT hs1 hs2 hle hce hl0 hc0;obtain⟨ss,hss⟩:∃ss,ss=s*s:=⟨_,rfl⟩;rw[<-hss] at hwss;have HSS:=hid hss;clear hss;go_wp2_with fail;refine HRT.out.mono ?_;rintro e w2 ⟨rfl,hw1⟩;have hw2:=hw1.symm;subst hw2;clear hw1 HRT;by_cases hsq:ss=lN
   ·have hsq1:((ss:Int)==(lN:Int))=true:=by rw[hsq];simp
    have hcs:cN*s<=N:=by
     have h1:=hE.out;rw[<-hsq,HSS.out] at h1;have h2:(cN*s)*(cN*s)=N:=by rw[<-h1];simp only[Nat.mul_comm,Nat.mul_left_comm]
     rw[<-h2];exact Nat.le_mul_self _
    have hwcs:IntKind.i64.wrap ((cN:Int)*(s:Int))=((cN*s:Nat):Int):=by rw[<-Int.natCast_mul];exact zI _ (by have:=HN9.out;omega)
    have HE:=hid (show C=cN*s/\L=1 by have:=HNC.out;rw[if_pos (by rw[<-HSS.out];exact hsq)] at this;exact Prod.mk.inj this);have HX:=hid (show(cN*s)*(cN*s)*1=N by
     have h1:=hE.out;rw[<-hsq,HSS.out] at h1;rw[Nat.mul_one,<-h1];simp only[Nat.mul_comm,Nat.mul_left_comm])
    have HOF:=hid (λW hW=>z7l (cN*s) d hd0 (by have:=HN9.out;omega) HN9.out.2 W hW);clear hsq hcs hE HX HNC;generalize cN*s=cs at*
    go_wp2_with fail;refine(HOF.out wr (HW.out.below hB.out)).mono ?_;rintro e w3 ⟨rfl,hb3⟩;have hB3:=hB.out.trans (hb3.mono hB.out.size);go_wp2_with fail;have hit:=zb3 1 (by omega) (by omega) w3 (HW.out.below hB3);rw[show Lib.itoa 1=zD 1 from by show Lib.itoa ((1:Nat):Int)=_;rw[Str.zad]] at hit;refine hit.mono ?_;rintro e w4 ⟨rfl,hb4⟩;have hB4:=hB3.trans (hb4.mono hB3.size);clear hit hb3 hb4;go_wp2_with fail;go_ret2;exact⟨by rw[HE.out.1,HE.out.2]<;>rfl,hB4⟩
   ·have hsq1:((ss:Int)==(lN:Int))=false:=beq_eq_false_iff_ne.2 (by omega)
    have HNL:=hid (show C=cN/\L=lN by have:=HNC.out;rw[if_neg (by rw[<-HSS.out];exact hsq)] at this;exact Prod.mk.inj this);have HOF:=hid (λW hW=>z7l cN d hd0 (by have:=HN9.out;have:=HLL.out;omega) HN9.out.2 W hW);have HIT:=hid (λW hW=>zb3 (lN:Int) (by omega) (by have:=HN9.out;have:=HLL.out;omega) W hW);clear hsq HNC;go_wp2_with fail;refine(HOF.out wr (HW.out.below hB.out)).mono ?_;rintro e w3 ⟨rfl,hb3⟩;have hB3:=hB.out.trans (hb3.mono hB.out.size);go_wp2_with fail;refine(HIT.out w3 (HW.out.below hB3)).mono ?_;rintro e w4 ⟨rfl,hb4⟩;have hB4:=hB3.trans (hb4.mono hB3.size);clear hb3 hb4;go_wp2_with fail;go_ret2;exact⟨by rw[HNL.out.1,HNL.out.2,Str.zad]<;>rfl,hB4⟩
theorem z4c (r:Nat) (hr:0<r) (hl:(zD r).length<=16) (w:zA) (hw:Wd w) (hp:Pw w):
 qJ 122 #[St (zD r)] w (.tuple #[St (zD (zn7 r).1),St (zD (zn7 r).2),.int .i64 0]):=by
 have sz:∀k:List UInt8,(⟨k.toArray⟩:ByteArray).size=k.length:=λk=>by show k.toArray.size=_;simp
 have hr16:r<10000000000000000:=(zaf r 16 (by omega)).1 hl;have d1:zD 1=[49]:=by rw[zae (by omega)];rfl
 have hq:=zc5 r;have hnum:(((r:Nat):Int):Rat).num=((r:Nat):Int):=rfl;have hden:(((r:Nat):Int):Rat).den=1:=rfl;generalize hqq:(((r:Nat):Int):Rat)=q at*
 have hdig:digs q.num<=16:=by rw[hnum,zd9];exact hl
 have hdl:(zD q.den).length=1:=by rw[hden,d1];rfl
 have hok:okQ q:=⟨by omega,by omega⟩;obtain⟨C,hC⟩:∃C,C=(zn7 r).1:=⟨_,rfl⟩;obtain⟨L,hL⟩:∃L,L=(zn7 r).2:=⟨_,rfl⟩;rw[<-hC,<-hL];refine zti ⟨(zD r).toArray⟩ ⟨(zD r).toArray⟩ ⟨#[49]⟩ ⟨(zD C).toArray⟩ ⟨(zD L).toArray⟩ (r:Int) 1 ?_ ?_ ?_ (hid λW hW=>?_) (hid λW hW=>?_) (hid λW hW=>?_) (hid λW hW=>?_) (hid λW hW hP=>?_) w (hid hw) (hid hp)
 ·exact zhl (n:=r) rfl 0 (by omega) (by omega)
 ·rw[sz];show((zD r).length:Int)+1<=17;omega
 ·rw[sz];exact⟨by omega,by decide⟩
 ·obtain⟨t1,t2⟩:=z0b W 22 _ q hq
  have hal:qL W ((W.alloc (.cells #[St (zD r)] 22)).alloc (.cells #[St (zD r)] 22)):=((zM _ W).alloc (zN _) _).alloc (by simp) _
  refine(zji _ _ 1 1 1 1 (λ_=>q) (λ_=>q) (by omega) (by omega) (hid λ_ _ W hW=>zfj q hok W hW) (hid λ_ _ W hW=>zio q hok W hW) (hid λ_ _=>⟨by omega,by omega⟩)
   (hid λ_ _ W=>zma q (by rw[hnum];omega) W) _ (hid (hW.below hal)) (hid t1) (hid t2)).mono ?_
  rintro e w' ⟨rfl,hb⟩;exact⟨rfl,hal.trans (hb.mono hal.size)⟩
 ·have:=zio q hok W hW
  rw[hq,hnum,hden,Str.zad,d1] at this;exact this
 ·have:=zk7 r (by omega) W hW
  exact this
 ·have:=zk7 1 (by rw[d1];decide) W hW
  rw[d1] at this;exact this
 ·have:=zv1 r 1 r C L ⟨by rw[hC,hL]⟩ hr (by omega) (hid (Nat.mul_one r)) (hid ⟨by omega,by omega⟩) (hid λi hi W=>by
   have h9:=zw4 i hi;have h2:=zki (n:=prN i) (k:=2) (by omega) (by omega);have:=znc (prN i:Int) (by rw[Str.zad];omega) W;rw[Str.zad] at this;rw[z1r i hi];exact this) W (hid hW) (hid hP)
  rw[show(C:Rat)/((1:Nat):Rat)=(C:Rat) by grind,zhe] at this;exact this
theorem zln:zn7 1=(1,1)/\zn7 2=(1,2)/\zn7 4=(2,1):=by decide+kernel
theorem zfg:zD 1=[49]:=by rw[zae (by omega)];rfl
theorem zfc:numS 1=[49]:=by have:=zc5 1;rw[zfg] at this;exact this
end Go.Proofs.YtheinkfbiedidaaGreatDoor
namespace Go.Proofs.YtheinkfbiedidaaGreatDoor
open Go
variable {F:Fence} {n:Nat} {P:Program} {ops:Array Oper} {β:Type}
def zdn (F:Fence) (n:Nat) (P:Program) (C:Value->zA->Prop):Result Next->Prop
 | .ok (.value u) w'=>C u w'
 | .ok .skip w'=>C undef w'
 | .ok (.enter f args) w'=>(F.depth.isSome=true->1<=n)/\CallsIn F (n-1) P f args w' (λe w''=>∃v,e=.returned v/\C v w'')
 | .ok (.round l f tmps assign body) w'=>(F.depth.isSome=true->1<=n)/\RoundIn F (n-1) P l f tmps assign body w' (λe w''=>∃v,e=.returned v/\C v w'')
 |_=>False
theorem zno {o:Oper} {a:Act} {w:zA} {C:Value->zA->Prop} {K:Act->zA->Prop} {Q:Exit->Act->zA->Prop} (hF:∀f,F.fn f) (hro:F.round=none) (hK:∀v w',C v w'->K (a.put o.dst v) w') (h:zdn F n P C ((execOp a.eval o).run P w)):o.wpIn F n P a w K Q:=by
 refine⟨λf _=>hF f,?_⟩;rw[hro,Oper.semAt_none];generalize (execOp a.eval o).run P w=r at*
 cases r with
 |ok x w'=>
  cases x<;>simp only[zdn] at h<;>simp only[Oper.uponIn]
  ·exact hK _ _ h
  ·exact hK _ _ h
  ·exact⟨h.1,CallsIn.mono h.2 λe w'' ⟨v,he,hc⟩=>by subst he;exact hK _ _ hc⟩
  ·exact⟨h.1,RoundIn.mono h.2 λe w'' ⟨v,he,hc⟩=>by subst he;exact hK _ _ hc⟩
 |halt x w'=>simp only[zdn] at h
def zqh (F:Fence) (n:Nat) (P:Program) (ops:Array Oper) (vs:β->Nat->Value) (C:β->Array Bool->zA->Prop) (i:Nat) (o:Oper) (a:Act) (b:β):Prop:=
 ∀L w,AcAt ops i L->C b L w->if Region.wanted o (yielded ops a.tmps) then zdn F n P (zgx vs C i L b) ((execOp a.eval o).run P w) else zgx vs C i L b undef w
theorem zli (hF:∀f,F.fn f) (hro:F.round=none) {Q:Exit->Act->zA->Prop} {C:β->Array Bool->zA->Prop} (hB:(acB ops&&zfd ops)=true) (vs:β->Nat->Value) (a:Act)
 (step:∀b i o,ops[i]? =some o->zqh F n P ops vs C i o (zax ops (vs b) a (zbw ops.size i) ops.size) b)
 (hend:∀b L w,(∀i,i<ops.size->L.getD i false=true)->C b L w->Q .normal (zax ops (vs b) a (zbw ops.size ops.size) ops.size) w):
 ∀(fuel:Nat) (L:Array Bool) (w:zA) (b:β),L.size=ops.size->zoe ops L->((List.range ops.size).filter λi=>!L.getD i false).length<=fuel->C b L w->wpAnyIn F n P .any ops Q fuel L (zax ops (vs b) a L ops.size) w:=by
 obtain⟨hsel,hdist,hlook,hback⟩:=zmq hB;have hq:∀b L w,(∀i,i<ops.size->L.getD i false=true)->C b L w->Q .normal (zax ops (vs b) a L ops.size) w:=by
  intro b L w hall hC;have e:zax ops (vs b) a L ops.size=zax ops (vs b) a (zbw ops.size ops.size) ops.size:=by
   have:∀k,k<=ops.size->zax ops (vs b) a L k=zax ops (vs b) a (zbw ops.size ops.size) k:=by
    intro k
    induction k with
    |zero=>intro _;rfl
    |succ k ih=>
     intro hk;simp only[zax];rw[ih (by omega),hall k (by omega),zd5];simp[show k<ops.size by omega]
   exact this _ (zN _)
  rw[e];exact hend b L w hall hC
 have hready:∀L,L.size=ops.size->Region.ready .any ops L=[]->∀i,i<ops.size->L.getD i false=true:=by
  intro L hsz h0 i
  induction i using Nat.strongRecOn with
  |_ i ih=>
   intro hi
   cases hl:L.getD i false with
   |true=>rfl
   |false=>
    have hm:i∈Region.ready .any ops L:=by
     refine mem_ready.2 ⟨getD_in (by omega) hl,ops[i],by simp[hi],λe he hb=>?_⟩;have hlt:=hback i (ops[i]) (show ops[i]? =some (ops[i]) from Array.getElem?_eq_getElem hi) e he hb;exact ih e.on hlt (Nat.lt_trans hlt hi)
    rw[h0] at hm;cases hm
 intro fuel
 induction fuel with
 |zero=>
  intro L w b hsz hcl hcount hC;have hall:∀i,i<ops.size->L.getD i false=true:=by
   intro i hi
   cases hl:L.getD i false with
   |true=>rfl
   |false=>
    have:i∈(List.range ops.size).filter λi=>!L.getD i false:=List.mem_filter.2 ⟨List.mem_range.2 hi,by rw[hl];rfl⟩;rw[List.length_eq_zero_iff.1 (Nat.le_zero.1 hcount)] at this;cases this
  refine⟨?_,hq b L w hall hC⟩;apply List.eq_nil_iff_forall_not_mem.2;intro i hi;obtain⟨h1,o,ho,_⟩:=mem_ready.1 hi;have:=hall i (Array.getElem?_eq_some_iff.1 ho).1;rw[getD_both h1] at this;cases this
 |succ fuel ih=>
  intro L w b hsz hcl hcount hC;refine⟨λh0=>hq b L w (hready L hsz h0) hC,λi hi=>?_⟩;obtain⟨h1,o,ho,hall⟩:=mem_ready.1 hi;have hin:i<ops.size:=(Array.getElem?_eq_some_iff.1 ho).1;have hLi:=getD_both h1;have hdone:∀j,Region.waitsFor .any ops i j=true->L.getD j false=true:=by
   intro j hw;obtain⟨o',ho',e,he,hb,rfl⟩:=Region.waitsFor_spec hw;have:o'=o:=Option.some.inj (ho'.symm.trans ho);subst this;exact hall e he hb
  have hopen:∀j,Region.waitsFor .any ops j i=true->L.getD j false=false:=by
   intro j hw
   cases hl:L.getD j false with
   |false=>rfl
   |true=>rw[hcl j i hl hw] at hLi;cases hLi
  have hat:AcAt ops i L:=⟨hsz,hLi,hdone,hcl⟩;have hst:=step b i o ho L w hat hC
  have hset:=λb'=>zic (vs b') a L i (by omega) hLi (λj d hne hd hj=>by
   rcases Nat.lt_or_ge j ops.size with hjn|hjn
   ·exact hdist i j d hin hjn (Ne.symm hne) hj hd
   ·simp[zcr,Array.getElem?_eq_none hjn] at hj) ops.size
  simp only[if_pos hin] at hset;have hsame:=zit (ops:=ops) (a:=zax ops (vs b) a L ops.size) (b:=zax ops (vs b) a (zbw ops.size i) ops.size) (o:=o) (λcs b=>Region.noSelect_spec hsel i o cs b ho) (λt ht=>by
   refine zib (vs b) a L _ t ops.size λj hj hd=>?_;rw[zd5];by_cases hji:j=i
   ·subst hji;rw[hLi];simp
   ·have:=hlook i j t hin hj (Ne.symm hji) hd (by simpa [zi8,ho] using ht)
    rcases this with⟨h2,h3⟩|⟨h2,h3⟩
    ·rw[hdone j h3];simp[hj,h2]
    ·rw[hopen j h3];simp;omega)
  have hnext:∀v w',zgx vs C i L b v w'->wpAnyIn F n P .any ops Q fuel (L.setIfInBounds i true) ((zax ops (vs b) a L ops.size).put o.dst v) w':=by
   rintro v w' ⟨b',hagree,rfl,hC'⟩;have hd:o.dst=zcr ops i:=by simp[zcr,ho]
   rw[hd,ziw (vs b) (vs b') a L (λj hj=>(hagree j hj).symm) ops.size,<-hset b'];refine ih _ w' b' (by simpa using hsz) ?_ ?_ hC'
   ·intro x y hx hw
    rw[zdp L i _ (by omega)] at hx⊢;split
    ·rfl
    ·split at hx
     ·rename_i h;subst h;exact hdone y hw
     ·exact hcl x y hx hw
   ·have e:((List.range ops.size).filter λx=>!(L.setIfInBounds i true).getD x false)=((List.range ops.size).filter λx=>!L.getD x false).filter λx=>decide (x≠i):=by
     rw[List.filter_filter];refine List.filter_congr λx _=>?_;rw[zdp L i x (by omega)];by_cases h:i=x
     ·subst h;simp
     ·simp[h,Ne.symm h]
    rw[e];have:=(List.length_filter_lt_length_iff_exists (l:=(List.range ops.size).filter λx=>!L.getD x false) (p:=λx=>decide (x≠i))).2 ⟨i,List.mem_filter.2 ⟨List.mem_range.2 hin,by rw[hLi];rfl⟩,by simp⟩;omega
  unfold wpOpIn;simp only[ho];rw[hsame.2];by_cases hw:Region.wanted o (yielded ops (zax ops (vs b) a (zbw ops.size i) ops.size).tmps)=true
  ·rw[if_pos hw] at hst⊢
   rw[<-hsame.1] at hst;exact zno hF hro hnext hst
  ·rw[if_neg hw] at hst⊢
   exact⟨λf _=>hF f,hnext _ _ hst⟩
def zlr (F:Fence) (n:Nat) (P:Program) (ops:Array Oper) (vs:β->Nat->Value) (C:β->(Nat->Bool)->zA->Prop) (i:Nat) (o:Oper) (a:Act) (b:β):Prop:=
 ∀f w,AcF ops i f->C b f w->
  if Region.wanted o (yielded ops a.tmps) then zdn F n P (zhn vs C i f b) ((execOp a.eval o).run P w) else zhn vs C i f b undef w
def AcLN (F:Fence) (n:Nat) (P:Program) (ops:Array Oper) (vs:β->Nat->Value) (C:β->(Nat->Bool)->zA->Prop) (K:Act->zA->Prop) (b:β):Nat->List Oper->Act->Prop
 |_,[],a=>∀f w,(∀i,i<ops.size->f i=true)->C b f w->K a w
 |k,o::rest,a=>zlr F n P ops vs C k o a b/\AcLN F n P ops vs C K b (k+1) rest (a.put o.dst (vs b k))
section
variable {vs:β->Nat->Value} {C:β->(Nat->Bool)->zA->Prop} {K:Act->zA->Prop} {k:Nat} {o:Oper} {rest:List Oper} {a:Act} {b:β}
theorem zqi (h:∀f w,(∀i,i<ops.size->f i=true)->C b f w->K a w):AcLN F n P ops vs C K b k [] a:=h
theorem za4 (v:Value) (hv:vs b k=v) (hw:Region.wanted o (yielded ops a.tmps)=true)
 (hset:∀f w,C b f w->C b (λj=>if k=j then true else f j) w)
 (hy:∀f w,AcF ops k f->C b f w->(execOp a.eval o).run P w=.ok (.value v) w)
 (h:AcLN F n P ops vs C K b (k+1) rest (a.put o.dst v)):AcLN F n P ops vs C K b k (o::rest) a:=by
 subst hv;refine⟨λf w hf hC=>?_,h⟩;rw[if_pos hw,hy f w hf hC];exact⟨b,λ_ _=>rfl,rfl,hset f w hC⟩
theorem zqj (v:Value) (hv:vs b k=v) (hw:Region.wanted o (yielded ops a.tmps)=true)
 (hy:∀f w,AcF ops k f->C b f w->∀C':Value->zA->Prop,(∀b' w',(∀j,f j=true->vs b' j=vs b j)->C b' (λj=>if k=j then true else f j) w'->C' (vs b' k) w')->zdn F n P C' ((execOp a.eval o).run P w))
 (h:AcLN F n P ops vs C K b (k+1) rest (a.put o.dst v)):AcLN F n P ops vs C K b k (o::rest) a:=by
 subst hv;refine⟨λf w hf hC=>?_,h⟩;rw[if_pos hw];exact hy f w hf hC _ λb' w' hj h'=>⟨b',hj,rfl,h'⟩
end
theorem zfu {vs:β->Nat->Value} {C:β->(Nat->Bool)->zA->Prop} {K:Act->zA->Prop} {b:β}:∀(l:List Oper) (k:Nat) (a:Act),AcLN F n P ops vs C K b k l a->
 (∀i o,l[i]? =some o->zlr F n P ops vs C (k+i) o (zbq (vs b) k l a i) b)/\(∀f w,(∀i,i<ops.size->f i=true)->C b f w->K (zbq (vs b) k l a l.length) w)
 |[],k,a,h=>⟨λi o h=>by simp at h,h⟩
 |o::l,k,a,⟨hv,h⟩=>by
  obtain⟨h1,h2⟩:=zfu l (k+1) _ h;refine⟨λi o' ho=>?_,?_⟩
  ·cases i with
   |zero=>
    obtain rfl:o=o':=by simpa using ho
    simpa [zbq] using hv
   |succ i=>
    have:=h1 i o' (by simpa using ho);simp only[zbq];rw[show k+(i+1)=k+1+i by omega];exact this
  ·simp only[zbq,List.length_cons]
   exact h2
theorem zj4 (hF:∀f,F.fn f) (hro:F.round=none) {K:Act->zA->Prop} {Q:Exit->Act->zA->Prop} (hQ:∀a w,K a w->Q .normal a w) {l:List Oper} (vs:β->Nat->Value) (C:β->(Nat->Bool)->zA->Prop) (hB:(acB l.toArray&&zfd l.toArray)=true) {a:Act} {w:zA} (b0:β) (hC:C b0 (λ_=>false) w) (h:∀b,AcLN F n P l.toArray vs C K b 0 l a):
 wpAnyIn F n P .any l.toArray Q l.toArray.size (Array.replicate l.toArray.size false) a w:=by
 have e0:zax l.toArray (vs b0) a (Array.replicate l.toArray.size false) l.toArray.size=a:=by
  have:∀k,zax l.toArray (vs b0) a (Array.replicate l.toArray.size false) k=a:=by
   intro k
   induction k with
   |zero=>rfl
   |succ k ih=>
    have:(Array.replicate l.toArray.size false).getD k false=false:=by
     simp only[Array.getD];split<;>simp
    simp only[zax,this,Bool.false_eq_true,if_false];exact ih
  exact this _
 have:=zli (n:=n) hF hro (P:=P) (ops:=l.toArray) (Q:=Q) (C:=λb L w=>C b (λj=>L.getD j false) w) hB vs a ?_ ?_ l.toArray.size (Array.replicate l.toArray.size false) w b0 (by simp) ?_ ?_ ?_
 ·rw[e0] at this;exact this
 ·intro b i o ho L w hat hc
  have h1:=(zfu l 0 a (h b)).1;have hi:i<l.length:=by
   have:=(Array.getElem?_eq_some_iff.1 ho).1;simpa using this
  have hst:=h1 i o (by simpa using ho) (λj=>L.getD j false) w (by rw[Nat.zero_add];exact⟨hat.self,hat.done,hat.closed⟩) hc;have ea:zax l.toArray (vs b) a (zbw l.toArray.size i) l.toArray.size=zbq (vs b) 0 l a i:=by
   have:=zdg (vs b) l a i (by omega) l.length (zN _);rw[Nat.min_eq_left (by omega)] at this;simpa using this
  have es:(λj=>(L.setIfInBounds i true).getD j false)=(λj=>if i=j then true else L.getD j false):=by
   funext j;exact zdp L i j (by rw[hat.size];simpa using hi)
  rw[Nat.zero_add] at hst;rw[ea];unfold zhn at hst;unfold zgx;simp only[es];exact hst
 ·intro b L w hall hc
  have h2:=(zfu l 0 a (h b)).2;have ea:zax l.toArray (vs b) a (zbw l.toArray.size l.toArray.size) l.toArray.size=zbq (vs b) 0 l a l.length:=by
   have:=zdg (vs b) l a l.length (zN _) l.length (zN _);rw[Nat.min_self] at this;simpa using this
  rw[ea];exact hQ _ _ (h2 _ w hall hc)
 ·intro i j hi
  have:(Array.replicate l.toArray.size false).getD i false=false:=by simp only[Array.getD];split<;>simp
  rw[this] at hi;cases hi
 ·refine zO (List.length_filter_le _ _) (by simp)
 ·have:(λj=>(Array.replicate l.toArray.size false).getD j false)= λ_=>false:=by
   funext j;simp only[Array.getD];split<;>simp
  simpa only[this] using hC
theorem zgw {id:Nat} {Q:Exit->Act->zA->Prop} {a:Act} {w:zA} {l:List Oper} (hF:∀f,F.fn f) (hro:F.round=none) (vs:β->Nat->Value) (C:β->(Nat->Bool)->zA->Prop) (hm:P.follows .mixedOrders=true) (hB:(acB l.toArray&&zfd l.toArray)=true) (b0:β) (hC:C b0 (λ_=>false) {w with drawn:=w.drawn+1})
 (h:∀b,AcLN F n P l.toArray vs C (Q .normal) b 0 l a):(Code.region id l.toArray true).wpIn F n P Q a w:=
 wpIn_region_any hm (zj4 hF hro (λ_ _ h=>h) vs C hB b0 hC h)
end Go.Proofs.YtheinkfbiedidaaGreatDoor
namespace Go.Proofs.YtheinkfbiedidaaGreatDoor
open Go.RowKit Go.Shelf Lib Str Limb
attribute [local go_sem] Oper.semAt_some
theorem zai {W W':zA} (h:qL W W') {b o:Nat} {v:Value} (hc:W.cell? ⟨b,o,none⟩=some v):W'.cell? ⟨b,o,none⟩=some v:=(zac h).cell hc
end Go.Proofs.YtheinkfbiedidaaGreatDoor
namespace Go.Proofs.YtheinkfbiedidaaGreatDoor
open Go.RowKit Go.Shelf Lib Str Limb Geo
attribute [local go_sem] Oper.semAt_some
def cor (l:List Pt) (k:Nat):Pt:=l[k%l.length]?.getD ⟨0,0⟩
theorem zcj {W W':zA} (h:CellsKept W W') {B:Nat} {e:TypeId} {s:Nat} {v:Value} {n:Nat} {xs:List Value} (ho:W.ownsRow B e s v n xs):W'.ownsRow B e s v n xs:=by
 obtain⟨hl,ho⟩:=ho;refine⟨hl,?_⟩;rcases ho with ho|⟨g,cap,cur,e,hb,hg,hr⟩
 ·exact .inl ho
 ·exact .inr ⟨g,cap,cur,e,hb,h _ _ _ _ hg,hr⟩
theorem zmb {P:Program} (C':Value->zA->Prop) {o:Oper} {a:Act} (w:zA) (s x:Operand) (t:TypeId)
 (ho:o.op=.call {callee:=.builtin .append,args:= #[s,x],argTypes:= #[t,t]})
 (base:Nat) (e:TypeId) (i:TypeInfo) (z:Value) (size bytes:Nat) (ht:P.underlying t=some (.slice e)) (hi:P.info? e=some i) (hz:i.zero=some z)
 (hsize:i.size=size) (hby:i.bytes=bytes) (hzs:z.cells.size=size) (hsz:0<size)
 (v:Value) (n:Nat) (xs:List Value) (hs:a.eval s=v) (hown:w.ownsRow base e size v n xs)
 (ad:Addr) (m c:Nat) (news:List Value) (hx:a.eval x=.slice (some ad) m c) (hl:news.length=m*size) (hnews:∀j u,news[j]? =some u->w.cell? (ad.add j)=some u) (h1:∀u∈news,u.oneCell'=true)
 (h63:n+m<=maxLen) (hbytes:(n+m)*bytes<=140737488355328) (hbase:base<=w.heap.size)
 (h:∀v' w',w'.ownsRow base e size v' (n+m) (xs++news)->w.grownBy w' v.ownBlock->C' v' w'):zfp P C' ((execOp a.eval o).run P w):=by
 obtain⟨v',w',hr,h2,h3,h4⟩:=run_append_own (P:=P) w base t o.type e i z size bytes ht hi hz hsize hby hzs hsz v n xs hown ad m c news hl hnews h1 h63 hbytes hbase;unfold execOp;simp only[ho,resolve,invoke,builtin,Sem.run_bind,Sem.run_pure,Result.andThen_ok,List.map_toArray,List.map_cons,List.map_nil,hs,hx,hr];exact h v' w' h2 h3
end Go.Proofs.YtheinkfbiedidaaGreatDoor
namespace Go.Proofs.YtheinkfbiedidaaGreatDoor
open Go.RowKit Go.Shelf Lib Str Limb
attribute [local go_sem] Oper.semAt_some
theorem zx5:(Tryz.prog.info? 150).map (λi=>(i.zero,i.size,i.bytes))=some (some (.agg #[St [],St []]),2,32):=by kernel_rfl
end Go.Proofs.YtheinkfbiedidaaGreatDoor
namespace Go.Proofs.YtheinkfbiedidaaGreatDoor
open Go.RowKit Go.Shelf Lib Str Limb
end Go.Proofs.YtheinkfbiedidaaGreatDoor
namespace Go.Proofs.YtheinkfbiedidaaGreatDoor
open Go.RowKit Go.Shelf Lib Str Limb
attribute [local go_sem] Oper.semAt_some
structure BxT (w:zA) (x y:ByteArray) (W:zA):Prop where
 bel:qL w W
 bx:W.heap[w.heap.size]? =some (.cells #[.string x,.string y] 66 (0,0))
section
variable {w W W':zA} {x y:ByteArray}
theorem BxT.next (h:BxT w x y W) (hb:qL W W'):BxT w x y W':=
 ⟨h.bel.trans (hb.mono h.bel.size),(hb.block _ (Array.getElem?_eq_some_iff.1 h.bx).1).trans h.bx⟩
theorem BxT.cx (h:BxT w x y W):W.cell? ⟨w.heap.size,0,none⟩=some (.string x)/\W.cell? ⟨w.heap.size,1,none⟩=some (.string y):=by have:=h.bx;simp[World.cell?,this]
theorem BxT.start (w:zA) (x y:ByteArray):BxT w x y (w.alloc (.cells #[.string x,.string y] 66)):=⟨(zM _ w).alloc (zN _) _,zG _ _⟩
end
theorem z6v (x y:ByteArray) (a b:Int) (hx0:(x.toList==[48])=false) (ha:¬60<a) (hb:¬40<b)
 (C1:Hid (qK 77 #[.string x] (.int .i64 0)))
 (C2:Hid (qK 77 #[.string y] (.int .i64 0)))
 (L1:Hid (qK 99 #[.string x] (.int .i64 a)))
 (L2:Hid (qK 99 #[.string y] (.int .i64 b)))
 (YY:Hid ((y.toList==[49])=true\/((y.toList==[49])=false/\(y.toList==[48])=false/\
   (qK 96 #[.string y,.string ⟨#[45]⟩] (.bool false))/\
   (qK 121 #[.string y,.string ⟨#[47]⟩] (.bool false))/\
   (∀W:zA,Wd W->Pw W->qJ 122 #[.string y] W (.tuple #[.string ⟨#[49]⟩,.string y,.int .i64 0])))))
 (w:zA) (HW:Hid (Wd w)) (HP:Hid (Pw w)):
 qJ 80 #[.agg #[.string x,.string y]] w (.int .i64 0):=by
 obtain⟨W0,hW0⟩:∃W0,W0=w.alloc (.cells #[.string x,.string y] 66):=⟨_,rfl⟩;have K0:=hid (show BxT w x y W0 by rw[hW0];exact BxT.start w x y);obtain⟨c0,c1⟩:=K0.out.cx;rw[hW0] at c0 c1;have H9:=hid hW0.symm;clear hW0;go_enter Tryz.func80,Tryz.ntmps80;go_wp2_with fail;rw[H9.out];clear c0 c1 H9;refine(C1.out W0 (HW.out.below K0.out.bel)).mono ?_;rintro e w1 ⟨rfl,hb1⟩;have K1:=hid (K0.out.next hb1);clear hb1 K0 C1;obtain⟨c0,c1⟩:=K1.out.cx;go_wp2_with fail;clear c0 c1;refine(C2.out w1 (HW.out.below K1.out.bel)).mono ?_;rintro e w2 ⟨rfl,hb2⟩;have K2:=hid (K1.out.next hb2);clear hb2 K1 C2;obtain⟨c0,c1⟩:=K2.out.cx;go_wp2_with fail;clear c0 c1;refine(L1.out w2 (HW.out.below K2.out.bel)).mono ?_;rintro e w3 ⟨rfl,hb3⟩;have K3:=hid (K2.out.next hb3);clear hb3 K2 L1;obtain⟨c0,c1⟩:=K3.out.cx;go_wp2_with fail;clear c0 c1;refine(L2.out w3 (HW.out.below K3.out.bel)).mono ?_;rintro e w4 ⟨rfl,hb4⟩;have K4:=hid (K3.out.next hb4);clear hb4 K3 L2;obtain⟨c0,c1⟩:=K4.out.cx;rcases YY.out with h1|⟨h1,h0,HPX,CT,NM⟩
 ·clear YY
  go_wp2_with fail;go_ret;exact⟨rfl,K4.out.bel⟩
 ·have HPX:=hid HPX;have CT:=hid CT;have NM:=hid NM
  clear YY;go_wp2_with fail;clear c0 c1;refine(HPX.out w4 (HW.out.below K4.out.bel)).mono ?_;rintro e w5 ⟨rfl,hb5⟩;have K5:=hid (K4.out.next hb5);clear hb5 K4 HPX;obtain⟨c0,c1⟩:=K5.out.cx;go_wp2_with fail;clear c0 c1;refine(CT.out w5 (HW.out.below K5.out.bel)).mono ?_;rintro e w6 ⟨rfl,hb6⟩;have K6:=hid (K5.out.next hb6);clear hb6 K5 CT;obtain⟨c0,c1⟩:=K6.out.cx;go_wp2_with fail;clear c0 c1;refine(NM.out w6 (HW.out.below K6.out.bel) (HP.out.below K6.out.bel)).mono ?_;rintro e w7 ⟨rfl,hb7⟩;have K7:=hid (K6.out.next hb7);clear hb7 K6 NM;obtain⟨c0,c1⟩:=K7.out.cx;go_wp2_with fail;go_ret;exact⟨rfl,K7.out.bel⟩
theorem zzt (a b:Nat) (ha:a<1000000000000000000) (hb:b<1000000000000000000) (w:zA):
 zC zF 89 #[I a,I b] w λe w'=>∃nd,e=.returned (I (Nat.gcd a b))/\w'=w.drewN nd:=by
 obtain⟨g,hg⟩:∃g,g=Nat.gcd a b:=⟨_,rfl⟩;rw[<-hg];have HG:=hid hg;clear hg;go_enter Tryz.func89,Tryz.ntmps89;go_wp2;go_loopw [0,1] (λx y wr=>∃m n:Nat,x=I m/\y=I n/\Hid (Nat.gcd m n=g)/\m<1000000000000000000/\n<1000000000000000000/\∃nd,wr=w.drewN nd)
  (λ_ y _=>(zL y).toNat)
 case atStart=>exact⟨a,b,rfl,rfl,HG.out.symm,ha,hb,0,rfl⟩
 case round=>
  clear ha hb;obtain⟨m,n,rfl,rfl,hgm,m1,n1,nd,rfl⟩:=hrel;by_cases h0:n=0
  ·subst h0
   have hm:m=g:=by have:=hgm.out;rw[Nat.gcd_zero_right] at this;exact this
   have HM:=hid hm;clear hm;go_wp2;go_ret;exact⟨nd,by rw[HM.out];rfl,rfl⟩
  ·have hn0:((n:Int) !=0)=true:=by simp;omega
   obtain⟨t,ht⟩:∃t,t=m%n:=⟨_,rfl⟩;have ht1:t<n:=by rw[ht];exact Nat.mod_lt _ (by omega)
   have hgt:=zh1 m n;rw[<-ht] at hgt;have hwr:IntKind.i64.wrap ((m:Int).tmod n)=(t:Int):=by
    rw[Int.tmod_eq_emod_of_nonneg (by omega),<-Int.natCast_emod,<-ht];exact zI _ (by omega)
   have hwe:((m:Int).tmod n)=(t:Int):=by rw[Int.tmod_eq_emod_of_nonneg (by omega),<-Int.natCast_emod,<-ht]
   have HGT:=hid hgt;have HW:=hid hwe;clear hgt ht hwe;go_wp2
   (refine wp_region_quiet_lit (by kernel_rfl) (by kernel_rfl) (WQ.out ?_);(repeat(first|(apply WQ.read (by rfl);(focus(rintro W ⟨n,rfl⟩;go_simp;try with_reducible rfl));try simp only[zzQ])|(apply WQ.skip (by rfl);try simp only[zzQ])));refine WQ.nil ?_;rintro _ ⟨nq,rfl⟩)
   go_wp2;go_roundw
   case rel=>exact⟨n,t,rfl,by first|rfl|(rw[HW.out])|(show Value.int .i64 _=Value.int .i64 _;congr 1;have:=HW.out;rw[<-this,Int.tmod_eq_emod_of_nonneg (by omega)]),HGT.out.trans hgm.out,n1,by omega,_,World.drewN_drewN _ _ _⟩
   case measure=>first|(show((m:Int).tmod n).toNat<(n:Int).toNat;rw[HW.out];omega)|(simp[zL];omega)
theorem zdd (l:List UInt8) (s:ByteArray) (hs:s=⟨l.toArray⟩):s.size=l.length/\∀k (hk:k<l.length) (hb:k<s.size),s[k]'hb=l[k]'hk:=by
 subst hs;exact⟨by show l.toArray.size=_;simp,λk hk hb=>rfl⟩
theorem ztc (l:List UInt8):zds l↔l.length≠0/\¬(1<l.length/\l.head? =some 48)/\∀k (hk:k<l.length),48<=(l[k]'hk).toNat/\(l[k]'hk).toNat<=57:=by
 constructor
 ·rintro⟨h1,h2,h3⟩
  exact⟨λh=>h1 (List.length_eq_zero_iff.1 h),λ⟨h4,h5⟩=>by have:=h3 h5;omega,λk hk=>h2 _ (zY hk)⟩
 ·rintro⟨h1,h2,h3⟩
  refine⟨λh=>h1 (by rw[h];rfl),λc hc=>?_,λh=>?_⟩
  ·obtain⟨k,hk,rfl⟩:=List.getElem_of_mem hc
   exact h3 k hk
  ·exact Nat.le_antisymm (Nat.le_of_not_lt λh4=>h2 ⟨h4,h⟩) (by omega)
theorem zme (l:List UInt8) (hl:l.length<=1000000) (w:zA):
 zC zF 88 #[St l] w λe w'=>∃b,e=.returned (.bool b)/\(b=true↔zds l)/\w'=w:=by
 rw[ztc];obtain⟨s,hs⟩:∃s:ByteArray,s=⟨l.toArray⟩:=⟨_,rfl⟩;obtain⟨b1,b2⟩:=zdd l s hs;show zC _ _ #[.string ⟨l.toArray⟩] _ _;rw[<-hs];have hh:∀hb:0<s.size,l.head? =some 48↔(s[0]'hb).toNat=48:=λhb=>by
  have h0:0<l.length:=by omega
  rw[b2 0 h0 hb,List.head?_eq_getElem?,yB h0];constructor
  ·intro h;injection h with h;rw[h];rfl
  ·intro h;congr 1;exact UInt8.toNat_inj.1 (by rw[h];rfl)
 obtain⟨Q,hQ⟩:∃Q:Prop,Q=(l.length≠0/\¬(1<l.length/\l.head? =some 48)/\∀k (hk:k<l.length),48<=(l[k]'hk).toNat/\(l[k]'hk).toNat<=57):=⟨_,rfl⟩;rw[<-hQ];have q1:s.size=0->¬Q:=λh=>by rw[hQ];exact λk=>k.1 (by omega)
 have q2:∀hb:0<s.size,1<s.size->(s[0]'hb).toNat=48->¬Q:=λhb h h'=>by rw[hQ];exact λk=>k.2.1 ⟨by omega,(hh hb).2 h'⟩
 have q3:∀k (hb:k<s.size),((s[k]'hb).toNat<48\/57<(s[k]'hb).toNat)->¬Q:=λk hb h=>by
  rw[hQ];intro k';have:=k'.2.2 k (by omega);rw[b2 k (by omega) hb] at h;omega
 have q4:∀hb:0<s.size,¬(1<s.size/\(s[0]'hb).toNat=48)->(∀k (hb:k<s.size),48<=(s[k]'hb).toNat/\(s[k]'hb).toNat<=57)->Q:=λhb h h'=>by
  rw[hQ];exact⟨by omega,λ⟨k1,k2⟩=>h ⟨by omega,(hh hb).1 k2⟩,λk hk=>by have:=h' k (by omega);rwa [b2 k hk (by omega)] at this⟩
 have hsz:s.size<=1000000:=by omega
 have Q1:=hid q1;have Q2:=hid q2;have Q3:=hid q3;have Q4:=hid q4;clear q1 q2 q3 q4 hh hQ b1 b2 hs hl;go_enter Tryz.func88,Tryz.ntmps88;by_cases h0:s.size=0
 ·have h0':((s.size:Int)==0)=true:=by simpa using h0
  go_wp2;go_ret;exact⟨false,rfl,⟨λh=>by simp at h,λh=>absurd h (Q1.out h0)⟩,rfl⟩
 ·have h0':((s.size:Int)==0)=false:=by simpa using h0
  have h00:0<s.size:=by omega
  by_cases h1:1<s.size
  ·have h1':(1:Int)<s.size:=by omega
   by_cases h2:(s[0]'h00).toNat=48
   ·have h2':(((s[0]'h00).toNat:Int)==48)=true:=by rw[h2];rfl
    have HN:=hid (Q2.out h00 h1 h2);clear h2;go_wp2;go_ret;exact⟨false,rfl,⟨λh=>by simp at h,λh=>absurd h HN.out⟩,rfl⟩
   ·have h2':(((s[0]'h00).toNat:Int)==48)=false:=by rw[beq_eq_false_iff_ne];omega
    have HN:=hid h2;clear h2;go_wp2;go_loop [3] (λi=>∃k:Nat,k<=s.size/\i=.int .i64 k/\Hid (∀j (hb:j<s.size),j<k->48<=(s[j]'hb).toNat/\(s[j]'hb).toNat<=57)) (λi=>s.size-(zL i).toNat)
    case atStart=>exact⟨0,zR _,rfl,λj _ h=>by omega⟩
    case round=>
     obtain⟨k,hk,rfl,hP⟩:=hrel;by_cases hlt:k<s.size
     ·by_cases d1:(s[k]'hlt).toNat<48
      ·have e1:(((s[k]'hlt).toNat:Int))<48:=by omega
       have HN:=hid (Q3.out k hlt (.inl d1));clear d1;go_wp2;go_ret
       first|exact .inl ⟨rfl,HN.out,rfl⟩|exact⟨false,rfl,⟨λh=>by simp at h,λh=>absurd h HN.out⟩,rfl⟩
      ·by_cases d2:57<(s[k]'hlt).toNat
       ·have e1:(48:Int)<=(s[k]'hlt).toNat:=by omega
        have e2:(57:Int)<(s[k]'hlt).toNat:=by omega
        have HN:=hid (Q3.out k hlt (.inr d2));clear d1 d2;go_wp2;go_ret
        first|exact .inl ⟨rfl,HN.out,rfl⟩|exact⟨false,rfl,⟨λh=>by simp at h,λh=>absurd h HN.out⟩,rfl⟩
       ·have e1:(48:Int)<=(s[k]'hlt).toNat:=by omega
        have e2:((s[k]'hlt).toNat:Int)<=57:=by omega
        have hnext:∀j (hb:j<s.size),j<k+1->48<=(s[j]'hb).toNat/\(s[j]'hb).toNat<=57:=λj hb h=>by
         by_cases e:j=k
         ·subst e;omega
         ·exact hP.out j hb (by omega)
        have HN:=hid hnext;clear hnext d1 d2;go_wp2;go_round
        case rel=>exact⟨k+1,by omega,by go_num,HN⟩
        case measure=>simp[zL];omega
     ·have hq:=Q4.out h00 (λh=>HN.out h.2) (λj hb=>hP.out j hb (by omega))
      have HQ:=hid hq;clear hq;go_wp2;go_ret
      first|exact .inr ⟨rfl,HQ.out,rfl⟩|exact⟨true,rfl,⟨λ_=>HQ.out,λ_=>rfl⟩,rfl⟩
  ·have h1':¬(1:Int)<s.size:=by omega
   go_wp2;go_loop [3] (λi=>∃k:Nat,k<=s.size/\i=.int .i64 k/\Hid (∀j (hb:j<s.size),j<k->48<=(s[j]'hb).toNat/\(s[j]'hb).toNat<=57)) (λi=>s.size-(zL i).toNat)
   case atStart=>exact⟨0,zR _,rfl,λj _ h=>by omega⟩
   case round=>
    obtain⟨k,hk,rfl,hP⟩:=hrel;by_cases hlt:k<s.size
    ·by_cases d1:(s[k]'hlt).toNat<48
     ·have e1:(((s[k]'hlt).toNat:Int))<48:=by omega
      have HN:=hid (Q3.out k hlt (.inl d1));clear d1;go_wp2;go_ret
      first|exact .inl ⟨rfl,HN.out,rfl⟩|exact⟨false,rfl,⟨λh=>by simp at h,λh=>absurd h HN.out⟩,rfl⟩
     ·by_cases d2:57<(s[k]'hlt).toNat
      ·have e1:(48:Int)<=(s[k]'hlt).toNat:=by omega
       have e2:(57:Int)<(s[k]'hlt).toNat:=by omega
       have HN:=hid (Q3.out k hlt (.inr d2));clear d1 d2;go_wp2;go_ret
       first|exact .inl ⟨rfl,HN.out,rfl⟩|exact⟨false,rfl,⟨λh=>by simp at h,λh=>absurd h HN.out⟩,rfl⟩
      ·have e1:(48:Int)<=(s[k]'hlt).toNat:=by omega
       have e2:((s[k]'hlt).toNat:Int)<=57:=by omega
       have hnext:∀j (hb:j<s.size),j<k+1->48<=(s[j]'hb).toNat/\(s[j]'hb).toNat<=57:=λj hb h=>by
        by_cases e:j=k
        ·subst e;omega
        ·exact hP.out j hb (by omega)
       have HN:=hid hnext;clear hnext d1 d2;go_wp2;go_round
       case rel=>exact⟨k+1,by omega,by go_num,HN⟩
       case measure=>simp[zL];omega
    ·have hq:=Q4.out h00 (λh=>h1 h.1) (λj hb=>hP.out j hb (by omega))
     have HQ:=hid hq;clear hq;go_wp2;go_ret
     first|exact .inr ⟨rfl,HQ.out,rfl⟩|exact⟨true,rfl,⟨λ_=>HQ.out,λ_=>rfl⟩,rfl⟩
theorem znz (l:List UInt8) (hd:∀c∈l,48<=c.toNat/\c.toNat<=57) (hl:l.length<=9) (w:zA):
 zC zF 90 #[St l] w λe w'=>e=.returned (I (val l))/\w'=w:=by
 obtain⟨s,hs⟩:∃s:ByteArray,s=⟨l.toArray⟩:=⟨_,rfl⟩;obtain⟨b1,b2⟩:=zdd l s hs;have hvt:=λk hk=>ziu (l:=l) hd (k:=k) hk;have hst:∀k (hb:k<s.size),48<=(s[k]'hb).toNat/\(s[k]'hb).toNat<=57/\val (l.take (k+1))=10*val (l.take k)+((s[k]'hb).toNat-48):=λk hb=>by
  have hk:k<l.length:=by omega
  rw[b2 k hk hb,List.take_succ_eq_append_getElem hk,zde];exact⟨(hd _ (zY hk)).1,(hd _ (zY hk)).2,rfl⟩
 have hfull:val (l.take s.size)=val l:=by rw[b1,List.take_length]
 show zC _ _ #[.string ⟨l.toArray⟩] _ _;rw[<-hs];have hs9:s.size<=9:=by omega
 generalize hvf:(λk=>val (l.take k))=vf at*
 have hvt':∀k,k<=9->vf k<1000000000:=by rw[<-hvf];exact hvt
 have hst':∀k (hb:k<s.size),48<=(s[k]'hb).toNat/\(s[k]'hb).toNat<=57/\vf (k+1)=10*vf k+((s[k]'hb).toNat-48):=by rw[<-hvf];exact hst
 have hfull':vf s.size=val l:=by rw[<-hvf];exact hfull
 have hv0:vf 0=0:=by rw[<-hvf];rfl
 generalize val l=vl at*
 have VT:=hid hvt';have ST:=hid hst';have HF:=hid hfull';have V0:=hid hv0;clear hvt' hst' hfull' hv0 hvt hst hfull hvf b1 b2 hs hd hl;go_enter Tryz.func90,Tryz.ntmps90;go_wp2;go_loop [3,4] (λa i=>∃k:Nat,k<=s.size/\i=.int .i64 k/\a=.int .i64 (vf k:Nat)) (λ_ i=>s.size-(zL i).toNat)
 case atStart=>exact⟨0,zR _,rfl,by rw[V0.out];rfl⟩
 case round=>
  obtain⟨k,hk,rfl,rfl⟩:=hrel;by_cases hlt:k<s.size
  ·obtain⟨c1,c2,c3⟩:=ST.out k hlt
   have hv:=VT.out k (by omega);generalize vf k=v at*
   have C3:=hid c3;clear c3;have d1:(48:Int)<=(s[k].toNat:Int):=by omega
   have d2:(s[k].toNat:Int)<=57:=by omega
   go_wp2;go_round
   case rel=>exact⟨k+1,by omega,by go_num,by rw[C3.out];show Value.int .i64 _=Value.int .i64 _;congr 1;omega⟩
   case measure=>simp[zL];omega
  ·have hk':k=s.size:=by omega
   have HK:=hid hk';clear hk';go_wp2;go_ret;exact⟨by rw[HK.out,HF.out];rfl,rfl⟩
theorem zmf (l:List UInt8) (k:Nat):((⟨l.toArray⟩:ByteArray).extract 0 k)=⟨(l.take k).toArray⟩:=by
 apply ByteArray.ext;rw[ByteArray.data_extract];simp
theorem zev (l:List UInt8) (k:Nat):((⟨l.toArray⟩:ByteArray).extract k (⟨l.toArray⟩:ByteArray).size)=⟨(l.drop k).toArray⟩:=by
 have:(⟨l.toArray⟩:ByteArray).size=l.length:=by show l.toArray.size=_;simp
 rw[this];apply ByteArray.ext;rw[ByteArray.data_extract];simp[List.take_of_length_le]
theorem zmg (b:List UInt8) (k:Nat) (hk:k<b.length) (h1:∀j (hj:j<b.length),j<k->b[j]'hj≠47) (h2:b[k]'hk=47):
 b.takeWhile (· !=47)=b.take k/\(b.dropWhile (· !=47)).tail=b.drop (k+1)/\(47:UInt8)∈b:=by
 have e:b=b.take k++47::b.drop (k+1):=by
  rw[<-h2,List.getElem_cons_drop,List.take_append_drop]
 have hn:(47:UInt8)∉b.take k:=by
  intro h;obtain⟨j,hj,e⟩:=List.getElem_of_mem h;rw[List.getElem_take] at e;simp at hj;exact h1 j (by omega) (by omega) e
 obtain⟨t1,t2⟩:=zty (b:=b.drop (k+1)) hn;refine⟨?_,?_,by rw[e];simp⟩
 ·conv=>lhs;rw[e]
  exact t1
 ·conv=>lhs;rw[e]
  rw[t2];rfl
theorem zrt (b:List UInt8) (h1:∀j (hj:j<b.length),b[j]'hj≠47):b.takeWhile (· !=47)=b/\(b.dropWhile (· !=47)).tail=[]/\(47:UInt8)∉b:=by
 have hn:(47:UInt8)∉b:=λh=>by
  obtain⟨j,hj,e⟩:=List.getElem_of_mem h;exact h1 j hj e
 refine⟨zjy hn,?_,hn⟩;have:b.dropWhile (· !=47)=[]:=by
  have h2:=List.takeWhile_append_dropWhile (p:=(· !=(47:UInt8))) (l:=b);rw[zjy hn] at h2;exact List.append_right_eq_self.1 h2
 rw[this];rfl
def zeg (m:Bool) (b:List UInt8):Value:=.tuple #[.bool m,St (b.takeWhile (· !=47)),St ((b.dropWhile (· !=47)).tail),.bool (decide ((47:UInt8)∈b))]
theorem zru (b:List UInt8) (hm:b.head? ≠some 45) (hl:b.length<=1000000) (w:zA):
 qJ 87 #[St b] w (zeg false b):=by
 obtain⟨t,ht⟩:∃t:ByteArray,t=⟨b.toArray⟩:=⟨_,rfl⟩;obtain⟨b1,b2⟩:=zdd b t ht;have kf:∀k (hk:k<t.size),(t[k]'hk).toNat=47->(∀j (hb:j<t.size),j<k->(t[j]'hb).toNat≠47)->zeg false b=.tuple #[.bool false,.string (t.extract 0 k),.string (t.extract (k+1) t.size),.bool true]:=λk hk h1 h2=>by
  have hk':k<b.length:=by omega
  obtain⟨e1,e2,e3⟩:=zmg b k hk' (λj hj hjk he=>h2 j (by omega) hjk (by rw[b2 j hj (by omega),he];rfl)) (UInt8.toNat_inj.1 (by rw[<-b2 k hk' hk,h1];rfl));unfold zeg;rw[e1,e2,decide_eq_true e3,ht,zmf,zev]
 have kn:(∀j (hb:j<t.size),(t[j]'hb).toNat≠47)->zeg false b=.tuple #[.bool false,.string t,.string ⟨#[]⟩,.bool false]:=λh2=>by
  obtain⟨e1,e2,e3⟩:=zrt b (λj hj he=>h2 j (by omega) (by rw[b2 j hj (by omega),he];rfl));unfold zeg;rw[e1,e2,decide_eq_false e3,ht]
 have KF:=hid kf;have KN:=hid kn;clear kf kn;have h0:t.size=0\/0<t.size/\∀hb:0<t.size,(((t[0]'hb).toNat:Int)==45)=false:=by
  by_cases h:t.size=0
  ·exact .inl h
  ·refine .inr ⟨by omega,λhb=>?_⟩
   rw[beq_eq_false_iff_ne];intro h';have hb0:0<b.length:=by omega
   refine hm ?_;rw[List.head?_eq_getElem?,yB hb0];congr 1;rw[b2 0 hb0 hb] at h';exact UInt8.toNat_inj.1 (by have:(45:UInt8).toNat=45:=rfl;omega)
 have hsz:t.size<=1000000:=by omega
 show zC _ _ #[.string ⟨b.toArray⟩] _ _;rw[<-ht];clear b1 b2 ht hl hm;generalize zeg false b=v at*
 go_enter Tryz.func87,Tryz.ntmps87;rcases h0 with h0|⟨h0,h1⟩
 ·have h0':¬(0:Int)<t.size:=by omega
  have h9:=KN.out λj hb=>by omega
  have HN:=hid h9;clear h9;go_wp2;refine wp_loop_rounds 1 ?_;rw[rounds_succ];go_wp2;refine bodyPost_ret (v:=.tuple #[.bool false,.string t,.string ⟨#[]⟩,.bool false]) (by simp[results,Tryz.results87,go_sem]) rfl ⟨by rw[HN.out],zM _ _⟩
 ·have h1':=h1 h0
  have h0':(0:Int)<t.size:=by omega
  clear h1;go_wp2;go_loop [8] (λi=>∃k:Nat,k<=t.size/\i=.int .i64 k/\Hid (∀j (hb:j<t.size),j<k->(t[j]'hb).toNat≠47)) (λi=>t.size-(zL i).toNat)
  case atStart=>exact⟨0,zR _,rfl,λj _ h=>by omega⟩
  case round=>
   clear h1';obtain⟨k,hk,rfl,hP⟩:=hrel;by_cases hlt:k<t.size
   ·by_cases d1:(t[k]'hlt).toNat=47
    ·have e1:(((t[k]'hlt).toNat:Int)==47)=true:=by rw[d1];rfl
     have h9:=KF.out k hlt d1 hP.out;have HN:=hid h9;clear d1 h9;have hki:(k:Int)<=t.size:=by omega
     have hki1:(k:Int)+1<=t.size:=by omega
     have hk0:(0:Int)<=(k:Int)+1:=by omega
     have hwk:IntKind.i64.wrap ((k:Int)+1)=(k:Int)+1:=zI _ ⟨by omega,by omega⟩;go_wp2
     (refine wp_region_quiet_lit (by kernel_rfl) (by kernel_rfl) (WQ.out ?_);(repeat(first|(apply WQ.read (by rfl);(focus(rintro W ⟨n,rfl⟩;go_simp;try with_reducible rfl));try simp only[zzQ])|(apply WQ.skip (by rfl);try simp only[zzQ])));refine WQ.nil ?_;rintro _ ⟨nq,rfl⟩)
     go_wp2;refine bodyPost_ret (v:=.tuple #[.bool false,.string (t.extract 0 k),.string (t.extract (k+1) t.size),.bool true]) (by simp[results,Tryz.results87,go_sem]) rfl ⟨by rw[HN.out],zao (zM _ _) _⟩
    ·have e1:(((t[k]'hlt).toNat:Int)==47)=false:=by rw[beq_eq_false_iff_ne];omega
     have hnext:∀j (hb:j<t.size),j<k+1->(t[j]'hb).toNat≠47:=λj hb h=>by
      by_cases e:j=k
      ·subst e;exact d1
      ·exact hP.out j hb (by omega)
     have HN:=hid hnext;clear hnext d1;go_wp2;go_round
     case rel=>exact⟨k+1,by omega,by go_num,HN⟩
     case measure=>simp[zL];omega
   ·have h9:=KN.out λj hb=>hP.out j hb (by omega)
    have HN:=hid h9;clear h9;go_wp2;refine bodyPost_ret (v:=.tuple #[.bool false,.string t,.string ⟨#[]⟩,.bool false]) (by simp[results,Tryz.results87,go_sem]) rfl ⟨by rw[HN.out],zM _ _⟩
theorem zrv (b:List UInt8) (hl:b.length<=1000000) (w:zA):
 qJ 87 #[St (45::b)] w (zeg true b):=by
 obtain⟨t,ht⟩:∃t:ByteArray,t=⟨b.toArray⟩:=⟨_,rfl⟩;obtain⟨b1,b2⟩:=zdd b t ht;have kf:∀k (hk:k<t.size),(t[k]'hk).toNat=47->(∀j (hb:j<t.size),j<k->(t[j]'hb).toNat≠47)->zeg true b=.tuple #[.bool true,.string (t.extract 0 k),.string (t.extract (k+1) t.size),.bool true]:=λk hk h1 h2=>by
  have hk':k<b.length:=by omega
  obtain⟨e1,e2,e3⟩:=zmg b k hk' (λj hj hjk he=>h2 j (by omega) hjk (by rw[b2 j hj (by omega),he];rfl)) (UInt8.toNat_inj.1 (by rw[<-b2 k hk' hk,h1];rfl));unfold zeg;rw[e1,e2,decide_eq_true e3,ht,zmf,zev]
 have kn:(∀j (hb:j<t.size),(t[j]'hb).toNat≠47)->zeg true b=.tuple #[.bool true,.string t,.string ⟨#[]⟩,.bool false]:=λh2=>by
  obtain⟨e1,e2,e3⟩:=zrt b (λj hj he=>h2 j (by omega) (by rw[b2 j hj (by omega),he];rfl));unfold zeg;rw[e1,e2,decide_eq_false e3,ht]
 have KF:=hid kf;have KN:=hid kn;clear kf kn;obtain⟨s,hs⟩:∃s:ByteArray,s=⟨((45:UInt8)::b).toArray⟩:=⟨_,rfl⟩;obtain⟨s1,s2,s3,s4,s5⟩:=zgu b s hs;have h45:=s4 s2;have hsl:(1:Int)<=s.size:=by omega
 have hs0:(0:Int)<s.size:=by omega
 rw[<-ht] at s5;have hsz:t.size<=1000000:=by omega
 show zC _ _ #[.string ⟨((45:UInt8)::b).toArray⟩] _ _;rw[<-hs];clear b1 b2 ht hl s1 s3 s4 hs;generalize zeg true b=v at*
 go_enter Tryz.func87,Tryz.ntmps87;go_wp2;go_loop [8] (λi=>∃k:Nat,k<=t.size/\i=.int .i64 k/\Hid (∀j (hb:j<t.size),j<k->(t[j]'hb).toNat≠47)) (λi=>t.size-(zL i).toNat)
 case atStart=>exact⟨0,zR _,rfl,λj _ h=>by omega⟩
 case round=>
  clear h45 hsl hs0 s5;obtain⟨k,hk,rfl,hP⟩:=hrel;by_cases hlt:k<t.size
  ·by_cases d1:(t[k]'hlt).toNat=47
   ·have e1:(((t[k]'hlt).toNat:Int)==47)=true:=by rw[d1];rfl
    have h9:=KF.out k hlt d1 hP.out;have HN:=hid h9;clear d1 h9;have hki:(k:Int)<=t.size:=by omega
    have hki1:(k:Int)+1<=t.size:=by omega
    have hk0:(0:Int)<=(k:Int)+1:=by omega
    have hwk:IntKind.i64.wrap ((k:Int)+1)=(k:Int)+1:=zI _ ⟨by omega,by omega⟩;go_wp2
    (refine wp_region_quiet_lit (by kernel_rfl) (by kernel_rfl) (WQ.out ?_);(repeat(first|(apply WQ.read (by rfl);(focus(rintro W ⟨n,rfl⟩;go_simp;try with_reducible rfl));try simp only[zzQ])|(apply WQ.skip (by rfl);try simp only[zzQ])));refine WQ.nil ?_;rintro _ ⟨nq,rfl⟩)
    go_wp2;refine bodyPost_ret (v:=.tuple #[.bool true,.string (t.extract 0 k),.string (t.extract (k+1) t.size),.bool true]) (by simp[results,Tryz.results87,go_sem]) rfl ⟨by rw[HN.out],zao (zM _ _) _⟩
   ·have e1:(((t[k]'hlt).toNat:Int)==47)=false:=by rw[beq_eq_false_iff_ne];omega
    have hnext:∀j (hb:j<t.size),j<k+1->(t[j]'hb).toNat≠47:=λj hb h=>by
     by_cases e:j=k
     ·subst e;exact d1
     ·exact hP.out j hb (by omega)
    have HN:=hid hnext;clear hnext d1;go_wp2;go_round
    case rel=>exact⟨k+1,by omega,by go_num,HN⟩
    case measure=>simp[zL];omega
  ·have h9:=KN.out λj hb=>hP.out j hb (by omega)
   have HN:=hid h9;clear h9;go_wp2;refine bodyPost_ret (v:=.tuple #[.bool true,.string t,.string ⟨#[]⟩,.bool false]) (by simp[results,Tryz.results87,go_sem]) rfl ⟨by rw[HN.out],zM _ _⟩
theorem zn0 (l:List UInt8) (hl:l.length<=1000000) (w:zA):
 qJ 87 #[St l] w (.tuple #[.bool (decide (l.head? =some 45)),St (upS l),St (dnS l),.bool (decide ((47:UInt8)∈bare l))]):=by
 rcases zhb l with⟨h1,h2⟩|⟨h1,h2⟩
 ·rw[decide_eq_true h1]
  have:=zrv (bare l) (by have:=congrArg List.length h2;simp at this;omega) w;rw[<-h2] at this;exact this
 ·rw[decide_eq_false h1]
  have:=zru (bare l) (by rw[<-h2];exact h1) (by rw[<-h2];exact hl) w;rw[<-h2] at this;unfold upS dnS;rw[<-h2];exact this
theorem ziz (n:Nat) (hl:(zD n).length<=300) (w:zA):
 zC zF 183 #[St (zD n)] w λe w'=>e=.returned (.int .i64 0)/\w'=w:=by
 obtain⟨s,hs⟩:∃s:ByteArray,s=⟨(zD n++[]).toArray⟩:=⟨_,rfl⟩;obtain⟨b1,b2, -⟩:=zii (zd7 n) s hs;have hzero:(zD n).length<=1\/∀hb:0<s.size,(s[0]'hb).toNat≠48:=zjz n [] s hs;have hb2:∀k (hb:k<s.size),48<=(s[k]'hb).toNat/\(s[k]'hb).toNat<=57:=λk hb=>⟨(b2 k (by simp at b1;omega) hb).1,(b2 k (by simp at b1;omega) hb).2.1⟩;have hpos:1<=(zD n).length:=by have:=zbn (n:Int);unfold digs at this;simpa using this
 rw[List.append_nil] at hs;have hlen:(zD n).length=s.size:=by rw[b1];simp
 show zC _ _ #[.string ⟨(zD n).toArray⟩] _ _;rw[hlen] at hl hzero hpos;rw[<-hs];have B2:=hid hb2;clear b1 b2 hb2 hs hlen;have h0:0<s.size:=by omega
 have h0':(0:Int)<s.size:=by omega
 have hz:((0:Int)==s.size)=false:=by rw[beq_eq_false_iff_ne];omega
 have h45:(((s[0]'h0).toNat:Int)==45)=false:=by rw[beq_eq_false_iff_ne];have:=(B2.out 0 h0).1;omega
 have hf:(((s[0]'h0).toNat:Int)==48)=true/\¬(1:Int)<s.size\/(((s[0]'h0).toNat:Int)==48)=false:=by
  by_cases h:(s[0]'h0).toNat=48
  ·left
   refine⟨by rw[h];rfl,?_⟩;rcases hzero with h1|h1
   ·omega
   ·exact absurd h (h1 h0)
  ·right;rw[beq_eq_false_iff_ne];omega
 have hwl:IntKind.i64.wrap ((s.size:Int)-0)=(s.size:Int):=by rw[Int.sub_zero];exact zI _ ⟨by omega,by omega⟩
 have hwl2:IntKind.i64.wrap (s.size:Int)=(s.size:Int):=zI _ ⟨by omega,by omega⟩;have h300:¬(300:Int)<s.size:=by omega
 clear hzero;go_enter Tryz.func183,Tryz.ntmps183;rcases hf with⟨f1,f2⟩|f1
 all_goals (
 go_wp2;go_loop [4] (λi=>∃k:Nat,k<=s.size/\i=.int .i64 k) (λi=>s.size-(zL i).toNat)
 case atStart=>exact⟨0,zR _,rfl⟩
 case round=>
  obtain⟨k,hk,rfl⟩:=hrel;by_cases hlt:k<s.size
  ·obtain⟨c1,c2⟩:=B2.out k hlt
   have d1:(48:Int)<=(s[k].toNat:Int):=by omega
   have d2:(s[k].toNat:Int)<=57:=by omega
   go_wp2;go_round
   case rel=>exact⟨k+1,by omega,by go_num⟩
   case measure=>simp[zL];omega
  ·go_wp2
   go_ret
   first|exact⟨rfl,rfl⟩|exact rfl|trivial)
theorem zg3 {l:List UInt8} (h:∀c∈l,48<=c.toNat/\c.toNat<=57) {k:Nat} (hk:k<=17):val (l.take k)<100000000000000000:=by
 have h1:=zjc (l.take k) (λc hc=>h c (List.mem_of_mem_take hc));have h2:(10:Nat)^(l.take k).length<=10^17:=Nat.pow_le_pow_right (by omega) (by simp;omega);exact Nat.lt_of_lt_of_le h1 h2
theorem zi0 (n:Nat) (hl:(zD n).length<=17) (w:zA):
 zC zF 184 #[St (zD n)] w λe w'=>e=.returned (.tuple #[I n,.bool true])/\w'=w:=by
 obtain⟨l,hll⟩:∃l,l=zD n:=⟨_,rfl⟩;have hd:=zan n;have hvn:=zb2 n;have hpos:1<=(zD n).length:=by have:=zbn (n:Int);unfold digs at this;simpa using this
 rw[<-hll] at hd hvn hl hpos⊢;obtain⟨s,hs⟩:∃s:ByteArray,s=⟨l.toArray⟩:=⟨_,rfl⟩;obtain⟨b1,b2⟩:=zdd l s hs;have hvt:=λk hk=>zg3 (l:=l) hd (k:=k) hk;have hst:∀k (hb:k<s.size),48<=(s[k]'hb).toNat/\(s[k]'hb).toNat<=57/\val (l.take (k+1))=10*val (l.take k)+((s[k]'hb).toNat-48):=λk hb=>by
  have hk:k<l.length:=by omega
  rw[b2 k hk hb,List.take_succ_eq_append_getElem hk,zde];exact⟨(hd _ (zY hk)).1,(hd _ (zY hk)).2,rfl⟩
 have hfull:val (l.take s.size)=n:=by rw[b1,List.take_length];exact hvn
 show zC _ _ #[.string ⟨l.toArray⟩] _ _;rw[<-hs];have hs17:s.size<=17:=by omega
 have hs0:0<s.size:=by omega
 generalize hvf:(λk=>val (l.take k))=vf at*
 have hvt':∀k,k<=17->vf k<100000000000000000:=by rw[<-hvf];exact hvt
 have hst':∀k (hb:k<s.size),48<=(s[k]'hb).toNat/\(s[k]'hb).toNat<=57/\vf (k+1)=10*vf k+((s[k]'hb).toNat-48):=by rw[<-hvf];exact hst
 have hfull':vf s.size=n:=by rw[<-hvf];exact hfull
 have hv0:vf 0=0:=by rw[<-hvf];rfl
 have VT:=hid hvt';have ST:=hid hst';have HF:=hid hfull';have V0:=hid hv0;have h45:(((s[0]'hs0).toNat:Int)==45)=false:=by rw[beq_eq_false_iff_ne];have:=(hst' 0 hs0).1;omega
 clear hvt' hst' hfull' hv0 hvt hst hfull hvf b1 b2 hs hd hl hll hvn hpos;go_enter Tryz.func184,Tryz.ntmps184;go_wp2;go_loop [4,5] (λa i=>∃k:Nat,k<=s.size/\i=.int .i64 k/\a=.int .i64 (vf k:Nat)) (λ_ i=>s.size-(zL i).toNat)
 case atStart=>exact⟨0,zR _,rfl,by rw[V0.out];rfl⟩
 case round=>
  obtain⟨k,hk,rfl,rfl⟩:=hrel;by_cases hlt:k<s.size
  ·obtain⟨c1,c2,c3⟩:=ST.out k hlt
   have hv:=VT.out k (by omega);generalize vf k=v at*
   have C3:=hid c3;clear c3;have d1:(48:Int)<=(s[k].toNat:Int):=by omega
   have d2:(s[k].toNat:Int)<=57:=by omega
   have d3:((s[k].toNat:Int) !=45)=true:=by simp;omega
   go_wp2;go_round
   case rel=>exact⟨k+1,by omega,by go_num,by rw[C3.out];show Value.int .i64 _=Value.int .i64 _;congr 1;omega⟩
   case measure=>simp[zL];omega
  ·have hk':k=s.size:=by omega
   have HK:=hid hk';clear hk';go_wp2;go_ret2;exact⟨by rw[HK.out,HF.out];rfl,rfl⟩
theorem zxf (l:List UInt8):okS l↔zds (upS l)/\¬(l.head? =some 45/\upS l=[48])/\((47:UInt8)∉bare l\/(zds (dnS l)/\dnS l≠[48]/\dnS l≠[49]/\Nat.gcd (val (upS l)) (val (dnS l))=1)):=by
 unfold okS hasS;constructor
 ·rintro⟨h1,h2,h3⟩
  refine⟨h1,h2,?_⟩;by_cases h:(47:UInt8)∈bare l
  ·exact .inr (h3 h)
  ·exact .inl h
 ·rintro⟨h1,h2,h3⟩
  refine⟨h1,h2,λh=>?_⟩;rcases h3 with h3|h3
  ·exact absurd h h3
  ·exact h3
theorem zgl (l:List UInt8) (s:ByteArray) (hs:s=⟨l.toArray⟩) (k:List UInt8):(s.toList==k)=decide (l=k):=by
 rw[hs,ByteArray.toList_eq];by_cases h:l=k
 ·subst h;simp
 ·rw[decide_eq_false h];simpa using h
theorem ztd (x u v:ByteArray) (m sl b1 b2 z1 z2 z3:Bool) (g:Nat) (Q:Prop) (hu:u.size<=300) (hv:v.size<=300)
 (HQ:Hid (Q↔b1=true/\¬(m=true/\z3=true)/\(sl=false\/(b2=true/\z1=false/\z2=false/\g=1))))
 (e1:(v.toList==[48])=z1) (e2:(v.toList==[49])=z2) (e3:(u.toList==[48])=z3)
 (SP:Hid (∀W:zA,qJ 87 #[.string x] W (.tuple #[.bool m,.string u,.string v,.bool sl])))
 (D1:Hid (∀W:zA,zC zF 88 #[.string u] W λe w'=>e=.returned (.bool b1)/\w'=W))
 (D2:Hid (∀W:zA,zC zF 88 #[.string v] W λe w'=>e=.returned (.bool b2)/\w'=W))
 (SG:Hid (b1=true->b2=true->u.size<=9->v.size<=9->∃n d:Nat,(∀W:zA,zC zF 90 #[.string u] W λe w'=>e=.returned (I n)/\w'=W)/\(∀W:zA,zC zF 90 #[.string v] W λe w'=>e=.returned (I d)/\w'=W)/\
   ∀W:zA,qJ 89 #[I n,I d] W (I g)))
 (BG:Hid (b1=true->b2=true->∃t:ByteArray,(t.toList==[49])=decide (g=1)/\qK 91 #[.string u,.string v] (.tuple #[.string t,.int .i64 0])))
 (w:zA) (HW:Hid (Wd w)):
 zC zF 46 #[.string x] w λe w'=>∃r:Int,e=.returned (.int .i64 r)/\(r=0↔Q)/\Below w.heap.size w w':=by
 have u300:¬(300:Int)<u.size:=by omega
 have v300:¬(300:Int)<v.size:=by omega
 go_enter Tryz.func46,Tryz.ntmps46;go_wp2_with fail;refine(SP.out w).mono ?_;rintro e w1 ⟨rfl,hB⟩;go_wp2_with fail;refine(D1.out w1).mono ?_;rintro e w2 ⟨rfl,hw⟩;have hw2:=hw.symm;subst hw2;clear hw;cases b1
 ·have HN:=hid (by rw[HQ.out];simp:¬Q)
  go_wp2_with fail
  all_goals first|exact(zzU ‹_›).elim|skip
  go_ret;exact⟨11,rfl,⟨λh=>by simp at h,λh=>absurd h HN.out⟩,hB⟩
 ·cases sl
  ·cases m
   ·have HN:=hid (by rw[HQ.out];simp:Q)
    go_wp2_with fail
    all_goals first|exact(zzU ‹_›).elim|skip
    go_ret;exact⟨0,rfl,⟨λ_=>HN.out,λ_=>rfl⟩,hB⟩
   ·cases z3
    ·have HN:=hid (by rw[HQ.out];simp:Q)
     go_wp2_with fail
     all_goals first|exact(zzU ‹_›).elim|skip
     go_ret;exact⟨0,rfl,⟨λ_=>HN.out,λ_=>rfl⟩,hB⟩
    ·have HN:=hid (by rw[HQ.out];simp:¬Q)
     go_wp2_with fail
     all_goals first|exact(zzU ‹_›).elim|skip
     go_ret;exact⟨11,rfl,⟨λh=>by simp at h,λh=>absurd h HN.out⟩,hB⟩
  ·go_wp2_with fail
   all_goals first|exact(zzU ‹_›).elim|skip
   refine(D2.out _).mono ?_;rintro e w2 ⟨rfl,hw⟩;have hw2:=hw.symm;subst hw2;clear hw;cases b2
   ·have HN:=hid (by rw[HQ.out];simp:¬Q)
    go_wp2_with fail
    all_goals first|exact(zzU ‹_›).elim|skip
    go_ret;exact⟨11,rfl,⟨λh=>by simp at h,λh=>absurd h HN.out⟩,hB⟩
   ·cases z1
    ·cases z2
     ·cases m
      ·by_cases h9:u.size<=9
       ·by_cases k9:v.size<=9
        ·have hu9:(u.size:Int)<=9:=by omega
         have hv9:(v.size:Int)<=9:=by omega
         obtain⟨n,d,s1,s2,s3⟩:=SG.out (by simp) (by simp) (by omega) (by omega);have S1:=hid s1;have S2:=hid s2;have S3:=hid s3;clear s1 s2 s3;go_wp2_with fail
         all_goals first|exact(zzU ‹_›).elim|skip
         refine(S1.out _).mono ?_;rintro e w2 ⟨rfl,hw⟩;have hw2:=hw.symm;subst hw2;clear hw;go_wp2_with fail;refine(S2.out _).mono ?_;rintro e w2 ⟨rfl,hw⟩;have hw2:=hw.symm;subst hw2;clear hw;go_wp2_with fail;refine(S3.out _).mono ?_;rintro e w2 ⟨rfl,hb2⟩;have hB:=hB.trans (hb2.mono hB.size);clear hb2;by_cases hg:g=1
         ·have HN:=hid (by rw[HQ.out];simp[hg]:Q)
          have hgb:((g:Int) !=1)=false:=by subst hg;rfl
          clear hg;go_wp2_with fail;go_ret;exact⟨0,rfl,⟨λ_=>HN.out,λ_=>rfl⟩,hB⟩
         ·have HN:=hid (by rw[HQ.out];simp[hg]:¬Q)
          have hgb:((g:Int) !=1)=true:=by simp;omega
          clear hg;go_wp2_with fail;go_ret;exact⟨11,rfl,⟨λh=>by simp at h,λh=>absurd h HN.out⟩,hB⟩
        ·have hu9:(u.size:Int)<=9:=by omega
         have hv9:¬(v.size:Int)<=9:=by omega
         obtain⟨t,t1,t2⟩:=BG.out (by simp) (by simp);have T2:=hid (t2 w1 (HW.out.below hB));clear t2;go_wp2_with fail
         all_goals first|exact(zzU ‹_›).elim|skip
         refine T2.out.mono ?_;rintro e w2 ⟨rfl,hb2⟩;have hB:=hB.trans (hb2.mono hB.size);clear hb2 T2;by_cases hg:g=1
         ·have HN:=hid (by rw[HQ.out];simp[hg]:Q)
          rw[decide_eq_true hg] at t1;clear hg;go_wp2_with fail;go_ret;exact⟨0,rfl,⟨λ_=>HN.out,λ_=>rfl⟩,hB⟩
         ·have HN:=hid (by rw[HQ.out];simp[hg]:¬Q)
          rw[decide_eq_false hg] at t1;clear hg;go_wp2_with fail;go_ret;exact⟨11,rfl,⟨λh=>by simp at h,λh=>absurd h HN.out⟩,hB⟩
       ·have hu9:¬(u.size:Int)<=9:=by omega
        obtain⟨t,t1,t2⟩:=BG.out (by simp) (by simp);have T2:=hid (t2 w1 (HW.out.below hB));clear t2;go_wp2_with fail
        all_goals first|exact(zzU ‹_›).elim|skip
        refine T2.out.mono ?_;rintro e w2 ⟨rfl,hb2⟩;have hB:=hB.trans (hb2.mono hB.size);clear hb2 T2;by_cases hg:g=1
        ·have HN:=hid (by rw[HQ.out];simp[hg]:Q)
         rw[decide_eq_true hg] at t1;clear hg;go_wp2_with fail;go_ret;exact⟨0,rfl,⟨λ_=>HN.out,λ_=>rfl⟩,hB⟩
        ·have HN:=hid (by rw[HQ.out];simp[hg]:¬Q)
         rw[decide_eq_false hg] at t1;clear hg;go_wp2_with fail;go_ret;exact⟨11,rfl,⟨λh=>by simp at h,λh=>absurd h HN.out⟩,hB⟩
      ·cases z3
       ·by_cases h9:u.size<=9
        ·by_cases k9:v.size<=9
         ·have hu9:(u.size:Int)<=9:=by omega
          have hv9:(v.size:Int)<=9:=by omega
          obtain⟨n,d,s1,s2,s3⟩:=SG.out (by simp) (by simp) (by omega) (by omega);have S1:=hid s1;have S2:=hid s2;have S3:=hid s3;clear s1 s2 s3;go_wp2_with fail
          all_goals first|exact(zzU ‹_›).elim|skip
          refine(S1.out _).mono ?_;rintro e w2 ⟨rfl,hw⟩;have hw2:=hw.symm;subst hw2;clear hw;go_wp2_with fail;refine(S2.out _).mono ?_;rintro e w2 ⟨rfl,hw⟩;have hw2:=hw.symm;subst hw2;clear hw;go_wp2_with fail;refine(S3.out _).mono ?_;rintro e w2 ⟨rfl,hb2⟩;have hB:=hB.trans (hb2.mono hB.size);clear hb2;by_cases hg:g=1
          ·have HN:=hid (by rw[HQ.out];simp[hg]:Q)
           have hgb:((g:Int) !=1)=false:=by subst hg;rfl
           clear hg;go_wp2_with fail;go_ret;exact⟨0,rfl,⟨λ_=>HN.out,λ_=>rfl⟩,hB⟩
          ·have HN:=hid (by rw[HQ.out];simp[hg]:¬Q)
           have hgb:((g:Int) !=1)=true:=by simp;omega
           clear hg;go_wp2_with fail;go_ret;exact⟨11,rfl,⟨λh=>by simp at h,λh=>absurd h HN.out⟩,hB⟩
         ·have hu9:(u.size:Int)<=9:=by omega
          have hv9:¬(v.size:Int)<=9:=by omega
          obtain⟨t,t1,t2⟩:=BG.out (by simp) (by simp);have T2:=hid (t2 w1 (HW.out.below hB));clear t2;go_wp2_with fail
          all_goals first|exact(zzU ‹_›).elim|skip
          refine T2.out.mono ?_;rintro e w2 ⟨rfl,hb2⟩;have hB:=hB.trans (hb2.mono hB.size);clear hb2 T2;by_cases hg:g=1
          ·have HN:=hid (by rw[HQ.out];simp[hg]:Q)
           rw[decide_eq_true hg] at t1;clear hg;go_wp2_with fail;go_ret;exact⟨0,rfl,⟨λ_=>HN.out,λ_=>rfl⟩,hB⟩
          ·have HN:=hid (by rw[HQ.out];simp[hg]:¬Q)
           rw[decide_eq_false hg] at t1;clear hg;go_wp2_with fail;go_ret;exact⟨11,rfl,⟨λh=>by simp at h,λh=>absurd h HN.out⟩,hB⟩
        ·have hu9:¬(u.size:Int)<=9:=by omega
         obtain⟨t,t1,t2⟩:=BG.out (by simp) (by simp);have T2:=hid (t2 w1 (HW.out.below hB));clear t2;go_wp2_with fail
         all_goals first|exact(zzU ‹_›).elim|skip
         refine T2.out.mono ?_;rintro e w2 ⟨rfl,hb2⟩;have hB:=hB.trans (hb2.mono hB.size);clear hb2 T2;by_cases hg:g=1
         ·have HN:=hid (by rw[HQ.out];simp[hg]:Q)
          rw[decide_eq_true hg] at t1;clear hg;go_wp2_with fail;go_ret;exact⟨0,rfl,⟨λ_=>HN.out,λ_=>rfl⟩,hB⟩
         ·have HN:=hid (by rw[HQ.out];simp[hg]:¬Q)
          rw[decide_eq_false hg] at t1;clear hg;go_wp2_with fail;go_ret;exact⟨11,rfl,⟨λh=>by simp at h,λh=>absurd h HN.out⟩,hB⟩
       ·have HN:=hid (by rw[HQ.out];simp:¬Q)
        go_wp2_with fail
        all_goals first|exact(zzU ‹_›).elim|skip
        go_ret;exact⟨11,rfl,⟨λh=>by simp at h,λh=>absurd h HN.out⟩,hB⟩
     ·have HN:=hid (by rw[HQ.out];simp:¬Q)
      go_wp2_with fail
      all_goals first|exact(zzU ‹_›).elim|skip
      go_ret;exact⟨11,rfl,⟨λh=>by simp at h,λh=>absurd h HN.out⟩,hB⟩
    ·have HN:=hid (by rw[HQ.out];simp:¬Q)
     go_wp2_with fail
     all_goals first|exact(zzU ‹_›).elim|skip
     go_ret;exact⟨11,rfl,⟨λh=>by simp at h,λh=>absurd h HN.out⟩,hB⟩
theorem z15 (g:Nat):zD g=[49]↔g=1:=by
 have e:zD 1=[49]:=by rw[zae (by omega)];rfl
 constructor
 ·intro h;exact zfk (h.trans e.symm)
 ·rintro rfl;exact e
end Go.Proofs.YtheinkfbiedidaaGreatDoor
namespace Go.Proofs.YtheinkfbiedidaaGreatDoor
open Go.RowKit Go.Shelf Lib Str Limb Geo
attribute [local go_sem] Oper.semAt_some
def BoolP (w:zA) (G:Prop) (e:Ending) (w':zA):Prop:=∃b:Bool,e=.returned (.bool b)/\(b=false↔G)/\Below w.heap.size w w'
theorem BoolP.no {w w':zA} {G:Prop} (h:¬G) (hb:qL w w'):BoolP w G (.returned (.bool true)) w':=⟨true,rfl,⟨λk=>by simp at k,λk=>absurd k h⟩,hb⟩
theorem BoolP.yes {w w':zA} {G:Prop} (h:G) (hb:qL w w'):BoolP w G (.returned (.bool false)) w':=⟨false,rfl,⟨λ_=>h,λ_=>rfl⟩,hb⟩
def IdxP (w:zA) (n:Nat) (G:Nat->Prop) (e:Ending) (w':zA):Prop:=∃k:Int,e=.returned (.int .i64 k)/\((k= -1/\∀i,i<n->G i)\/(0<=k/\∃i,i<n/\¬G i))/\Below w.heap.size w w'
theorem IdxP.hit {w w':zA} {n:Nat} {G:Nat->Prop} {k:Nat} (hk:k<n) (h:¬G k) (hb:qL w w'):IdxP w n G (.returned (.int .i64 (k:Int))) w':=⟨k,rfl,.inr ⟨by omega,k,hk,h⟩,hb⟩
theorem IdxP.none {w w':zA} {n:Nat} {G:Nat->Prop} (h:∀i,i<n->G i) (hb:qL w w'):IdxP w n G (.returned (.int .i64 (-1))) w':=⟨-1,rfl,.inl ⟨rfl,h⟩,hb⟩
def YesP (w:zA) (G:Prop) (e:Ending) (w':zA):Prop:=∃b:Bool,e=.returned (.bool b)/\(b=true↔G)/\Below w.heap.size w w'
theorem YesP.no {w w':zA} {G:Prop} (h:¬G) (hb:qL w w'):YesP w G (.returned (.bool false)) w':=⟨false,rfl,⟨λk=>by simp at k,λk=>absurd k h⟩,hb⟩
theorem YesP.yes {w w':zA} {G:Prop} (h:G) (hb:qL w w'):YesP w G (.returned (.bool true)) w':=⟨true,rfl,⟨λ_=>h,λ_=>rfl⟩,hb⟩
end Go.Proofs.YtheinkfbiedidaaGreatDoor
namespace Go.Proofs.YtheinkfbiedidaaGreatDoor.Geo
def onR (a b p:Pt):Prop:=cmpR p.x a.x*cmpR p.x b.x<=0/\cmpR p.y a.y*cmpR p.y b.y<=0
instance (a b p:Pt):Decidable (onR a b p):=by unfold onR;infer_instance
def cr (a b c:Pt):Rat:=(b.x-a.x)*(c.y-a.y)-(b.y-a.y)*(c.x-a.x)
def uniq (P:Pt->Bool):List Pt->List Pt->List Pt
 |acc,[]=>acc
 |acc,x::r=>uniq P (if P x&&!acc.contains x then acc++[x] else acc) r
def le (p q:Pt):Prop:=ordP p q<=0
theorem le_trans {p q r:Pt} (h:le p q) (k:le q r):le p r:=by unfold le at*;have:=zas p q;have:=zas q r;have:=zas p r;grind
theorem le_antisymm {p q:Pt} (h:le p q) (k:le q p):p=q:=by unfold le at*;have:=zas p q;have:=zas q p;grind
theorem le_total (p q:Pt):le p q\/le q p:=by unfold le;have:=zas p q;have:=zas q p;grind
end Go.Proofs.YtheinkfbiedidaaGreatDoor.Geo
namespace Go.Proofs.YtheinkfbiedidaaGreatDoor.Geo
end Go.Proofs.YtheinkfbiedidaaGreatDoor.Geo
namespace Go.Proofs.YtheinkfbiedidaaGreatDoor.Geo
end Go.Proofs.YtheinkfbiedidaaGreatDoor.Geo
namespace Go.Proofs.YtheinkfbiedidaaGreatDoor
open Go.RowKit Go.Shelf Lib Str Limb Geo
end Go.Proofs.YtheinkfbiedidaaGreatDoor
namespace Go.Proofs.YtheinkfbiedidaaGreatDoor
open Go.RowKit Go.Shelf Lib Str Limb Geo
attribute [local go_sem] Oper.semAt_some
end Go.Proofs.YtheinkfbiedidaaGreatDoor
namespace Go.Proofs.YtheinkfbiedidaaGreatDoor
open Go.RowKit Go.Shelf Lib Str Limb
attribute [local go_sem] Oper.semAt_some
abbrev BolQ (w:zA) (b:Bool) (e:Ending) (w':zA):Prop:=e=.returned (.bool b)/\Below w.heap.size w w'
theorem z6w (x y r:ByteArray) (is:Bool) (A:Nat) (xx:ByteArray)
 (RT:Hid (qK 83 #[.string xx,.string y] (.tuple #[.string r,.bool is,.int .i64 0])))
 (w:zA) (HW:Hid (Wd w)) (HA:Hid (w.cell? ⟨A,1,none⟩=some (.string xx))):
 zC zF 82 #[.agg #[.string x,.string y],.pointer (some ⟨A,0,none⟩)] w (BolQ w is):=by
 obtain⟨W0,hW0⟩:∃W0,W0=w.alloc (.cells #[.string x,.string y] 66):=⟨_,rfl⟩;have K0:=hid (show BxT w x y W0 by rw[hW0];exact BxT.start w x y);obtain⟨c0,c1⟩:=K0.out.cx;have a1:=(zac (show qL w W0 from K0.out.bel)).cell HA.out;rw[hW0] at c0 c1 a1;have H9:=hid hW0.symm;clear hW0;go_enter Tryz.func82,Tryz.ntmps82;go_wp2_with fail;rw[H9.out];clear c0 c1 a1 H9;refine(RT.out W0 (HW.out.below K0.out.bel)).mono ?_;rintro e w1 ⟨rfl,hb1⟩;have K1:=hid (K0.out.next hb1);clear hb1 K0 RT;cases is
 ·go_wp2_with fail
  all_goals
   go_ret;exact⟨rfl,K1.out.bel⟩
 ·go_wp2_with fail
  all_goals
   go_ret;exact⟨rfl,K1.out.bel⟩
def RowTm (p:Option Addr) (n:Nat) (X Y:Nat->ByteArray) (W:zA):Prop:=∀i,i<n->∃b off,p=some ⟨b,off,none⟩/\W.cell? ⟨b,off+i*2,none⟩=some (.string (X i))/\W.cell? ⟨b,off+i*2+1,none⟩=some (.string (Y i))
theorem RowTm.keep {p:Option Addr} {n:Nat} {X Y:Nat->ByteArray} {W W':zA} (h:RowTm p n X Y W) (hc:CellsKept W W'):RowTm p n X Y W':=λi hi=>let ⟨b,off,e,h1,h2⟩:=h i hi;⟨b,off,e,hc.cell h1,hc.cell h2⟩
theorem z7r (p:Option Addr) (cap n:Nat) (X Y:Nat->ByteArray) (hl:n<=5000) (A:Nat) (C:zA->Prop) (hC:∀W W',C W->qL W W'->C W')
 (F:Hid (∀i,i<n->∀W:zA,Wd W->C W->zC zF 82 #[.agg #[.string (X i),.string (Y i)],.pointer (some ⟨A,0,none⟩)] W (BolQ W false)))
 (w:zA) (HW:Hid (Wd w)) (HC:Hid (C w)) (HP:Hid (RowTm p n X Y w)):
 qJ 104 #[.slice p n cap,.func (.func 82) #[] #[.pointer (some ⟨A,0,none⟩)]] w (.int .i64 (-1)):=by
 have HCC:=hid hC;clear hC;go_enter Tryz.func104,Tryz.ntmps104;go_wp2;go_loopw [8] (λi wr=>∃(k:Nat),k<=n/\i=.int .i64 (k:Int)/\Hid (qL w wr))
  (λi _=>n-(zL i).toNat)
 case atStart=>exact⟨0,zR _,rfl,zM _ _⟩
 case round=>
  obtain⟨k,hk,rfl,hB⟩:=hrel;by_cases hlt:k<n
  ·obtain⟨b,off,rfl,c0,c1⟩:=(HP.out.keep (zac hB.out)) k hlt
   have HF:=hid (F.out k hlt wr (HW.out.below hB.out) (HCC.out _ _ HC.out hB.out));generalize X k=x at*
   generalize Y k=y at*
   go_wp2_with fail;refine HF.out.mono ?_;rintro e w2 ⟨rfl,hb2⟩;have hB2:=hid (hB.out.trans (hb2.mono hB.out.size));clear hb2 HF;go_wp2_with fail;go_roundw
   case rel=>exact⟨k+1,by omega,by go_num,hB2⟩
   case measure=>simp[zL];omega
  ·have hkn:k=n:=by omega
   go_wp2_with fail;go_ret;exact⟨rfl,hB.out⟩
theorem z7s (p:Option Addr) (cap n A:Nat) (w:zA)
 (F:Hid (qJ 104 #[.slice p n cap,.func (.func 82) #[] #[.pointer (some ⟨A,0,none⟩)]] w (.int .i64 (-1)))):
 zC zF 57 #[.slice p n cap,.func (.func 82) #[] #[.pointer (some ⟨A,0,none⟩)]] w (BolQ w false):=by
 go_enter Tryz.func57,Tryz.ntmps57;go_wp2_with fail;refine F.out.mono ?_;rintro e w1 ⟨rfl,hB⟩;go_wp2_with fail;go_ret;exact⟨rfl,hB⟩
structure BxA (w:zA) (A:Nat) (x y:ByteArray) (W:zA):Prop where
 bel:qL w W
 bx:W.heap[A]? =some (.cells #[.string x,.string y] 66 (0,0))
section
variable {w W W':zA} {A:Nat} {x y:ByteArray}
theorem BxA.next (h:BxA w A x y W) (hb:qL W W'):BxA w A x y W':=
 ⟨h.bel.trans (hb.mono h.bel.size),(hb.block _ (Array.getElem?_eq_some_iff.1 h.bx).1).trans h.bx⟩
theorem BxA.cx (h:BxA w A x y W):W.cell? ⟨A,0,none⟩=some (.string x)/\W.cell? ⟨A,1,none⟩=some (.string y):=by have:=h.bx;simp[World.cell?,this]
end
theorem z2l (p:Option Addr) (cap n:Nat) (X Y:Nat->ByteArray) (hn:n<=16) (hcap:n<=cap)
 (RG:Hid (∀i,i<n->∀W:zA,Wd W->Pw W->qJ 80 #[.agg #[.string (X i),.string (Y i)]] W (.int .i64 0)))
 (CM:Hid (∀i,i+1<n->qK 81 #[.string (Y i),.string (Y (i+1))] (.tuple #[.int .i64 (-1),.int .i64 0])))
 (CT:Hid (∀k A,k<n->∀W:zA,Wd W->RowTm p n X Y W->W.cell? ⟨A,1,none⟩=some (.string (Y k))->zC zF 57 #[.slice p k cap,.func (.func 82) #[] #[.pointer (some ⟨A,0,none⟩)]] W (BolQ W false)))
 (w:zA) (HW:Hid (Wd w)) (HQ:Hid (Pw w)) (HP:Hid (RowTm p n X Y w)):
 qJ 37 #[.slice p n cap] w (.int .i64 0):=by
 have hn16:decide ((16:Int)<(n:Int))=false:=decide_eq_false (by omega);go_enter Tryz.func37,Tryz.ntmps37;go_wp2_with fail;clear hn16;go_loopw [13] (λi wr=>∃(k:Nat),k<=n/\i=.int .i64 (k:Int)/\Hid (qL w wr))
  (λi _=>n-(zL i).toNat)
 case atStart=>exact⟨0,zR _,rfl,zM _ _⟩
 case round=>
  obtain⟨k,hk,rfl,hB⟩:=hrel;by_cases hlt:k<n
  ·have HR:=hid λW (h:qL w W)=>HP.out.keep (zac h)
   obtain⟨b,off,hp,c0,c1⟩:=HR.out wr hB.out k hlt;subst hp;have HRG:=hid (RG.out k hlt);have HCT:=hid λA W hW hr hc=>CT.out k A hlt W hW hr hc;have HY:=hid (show ∀j,j+1=k->(qK 81 #[.string (Y j),.string (Y k)] (.tuple #[.int .i64 (-1),.int .i64 0])) from λj hj=>by subst hj;exact CM.out j hlt);obtain⟨j,hj⟩:∃j,j=k-1:=⟨_,rfl⟩;have HJ:=hid hj;obtain⟨x,hx⟩:∃x,x=X k:=⟨_,rfl⟩;obtain⟨y,hy⟩:∃y,y=Y k:=⟨_,rfl⟩;rw[<-hx,<-hy] at HRG;rw[<-hy] at HCT HY;rw[<-hx] at c0;rw[<-hy] at c1;clear hj hx hy;have HS:Hid (BxA w wr.heap.size x y (wr.alloc (.cells #[.string x,.string y] 66))):=hid (by
    have hal:qL wr (wr.alloc (.cells #[.string x,.string y] 66)):=(zM _ wr).alloc (zN _) _;exact⟨hB.out.trans (hal.mono hB.out.size),zG _ _⟩)
   obtain⟨g0,g1⟩:=HS.out.cx;go_wp2_with fail;clear hB c0 c1 g0 g1;obtain⟨W1,hW1⟩:∃W1,W1=wr.alloc (.cells #[.string x,.string y] 66):=⟨_,rfl⟩;rw[<-hW1] at HS⊢;clear hW1;generalize wr.heap.size=A at*
   refine(HRG.out W1 (HW.out.below HS.out.bel) (HQ.out.below HS.out.bel)).mono ?_;rintro e w2 ⟨rfl,hb2⟩;have HS2:=hid (HS.out.next hb2);clear hb2 HS HRG;by_cases hk0:k=0
   ·have hkb:((k:Int)==0)=true:=by rw[hk0];rfl
    clear hk0;go_wp2_with fail;go_roundw
    case rel=>exact⟨k+1,by omega,by go_num,hid HS2.out.bel⟩
    case measure=>simp[zL];omega
   ·have hkb:((k:Int)==0)=false:=beq_eq_false_iff_ne.2 (by omega)
    have hjk:j+1=k:=by have:=HJ.out;omega
    have HCM:=hid (HY.out j hjk);have hw1:IntKind.i64.wrap ((k:Int)-1)=(j:Int):=by rw[zI _ ⟨by omega,by omega⟩];omega
    have hjn:j<n:=by omega
    have hkc:(k:Int)<=(cap:Int):=by omega
    have HRj:=hid (λW h=>(by
     obtain⟨b',off',e,d0,d1⟩:=HR.out W h j hjn;obtain⟨rfl,rfl⟩:b=b'/\off=off':=by simpa using e
     exact d1):∀W,qL w W->W.cell? ⟨b,off+j*2+1,none⟩=some (.string (Y j)))
    generalize Y j=yj at*
    clear HY hjk hk0;go_wp2_with fail;refine zbl (λ_ W=>BxA w A x y W) (by kernel_rfl) (by kernel_rfl) (HS2.out.next (zM _ _).drew) ?_;refine qR (.slice (some ⟨b,off,none⟩) n cap) ?_;simp only[zzQ];refine qR (.int .i64 (k:Int)) ?_;simp only[zzQ];refine qR (.int .i64 (j:Int)) ?_;simp only[zzQ];refine qR (.pointer (some ⟨b,off+j*2,none⟩)) ?_;simp only[zzQ];refine qR (.pointer (some ⟨b,off+j*2+1,none⟩)) ?_;simp only[zzQ];refine qR (.string yj) ?_ (hy:=λf W' hf h=>by have c0:=HRj.out _ h.bel;go_simp);simp only[zzQ];refine qR (.pointer (some ⟨A,1,none⟩)) ?_;simp only[zzQ];refine qR (.string y) ?_ (hy:=λf W' hf h=>by obtain⟨c0,c1⟩:=h.cx;go_simp);simp only[zzQ]
    refine zar (.tuple #[.int .i64 (-1),.int .i64 0]) (by rfl) (λf W' hf h C' hC'=>by
     go_simp;refine(HCM.out _ (HW.out.below h.bel)).mono ?_;rintro e w' ⟨rfl,hb⟩;exact⟨rfl,hC' _ (h.next hb)⟩) ?_
    try simp only[zzQ]
    refine qR (.tuple #[.int .i64 (-1),.int .i64 0]) ?_;simp only[zzQ];refine qR (.int .i64 (-1)) ?_;simp only[zzQ];refine qR (.int .i64 0) ?_;simp only[zzQ];refine qR (.int .i64 (-1)) ?_;simp only[zzQ];refine qR (.int .i64 0) ?_;simp only[zzQ];refine zck λf W5 hf h5=>?_;have HS5:=hid h5;clear hf h5 HS2 HCM HRj;have HCC:=hid (HCT.out A W5 (HW.out.below HS5.out.bel) (HR.out _ HS5.out.bel) HS5.out.cx.2);clear HCT;go_wp2_with fail;refine HCC.out.mono ?_;rintro e w6 ⟨rfl,hb6⟩;have HS6:=hid (HS5.out.next hb6);clear hb6 HS5 HCC;go_wp2_with fail;go_roundw
    case rel=>exact⟨k+1,by omega,by go_num,hid HS6.out.bel⟩
    case measure=>simp[zL];omega
  ·have hkn:k=n:=by omega
   go_wp2_with fail;go_ret;exact⟨rfl,hB.out⟩
end Go.Proofs.YtheinkfbiedidaaGreatDoor
namespace Go.Proofs.YtheinkfbiedidaaGreatDoor
open Go.RowKit Go.Shelf Lib Str Limb Geo
attribute [local go_sem] Oper.semAt_some
structure NrmR (r:Nat):Prop where
 pos:0<r
 len:(zD r).length<=16
 nc:zn7 r=(1,r)
structure TrmR (c:Rat) (r:Nat):Prop where
 ne:c≠0
 sc:sz c 60
 nr:NrmR r
theorem z8b (c:Rat) (r:Nat) (h:TrmR c r) (w:zA) (hw:Wd w) (hp:Pw w):
 qJ 80 #[.agg #[St (numS c),St (zD r)]] w (.int .i64 0):=by
 have okc:=zd0 (by omega) (by omega) h.sc;have lr:=h.nr.len;have sr:sz (r:Rat) 16:=zrg (by omega) lr;have okr:=zd0 (by omega) (by omega) sr;have dc:=zok (k:=60) (by omega) h.sc;have d1:zD 1=[49]:=by rw[zae (by omega)];rfl
 refine z6v ⟨(numS c).toArray⟩ ⟨(zD r).toArray⟩ _ (max ((zD r).length:Int) (([49]:List UInt8).length:Int)) ?_ ?_ ?_ (hid λW hW=>zfj c okc W hW) (hid λW hW=>?_) (hid λW hW=>znp c okc W hW) (hid λW hW=>?_) (hid ?_) w (hid hw) (hid hp)
 ·rw[ByteArray.toList_eq,beq_eq_false_iff_ne]
  exact λe=>h.ne ((zpy c).1 (by simpa using e))
 ·have:=dc.1;have:=dc.2
  rw[zd9];omega
 ·show ¬(40:Int)<max ((zD r).length:Int) 1
  omega
 ·have:=zfj (r:Rat) okr W hW
  rw[zhe] at this;exact this
 ·have:=znp (r:Rat) okr W hW
  rw[zhe,show(r:Rat).num=(r:Int) from rfl,show(r:Rat).den=1 from rfl,zd9,zd9,d1] at this;exact this
 ·by_cases h1:r=1
  ·left
   rw[h1,ByteArray.toList_eq,d1];rfl
  ·right
   refine⟨zhl (n:=r) rfl 1 (by omega) h1,zhl (n:=r) rfl 0 (by omega) (by have:=h.nr.pos;omega),λW _=>?_,λW _=>?_,λW hW hP=>?_⟩
   ·have:=Tryz.strings_HasPrefix ⟨(zD r).toArray⟩ ⟨#[45]⟩ W
    have e:Lib.hasPrefix (zD r) [45]=false:=by
     have:=zdx (r:Int);rw[Str.zad] at this;rw[this,decide_eq_false (by omega)]
    rw[show(⟨(zD r).toArray⟩:ByteArray).data.toList=zD r from rfl,show(⟨#[45]⟩:ByteArray).data.toList=[45] from rfl,e] at this;refine this.mono ?_;rintro e w' ⟨rfl,rfl⟩;exact⟨rfl,zM _ _⟩
   ·have:=Tryz.strings_Contains_one ⟨(zD r).toArray⟩ 47 W
    have e:decide (0<=Lib.indexByte (zD r) 47)=false:=by
     rw[<-Lib.contains_iff_indexByte];rw[Bool.eq_false_iff];intro k;have hm:=List.contains_iff_mem.1 k;have:=(zan r 47 hm).1;exact absurd this (by decide)
    rw[show(⟨(zD r).toArray⟩:ByteArray).data.toList=zD r from rfl,e] at this;refine this.mono ?_;rintro e w' ⟨rfl,rfl⟩;exact⟨rfl,zM _ _⟩
   ·have:=z4c r h.nr.pos lr W hW hP
    rw[h.nr.nc,d1] at this;exact this
def z5c (p q:Rat):Bool:=decide (isq (p/q).num.natAbs*isq (p/q).num.natAbs=(p/q).num.natAbs)&&decide (isq (p/q).den*isq (p/q).den=(p/q).den)
structure SurdR (n:Nat) (c:Nat->Rat) (r:Nat->Nat):Prop where
 len:n<=16
 trm:∀i,i<n->TrmR (c i) (r i)
 ord:∀i,i+1<n->r i<r (i+1)
 apt:∀i k,i<k->k<n->z5c (r k:Rat) (r i:Rat)=false
theorem zos (p:Option Addr) (cap n:Nat) (c:Nat->Rat) (r:Nat->Nat) (h:SurdR n c r) (hcap:n<=cap) (w:zA) (hw:Wd w) (hq:Pw w) (hp:RowTm p n (λi=>⟨(numS (c i)).toArray⟩) (λi=>⟨(zD (r i)).toArray⟩) w):
 qJ 37 #[.slice p n cap] w (.int .i64 0):=by
 have sr:∀i,i<n->sz (r i:Rat) 16:=λi hi=>zrg (by omega) (h.trm i hi).nr.len;have up:∀i,i<n->sz (r i:Rat) 90:=λi hi=>(sr i hi).mono (by omega);have pos:∀i,i<n->(0:Rat)<(r i:Rat):=λi hi=>by
  have:=(h.trm i hi).nr.pos;exact_mod_cast this
 refine z2l p cap n _ _ h.len hcap (hid λi hi W hW hP=>z8b _ _ (h.trm i hi) W hW hP) (hid λi hi W hW=>?_) (hid λk A hk W hW hr hA=>?_) w (hid hw) (hid hq) (hid hp)
 ·have:=zgq (r i:Rat) (r (i+1):Rat) 16 16 (by omega) (by omega) (by omega) (sr i (by omega)) (sr (i+1) hi) W hW
  rw[zhe,zhe] at this;have e:cmpR (r i:Rat) (r (i+1):Rat)= -1:=by
   have h1:=h.ord i hi;have h2:(r i:Rat)<(r (i+1):Rat):=by exact_mod_cast h1
   have:=zaw (r i:Rat) (r (i+1):Rat);grind
  rw[e] at this;exact this
 ·refine z7s p cap k A W (hid (z7r p cap k _ _ (by have:=h.len;omega) A (λV=>V.cell? ⟨A,1,none⟩=some (.string ⟨(zD (r k)).toArray⟩)) (λV V' hv hb=>(zac hb).cell hv) (hid λi hi V hV hc=>?_) W (hid hW) (hid hA) (hid λi hi=>hr i (by omega))))
  refine z6w _ _ ⟨#[]⟩ false A _ (hid λU hU=>?_) V (hid hV) (hid hc)
  ·have:=zvz (r k:Rat) (r i:Rat) (Rat.le_of_lt (pos k hk)) (pos i (by omega)) (up k hk) (up i (by omega)) _ _ (zv0 _) (zv0 _) U hU
   have e:=h.apt i k hi hk;unfold z5c at e;rw[e,zhe,zhe] at this;exact this
end Go.Proofs.YtheinkfbiedidaaGreatDoor
