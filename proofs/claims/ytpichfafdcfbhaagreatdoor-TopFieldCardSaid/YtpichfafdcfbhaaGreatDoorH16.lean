/- root.Ratio, of numbers that are not negative. -/
import Derived.Test.YtpichfafdcfbhaaGreatDoorH15
set_option maxRecDepth 100000
set_option maxHeartbeats 8000000
open Go renaming World → zA, Calls → zC
open Go.RowKit renaming Below → zB, intOf → zL
open Go.Lib renaming decDigits → zD
open Go.Proofs.Tryz renaming prog → zF
open Go.World renaming alloc_heap_new → zG
open Go.IntWalk renaming i64_in → zI
open Go.Joins renaming cell_of_block → zJ, block_setCell → zK
open Go.RowKit.Below renaming refl → zM
open Nat renaming le_refl → zN, le_trans → zO, zero_le → zR, pos_of_ne_zero → yS
open List renaming getElem?_eq_getElem → yB
namespace Go.Proofs.YtpichfafdcfbhaaGreatDoor
section
open Go.RowKit Go.Shelf Lib Str Limb
attribute [local go_sem] Oper.semAt_some
theorem z40 (W:zA) (t:TypeId) (p q:Rat):
 RowNums (some ⟨W.heap.size,0,none⟩) 2 (λi=>if i=0 then p else q) ((W.alloc (.cells #[St (numS p),St (numS q)] t)).alloc (.cells #[St (numS p),St (numS q)] t))/\
 RowNums (some ⟨W.heap.size+1,0,none⟩) 2 (λi=>if i=0 then p else q) ((W.alloc (.cells #[St (numS p),St (numS q)] t)).alloc (.cells #[St (numS p),St (numS q)] t)):=by
 have A1:=(Below.heap_alloc (W.alloc (.cells #[St (numS p),St (numS q)] t)) (.cells #[St (numS p),St (numS q)] t) W.heap.size (by simp)).trans (zG W (.cells #[St (numS p),St (numS q)] t (0,0)))
 have A2:=zG (W.alloc (.cells #[St (numS p),St (numS q)] t)) (.cells #[St (numS p),St (numS q)] t (0,0))
 rw[World.size_alloc] at A2
 constructor
 ·intro i hi
  refine⟨_,_,rfl,?_⟩
  rw[zJ A1]
  match i,hi with
  |0,_|1,_=>rfl
 ·intro i hi
  refine⟨_,_,rfl,?_⟩
  rw[zJ A2]
  match i,hi with
  |0,_|1,_=>rfl
theorem z6r (x y a u v r:ByteArray) (is:Bool) (hy:(y.toList==[48])=false)
 (CK:Hid (∀W:zA,Wd W->zC zF 146 #[.slice (some ⟨W.heap.size,0,none⟩) 2 2,.slice (some ⟨W.heap.size+1,0,none⟩) 2 2] ((W.alloc (.cells #[.string x,.string y] 22)).alloc (.cells #[.string x,.string y] 22)) λe w'=>e=.returned (.int .i64 0)/\zB W.heap.size W w'))
 (DV:Hid (qK 9 #[.string x,.string y] (.tuple #[.string a,.int .i64 0])))
 (OF:Hid (qK 148 #[.string a] (.agg #[.string u,.string v])))
 (RT:Hid (qK 147 #[.agg #[.string u,.string v]] (.tuple #[.string r,.bool is]))) (w:zA) (HW:Hid (Wd w)):
 qJ 105 #[.string x,.string y] w (.tuple #[.string r,.bool is,.int .i64 0]):=by
 have HC:=hid (CK.out w HW.out);clear CK
 go_enter Tryz.func105,Tryz.ntmps105
 go_wp2_with fail
 refine HC.out.mono ?_
 rintro e w2 ⟨rfl,hb2⟩
 have HB2:=hid hb2;clear hb2 HC
 go_wp2_with fail
 refine(DV.out w2 (HW.out.below HB2.out)).mono ?_
 rintro e w3 ⟨rfl,hb3⟩
 have HB3:=qT HB2 hb3;clear hb3 HB2 DV
 go_wp2_with fail
 refine(OF.out w3 (HW.out.below HB3.out)).mono ?_
 rintro e w4 ⟨rfl,hb4⟩
 have HB4:=qT HB3 hb4;clear hb4 HB3 OF
 go_wp2_with fail
 refine(RT.out w4 (HW.out.below HB4.out)).mono ?_
 rintro e w5 ⟨rfl,hb5⟩
 have HB5:=qT HB4 hb5;clear hb5 HB4 RT
 go_wp2_with fail
 go_ret3
 exact⟨rfl,HB5.out⟩
theorem zvz (p q:Rat) (hp:0<=p) (hq:0<q) (sp:sz p 90) (sq:sz q 90) (sn sd:Nat) (hn:sn*sn<=(p/q).num.natAbs/\(p/q).num.natAbs<(sn+1)*(sn+1)) (hd:sd*sd<=(p/q).den/\(p/q).den<(sd+1)*(sd+1)) (w:zA) (hw:Wd w):
 qJ 105 #[St (numS p),St (numS q)] w (.tuple #[.string (if(decide (sn*sn=(p/q).num.natAbs)&&decide (sd*sd=(p/q).den))=true then⟨(numS ((sn:Rat)/(sd:Rat))).toArray⟩ else⟨#[]⟩),.bool (decide (sn*sn=(p/q).num.natAbs)&&decide (sd*sd=(p/q).den)),.int .i64 0]):=by
 have hq0:q≠0:=by grind
 have hpn:0<=p.num:=Rat.num_nonneg.2 hp
 have hqn:0<=q.num:=Rat.num_nonneg.2 (Rat.le_of_lt hq)
 have h0:0<=p/q:=by rw[Rat.div_def];exact Rat.mul_nonneg hp (Rat.le_of_lt (Rat.inv_pos.2 hq))
 have han:0<=(p/q).num:=Rat.num_nonneg.2 h0
 have okp:=zd0 (by omega) (by omega) sp
 have okq:=zd0 (by omega) (by omega) sq
 have sa:sz (p/q) 180:=z8t hq0 sp sq
 have oka:=zd0 (by omega) (by omega) sa
 have da:=zok (k:=180) (by omega) sa
 have dp:=zok (k:=90) (by omega) sp
 have dq:=zok (k:=90) (by omega) sq
 refine z6r ⟨(numS p).toArray⟩ ⟨(numS q).toArray⟩ ⟨(numS (p/q)).toArray⟩ ⟨(itoa (p/q).num).toArray⟩ ⟨(zD (p/q).den).toArray⟩ _ _ ?_ (hid λW hW=>?_) (hid λW hW=>zoj p q hq0 90 90 (by omega) (by omega) (by omega) sp sq W hW) (hid λW hW=>zio (p/q) oka W hW) (hid λW hW=>?_) w (hid hw)
 ·rw[ByteArray.toList_eq,beq_eq_false_iff_ne]
  exact λh=>hq0 ((zpy q).1 (by simpa using h))
 ·obtain⟨t1,t2⟩:=z40 W 22 p q
  have hal:qL W ((W.alloc (.cells #[St (numS p),St (numS q)] 22)).alloc (.cells #[St (numS p),St (numS q)] 22)):=((zM _ W).alloc (zN _) _).alloc (by simp) _
  refine(zji _ _ 2 2 2 2 _ _ (by omega) (by omega) (hid λi _ W hW=>?_) (hid λi _ W hW=>?_) (hid λi _=>?_) (hid λi _ W=>?_) _ (hid (hW.below hal)) (hid t1) (hid t2)).mono ?_
  ·show zC _ _ #[St (numS (if i=0 then p else q))] _ _
   split
   ·exact zfj p okp W hW
   ·exact zfj q okq W hW
  ·by_cases c:i=0
   ·simp only[c,if_true];exact zio p okp W hW
   ·simp only[c,if_false];exact zio q okq W hW
  ·by_cases c:i=0
   ·simp only[c,if_true];exact dp
   ·simp only[c,if_false];exact dq
  ·by_cases c:i=0
   ·simp only[c,if_true];exact zma p hpn W
   ·simp only[c,if_false];exact zma q hqn W
  ·rintro e w' ⟨rfl,hb⟩
   exact⟨rfl,hal.trans (hb.mono hal.size)⟩
 ·have hi:itoa (p/q).num=zD (p/q).num.natAbs:=by
   have:=Str.zad (p/q).num.natAbs
   rw[Int.natAbs_of_nonneg han] at this
   exact this
  rw[hi]
  exact z6q (p/q).num.natAbs (p/q).den sn sd (p/q).den_pos hn hd (by have:=da.1;unfold digs at this;omega) (by have:=da.2;omega) W hW
theorem z77 (n d:Int) (s t r:List UInt8) (h0:(d==0)=false) (h1:(d==1)=false)
 (C1:Hid (qK 43 #[.int .i64 n] (St s)))
 (C2:Hid (qK 43 #[.int .i64 d] (St t)))
 (C3:Hid (qK 34 #[St s,St t] (.tuple #[St r,.int .i64 0])))
 (w:zA) (HW:Hid (Wd w)):
 qJ 246 #[.int .i64 n,.int .i64 d] w (.tuple #[St r,.int .i64 0]):=by
 go_enter Tryz.func246,Tryz.ntmps246
 go_wp2_with fail
 refine(C1.out _ HW.out).mono ?_
 rintro e w1 ⟨rfl,hb1⟩
 have HB1:=hid hb1;clear hb1
 go_wp2_with fail
 refine(C2.out _ (HW.out.below HB1.out)).mono ?_
 rintro e w2 ⟨rfl,hb2⟩
 have HB2:=qT HB1 hb2;clear hb2
 go_wp2_with fail
 refine(C3.out _ (HW.out.below HB2.out)).mono ?_
 rintro e w3 ⟨rfl,hb3⟩
 have HB3:=qT HB2 hb3;clear hb3
 go_wp2_with fail
 go_ret2
 exact⟨rfl,HB3.out⟩
theorem z7l (n d:Nat) (hd:0<d) (h1:n<1000000000000000000) (h2:d<1000000000000000000) (w:zA) (hw:Wd w):
 qJ 246 #[.int .i64 (n:Int),.int .i64 (d:Int)] w (.tuple #[St (numS ((n:Rat)/(d:Rat))),.int .i64 0]):=by
 have dg:∀k:Nat,k<1000000000000000000->digs (k:Int)<=300:=λk hk=>zO (zhd (k:=18) (by omega) (by rw[Int.natAbs_natCast];omega)) (by omega)
 have e:(n:Rat)/(d:Rat)=Rat.divInt (n:Int) (d:Int):=by rw[Rat.divInt_eq_div];rfl
 by_cases h:d=1
 ·subst h
  have hc:=zb3 (n:Int) (by omega) (by omega) w hw
  have e1:numS ((n:Rat)/((1:Nat):Rat))=itoa (n:Int):=by
   rw[show(n:Rat)/((1:Nat):Rat)=(n:Rat) by grind,zhe,Str.zad]
  rw[e1]
  generalize itoa (n:Int)=z at*
  have HC:=hid hc;clear hc dg e e1
  show zC _ _ #[.int .i64 (n:Int),.int .i64 1] _ _
  clear h1 h2 hd
  go_enter Tryz.func246,Tryz.ntmps246
  go_wp2_with fail
  refine HC.out.mono ?_
  rintro e w1 ⟨rfl,hb⟩
  go_wp2_with fail
  go_ret2
  exact⟨rfl,hb⟩
 ·rw[e]
  exact z77 _ _ (itoa n) (itoa (d:Int)) _ (by rw[beq_eq_false_iff_ne];omega) (by rw[beq_eq_false_iff_ne];omega) (hid λW hW=>zb3 _ (by omega) (by omega) W hW) (hid λW hW=>zb3 _ (by omega) (by omega) W hW)
   (hid λW hW=>zfa _ _ (by omega) (dg _ h1) (dg _ h2) W hW) w (hid hw)
def zrn (n:Nat):Nat->Nat
 |0=>0
 |k+1=>if(k+1)*(k+1)<=n then k+1 else zrn n k
def isq (n:Nat):Nat:=zrn n n
theorem zyh (n:Nat):∀k,n<(k+1)*(k+1)->zrn n k*zrn n k<=n/\n<(zrn n k+1)*(zrn n k+1)
 |0,h=>⟨zR _,h⟩
 |k+1,h=>by
  unfold zrn
  split
  ·exact⟨‹_›,h⟩
  ·exact zyh n k (by omega)
theorem zv0 (n:Nat):isq n*isq n<=n/\n<(isq n+1)*(isq n+1):=zyh n n (by
 have:=Nat.le_mul_self (n+1);omega)
def zlu (p:Nat):Nat->Nat×Nat->Nat×Nat
 |0,x=>x
 |f+1,x=>if p*p∣x.2 then zlu p f (x.1*p,x.2/(p*p)) else x
def zkk (p:Nat) (x:Nat×Nat):Nat×Nat:=zlu p x.2 x
theorem zyi {p:Nat} (hp:2<=p):∀(f:Nat) (x:Nat×Nat),0<x.2->x.2<=f->zlu p (f+1) x=zlu p f x
 |0,x,h,k=>by omega
 |f+1,x,h,k=>by
  have hpp:4<=p*p:=Nat.mul_le_mul hp hp
  rw[zlu]
  conv=>rhs;rw[zlu]
  by_cases c:p*p∣x.2
  ·rw[if_pos c,if_pos c]
   have h1:0<x.2/(p*p):=Nat.div_pos (Nat.le_of_dvd h c) (by omega)
   have h2:x.2/(p*p)<x.2:=Nat.div_lt_self h (by omega)
   exact zyi hp f _ h1 (by show x.2/(p*p)<=f;omega)
  ·rw[if_neg c,if_neg c]
theorem zyj {p:Nat} (hp:2<=p) (x:Nat×Nat) (h:0<x.2):∀d,zlu p (x.2+d) x=zlu p x.2 x
 |0=>rfl
 |d+1=>by rw[<-Nat.add_assoc,zyi hp _ x h (by omega),zyj hp x h d]
theorem z78 {p c l:Nat} (h:¬p*p∣l):zkk p (c,l)=(c,l):=by
 unfold zkk
 cases l with
 |zero=>rfl
 |succ l=>show zlu p (l+1) _=_;rw[zlu,if_neg h]
theorem z7m {p c l:Nat} (hp:2<=p) (hl:0<l) (h:p*p∣l):zkk p (c,l)=zkk p (c*p,l/(p*p)):=by
 have hpp:4<=p*p:=Nat.mul_le_mul hp hp
 have h1:0<l/(p*p):=Nat.div_pos (Nat.le_of_dvd hl h) (by omega)
 have h2:l/(p*p)<l:=Nat.div_lt_self hl (by omega)
 unfold zkk
 show zlu p l (c,l)=zlu p (l/(p*p)) (c*p,l/(p*p))
 obtain⟨m,rfl⟩:∃m,l=m+1:=⟨l-1,by omega⟩
 rw[zlu,if_pos h]
 obtain⟨d,hd⟩:∃d,m=(m+1)/(p*p)+d:=⟨m-(m+1)/(p*p),by omega⟩
 have:=zyj hp (c*p,(m+1)/(p*p)) h1 d
 exact(congrArg (λf=>zlu p f (c*p,(m+1)/(p*p))) hd).trans this
def zro (l:List Nat) (x:Nat×Nat):Nat×Nat:=l.foldl (λx p=>zkk p x) x
def zn7 (N:Nat):Nat×Nat:=
 let x:=zro prL (1,N)
 if isq x.2*isq x.2=x.2 then(x.1*isq x.2,1) else x
structure NrmS (N k:Nat) (x:Nat×Nat):Prop where
 out:zro (prL.drop k) x=zro prL (1,N)
structure NcS (N C L:Nat):Prop where
 out:zn7 N=(C,L)
theorem NrmS.start (N:Nat):NrmS N 0 (1,N):=⟨rfl⟩
theorem z79 (k:Nat) (hk:k<25):prL.drop k=prN k::prL.drop (k+1):=by
 have h:k<prL.length:=hk
 rw[List.drop_eq_getElem_cons h]
 congr 1
 unfold prN
 rw[List.getD_eq_getElem?_getD,yB h];rfl
theorem NrmS.enter {N k p c l:Nat} (h:NrmS N k (c,l)) (hk:k<25) (hp:p=prN k):NrmS N (k+1) (zkk p (c,l)):=⟨by
 rw[<-h.out,z79 k hk,hp];rfl⟩
theorem NrmS.yes {N k p c l:Nat} (h:NrmS N k (zkk p (c,l))) (hp:2<=p) (hl:0<l) (hd:p*p∣l):NrmS N k (zkk p (c*p,l/(p*p))):=by rw[<-z7m hp hl hd];exact h
theorem NrmS.no {N k p c l:Nat} (h:NrmS N k (zkk p (c,l))) (hd:¬p*p∣l):NrmS N k (c,l):=by rw[z78 hd] at h;exact h
theorem NrmS.done {N c l:Nat} (h:NrmS N 25 (c,l)):zro prL (1,N)=(c,l):=h.out.symm
theorem zv1 (n d N C L:Nat) (HCL:NcS N C L) (hN0:0<N) (hd0:0<d) (HN:Hid (n*d=N)) (HN9:Hid (N<1000000000000000000/\d<1000000000000000000))
 (AT:Hid (∀i,i<25->∀W:zA,qJ 83 #[St (prS i)] W (.tuple #[I (prN i),.nilIface])))
 (w:zA) (HW:Hid (Wd w)) (HP:Hid (Pw w)):
 qJ 200 #[.int .i64 (n:Int),.int .i64 (d:Int)] w (.tuple #[St (numS ((C:Rat)/(d:Rat))),St (zD L)]):=by
 obtain⟨tt,fz,hblk⟩:=HP.out.block
 have hwm:IntKind.i64.wrap ((n:Int)*(d:Int))=N:=by rw[<-Int.natCast_mul,HN.out];exact zI _ (by have:=HN9.out;omega)
 go_enter Tryz.func200,Tryz.ntmps200
 go_wp2_with (refine wpList_load_row rfl 267 (.global 4) rfl 4 rfl tt prV fz (.array 25 9) hblk (by kernel_rfl) rfl (by kernel_rfl) ?_)
 have hB0:=zM w.heap.size w
 go_loopw [6,7,19] (λc lf i wr=>∃k cN lN:Nat,k<=25/\c=I cN/\lf=I lN/\i=.int .i64 (k:Int)/\Hid (cN*cN*lN=N)/\Hid (NrmS N k (cN,lN))/\Hid (qL w wr))
  (λ_ _ i _=>25-(zL i).toNat)
 case atStart=>exact⟨0,1,N,by omega,rfl,rfl,rfl,hid (by omega),hid (NrmS.start N),hid hB0⟩
 case round=>
  clear hB0 hwm hblk
  obtain⟨k,cN,lN,hk,rfl,rfl,rfl,hE,hD,hB⟩:=hrel
  by_cases hlt:k<25
  ·have hx:=λw=>z25 k hlt w
   obtain⟨g1,g2⟩:=zw4 k hlt
   have hat:=hid (AT.out k hlt)
   obtain⟨p,hp⟩:∃p,p=prN k:=⟨_,rfl⟩
   rw[<-hp] at g1 g2 hat
   have HPk:=hid hp;clear hp
   generalize prS k=y at*
   have hwp:IntKind.i64.wrap ((p:Int)*(p:Int))=((p*p:Nat):Int):=by
    have:p*p<=97*97:=Nat.mul_le_mul g2 g2
    rw[<-Int.natCast_mul];exact zI _ (by omega)
   have hpp:4<=p*p:=Nat.mul_le_mul g1 g1
   obtain⟨pp,hpp2⟩:∃pp,pp=p*p:=⟨_,rfl⟩
   rw[<-hpp2] at hwp hpp
   have HPP:=hid hpp2;clear hpp2
   go_wp2_with fail
   refine(hat.out wr).mono ?_
   rintro e w2 ⟨rfl,hb2⟩
   have hB2:=hid (hB.out.trans (hb2.mono hB.out.size));clear hb2 hB hx hat
   go_wp2_with fail
   go_loopw [6,7] (λc lf wr=>∃cN lN:Nat,c=I cN/\lf=I lN/\Hid (cN*cN*lN=N)/\Hid (NrmS N (k+1) (zkk p (cN,lN)))/\Hid (qL w wr))
    (λ_ lf _=>(zL lf).toNat)
   case atStart=>exact⟨cN,lN,rfl,rfl,hE,hid (hD.out.enter hlt HPk.out),hB2⟩
   case round=>
    clear hE hD hB2
    obtain⟨cN,lN,rfl,rfl,hE,hD,hB⟩:=hrel
    have hl0:0<lN:=yS (λh=>by have:=hE.out;rw[h] at this;simp at this;omega)
    have hpp0:¬pp=0:=by omega
    have hle:lN<=N:=by rw[<-hE.out];exact Nat.le_mul_of_pos_left _ (yS (λh=>by have:=hE.out;rw[h] at this;simp at this;omega))
    have hmod:(lN:Int).tmod (pp:Int)=((lN%pp:Nat):Int):=rfl
    have hdiv:(lN:Int).tdiv (pp:Int)=((lN/pp:Nat):Int):=rfl
    have hwz:∀z:Nat,z<=lN->IntKind.i64.wrap (z:Int)=(z:Int):=λz hz=>zI _ (by have:=HN9.out;omega)
    have hwm:=hwz _ (Nat.mod_le lN pp)
    have hwd:=hwz _ (Nat.div_le_self lN pp)
    have hwq:IntKind.i64.wrap ((lN:Int)/(pp:Int))=((lN/pp:Nat):Int):=by rw[<-Int.natCast_ediv];exact hwd
    have HWQ:=hid hwq
    clear hwz hwq
    by_cases hd:pp∣lN
    ·have hm0:(((lN%pp:Nat):Int)==0)=true:=by rw[Nat.mod_eq_zero_of_dvd hd];rfl
     have hnext:=z1s (c:=cN) (l:=lN) (p:=p) (by rw[<-HPP.out];exact hd)
     rw[<-HPP.out,hE.out] at hnext
     have hl1:0<lN/pp:=yS (λh=>by rw[h] at hnext;simp at hnext;omega)
     have hcp:cN*p<=N:=by
      rw[<-hnext]
      exact zO (Nat.le_mul_self _) (Nat.le_mul_of_pos_right _ hl1)
     have hwc:IntKind.i64.wrap ((cN:Int)*(p:Int))=((cN*p:Nat):Int):=by rw[<-Int.natCast_mul];exact zI _ (by have:=HN9.out;omega)
     have hlt2:lN/pp<lN:=Nat.div_lt_self hl0 (by omega)
     have hkeep:NrmS N (k+1) (zkk p (cN*p,lN/pp)):=by rw[HPP.out];exact hD.out.yes g1 hl0 (by rw[<-HPP.out];exact hd)
     have HNX:=hid hnext;have HK:=hid hkeep;have HL:=hid hlt2
     clear hnext hkeep hd hlt2 hl1 hcp
     go_wp2
     (refine wp_region_quiet_lit (by kernel_rfl) (by kernel_rfl) (WQ.out ?_);(repeat(first|(apply WQ.read (by rfl);(focus(rintro W ⟨n,rfl⟩;go_simp;try with_reducible rfl));try simp only[zzQ])|(apply WQ.skip (by rfl);try simp only[zzQ])));refine WQ.nil ?_;rintro _ ⟨nq,rfl⟩)
     go_wp2
     go_roundw
     case rel=>exact⟨cN*p,lN/pp,by first|rfl|simp,by first|(rw[HWQ.out])|rfl|simp,HNX,HK,hid (zao hB.out _)⟩
     case measure=>
      rw[HWQ.out]
      show(lN/pp:Nat)<lN
      exact HL.out
    ·have hm0:(((lN%pp:Nat):Int)==0)=false:=by
      rw[beq_eq_false_iff_ne];intro h;exact hd (Nat.dvd_of_mod_eq_zero (by omega))
     have hkeep:NrmS N (k+1) (cN,lN):=hD.out.no (by rw[<-HPP.out];exact hd)
     have HK:=hid hkeep;clear hkeep hd
     go_wp2
     go_roundw
     case rel=>exact⟨k+1,cN,lN,by omega,rfl,rfl,by go_num,hE,HK,hB⟩
     case measure=>simp[zL];omega
  ·have hk25:k=25:=by omega
   have hc0:0<cN:=yS (λh=>by have:=hE.out;rw[h] at this;simp at this;omega)
   have hl0:0<lN:=yS (λh=>by have:=hE.out;rw[h] at this;simp at this;omega)
   have hle:lN<=N:=by rw[<-hE.out];exact Nat.le_mul_of_pos_left _ (Nat.mul_pos hc0 hc0)
   have hce:cN<=N:=by rw[<-hE.out];exact zO (Nat.le_mul_self _) (Nat.le_mul_of_pos_right _ hl0)
   have hsq0:=zv0 lN
   have HNC:=hid (show(C,L)=if isq lN*isq lN=lN then(cN*isq lN,1) else(cN,lN) by
    have hd:=hD.out
    rw[hk25] at hd
    have hd2:=hd.done
    rw[<-HCL.out];unfold zn7;rw[hd2])
   generalize isq lN=s at*
   obtain⟨hs1,hs2⟩:=hsq0
   have HSQ:=hid (⟨hs1,hs2⟩:s*s<=lN/\lN<(s+1)*(s+1))
   have hwss:IntKind.i64.wrap ((s:Int)*(s:Int))=((s*s:Nat):Int):=by rw[<-Int.natCast_mul];exact zI _ (by have:=HN9.out;omega)
   have HRT:=hid (ztm lN s (by have:=HN9.out;omega) ⟨hs1,hs2⟩ wr)
   have HLL:=hid (⟨hle,hce,hc0⟩:_/\_/\_)
   clear hk25 hD HCL AT hs1 hs2 hle hce hl0 hc0
   obtain⟨ss,hss⟩:∃ss,ss=s*s:=⟨_,rfl⟩
   rw[<-hss] at hwss
   have HSS:=hid hss
   clear hss
   go_wp2_with fail
   refine HRT.out.mono ?_
   rintro e w2 ⟨rfl,hw1⟩
   have hw2:=hw1.symm;subst hw2;clear hw1 HRT
   by_cases hsq:ss=lN
   ·have hsq1:((ss:Int)==(lN:Int))=true:=by rw[hsq];simp
    have hcs:cN*s<=N:=by
     have h1:=hE.out
     rw[<-hsq,HSS.out] at h1
     have h2:(cN*s)*(cN*s)=N:=by rw[<-h1];simp only[Nat.mul_comm,Nat.mul_left_comm]
     rw[<-h2];exact Nat.le_mul_self _
    have hwcs:IntKind.i64.wrap ((cN:Int)*(s:Int))=((cN*s:Nat):Int):=by rw[<-Int.natCast_mul];exact zI _ (by have:=HN9.out;omega)
    have HE:=hid (show C=cN*s/\L=1 by have:=HNC.out;rw[if_pos (by rw[<-HSS.out];exact hsq)] at this;exact Prod.mk.inj this)
    have HX:=hid (show(cN*s)*(cN*s)*1=N by
     have h1:=hE.out
     rw[<-hsq,HSS.out] at h1
     rw[Nat.mul_one,<-h1];simp only[Nat.mul_comm,Nat.mul_left_comm])
    have HOF:=hid (λW hW=>z7l (cN*s) d hd0 (by have:=HN9.out;omega) HN9.out.2 W hW)
    clear hsq hcs hE HX HNC
    generalize cN*s=cs at*
    go_wp2_with fail
    refine(HOF.out wr (HW.out.below hB.out)).mono ?_
    rintro e w3 ⟨rfl,hb3⟩
    have hB3:=hB.out.trans (hb3.mono hB.out.size)
    go_wp2_with fail
    have hit:=zb3 1 (by omega) (by omega) w3 (HW.out.below hB3)
    rw[show Lib.itoa 1=zD 1 from by show Lib.itoa ((1:Nat):Int)=_;rw[Str.zad]] at hit
    refine hit.mono ?_
    rintro e w4 ⟨rfl,hb4⟩
    have hB4:=hB3.trans (hb4.mono hB3.size)
    clear hit hb3 hb4
    go_wp2_with fail
    go_ret2
    exact⟨by rw[HE.out.1,HE.out.2]<;>rfl,hB4⟩
   ·have hsq1:((ss:Int)==(lN:Int))=false:=beq_eq_false_iff_ne.2 (by omega)
    have HNL:=hid (show C=cN/\L=lN by have:=HNC.out;rw[if_neg (by rw[<-HSS.out];exact hsq)] at this;exact Prod.mk.inj this)
    have HOF:=hid (λW hW=>z7l cN d hd0 (by have:=HN9.out;have:=HLL.out;omega) HN9.out.2 W hW)
    have HIT:=hid (λW hW=>zb3 (lN:Int) (by omega) (by have:=HN9.out;have:=HLL.out;omega) W hW)
    clear hsq HNC
    go_wp2_with fail
    refine(HOF.out wr (HW.out.below hB.out)).mono ?_
    rintro e w3 ⟨rfl,hb3⟩
    have hB3:=hB.out.trans (hb3.mono hB.out.size)
    go_wp2_with fail
    refine(HIT.out w3 (HW.out.below hB3)).mono ?_
    rintro e w4 ⟨rfl,hb4⟩
    have hB4:=hB3.trans (hb4.mono hB3.size)
    clear hb3 hb4
    go_wp2_with fail
    go_ret2
    exact⟨by rw[HNL.out.1,HNL.out.2,Str.zad]<;>rfl,hB4⟩
theorem z4c (r:Nat) (hr:0<r) (hl:(zD r).length<=16) (w:zA) (hw:Wd w) (hp:Pw w):
 qJ 145 #[St (zD r)] w (.tuple #[St (zD (zn7 r).1),St (zD (zn7 r).2),.int .i64 0]):=by
 have sz:∀k:List UInt8,(⟨k.toArray⟩:ByteArray).size=k.length:=λk=>by show k.toArray.size=_;simp
 have hr16:r<10000000000000000:=(zaf r 16 (by omega)).1 hl
 have d1:zD 1=[49]:=by rw[zae (by omega)];rfl
 have hq:=zc5 r
 have hnum:(((r:Nat):Int):Rat).num=((r:Nat):Int):=rfl
 have hden:(((r:Nat):Int):Rat).den=1:=rfl
 generalize hqq:(((r:Nat):Int):Rat)=q at*
 have hdig:digs q.num<=16:=by rw[hnum,zd9];exact hl
 have hdl:(zD q.den).length=1:=by rw[hden,d1];rfl
 have hok:okQ q:=⟨by omega,by omega⟩
 obtain⟨C,hC⟩:∃C,C=(zn7 r).1:=⟨_,rfl⟩
 obtain⟨L,hL⟩:∃L,L=(zn7 r).2:=⟨_,rfl⟩
 rw[<-hC,<-hL]
 refine zti ⟨(zD r).toArray⟩ ⟨(zD r).toArray⟩ ⟨#[49]⟩ ⟨(zD C).toArray⟩ ⟨(zD L).toArray⟩ (r:Int) 1 ?_ ?_ ?_ (hid λW hW=>?_) (hid λW hW=>?_) (hid λW hW=>?_) (hid λW hW=>?_) (hid λW hW hP=>?_) w (hid hw) (hid hp)
 ·exact zhl (n:=r) rfl 0 (by omega) (by omega)
 ·rw[sz];show((zD r).length:Int)+1<=17;omega
 ·rw[sz];exact⟨by omega,by decide⟩
 ·obtain⟨t1,t2⟩:=z0b W 22 _ q hq
  have hal:qL W ((W.alloc (.cells #[St (zD r)] 22)).alloc (.cells #[St (zD r)] 22)):=((zM _ W).alloc (zN _) _).alloc (by simp) _
  refine(zji _ _ 1 1 1 1 (λ_=>q) (λ_=>q) (by omega) (by omega) (hid λ_ _ W hW=>zfj q hok W hW) (hid λ_ _ W hW=>zio q hok W hW) (hid λ_ _=>⟨by omega,by omega⟩)
   (hid λ_ _ W=>zma q (by rw[hnum];omega) W) _ (hid (hW.below hal)) (hid t1) (hid t2)).mono ?_
  rintro e w' ⟨rfl,hb⟩
  exact⟨rfl,hal.trans (hb.mono hal.size)⟩
 ·have:=zio q hok W hW
  rw[hq,hnum,hden,Str.zad,d1] at this
  exact this
 ·have:=zk7 r (by omega) W hW
  exact this
 ·have:=zk7 1 (by rw[d1];decide) W hW
  rw[d1] at this
  exact this
 ·have:=zv1 r 1 r C L ⟨by rw[hC,hL]⟩ hr (by omega) (hid (Nat.mul_one r)) (hid ⟨by omega,by omega⟩) (hid λi hi W=>by
   have h9:=zw4 i hi
   have h2:=zki (n:=prN i) (k:=2) (by omega) (by omega)
   have:=znc (prN i:Int) (by rw[Str.zad];omega) W
   rw[Str.zad] at this
   rw[z1r i hi]
   exact this) W (hid hW) (hid hP)
  rw[show(C:Rat)/((1:Nat):Rat)=(C:Rat) by grind,zhe] at this
  exact this
theorem zln:zn7 1=(1,1)/\zn7 2=(1,2)/\zn7 4=(2,1):=by decide+kernel
end
section
open Go.RowKit Go.Shelf Lib Str Limb Geo
attribute [local go_sem] Oper.semAt_some
def ze5 (l:List Pt) (q:Pt) (k:Nat):Prop:=
 (cmpR (cor l k).y q.y<=0/\0<cmpR (cor l (k+1)).y q.y/\0<turn (cor l k) (cor l (k+1)) q)\/(cmpR (cor l (k+1)).y q.y<=0/\0<cmpR (cor l k).y q.y/\turn (cor l k) (cor l (k+1)) q<0)
instance (l:List Pt) (q:Pt) (k:Nat):Decidable (ze5 l q k):=by unfold ze5;infer_instance
end
section
open Go.RowKit Go.Shelf Lib Str Limb
attribute [local go_sem] Oper.semAt_some
end
section
open Go.RowKit Go.Shelf Lib Str Limb
end
section
open Go.RowKit Go.Shelf Lib Str Limb
attribute [local go_sem] Oper.semAt_some
theorem zvq (v f:Value) (w:zA):
 zC zF 207 #[v,.int .i64 0,.int .i64 1,f] w λe w'=>(∃u,e=.returned u)/\w'=w:=by
 go_enter Tryz.func207,Tryz.ntmps207
 go_wp2_with fail
 refine wp_loop_rounds 1 ?_
 rw[rounds_succ]
 go_wp2_with fail
 go_end0
 exact⟨⟨_,rfl⟩,rfl⟩
theorem z2d (v f:Value) (n:Int) (w:zA):
 zC zF 153 #[v,.int .i64 0,.int .i64 1,.int .i64 n,f] w λe w'=>(∃u,e=.returned u)/\w'=w:=by
 go_enter Tryz.func153,Tryz.ntmps153
 go_wp2_with fail
 refine wp_loop_rounds 1 ?_
 rw[rounds_succ]
 go_wp2_with fail
 refine(zvq v f w).mono ?_
 rintro e w' ⟨⟨u,rfl⟩,rfl⟩
 go_wp2_with fail
 refine bodyPost_ret (results_none rfl _ _ _) rfl ?_
 exact⟨⟨_,rfl⟩,rfl⟩
theorem z0d (p:Option Addr) (cap:Nat) (f:Value) (w:zA):
 zC zF 110 #[.slice p 1 cap,f] w λe w'=>(∃u,e=.returned u)/\w'=w:=by
 have hl:=Tryz.bits_Len 1 w (by omega) (by omega)
 have HL:=hid hl;clear hl
 go_enter Tryz.func110,Tryz.ntmps110
 go_wp2_with fail
 refine HL.out.mono ?_
 rintro e w' ⟨rfl,rfl⟩
 go_wp2_with fail
 refine(z2d _ f _ _).mono ?_
 rintro e w'' ⟨⟨u,rfl⟩,rfl⟩
 go_wp2_with fail
 go_end0
 exact⟨⟨_,rfl⟩,rfl⟩
theorem zsc:(Tryz.prog.info? 51).map (λi=>(i.zero,i.size,i.bytes))=some (some (.agg #[St [],St []]),2,32):=by kernel_rfl
theorem zoq (W:zA) (x y:Value) (t:TypeId):∀i u,[x,y][i]? =some u->(W.alloc (.cells #[x,y] t)).cell? ((⟨W.heap.size,0,none⟩:Addr).add i)=some u:=λi u hu=>by
 have A:=zG W (.cells #[x,y] t)
 have:((⟨W.heap.size,0,none⟩:Addr).add i)=⟨W.heap.size,i,none⟩:=by simp only[Addr.add,Nat.zero_add];split<;>simp_all
 rw[this,zJ A]
 match i,hu with
 |0,hu=>exact hu
 |1,hu=>exact hu
theorem zm4 (x y:List UInt8):∀u∈[St x,St y],u.oneCell'=true:=λu hu=>by
 simp at hu;rcases hu with rfl|rfl<;>rfl
end
section
open Go.RowKit Go.Shelf Lib Str Limb Geo
attribute [local go_sem] Oper.semAt_some
theorem zye {w:zA} {base:Nat} {t:TypeId} {s:Nat} {v:Value} {n:Nat} {xs:List Value} (h:w.ownsRow base t s v n xs) (hn:0<n):
 ∃g c,v=.slice (some ⟨g,0,none⟩) n c/\base<=g/\∀i u,xs[i]? =some u->w.cell? ⟨g,i,none⟩=some u:=by
 rcases h.2 with⟨_,e⟩|⟨g,cp,cur,e,hg1,hg2,_,_,hcs,htk⟩
 ·omega
 ·refine⟨g,cp,e,hg1,λi u hu=>?_⟩
  rw[zJ hg2,<-Array.getElem?_toList]
  rw[<-htk,List.getElem?_take] at hu
  split at hu
  ·exact hu
  ·cases hu
end
section
open Go.RowKit Go.Shelf Lib Str Limb
attribute [local go_sem] Oper.semAt_some
def zbj:List (List UInt8×List UInt8)->List Value
 |[]=>[]
 |c::l=>St c.1::St c.2::zbj l
theorem zn8:∀l,(zbj l).length=l.length*2
 |[]=>rfl
 |c::l=>by simp[zbj,zn8 l];omega
theorem zjb:∀l r,zbj (l++r)=zbj l++zbj r
 |[],_=>rfl
 |c::l,r=>by simp[zbj,zjb l r]
theorem zpb:∀(l:List (List UInt8×List UInt8)) (i:Nat) (c:List UInt8×List UInt8),l[i]? =some c->(zbj l)[i*2]? =some (St c.1)/\(zbj l)[i*2+1]? =some (St c.2)
 |c::l,0,d,h=>by simp at h;subst h;exact⟨rfl,rfl⟩
 |c::l,i+1,d,h=>by
  have:=zpb l i d (by simpa using h)
  rw[show(i+1)*2=i*2+1+1 by omega]
  exact this
structure GatL (gb:Nat) (l:List (List UInt8×List UInt8)) (W:zA):Prop where
 cls:∃v,W.cell? ⟨gb,0,none⟩=some v/\W.ownsRow (gb+1) 150 2 v l.length (zbj l)
 fr:W.frozen? ⟨gb,0,none⟩=false
theorem GatL.keep {gb:Nat} {l:List (List UInt8×List UInt8)} {W W':zA} (h:GatL gb l W) (hc:CellsKept W W'):GatL gb l W':=
 let ⟨v,h1,h2⟩:=h.cls
 ⟨⟨v,hc.cell h1,zcj hc h2⟩,hc.frozen h1 h.fr⟩
def RowCl (p:Option Addr) (l:List (List UInt8×List UInt8)) (W:zA):Prop:=∀i c,l[i]? =some c->∃g,p=some ⟨g,0,none⟩/\W.cell? ⟨g,i*2,none⟩=some (St c.1)/\W.cell? ⟨g,i*2+1,none⟩=some (St c.2)
theorem RowCl.keep {p:Option Addr} {l:List (List UInt8×List UInt8)} {W W':zA} (h:RowCl p l W) (hc:CellsKept W W'):RowCl p l W':=λi c hi=>let ⟨g,e,h1,h2⟩:=h i c hi;⟨g,e,hc.cell h1,hc.cell h2⟩
theorem GatL.row {gb:Nat} {l:List (List UInt8×List UInt8)} {W:zA} (h:GatL gb l W):∃p cap,W.cell? ⟨gb,0,none⟩=some (.slice p l.length cap)/\W.ownsRow (gb+1) 150 2 (.slice p l.length cap) l.length (zbj l)/\RowCl p l W:=by
 obtain⟨v,h1,h2⟩:=h.cls
 rcases Nat.eq_zero_or_pos l.length with e|e
 ·rcases h2.2 with⟨rfl,e1⟩|⟨g,cp,cur,rfl,_⟩
  ·refine⟨none,0,by rw[e];exact h1,by rw[e] at h2⊢;exact h2,λi c hi=>?_⟩
   rw[List.length_eq_zero_iff.1 e] at hi;simp at hi
  ·refine⟨_,cp,h1,h2,λi c hi=>?_⟩
   rw[List.length_eq_zero_iff.1 e] at hi;simp at hi
 ·obtain⟨g,c,rfl, -,hx⟩:=zye h2 e
  refine⟨_,c,h1,h2,λi d hi=>⟨g,rfl,?_,?_⟩⟩
  ·exact hx _ _ (zpb l i d hi).1
  ·exact hx _ _ (zpb l i d hi).2
structure AdnS (W:zA) (x xr:List UInt8) (l:List (List UInt8×List UInt8)) (n:Nat) (v0:Value) (gb:Nat) (b:Nat×Value) (f:Nat->Bool) (X:zA):Prop where
 pre:f 11=false->qL W X
 new:f 11=false->f 10=true->X.cell? ⟨b.1,0,none⟩=some (St x)/\X.cell? ⟨b.1,1,none⟩=some (St xr)
 post:f 11=true->∃Y Z,qL W Y/\Y.grownBy Z v0.ownBlock/\Z.ownsRow (gb+1) 150 2 b.2 (n+1) (zbj l++[St x,St xr])/\X=if f 14=true then Z.setCell ⟨gb,0,none⟩ b.2 else Z
theorem AdnS.congr {W:zA} {x xr:List UInt8} {l:List (List UInt8×List UInt8)} {n:Nat} {v0:Value} {gb:Nat} {b:Nat×Value} {f g:Nat->Bool} {X:zA} (h:AdnS W x xr l n v0 gb b f X) (e10:g 10=f 10) (e11:g 11=f 11) (e14:g 14=f 14):AdnS W x xr l n v0 gb b g X:=
 ⟨by rw[e11];exact h.pre,by rw[e10,e11];exact h.new,by rw[e11,e14];exact h.post⟩
theorem zot (gb:Nat) (l:List (List UInt8×List UInt8)) (x xr:List UInt8) (hl:l.length<=5000)
 (R:Hid (∀(i:Nat) (c:List UInt8×List UInt8),l[i]? =some c->∃k,qK 105 #[St xr,St c.2] (.tuple #[.string k,.bool false,.int .i64 0])))
 (w:zA) (HW:Hid (Wd w)) (HG:Hid (GatL gb l w)):
 zC zF 108 #[.pointer (some ⟨gb,0,none⟩),.agg #[St x,St xr]] w λe w'=>e=.returned (.int .i64 0)/\zB gb w w'/\GatL gb (l++[(x,xr)]) w':=by
 obtain⟨i0,hi,hz0,hz1,hz2⟩:=info_parts zx5
 obtain⟨p,cap,g0,o0,r0⟩:=HG.out.row
 have hlt:=zbe g0
 obtain⟨W1,hW1⟩:∃W1,W1=w.alloc (.cells #[St x,St xr] 51):=⟨_,rfl⟩
 have hb1:qL w W1:=by rw[hW1];exact(zM _ w).alloc (zN _) _
 have A1:W1.heap[w.heap.size]? =some (.cells #[St x,St xr] 51 (0,0)):=by rw[hW1];exact zG w _
 have c0:=zai hb1 g0
 rw[hW1] at c0
 have HW1:=hid hW1.symm
 have HB1:=hid hb1
 have HA1:=hid A1
 have HR0:=hid r0;have HO:=hid o0;have HG0:=hid g0
 obtain⟨n,hn⟩:∃n,n=l.length:=⟨_,rfl⟩
 rw[<-hn] at c0 hl HO HG0
 have HN:=hid hn
 clear hW1 hb1 A1 r0 o0 g0 hn
 go_enter Tryz.func108,Tryz.ntmps108
 go_wp2_with fail
 rw[HW1.out]
 clear c0 HW1
 go_loopw [19] (λi wr=>∃(k:Nat),k<=n/\i=.int .i64 (k:Int)/\Hid (qL w wr)/\Hid (wr.heap[w.heap.size]? =some (.cells #[St x,St xr] 51 (0,0))))
  (λi _=>n-(zL i).toNat)
 case atStart=>exact⟨0,zR _,rfl,HB1,HA1⟩
 case round=>
  obtain⟨k,hk,rfl,hB,hT⟩:=hrel
  by_cases hlt:k<n
  ·obtain⟨c,hc⟩:∃c,l[k]? =some c:=⟨_,yB (by rw[<-HN.out];exact hlt)⟩
   obtain⟨g,rfl,c0,c1⟩:=(HR0.out.keep (zac hB.out)) k c hc
   obtain⟨q,hR⟩:=R.out k c hc
   obtain⟨y,yr⟩:=c
   have HRT:=hid hR
   clear hR hc
   simp only at c0 c1 HRT
   obtain⟨v1,hv⟩:∃v1,v1=wr.alloc (.cells #[St y,St yr] 150):=⟨_,rfl⟩
   have a1:qL wr v1:=by rw[hv];exact(zM _ wr).alloc (zN _) _
   have A1:v1.heap[wr.heap.size]? =some (.cells #[St y,St yr] 150 (0,0)):=by rw[hv];exact zG wr _
   have T1:=zac a1 _ _ _ _ hT.out
   have k1:v1.cell? ⟨wr.heap.size,1,none⟩=some (St yr):=by rw[zJ A1];rfl
   have t1:v1.cell? ⟨w.heap.size,1,none⟩=some (St xr):=by rw[zJ T1];rfl
   have E1:=hid (hB.out.trans (a1.mono hB.out.size))
   have HT1:=hid T1
   rw[hv] at k1 t1
   have HV:=hid hv.symm
   clear hv a1 A1 T1
   go_wp2_with fail
   rw[HV.out]
   clear k1 t1 HV c0 c1
   refine(HRT.out v1 (HW.out.below E1.out)).mono ?_
   rintro e w2 ⟨rfl,hb2⟩
   have hB2:=hid (E1.out.trans (hb2.mono E1.out.size))
   have hT2:=hid (zac hb2 _ _ _ _ HT1.out)
   clear hb2 HRT E1 HT1
   go_wp2_with fail
   go_roundw
   case rel=>exact⟨k+1,by omega,by go_num,hB2,hT2⟩
   case measure=>simp[zL];omega
  ·have hkn:k=n:=by omega
   go_wp2_with fail
   have hks:∀w':zA,qL wr w'->w'.cell? ⟨gb,0,none⟩=some (.slice p n cap)/\w'.cell? ⟨w.heap.size,0,none⟩=some (St x)/\w'.cell? ⟨w.heap.size,1,none⟩=some (St xr):=λw' hb=>
    ⟨zai hb (zai hB.out HG0.out),zai hb (by rw[zJ hT.out];rfl),zai hb (by rw[zJ hT.out];rfl)⟩
   have KS:=hid hks
   have HF:=hid ((zac hB.out).frozen HG0.out HG.out.fr)
   have HOw:=hid (zcj (zac hB.out) HO.out)
   have hgs:gb<w.heap.size:=zbe HG0.out
   have hws:=hB.out.size
   have hne:some gb≠(Value.slice p n cap).ownBlock:=λe=>by have:=(HO.out.lt _ e.symm).1;omega
   have HNE:=hid hne
   clear hks hne HR0 HG R hkn hk hlt HW HB1 HA1
   refine zc4 (λ(b:Nat×Value) i=>([.pointer (some ⟨gb,0,none⟩),.pointer (some ⟨gb,0,none⟩),.pointer (some ⟨gb,0,none⟩),.pointer (some ⟨gb,0,none⟩),.slice p n cap,.pointer (some ⟨w.heap.size,0,none⟩),St x,.pointer (some ⟨w.heap.size,1,none⟩),St xr,.agg #[St x,St xr],.slice (some ⟨b.1,0,none⟩) 1 1,b.2,.pointer (some ⟨gb,0,none⟩),.pointer (some ⟨gb,0,none⟩)]:List Value).getD i undef) (AdnS wr x xr l n (.slice p n cap) gb) (by kernel_rfl) (by kernel_rfl) (0,.slice none 0 0) ⟨λ_=>(zM _ wr).drew,λ_ h=>(by cases h),λh=>(by cases h)⟩ λb=>?_
   refine qB (.pointer (some ⟨gb,0,none⟩)) (λf W' h=>h.congr rfl rfl rfl) ?_
   simp only[zzQ]
   refine qB (.pointer (some ⟨gb,0,none⟩)) (λf W' h=>h.congr rfl rfl rfl) ?_
   simp only[zzQ]
   refine qB (.pointer (some ⟨gb,0,none⟩)) (λf W' h=>h.congr rfl rfl rfl) ?_
   simp only[zzQ]
   refine qB (.pointer (some ⟨gb,0,none⟩)) (λf W' h=>h.congr rfl rfl rfl) ?_
   simp only[zzQ]
   refine qB (.slice p n cap) (λf W' h=>h.congr rfl rfl rfl) ?_ (hy:=λf W' hf h=>by have g:=KS.out _ (h.pre (hf.no (j:=11) hf.self (by kernel_rfl)));obtain⟨q0,q1,q2⟩:=g;go_simp)
   simp only[zzQ]
   refine qB (.pointer (some ⟨w.heap.size,0,none⟩)) (λf W' h=>h.congr rfl rfl rfl) ?_
   simp only[zzQ]
   refine qB (St x) (λf W' h=>h.congr rfl rfl rfl) ?_ (hy:=λf W' hf h=>by have g:=KS.out _ (h.pre (hf.no (j:=11) (hf.no (j:=10) (hf.no (j:=9) hf.self (by kernel_rfl)) (by kernel_rfl)) (by kernel_rfl)));obtain⟨q0,q1,q2⟩:=g;go_simp)
   simp only[zzQ]
   refine qB (.pointer (some ⟨w.heap.size,1,none⟩)) (λf W' h=>h.congr rfl rfl rfl) ?_
   simp only[zzQ]
   refine qB (St xr) (λf W' h=>h.congr rfl rfl rfl) ?_ (hy:=λf W' hf h=>by have g:=KS.out _ (h.pre (hf.no (j:=11) (hf.no (j:=10) (hf.no (j:=9) hf.self (by kernel_rfl)) (by kernel_rfl)) (by kernel_rfl)));obtain⟨q0,q1,q2⟩:=g;go_simp)
   simp only[zzQ]
   refine qB (.agg #[St x,St xr]) (λf W' h=>h.congr rfl rfl rfl) ?_
   simp only[zzQ]
   refine zdc (.slice (some ⟨b.1,0,none⟩) 1 1) (by rfl) (by rfl) (λf W' hf h C' hC'=>by
    have h11:=(hf.no (j:=11) hf.self (by kernel_rfl))
    have hp:=h.pre h11
    have ha:qL W' (W'.alloc (.cells #[St x,St xr] 150)):=(zM _ W').alloc (zN _) _
    have A:=zG W' (.cells #[St x,St xr] 150)
    have:=hC' (W'.heap.size,b.2) (W'.alloc (.cells #[St x,St xr] 150)) (λi hi=>?_) ⟨λ_=>hp.trans (ha.mono hp.size),λ_ _=>⟨by rw[zJ A];rfl,by rw[zJ A];rfl⟩,λk=>(by have k':f 11=true:=k;rw[h11] at k';cases k')⟩
    ·go_simp
     exact this
    ·match i,hi with
     |0,_|1,_|2,_|3,_|4,_|5,_|6,_|7,_|8,_|9,_|11,_|12,_|13,_=>rfl
     |10,hi=>rw[hf.self] at hi;cases hi
     |_+14,_=>rfl) ?_
   try simp only[zzQ]
   refine zdc b.2 (by rfl) (by rfl) (λf W' hf h C' hC'=>by
    have h11:=hf.self
    have h14:=(hf.no (j:=14) hf.self (by kernel_rfl))
    have h10:=hf.done 10 (by kernel_rfl)
    have hp:=h.pre h11
    obtain⟨n0,n1⟩:=h.new h11 h10
    refine zmb _ W' _ _ 145 rfl (gb+1) 150 i0 (.agg #[St [],St []]) 2 32 Tryz.underlying145 hi hz0 hz1 hz2 rfl (by decide) (.slice p n cap) n (zbj l) rfl (zcj (zac hp) HOw.out) ⟨b.1,0,none⟩ 1 1 [St x,St xr] rfl rfl (λi u hu=>?_) (λu hu=>?_) (by unfold maxLen;omega) (by omega) (by have:=hp.size;omega) (λv' w' hown' hgrow=>?_)
    ·match i,hu with
     |0,hu=>simp at hu;subst hu;exact n0
     |1,hu=>simp at hu;subst hu;exact n1
     |_+2,hu=>simp at hu
    ·simp at hu;rcases hu with rfl|rfl<;>rfl
    ·refine hC' (b.1,v') w' (λi hi=>?_) ⟨λk=>?_,λk=>?_,λ_=>⟨W',w',hp,hgrow,hown',?_⟩⟩
     ·match i,hi with
      |0,_|1,_|2,_|3,_|4,_|5,_|6,_|7,_|8,_|9,_|10,_|12,_|13,_=>rfl
      |11,hi=>rw[hf.self] at hi;cases hi
      |_+14,_=>rfl
     ·cases k
     ·cases k
     ·show w'=if f 14=true then _ else w'
      rw[h14];rfl) ?_
   try simp only[zzQ]
   refine qB (.pointer (some ⟨gb,0,none⟩)) (λf W' h=>h.congr rfl rfl rfl) ?_
   simp only[zzQ]
   refine qB (.pointer (some ⟨gb,0,none⟩)) (λf W' h=>h.congr rfl rfl rfl) ?_
   simp only[zzQ]
   refine zbv undef (by rfl) (by rfl) (λf W' hf h C' hC'=>by
    have h11:=hf.done 11 (by kernel_rfl)
    have h14:=hf.self
    obtain⟨Y,Z,hY,hZ,hz',rfl⟩:=h.post h11
    rw[h14,if_neg (by simp)] at*
    have hc0:=(KS.out _ hY).1
    have hcell:=hZ.cell hc0 HNE.out
    have hfr:Z.frozen? ⟨gb,0,none⟩=false:=by
     rw[World.frozen?_of_block (a:=⟨gb,0,none⟩) (hZ.block _ (zbe hc0) HNE.out)];exact(zac hY).frozen (KS.out _ (zM _ wr)).1 HF.out
    have:=hC' (Z.setCell ⟨gb,0,none⟩ b.2) ⟨λk=>(by have k':f 11=false:=k;rw[h11] at k';cases k'),λk=>(by have k':f 11=false:=k;rw[h11] at k';cases k'),λ_=>⟨Y,Z,hY,hZ,hz',rfl⟩⟩
    obtain⟨q,m,c,e2⟩:∃q m c,b.2=.slice q m c:=by
     rcases hz'.2 with⟨e,_⟩|⟨g,cp,cur,e,_⟩<;>exact⟨_,_,_,e⟩
    rw[e2] at this
    go_simp
    exact this) ?_
   try simp only[Act.put]
   refine ze1 λf X hf h=>?_
   obtain⟨Y,Z,hY,hZ,hz',rfl⟩:=h.post (hf 11 (by decide))
   rw[if_pos (hf 14 (by decide))]
   have hc0:=(KS.out _ hY).1
   have hcell:=hZ.cell hc0 HNE.out
   have hfr:Z.frozen? ⟨gb,0,none⟩=false:=by
    rw[World.frozen?_of_block (a:=⟨gb,0,none⟩) (hZ.block _ (zbe hc0) HNE.out)];exact(zac hY).frozen (KS.out _ (zM _ wr)).1 HF.out
   have hbel:zB gb w (Z.setCell ⟨gb,0,none⟩ b.2):=by
    have h1:zB gb w Y:=(hB.out.mono (by omega)).trans (hY.mono (by omega))
    exact(h1.grown hZ (by have:=hY.size;omega) (λq e=>by have:=(HO.out.lt q e).1;omega)).setCell (by simp) _
   have hgate:GatL gb (l++[(x,xr)]) (Z.setCell ⟨gb,0,none⟩ b.2):=by
    refine⟨⟨b.2,za9 hcell,?_⟩,by rw[World.frozen?_setCell];exact hfr⟩
    rw[zjb,List.length_append,<-HN.out]
    show World.ownsRow _ _ _ _ _ (n+1) (zbj l++[St x,St xr])
    exact ownsRow_setCell_below hz' (by simp) _
   have HE:=hid (⟨hbel,hgate⟩:zB gb w (Z.setCell ⟨gb,0,none⟩ b.2)/\GatL gb (l++[(x,xr)]) (Z.setCell ⟨gb,0,none⟩ b.2))
   clear hbel hgate hcell hfr hY hZ hz' h hf hc0
   go_wp2_with fail
   go_ret
   exact⟨rfl,HE.out⟩
theorem z4d:∀(l:List (List UInt8×List UInt8)) (k:Nat) (c:List UInt8×List UInt8),zbj (l.set k c)=((zbj l).set (k*2) (St c.1)).set (k*2+1) (St c.2)
 |[],_,_=>rfl
 |_::_,0,_=>rfl
 |d::l,k+1,c=>by
  rw[show(k+1)*2=k*2+1+1 by omega]
  simp[zbj,z4d l k c]
theorem z42 {W:zA} {B g n cap:Nat} {e:TypeId} {s:Nat} {xs:List Value} (h:W.ownsRow B e s (.slice (some ⟨g,0,none⟩) n cap) n xs) (i:Nat):W.frozen? ⟨g,i,none⟩=false:=by
 rcases h.2 with⟨e1,_⟩|⟨g',cp,cur,e1,_,hg,_⟩
 ·cases e1
 ·cases e1;exact Go.Joins.unfrozen_of_block hg i
theorem z6l {W:zA} {B g n cap k:Nat} {e:TypeId} {l:List (List UInt8×List UInt8)} {z zr:List UInt8} (h:W.ownsRow B e 2 (.slice (some ⟨g,0,none⟩) n cap) n (zbj l)) (hn:n=l.length) (_:k<n):
 ((W.setCell ⟨g,k*2,none⟩ (St z)).setCell ⟨g,k*2+1,none⟩ (St zr)).ownsRow B e 2 (.slice (some ⟨g,0,none⟩) n cap) n (zbj (l.set k (z,zr))):=by
 refine⟨by rw[zn8,List.length_set,hn],?_⟩
 rcases h.2 with⟨e1,_⟩|⟨g',cp,cur,e1,h1,hg,h2,h3,h4,h5⟩
 ·cases e1
 ·cases e1
  refine .inr ⟨g,cap,_,rfl,h1,zK (i:=k*2+1) (zK (i:=k*2) hg (St z)) (St zr),h2,h3,by simpa using h4,?_⟩
  rw[z4d,<-h5]
  simp[List.take_set]
theorem zyk (gb:Nat) (l:List (List UInt8×List UInt8)) (x xr y yr z zr:List UInt8) (kk:ByteArray) (j:Nat) (nn:Int) (hl:l.length<=5000) (hj:l[j]? =some (y,yr)) (hnn:decide (nn<0)=false)
 (R:Hid (∀(i:Nat) (c:List UInt8×List UInt8),i<j->l[i]? =some c->∃k,qK 105 #[St xr,St c.2] (.tuple #[.string k,.bool false,.int .i64 0])))
 (R1:Hid (qK 105 #[St xr,St yr] (.tuple #[.string kk,.bool true,.int .i64 0])))
 (CM:Hid (qK 10 #[St xr,St yr] (.tuple #[.int .i64 nn,.int .i64 0])))
 (P:Hid (qK 151 #[.agg #[St y,St yr],.agg #[St x,St xr]] (.tuple #[.agg #[St z,St zr],.int .i64 0])))
 (w:zA) (HW:Hid (Wd w)) (HG:Hid (GatL gb l w)):
 zC zF 108 #[.pointer (some ⟨gb,0,none⟩),.agg #[St x,St xr]] w λe w'=>e=.returned (.int .i64 0)/\zB gb w w'/\GatL gb (l.set j (z,zr)) w':=by
 obtain⟨p,cap,g0,o0,r0⟩:=HG.out.row
 have hlt:=zbe g0
 obtain⟨W1,hW1⟩:∃W1,W1=w.alloc (.cells #[St x,St xr] 51):=⟨_,rfl⟩
 have hb1:qL w W1:=by rw[hW1];exact(zM _ w).alloc (zN _) _
 have A1:W1.heap[w.heap.size]? =some (.cells #[St x,St xr] 51 (0,0)):=by rw[hW1];exact zG w _
 have c0:=zai hb1 g0
 rw[hW1] at c0
 have HW1:=hid hW1.symm
 have HB1:=hid hb1
 have HA1:=hid A1
 have HR0:=hid r0;have HO:=hid o0;have HG0:=hid g0
 obtain⟨n,hn⟩:∃n,n=l.length:=⟨_,rfl⟩
 have hjn:j<n:=by rw[hn];exact(List.getElem?_eq_some_iff.1 hj).1
 rw[<-hn] at c0 hl HO HG0
 have HN:=hid hn
 have HJ:=hid hj
 clear hW1 hb1 A1 r0 o0 g0 hn hj
 go_enter Tryz.func108,Tryz.ntmps108
 go_wp2_with fail
 rw[HW1.out]
 clear c0 HW1
 go_loopw [19] (λi wr=>∃(k:Nat),k<=j/\i=.int .i64 (k:Int)/\Hid (qL w wr)/\Hid (wr.heap[w.heap.size]? =some (.cells #[St x,St xr] 51 (0,0))))
  (λi _=>n-(zL i).toNat)
 case atStart=>exact⟨0,zR _,rfl,HB1,HA1⟩
 case round=>
  obtain⟨k,hk,rfl,hB,hT⟩:=hrel
  have hlt:k<n:=by omega
  by_cases hkj:k<j
  ·obtain⟨c,hc⟩:∃c,l[k]? =some c:=⟨_,yB (by rw[<-HN.out];exact hlt)⟩
   obtain⟨g,rfl,c0,c1⟩:=(HR0.out.keep (zac hB.out)) k c hc
   obtain⟨q,hR⟩:=R.out k c hkj hc
   obtain⟨u,ur⟩:=c
   have HRT:=hid hR
   clear hR hc
   simp only at c0 c1 HRT
   obtain⟨v1,hv⟩:∃v1,v1=wr.alloc (.cells #[St u,St ur] 150):=⟨_,rfl⟩
   have a1:qL wr v1:=by rw[hv];exact(zM _ wr).alloc (zN _) _
   have A1:v1.heap[wr.heap.size]? =some (.cells #[St u,St ur] 150 (0,0)):=by rw[hv];exact zG wr _
   have T1:=zac a1 _ _ _ _ hT.out
   have k1:v1.cell? ⟨wr.heap.size,1,none⟩=some (St ur):=by rw[zJ A1];rfl
   have t1:v1.cell? ⟨w.heap.size,1,none⟩=some (St xr):=by rw[zJ T1];rfl
   have E1:=hid (hB.out.trans (a1.mono hB.out.size))
   have HT1:=hid T1
   rw[hv] at k1 t1
   have HV:=hid hv.symm
   clear hv a1 A1 T1
   go_wp2_with fail
   rw[HV.out]
   clear k1 t1 HV c0 c1
   refine(HRT.out v1 (HW.out.below E1.out)).mono ?_
   rintro e w2 ⟨rfl,hb2⟩
   have hB2:=hid (E1.out.trans (hb2.mono E1.out.size))
   have hT2:=hid (zac hb2 _ _ _ _ HT1.out)
   clear hb2 HRT E1 HT1
   go_wp2_with fail
   go_roundw
   case rel=>exact⟨k+1,by omega,by go_num,hB2,hT2⟩
   case measure=>simp[zL];omega
  ·have hkn:k=j:=by omega
   subst hkn
   obtain⟨g,rfl,c0,c1⟩:=(HR0.out.keep (zac hB.out)) k (y,yr) HJ.out
   simp only at c0 c1
   obtain⟨v1,hv⟩:∃v1,v1=wr.alloc (.cells #[St y,St yr] 150):=⟨_,rfl⟩
   have a1:qL wr v1:=by rw[hv];exact(zM _ wr).alloc (zN _) _
   have A1:v1.heap[wr.heap.size]? =some (.cells #[St y,St yr] 150 (0,0)):=by rw[hv];exact zG wr _
   have T1:=zac a1 _ _ _ _ hT.out
   have k1:v1.cell? ⟨wr.heap.size,1,none⟩=some (St yr):=by rw[zJ A1];rfl
   have t1:v1.cell? ⟨w.heap.size,1,none⟩=some (St xr):=by rw[zJ T1];rfl
   have E1:=hid (hB.out.trans (a1.mono hB.out.size))
   have HT1:=hid T1;have HK1:=hid A1
   rw[hv] at k1 t1
   have HV:=hid hv.symm
   clear hv a1 A1 T1
   go_wp2_with fail
   rw[HV.out]
   clear k1 t1 HV c0 c1
   refine(R1.out v1 (HW.out.below E1.out)).mono ?_
   rintro e w2 ⟨rfl,hb2⟩
   have E2:=hid (E1.out.trans (hb2.mono E1.out.size))
   have HT2:=hid (zac hb2 _ _ _ _ HT1.out)
   have HK2:=hid (zac hb2 _ _ _ _ HK1.out)
   clear hb2 R1 E1 HT1 HK1
   have t0:w2.cell? ⟨w.heap.size,0,none⟩=some (St x):=by rw[zJ HT2.out];rfl
   have t1:w2.cell? ⟨w.heap.size,1,none⟩=some (St xr):=by rw[zJ HT2.out];rfl
   obtain⟨w3,hw3⟩:∃w3,w3=w2.alloc (.cells #[St x,St xr] 150):=⟨_,rfl⟩
   have b3:qL w2 w3:=by rw[hw3];exact(zM _ w2).alloc (zN _) _
   have A3:w3.heap[w2.heap.size]? =some (.cells #[St x,St xr] 150 (0,0)):=by rw[hw3];exact zG w2 _
   have E3:=hid (E2.out.trans (b3.mono E2.out.size))
   have HK3:=hid (zac b3 _ _ _ _ HK2.out)
   have p1:w3.cell? ⟨wr.heap.size,1,none⟩=some (St yr):=by rw[zJ HK3.out];rfl
   have p2:w3.cell? ⟨w2.heap.size,1,none⟩=some (St xr):=by rw[zJ A3];rfl
   rw[hw3] at p1 p2
   have HA3:=hid A3
   have HW3:=hid hw3.symm;clear hw3 b3 A3
   go_wp2_with fail
   rw[HW3.out]
   clear t0 t1 p1 p2 HW3 E2 HK2 HT2
   refine(CM.out w3 (HW.out.below E3.out)).mono ?_
   rintro e w4 ⟨rfl,hb4⟩
   have E4:=hid (E3.out.trans (hb4.mono E3.out.size))
   have HK4:=hid (zac hb4 _ _ _ _ HK3.out)
   have HA4:=hid (zac hb4 _ _ _ _ HA3.out);clear hb4 E3 HK3 HA3 CM
   have l0:w4.cell? ⟨wr.heap.size,0,none⟩=some (St y):=by rw[zJ HK4.out];rfl
   have l1:w4.cell? ⟨wr.heap.size,1,none⟩=some (St yr):=by rw[zJ HK4.out];rfl
   have p0:w4.cell? ⟨w2.heap.size,0,none⟩=some (St x):=by rw[zJ HA4.out];rfl
   have p1:w4.cell? ⟨w2.heap.size,1,none⟩=some (St xr):=by rw[zJ HA4.out];rfl
   go_wp2_with fail
   refine(P.out w4 (HW.out.below E4.out)).mono ?_
   rintro e w5 ⟨rfl,hb5⟩
   have E5:=hid (E4.out.trans (hb5.mono E4.out.size));clear hb5 E4 HK4 HA4 l0 l1 p0 p1 P
   obtain⟨w6,hw6⟩:∃w6,w6=w5.alloc (.cells #[St z,St zr] 150):=⟨_,rfl⟩
   have b6:qL w5 w6:=by rw[hw6];exact(zM _ w5).alloc (zN _) _
   have A6:w6.heap[w5.heap.size]? =some (.cells #[St z,St zr] 150 (0,0)):=by rw[hw6];exact zG w5 _
   have hB6:=E5.out.trans (b6.mono E5.out.size)
   have HW6:=hid hw6.symm;clear hw6 b6
   go_wp2_with fail
   rw[HW6.out]
   clear HW6
   obtain⟨g',e',r0,r1⟩:=(HR0.out.keep (zac hB6)) k (y,yr) HJ.out
   obtain rfl:g=g':=by cases e';rfl
   have hgs:gb<w.heap.size:=zbe HG0.out
   have m0:w6.drew.cell? ⟨gb,0,none⟩=some (.slice (some ⟨g,0,none⟩) n cap):=zai hB6 HG0.out
   have m2:w6.drew.cell? ⟨g,k*2,none⟩=some (St y):=r0
   have m3:w6.drew.cell? ⟨g,k*2+1,none⟩=some (St yr):=r1
   have o6:w6.drew.ownsRow (gb+1) 150 2 (.slice (some ⟨g,0,none⟩) n cap) n (zbj l):=zcj (zac hB6) HO.out
   have hgg:gb<g:=(o6.lt g rfl).1
   have m4:w6.drew.frozen? ⟨g,k*2,none⟩=false:=z42 o6 _
   have m5:w6.drew.frozen? ⟨g,k*2+1,none⟩=false:=z42 o6 _
   have m6:w6.drew.cell? ⟨w5.heap.size,0,none⟩=some (St z):=by rw[zJ (show w6.drew.heap[w5.heap.size]? =_ from A6)];rfl
   have m7:w6.drew.cell? ⟨w5.heap.size,1,none⟩=some (St zr):=by rw[zJ (show w6.drew.heap[w5.heap.size]? =_ from A6)];rfl
   have n2:w6.cell? ⟨g,k*2,none⟩=some (St y):=m2
   have n3:w6.cell? ⟨g,k*2+1,none⟩=some (St yr):=m3
   have n4:w6.frozen? ⟨g,k*2,none⟩=false:=m4
   have n5:w6.frozen? ⟨g,k*2+1,none⟩=false:=m5
   have HF:=hid ((zac hB6).frozen HG0.out HG.out.fr)
   have HO6:=hid o6;have HM0:=hid m0;have HB6:=hid hB6
   clear R HR0 HB1 HA1 HG r0 r1 e' o6 hT hB
   refine zc4 (λ(_:Unit) i=>([.pointer (some ⟨gb,0,none⟩),.pointer (some ⟨gb,0,none⟩),.pointer (some ⟨gb,0,none⟩),.slice (some ⟨g,0,none⟩) n cap,.int .i64 (k:Int),.agg #[St z,St zr],.pointer (some ⟨g,k*2,none⟩)]:List Value).getD i undef) (λ_ f W'=>(f 7=false->W'=w6.drew)/\(f 7=true->W'=((w6.drew.setCell ⟨g,k*2,none⟩ (St z)).setCell ⟨g,k*2+1,none⟩ (St zr)))) (by kernel_rfl) (by kernel_rfl) () ⟨λ_=>rfl,λh=>(by cases h)⟩ λb=>?_
   refine qB (.pointer (some ⟨gb,0,none⟩)) (λf W' h=>⟨h.1,h.2⟩) ?_ (hy:=λf W' hf h=>by
    obtain rfl:=h.1 (hf.no (j:=7) hf.self (by kernel_rfl))
    go_simp)
   try simp only[zzQ]
   refine qB (.pointer (some ⟨gb,0,none⟩)) (λf W' h=>⟨h.1,h.2⟩) ?_ (hy:=λf W' hf h=>by
    obtain rfl:=h.1 (hf.no (j:=7) hf.self (by kernel_rfl))
    go_simp)
   try simp only[zzQ]
   refine qB (.pointer (some ⟨gb,0,none⟩)) (λf W' h=>⟨h.1,h.2⟩) ?_ (hy:=λf W' hf h=>by
    obtain rfl:=h.1 (hf.no (j:=7) hf.self (by kernel_rfl))
    go_simp)
   try simp only[zzQ]
   refine qB (.slice (some ⟨g,0,none⟩) n cap) (λf W' h=>⟨h.1,h.2⟩) ?_ (hy:=λf W' hf h=>by
    obtain rfl:=h.1 (hf.no (j:=7) hf.self (by kernel_rfl))
    go_simp)
   try simp only[zzQ]
   refine qB (.int .i64 (k:Int)) (λf W' h=>⟨h.1,h.2⟩) ?_ (hy:=λf W' hf h=>by
    obtain rfl:=h.1 (hf.no (j:=7) hf.self (by kernel_rfl))
    go_simp)
   try simp only[zzQ]
   refine qB (.agg #[St z,St zr]) (λf W' h=>⟨h.1,h.2⟩) ?_ (hy:=λf W' hf h=>by
    obtain rfl:=h.1 (hf.no (j:=7) hf.self (by kernel_rfl))
    go_simp)
   try simp only[zzQ]
   refine qB (.pointer (some ⟨g,k*2,none⟩)) (λf W' h=>⟨h.1,h.2⟩) ?_ (hy:=λf W' hf h=>by
    obtain rfl:=h.1 (hf.no (j:=7) hf.self (by kernel_rfl))
    go_simp)
   try simp only[zzQ]
   refine zbv undef (by rfl) (by rfl) (λf W' hf h C' hC'=>by
    obtain rfl:=h.1 hf.self
    have:=hC' ((w6.drew.setCell ⟨g,k*2,none⟩ (St z)).setCell ⟨g,k*2+1,none⟩ (St zr)) ⟨λk=>(by cases k),λ_=>rfl⟩
    go_simp
    exact this) ?_
   try simp only[Act.put]
   refine ze1 λf X hf h=>?_
   obtain rfl:=h.2 (hf 7 (by decide))
   have hbel:zB gb w ((w6.drew.setCell ⟨g,k*2,none⟩ (St z)).setCell ⟨g,k*2+1,none⟩ (St zr)):=
    (((HB6.out.mono (by omega)).drew).setCell (by simp;omega) _).setCell (by simp;omega) _
   have hgate:GatL gb (l.set k (z,zr)) ((w6.drew.setCell ⟨g,k*2,none⟩ (St z)).setCell ⟨g,k*2+1,none⟩ (St zr)):=by
    refine⟨⟨_,by rw[zau _ _ _ _ (by omega),zau _ _ _ _ (by omega)];exact HM0.out,?_⟩,?_⟩
    ·rw[List.length_set,<-HN.out];exact z6l HO6.out HN.out (by omega)
    ·rw[World.frozen?_setCell,World.frozen?_setCell];exact HF.out
   have HE:=hid (⟨hbel,hgate⟩:zB gb w ((w6.drew.setCell ⟨g,k*2,none⟩ (St z)).setCell ⟨g,k*2+1,none⟩ (St zr))/\GatL gb (l.set k (z,zr)) ((w6.drew.setCell ⟨g,k*2,none⟩ (St z)).setCell ⟨g,k*2+1,none⟩ (St zr)))
   clear hbel hgate m0 m2 m3 m4 m5 m6 m7 n2 n3 n4 n5 h hf
   go_wp2_with fail
   go_ret
   exact⟨rfl,HE.out⟩
structure VisC (gb:Nat) (c r:List UInt8) (S S':zA->Prop) (one:Bool) (k n m:List UInt8) (ln:Int):Prop where
 cz:(c==[48])=false
 rz:(r==[48])=false
 n1:(r==[49])=one
 kn:one=true->k=[49]/\n=r
 norm:one=false->∀W:zA,Wd W->Pw W->qJ 145 #[St r] W (.tuple #[St k,St n,.int .i64 0])
 lng:qK 109 #[St n] (.int .i64 ln)
 ln9:decide (90<ln)=false
 mul:qK 8 #[St c,St k] (.tuple #[St m,.int .i64 0])
 keep:∀W W':zA,S W->qL W W'->S W'
 each:∀W:zA,Wd W->S W->zC zF 108 #[.pointer (some ⟨gb,0,none⟩),.agg #[St m,St n]] W λe w'=>e=.returned (.int .i64 0)/\zB gb W w'/\S' w'
theorem z4e (gb:Nat) (p:Option Addr) (cap n:Nat) (X Y:Nat->List UInt8) (S:Nat->zA->Prop) (hn:n<=5000)
 (V:Hid (∀i,i<n->∃one k n m ln,VisC gb (X i) (Y i) (S i) (S (i+1)) one k n m ln))
 (w:zA) (hgb:gb<=w.heap.size) (HW:Hid (∀W,zB gb w W->Wd W)) (HP:Hid (∀W,zB gb w W->Pw W)) (h0:S 0 w)
 (HT:Hid (∀i,i<n->∃b off,p=some ⟨b,off,none⟩/\b<gb/\w.cell? ⟨b,off+i*2,none⟩=some (St (X i))/\w.cell? ⟨b,off+i*2+1,none⟩=some (St (Y i)))):
 zC zF 107 #[.slice p n cap,.func (.func 108) #[.pointer (some ⟨gb,0,none⟩)] #[]] w λe w'=>e=.returned (.int .i64 0)/\zB gb w w'/\S n w':=by
 have D0:=hid (zM gb w)
 have s0:=hid h0
 have g0:=hid hgb
 clear h0 hgb
 go_enter Tryz.func107,Tryz.ntmps107
 go_wp2_with fail
 go_loopw [13] (λi wr=>∃(k:Nat),k<=n/\i=.int .i64 (k:Int)/\Hid (zB gb w wr)/\Hid (gb<=wr.heap.size)/\Hid (S k wr))
  (λi _=>n-(zL i).toNat)
 case atStart=>exact⟨0,zR _,rfl,D0,g0,s0⟩
 case round=>
  obtain⟨k,hk,rfl,D1,g1,s1⟩:=hrel
  by_cases hlt:k<n
  ·obtain⟨b,off,rfl,hb,c0,c1⟩:=HT.out k hlt
   obtain⟨one,kk,nr,m,ln,HV⟩:=V.out k hlt
   have R1:=hid HV
   generalize X k=x at*
   generalize Y k=y at*
   have cz:=HV.cz;have rz:=HV.rz;have n1:=HV.n1;have ln9:=HV.ln9
   have t0:wr.cell? ⟨b,off+k*2,none⟩=some (St x):=by rw[D1.out.cell (p:=⟨b,off+k*2,none⟩) hb];exact c0
   have t1:wr.cell? ⟨b,off+k*2+1,none⟩=some (St y):=by rw[D1.out.cell (p:=⟨b,off+k*2+1,none⟩) hb];exact c1
   obtain⟨v1,hv⟩:∃v1,v1=wr.alloc (.cells #[St x,St y] 51):=⟨_,rfl⟩
   have a1:qL wr v1:=by rw[hv];exact(zM _ wr).alloc (zN _) _
   have A1:v1.heap[wr.heap.size]? =some (.cells #[St x,St y] 51 (0,0)):=by rw[hv];exact zG wr _
   have k0:v1.cell? ⟨wr.heap.size,0,none⟩=some (St x):=by rw[zJ A1];rfl
   have k1:v1.cell? ⟨wr.heap.size,1,none⟩=some (St y):=by rw[zJ A1];rfl
   have k0':=k0;have k1':=k1
   rw[hv] at k0 k1
   have HV1:=hid hv.symm
   have E1:=hid a1
   have B1:=hid A1
   clear hv a1 A1 HV c0 c1 hb
   go_wp2_with fail
   rw[HV1.out]
   clear t0 t1 k0 k1 HV1
   (refine wp_region_quiet_lit (by kernel_rfl) (by kernel_rfl) (WQ.out ?_);(repeat(first|(apply WQ.read (by rfl);(focus(rintro W ⟨n,rfl⟩;go_simp;try with_reducible rfl));try simp only[zzQ])|(apply WQ.skip (by rfl);try simp only[zzQ])));refine WQ.nil ?_;rintro _ ⟨nq,rfl⟩)
   have E2:=hid (zao E1.out nq)
   have B2:=hid (show(v1.drewN nq).heap[wr.heap.size]? =_ from B1.out)
   clear E1 B1
   cases one
   ·go_wp2_with fail
    refine(R1.out.norm rfl _ (HW.out _ (D1.out.trans (E2.out.mono g1.out))) (HP.out _ (D1.out.trans (E2.out.mono g1.out)))).mono ?_
    rintro e y1 ⟨rfl,hb1⟩
    have E3:=hid (E2.out.trans (hb1.mono E2.out.size));have B3:=hid (zac hb1 _ _ _ _ B2.out)
    clear hb1 E2 B2 k0' k1' cz rz n1
    go_wp2_with fail
    refine(R1.out.lng _ (HW.out _ (D1.out.trans (E3.out.mono g1.out)))).mono ?_
    rintro e y2 ⟨rfl,hb1⟩
    have E4:=hid (E3.out.trans (hb1.mono E3.out.size));have B4:=hid (zac hb1 _ _ _ _ B3.out)
    clear hb1 E3 B3
    have k0:y2.cell? ⟨wr.heap.size,0,none⟩=some (St x):=by rw[zJ B4.out];rfl
    go_wp2_with fail
    refine(R1.out.mul y2 (HW.out _ (D1.out.trans (E4.out.mono g1.out)))).mono ?_
    rintro e y3 ⟨rfl,hb1⟩
    have E5:=hid (E4.out.trans (hb1.mono E4.out.size))
    clear hb1 E4 B4 k0
    go_wp2_with fail
    refine(R1.out.each y3 (HW.out _ (D1.out.trans (E5.out.mono g1.out))) (R1.out.keep _ _ s1.out E5.out)).mono ?_
    rintro e u1 ⟨rfl,hb1,hs⟩
    have D2:=hid ((D1.out.trans (E5.out.mono g1.out)).trans hb1)
    have g2:Hid (gb<=u1.heap.size):=hid (zO g1.out (zO E5.out.size hb1.size))
    have s2:=hid hs
    clear hb1 hs E5 s1 R1 HT
    go_wp2_with fail
    go_roundw
    case rel=>exact⟨k+1,by omega,by go_num,D2,g2,s2⟩
    case measure=>simp[zL];omega
   ·obtain⟨rfl,rfl⟩:=R1.out.kn rfl
    have E3:=E2;have B3:=B2
    clear E2 B2
    go_wp2_with fail
    clear k0' k1' cz rz n1
    refine(R1.out.lng _ (HW.out _ (D1.out.trans (E3.out.mono g1.out)))).mono ?_
    rintro e y2 ⟨rfl,hb1⟩
    have E4:=hid (E3.out.trans (hb1.mono E3.out.size));have B4:=hid (zac hb1 _ _ _ _ B3.out)
    clear hb1 E3 B3
    have k0:y2.cell? ⟨wr.heap.size,0,none⟩=some (St x):=by rw[zJ B4.out];rfl
    go_wp2_with fail
    refine(R1.out.mul y2 (HW.out _ (D1.out.trans (E4.out.mono g1.out)))).mono ?_
    rintro e y3 ⟨rfl,hb1⟩
    have E5:=hid (E4.out.trans (hb1.mono E4.out.size))
    clear hb1 E4 B4 k0
    go_wp2_with fail
    refine(R1.out.each y3 (HW.out _ (D1.out.trans (E5.out.mono g1.out))) (R1.out.keep _ _ s1.out E5.out)).mono ?_
    rintro e u1 ⟨rfl,hb1,hs⟩
    have D2:=hid ((D1.out.trans (E5.out.mono g1.out)).trans hb1)
    have g2:Hid (gb<=u1.heap.size):=hid (zO g1.out (zO E5.out.size hb1.size))
    have s2:=hid hs
    clear hb1 hs E5 s1 R1 HT
    go_wp2_with fail
    go_roundw
    case rel=>exact⟨k+1,by omega,by go_num,D2,g2,s2⟩
    case measure=>simp[zL];omega
  ·have hkn:k=n:=by omega
   subst hkn
   go_wp2_with fail
   go_ret
   exact⟨rfl,D1.out,s1.out⟩
end
end Go.Proofs.YtpichfafdcfbhaaGreatDoor
