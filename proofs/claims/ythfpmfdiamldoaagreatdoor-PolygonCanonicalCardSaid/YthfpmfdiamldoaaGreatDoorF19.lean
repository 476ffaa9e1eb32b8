/- kingpostref02.Check. -/
import Derived.Test.YthfpmfdiamldoaaGreatDoorF18
import Derived.Laws.IdiomStrings
set_option maxRecDepth 100000
set_option maxHeartbeats 8000000
open Go renaming World → zA, Calls → zC
open Go.RowKit renaming Below → zB, intOf → zL
open Go.Lib renaming decDigits → zD, itoa → zE
open Go.Proofs.Tryz renaming prog → zF
open Go.IntWalk renaming i64_in → zI
open Go.RowKit.Below renaming refl → zM
open Nat renaming le_refl → zN, mod_lt → zP, zero_le → zR, pow_le_pow_right → yF, pow_succ → yO, mul_comm → yP
open List renaming getElem?_eq_getElem → yB
namespace Go.Proofs.YthfpmfdiamldoaaGreatDoor
open Go.RowKit Go.Shelf Lib Str Limb
attribute [local go_sem] Oper.semAt_some
theorem zxe (x y:Nat) (hx:(zD x).length<=17) (hy:(zD y).length<=17) (w:zA) (hw:Wd w):
 qJ 109 #[St (zD x),St (zD y)] w (.tuple #[St (zD (Nat.gcd x y)),.int .i64 0]):=by
 have x3:=(zaf x 17 (by omega)).1 hx
 have y3:=(zaf y 17 (by omega)).1 hy
 have x2:(x:Int)<1000000000000000000:=by omega
 have y2:(y:Int)<1000000000000000000:=by omega
 clear x3 y3
 have x1: -1000000000000000000<(x:Int):=by omega
 have y1: -1000000000000000000<(y:Int):=by omega
 have hb:=λW=>zva x y (by omega) (by omega) W
 have hs:=λW=>zxd x y hx hy W
 have HB:=hid hb;clear hb
 have HS:=hid hs;clear hs hx hy
 have HW:=hid hw;clear hw
 obtain⟨g,hg⟩:∃g,g=Nat.gcd x y:=⟨_,rfl⟩
 rw[<-hg]
 have hg2:g=Int.gcd (x:Int) (y:Int):=by rw[hg];rfl
 have HG:=hid hg2;clear hg hg2
 have hB2:zB w.heap.size w w:=zM _ w
 rw[<-Str.zad g]
 generalize zD x=sx at*
 generalize zD y=sy at*
 go_enter Tryz.func109,Tryz.ntmps109
 go_wp2_with fail
 refine(HB.out w).mono ?_
 rintro e w1 ⟨rfl,hw1⟩
 have hw2:=hw1.symm;subst hw2
 go_wp2_with fail
 refine(HS.out _).mono ?_
 rintro e w2 ⟨rfl,hw1⟩
 have hw2:=hw1.symm;subst hw2
 go_wp2_with fail
 go_loopw [7,8] (λa b wr=>∃m n:Int,a=.int .i64 m/\b=.int .i64 n/\Hid (Int.gcd m n=g)/\(-1000000000000000000<m/\m<1000000000000000000)/\(-1000000000000000000<n/\n<1000000000000000000)/\Hid (zB w.heap.size w wr))
  (λ_ b _=>(zL b).natAbs)
 case atStart=>exact⟨x,y,rfl,rfl,HG.out.symm,⟨x1,x2⟩,⟨y1,y2⟩,hB2⟩
 case round=>
  clear x1 x2 y1 y2 hB2
  obtain⟨m,n,rfl,rfl,hgm,⟨m1,m2⟩,⟨n1,n2⟩,hBr⟩:=hrel
  by_cases h0:n=0
  ·subst h0
   have hgm':Int.gcd m 0=g:=hgm.out
   rw[Int.gcd_zero_right] at hgm'
   have hmx:max m (-m)=(g:Int):=by omega
   have HM:=hid hgm';clear hgm hgm'
   have hg1:(g:Int)<=1000000000000000000:=by omega
   have hneg:IntKind.i64.wrap (-m)= -m:=zI _ (by omega)
   go_wp2_with fail
   refine(zb3 (g:Int) (by omega) (by omega) wr (HW.out.below hBr.out)).mono ?_
   rintro e w3 ⟨rfl,hb3⟩
   have hB3:=hBr.out.trans (hb3.mono hBr.out.size)
   clear hb3
   go_wp2_with fail
   go_ret2
   exact⟨rfl,hB3⟩
  ·have hn0:(n !=0)=true:=by simpa using h0
   have ht1:(m.tmod n).natAbs<n.natAbs:=by rw[Int.natAbs_tmod];exact zP _ (by omega)
   obtain⟨t,ht⟩:∃t,t=m.tmod n:=⟨_,rfl⟩
   have hgt:=zmt m n
   rw[<-ht] at ht1 hgt
   have hwr:IntKind.i64.wrap (m.tmod n)=t:=by rw[<-ht];exact zI _ (by omega)
   have HGT:=hid hgt;have HT:=hid ht;clear hgt ht hwr
   go_wp2
   (refine wp_region_quiet_lit (by kernel_rfl) (by kernel_rfl) (WQ.out ?_);(repeat(first|(apply WQ.read (by rfl);(focus(rintro W ⟨n,rfl⟩;go_simp;try with_reducible rfl));try simp only[zzQ])|(apply WQ.skip (by rfl);try simp only[zzQ])));refine WQ.nil ?_;rintro _ ⟨nq,rfl⟩)
   go_wp2
   go_roundw
   case rel=>exact⟨n,t,rfl,by rw[HT.out],HGT.out.trans hgm.out,⟨n1,n2⟩,by omega,zao hBr.out _⟩
   case measure=>show(m.tmod n).natAbs<n.natAbs;rw[<-HT.out];exact ht1
theorem zxf (l:List UInt8):okS l↔zds (upS l)/\¬(l.head? =some 45/\upS l=[48])/\((47:UInt8)∉bare l\/(zds (dnS l)/\dnS l≠[48]/\dnS l≠[49]/\Nat.gcd (val (upS l)) (val (dnS l))=1)):=by
 unfold okS hasS
 constructor
 ·rintro⟨h1,h2,h3⟩
  refine⟨h1,h2,?_⟩
  by_cases h:(47:UInt8)∈bare l
  ·exact .inr (h3 h)
  ·exact .inl h
 ·rintro⟨h1,h2,h3⟩
  refine⟨h1,h2,λh=>?_⟩
  rcases h3 with h3|h3
  ·exact absurd h h3
  ·exact h3
theorem zgl (l:List UInt8) (s:ByteArray) (hs:s=⟨l.toArray⟩) (k:List UInt8):(s.toList==k)=decide (l=k):=by
 rw[hs,ByteArray.toList_eq]
 by_cases h:l=k
 ·subst h;simp
 ·rw[decide_eq_false h];simpa using h
theorem ztd (x u v:ByteArray) (m sl b1 b2 z1 z2 z3:Bool) (g:Nat) (Q:Prop) (hu:u.size<=300) (hv:v.size<=300)
 (HQ:Hid (Q↔b1=true/\¬(m=true/\z3=true)/\(sl=false\/(b2=true/\z1=false/\z2=false/\g=1))))
 (e1:(v.toList==[48])=z1) (e2:(v.toList==[49])=z2) (e3:(u.toList==[48])=z3)
 (SP:Hid (∀W:zA,qJ 105 #[.string x] W (.tuple #[.bool m,.string u,.string v,.bool sl])))
 (D1:Hid (∀W:zA,zC zF 106 #[.string u] W λe w'=>e=.returned (.bool b1)/\w'=W))
 (D2:Hid (∀W:zA,zC zF 106 #[.string v] W λe w'=>e=.returned (.bool b2)/\w'=W))
 (SG:Hid (b1=true->b2=true->u.size<=9->v.size<=9->∃n d:Nat,(∀W:zA,zC zF 108 #[.string u] W λe w'=>e=.returned (I n)/\w'=W)/\(∀W:zA,zC zF 108 #[.string v] W λe w'=>e=.returned (I d)/\w'=W)/\
   ∀W:zA,qJ 107 #[I n,I d] W (I g)))
 (BG:Hid (b1=true->b2=true->∃t:ByteArray,(t.toList==[49])=decide (g=1)/\qK 109 #[.string u,.string v] (.tuple #[.string t,.int .i64 0])))
 (w:zA) (HW:Hid (Wd w)):
 zC zF 57 #[.string x] w λe w'=>∃r:Int,e=.returned (.int .i64 r)/\(r=0↔Q)/\zB w.heap.size w w':=by
 have u300:¬(300:Int)<u.size:=by omega
 have v300:¬(300:Int)<v.size:=by omega
 go_enter Tryz.func57,Tryz.ntmps57
 go_wp2_with fail
 refine(SP.out w).mono ?_
 rintro e w1 ⟨rfl,hB⟩
 go_wp2_with fail
 refine(D1.out w1).mono ?_
 rintro e w2 ⟨rfl,hw⟩
 have hw2:=hw.symm;subst hw2;clear hw
 cases b1
 ·have HN:=hid (by rw[HQ.out];simp:¬Q)
  go_wp2_with fail
  all_goals first|exact(zzU ‹_›).elim|skip
  go_ret
  exact⟨11,rfl,⟨λh=>by simp at h,λh=>absurd h HN.out⟩,hB⟩
 ·cases sl
  ·cases m
   ·have HN:=hid (by rw[HQ.out];simp:Q)
    go_wp2_with fail
    all_goals first|exact(zzU ‹_›).elim|skip
    go_ret
    exact⟨0,rfl,⟨λ_=>HN.out,λ_=>rfl⟩,hB⟩
   ·cases z3
    ·have HN:=hid (by rw[HQ.out];simp:Q)
     go_wp2_with fail
     all_goals first|exact(zzU ‹_›).elim|skip
     go_ret
     exact⟨0,rfl,⟨λ_=>HN.out,λ_=>rfl⟩,hB⟩
    ·have HN:=hid (by rw[HQ.out];simp:¬Q)
     go_wp2_with fail
     all_goals first|exact(zzU ‹_›).elim|skip
     go_ret
     exact⟨11,rfl,⟨λh=>by simp at h,λh=>absurd h HN.out⟩,hB⟩
  ·go_wp2_with fail
   all_goals first|exact(zzU ‹_›).elim|skip
   refine(D2.out _).mono ?_
   rintro e w2 ⟨rfl,hw⟩
   have hw2:=hw.symm;subst hw2;clear hw
   cases b2
   ·have HN:=hid (by rw[HQ.out];simp:¬Q)
    go_wp2_with fail
    all_goals first|exact(zzU ‹_›).elim|skip
    go_ret
    exact⟨11,rfl,⟨λh=>by simp at h,λh=>absurd h HN.out⟩,hB⟩
   ·cases z1
    ·cases z2
     ·cases m
      ·by_cases h9:u.size<=9
       ·by_cases k9:v.size<=9
        ·have hu9:(u.size:Int)<=9:=by omega
         have hv9:(v.size:Int)<=9:=by omega
         obtain⟨n,d,s1,s2,s3⟩:=SG.out (by simp) (by simp) (by omega) (by omega)
         have S1:=hid s1;have S2:=hid s2;have S3:=hid s3;clear s1 s2 s3
         go_wp2_with fail
         all_goals first|exact(zzU ‹_›).elim|skip
         refine(S1.out _).mono ?_
         rintro e w2 ⟨rfl,hw⟩
         have hw2:=hw.symm;subst hw2;clear hw
         go_wp2_with fail
         refine(S2.out _).mono ?_
         rintro e w2 ⟨rfl,hw⟩
         have hw2:=hw.symm;subst hw2;clear hw
         go_wp2_with fail
         refine(S3.out _).mono ?_
         rintro e w2 ⟨rfl,hb2⟩
         have hB:=hB.trans (hb2.mono hB.size)
         clear hb2
         by_cases hg:g=1
         ·have HN:=hid (by rw[HQ.out];simp[hg]:Q)
          have hgb:((g:Int) !=1)=false:=by subst hg;rfl
          clear hg
          go_wp2_with fail
          go_ret
          exact⟨0,rfl,⟨λ_=>HN.out,λ_=>rfl⟩,hB⟩
         ·have HN:=hid (by rw[HQ.out];simp[hg]:¬Q)
          have hgb:((g:Int) !=1)=true:=by simp;omega
          clear hg
          go_wp2_with fail
          go_ret
          exact⟨11,rfl,⟨λh=>by simp at h,λh=>absurd h HN.out⟩,hB⟩
        ·have hu9:(u.size:Int)<=9:=by omega
         have hv9:¬(v.size:Int)<=9:=by omega
         obtain⟨t,t1,t2⟩:=BG.out (by simp) (by simp)
         have T2:=hid (t2 w1 (HW.out.below hB));clear t2
         go_wp2_with fail
         all_goals first|exact(zzU ‹_›).elim|skip
         refine T2.out.mono ?_
         rintro e w2 ⟨rfl,hb2⟩
         have hB:=hB.trans (hb2.mono hB.size)
         clear hb2 T2
         by_cases hg:g=1
         ·have HN:=hid (by rw[HQ.out];simp[hg]:Q)
          rw[decide_eq_true hg] at t1
          clear hg
          go_wp2_with fail
          go_ret
          exact⟨0,rfl,⟨λ_=>HN.out,λ_=>rfl⟩,hB⟩
         ·have HN:=hid (by rw[HQ.out];simp[hg]:¬Q)
          rw[decide_eq_false hg] at t1
          clear hg
          go_wp2_with fail
          go_ret
          exact⟨11,rfl,⟨λh=>by simp at h,λh=>absurd h HN.out⟩,hB⟩
       ·have hu9:¬(u.size:Int)<=9:=by omega
        obtain⟨t,t1,t2⟩:=BG.out (by simp) (by simp)
        have T2:=hid (t2 w1 (HW.out.below hB));clear t2
        go_wp2_with fail
        all_goals first|exact(zzU ‹_›).elim|skip
        refine T2.out.mono ?_
        rintro e w2 ⟨rfl,hb2⟩
        have hB:=hB.trans (hb2.mono hB.size)
        clear hb2 T2
        by_cases hg:g=1
        ·have HN:=hid (by rw[HQ.out];simp[hg]:Q)
         rw[decide_eq_true hg] at t1
         clear hg
         go_wp2_with fail
         go_ret
         exact⟨0,rfl,⟨λ_=>HN.out,λ_=>rfl⟩,hB⟩
        ·have HN:=hid (by rw[HQ.out];simp[hg]:¬Q)
         rw[decide_eq_false hg] at t1
         clear hg
         go_wp2_with fail
         go_ret
         exact⟨11,rfl,⟨λh=>by simp at h,λh=>absurd h HN.out⟩,hB⟩
      ·cases z3
       ·by_cases h9:u.size<=9
        ·by_cases k9:v.size<=9
         ·have hu9:(u.size:Int)<=9:=by omega
          have hv9:(v.size:Int)<=9:=by omega
          obtain⟨n,d,s1,s2,s3⟩:=SG.out (by simp) (by simp) (by omega) (by omega)
          have S1:=hid s1;have S2:=hid s2;have S3:=hid s3;clear s1 s2 s3
          go_wp2_with fail
          all_goals first|exact(zzU ‹_›).elim|skip
          refine(S1.out _).mono ?_
          rintro e w2 ⟨rfl,hw⟩
          have hw2:=hw.symm;subst hw2;clear hw
          go_wp2_with fail
          refine(S2.out _).mono ?_
          rintro e w2 ⟨rfl,hw⟩
          have hw2:=hw.symm;subst hw2;clear hw
          go_wp2_with fail
          refine(S3.out _).mono ?_
          rintro e w2 ⟨rfl,hb2⟩
          have hB:=hB.trans (hb2.mono hB.size)
          clear hb2
          by_cases hg:g=1
          ·have HN:=hid (by rw[HQ.out];simp[hg]:Q)
           have hgb:((g:Int) !=1)=false:=by subst hg;rfl
           clear hg
           go_wp2_with fail
           go_ret
           exact⟨0,rfl,⟨λ_=>HN.out,λ_=>rfl⟩,hB⟩
          ·have HN:=hid (by rw[HQ.out];simp[hg]:¬Q)
           have hgb:((g:Int) !=1)=true:=by simp;omega
           clear hg
           go_wp2_with fail
           go_ret
           exact⟨11,rfl,⟨λh=>by simp at h,λh=>absurd h HN.out⟩,hB⟩
         ·have hu9:(u.size:Int)<=9:=by omega
          have hv9:¬(v.size:Int)<=9:=by omega
          obtain⟨t,t1,t2⟩:=BG.out (by simp) (by simp)
          have T2:=hid (t2 w1 (HW.out.below hB));clear t2
          go_wp2_with fail
          all_goals first|exact(zzU ‹_›).elim|skip
          refine T2.out.mono ?_
          rintro e w2 ⟨rfl,hb2⟩
          have hB:=hB.trans (hb2.mono hB.size)
          clear hb2 T2
          by_cases hg:g=1
          ·have HN:=hid (by rw[HQ.out];simp[hg]:Q)
           rw[decide_eq_true hg] at t1
           clear hg
           go_wp2_with fail
           go_ret
           exact⟨0,rfl,⟨λ_=>HN.out,λ_=>rfl⟩,hB⟩
          ·have HN:=hid (by rw[HQ.out];simp[hg]:¬Q)
           rw[decide_eq_false hg] at t1
           clear hg
           go_wp2_with fail
           go_ret
           exact⟨11,rfl,⟨λh=>by simp at h,λh=>absurd h HN.out⟩,hB⟩
        ·have hu9:¬(u.size:Int)<=9:=by omega
         obtain⟨t,t1,t2⟩:=BG.out (by simp) (by simp)
         have T2:=hid (t2 w1 (HW.out.below hB));clear t2
         go_wp2_with fail
         all_goals first|exact(zzU ‹_›).elim|skip
         refine T2.out.mono ?_
         rintro e w2 ⟨rfl,hb2⟩
         have hB:=hB.trans (hb2.mono hB.size)
         clear hb2 T2
         by_cases hg:g=1
         ·have HN:=hid (by rw[HQ.out];simp[hg]:Q)
          rw[decide_eq_true hg] at t1
          clear hg
          go_wp2_with fail
          go_ret
          exact⟨0,rfl,⟨λ_=>HN.out,λ_=>rfl⟩,hB⟩
         ·have HN:=hid (by rw[HQ.out];simp[hg]:¬Q)
          rw[decide_eq_false hg] at t1
          clear hg
          go_wp2_with fail
          go_ret
          exact⟨11,rfl,⟨λh=>by simp at h,λh=>absurd h HN.out⟩,hB⟩
       ·have HN:=hid (by rw[HQ.out];simp:¬Q)
        go_wp2_with fail
        all_goals first|exact(zzU ‹_›).elim|skip
        go_ret
        exact⟨11,rfl,⟨λh=>by simp at h,λh=>absurd h HN.out⟩,hB⟩
     ·have HN:=hid (by rw[HQ.out];simp:¬Q)
      go_wp2_with fail
      all_goals first|exact(zzU ‹_›).elim|skip
      go_ret
      exact⟨11,rfl,⟨λh=>by simp at h,λh=>absurd h HN.out⟩,hB⟩
    ·have HN:=hid (by rw[HQ.out];simp:¬Q)
     go_wp2_with fail
     all_goals first|exact(zzU ‹_›).elim|skip
     go_ret
     exact⟨11,rfl,⟨λh=>by simp at h,λh=>absurd h HN.out⟩,hB⟩
theorem z15 (g:Nat):zD g=[49]↔g=1:=by
 have e:zD 1=[49]:=by rw[zae (by omega)];rfl
 constructor
 ·intro h;exact zfk (h.trans e.symm)
 ·rintro rfl;exact e
theorem zvb (l:List UInt8) (hu:(upS l).length<=17) (hv:(dnS l).length<=17) (hl:l.length<=1000) (w:zA) (hw:Wd w):
 zC zF 57 #[St l] w λe w'=>∃r:Int,e=.returned (.int .i64 r)/\(r=0↔okS l)/\zB w.heap.size w w':=by
 classical
 have sz:∀k:List UInt8,(⟨k.toArray⟩:ByteArray).size=k.length:=λk=>by show k.toArray.size=_;simp
 have hd:∀k:List UInt8,k.length<=17->∀W,zC zF 106 #[.string ⟨k.toArray⟩] W (λe w'=>e=.returned (.bool (decide (zds k)))/\w'=W):=λk hk W=>by
  refine(zme k (by omega) W).mono ?_
  rintro e w' ⟨b,rfl,h,rfl⟩
  refine⟨?_,rfl⟩
  congr 2
  cases b
  ·rw[eq_comm,decide_eq_false_iff_not];intro h';exact absurd (h.2 h') (by simp)
  ·rw[eq_comm,decide_eq_true_iff];exact h.1 rfl
 refine ztd ⟨l.toArray⟩ ⟨(upS l).toArray⟩ ⟨(dnS l).toArray⟩ (decide (l.head? =some 45)) (decide ((47:UInt8)∈bare l)) (decide (zds (upS l))) (decide (zds (dnS l))) (decide (dnS l=[48])) (decide (dnS l=[49])) (decide (upS l=[48]))
  (Nat.gcd (val (upS l)) (val (dnS l))) (okS l) (by rw[sz];omega) (by rw[sz];omega) (hid ?_) (zgl _ _ rfl _) (zgl _ _ rfl _) (zgl _ _ rfl _)
  (hid λW=>zn0 l (by omega) W) (hid λW=>hd _ hu W) (hid λW=>hd _ hv W) (hid λh1 h2 h3 h4=>?_) (hid λh1 h2=>?_) w (hid hw)
 ·rw[zxf]
  simp only[decide_eq_true_eq,decide_eq_false_iff_not,ne_eq]
 ·rw[sz] at h3 h4
  have n1:zds (upS l):=of_decide_eq_true h1
  have n2:zds (dnS l):=of_decide_eq_true h2
  refine⟨val (upS l),val (dnS l),λW=>znz _ n1.2.1 h3 W,λW=>znz _ n2.2.1 h4 W,λW=>?_⟩
  have b1:=Nat.lt_of_lt_of_le (zjc _ n1.2.1) (yF (by omega) h3:10^(upS l).length<=10^9)
  have b2:=Nat.lt_of_lt_of_le (zjc _ n2.2.1) (yF (by omega) h4:10^(dnS l).length<=10^9)
  refine(zzt _ _ (by omega) (by omega) W).mono ?_
  rintro e w' ⟨nd,rfl,rfl⟩
  exact⟨rfl,zao (zM _ _) _⟩
 ·have n1:zds (upS l):=of_decide_eq_true h1
  have n2:zds (dnS l):=of_decide_eq_true h2
  refine⟨⟨(zD (Nat.gcd (val (upS l)) (val (dnS l)))).toArray⟩,?_,λW hW=>?_⟩
  ·rw[zgl _ _ rfl]
   exact decide_eq_decide.2 (z15 _)
  ·have:=zxe (val (upS l)) (val (dnS l)) (by rw[zeh n1];exact hu) (by rw[zeh n2];exact hv) W hW
   rwa [zeh n1,zeh n2] at this
theorem zzE {n:Nat} (h:0<n):∀c r,zD n=c::r->c.toNat≠48:=by
 intro c r e hc
 obtain⟨s,hs⟩:∃s:ByteArray,s=⟨(zD n++[]).toArray⟩:=⟨_,rfl⟩
 have hz:=zjz n [] s hs
 have c48:c=48:=by apply UInt8.toNat_inj.1;rw[hc];rfl
 rcases hz with h1|h1
 ·rw[e] at h1
  have hr:r=[]:=by cases r with|nil=>rfl|cons _ _=>simp at h1
  have:=zb2 n
  rw[e,hr,c48] at this
  simp[val] at this
  omega
 ·rw[e] at hs
  subst hs
  have:=h1 (by simp[ByteArray.size])
  exact this (by show c.toNat=48;exact hc)
theorem zte (n:Nat) (h0:0<n) (hl:(zD n).length<=300) (w:zA):
 zC zF 197 #[St (45::zD n)] w λe w'=>e=.returned (.int .i64 0)/\w'=w:=by
 have hd:=zan n
 have hh:=zzE h0
 have hpos:1<=(zD n).length:=by have:=zbn (n:Int);unfold digs at this;simpa using this
 obtain⟨l,hll⟩:∃l,l=zD n:=⟨_,rfl⟩
 rw[<-hll] at hd hl hpos hh⊢
 obtain⟨s,hs⟩:∃s:ByteArray,s=⟨(45::l).toArray⟩:=⟨_,rfl⟩
 obtain⟨b1,b2⟩:=zdd (45::l) s hs
 have hsz:s.size=l.length+1:=by rw[b1];simp
 have h1:0<s.size:=by omega
 have h2:1<s.size:=by omega
 have e0:(((s[0]'h1).toNat:Int)==45)=true:=by rw[b2 0 (by simp) h1];rfl
 have hb2:∀k (hb:k<s.size),1<=k->48<=(s[k]'hb).toNat/\(s[k]'hb).toNat<=57:=λk hb hk=>by
  obtain⟨j,rfl⟩:∃j,k=j+1:=⟨k-1,by omega⟩
  rw[b2 (j+1) (by simp;omega) hb]
  exact hd _ (by simp)
 have f1:(((s[1]'h2).toNat:Int)==48)=false:=by
  rw[beq_eq_false_iff_ne,b2 1 (by simp;omega) h2]
  cases l with
  |nil=>simp at hpos
  |cons c r=>have:=hh c r rfl;show((c.toNat:Int))≠48;omega
 show zC _ _ #[.string ⟨(45::l).toArray⟩] _ _
 rw[<-hs]
 have B2:=hid hb2
 have hw1:IntKind.i64.wrap ((s.size:Int)-1)=(s.size:Int)-1:=zI _ ⟨by omega,by omega⟩
 have h300:¬(300:Int)<(s.size:Int)-1:=by omega
 have h0':(0:Int)<s.size:=by omega
 have hz:((1:Int)==s.size)=false:=by rw[beq_eq_false_iff_ne];omega
 clear hb2 b1 b2 hs hd hh hll hpos hl h0
 go_enter Tryz.func197,Tryz.ntmps197
 go_wp2
 go_loop [4] (λi=>∃k:Nat,1<=k/\k<=s.size/\i=.int .i64 k) (λi=>s.size-(zL i).toNat)
 case atStart=>exact⟨1,zN _,by omega,rfl⟩
 case round=>
  obtain⟨k,hk1,hk,rfl⟩:=hrel
  by_cases hlt:k<s.size
  ·obtain⟨c1,c2⟩:=B2.out k hlt hk1
   have d1:(48:Int)<=(s[k].toNat:Int):=by omega
   have d2:(s[k].toNat:Int)<=57:=by omega
   go_wp2
   go_round
   case rel=>exact⟨k+1,by omega,by omega,by go_num⟩
   case measure=>simp[zL];omega
  ·go_wp2
   go_ret
   first|exact⟨rfl,rfl⟩|exact rfl|trivial
theorem zh6 (z:Int) (hl:digs z<=300) (w:zA):
 zC zF 197 #[St (zE z)] w λe w'=>e=.returned (.int .i64 0)/\w'=w:=by
 rcases zbg z with⟨h,e⟩|⟨h,e⟩<;>rw[e]
 ·exact ziz _ hl w
 ·exact zte _ (by omega) hl w
theorem zcb (x y:Int) (hx:digs x<=300) (hy:digs y<=300) (w:zA):
 zC zF 158 #[St (zE x),St (zE y)] w λe w'=>e=.returned (.int .i64 0)/\w'=w:=by
 have c1:=zh6 x hx w;have c2:=zh6 y hy w
 generalize zE x=u at*
 generalize zE y=v at*
 have C1:=hid c1;have C2:=hid c2
 clear c1 c2 hx hy
 go_enter Tryz.func158,Tryz.ntmps158
 go_wp2_with fail
 refine C1.out.mono ?_
 rintro e w' ⟨rfl,rfl⟩
 go_wp2_with fail
 refine C2.out.mono ?_
 rintro e w'' ⟨rfl,rfl⟩
 go_wp2_with fail
 go_ret
 exact⟨rfl,rfl⟩
theorem ztf (n:Nat) (h0:0<n) (hl:(zD n).length<=16) (w:zA):
 zC zF 198 #[St (45::zD n)] w λe w'=>e=.returned (.tuple #[.int .i64 (-(n:Int)),.bool true])/\w'=w:=by
 obtain⟨l,hll⟩:∃l,l=zD n:=⟨_,rfl⟩
 have hd:=zan n
 have hvn:=zb2 n
 rw[<-hll] at hd hvn hl⊢
 obtain⟨s,hs⟩:∃s:ByteArray,s=⟨(45::l).toArray⟩:=⟨_,rfl⟩
 obtain⟨b1,b2⟩:=zdd (45::l) s hs
 have hsz:s.size=l.length+1:=by rw[b1];simp
 have hvt:=λk hk=>zg3 (l:=l) hd (k:=k) hk
 have hs0:0<s.size:=by omega
 have e0:(((s[0]'hs0).toNat:Int)==45)=true:=by rw[b2 0 (by simp) hs0];rfl
 have e0':(((s[0]'hs0).toNat:Int) !=45)=false:=by rw[b2 0 (by simp) hs0];rfl
 have hst:∀k (hb:k+1<s.size),48<=(s[k+1]'hb).toNat/\(s[k+1]'hb).toNat<=57/\val (l.take (k+1))=10*val (l.take k)+((s[k+1]'hb).toNat-48):=λk hb=>by
  have hk:k<l.length:=by omega
  rw[b2 (k+1) (by simp;omega) hb,List.take_succ_eq_append_getElem hk,zde]
  exact⟨(hd _ (by simp)).1,(hd _ (by simp)).2,rfl⟩
 have hfull:val (l.take (s.size-1))=n:=by rw[hsz,Nat.add_sub_cancel,List.take_length];exact hvn
 show zC _ _ #[.string ⟨(45::l).toArray⟩] _ _
 rw[<-hs]
 have hs17:s.size<=17:=by omega
 generalize hvf:(λk=>val (l.take k))=vf at*
 have hvt':∀k,k<=17->vf k<100000000000000000:=by rw[<-hvf];exact hvt
 have hst':∀k (hb:k+1<s.size),48<=(s[k+1]'hb).toNat/\(s[k+1]'hb).toNat<=57/\vf (k+1)=10*vf k+((s[k+1]'hb).toNat-48):=by rw[<-hvf];exact hst
 have hfull':vf (s.size-1)=n:=by rw[<-hvf];exact hfull
 have hv0:vf 0=0:=by rw[<-hvf];rfl
 have VT:=hid hvt';have ST:=hid hst';have HF:=hid hfull';have V0:=hid hv0
 clear hvt' hst' hfull' hv0 hvt hst hfull hvf b1 b2 hs hd hl hll hvn hsz
 go_enter Tryz.func198,Tryz.ntmps198
 go_wp2
 go_loop [4,5] (λa i=>∃k:Nat,k<=s.size/\i=.int .i64 k/\a=.int .i64 (vf (k-1):Nat)) (λ_ i=>s.size-(zL i).toNat)
 case atStart=>exact⟨0,zR _,rfl,by rw[V0.out];rfl⟩
 case round=>
  obtain⟨k,hk,rfl,rfl⟩:=hrel
  by_cases hlt:k<s.size
  ·rcases Nat.eq_zero_or_pos k with rfl|hp
   ·go_wp2
    go_round
    case rel=>exact⟨1,by omega,by go_num,rfl⟩
    case measure=>simp[zL];omega
   ·obtain⟨j,rfl⟩:∃j,k=j+1:=⟨k-1,by omega⟩
    obtain⟨c1,c2,c3⟩:=ST.out j hlt
    have hv:=VT.out j (by omega)
    rw[Nat.add_sub_cancel]
    generalize vf j=v at*
    have C3:=hid c3;clear c3
    have d1:(48:Int)<=(s[j+1].toNat:Int):=by omega
    have d2:(s[j+1].toNat:Int)<=57:=by omega
    have d3:((s[j+1].toNat:Int) !=45)=true:=by simp;omega
    go_wp2
    go_round
    case rel=>exact⟨j+2,by omega,by go_num,by rw[show j+2-1=j+1 from rfl,C3.out];show Value.int .i64 _=Value.int .i64 _;congr 1;omega⟩
    case measure=>simp[zL];omega
  ·have hk':k=s.size:=by omega
   have HK:=hid hk';clear hk'
   have hvk:vf (k-1)=n:=by rw[HK.out];exact HF.out
   have hv:n<100000000000000000:=by rw[<-hvk];exact VT.out (k-1) (by omega)
   rw[hvk]
   have en:IntKind.i64.wrap (-(n:Int))= -(n:Int):=zI _ (by omega)
   clear hvk hv
   go_wp2
   go_ret2
   exact⟨rfl,rfl⟩
theorem zh7 (z:Int) (hl:(zE z).length<=17) (w:zA):
 zC zF 198 #[St (zE z)] w λe w'=>e=.returned (.tuple #[.int .i64 z,.bool true])/\w'=w:=by
 rcases zbg z with⟨h,e⟩|⟨h,e⟩<;>rw[e] at hl⊢
 ·have:=zi0 z.natAbs hl w
  rwa [show I z.natAbs=.int .i64 z by show Value.int .i64 _=Value.int .i64 _;congr 1;omega] at this
 ·have:=ztf z.natAbs (by omega) (by simp at hl;omega) w
  rwa [show-(z.natAbs:Int)=z by omega] at this
theorem zld (z:Int) (hl:17<(zE z).length) (h2:(zE z).length<=1000) (w:zA):
 zC zF 198 #[St (zE z)] w λe w'=>e=.returned (.tuple #[.int .i64 0,.bool false])/\w'=w:=by
 obtain⟨s,hs⟩:∃s:ByteArray,s=⟨(zE z).toArray⟩:=⟨_,rfl⟩
 have hz:s.size=(zE z).length:=by rw[hs];rfl
 show zC _ _ #[.string ⟨(zE z).toArray⟩] _ _
 rw[<-hs]
 have h1:(17:Int)<s.size:=by omega
 have h3:(s.size:Int)<=1000:=by omega
 clear hs hz hl h2
 go_enter Tryz.func198,Tryz.ntmps198
 go_wp2
 go_ret2
 exact⟨rfl,rfl⟩
theorem ze3 (x y:Int) (hx:(zE x).length<=17) (hy:(zE y).length<=17) (w:zA):
 zC zF 159 #[St (zE x),St (zE y)] w λe w'=>e=.returned (.tuple #[.int .i64 x,.int .i64 y,.bool true])/\w'=w:=by
 have c1:=zh7 x hx w;have c2:=zh7 y hy w
 generalize zE x=u at*
 generalize zE y=v at*
 have C1:=hid c1;have C2:=hid c2
 clear c1 c2 hx hy
 go_enter Tryz.func159,Tryz.ntmps159
 go_wp2_with fail
 refine C1.out.mono ?_
 rintro e w' ⟨rfl,rfl⟩
 go_wp2_with fail
 refine C2.out.mono ?_
 rintro e w'' ⟨rfl,rfl⟩
 go_wp2_with fail
 go_ret3
 exact⟨rfl,rfl⟩
theorem zf5 (x y:Int) (h:17<(zE x).length\/17<(zE y).length) (hx:(zE x).length<=1000) (hy:(zE y).length<=1000) (w:zA):
 zC zF 159 #[St (zE x),St (zE y)] w λe w'=>(∃a b,e=.returned (.tuple #[.int .i64 a,.int .i64 b,.bool false]))/\w'=w:=by
 by_cases h1:17<(zE x).length
 ·have c1:=zld x h1 hx w
  generalize zE x=u at*
  generalize zE y=v at*
  have C1:=hid c1
  clear c1 hx hy h h1
  go_enter Tryz.func159,Tryz.ntmps159
  go_wp2_with fail
  refine C1.out.mono ?_
  rintro e w' ⟨rfl,rfl⟩
  go_wp2_with fail
  go_ret3
  exact⟨⟨_,_,rfl⟩,rfl⟩
 ·have c1:=zh7 x (by omega) w
  have c2:=zld y (by omega) hy w
  generalize zE x=u at*
  generalize zE y=v at*
  have C1:=hid c1;have C2:=hid c2
  clear c1 c2 hx hy h h1
  go_enter Tryz.func159,Tryz.ntmps159
  go_wp2_with fail
  refine C1.out.mono ?_
  rintro e w' ⟨rfl,rfl⟩
  go_wp2_with fail
  refine C2.out.mono ?_
  rintro e w'' ⟨rfl,rfl⟩
  go_wp2_with fail
  go_ret3
  exact⟨⟨_,_,rfl⟩,rfl⟩
end Go.Proofs.YthfpmfdiamldoaaGreatDoor
namespace Go.Proofs.YthfpmfdiamldoaaGreatDoor.Limb
theorem zec {B:Nat} (hB:2<=B):∀(i n:Nat),(zaa B n)[i]?.getD 0=n/B^i%B
 |0,n=>by
  by_cases h:n=0
  ·subst h;rw[zaz];simp
  ·rw[zfl hB h];simp
 |i+1,n=>by
  by_cases h:n=0
  ·subst h;rw[zaz];simp
  ·rw[zfl hB h,List.getElem?_cons_succ,zec hB i,Nat.div_div_eq_div_mul,yO,yP]
theorem zpd {B n V:Nat} (hB:2<=B) (hV:V<B^(n+2)):V/B^(n+1)%B*B+V/B^n%B=V/B^n:=by
 have e:V/B^(n+1)=V/B^n/B:=by rw[yO,Nat.div_div_eq_div_mul]
 have h1:V/B^n<B*B:=by
  rw[Nat.div_lt_iff_lt_mul (Nat.pow_pos (by omega))]
  rw[yO,yO,Nat.mul_assoc,yP] at hV;exact hV
 have h2:V/B^n/B<B:=Nat.div_lt_of_lt_mul h1
 rw[e,Nat.mod_eq_of_lt h2,yP]
 exact Nat.div_add_mod _ _
theorem z16 {B n V R:Nat} (hB:2<=B) (hV:V<B^(n+2)) (_:0<V) (hR:R<B*V):
 ((R/B^(n+2)%B*B+R/B^(n+1)%B)*B+R/B^n%B)/(V/B^(n+1)%B*B+V/B^n%B+1)*V<=R/\
 ((R/B^(n+2)%B*B+R/B^(n+1)%B)*B+R/B^n%B)/(V/B^(n+1)%B*B+V/B^n%B+1)<B:=by
 rw[zpd hB hV]
 have hp:0<B^n:=Nat.pow_pos (by omega)
 have hR2:R<B^(n+3):=by
  rw[show n+3=(n+2)+1 from rfl,yO,yP]
  exact Nat.lt_trans hR (Nat.mul_lt_mul_of_pos_left hV (by omega))
 have hX:(R/B^(n+2)%B*B+R/B^(n+1)%B)*B+R/B^n%B=R/B^n:=by
  have e1:=zpd (n:=n+1) hB hR2
  rw[show n+1+1=n+2 from rfl] at e1
  rw[e1]
  have e:R/B^(n+1)=R/B^n/B:=by rw[yO,Nat.div_div_eq_div_mul]
  rw[e,yP]
  exact Nat.div_add_mod _ _
 rw[hX]
 have k1:V<(V/B^n+1)*B^n:=by rw[yP];exact Nat.lt_mul_div_succ V hp
 have k2:R/B^n/(V/B^n+1)*(V/B^n+1)<=R/B^n:=Nat.div_mul_le_self _ _
 have k3:R/B^n*B^n<=R:=Nat.div_mul_le_self _ _
 have h1:R/B^n/(V/B^n+1)*V<=R:=by
  have a1:=Nat.mul_le_mul_left (R/B^n/(V/B^n+1)) (Nat.le_of_lt k1)
  rw[<-Nat.mul_assoc] at a1
  have a2:=Nat.mul_le_mul_right (B^n) k2
  omega
 refine⟨h1,?_⟩
 exact Nat.lt_of_mul_lt_mul_right (Nat.lt_of_le_of_lt h1 hR)
end Go.Proofs.YthfpmfdiamldoaaGreatDoor.Limb
namespace Go.Proofs.YthfpmfdiamldoaaGreatDoor
open Go.RowKit Go.Shelf Lib Str Limb
attribute [local go_sem] Oper.semAt_some
def outL (N n t:Nat):List Nat:=(List.range N).map λp=>if N-1-p<t then 48+n/10^(N-1-p)%10 else 0
theorem zed (N n t:Nat):(outL N n t).length=N:=by simp[outL]
theorem ze4 (N n t p:Nat) (hp:p<N):(outL N n t)[p]? =some (if N-1-p<t then 48+n/10^(N-1-p)%10 else 0):=by
 simp[outL,hp]
theorem zpe (N n:Nat):outL N n 0=List.replicate N 0:=by
 apply List.ext_getElem?
 intro p
 by_cases hp:p<N
 ·rw[ze4 N n 0 p hp];simp[hp]
 ·rw[List.getElem?_eq_none (by rw[zed];omega),List.getElem?_eq_none (by simp;omega)]
theorem zpf (N n t:Nat) (ht:t<N):(outL N n t).set (N-1-t) (48+n/10^t%10)=outL N n (t+1):=by
 apply List.ext_getElem?
 intro p
 by_cases hp:p<N
 ·rw[ze4 N n (t+1) p hp,List.getElem?_set]
  by_cases he:N-1-t=p
  ·rw[if_pos he,if_pos (by rw[zed];omega)]
   have:N-1-p=t:=by omega
   rw[this,if_pos (by omega)]
  ·rw[if_neg he,ze4 N n t p hp]
   congr 1
   by_cases h1:N-1-p<t
   ·rw[if_pos h1,if_pos (by omega)]
   ·rw[if_neg h1,if_neg (by omega)]
 ·rw[List.getElem?_eq_none (by simp[zed];omega),List.getElem?_eq_none (by rw[zed];omega)]
theorem zle:∀N n,outL N n N=(padD N n).map UInt8.toNat
 |0,_=>rfl
 |N+1,n=>by
  rw[padD,List.map_append,<-zle N (n/10)]
  apply List.ext_getElem?
  intro p
  by_cases hp:p<N+1
  ·rw[ze4 (N+1) n (N+1) p hp,if_pos (by omega)]
   by_cases h:p<N
   ·rw[List.getElem?_append_left (by rw[zed];exact h),ze4 N (n/10) N p h,if_pos (by omega),Nat.div_div_eq_div_mul,show N+1-1-p=(N-1-p)+1 by omega,yO,yP (10^_) 10]
   ·have:p=N:=by omega
    subst this
    rw[List.getElem?_append_right (by rw[zed];omega),zed]
    simp
    omega
  ·rw[List.getElem?_eq_none (by rw[zed];omega),List.getElem?_eq_none (by simp[zed];omega)]
theorem zvc (n i j:Nat) (hj:j<6):n/B6^i%B6/10^j%10=n/10^(6*i+j)%10:=by
 have e:(10:Nat)^(6*i+j)=B6^i*10^j:=by rw[Nat.pow_add,Nat.pow_mul];rfl
 rw[e,<-Nat.div_div_eq_div_mul]
 generalize n/B6^i=a
 have h:B6=10^j*(10*10^(5-j)):=by
  rw[show 10*10^(5-j)=10^(6-j) by rw[show 6-j=(5-j)+1 by omega,yO,yP],<-Nat.pow_add,show j+(6-j)=6 by omega];rfl
 rw[h,Nat.mod_mul_right_div_self,Nat.mod_mul_right_mod]
def RowB (W:zA) (g:Nat) (l:List Nat):Prop:=∃cur:Array Value,W.heap[g]? =some (.cells cur 5 (0,0))/\cur.toList=l.map λx:Nat=>Value.int .u8 (x:Int)
theorem RowB.cell {W:zA} {g:Nat} {l:List Nat} (h:RowB W g l) {j x:Nat} (hx:l[j]? =some x):W.cell? ⟨g,j,none⟩=some (.int .u8 (x:Int)):=by
 obtain⟨cur,h1,h2⟩:=h
 rw[cell_of_row _ _ _ _ _ _ h1,<-Array.getElem?_toList,h2,List.getElem?_map,hx];rfl
theorem RowB.frozen {W:zA} {g:Nat} {l:List Nat} (h:RowB W g l) (j:Nat):W.frozen? ⟨g,j,none⟩=false:=by
 obtain⟨cur,h1,_⟩:=h
 simp[World.frozen?,h1]
theorem RowB.set {W:zA} {g:Nat} {l:List Nat} (h:RowB W g l) (j x:Nat):RowB (W.setCell ⟨g,j,none⟩ (.int .u8 (x:Int))) g (l.set j x):=by
 obtain⟨cur,h1,h2⟩:=h
 refine⟨cur.setIfInBounds j (.int .u8 (x:Int)),by simp[World.setCell,Array.getElem?_modify,h1],?_⟩
 rw[Array.toList_setIfInBounds,h2,List.map_set]
theorem infoByte:(Tryz.prog.info? 5).map (λi=>(i.zero,i.size,i.bytes))=some (some (.int .u8 0),1,1):=by kernel_rfl
theorem zrw {W:zA} {g N base:Nat} (h:W.ownsRow base 5 1 (.slice (some ⟨g,0,none⟩) N N) N ((List.replicate N 0).map λx=>Value.int .u8 ((x:Nat):Int))):RowB W g (List.replicate N 0):=by
 rcases h.2 with⟨e,_⟩|⟨g',cap,cur,e,h1,hg,h2,h3,h4,h5⟩
 ·cases e
 ·simp only[Value.slice.injEq,Option.some.injEq,Addr.mk.injEq,and_true,true_and] at e
  obtain⟨rfl,rfl⟩:=e
  refine⟨cur,hg,?_⟩
  rw[<-h5,List.take_of_length_le (by simp;omega)]
theorem zhf (dd:List UInt8):((⟨#[45]⟩:ByteArray)++(⟨dd.toArray⟩:ByteArray))=⟨(45::dd).toArray⟩:=by
 apply ByteArray.ext
 rw[ByteArray.data_append]
 apply Array.toList_inj.1
 simp
theorem zvd (m:Bool) (vx:Value) (n:Nat) (hn0:0<n) (w:zA) (hx:Sl w vx ((zaa B6 n).map I)) (lx:(zaa B6 n).length<=200):
 qJ 162 #[.agg #[.bool m,vx]] w (St (zE (sgn m n))):=by
 obtain⟨i0,hi,hz0,hz1,hz2⟩:=info_parts infoByte
 have hx':=hx
 obtain⟨px,cx,rfl,hcx, -⟩:=hx'
 simp only[List.length_map] at*
 have hl0:¬(zaa B6 n).length=0:=λh=>(Nat.ne_of_gt hn0) ((zbd (B:=B6) (by decide) n).1 (List.length_eq_zero_iff.1 h))
 have hlb:(((zaa B6 n).length:Int)==0)=false:=by rw[beq_eq_false_iff_ne];omega
 have hlt:=zgb (B:=B6) (by decide) n
 obtain⟨L,hL⟩:∃L,L=(zaa B6 n).length:=⟨_,rfl⟩
 have hb1:zB w.heap.size w (w.alloc (.cells #[.bool m,.slice px (zaa B6 n).length cx] 191)):=(zM _ w).alloc (zN _) _
 have A1:=heap_alloc_new w (.cells #[.bool m,.slice px (zaa B6 n).length cx] 191)
 obtain⟨W1,hW1⟩:∃W1,W1=w.alloc (.cells #[.bool m,.slice px (zaa B6 n).length cx] 191):=⟨_,rfl⟩
 rw[<-hW1] at hb1 A1
 have hlen1:W1.heap.size=w.heap.size+1:=by rw[hW1];simp
 have hx1:=hx.below hb1
 rw[<-hL] at hlb hl0 lx hlt hcx A1 hW1 hx1⊢
 obtain⟨N,hN⟩:∃N,N=6*L:=⟨_,rfl⟩
 have hNi:(6:Int)*(L:Int)=(N:Int):=by omega
 have hNb:N<=1200:=by omega
 have hn6:n<10^N:=by rw[hN,Nat.pow_mul];exact hlt
 have HN:=hid hN;have HL:=hid hL
 have H6:=hid hn6
 have HW1:=hid hW1
 have c10:W1.cell? ⟨w.heap.size,1,none⟩=some (.slice px L cx):=by simp[World.cell?,A1]
 have cells:∀X:zA,zB W1.heap.size W1 X->X.cell? ⟨w.heap.size,0,none⟩=some (.bool m)/\X.cell? ⟨w.heap.size,1,none⟩=some (.slice px L cx):=λX h=>by
  have e2:=(h.block w.heap.size (by omega)).trans A1
  refine⟨?_,?_⟩<;>simp[World.cell?,e2]
 have CL:=hid cells
 have H1:=hid (⟨hb1,hlen1,hx1⟩:_/\_/\_)
 clear hN hL hn6 hlt hW1 cells hb1 hlen1 hx1 hx hcx A1
 go_enter Tryz.func162,Tryz.ntmps162
 go_wp2_with (at_make;rw[<-HW1.out];refine wpList_make_full _ rfl _ _ 205 rfl W1.heap.size 5 i0 (.int .u8 0) 1 Tryz.underlying205 hi hz0 hz1 .i64 .i64 _ _ N rfl rfl (by omega) (by omega) (by rw[hz2];omega) (by unfold maxLen;omega) (zN _) ?_)
 intro w2 hown hgrow
 rw[toList_madeCells_one,<-show(List.replicate N 0).map (λx:Nat=>Value.int .u8 (x:Int))=List.replicate N (.int .u8 0) by simp] at hown
 have hrow:=zrw hown
 rw[<-zpe N n] at hrow
 have hB0:zB W1.heap.size W1 w2:=(zM _ _).grown hgrow (zN _) (λ_ e=>by cases e)
 have hg2:=(Array.getElem?_eq_some_iff.1 hrow.choose_spec.1).1
 clear hown hgrow c10
 obtain⟨g,hg⟩:∃g,g=W1.heap.size:=⟨_,rfl⟩
 rw[<-hg] at hrow⊢
 have HG:=hid hg;clear hg hg2
 go_wp2
 go_loopw [4] (λi wr=>∃k:Nat,k<=L/\i=.int .i64 k/\RowB wr g (outL N n (6*k))/\zB W1.heap.size W1 wr) (λi _=>L-(zL i).toNat)
 case atStart=>exact⟨0,zR _,rfl,hrow,hB0⟩
 case round=>
  clear hrow hB0
  obtain⟨k,hk,rfl,hrow,hB⟩:=hrel
  obtain⟨c0,c1⟩:=CL.out _ hB
  by_cases hlt:k<L
  ·have hsl:=H1.out.2.2.below hB
   rw[HL.out] at hsl
   obtain⟨bx,ox,rfl, -, -,hcx⟩:=hsl.at (i:=k) (by rw[<-HL.out];exact hlt)
   rw[zec (B:=B6) (by decide)] at hcx
   obtain⟨x0,hx0⟩:∃x0,x0=n/B6^k%B6:=⟨_,rfl⟩
   rw[<-hx0] at hcx
   have hx6:x0<1000000:=by rw[hx0];exact zP _ (by decide)
   have HX0:=hid hx0
   have HROW:=hid hrow
   have HB:=hid hB
   clear hsl hx0 hrow hB
   go_wp2
   go_loopw [5,6] (λa i wr'=>∃j:Nat,j<=6/\i=.int .i64 ((j:Int)+1)/\a=.int .i64 ((x0/10^j:Nat):Int)/\RowB wr' g (outL N n (6*k+j))/\zB W1.heap.size W1 wr') (λ_ i _=>7-(zL i).toNat)
   case atStart=>exact⟨0,by omega,rfl,by simp,HROW.out,HB.out⟩
   case round=>
    clear HROW HB c0 c1 hcx
    obtain⟨j,hj,rfl,rfl,hrow,hB⟩:=hrel
    by_cases hj6:j<6
    ·obtain⟨t,ht⟩:∃t,t=6*k+j:=⟨_,rfl⟩
     have htN:t<N:=by have:=HN.out;omega
     obtain⟨p,hp⟩:∃p,p=N-1-t:=⟨_,rfl⟩
     have hpi:(N:Int)-6*k-((j:Int)+1)=(p:Int):=by omega
     have hpN:p<N:=by omega
     rw[<-ht] at hrow
     have hcell:=hrow.cell (ze4 N n t p hpN)
     rw[if_neg (show ¬N-1-p<t by omega)] at hcell
     have hfz:=hrow.frozen p
     have hstep:=hrow.set p (48+n/10^t%10)
     rw[hp,zpf N n t htN,<-hp] at hstep
     obtain⟨x,hx⟩:∃x,x=x0/10^j:=⟨_,rfl⟩
     have hxb:x<1000000:=Nat.lt_of_le_of_lt (by rw[hx];exact Nat.div_le_self _ _) hx6
     obtain⟨y,hy⟩:∃y,y=48+x%10:=⟨_,rfl⟩
     have hyd:48+n/10^t%10=y:=by rw[hy,hx,HX0.out,zvc n k j hj6,ht]
     rw[hyd] at hstep
     have hyi:(48:Int)+(x:Int)%10=(y:Int):=by omega
     have hyb:y<=57:=by omega
     have hnext:x/10=x0/10^(j+1):=by rw[hx,Nat.div_div_eq_div_mul,yO]
     have HST:=hid (⟨hstep,hnext,ht⟩:_/\_/\_)
     have HBB:=hid (hB.setCell (p:=⟨g,p,none⟩) (by show W1.heap.size<=g;rw[HG.out];exact zN _) (.int .u8 (y:Int)))
     rw[<-hx]
     clear hstep hnext hy hyd hx hp ht hrow hB hx6
     go_wp2
     go_roundw
     case rel=>exact⟨j+1,by omega,by go_num,by rw[<-HST.out.2.1];show Value.int .i64 _=Value.int .i64 _;congr 1,by rw[show 6*k+(j+1)=6*k+j+1 by omega,<-HST.out.2.2];exact HST.out.1,HBB.out⟩
     case measure=>simp[zL];omega
    ·obtain rfl:j=6:=by omega
     have HROW:=hid hrow
     have HBB:=hid hB
     clear hrow hB
     generalize x0/10^6=xx at*
     go_wp2
     go_roundw
     case rel=>exact⟨k+1,by omega,by go_num,by rw[show 6*(k+1)=6*k+6 by omega];exact HROW.out,HBB.out⟩
     case measure=>simp[zL];omega
  ·obtain rfl:k=L:=by omega
   have hN6:6*k=N:=HN.out.symm
   rw[hN6,zle] at hrow
   have hD:=zan n
   obtain⟨D,hDl⟩:∃D,D=(zD n).length:=⟨_,rfl⟩
   have hpd:=zjv N n (by omega) H6.out
   rw[<-hDl] at hpd
   have hDN:D<=N:=by
    have h1:=zhw N n
    rw[hpd,List.length_append,List.length_replicate,<-hDl] at h1;omega
   have hD1:1<=D:=by have:=zbn (n:Int);unfold digs at this;rw[hDl];simpa using this
   obtain⟨Z,hZ⟩:∃Z,Z=N-D:=⟨_,rfl⟩
   rw[<-hZ] at hpd
   have cz:∀z,z<Z->wr.cell? ⟨g,z,none⟩=some (.int .u8 48):=λz hz=>by
    have:=hrow.cell (j:=z) (x:=48) (by rw[hpd,List.getElem?_map,List.getElem?_append_left (by simp;exact hz)];simp[hz])
    exact this
   have cd:∀j (hj:j<(zD n).length),wr.cell? ⟨g,Z+j,none⟩=some (.int .u8 ((zD n)[j].toNat:Int)):=λj hj=>by
    have:=hrow.cell (j:=Z+j) (x:=(zD n)[j].toNat) (by rw[hpd,List.getElem?_map,List.getElem?_append_right (by simp)];simp[hj])
    exact this
   have hf:∃c,(zD n)[0]? =some c/\c.toNat≠48:=by
    cases hdd:zD n with
    |nil=>rw[hDl,hdd] at hD1;simp at hD1
    |cons c r=>exact⟨c,rfl,zzE hn0 c r hdd⟩
   obtain⟨c,hc0,hc48⟩:=hf
   have cd0:wr.cell? ⟨g,Z,none⟩=some (.int .u8 (c.toNat:Int)):=by
    have:=cd 0 (by omega)
    rw[Nat.add_zero] at this
    rw[this]
    have e:(zD n)[0]'(by omega)=c:=by
     have:=yB (l:=zD n) (i:=0) (by omega)
     rw[hc0] at this;exact(Option.some.inj this).symm
    rw[e]
   have CZ:=hid cz
   have CONV:=hid (run_convert_bytes_back (P:=zF) wr 205 9 5 ⟨g,Z,none⟩ D (zD n) Tryz.underlying205 Tryz.underlying5 Tryz.underlying9 (λj hj=>by
    have:((⟨g,Z,none⟩:Addr).add j)=⟨g,Z+j,none⟩:=by simp only[Addr.add];split<;>simp_all
    rw[this];exact cd j hj))
   rw[<-hDl] at CONV
   have HBW:=hid (H1.out.1.trans (hB.mono (by have:=H1.out.2.1;omega)))
   have hc48':(((c.toNat:Nat):Int)==48)=false:=by rw[beq_eq_false_iff_ne];omega
   have hZN:Z+D=N:=by omega
   have HD:=hid hDl
   clear hrow cz cd hpd hc0 hDl hZ hc48 hD H6
   go_wp2
   go_loop [3] (λv=>∃z d:Nat,z<=Z/\z+d=N/\v=.slice (some ⟨g,z,none⟩) d d) (λv=>zqm v)
   case atStart=>exact⟨0,N,zR _,by omega,rfl⟩
   case round=>
    obtain⟨z,d,hz,hzd,rfl⟩:=hrel
    by_cases hzZ:z<Z
    ·have hcell:=CZ.out z hzZ
     go_wp2
     go_round
     case rel=>exact⟨z+1,d-1,by omega,by omega,rfl⟩
     case measure=>simp[zqm];omega
    ·obtain rfl:z=Z:=by omega
     obtain rfl:d=D:=by omega
     have conv:=CONV.out
     have HRES:=hid (show zE (sgn m n)=if m then 45::zD n else zD n by
      cases m
      ·rw[zkw];exact Str.zad n
      ·rw[zy0];exact Str.zga n hn0)
     have hdl:(zD n).length<=1200:=by rw[<-HD.out];omega
     clear CONV CZ CL H1 HW1 HN HL HD hlb
     generalize zD n=dd at*
     have hdl2:¬(9223372036854775807<1+dd.length):=by omega
     cases m
     ·go_wp2
      go_ret
      exact⟨by rw[HRES.out];rfl,HBW.out⟩
     ·go_wp2
      go_ret
      refine⟨?_,HBW.out⟩
      have e:=HRES.out
      simp only[if_true] at e
      rw[e]
      show Ending.returned (.string (_++_))=_
      rw[zhf]
theorem zxg (N n t j:Nat) (ht:t<=N) (hj:j<t):(outL N n t)[N-t+j]? =some (((padD t n)[j]'(by rw[zhw];exact hj)).toNat):=by
 rw[ze4 N n t (N-t+j) (by omega),if_pos (by omega)]
 have h1:=zle t n
 have h2:=ze4 t n t j hj
 rw[if_pos (by omega),h1,List.getElem?_map,yB (by rw[zhw];exact hj)] at h2
 rw[show N-1-(N-t+j)=t-1-j by omega]
 simp only[Option.map_some,Option.some.injEq] at h2
 rw[h2]
theorem zxh {n t:Nat} (h0:n/10^t=0) (ht:0<t) (h1:t=1\/n/10^(t-1)≠0):padD t n=zD n:=by
 have hlt:n<10^t:=by
  rcases Nat.lt_or_ge n (10^t) with h|h
  ·exact h
  ·have:=Nat.div_pos h (Nat.pow_pos (show 0<10 by omega));omega
 rw[zjv t n ht hlt]
 have hl:t-(zD n).length=0:=by
  rcases h1 with rfl|h1
  ·have:=zbn (n:Int);unfold digs at this;simp at this;omega
  ·have h2:10^(t-1)<=n:=by
    rcases Nat.lt_or_ge n (10^(t-1)) with h|h
    ·exact absurd (Nat.div_eq_of_lt h) h1
    ·exact h
   rcases Nat.lt_or_ge (zD n).length t with h3|h3
   ·rcases Nat.eq_zero_or_pos (t-1) with h4|h4
    ·have:=zbn (n:Int);unfold digs at this;simp at this;omega
    ·have:=(zaf n (t-1) h4).1 (by omega)
     omega
   ·omega
 rw[hl];rfl
theorem zlf (n:Nat) (hn:n<9000000000000000000) (w:zA):
 qJ 249 #[I n] w (St (zD n)):=by
 obtain⟨i0,hi,hz0,hz1,hz2⟩:=info_parts infoByte
 have hdig:n/10^19=0:=Nat.div_eq_of_lt (Nat.lt_trans hn (by decide))
 go_enter Tryz.func249,Tryz.ntmps249
 go_wp2_with (at_make;refine wpList_make_full _ rfl _ _ 205 rfl w.heap.size 5 i0 (.int .u8 0) 1 Tryz.underlying205 hi hz0 hz1 .i64 .i64 _ _ 20 rfl rfl (by omega) (by omega) (by rw[hz2];omega) (by unfold maxLen;omega) (zN _) ?_)
 intro w2 hown hgrow
 rw[toList_madeCells_one,<-show(List.replicate 20 0).map (λx:Nat=>Value.int .u8 (x:Int))=List.replicate 20 (.int .u8 0) by simp] at hown
 have hrow:=zrw hown
 rw[<-zpe 20 n] at hrow
 have hB0:zB w.heap.size w w2:=(zM _ _).grown hgrow (zN _) (λ_ e=>by cases e)
 clear hown hgrow
 obtain⟨g,hg⟩:∃g,g=w.heap.size:=⟨_,rfl⟩
 rw[<-hg] at hrow⊢
 have HG:=hid hg;clear hg
 have HD18:=hid hdig;clear hdig
 have HN:=hid hn
 go_wp2
 go_loopw [0,4] (λa i wr=>∃t:Nat,t<=18/\a=.int .i64 ((n/10^t:Nat):Int)/\i=.int .i64 ((20:Int)-t)/\RowB wr g (outL 20 n t)/\zB w.heap.size w wr/\(t=0\/n/10^t≠0)) (λ_ i _=>(zL i).toNat)
 case atStart=>exact⟨0,by omega,by simp,rfl,hrow,hB0,.inl rfl⟩
 case round=>
  clear hrow hB0
  obtain⟨t,ht,rfl,rfl,hrow,hB,hne⟩:=hrel
  obtain⟨p,hp⟩:∃p,p=20-1-t:=⟨_,rfl⟩
  have hpi:(20:Int)-t-1=(p:Int):=by omega
  have hp20:p<20:=by omega
  have hcell:=hrow.cell (ze4 20 n t p hp20)
  rw[if_neg (show ¬20-1-p<t by omega)] at hcell
  have hfz:=hrow.frozen p
  have hstep:=hrow.set p (48+n/10^t%10)
  rw[hp,zpf 20 n t (by omega),<-hp] at hstep
  obtain⟨x,hx⟩:∃x,x=n/10^t:=⟨_,rfl⟩
  rw[<-hx] at hstep hne⊢
  have hxb:x<9000000000000000000:=Nat.lt_of_le_of_lt (by rw[hx];exact Nat.div_le_self _ _) hn
  obtain⟨y,hy⟩:∃y,y=48+x%10:=⟨_,rfl⟩
  rw[<-hy] at hstep
  have hyi:(48:Int)+(x:Int)%10=(y:Int):=by omega
  have hyb:y<=57:=by omega
  have hnext:x/10=n/10^(t+1):=by rw[hx,Nat.div_div_eq_div_mul,yO]
  have hbb:=hB.setCell (p:=⟨g,p,none⟩) (by show w.heap.size<=g;rw[HG.out];exact zN _) (.int .u8 (y:Int))
  obtain⟨x',hx'⟩:∃x',x'=x/10:=⟨_,rfl⟩
  have hxi:(x:Int)/10=(x':Int):=by omega
  have hxb':x'<9000000000000000000:=by omega
  rw[<-hx'] at hnext
  by_cases h0:x'=0
  ·have hpad:padD (t+1) n=zD n:=zxh (by rw[<-hnext];exact h0) (by omega) (by
    rcases hne with h|h
    ·exact .inl (by omega)
    ·exact .inr (by rw[Nat.add_sub_cancel,<-hx];exact h))
   have hlen:(zD n).length=t+1:=by rw[<-hpad,zhw]
   have hconv:=run_convert_bytes_back (P:=zF) (wr.setCell ⟨g,p,none⟩ (.int .u8 (y:Int))) 205 9 5 ⟨g,p,none⟩ (t+1) (zD n) Tryz.underlying205 Tryz.underlying5 Tryz.underlying9 (λj hj=>by
    have e:((⟨g,p,none⟩:Addr).add j)=⟨g,p+j,none⟩:=by simp only[Addr.add];split<;>simp_all
    have h1:=zxg 20 n (t+1) j (by omega) (by omega)
    rw[show 20-(t+1)+j=p+j by omega] at h1
    have h2:=hstep.cell h1
    rw[e,h2]
    simp only[hpad])
   rw[hlen] at hconv
   obtain⟨T,hT⟩:∃T,T=t+1:=⟨_,rfl⟩
   rw[<-hT] at hconv
   have hTp:(20:Int)-p=(T:Int):=by omega
   have hTp2:20-p=T:=by omega
   have hpT:p+T=20:=by omega
   subst h0
   have HB:=hid hbb
   clear hstep hnext hy hx hp hrow hB hbb hpad hlen hne hT hx' hn HN HD18 hxb'
   generalize hdd:zD n=dd at*
   have HDD:=hid hdd;clear hdd
   go_wp2
   go_ret
   exact⟨by rw[HDD.out];rfl,HB.out⟩
  ·have hx0:((x':Int)==0)=false:=by rw[beq_eq_false_iff_ne];omega
   have ht18:t+1<=18:=by
    rcases Nat.lt_or_ge t 18 with h|h
    ·omega
    ·have:t=18:=by omega
     rw[this] at hnext
     rw[hnext] at h0
     exact absurd HD18.out h0
   have HST:=hid (⟨hstep,hnext,hbb⟩:_/\_/\_)
   have H0:=hid h0
   clear hstep hnext hy hx hp hrow hB hbb hne h0 hx' hn HN HD18
   go_wp2
   go_roundw
   case rel=>exact⟨t+1,ht18,by rw[<-HST.out.2.1],by show Value.int .i64 _=Value.int .i64 _;congr 1;omega,HST.out.1,HST.out.2.2,.inr (by rw[<-HST.out.2.1];exact H0.out)⟩
   case measure=>simp[zL];omega
theorem zd3 (a b:List UInt8):((⟨a.toArray⟩:ByteArray)++(⟨b.toArray⟩:ByteArray))=⟨(a++b).toArray⟩:=by
 apply ByteArray.ext
 rw[ByteArray.data_append]
 apply Array.toList_inj.1
 simp
theorem z17 (n:Int) (D:Nat) (hD:0<D):zE (n/(Int.gcd n (D:Int):Int))=(if n<0 then[45] else[])++zD (n.natAbs/Nat.gcd n.natAbs D):=by
 have hg:Int.gcd n (D:Int)=Nat.gcd n.natAbs D:=by rw[Int.gcd,Int.natAbs_natCast]
 rw[hg]
 obtain⟨g,hgg⟩:∃g,g=Nat.gcd n.natAbs D:=⟨_,rfl⟩
 rw[<-hgg]
 have hg0:0<g:=by rw[hgg];exact Nat.gcd_pos_of_pos_right _ hD
 obtain⟨q,hq⟩:∃q,n.natAbs=g*q:=by have:=Nat.gcd_dvd_left n.natAbs D;rw[<-hgg] at this;exact this
 rw[hq,Nat.mul_div_cancel_left _ hg0]
 by_cases h:n<0
 ·have e:n= -((g*q:Nat):Int):=by omega
  have hq0:0<q:=by
   rcases Nat.eq_zero_or_pos q with rfl|h'
   ·simp at hq;omega
   ·exact h'
  rw[if_pos h,e,show-((g*q:Nat):Int)=(g:Int)*(-(q:Int)) by rw[Int.natCast_mul,Int.mul_neg],Int.mul_ediv_cancel_left _ (by omega),Str.zga q hq0]
  rfl
 ·have e:n=((g*q:Nat):Int):=by omega
  rw[if_neg h,e,Int.natCast_mul,Int.mul_ediv_cancel_left _ (by omega),Str.zad]
  rfl
theorem zve (n:Int) (D:Nat) (hD:0<D):numS (Rat.divInt n (D:Int))=(if n<0 then[45] else[])++zD (n.natAbs/Nat.gcd n.natAbs D)++(if D/Nat.gcd n.natAbs D=1 then[] else 47::zD (D/Nat.gcd n.natAbs D)):=by
 rw[zif n D (by omega),z17 n D hD]
 have hg:Int.gcd n (D:Int)=Nat.gcd n.natAbs D:=by rw[Int.gcd,Int.natAbs_natCast]
 rw[hg,<-Int.natCast_ediv,Str.zad]
 congr 1
 by_cases h:D/Nat.gcd n.natAbs D=1
 ·rw[if_pos (by omega),if_pos h]
 ·rw[if_neg (by omega),if_neg h]
theorem z0z {n:Nat} (h:n<9000000000000000000):(zD n).length<=19:=(zaf n 19 (by omega)).2 (Nat.lt_trans h (by decide))
theorem zm1 (a b:Nat) (ha:a<9000000000000000000) (hb:b<9000000000000000000) (w:zA):
 zC zF 107 #[I a,I b] w λe w'=>∃nd,e=.returned (I (Nat.gcd a b))/\w'=w.drewN nd:=by
 obtain⟨g,hg⟩:∃g,g=Nat.gcd a b:=⟨_,rfl⟩
 rw[<-hg]
 have HG:=hid hg;clear hg
 go_enter Tryz.func107,Tryz.ntmps107
 go_wp2
 go_loopw [0,1] (λx y wr=>∃m n:Nat,x=I m/\y=I n/\Hid (Nat.gcd m n=g)/\m<9000000000000000000/\n<9000000000000000000/\∃nd,wr=w.drewN nd)
  (λ_ y _=>(zL y).toNat)
 case atStart=>exact⟨a,b,rfl,rfl,HG.out.symm,ha,hb,0,rfl⟩
 case round=>
  clear ha hb
  obtain⟨m,n,rfl,rfl,hgm,m1,n1,nd,rfl⟩:=hrel
  by_cases h0:n=0
  ·subst h0
   have hm:m=g:=by have:=hgm.out;rw[Nat.gcd_zero_right] at this;exact this
   have HM:=hid hm;clear hm
   go_wp2
   go_ret
   exact⟨nd,by rw[HM.out];rfl,rfl⟩
  ·have hn0:((n:Int) !=0)=true:=by simp;omega
   obtain⟨t,ht⟩:∃t,t=m%n:=⟨_,rfl⟩
   have ht1:t<n:=by rw[ht];exact zP _ (by omega)
   have hgt:=zh1 m n
   rw[<-ht] at hgt
   have hwr:IntKind.i64.wrap ((m:Int).tmod n)=(t:Int):=by
    rw[Int.tmod_eq_emod_of_nonneg (by omega),<-Int.natCast_emod,<-ht];exact zI _ (by omega)
   have hwe:((m:Int).tmod n)=(t:Int):=by rw[Int.tmod_eq_emod_of_nonneg (by omega),<-Int.natCast_emod,<-ht]
   have HGT:=hid hgt;have HW:=hid hwe;clear hgt ht hwe
   go_wp2
   (refine wp_region_quiet_lit (by kernel_rfl) (by kernel_rfl) (WQ.out ?_);(repeat(first|(apply WQ.read (by rfl);(focus(rintro W ⟨n,rfl⟩;go_simp;try with_reducible rfl));try simp only[zzQ])|(apply WQ.skip (by rfl);try simp only[zzQ])));refine WQ.nil ?_;rintro _ ⟨nq,rfl⟩)
   go_wp2
   go_roundw
   case rel=>exact⟨n,t,rfl,by first|rfl|(rw[HW.out])|(show Value.int .i64 _=Value.int .i64 _;congr 1;have:=HW.out;rw[<-this,Int.tmod_eq_emod_of_nonneg (by omega)]),HGT.out.trans hgm.out,n1,by omega,_,World.drewN_drewN _ _ _⟩
   case measure=>first|(show((m:Int).tmod n).toNat<(n:Int).toNat;rw[HW.out];omega)|(simp[zL];omega)
theorem zhg (n:Int) (D:Nat) (hn:n.natAbs<9000000000000000000) (hD:0<D) (hD2:D<9000000000000000000) (w:zA):
 qJ 189 #[.int .i64 n,I D] w (St (numS (Rat.divInt n (D:Int)))):=by
 rw[zve n D hD]
 have hgc:=λW=>zm1 n.natAbs D hn hD2 W
 obtain⟨g,hgg⟩:∃g,g=Nat.gcd n.natAbs D:=⟨_,rfl⟩
 rw[<-hgg] at hgc⊢
 have hg0:0<g:=by rw[hgg];exact Nat.gcd_pos_of_pos_right _ hD
 have hgd:g<=D:=by rw[hgg];exact Nat.gcd_le_right _ hD
 have hq:n.natAbs/g<=n.natAbs:=Nat.div_le_self _ _
 have hr:D/g<=D:=Nat.div_le_self _ _
 have hd1:=λW=>zlf (n.natAbs/g) (by omega) W
 have hd2:=λW=>zlf (D/g) (by omega) W
 have l1:=z0z (n:=n.natAbs/g) (by omega)
 have l2:=z0z (n:=D/g) (by omega)
 obtain⟨a,ha⟩:∃a,a=n.natAbs:=⟨_,rfl⟩
 obtain⟨q,hqq⟩:∃q,q=n.natAbs/g:=⟨_,rfl⟩
 obtain⟨r,hrr⟩:∃r,r=D/g:=⟨_,rfl⟩
 have q1:(a:Int)/(g:Int)=(q:Int):=by rw[<-Int.natCast_ediv,hqq,ha]
 have r1:(D:Int)/(g:Int)=(r:Int):=by rw[<-Int.natCast_ediv,hrr]
 rw[<-hqq] at hd1 l1 hq⊢
 rw[<-hrr] at hd2 l2 hr⊢
 rw[<-ha] at hgc hq hn
 have hg1:¬(g:Int)=0:=by omega
 have hqb:q<9000000000000000000:=by omega
 have hrb:r<9000000000000000000:=by omega
 have HGC:=hid hgc;have HD1:=hid hd1;have HD2:=hid hd2
 clear hgc hd1 hd2 hgg hgd hq hr hqq hrr hg0
 generalize hdq:zD q=dq at*
 generalize hdr:zD r=dr at*
 clear hdq hdr
 by_cases hneg:n<0
 ·have hna:IntKind.i64.wrap (-n)=(a:Int):=by rw[show-n=(a:Int) by omega];exact zI _ (by omega)
  rw[if_pos hneg]
  clear ha
  go_enter Tryz.func189,Tryz.ntmps189
  go_wp2_with fail
  refine(HGC.out w).mono ?_
  rintro e w1 ⟨nd,rfl,hw1⟩
  have hb1:zB w.heap.size w w1:=by rw[hw1];exact zzD (zM _ w) _
  have HB1:=hid hb1;clear hb1 hw1
  go_wp2_with fail
  refine(HD1.out w1).mono ?_
  rintro e w2 ⟨rfl,hb2⟩
  have HB2:=qT HB1 hb2;clear hb2
  have f1:¬(9223372036854775807<1+dq.length):=by omega
  by_cases hr1:r=1
  ·subst hr1
   go_wp2_with fail
   go_ret
   refine⟨?_,HB2.out⟩
   show Ending.returned (Value.string _)=Ending.returned (Value.string _)
   congr 2
   try(apply ByteArray.ext;apply Array.toList_inj.1;simp[ByteArray.data_append])
  ·have hrn:((r:Int)==1)=false:=by rw[beq_eq_false_iff_ne];omega
   have f2:¬(9223372036854775807<1+dq.length+1):=by omega
   have f3:¬(9223372036854775807<1+dq.length+1+dr.length):=by omega
   go_wp2_with fail
   refine(HD2.out w2).mono ?_
   rintro e w3 ⟨rfl,hb3⟩
   have HB3:=qT HB2 hb3;clear hb3
   go_wp2_with fail
   go_ret
   refine⟨?_,HB3.out⟩
   show Ending.returned (Value.string _)=Ending.returned (Value.string _)
   congr 2
   apply ByteArray.ext
   apply Array.toList_inj.1
   simp[ByteArray.data_append]
 ·have hna:n=(a:Int):=by omega
  have hnn:¬(a:Int)<0:=by omega
  rw[if_neg hneg,hna]
  clear ha hna hneg
  go_enter Tryz.func189,Tryz.ntmps189
  go_wp2_with fail
  refine(HGC.out w).mono ?_
  rintro e w1 ⟨nd,rfl,hw1⟩
  have hb1:zB w.heap.size w w1:=by rw[hw1];exact zzD (zM _ w) _
  have HB1:=hid hb1;clear hb1 hw1
  go_wp2_with fail
  refine(HD1.out w1).mono ?_
  rintro e w2 ⟨rfl,hb2⟩
  have HB2:=qT HB1 hb2;clear hb2
  have f1:¬(9223372036854775807<dq.length):=by omega
  by_cases hr1:r=1
  ·subst hr1
   go_wp2_with fail
   go_ret
   refine⟨?_,HB2.out⟩
   show Ending.returned (Value.string _)=Ending.returned (Value.string _)
   congr 2
   try(apply ByteArray.ext;apply Array.toList_inj.1;simp[ByteArray.data_append])
  ·have hrn:((r:Int)==1)=false:=by rw[beq_eq_false_iff_ne];omega
   have f2:¬(9223372036854775807<dq.length+1):=by omega
   have f3:¬(9223372036854775807<dq.length+1+dr.length):=by omega
   go_wp2_with fail
   refine(HD2.out w2).mono ?_
   rintro e w3 ⟨rfl,hb3⟩
   have HB3:=qT HB2 hb3;clear hb3
   go_wp2_with fail
   go_ret
   refine⟨?_,HB3.out⟩
   show Ending.returned (Value.string _)=Ending.returned (Value.string _)
   congr 2
   apply ByteArray.ext
   apply Array.toList_inj.1
   simp[ByteArray.data_append]
end Go.Proofs.YthfpmfdiamldoaaGreatDoor
namespace Go.Proofs.YthfpmfdiamldoaaGreatDoor
open Go.RowKit Lib Str Limb
theorem zvf (va:Value) (a:List Nat) (d:Nat) (w:zA) (ha:Sl w va (a.map I)) (la:a.length<=1000) (sa:zal B6 a) (hd0:0<d) (hd:d<B6):
 zC zF 200 #[va,I d] w (λe w'=>∃v1 v2,e=.returned (.tuple #[v1,v2])/\Sl w' v1 ((zaa B6 (valL B6 a/d)).map I)/\Sl w' v2 ((zaa B6 (valL B6 a%d)).map I)/\zB w.heap.size w w'):=by
 obtain⟨i0,hi,hz0,hz1,hz2⟩:=info_parts zdv
 have ha':=ha
 obtain⟨pa,ca,rfl,hca,hcella⟩:=ha
 have HA:=hid ha';clear ha' hcella hca
 have SA:=hid sa;clear sa
 simp only[List.length_map] at*
 have hd':d<1000000:=hd
 clear hd
 have hdz:¬(d:Int)=0:=by omega
 go_enter Tryz.func200,Tryz.ntmps200
 go_wp2_with (at_make;refine wpList_make_full _ rfl _ _ 107 rfl w.heap.size 3 i0 (.int .i64 0) 1 Tryz.underlying107 hi hz0 hz1 .i64 .i64 _ _ a.length rfl rfl (by omega) (by omega) (by rw[hz2];omega) (by unfold maxLen;omega) (zN _) ?_)
 intro w0 hown hgrow
 rw[toList_madeCells_one,<-show(List.replicate a.length 0).map I=List.replicate a.length (.int .i64 0) by simp] at hown
 obtain⟨hrow, -⟩:=Row.of_own hown
 have hB0:zB w.heap.size w w0:=(zM _ _).grown hgrow (zN _) (λ_ e=>by cases e)
 clear hown hgrow
 obtain⟨N,hN⟩:∃N,N=a.length:=⟨_,rfl⟩
 obtain⟨g,hg⟩:∃g,g=w.heap.size:=⟨_,rfl⟩
 rw[<-hg] at hrow⊢
 have HG:=hid hg;clear hg
 rw[<-hN] at hrow⊢
 have HN:=hid hN
 have hN1:N<=1000:=by omega
 clear hN la
 go_wp2
 go_loopw [7,8] (λc i wr=>∃k:Nat,k<=N/\i=.int .i64 ((N:Int)-1-k)/\c=I (za8 B6 d a k).2/\Row wr g N (za8 B6 d a k).1/\zB w.heap.size w wr)
  (λ_ i _=>(zL i+1).toNat)
 case atStart=>exact⟨0,zR _,by simp,rfl,by rw[za8,<-HN.out];exact hrow,hB0⟩
 case round=>
  clear hrow hB0
  obtain⟨k,hk,rfl,rfl,hrow,hB⟩:=hrel
  obtain⟨s1,s2,s3, -⟩:=zeo (B:=B6) hd0 SA.out k (by rw[<-HN.out];exact hk)
  by_cases hlt:k<N
  ·obtain⟨j,hj⟩:∃j,j=N-1-k:=⟨_,rfl⟩
   have hjI:(N:Int)-1-k=(j:Int):=by omega
   rw[hjI]
   have hja:j<a.length:=by rw[<-HN.out];omega
   obtain⟨ba,offa,rfl,hba,hcapa,hcx⟩:=(HA.out.below hB).at hja
   have hst:za8 B6 d a (k+1)=zdl B6 d (za8 B6 d a k) j (a[j]?.getD 0):=by rw[hj,HN.out];rfl
   have hx:=zaj SA.out (by decide) j
   have hx':a[j]?.getD 0<1000000:=hx
   have hJ:=hid hj
   have hjN:j<N:=by omega
   have hj1:j=N-1-k:=hj
   have hj2:(j:Int)-1=(N:Int)-1-((k+1:Nat):Int):=by omega
   have HJ2:=hid hj2
   have hlen:j<(za8 B6 d a k).1.length:=by rw[s1];exact hja
   have HST:=hid hst
   clear hst hx hj hj1 hj2 s1 s2 hjI
   generalize za8 B6 d a k=s at*
   obtain⟨l,r⟩:=s
   dsimp only at*
   generalize a[j]?.getD 0=x at*
   obtain⟨n,hn⟩:∃n,n=x+r*1000000:=⟨_,rfl⟩
   have hnI:(r:Int)*1000000+x=(n:Int):=by omega
   have e1:IntKind.i64.wrap ((r:Int)*1000000)=(r:Int)*1000000:=zI _ (by omega)
   have e2:IntKind.i64.wrap ((r:Int)*1000000+x)=(n:Int):=by rw[hnI];exact zI _ (by omega)
   obtain⟨q,hq⟩:∃q,q=n/d:=⟨_,rfl⟩
   obtain⟨m,hm⟩:∃m,m=n%d:=⟨_,rfl⟩
   have hq1:q<=n:=by rw[hq];exact Nat.div_le_self _ _
   have hm1:m<d:=by rw[hm];exact zP _ hd0
   have hq2:q<2000000000000:=by
    have:=Nat.mul_le_mul (show r<=999999 by omega) (zN 1000000)
    omega
   have hm2:m<1000000:=by omega
   have e3:(n:Int)/(d:Int)=(q:Int):=by rw[<-Int.natCast_ediv,<-hq]
   have e4:(n:Int)%(d:Int)=(m:Int):=by rw[<-Int.natCast_emod,<-hm]
   have hcell:=hrow.cell (getD_some hlen)
   have hfz:=hrow.frozen j
   have HROW:=hid hrow
   have HQ:=hid (⟨by rw[hq,hn],by rw[hm,hn]⟩:q=(x+r*1000000)/d/\m=(x+r*1000000)%d)
   clear hrow hlen hn hnI hq hm hq1 hm1
   generalize l[j]?.getD 0=z at*
   go_wp2
   go_roundw
   case rel=>
    refine⟨k+1,by omega,by rw[<-HJ2.out],by rw[HST.out,e4];show I m=I ((x+r*B6)%d);rw[HQ.out.2];rfl,?_,?_⟩
    ·rw[HST.out]
     show Row _ g N (l.set j ((x+r*B6)/d))
     rw[show(x+r*B6)/d=q from HQ.out.1.symm]
     exact Row.set HROW.out j q
    ·exact hB.setCell (by rw[HG.out];exact zN _) _
   case measure=>simp[zL]
  ·obtain rfl:k=N:=by omega
   have hend:(k:Int)-1-k= -1:=by omega
   rw[hend]
   obtain⟨f1,f2⟩:=zjq (B:=B6) (by decide) hd0 SA.out
   rw[<-HN.out] at f1 f2 s1
   have hsl:=hrow.sl
   rw[s1] at hsl
   have hr:(za8 B6 d a k).2<1000000:=by omega
   have HF:=hid (⟨f1,f2⟩:_/\_)
   have HSL:=hid hsl
   have HS1:=hid s1
   have HROW:=hid hrow
   clear f1 f2 s1 s2 s3 hsl hrow hend
   generalize hs:za8 B6 d a k=s at*
   obtain⟨l,r⟩:=s
   dsimp only at*
   have HSS:=hid hs;clear hs
   go_wp2_with fail
   refine(zeb _ _ _ l wr HSL.out (by rw[HS1.out];omega)).mono ?_
   rintro e w1 ⟨rfl,rfl⟩
   go_wp2_with fail
   have b1:zB wr.heap.size wr (wr.alloc (.cells #[I r] 3)):=(zM _ wr).alloc (zN _) _
   have A1:=heap_alloc_new wr (.cells #[I r] 3)
   have hs1:Sl (wr.alloc (.cells #[I r] 3)) (.slice (some ⟨wr.heap.size,0,none⟩) 1 1) ([r].map I):=by
    refine⟨_,_,rfl,zN _,λi x hx=>⟨_,_,rfl,?_⟩⟩
    match i,hx with
    |0,hx=>rw[<-hx];exact cell_of_row _ _ _ _ _ _ A1
   refine(zeb _ _ _ [r] _ hs1 (by simp)).mono ?_
   rintro e w1 ⟨rfl,hw1⟩
   have hw1':=hw1.symm;subst hw1'
   go_wp2_with fail
   go_ret2
   refine⟨_,_,rfl,?_,?_,hB.trans (b1.mono hB.size)⟩
   ·rw[<-HF.out.1]
    exact(Sl.trim_at HSL.out HS1.out).below b1
   ·rw[<-HF.out.2,<-zqr (B:=B6) (by decide) (show r<B6 from hr)]
    exact Sl.trim_at (n:=1) hs1 rfl
end Go.Proofs.YthfpmfdiamldoaaGreatDoor
