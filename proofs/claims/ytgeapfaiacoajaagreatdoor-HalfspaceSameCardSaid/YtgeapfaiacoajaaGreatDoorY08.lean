/- kingpostref02.Check. -/
import Derived.Test.YtgeapfaiacoajaaGreatDoorY07
import Derived.Maps.AppendAt
import Derived.Lib.IndexAny
import Derived.Deep.Quiet
import Derived.Laws.IdiomStrings
set_option maxRecDepth 100000
set_option maxHeartbeats 8000000
open Go renaming World → zA, Calls → zC
open Go.RowKit renaming Below → zB, intOf → zL
open Go.Lib renaming decDigits → zD, itoa → zE
open Go.Proofs.Tryz renaming prog → zF
open Go.World renaming alloc_heap_new → zG, size_alloc → zH
open Go.IntWalk renaming i64_in → zI
open Go.RowKit.Below renaming refl → zM
open Nat renaming le_refl → zN, zero_le → zR, pow_succ → yO, mul_comm → yP
open List renaming length_map → zV, getElem?_eq_getElem → yB
namespace Go.Proofs.YtgeapfaiacoajaaGreatDoor
open Go.RowKit Go.Shelf Lib Str Limb
attribute [local go_sem] Oper.semAt_some
theorem zxf (l:List UInt8):okS l↔zds (upS l)/\¬(l.head? =some 45/\upS l=[48])/\((47:UInt8)∉bare l\/(zds (dnS l)/\dnS l≠[48]/\dnS l≠[49]/\Nat.gcd (val (upS l)) (val (dnS l))=1)):=by
 unfold okS hasS;constructor
 ·rintro⟨h1,h2,h3⟩
  refine⟨h1,h2,?_⟩;by_cases h:(47:UInt8)∈bare l
  ·exact .inr (h3 h)
  ·exact .inl h
 ·rintro⟨h1,h2,h3⟩
  refine⟨h1,h2,λh=>?_⟩;rcases h3 with h3|h3
  ·exact absurd h h3
  ·exact h3
theorem zgl (l:List UInt8) (s:ByteArray) (hs:s=⟨l.toArray⟩) (k:List UInt8):(s.toList==k)=decide (l=k):=by
 rw[hs,ByteArray.toList_eq];by_cases h:l=k
 ·subst h;simp
 ·rw[decide_eq_false h];simpa using h
theorem ztd (x u v:ByteArray) (m sl b1 b2 z1 z2 z3:Bool) (g:Nat) (Q:Prop) (hu:u.size<=300) (hv:v.size<=300)
 (HQ:Hid (Q↔b1=true/\¬(m=true/\z3=true)/\(sl=false\/(b2=true/\z1=false/\z2=false/\g=1))))
 (e1:(v.toList==[48])=z1) (e2:(v.toList==[49])=z2) (e3:(u.toList==[48])=z3)
 (SP:Hid (∀W:zA,qJ 69 #[.string x] W (.tuple #[.bool m,.string u,.string v,.bool sl])))
 (D1:Hid (∀W:zA,zC zF 70 #[.string u] W λe w'=>e=.returned (.bool b1)/\w'=W))
 (D2:Hid (∀W:zA,zC zF 70 #[.string v] W λe w'=>e=.returned (.bool b2)/\w'=W))
 (SG:Hid (b1=true->b2=true->u.size<=9->v.size<=9->∃n d:Nat,(∀W:zA,zC zF 72 #[.string u] W λe w'=>e=.returned (I n)/\w'=W)/\(∀W:zA,zC zF 72 #[.string v] W λe w'=>e=.returned (I d)/\w'=W)/\
   ∀W:zA,qJ 71 #[I n,I d] W (I g)))
 (BG:Hid (b1=true->b2=true->∃t:ByteArray,(t.toList==[49])=decide (g=1)/\qK 73 #[.string u,.string v] (.tuple #[.string t,.int .i64 0])))
 (w:zA) (HW:Hid (Wd w)):
 zC zF 25 #[.string x] w λe w'=>∃r:Int,e=.returned (.int .i64 r)/\(r=0↔Q)/\zB w.heap.size w w':=by
 have u300:¬(300:Int)<u.size:=by omega
 have v300:¬(300:Int)<v.size:=by omega
 go_enter Tryz.func25,Tryz.ntmps25;go_wp21;refine zzM (SP.out w) λw1 hB=>?_;go_wp21;refine zzM (D1.out w1) λw2 hw=>?_;have hw2:=hw.symm;subst hw2;clear hw;cases b1
 ·have HN:=hid (by rw[HQ.out];simp:¬Q)
  go_wp21
  all_goals first|exact(zzU ‹_›).elim|skip
  go_ret;exact⟨11,rfl,⟨λh=>by simp at h,λh=>absurd h HN.out⟩,hB⟩
 ·cases sl
  ·cases m
   ·have HN:=hid (by rw[HQ.out];simp:Q)
    go_wp21
    all_goals first|exact(zzU ‹_›).elim|skip
    go_ret;exact⟨0,rfl,⟨λ_=>HN.out,λ_=>rfl⟩,hB⟩
   ·cases z3
    ·have HN:=hid (by rw[HQ.out];simp:Q)
     go_wp21
     all_goals first|exact(zzU ‹_›).elim|skip
     go_ret;exact⟨0,rfl,⟨λ_=>HN.out,λ_=>rfl⟩,hB⟩
    ·have HN:=hid (by rw[HQ.out];simp:¬Q)
     go_wp21
     all_goals first|exact(zzU ‹_›).elim|skip
     go_ret;exact⟨11,rfl,⟨λh=>by simp at h,λh=>absurd h HN.out⟩,hB⟩
  ·go_wp21
   all_goals first|exact(zzU ‹_›).elim|skip
   refine zzM (D2.out _) λw2 hw=>?_;have hw2:=hw.symm;subst hw2;clear hw;cases b2
   ·have HN:=hid (by rw[HQ.out];simp:¬Q)
    go_wp21
    all_goals first|exact(zzU ‹_›).elim|skip
    go_ret;exact⟨11,rfl,⟨λh=>by simp at h,λh=>absurd h HN.out⟩,hB⟩
   ·cases z1
    ·cases z2
     ·cases m
      ·by_cases h9:u.size<=9
       ·by_cases k9:v.size<=9
        ·have hu9:(u.size:Int)<=9:=by omega
         have hv9:(v.size:Int)<=9:=by omega
         obtain⟨n,d,s1,s2,s3⟩:=SG.out (by simp) (by simp) (by omega) (by omega);have S1:=hid s1;have S2:=hid s2;have S3:=hid s3;clear s1 s2 s3;go_wp21
         all_goals first|exact(zzU ‹_›).elim|skip
         refine zzM (S1.out _) λw2 hw=>?_;have hw2:=hw.symm;subst hw2;clear hw;go_wp21;refine zzM (S2.out _) λw2 hw=>?_;have hw2:=hw.symm;subst hw2;clear hw;go_wp21;refine zzM (S3.out _) λw2 hb2=>?_;have hB:=hB.trans (hb2.mono hB.size);clear hb2;by_cases hg:g=1
         ·have HN:=hid (by rw[HQ.out];simp[hg]:Q)
          have hgb:((g:Int) !=1)=false:=by subst hg;rfl
          clear hg;go_wp21;go_ret;exact⟨0,rfl,⟨λ_=>HN.out,λ_=>rfl⟩,hB⟩
         ·have HN:=hid (by rw[HQ.out];simp[hg]:¬Q)
          have hgb:((g:Int) !=1)=true:=by simp;omega
          clear hg;go_wp21;go_ret;exact⟨11,rfl,⟨λh=>by simp at h,λh=>absurd h HN.out⟩,hB⟩
        ·have hu9:(u.size:Int)<=9:=by omega
         have hv9:¬(v.size:Int)<=9:=by omega
         obtain⟨t,t1,t2⟩:=BG.out (by simp) (by simp);have T2:=hid (t2 w1 (HW.out.below hB));clear t2;go_wp21
         all_goals first|exact(zzU ‹_›).elim|skip
         refine zzM T2.out λw2 hb2=>?_;have hB:=hB.trans (hb2.mono hB.size);clear hb2 T2;by_cases hg:g=1
         ·have HN:=hid (by rw[HQ.out];simp[hg]:Q)
          rw[decide_eq_true hg] at t1;clear hg;go_wp21;go_ret;exact⟨0,rfl,⟨λ_=>HN.out,λ_=>rfl⟩,hB⟩
         ·have HN:=hid (by rw[HQ.out];simp[hg]:¬Q)
          rw[decide_eq_false hg] at t1;clear hg;go_wp21;go_ret;exact⟨11,rfl,⟨λh=>by simp at h,λh=>absurd h HN.out⟩,hB⟩
       ·have hu9:¬(u.size:Int)<=9:=by omega
        obtain⟨t,t1,t2⟩:=BG.out (by simp) (by simp);have T2:=hid (t2 w1 (HW.out.below hB));clear t2;go_wp21
        all_goals first|exact(zzU ‹_›).elim|skip
        refine zzM T2.out λw2 hb2=>?_;have hB:=hB.trans (hb2.mono hB.size);clear hb2 T2;by_cases hg:g=1
        ·have HN:=hid (by rw[HQ.out];simp[hg]:Q)
         rw[decide_eq_true hg] at t1;clear hg;go_wp21;go_ret;exact⟨0,rfl,⟨λ_=>HN.out,λ_=>rfl⟩,hB⟩
        ·have HN:=hid (by rw[HQ.out];simp[hg]:¬Q)
         rw[decide_eq_false hg] at t1;clear hg;go_wp21;go_ret;exact⟨11,rfl,⟨λh=>by simp at h,λh=>absurd h HN.out⟩,hB⟩
      ·cases z3
       ·by_cases h9:u.size<=9
        ·by_cases k9:v.size<=9
         ·have hu9:(u.size:Int)<=9:=by omega
          have hv9:(v.size:Int)<=9:=by omega
          obtain⟨n,d,s1,s2,s3⟩:=SG.out (by simp) (by simp) (by omega) (by omega);have S1:=hid s1;have S2:=hid s2;have S3:=hid s3;clear s1 s2 s3;go_wp21
          all_goals first|exact(zzU ‹_›).elim|skip
          refine zzM (S1.out _) λw2 hw=>?_;have hw2:=hw.symm;subst hw2;clear hw;go_wp21;refine zzM (S2.out _) λw2 hw=>?_;have hw2:=hw.symm;subst hw2;clear hw;go_wp21;refine zzM (S3.out _) λw2 hb2=>?_;have hB:=hB.trans (hb2.mono hB.size);clear hb2;by_cases hg:g=1
          ·have HN:=hid (by rw[HQ.out];simp[hg]:Q)
           have hgb:((g:Int) !=1)=false:=by subst hg;rfl
           clear hg;go_wp21;go_ret;exact⟨0,rfl,⟨λ_=>HN.out,λ_=>rfl⟩,hB⟩
          ·have HN:=hid (by rw[HQ.out];simp[hg]:¬Q)
           have hgb:((g:Int) !=1)=true:=by simp;omega
           clear hg;go_wp21;go_ret;exact⟨11,rfl,⟨λh=>by simp at h,λh=>absurd h HN.out⟩,hB⟩
         ·have hu9:(u.size:Int)<=9:=by omega
          have hv9:¬(v.size:Int)<=9:=by omega
          obtain⟨t,t1,t2⟩:=BG.out (by simp) (by simp);have T2:=hid (t2 w1 (HW.out.below hB));clear t2;go_wp21
          all_goals first|exact(zzU ‹_›).elim|skip
          refine zzM T2.out λw2 hb2=>?_;have hB:=hB.trans (hb2.mono hB.size);clear hb2 T2;by_cases hg:g=1
          ·have HN:=hid (by rw[HQ.out];simp[hg]:Q)
           rw[decide_eq_true hg] at t1;clear hg;go_wp21;go_ret;exact⟨0,rfl,⟨λ_=>HN.out,λ_=>rfl⟩,hB⟩
          ·have HN:=hid (by rw[HQ.out];simp[hg]:¬Q)
           rw[decide_eq_false hg] at t1;clear hg;go_wp21;go_ret;exact⟨11,rfl,⟨λh=>by simp at h,λh=>absurd h HN.out⟩,hB⟩
        ·have hu9:¬(u.size:Int)<=9:=by omega
         obtain⟨t,t1,t2⟩:=BG.out (by simp) (by simp);have T2:=hid (t2 w1 (HW.out.below hB));clear t2;go_wp21
         all_goals first|exact(zzU ‹_›).elim|skip
         refine zzM T2.out λw2 hb2=>?_;have hB:=hB.trans (hb2.mono hB.size);clear hb2 T2;by_cases hg:g=1
         ·have HN:=hid (by rw[HQ.out];simp[hg]:Q)
          rw[decide_eq_true hg] at t1;clear hg;go_wp21;go_ret;exact⟨0,rfl,⟨λ_=>HN.out,λ_=>rfl⟩,hB⟩
         ·have HN:=hid (by rw[HQ.out];simp[hg]:¬Q)
          rw[decide_eq_false hg] at t1;clear hg;go_wp21;go_ret;exact⟨11,rfl,⟨λh=>by simp at h,λh=>absurd h HN.out⟩,hB⟩
       ·have HN:=hid (by rw[HQ.out];simp:¬Q)
        go_wp21
        all_goals first|exact(zzU ‹_›).elim|skip
        go_ret;exact⟨11,rfl,⟨λh=>by simp at h,λh=>absurd h HN.out⟩,hB⟩
     ·have HN:=hid (by rw[HQ.out];simp:¬Q)
      go_wp21
      all_goals first|exact(zzU ‹_›).elim|skip
      go_ret;exact⟨11,rfl,⟨λh=>by simp at h,λh=>absurd h HN.out⟩,hB⟩
    ·have HN:=hid (by rw[HQ.out];simp:¬Q)
     go_wp21
     all_goals first|exact(zzU ‹_›).elim|skip
     go_ret;exact⟨11,rfl,⟨λh=>by simp at h,λh=>absurd h HN.out⟩,hB⟩
theorem z15 (g:Nat):zD g=[49]↔g=1:=by
 have e:zD 1=[49]:=by rw[zae (by omega)];rfl
 constructor
 ·intro h;exact zfk (h.trans e.symm)
 ·rintro rfl;exact e
end Go.Proofs.YtgeapfaiacoajaaGreatDoor
namespace Go.Proofs.YtgeapfaiacoajaaGreatDoor
open Go.RowKit Go.Shelf Lib Str Limb Geo
attribute [local go_sem] Oper.semAt_some
def BoolP (w:zA) (G:Prop) (e:Ending) (w':zA):Prop:=∃b:Bool,e=.returned (.bool b)/\(b=false↔G)/\zB w.heap.size w w'
theorem BoolP.no {w w':zA} {G:Prop} (h:¬G) (hb:qL w w'):BoolP w G (.returned (.bool true)) w':=⟨true,rfl,⟨λk=>by simp at k,λk=>absurd k h⟩,hb⟩
theorem BoolP.yes {w w':zA} {G:Prop} (h:G) (hb:qL w w'):BoolP w G (.returned (.bool false)) w':=⟨false,rfl,⟨λ_=>h,λ_=>rfl⟩,hb⟩
def IdxP (w:zA) (n:Nat) (G:Nat->Prop) (e:Ending) (w':zA):Prop:=∃k:Int,e=.returned (.int .i64 k)/\((k= -1/\∀i,i<n->G i)\/(0<=k/\∃i,i<n/\¬G i))/\zB w.heap.size w w'
theorem IdxP.hit {w w':zA} {n:Nat} {G:Nat->Prop} {k:Nat} (hk:k<n) (h:¬G k) (hb:qL w w'):IdxP w n G (.returned (.int .i64 (k:Int))) w':=⟨k,rfl,.inr ⟨by omega,k,hk,h⟩,hb⟩
theorem IdxP.none {w w':zA} {n:Nat} {G:Nat->Prop} (h:∀i,i<n->G i) (hb:qL w w'):IdxP w n G (.returned (.int .i64 (-1))) w':=⟨-1,rfl,.inl ⟨rfl,h⟩,hb⟩
def YesP (w:zA) (G:Prop) (e:Ending) (w':zA):Prop:=∃b:Bool,e=.returned (.bool b)/\(b=true↔G)/\zB w.heap.size w w'
theorem YesP.no {w w':zA} {G:Prop} (h:¬G) (hb:qL w w'):YesP w G (.returned (.bool false)) w':=⟨false,rfl,⟨λk=>by simp at k,λk=>absurd k h⟩,hb⟩
theorem YesP.yes {w w':zA} {G:Prop} (h:G) (hb:qL w w'):YesP w G (.returned (.bool true)) w':=⟨true,rfl,⟨λ_=>h,λ_=>rfl⟩,hb⟩
end Go.Proofs.YtgeapfaiacoajaaGreatDoor
namespace Go.Proofs.YtgeapfaiacoajaaGreatDoor.Geo
def onR (a b p:Pt):Prop:=cmpR p.x a.x*cmpR p.x b.x<=0/\cmpR p.y a.y*cmpR p.y b.y<=0
instance (a b p:Pt):Decidable (onR a b p):=by unfold onR;infer_instance
def cr (a b c:Pt):Rat:=(b.x-a.x)*(c.y-a.y)-(b.y-a.y)*(c.x-a.x)
def uniq (P:Pt->Bool):List Pt->List Pt->List Pt
 |acc,[]=>acc
 |acc,x::r=>uniq P (if P x&&!acc.contains x then acc++[x] else acc) r
def le (p q:Pt):Prop:=ordP p q<=0
theorem le_trans {p q r:Pt} (h:le p q) (k:le q r):le p r:=by unfold le at*;have:=zas p q;have:=zas q r;have:=zas p r;grind
theorem le_antisymm {p q:Pt} (h:le p q) (k:le q p):p=q:=by unfold le at*;have:=zas p q;have:=zas q p;grind
theorem le_total (p q:Pt):le p q\/le q p:=by unfold le;have:=zas p q;have:=zas q p;grind
end Go.Proofs.YtgeapfaiacoajaaGreatDoor.Geo
namespace Go.Proofs.YtgeapfaiacoajaaGreatDoor.Geo
end Go.Proofs.YtgeapfaiacoajaaGreatDoor.Geo
namespace Go.Proofs.YtgeapfaiacoajaaGreatDoor.Geo
end Go.Proofs.YtgeapfaiacoajaaGreatDoor.Geo
namespace Go.Proofs.YtgeapfaiacoajaaGreatDoor
open Go.RowKit Go.Shelf Lib Str Limb Geo
end Go.Proofs.YtgeapfaiacoajaaGreatDoor
namespace Go.Proofs.YtgeapfaiacoajaaGreatDoor
open Go.RowKit Go.Shelf Lib Str Limb Geo
attribute [local go_sem] Oper.semAt_some
end Go.Proofs.YtgeapfaiacoajaaGreatDoor
namespace Go.Proofs.YtgeapfaiacoajaaGreatDoor
open Go.RowKit Go.Shelf Lib Str Limb
attribute [local go_sem] Oper.semAt_some
abbrev BolQ (w:zA) (b:Bool) (e:Ending) (w':zA):Prop:=e=.returned (.bool b)/\zB w.heap.size w w'
theorem z6w (x y r:ByteArray) (is:Bool) (A:Nat) (xx:ByteArray)
 (RT:Hid (qK 76 #[.string xx,.string y] (.tuple #[.string r,.bool is,.int .i64 0])))
 (w:zA) (HW:Hid (Wd w)) (HA:Hid (w.cell? ⟨A,1,none⟩=some (.string xx))):
 zC zF 75 #[.agg #[.string x,.string y],.pointer (some ⟨A,0,none⟩)] w (BolQ w is):=by
 obtain⟨W0,hW0⟩:=zzX (w.alloc (.cells #[.string x,.string y] 69));have K0:=hid (show BxT w x y W0 by rw[hW0];exact BxT.start w x y);obtain⟨c0,c1⟩:=K0.out.cx;have a1:=(zac (show qL w W0 from K0.out.bel)).cell HA.out;rw[hW0] at c0 c1 a1;have H9:=hid hW0.symm;clear hW0;go_enter Tryz.func75,Tryz.ntmps75;go_wp21;rw[H9.out];clear c0 c1 a1 H9;refine zzM (RT.out W0 (HW.out.below K0.out.bel)) λw1 hb1=>?_;have K1:=hid (K0.out.next hb1);clear hb1 K0 RT;cases is
 ·go_wp21
  all_goals
   go_ret;exact⟨rfl,K1.out.bel⟩
 ·go_wp21
  all_goals
   go_ret;exact⟨rfl,K1.out.bel⟩
def RowTm (p:Option Addr) (n:Nat) (X Y:Nat->ByteArray) (W:zA):Prop:=∀i,i<n->∃b off,p=some ⟨b,off,none⟩/\W.cell? ⟨b,off+i*2,none⟩=some (.string (X i))/\W.cell? ⟨b,off+i*2+1,none⟩=some (.string (Y i))
theorem RowTm.keep {p:Option Addr} {n:Nat} {X Y:Nat->ByteArray} {W W':zA} (h:RowTm p n X Y W) (hc:CellsKept W W'):RowTm p n X Y W':=λi hi=>let ⟨b,off,e,h1,h2⟩:=h i hi;⟨b,off,e,hc.cell h1,hc.cell h2⟩
theorem z7r (p:Option Addr) (cap n:Nat) (X Y:Nat->ByteArray) (hl:n<=5000) (A:Nat) (C:zA->Prop) (hC:∀W W',C W->qL W W'->C W')
 (F:Hid (∀i,i<n->∀W:zA,Wd W->C W->zC zF 75 #[.agg #[.string (X i),.string (Y i)],.pointer (some ⟨A,0,none⟩)] W (BolQ W false)))
 (w:zA) (HW:Hid (Wd w)) (HC:Hid (C w)) (HP:Hid (RowTm p n X Y w)):
 qJ 116 #[.slice p n cap,.func (.func 75) #[] #[.pointer (some ⟨A,0,none⟩)]] w (.int .i64 (-1)):=by
 have HCC:=hid hC;clear hC;go_enter Tryz.func116,Tryz.ntmps116;go_wp2;go_loopw [8] (λi wr=>∃(k:Nat),k<=n/\i=.int .i64 (k:Int)/\Hid (qL w wr))
  (λi _=>n-(zL i).toNat)
 case atStart=>exact⟨0,zR _,rfl,zM _ _⟩
 case round=>
  obtain⟨k,hk,rfl,hB⟩:=hrel;by_cases hlt:k<n
  ·obtain⟨b,off,rfl,c0,c1⟩:=(HP.out.keep (zac hB.out)) k hlt
   have HF:=hid (F.out k hlt wr (HW.out.below hB.out) (HCC.out _ _ HC.out hB.out));generalize X k=x at*
   generalize Y k=y at*
   go_wp21;refine zzM HF.out λw2 hb2=>?_;have hB2:=hid (hB.out.trans (hb2.mono hB.out.size));clear hb2 HF;go_wp21;go_roundw
   case rel=>exact⟨k+1,by omega,by go_num,hB2⟩
   case measure=>simp[zL];omega
  ·have hkn:k=n:=by omega
   go_wp21;go_ret;exact⟨rfl,hB.out⟩
theorem z7s (p:Option Addr) (cap n A:Nat) (w:zA)
 (F:Hid (qJ 116 #[.slice p n cap,.func (.func 75) #[] #[.pointer (some ⟨A,0,none⟩)]] w (.int .i64 (-1)))):
 zC zF 62 #[.slice p n cap,.func (.func 75) #[] #[.pointer (some ⟨A,0,none⟩)]] w (BolQ w false):=by
 go_enter Tryz.func62,Tryz.ntmps62;go_wp21;refine zzM F.out λw1 hB=>?_;go_wp21;go_ret;exact⟨rfl,hB⟩
structure BxA (w:zA) (A:Nat) (x y:ByteArray) (W:zA):Prop where
 bel:qL w W
 bx:W.heap[A]? =some (.cells #[.string x,.string y] 69 (0,0))
section
variable {w W W':zA} {A:Nat} {x y:ByteArray}
theorem BxA.next (h:BxA w A x y W) (hb:qL W W'):BxA w A x y W':=
 ⟨h.bel.trans (hb.mono h.bel.size),(hb.block _ (Array.getElem?_eq_some_iff.1 h.bx).1).trans h.bx⟩
theorem BxA.cx (h:BxA w A x y W):W.cell? ⟨A,0,none⟩=some (.string x)/\W.cell? ⟨A,1,none⟩=some (.string y):=by have:=h.bx;simp[World.cell?,this]
end
theorem z2l (p:Option Addr) (cap n:Nat) (X Y:Nat->ByteArray) (hn:n<=16) (hcap:n<=cap)
 (RG:Hid (∀i,i<n->∀W:zA,Wd W->Pw W->qJ 74 #[.agg #[.string (X i),.string (Y i)]] W (.int .i64 0)))
 (CM:Hid (∀i,i+1<n->qK 9 #[.string (Y i),.string (Y (i+1))] (.tuple #[.int .i64 (-1),.int .i64 0])))
 (CT:Hid (∀k A,k<n->∀W:zA,Wd W->RowTm p n X Y W->W.cell? ⟨A,1,none⟩=some (.string (Y k))->zC zF 62 #[.slice p k cap,.func (.func 75) #[] #[.pointer (some ⟨A,0,none⟩)]] W (BolQ W false)))
 (w:zA) (HW:Hid (Wd w)) (HQ:Hid (Pw w)) (HP:Hid (RowTm p n X Y w)):
 qJ 26 #[.slice p n cap] w (.int .i64 0):=by
 have hn16:decide ((16:Int)<(n:Int))=false:=decide_eq_false (by omega);go_enter Tryz.func26,Tryz.ntmps26;go_wp21;clear hn16;go_loopw [13] (λi wr=>∃(k:Nat),k<=n/\i=.int .i64 (k:Int)/\Hid (qL w wr))
  (λi _=>n-(zL i).toNat)
 case atStart=>exact⟨0,zR _,rfl,zM _ _⟩
 case round=>
  obtain⟨k,hk,rfl,hB⟩:=hrel;by_cases hlt:k<n
  ·have HR:=hid λW (h:qL w W)=>HP.out.keep (zac h)
   obtain⟨b,off,hp,c0,c1⟩:=HR.out wr hB.out k hlt;subst hp;have HRG:=hid (RG.out k hlt);have HCT:=hid λA W hW hr hc=>CT.out k A hlt W hW hr hc;have HY:=hid (show ∀j,j+1=k->(qK 9 #[.string (Y j),.string (Y k)] (.tuple #[.int .i64 (-1),.int .i64 0])) from λj hj=>by subst hj;exact CM.out j hlt);obtain⟨j,hj⟩:=zzX (k-1);have HJ:=hid hj;obtain⟨x,hx⟩:=zzX (X k);obtain⟨y,hy⟩:=zzX (Y k);rw[<-hx,<-hy] at HRG;rw[<-hy] at HCT HY;rw[<-hx] at c0;rw[<-hy] at c1;clear hj hx hy;have HS:Hid (BxA w wr.heap.size x y (wr.alloc (.cells #[.string x,.string y] 69))):=hid (by
    have hal:qL wr (wr.alloc (.cells #[.string x,.string y] 69)):=(zM _ wr).alloc (zN _) _;exact⟨hB.out.trans (hal.mono hB.out.size),zG _ _⟩)
   obtain⟨g0,g1⟩:=HS.out.cx;go_wp21;clear hB c0 c1 g0 g1;obtain⟨W1,hW1⟩:=zzX (wr.alloc (.cells #[.string x,.string y] 69));rw[<-hW1] at HS⊢;clear hW1;generalize wr.heap.size=A at*
   refine zzM (HRG.out W1 (HW.out.below HS.out.bel) (HQ.out.below HS.out.bel)) λw2 hb2=>?_;have HS2:=hid (HS.out.next hb2);clear hb2 HS HRG;by_cases hk0:k=0
   ·have hkb:((k:Int)==0)=true:=by rw[hk0];rfl
    clear hk0;go_wp21;go_roundw
    case rel=>exact⟨k+1,by omega,by go_num,hid HS2.out.bel⟩
    case measure=>simp[zL];omega
   ·have hkb:((k:Int)==0)=false:=beq_eq_false_iff_ne.2 (by omega)
    have hjk:j+1=k:=by have:=HJ.out;omega
    have HCM:=hid (HY.out j hjk);have hw1:IntKind.i64.wrap ((k:Int)-1)=(j:Int):=by rw[zI _ ⟨by omega,by omega⟩];omega
    have hjn:j<n:=by omega
    have hkc:(k:Int)<=(cap:Int):=by omega
    have HRj:=hid (λW h=>(by
     obtain⟨b',off',e,d0,d1⟩:=HR.out W h j hjn;obtain⟨rfl,rfl⟩:b=b'/\off=off':=by simpa using e
     exact d1):∀W,qL w W->W.cell? ⟨b,off+j*2+1,none⟩=some (.string (Y j)))
    generalize Y j=yj at*
    clear HY hjk hk0;go_wp21;refine zbl (λ_ W=>BxA w A x y W) (by kernel_rfl) (by kernel_rfl) (HS2.out.next (zM _ _).drew) ?_;refine qR (.slice (some ⟨b,off,none⟩) n cap) ?_;refine qR (.int .i64 (k:Int)) ?_;refine qR (.int .i64 (j:Int)) ?_;simp only[zzQ];refine qR (.pointer (some ⟨b,off+j*2,none⟩)) ?_;refine qR (.pointer (some ⟨b,off+j*2+1,none⟩)) ?_;refine qR (.string yj) ?_ (hy:=λf W' hf h=>by have c0:=HRj.out _ h.bel;go_simp);simp only[zzQ];refine qR (.pointer (some ⟨A,1,none⟩)) ?_;refine qR (.string y) ?_ (hy:=λf W' hf h=>by obtain⟨c0,c1⟩:=h.cx;go_simp);simp only[zzQ]
    refine zar (.tuple #[.int .i64 (-1),.int .i64 0]) (by rfl) (λf W' hf h C' hC'=>by
     go_simp;refine zzM (HCM.out _ (HW.out.below h.bel)) λw' hb=>?_;exact⟨rfl,hC' _ (h.next hb)⟩) ?_
    refine qR (.tuple #[.int .i64 (-1),.int .i64 0]) ?_;refine qR (.int .i64 (-1)) ?_;simp only[zzQ];refine qR (.int .i64 0) ?_;refine qR (.int .i64 (-1)) ?_;refine qR (.int .i64 0) ?_;simp only[zzQ];refine zck λf W5 hf h5=>?_;have HS5:=hid h5;clear hf h5 HS2 HCM HRj;have HCC:=hid (HCT.out A W5 (HW.out.below HS5.out.bel) (HR.out _ HS5.out.bel) HS5.out.cx.2);clear HCT;go_wp21;refine zzM HCC.out λw6 hb6=>?_;have HS6:=hid (HS5.out.next hb6);clear hb6 HS5 HCC;go_wp21;go_roundw
    case rel=>exact⟨k+1,by omega,by go_num,hid HS6.out.bel⟩
    case measure=>simp[zL];omega
  ·have hkn:k=n:=by omega
   go_wp21;go_ret;exact⟨rfl,hB.out⟩
end Go.Proofs.YtgeapfaiacoajaaGreatDoor
namespace Go.Proofs.YtgeapfaiacoajaaGreatDoor
open Go.RowKit Go.Shelf Lib Str Limb Geo
attribute [local go_sem] Oper.semAt_some
structure NrmR (r:Nat):Prop where
 pos:0<r
 len:(zD r).length<=16
 nc:zn7 r=(1,r)
structure TrmR (c:Rat) (r:Nat):Prop where
 ne:c≠0
 sc:sz c 60
 nr:NrmR r
theorem z8b (c:Rat) (r:Nat) (h:TrmR c r) (w:zA) (hw:Wd w) (hp:Pw w):
 qJ 74 #[.agg #[St (numS c),St (zD r)]] w (.int .i64 0):=by
 have okc:=zd0 (by omega) (by omega) h.sc;have lr:=h.nr.len;have sr:sz (r:Rat) 16:=zrg (by omega) lr;have okr:=zd0 (by omega) (by omega) sr;have dc:=zok (k:=60) (by omega) h.sc;have d1:zD 1=[49]:=by rw[zae (by omega)];rfl
 refine z6v ⟨(numS c).toArray⟩ ⟨(zD r).toArray⟩ _ (max ((zD r).length:Int) (([49]:List UInt8).length:Int)) ?_ ?_ ?_ (hid λW hW=>zfj c okc W hW) (hid λW hW=>?_) (hid λW hW=>znp c okc W hW) (hid λW hW=>?_) (hid ?_) w (hid hw) (hid hp)
 ·rw[ByteArray.toList_eq,beq_eq_false_iff_ne]
  exact λe=>h.ne ((zpy c).1 (by simpa using e))
 ·have:=dc.1;have:=dc.2
  rw[zd9];omega
 ·show ¬(40:Int)<max ((zD r).length:Int) 1
  omega
 ·have:=zfj (r:Rat) okr W hW
  rw[zhe] at this;exact this
 ·have:=znp (r:Rat) okr W hW
  rw[zhe,show(r:Rat).num=(r:Int) from rfl,show(r:Rat).den=1 from rfl,zd9,zd9,d1] at this;exact this
 ·by_cases h1:r=1
  ·left
   rw[h1,ByteArray.toList_eq,d1];rfl
  ·right
   refine⟨zhl (n:=r) rfl 1 (by omega) h1,zhl (n:=r) rfl 0 (by omega) (by have:=h.nr.pos;omega),λW _=>?_,λW _=>?_,λW hW hP=>?_⟩
   ·have:=Tryz.strings_HasPrefix ⟨(zD r).toArray⟩ ⟨#[45]⟩ W
    have e:Lib.hasPrefix (zD r) [45]=false:=by
     have:=zdx (r:Int);rw[Str.zad] at this;rw[this,decide_eq_false (by omega)]
    rw[show(⟨(zD r).toArray⟩:ByteArray).data.toList=zD r from rfl,show(⟨#[45]⟩:ByteArray).data.toList=[45] from rfl,e] at this;refine this.mono ?_;rintro e w' ⟨rfl,rfl⟩;exact⟨rfl,zM _ _⟩
   ·have:=Tryz.strings_Contains_one ⟨(zD r).toArray⟩ 47 W
    have e:decide (0<=Lib.indexByte (zD r) 47)=false:=by
     rw[<-Lib.contains_iff_indexByte];rw[Bool.eq_false_iff];intro k;have hm:=List.contains_iff_mem.1 k;have:=(zan r 47 hm).1;exact absurd this (by decide)
    rw[show(⟨(zD r).toArray⟩:ByteArray).data.toList=zD r from rfl,e] at this;refine this.mono ?_;rintro e w' ⟨rfl,rfl⟩;exact⟨rfl,zM _ _⟩
   ·have:=z4c r h.nr.pos lr W hW hP
    rw[h.nr.nc,d1] at this;exact this
def z5c (p q:Rat):Bool:=decide (isq (p/q).num.natAbs*isq (p/q).num.natAbs=(p/q).num.natAbs)&&decide (isq (p/q).den*isq (p/q).den=(p/q).den)
structure SurdR (n:Nat) (c:Nat->Rat) (r:Nat->Nat):Prop where
 len:n<=16
 trm:∀i,i<n->TrmR (c i) (r i)
 ord:∀i,i+1<n->r i<r (i+1)
 apt:∀i k,i<k->k<n->z5c (r k:Rat) (r i:Rat)=false
theorem zos (p:Option Addr) (cap n:Nat) (c:Nat->Rat) (r:Nat->Nat) (h:SurdR n c r) (hcap:n<=cap) (w:zA) (hw:Wd w) (hq:Pw w) (hp:RowTm p n (λi=>⟨(numS (c i)).toArray⟩) (λi=>⟨(zD (r i)).toArray⟩) w):
 qJ 26 #[.slice p n cap] w (.int .i64 0):=by
 have sr:∀i,i<n->sz (r i:Rat) 16:=λi hi=>zrg (by omega) (h.trm i hi).nr.len;have up:∀i,i<n->sz (r i:Rat) 90:=λi hi=>(sr i hi).mono (by omega);have pos:∀i,i<n->(0:Rat)<(r i:Rat):=λi hi=>by
  have:=(h.trm i hi).nr.pos;exact_mod_cast this
 refine z2l p cap n _ _ h.len hcap (hid λi hi W hW hP=>z8b _ _ (h.trm i hi) W hW hP) (hid λi hi W hW=>?_) (hid λk A hk W hW hr hA=>?_) w (hid hw) (hid hq) (hid hp)
 ·have:=zgq (r i:Rat) (r (i+1):Rat) 16 16 (by omega) (by omega) (by omega) (sr i (by omega)) (sr (i+1) hi) W hW
  rw[zhe,zhe] at this;have e:cmpR (r i:Rat) (r (i+1):Rat)= -1:=by
   have h1:=h.ord i hi;have h2:(r i:Rat)<(r (i+1):Rat):=by exact_mod_cast h1
   have:=zaw (r i:Rat) (r (i+1):Rat);grind
  rw[e] at this;exact this
 ·refine z7s p cap k A W (hid (z7r p cap k _ _ (by have:=h.len;omega) A (λV=>V.cell? ⟨A,1,none⟩=some (.string ⟨(zD (r k)).toArray⟩)) (λV V' hv hb=>(zac hb).cell hv) (hid λi hi V hV hc=>?_) W (hid hW) (hid hA) (hid λi hi=>hr i (by omega))))
  refine z6w _ _ ⟨#[]⟩ false A _ (hid λU hU=>?_) V (hid hV) (hid hc)
  ·have:=zvz (r k:Rat) (r i:Rat) (Rat.le_of_lt (pos k hk)) (pos i (by omega)) (up k hk) (up i (by omega)) _ _ (zv0 _) (zv0 _) U hU
   have e:=h.apt i k hi hk;unfold z5c at e;rw[e,zhe,zhe] at this;exact this
def ErrP (w:zA) (G:Prop) (e:Ending) (w':zA):Prop:=∃r:Int,e=.returned (.int .i64 r)/\(r=0->G)/\zB w.heap.size w w'
theorem z3l (x y:ByteArray) (a b:Int) (pm ct:Bool) (ha:¬60<a) (hb:¬40<b)
 (C1:Hid (qK 41 #[.string x] (.int .i64 0)))
 (C2:Hid (qK 41 #[.string y] (.int .i64 0)))
 (L1:Hid (qK 103 #[.string x] (.int .i64 a)))
 (L2:Hid (qK 103 #[.string y] (.int .i64 b)))
 (HPX:Hid (∀W:zA,qJ 98 #[.string y,.string ⟨#[45]⟩] W (.bool pm)))
 (CT:Hid (∀W:zA,qJ 125 #[.string y,.string ⟨#[47]⟩] W (.bool ct)))
 (G:Prop) (HG1:Hid ((x.toList==[48])=false->(y.toList==[49])=true->G))
 (NM:Hid ((x.toList==[48])=false->pm=false->ct=false->(y.toList==[48])=false->∃k l:ByteArray,((k.toList==[49])=true->(l.toList==y.toList)=true->G)/\∀W:zA,Wd W->Pw W->qJ 126 #[.string y] W (.tuple #[.string k,.string l,.int .i64 0])))
 (w:zA) (HW:Hid (Wd w)) (HP:Hid (Pw w)):
 zC zF 74 #[.agg #[.string x,.string y]] w (ErrP w G):=by
 obtain⟨W0,hW0⟩:=zzX (w.alloc (.cells #[.string x,.string y] 69));have K0:=hid (show BxT w x y W0 by rw[hW0];exact BxT.start w x y);obtain⟨c0,c1⟩:=K0.out.cx;rw[hW0] at c0 c1;have H9:=hid hW0.symm;clear hW0;go_enter Tryz.func74,Tryz.ntmps74;go_wp21;rw[H9.out];clear c0 c1 H9;refine zzM (C1.out W0 (HW.out.below K0.out.bel)) λw1 hb1=>?_;have K1:=hid (K0.out.next hb1);clear hb1 K0 C1;obtain⟨c0,c1⟩:=K1.out.cx;go_wp21;clear c0 c1;refine zzM (C2.out w1 (HW.out.below K1.out.bel)) λw2 hb2=>?_;have K2:=hid (K1.out.next hb2);clear hb2 K1 C2;obtain⟨c0,c1⟩:=K2.out.cx;cases hx0:(x.toList==[48])
 ·have X0:=hid hx0
  go_wp21;clear c0 c1;refine zzM (L1.out w2 (HW.out.below K2.out.bel)) λw3 hb3=>?_;have K3:=hid (K2.out.next hb3);clear hb3 K2 L1;obtain⟨c0,c1⟩:=K3.out.cx;go_wp21;clear c0 c1;refine zzM (L2.out w3 (HW.out.below K3.out.bel)) λw4 hb4=>?_;have K4:=hid (K3.out.next hb4);clear hb4 K3 L2;obtain⟨c0,c1⟩:=K4.out.cx;cases h1:(y.toList==[49])
  ·clear HG1
   go_wp21;clear c0 c1;refine zzM (HPX.out w4) λw5 hb5=>?_;have K5:=hid (K4.out.next hb5);clear hb5 K4 HPX;obtain⟨c0,c1⟩:=K5.out.cx;cases pm
   ·cases h0:(y.toList==[48])
    ·have Y0:=hid h0
     go_wp21;clear c0 c1;refine zzM (CT.out w5) λw6 hb6=>?_;have K6:=hid (K5.out.next hb6);clear hb6 K5 CT;obtain⟨c0,c1⟩:=K6.out.cx;cases ct
     ·obtain⟨k,l,hG,hN⟩:=NM.out hx0 (by first|rfl|trivial) (by first|rfl|trivial) h0
      have HN:=hid hN;have HGG:=hid hG;clear hN hG NM;go_wp21;clear c0 c1;refine zzM (HN.out w6 (HW.out.below K6.out.bel) (HP.out.below K6.out.bel)) λw7 hb7=>?_;have K7:=hid (K6.out.next hb7);clear hb7 K6 HN;obtain⟨c0,c1⟩:=K7.out.cx;cases hk:(k.toList==[49])
      ·go_wp21
       go_ret;exact⟨_,rfl,(λh=>by cases h),K7.out.bel⟩
      ·cases hl:(l.toList==y.toList)
       ·have hl2:(y.toList==l.toList)=false:=by rw[beq_eq_false_iff_ne] at hl⊢;exact λe=>hl e.symm
        go_wp21;go_ret;exact⟨_,rfl,(λh=>by cases h),K7.out.bel⟩
       ·have hl2:(y.toList==l.toList)=true:=by rw[beq_iff_eq] at hl⊢;exact hl.symm
        have hg:=hid (HGG.out hk hl);go_wp21;go_ret;exact⟨_,rfl,λ_=>hg.out,K7.out.bel⟩
     ·clear NM
      go_wp21;go_ret;exact⟨_,rfl,(λh=>by cases h),K6.out.bel⟩
    ·clear NM CT
     go_wp21;go_ret;exact⟨_,rfl,(λh=>by cases h),K5.out.bel⟩
   ·clear NM CT
    go_wp21;go_ret;exact⟨_,rfl,(λh=>by cases h),K5.out.bel⟩
  ·have hg:=hid (HG1.out hx0 h1)
   clear NM CT HPX;go_wp21;go_ret;exact⟨_,rfl,λ_=>hg.out,K4.out.bel⟩
 ·clear NM CT HPX HG1 L1 L2
  go_wp21;go_ret;exact⟨_,rfl,(λh=>by cases h),K2.out.bel⟩
theorem z4j (p:Option Addr) (cap:Nat) (bb:Bool) (x y:ByteArray) (A:Nat) (C:zA->Prop) (_:∀W W',C W->qL W W'->C W')
 (F:Hid (∀W:zA,Wd W->C W->zC zF 75 #[.agg #[.string x,.string y],.pointer (some ⟨A,0,none⟩)] W (BolQ W bb)))
 (w:zA) (HW:Hid (Wd w)) (HC:Hid (C w)) (HP:Hid (∃b off,p=some ⟨b,off,none⟩/\w.cell? ⟨b,off,none⟩=some (.string x)/\w.cell? ⟨b,off+1,none⟩=some (.string y))):
 qJ 116 #[.slice p 1 cap,.func (.func 75) #[] #[.pointer (some ⟨A,0,none⟩)]] w (.int .i64 (if bb=true then 0 else-1)):=by
 obtain⟨b,off,rfl,c0,c1⟩:=HP.out;go_enter Tryz.func116,Tryz.ntmps116;go_wp2;refine wp_loop_rounds 2 ?_;rw[rounds_succ];go_wp21;refine zzM (F.out w HW.out HC.out) λw2 hb2=>?_;have hB2:=hid hb2;clear hb2 F c0 c1;cases bb
 ·go_wp21
  rw[rounds_succ];go_wp21;go_ret;exact⟨rfl,hB2.out⟩
 ·go_wp21
  go_ret;exact⟨rfl,hB2.out⟩
theorem z4k (p:Option Addr) (cap:Nat) (bb:Bool) (A:Nat) (w:zA)
 (F:Hid (qJ 116 #[.slice p 1 cap,.func (.func 75) #[] #[.pointer (some ⟨A,0,none⟩)]] w (.int .i64 (if bb=true then 0 else-1)))):
 zC zF 62 #[.slice p 1 cap,.func (.func 75) #[] #[.pointer (some ⟨A,0,none⟩)]] w (BolQ w bb):=by
 go_enter Tryz.func62,Tryz.ntmps62;go_wp21;refine zzM F.out λw1 hB=>?_;cases bb
 ·rw[if_neg (by simp)]
  go_wp21;go_ret;exact⟨rfl,hB⟩
 ·rw[if_pos rfl]
  go_wp21;go_ret;exact⟨rfl,hB⟩
theorem zzl (p:Option Addr) (cap n:Nat) (X Y:Nat->ByteArray) (hn:n<=2) (hcap:n<=cap) (PR:Nat->Prop) (OR UL:Prop)
 (RG:Hid (∀i,i<n->∀W:zA,Wd W->Pw W->zC zF 74 #[.agg #[.string (X i),.string (Y i)]] W (ErrP W (PR i))))
 (CM:Hid (1<n->PR 0->PR 1->∃c:Int,(c<0->OR)/\qK 9 #[.string (Y 0),.string (Y 1)] (.tuple #[.int .i64 c,.int .i64 0])))
 (CT:Hid (1<n->PR 0->PR 1->∃b:Bool,(b=false->UL)/\∀(A:Nat) (W:zA),Wd W->RowTm p n X Y W->W.cell? ⟨A,1,none⟩=some (.string (Y 1))->zC zF 62 #[.slice p 1 cap,.func (.func 75) #[] #[.pointer (some ⟨A,0,none⟩)]] W (BolQ W b)))
 (w:zA) (HW:Hid (Wd w)) (HQ:Hid (Pw w)) (HP:Hid (RowTm p n X Y w)):
 zC zF 26 #[.slice p n cap] w (ErrP w ((∀i,i<n->PR i)/\(1<n->OR/\UL))):=by
 have hn16:decide ((16:Int)<(n:Int))=false:=decide_eq_false (by omega);go_enter Tryz.func26,Tryz.ntmps26;go_wp21;clear hn16;go_loopw [13] (λi wr=>∃(k:Nat),k<=n/\i=.int .i64 (k:Int)/\Hid (∀i,i<k->PR i)/\Hid (1<k->OR/\UL)/\Hid (qL w wr))
  (λi _=>n-(zL i).toNat)
 case atStart=>exact⟨0,zR _,rfl,hid (λi h=>by omega),hid (λh=>by omega),zM _ _⟩
 case round=>
  obtain⟨k,hk,rfl,hP,hO,hB⟩:=hrel;by_cases hlt:k<n
  ·have HR:=hid λW (h:qL w W)=>HP.out.keep (zac h)
   obtain⟨b,off,hp,c0,c1⟩:=HR.out wr hB.out k hlt;subst hp;have HRG:=hid (RG.out k hlt);obtain⟨x,hx⟩:=zzX (X k);obtain⟨y,hy⟩:=zzX (Y k);rw[<-hx,<-hy] at HRG;rw[<-hx] at c0;rw[<-hy] at c1;have HYK:=hid hy;clear hx hy;have HS:Hid (BxA w wr.heap.size x y (wr.alloc (.cells #[.string x,.string y] 69))):=hid (by
    have hal:qL wr (wr.alloc (.cells #[.string x,.string y] 69)):=(zM _ wr).alloc (zN _) _;exact⟨hB.out.trans (hal.mono hB.out.size),zG _ _⟩)
   obtain⟨g0,g1⟩:=HS.out.cx;go_wp21;clear hB c0 c1 g0 g1;obtain⟨W1,hW1⟩:=zzX (wr.alloc (.cells #[.string x,.string y] 69));rw[<-hW1] at HS⊢;clear hW1;generalize wr.heap.size=A at*
   refine(HRG.out W1 (HW.out.below HS.out.bel) (HQ.out.below HS.out.bel)).mono ?_;rintro e w2 ⟨r,rfl,hr,hb2⟩;have HS2:=hid (HS.out.next hb2);have HR0:=hid hr;clear hb2 HS HRG hr;by_cases hr0:r=0
   ·subst hr0
    have hPk:=HR0.out rfl;have HPK:=hid (show ∀i,i<k+1->PR i from λi hi=>by
     by_cases e:i=k
     ·subst e;exact hPk
     ·exact hP.out i (by omega))
    clear hPk;by_cases hk0:k=0
    ·have HOK:=hid (show 1<k+1->OR/\UL from λh=>by omega)
     have hkb:((k:Int)==0)=true:=by rw[hk0];rfl
     clear hk0;go_wp21;go_roundw
     case rel=>exact⟨k+1,by omega,by go_num,HPK,HOK,hid HS2.out.bel⟩
     case measure=>simp[zL];omega
    ·obtain rfl:k=1:=by omega
     obtain⟨c,hc1,hc2⟩:=CM.out hlt (HPK.out 0 (by omega)) (HPK.out 1 (by omega));obtain⟨bb,hb1,hb2⟩:=CT.out hlt (HPK.out 0 (by omega)) (HPK.out 1 (by omega));rw[<-HYK.out] at hc2;have HCM:=hid hc2;have HC1:=hid hc1;have HB1:=hid hb1;have HCT:=hid hb2;clear hc1 hc2 hb1 hb2 CM CT hk0;have hkc:(1:Int)<=(cap:Int):=by omega
     have HRj:=hid (λW h=>(by
      obtain⟨b',off',e,d0,d1⟩:=HR.out W h 0 (by omega);obtain⟨rfl,rfl⟩:b=b'/\off=off':=by simpa using e
      exact(by simpa using d1)):∀W,qL w W->W.cell? ⟨b,off+1,none⟩=some (.string (Y 0)))
     generalize Y 0=yj at*
     have hw1:IntKind.i64.wrap (((1:Nat):Int)-1)=0:=zI _ ⟨by omega,by omega⟩;go_wp21;refine zbl (λ_ W=>BxA w A x y W) (by kernel_rfl) (by kernel_rfl) (HS2.out.next (zM _ _).drew) ?_;refine qR (.slice (some ⟨b,off,none⟩) n cap) ?_;refine qR (.int .i64 1) ?_;refine qR (.int .i64 0) ?_ (hy:=λf W' hf h=>by go_simp;decide);simp only[zzQ];refine qR (.pointer (some ⟨b,off,none⟩)) ?_ (hy:=λf W' hf h=>by go_simp;try(intro hn0;omega));refine qR (.pointer (some ⟨b,off+1,none⟩)) ?_;refine qR (.string yj) ?_ (hy:=λf W' hf h=>by have c0:=HRj.out _ h.bel;go_simp);simp only[zzQ];refine qR (.pointer (some ⟨A,1,none⟩)) ?_;refine qR (.string y) ?_ (hy:=λf W' hf h=>by obtain⟨c0,c1⟩:=h.cx;go_simp);simp only[zzQ]
     refine zar (.tuple #[.int .i64 c,.int .i64 0]) (by rfl) (λf W' hf h C' hC'=>by
      go_simp;refine zzM (HCM.out _ (HW.out.below h.bel)) λw' hb=>?_;exact⟨rfl,hC' _ (h.next hb)⟩) ?_
     refine qR (.tuple #[.int .i64 c,.int .i64 0]) ?_;refine qR (.int .i64 c) ?_;simp only[zzQ];refine qR (.int .i64 0) ?_;refine qR (.int .i64 c) ?_;refine qR (.int .i64 0) ?_;simp only[zzQ];refine zck λf W5 hf h5=>?_;have HS5:=hid h5;clear hf h5 HS2 HCM HRj;have HCC:=hid (HCT.out A W5 (HW.out.below HS5.out.bel) (HR.out _ HS5.out.bel) (by rw[<-HYK.out];exact HS5.out.cx.2));clear HCT;by_cases hc0:c<0
     ·have hge:decide (0<=c)=false:=decide_eq_false (by omega)
      have hng:¬0<=c:=by omega
      have HOR:=hid (HC1.out hc0);go_wp21;refine zzM HCC.out λw6 hb6=>?_;have HS6:=hid (HS5.out.next hb6);clear hb6 HS5 HCC;cases bb
      ·have HOK:=hid (show 1<1+1->OR/\UL from λ_=>⟨HOR.out,HB1.out rfl⟩)
       go_wp21;go_roundw
       case rel=>exact⟨1+1,by omega,by go_num,HPK,HOK,hid HS6.out.bel⟩
       case measure=>simp[zL];omega
      ·go_wp21
       go_ret;exact⟨_,rfl,(λh=>by cases h),HS6.out.bel⟩
     ·have hge:decide (0<=c)=true:=decide_eq_true (by omega)
      have hng:0<=c:=by omega
      go_wp21;go_ret;exact⟨_,rfl,(λh=>by cases h),HS5.out.bel⟩
   ·have hrb:(r !=0)=true:=by simpa using hr0
    have HRN:=hid hr0;clear hr0;go_wp21;go_ret;exact⟨r,rfl,λh=>absurd h HRN.out,HS2.out.bel⟩
  ·have hkn:k=n:=by omega
   subst hkn;go_wp21;go_ret;exact⟨0,rfl,λ_=>⟨hP.out,hO.out⟩,hB.out⟩
end Go.Proofs.YtgeapfaiacoajaaGreatDoor
namespace Go.Proofs.YtgeapfaiacoajaaGreatDoor
open Go.RowKit Lib Str Limb
theorem zeb (p:Option Addr) (n cap:Nat) (l:List Nat) (w:zA) (h:Sl w (.slice p n cap) (l.map I)) (hl:l.length<=3000):
 zC zF 176 #[.slice p n cap] w λe w'=>e=.returned (.slice p (zat l).length cap)/\w=w':=by
 rcases h.cases with⟨h0,p',cap',e⟩|⟨h0,b,off,cap',e,hcap,hb,hc⟩
 ·have:l=[]:=by simpa using h0
  subst this;simp only[Value.slice.injEq] at e;obtain⟨rfl,rfl,rfl⟩:=e;go_enter Tryz.func176,Tryz.ntmps176;go_wp2;go_loop [3] (λs=>s=.int .i64 0) (λ_=>0)
  case atStart=>rfl
  case round=>
   subst hrel;go_wp2;go_ret;exact⟨rfl,rfl⟩
 ·rw[zV] at hcap e
  simp only[Value.slice.injEq] at e;obtain⟨rfl,rfl,rfl⟩:=e;have HC:=hid hc;clear hc h;go_enter Tryz.func176,Tryz.ntmps176;go_wp2;go_loop [3] (λs=>∃k:Nat,k<=l.length/\s=.int .i64 k/\Hid (zat (l.take k)=zat l)) (λs=>(zL s).toNat)
  case atStart=>exact⟨l.length,zN _,rfl,by show zat (l.take l.length)=_;rw[List.take_length]⟩
  case round=>
   obtain⟨k,hk,rfl,ht⟩:=hrel;rcases Nat.eq_zero_or_pos k with rfl|hp
   ·have e:(zat l).length=0:=by rw[<-ht.out];simp[zou]
    have E:=hid e;clear e;go_wp2;go_ret;exact⟨by rw[E.out];rfl,rfl⟩
   ·obtain⟨m,rfl⟩:∃m,k=m+1:=⟨k-1,by omega⟩
    have hm:m<l.length:=by omega
    have hx:l[m]? =some l[m]:=by simp[hm]
    have hcell:=HC.out m (I l[m]) (by simp[hm]);have hsn:zat (l.take (m+1))=zat (l.take m++[l[m]]):=by rw[List.take_succ_eq_append_getElem hm]
    by_cases hz:l[m]=0
    ·rw[hz] at hcell hsn
     have HS:Hid (zat (l.take m)=zat l):=by rw[<-ht.out,hsn,zew];rfl
     clear hsn hx hz ht;go_wp2;go_round
     case rel=>exact⟨m,by omega,by go_num,HS⟩
     case measure=>simp[zL]
    ·have HS:Hid ((zat l).length=m+1):=by
      rw[<-ht.out,hsn,zhs _ hz];show(l.take m++[l[m]]).length=m+1;simp;omega
     have hz':(((l[m]:Nat):Int)==0)=false:=by rw[beq_eq_false_iff_ne];omega
     clear hsn hx ht;go_wp2;go_ret;exact⟨by rw[HS.out];rfl,rfl⟩
theorem zgz (v:Value) (l:List Nat) (i:Nat) (w:zA) (h:Sl w v (l.map I)) (hl:l.length<=3000):
 zC zF 178 #[v,I i] w λe w'=>e=.returned (I (l[i]?.getD 0))/\w=w':=by
 by_cases hi:i<l.length
 ·rcases h.cases with⟨h0,p,cap,rfl⟩|⟨h0,b,off,cap,rfl,hcap,hb,hc⟩
  ·have:l=[]:=by simpa using h0
   subst this;simp at hi
  ·have hcell:=hc i (I (l[i]?.getD 0)) (by simp[hi])
   clear hc h;rw[zV];generalize l[i]?.getD 0=x at*
   go_enter Tryz.func178,Tryz.ntmps178;go_wp2;go_ret;exact⟨rfl,rfl⟩
 ·have:l[i]?.getD 0=0:=by rw[List.getElem?_eq_none (by omega)];rfl
  rw[this];obtain⟨p,cap,rfl,hcap,_⟩:=h;rw[zV];go_enter Tryz.func178,Tryz.ntmps178;go_wp2;go_ret;exact⟨rfl,rfl⟩
def B6:Nat:=1000000
theorem zh4 {w:zA} {base k:Nat} {p:Option Addr} {n c:Nat} {o:List Nat} (h:w.ownsRow base 3 1 (.slice p n c) k (o.map I)) (hk:o.length=k):
 w.ownsRow base 3 1 (.slice p (zat o).length c) (zat o).length ((zat o).map I):=zeq (v:=.slice p n c) h hk
theorem zg0 {w:zA} {base:Nat} {t:TypeId} {s:Nat} {v:Value} {n:Nat} {xs:List Value} (h:w.ownsRow base t s v n xs):∃p m c,v=.slice p m c:=by
 rcases h.2 with⟨e,_⟩|⟨g,cp,cur,e,_⟩<;>exact⟨_,_,_,e⟩
end Go.Proofs.YtgeapfaiacoajaaGreatDoor
namespace Go.Proofs.YtgeapfaiacoajaaGreatDoor
theorem zzD {B:Nat} {a w:zA} (h:RowKit.Below B a w) (n:Nat):RowKit.Below B a (w.drewN n):=⟨h.os,h.tape,h.output,h.size,h.block⟩
open Go.RowKit Lib Str Limb
def zua (w:zA) (l:List Nat) (e:Ending) (w':zA):Prop:=
 ∃g c,e=.returned (.slice (some ⟨g,0,none⟩) l.length c)/\w'.ownsRow w.heap.size 3 1 (.slice (some ⟨g,0,none⟩) l.length c) l.length (l.map I)/\zB w.heap.size w w'
theorem zrr {w:zA} {base:Nat} {t:TypeId} {s:Nat} {v:Value} {n:Nat} {xs:List Value} (h:w.ownsRow base t s v n xs) (hne:v≠ .slice none 0 0):∃g c,v=.slice (some ⟨g,0,none⟩) n c:=by
 rcases h.2 with⟨e,_⟩|⟨g,cp,cur,e,_⟩
 ·exact absurd e hne
 ·exact⟨_,_,e⟩
theorem zix (va vb:Value) (a b:List Nat) (w:zA) (ha:Sl w va (a.map I)) (hb:Sl w vb (b.map I)) (sa:zal B6 a) (sb:zal B6 b) (la:a.length<=1000) (hba:b.length<=a.length) (hle:valL B6 b<=valL B6 a):
 zC zF 179 #[va,vb] w (zua w (zaa B6 (valL B6 a-valL B6 b))):=by
 rw[<-znb (B:=B6) (by decide) sa sb hle a.length (zN _) hba];obtain⟨i0,hi,hz0,hz1,hz2⟩:=info_parts zdv;have ha':=ha;have hb':=hb;obtain⟨pa,ca,rfl,hca,hcella⟩:=ha;obtain⟨pb,cb,rfl,hcb,hcellb⟩:=hb;have HA:=hid ha';clear ha' hcella hca;have HB:=hid hb';clear hb' hcellb hcb hle;have SA:=hid sa;clear sa;have SB:=hid sb;clear sb;simp only[zV] at*
 go_enter Tryz.func179,Tryz.ntmps179;go_wp2;go_loopw [5,6,7] (λv c i wr=>∃k:Nat,k<=a.length/\i=.int .i64 k/\c=I (zaq (za1 B6) a b k).2/\wr.ownsRow w.heap.size 3 1 v k ((zaq (za1 B6) a b k).1.map I)/\zB w.heap.size w wr/\v≠ .slice none 0 0)
  (λ_ _ i _=>a.length-(zL i).toNat)
 case atStart=>exact⟨0,zR _,rfl,rfl,World.ownsRow_made w #[] 0 (zN _) (by unfold maxLen;omega) rfl,(zM _ w).alloc (zN _) _,λh=>by cases h⟩
 case round=>
  obtain⟨k,hk,rfl,rfl,hown,hB,hne⟩:=hrel;have HNE:=hid hne;clear hne;obtain⟨p1,p2,p3⟩:=zlo (B:=B6) (by decide) SA.out SB.out k;by_cases hlt:k<a.length
  ·obtain⟨ba,offa,rfl,hba',hcapa,hcx⟩:=(HA.out.below hB).at hlt
   have hx:=zaj SA.out (by decide) k;have hy:=zaj SB.out (by decide) k;have hst:zaq (za1 B6) a b (k+1)=((zaq (za1 B6) a b k).1++[(za1 B6 (a[k]?.getD 0) (b[k]?.getD 0) (zaq (za1 B6) a b k).2).1],(za1 B6 (a[k]?.getD 0) (b[k]?.getD 0) (zaq (za1 B6) a b k).2).2):=rfl;have HST:=hid hst;clear hst p1 p3;generalize (zaq (za1 B6) a b k).1=o at*
   generalize (zaq (za1 B6) a b k).2=c at*
   have hx':a[k]?.getD 0<1000000:=hx;have hy':b[k]?.getD 0<1000000:=hy;clear hx hy;have HOWN:=hid hown;clear hown;have LB:=hid λ(W:zA) (h:qL w W)=>zgz _ b k W (HB.out.below h) (by omega);generalize a[k]?.getD 0=x at*
   generalize b[k]?.getD 0=y at*
   have e1:IntKind.i64.wrap ((x:Int)-y)=(x:Int)-y:=zI _ (by omega);have e2:IntKind.i64.wrap ((x:Int)-y-c)=(x:Int)-y-c:=zI _ (by omega);have fin:∀(v':Value) (w1:zA) (z:Int) (W:zA),qL w W->W.ownsRow w.heap.size 3 1 v' (k+1) (o.map I++[.int .i64 z])->True:=λ_ _ _ _ _ _=>trivial;clear fin;by_cases hge:y+c<=x
   ·have hE:Hid (Value.int .i64 ((x:Int)-y-c)=I (za1 B6 x y c).1/\(za1 B6 x y c).2=0):=hid (by
     have e:za1 B6 x y c=(x-y-c,0):=by unfold za1;rw[if_pos hge]
     rw[e];exact⟨by show Value.int .i64 _=Value.int .i64 _;congr 1;omega,rfl⟩)
    have hn:¬(x:Int)-y-c<0:=by omega
    go_wp2;go_quiet ((go_at_call 178;exact Calls.quiet_of_same (zi5 (LB.out _ (hB.trans (zzD (zM _ _) _))))));clear e1 e2;have hB2:qL w (wr.drewN nq):=zzD hB _;have HOWN2:=hid (show(wr.drewN nq).ownsRow w.heap.size 3 1 _ k (o.map I) from HOWN.out);clear HOWN hcx hB hba';go_wp2_with (at_builtin;refine wpList_append_own _ rfl _ _ 146 rfl w.heap.size 3 i0 (.int .i64 0) 1 8 Tryz.underlying146 hi hz0 hz1 hz2 rfl (by decide) _ _ _ rfl (HOWN2.out.alloc _) ⟨wr.heap.size,0,none⟩ 1 1 [.int .i64 ((x:Int)-y-c)] rfl rfl (zep _ _ _) (zfn _) (by unfold maxLen;omega) (by omega) (by have:=hB2.size;simp at this⊢;omega) ?_);intro v' w1 hown' hgrow hnn;have HNN:=hid (show v'≠ .slice none 0 0 from hnn);clear hnn;have hB1:qL w w1:=(hB2.alloc hB2.size _).grown hgrow (by have:=hB2.size;simp at this⊢;omega) (λq e=>(HOWN2.out.lt q e).1);rw[hE.out.1] at hown';clear hgrow hB2 HOWN2;go_wp2;go_roundw
    case rel=>exact⟨k+1,by omega,by go_num,by rw[HST.out,hE.out.2];rfl,by rw[HST.out];simpa using hown',hB1,HNN.out⟩
    case measure=>simp[zL];omega
   ·have hE:Hid (Value.int .i64 ((x:Int)-y-c+1000000)=I (za1 B6 x y c).1/\(za1 B6 x y c).2=1):=hid (by
     have e:za1 B6 x y c=(x+B6-y-c,1):=by unfold za1;rw[if_neg hge]
     rw[e];exact⟨by show Value.int .i64 _=Value.int .i64 _;congr 1;unfold B6;omega,rfl⟩)
    have hn:(x:Int)-y-c<0:=by omega
    have e3:IntKind.i64.wrap ((x:Int)-y-c+1000000)=(x:Int)-y-c+1000000:=zI _ (by omega);go_wp2;go_quiet ((go_at_call 178;exact Calls.quiet_of_same (zi5 (LB.out _ (hB.trans (zzD (zM _ _) _))))));clear e1 e2;have hB2:qL w (wr.drewN nq):=zzD hB _;have HOWN2:=hid (show(wr.drewN nq).ownsRow w.heap.size 3 1 _ k (o.map I) from HOWN.out);clear HOWN hcx hB hba';go_wp2_with (at_builtin;refine wpList_append_own _ rfl _ _ 146 rfl w.heap.size 3 i0 (.int .i64 0) 1 8 Tryz.underlying146 hi hz0 hz1 hz2 rfl (by decide) _ _ _ rfl (HOWN2.out.alloc _) ⟨wr.heap.size,0,none⟩ 1 1 [.int .i64 ((x:Int)-y-c+1000000)] rfl rfl (zep _ _ _) (zfn _) (by unfold maxLen;omega) (by omega) (by have:=hB2.size;simp at this⊢;omega) ?_);intro v' w1 hown' hgrow hnn;have HNN:=hid (show v'≠ .slice none 0 0 from hnn);clear hnn;have hB1:qL w w1:=(hB2.alloc hB2.size _).grown hgrow (by have:=hB2.size;simp at this⊢;omega) (λq e=>(HOWN2.out.lt q e).1);rw[hE.out.1] at hown';clear hgrow hB2 HOWN2 e3;go_wp2;go_roundw
    case rel=>exact⟨k+1,by omega,by go_num,by rw[HST.out,hE.out.2];rfl,by rw[HST.out];simpa using hown',hB1,HNN.out⟩
    case measure=>simp[zL];omega
  ·obtain rfl:k=a.length:=by omega
   have hl:(zaq (za1 B6) a b a.length).1.length=a.length:=zdk _ _ _ _;obtain⟨o,ho⟩:=zzX ((zaq (za1 B6) a b a.length).1);rw[<-ho] at hown hl;have HO:=hid ho;have HL:=hid hl;clear hl p1 p2 p3;obtain⟨vg,vc,rfl⟩:=zrr hown HNE.out;have HOWN:=hid hown;clear hown ho;go_wp21;refine(zeb _ _ _ o wr (Sl.of_own HOWN.out) (by rw[HL.out];omega)).mono ?_;rintro e w1 ⟨rfl,rfl⟩;go_wp21;go_ret;rw[<-HO.out];exact⟨_,_,rfl,zh4 HOWN.out HL.out,hB⟩
theorem zxc (m n:Nat) (hl:(zaa B6 m).length=(zaa B6 n).length) (k:Nat) (hk:k<(zaa B6 m).length) (h:∀i,k<i->i<(zaa B6 m).length->(zaa B6 m)[i]?.getD 0=(zaa B6 n)[i]?.getD 0):
 ((zaa B6 m)[k]?.getD 0<(zaa B6 n)[k]?.getD 0->m<n)/\((zaa B6 n)[k]?.getD 0<(zaa B6 m)[k]?.getD 0->n<m):=by
 have hB:2<=B6:=by decide
 have sa:=zak hB m;have sb:=zak hB n;have hd:=ztr hl k h;constructor
 ·intro hlt
  have:=zem sa sb hl k hk hd hlt;rwa [zam hB,zam hB] at this
 ·intro hgt
  have:=zem sb sa hl.symm k (by omega) hd.symm hgt;rwa [zam hB,zam hB] at this
theorem z27 (m n:Nat) (hl:(zaa B6 m).length=(zaa B6 n).length) (h:∀i,i<(zaa B6 m).length->(zaa B6 m)[i]?.getD 0=(zaa B6 n)[i]?.getD 0):m=n:=by
 have hB:2<=B6:=by decide
 rw[<-zam hB m,zoa hl h,zam hB]
def ordN (m n:Nat):Int:=if m<n then-1 else if m=n then 0 else 1
theorem zlc (va vb:Value) (m n:Nat) (w:zA) (ha:Sl w va ((zaa B6 m).map I)) (hb:Sl w vb ((zaa B6 n).map I)) (la:(zaa B6 m).length<=1000) (_:(zaa B6 n).length<=1000):
 qJ 181 #[va,vb] w (.int .i64 (ordN m n)):=by
 have ha':=ha;have hb':=hb;obtain⟨pa,ca,rfl,hca,hcella⟩:=ha;obtain⟨pb,cb,rfl,hcb,hcellb⟩:=hb;have HA:=hid ha';clear ha' hcella hca;have HB:=hid hb';clear hb' hcellb hcb;simp only[zV] at*
 have hlt':=zc2 (B:=B6) (by decide) (m:=m) (n:=n);have hgt':=zc2 (B:=B6) (by decide) (m:=n) (n:=m);have SA:=hid (zak (B:=B6) (by decide) m);have SB:=hid (zak (B:=B6) (by decide) n);by_cases hl:(zaa B6 m).length=(zaa B6 n).length
 ·have CP:=hid (zxc m n hl)
  have CE:=hid (z27 m n hl);rw[<-hl];clear hlt' hgt';have HL:=hid hl;clear hl;generalize zaa B6 m=a at*
  generalize zaa B6 n=b at*
  go_enter Tryz.func181,Tryz.ntmps181;go_wp2;go_loopw [5] (λi wr=>∃k:Nat,k<=a.length/\i=.int .i64 ((k:Int)-1)/\(∀j,k<=j->j<a.length->a[j]?.getD 0=b[j]?.getD 0)/\zB w.heap.size w wr)
   (λi _=>(zL i+1).toNat)
  case atStart=>exact⟨a.length,zN _,rfl,λj h1 h2=>by omega,zM _ _⟩
  case round=>
   obtain⟨k,hk,rfl,hsame,hB⟩:=hrel;rcases Nat.eq_zero_or_pos k with rfl|hp
   ·obtain rfl:m=n:=CE.out λi hi=>hsame i (zR _) hi
    clear hsame;go_wp2;go_ret;exact⟨by unfold ordN;simp,hB⟩
   ·obtain⟨i,rfl⟩:∃i,k=i+1:=⟨k-1,by omega⟩
    have hi1:((i+1:Nat):Int)-1=(i:Int):=by omega
    rw[hi1];have hia:i<a.length:=by omega
    have hib:i<b.length:=by have:=HL.out;omega
    obtain⟨ba,offa,rfl,hba,hcapa,hcx⟩:=(HA.out.below hB).at hia;obtain⟨bb,offb,rfl,hbb,hcapb,hcy⟩:=(HB.out.below hB).at hib;have hcp:=CP.out i hia (λj h1 h2=>hsame j h1 h2);have hsn:a[i]?.getD 0=b[i]?.getD 0->∀j,i<=j->j<a.length->a[j]?.getD 0=b[j]?.getD 0:=λe j h1 h2=>by
     rcases Nat.lt_or_ge i j with h|h
     ·exact hsame j h h2
     ·obtain rfl:j=i:=by omega
      exact e
    have HS:=hid hsn;clear hsn hsame hi1;have hx:=zaj SA.out (by decide) i;have hy:=zaj SB.out (by decide) i;have hx':a[i]?.getD 0<1000000:=hx;have hy':b[i]?.getD 0<1000000:=hy;clear hx hy;have HLb:(a.length:Int)=b.length:=by have:=HL.out;omega
    have HB2:=hid hB;generalize a[i]?.getD 0=x at*
    generalize b[i]?.getD 0=y at*
    rcases Nat.lt_trichotomy x y with hc|hc|hc
    ·have ho:ordN m n= -1:=by unfold ordN;rw[if_pos (hcp.1 hc)]
     have HO:=hid ho;clear hcp HS ho;go_wp2;go_quiet (fail);go_wp2;go_ret;exact⟨by rw[HO.out];rfl,zzD HB2.out _⟩
    ·have HS':=hid (HS.out hc)
     subst hc;clear hcp HS;go_wp2;go_quiet (fail);go_wp2;go_quiet (fail);go_wp2;go_roundw
     case rel=>exact⟨i,by omega,rfl,HS'.out,zzD HB2.out _⟩
     case measure=>simp[zL]
    ·have ho:ordN m n=1:=by unfold ordN;have:=hcp.2 hc;rw[if_neg (by omega),if_neg (by omega)]
     have hc2:¬x<y:=by omega
     have HO:=hid ho;clear hcp HS ho;go_wp2;go_quiet (fail);go_wp2;go_quiet (fail);go_wp2;go_ret;exact⟨by rw[HO.out];rfl,zzD (zzD HB2.out _) _⟩
 ·have hl':¬(((zaa B6 m).length:Int)=(zaa B6 n).length):=by omega
  rcases Nat.lt_or_gt_of_ne hl with h|h
  ·have ho:ordN m n= -1:=by unfold ordN;rw[if_pos (hlt' h)]
   rw[ho];clear ho hlt' hgt' hl;generalize (zaa B6 m).length=x at*
   generalize (zaa B6 n).length=y at*
   go_enter Tryz.func181,Tryz.ntmps181;go_wp2;go_ret;exact⟨rfl,zM _ _⟩
  ·have ho:ordN m n=1:=by unfold ordN;have:=hgt' h;rw[if_neg (by omega),if_neg (by omega)]
   rw[ho];have h2:¬(zaa B6 m).length<(zaa B6 n).length:=by omega
   clear ho hlt' hgt' hl;generalize (zaa B6 m).length=x at*
   generalize (zaa B6 n).length=y at*
   go_enter Tryz.func181,Tryz.ntmps181;go_wp2;go_ret;exact⟨rfl,zM _ _⟩
end Go.Proofs.YtgeapfaiacoajaaGreatDoor
namespace Go.Proofs.YtgeapfaiacoajaaGreatDoor
open Go.RowKit Lib Str Limb
theorem z14 {a b:List Nat} (sa:zal B6 a) (sb:zal B6 b) (i:Nat) (hi:i<a.length):
 (zay B6 (a[i]?.getD 0) b i (zbp B6 a b i) (b.length+1)).2=0:=by
 have hB:2<=B6:=by decide
 obtain⟨t1,t2,t3⟩:=zdf hB sa sb i (Nat.le_of_lt hi);obtain⟨r1,r2,r3,r4⟩:=zfw hB (zaj sa (by decide) i) sb i t2 (b.length+1) (by rw[t1];omega);rw[List.take_of_length_le (by omega),t3] at r4;have k1:valL B6 (a.take i)*valL B6 b+B6^i*(a[i]?.getD 0*valL B6 b)=valL B6 (a.take (i+1))*valL B6 b:=by
  rw[zbo,Nat.add_mul,Nat.mul_assoc]
 rw[k1] at r4;have h1:=zb6 (zcu sa (i+1));rw[List.length_take,Nat.min_eq_left (by omega)] at h1;have h2:=zb6 sb;have h3:valL B6 (a.take (i+1))*valL B6 b<B6^(i+1)*B6^b.length:=Nat.mul_lt_mul'' h1 h2;rw[<-Nat.pow_add,show i+1+b.length=i+(b.length+1) by omega] at h3;rcases Nat.eq_zero_or_pos (zay B6 (a[i]?.getD 0) b i (zbp B6 a b i) (b.length+1)).2 with h|h
 ·exact h
 ·have:=Nat.mul_le_mul_left (B6^(i+(b.length+1))) h
  omega
theorem zzr {x:Nat} {b out:List Nat} (i:Nat) (so:zal B6 (zay B6 x b i out b.length).1) (hlen:i+b.length<(zay B6 x b i out b.length).1.length) (h:(zay B6 x b i out b.length).2=0):
 (zay B6 x b i out (b.length+1)).1=(zay B6 x b i out b.length).1:=by
 show(zay B6 x b i out b.length).1.set (i+b.length) (((zay B6 x b i out b.length).1[i+b.length]?.getD 0+x*b[b.length]?.getD 0+(zay B6 x b i out b.length).2)%B6)=_;rw[h,List.getElem?_eq_none (l:=b) (zN _)];have:=zaj so (by decide) (i+b.length);simp only[Option.getD_none,Nat.mul_zero,Nat.add_zero];rw[Nat.mod_eq_of_lt this,yB hlen];simp
theorem znx (va vb:Value) (a b:List Nat) (w:zA) (ha:Sl w va (a.map I)) (hb:Sl w vb (b.map I)) (sa:zal B6 a) (sb:zal B6 b) (la:a.length<=1000) (lb:b.length<=1000):
 zC zF 180 #[va,vb] w (zht w (zaa B6 (valL B6 a*valL B6 b))):=by
 rw[<-zjp (B:=B6) (by decide) sa sb];obtain⟨i0,hi,hz0,hz1,hz2⟩:=info_parts zdv;have ha':=ha;have hb':=hb;obtain⟨pa,ca,rfl,hca,hcella⟩:=ha;obtain⟨pb,cb,rfl,hcb,hcellb⟩:=hb;have HA:=hid ha';clear ha' hcella hca;have HB:=hid hb';clear hb' hcellb hcb;have SA:=hid sa;clear sa;have SB:=hid sb;clear sb;simp only[zV] at*
 go_enter Tryz.func180,Tryz.ntmps180;go_wp2_with (at_make;refine wpList_make_full _ rfl _ _ 146 rfl w.heap.size 3 i0 (.int .i64 0) 1 Tryz.underlying146 hi hz0 hz1 .i64 .i64 _ _ (a.length+b.length+1) rfl rfl (by omega) (by omega) (by rw[hz2];omega) (by unfold maxLen;omega) (zN _) ?_);intro w0 hown hgrow;rw[toList_madeCells_one,<-show(List.replicate (a.length+b.length+1) 0).map I=List.replicate (a.length+b.length+1) (.int .i64 0) by simp] at hown;obtain⟨hrow, -⟩:=Row.of_own hown;have hB0:qL w w0:=(zM _ _).grown hgrow (zN _) (λ_ e=>by cases e);clear hown hgrow;obtain⟨N,hN⟩:=zzX (a.length+b.length+1);have hN2:(a.length:Int)+b.length+1=N:=by omega
 rw[<-hN] at hrow⊢;have HN:=hid hN;clear hN;obtain⟨g,hg⟩:=zzX w.heap.size;rw[<-hg] at hrow⊢;have HG:=hid hg;clear hg;clear hN2;go_wp2;go_loopw [6] (λi wr=>∃k:Nat,k<=a.length/\i=.int .i64 k/\Row wr g N (zbp B6 a b k)/\zB w.heap.size w wr)
  (λi _=>a.length-(zL i).toNat)
 case atStart=>exact⟨0,zR _,rfl,by rw[zbp,<-HN.out];exact hrow,hB0⟩
 case round=>
  clear hrow hB0;obtain⟨i,hk,rfl,hrow,hB⟩:=hrel;by_cases hlt:i<a.length
  ·obtain⟨ba,offa,rfl,hba,hcapa,hcx⟩:=(HA.out.below hB).at hlt
   have hxs:=zaj SA.out (by decide) i;obtain⟨ts1,ts2, -⟩:=zdf (B:=B6) (by decide) SA.out SB.out i hk;have hst:zbp B6 a b (i+1)=(zay B6 (a[i]?.getD 0) b i (zbp B6 a b i) (b.length+1)).1:=rfl;have hre:=z14 SA.out SB.out i hlt;rw[<-HN.out] at ts1;have HST:=hid hst;clear hst;have HRE:=hid hre;clear hre;generalize zbp B6 a b i=L at*
   have TS1:=hid ts1;clear ts1;have TS2:=hid ts2;clear ts2;have hxe:a[i]?.getD 0<1000000:=hxs;clear hxs hcx;have HXA:=hid hxe;clear hxe;obtain⟨x,hx⟩:=zzX (a[i]?.getD 0);rw[<-hx] at HST HRE HXA;have HXE:=hid hx;clear hx;go_wp2;obtain⟨wo,hwo⟩:=zzX (wr:zA);have HWO:=hid hwo;clear hwo;go_loopw [7,8] (λc j wr=>∃k:Nat,k<=b.length+1/\j=.int .i64 k/\c=I (zay B6 x b i L k).2/\Row wr g N (zay B6 x b i L k).1/\zB w.heap.size w wr)
    (λ_ j _=>b.length+1-(zL j).toNat)
   case atStart=>exact⟨0,zR _,rfl,rfl,hrow,hB⟩
   case round=>
    clear hrow hB;obtain⟨k,hkk,rfl,rfl,hrow,hB⟩:=hrel;have HN3:N=a.length+b.length+1:=HN.out;obtain⟨r1,r2,r3, -⟩:=zfw (B:=B6) (by decide) (show x<B6 from HXA.out) SB.out i TS2.out k (by rw[TS1.out];omega);by_cases hgo:k<b.length\/0<(zay B6 x b i L k).2
    ·have hlk:k<b.length+1:=by
      rcases hgo with h|h
      ·omega
      ·rcases Nat.lt_or_ge k (b.length+1) with h'|h'
       ·exact h'
       ·obtain rfl:k=b.length+1:=by omega
        rw[HRE.out] at h;omega
     have hys:=zaj SB.out (by decide) k;have hst:zay B6 x b i L (k+1)=((zay B6 x b i L k).1.set (i+k) (((zay B6 x b i L k).1[i+k]?.getD 0+x*b[k]?.getD 0+(zay B6 x b i L k).2)%B6),((zay B6 x b i L k).1[i+k]?.getD 0+x*b[k]?.getD 0+(zay B6 x b i L k).2)/B6):=rfl;have HST2:=hid hst;clear hst;generalize zay B6 x b i L k=r at*
     obtain⟨l,c⟩:=r;dsimp only at*
     have hlen:i+k<l.length:=by rw[r1,TS1.out];omega
     have hcell:=hrow.cell (getD_some hlen);have hfz:=hrow.frozen (i+k);have hzs:=zaj r2 (by decide) (i+k);have hc':c<1000000:=r3;have hz':l[i+k]?.getD 0<1000000:=hzs;have hy':b[k]?.getD 0<1000000:=hys;have hx':x<1000000:=HXA.out;have hb2:i+k<N:=by omega
     have hiN:(0:Int)<=(i:Int)+k:=by omega
     have hiN2:(i:Int)+k<N:=by omega
     have LB:=hid λ(W:zA) (h:qL w W)=>zgz _ b k W (HB.out.below h) (by omega);obtain⟨ba',offa',e',hba,hcapa,hcx⟩:=(HA.out.below hB).at hlt;simp only[Option.some.injEq,Addr.mk.injEq,and_true] at e';obtain⟨rfl,rfl⟩:=e';rw[<-HXE.out] at hcx;have HROW:=hid hrow;clear r1 r2 r3 hzs hys hrow hlen HN3;generalize hzz:l[i+k]?.getD 0=z at*
     have HZZ:=hid hzz;clear hzz;generalize b[k]?.getD 0=y at*
     have hp0:(0:Int)<=(x:Int)*y:=by rw[<-Int.natCast_mul];omega
     have hp1:(x:Int)*y<=999998000001:=by
      have:=Nat.mul_le_mul (show x<=999999 by omega) (show y<=999999 by omega);rw[<-Int.natCast_mul];omega
     have e1:IntKind.i64.wrap ((x:Int)*y)=(x:Int)*y:=zI _ (by omega);have e2:IntKind.i64.wrap ((z:Int)+(x:Int)*y)=(z:Int)+(x:Int)*y:=zI _ (by omega);have e3:IntKind.i64.wrap ((z:Int)+(x:Int)*y+c)=(z:Int)+(x:Int)*y+c:=zI _ (by omega);have e4:IntKind.i64.wrap ((i:Int)+k)=(i:Int)+k:=zI _ (by omega);have e5:((i:Int)+k).toNat=i+k:=by omega
     have HP:=hid (⟨hp0,hp1⟩:_/\_);clear hp0 hp1;have h3:k<b.length\/(¬k<b.length/\0<c):=by omega
     clear hgo;rcases h3 with h1|⟨h1,h2⟩<;>(
      go_wp2;go_quiet ((go_at_call 178;exact Calls.quiet_of_same (zi5 (LB.out _ (hB.trans (zzD (zM _ _) _))))));clear e1 e2 e3;have hp0:=HP.out.1;have hp1:=HP.out.2;go_wp2;go_roundw
      case rel=>
       refine⟨k+1,by omega,by go_num,?_,?_,?_⟩
       ·rw[HST2.out];simp[B6]
       ·rw[HST2.out]
        have:=Row.set (w:=wr.drewN nq) (show Row (wr.drewN nq) g N l from HROW.out) (i+k) ((z+x*y+c)%B6);have e:I ((z+x*y+c)%B6)=.int .i64 (((z:Int)+x*y+c)%1000000):=by simp[I,B6]
        rw[e] at this;exact this
       ·exact(zzD hB _).setCell (by rw[HG.out];exact zN _) _
      case measure=>simp[zL];omega)
    ·have h1:¬k<b.length:=λh=>hgo (.inl h)
     have h2:(zay B6 x b i L k).2=0:=by have:=λh=>hgo (.inr h);omega
     have hres:(zay B6 x b i L k).1=zbp B6 a b (i+1):=by
      rw[HST.out];rcases Nat.lt_or_ge k (b.length+1) with h|h
      ·obtain rfl:k=b.length:=by omega
       exact(zzr i r2 (by rw[r1,TS1.out];omega) h2).symm
      ·obtain rfl:k=b.length+1:=by omega
       rfl
     rw[h2] at*
     rw[hres] at hrow;have HROW:=hid hrow;clear hrow hres r1 r2 r3 hgo;go_wp2;go_roundw
     case rel=>exact⟨i+1,by omega,by go_num,HROW.out,hB⟩
     case measure=>simp[zL];omega
  ·obtain rfl:i=a.length:=by omega
   obtain⟨ts1,ts2, -⟩:=zdf (B:=B6) (by decide) SA.out SB.out a.length hk;rw[<-HN.out] at ts1;have hsl:=hrow.sl;have hown:=hrow.own (base:=w.heap.size) (by rw[HG.out];exact zN _);rw[ts1] at hsl;have HE:=hid (⟨ts1,hown⟩:_/\_);generalize hL:zbp B6 a b a.length=L at*
   have HSL:=hid hsl;clear hsl hown hrow ts1 ts2;have HLL:=hid hL;clear hL;go_wp21;refine(zeb _ _ _ L wr HSL.out (by rw[HE.out.1,HN.out];omega)).mono ?_;rintro e w1 ⟨rfl,rfl⟩;go_wp21;go_ret;have:=zeq HE.out.2 rfl;rw[HE.out.1] at this;exact⟨_,rfl,this,hB⟩
end Go.Proofs.YtgeapfaiacoajaaGreatDoor
namespace Go.Proofs.YtgeapfaiacoajaaGreatDoor
open Go.RowKit Go.Shelf Lib Str Limb
attribute [local go_sem] Oper.semAt_some
def z50 (w:zA) (z:Int) (e:Ending) (w':zA):Prop:=
 ∃m v n,e=.returned (.agg #[.bool m,v])/\sgn m n=z/\Sl w' v ((zaa B6 n).map I)/\zB w.heap.size w w'
theorem z52 {w:zA} {n:Nat} {e:Ending} {w':zA} (h:zht w (zaa B6 n) e w'):∃p c,e=.returned (.slice p (zaa B6 n).length c)/\Sl w' (.slice p (zaa B6 n).length c) ((zaa B6 n).map I)/\zB w.heap.size w w':=by
 obtain⟨v,rfl,hown,hB⟩:=h;have hs:=Sl.of_own hown;obtain⟨p,c,e, -⟩:=id hs;rw[zV] at e;subst e;exact⟨p,c,rfl,hs,hB⟩
structure BigS (W:zA) (mm:Bool) (n ic ia st:Nat) (b:Nat×Value) (f:Nat->Bool) (X:zA):Prop where
 pre:qL W X
 cv:f ic=true->∃p c,b.2=.slice p (zaa B6 n).length c/\Sl X b.2 ((zaa B6 n).map I)
 al:f ia=true->W.heap.size<=b.1/\(f st=false->X.heap[b.1]? =some (.cells #[.bool false,.slice none 0 0] 180 (0,0)))
 fin:f st=true->X.heap[b.1]? =some (.cells #[.bool mm,b.2] 180 (0,0))
theorem BigS.congr {W:zA} {mm:Bool} {n ic ia st:Nat} {b:Nat×Value} {f g:Nat->Bool} {X:zA} (h:BigS W mm n ic ia st b f X) (e1:g ic=f ic) (e2:g ia=f ia) (e3:g st=f st):BigS W mm n ic ia st b g X:=
 ⟨h.pre,by rw[e1];exact h.cv,by rw[e2,e3];exact h.al,by rw[e3];exact h.fin⟩
theorem BigS.call {W:zA} {mm:Bool} {n ic ia st:Nat} {b:Nat×Value} {f g:Nat->Bool} {X X':zA} {p:Option Addr} {c:Nat} (h:BigS W mm n ic ia st b f X) (_:f ic=false) (h3:f st=false) (_:g ic=true) (e2:g ia=f ia) (e3:g st=f st)
 (hb:qL X X') (hs:Sl X' (.slice p (zaa B6 n).length c) ((zaa B6 n).map I)):BigS W mm n ic ia st (b.1,.slice p (zaa B6 n).length c) g X':=
 ⟨h.pre.trans (hb.mono h.pre.size),λ_=>⟨p,c,rfl,hs⟩,λk=>by
   rw[e2] at k;obtain⟨k1,k2⟩:=h.al k;refine⟨k1,λk3=>?_⟩;have:=k2 (by rw[<-e3];exact k3);exact(hb.block _ (Array.getElem?_eq_some_iff.1 this).1).trans this,λk=>by rw[e3,h3] at k;cases k⟩
theorem BigS.new {W:zA} {mm:Bool} {n ic ia st:Nat} {b:Nat×Value} {f g:Nat->Bool} {X:zA} (h:BigS W mm n ic ia st b f X) (h3:f st=false) (e1:g ic=f ic) (e3:g st=f st):
 BigS W mm n ic ia st (X.heap.size,b.2) g (X.alloc (.cells #[.bool false,.slice none 0 0] 180)):=by
 have ha:qL X (X.alloc (.cells #[.bool false,.slice none 0 0] 180)):=(zM _ X).alloc (zN _) _;refine⟨h.pre.trans (ha.mono h.pre.size),λk=>?_,λ_=>⟨h.pre.size,λ_=>heap_alloc_new X _⟩,λk=>by rw[e3,h3] at k;cases k⟩;rw[e1] at k;obtain⟨p,c,e,hs⟩:=h.cv k;exact⟨p,c,e,hs.below ha⟩
theorem BigS.put {W:zA} {mm:Bool} {n ic ia st:Nat} {b:Nat×Value} {f g:Nat->Bool} {X:zA} (h:BigS W mm n ic ia st b f X) (h1:f ic=true) (h2:f ia=true) (h3:f st=false) (e3:g st=true):
 BigS W mm n ic ia st b g ((X.setCell ⟨b.1,0,none⟩ (.bool mm)).setCell ⟨b.1,1,none⟩ b.2):=by
 obtain⟨k1,k2⟩:=h.al h2;have hx:=k2 h3;obtain⟨p,c,e,hs⟩:=h.cv h1;have c0:X.cell? ⟨b.1,0,none⟩=some (.bool false):=by simp[World.cell?,hx]
 have c1:(X.setCell ⟨b.1,0,none⟩ (.bool mm)).cell? ⟨b.1,1,none⟩=some (.slice none 0 0):=(World.cell?_setCell_other _ _ _ (.bool mm) (show(⟨b.1,0,none⟩:Addr)≠⟨b.1,1,none⟩ by simp)).trans (by simp[World.cell?,hx]);refine⟨(h.pre.setCell (p:=⟨b.1,0,none⟩) k1 _).setCell (p:=⟨b.1,1,none⟩) k1 _,λ_=>⟨p,c,e,?_⟩,λ_=>⟨k1,λk=>by rw[e3] at k;cases k⟩,λ_=>?_⟩
 ·exact(hs.set c0 (λx=>by simp[I]) _).set c1 (λx=>by simp[I]) _
 ·exact(λ(Y:zA) (hY:Y.heap[b.1]? =some (.cells #[.bool false,.slice none 0 0] 180 (0,0)))=>by simp[World.setCell,Array.getElem?_modify,hY]:∀Y:zA,Y.heap[b.1]? =some (.cells #[.bool false,.slice none 0 0] 180 (0,0))->((Y.setCell ⟨b.1,0,none⟩ (.bool mm)).setCell ⟨b.1,1,none⟩ b.2).heap[b.1]? =some (.cells #[.bool mm,b.2] 180 (0,0))) X hx
theorem z0q (w:zA) (m m':Bool) (vx vy:Value):∃W3,W3=((w.alloc (.cells #[.bool m,vx] 180)).alloc (.cells #[.bool m',vy] 180)).alloc (.cells #[.bool false,.slice none 0 0] 180)/\
 qL w W3/\W3.heap.size=w.heap.size+3/\W3.heap[w.heap.size]? =some (.cells #[.bool m,vx] 180 (0,0))/\W3.heap[w.heap.size+1]? =some (.cells #[.bool m',vy] 180 (0,0))/\W3.heap[w.heap.size+1+1]? =some (.cells #[.bool false,.slice none 0 0] 180 (0,0)):=by
 refine⟨_,rfl,(((zM _ w).alloc (zN _) _).alloc (by simp) _).alloc (by simp;omega) _,by simp,?_,?_,?_⟩
 ·exact(Below.heap_alloc _ _ _ (by simp only[zH];omega)).trans ((Below.heap_alloc _ _ _ (by simp only[zH];omega)).trans (heap_alloc_new w _))
 ·refine(Below.heap_alloc _ _ _ (by simp only[zH];omega)).trans ?_
  have:=heap_alloc_new (w.alloc (.cells #[.bool m,vx] 180)) (.cells #[.bool m',vy] 180);rwa [zH] at this
 ·have:=heap_alloc_new ((w.alloc (.cells #[.bool m,vx] 180)).alloc (.cells #[.bool m',vy] 180)) (.cells #[.bool false,.slice none 0 0] 180)
  rwa [zH,zH] at this
theorem z1z {X:zA} {R:Nat} (r0:X.cell? ⟨R,0,none⟩=some (.bool false)) (r1:X.cell? ⟨R,1,none⟩=some (.slice none 0 0)) (q:Bool) (v vv:Value) (l:List Nat) (hs:Sl X vv (l.map I)) {B:Nat} {w:zA} (hb:zB B w X) (hR:B<=R):
 ((X.setCell ⟨R,0,none⟩ (.bool q)).setCell ⟨R,1,none⟩ v).cell? ⟨R,0,none⟩=some (.bool q)/\((X.setCell ⟨R,0,none⟩ (.bool q)).setCell ⟨R,1,none⟩ v).cell? ⟨R,1,none⟩=some v/\Sl ((X.setCell ⟨R,0,none⟩ (.bool q)).setCell ⟨R,1,none⟩ v) vv (l.map I)/\zB B w ((X.setCell ⟨R,0,none⟩ (.bool q)).setCell ⟨R,1,none⟩ v):=by
 have e1:=(World.cell?_setCell_other _ _ _ (.bool q) (show(⟨R,0,none⟩:Addr)≠⟨R,1,none⟩ by simp)).trans r1;have e0:=za9 (u:=.bool q) r0
 exact⟨(World.cell?_setCell_other _ _ _ v (show(⟨R,1,none⟩:Addr)≠⟨R,0,none⟩ by simp)).trans e0,za9 (u:=v) e1,(hs.set r0 (λx=>by simp[I]) _).set e1 (λx=>by simp[I]) _,
  (hb.setCell (p:=⟨R,0,none⟩) hR _).setCell (p:=⟨R,1,none⟩) hR _⟩
theorem z38 (m m':Bool) (a b:Nat):sgn (m !=m') (a*b)=sgn m a*sgn m' b:=by
 cases m<;>cases m'<;>simp[sgn,Int.mul_neg,Int.neg_mul]
theorem zz8 (m m':Bool) (vx vy:Value) (nx ny:Nat) (w:zA) (hx:Sl w vx ((zaa B6 nx).map I)) (hy:Sl w vy ((zaa B6 ny).map I)) (lx:(zaa B6 nx).length<=1000) (ly:(zaa B6 ny).length<=1000):
 zC zF 267 #[.agg #[.bool m,vx],.agg #[.bool m',vy]] w (z50 w (sgn m nx*sgn m' ny)):=by
 obtain⟨px,cx,rfl, -⟩:=id hx;obtain⟨py,cy,rfl, -⟩:=id hy;simp only[zV] at*
 have hpl:=λW h1 h2=>znx (.slice px (zaa B6 nx).length cx) (.slice py (zaa B6 ny).length cy) (zaa B6 nx) (zaa B6 ny) W h1 h2 (zak (by decide) _) (zak (by decide) _) lx ly;rw[zam (B:=B6) (by decide),zam (B:=B6) (by decide)] at hpl;generalize (zaa B6 nx).length=kx at*
 generalize (zaa B6 ny).length=ky at*
 have HPL:=hid hpl;clear hpl;obtain⟨W3,hW3,hB3,hz3,b2,b3,b4⟩:=z0q w m m' (.slice px kx cx) (.slice py ky cy);have HX:=hid (hx.below hB3);clear hx;have HY:=hid (hy.below hB3);clear hy;have HW3:=hid hW3;have cells:∀X:zA,qL W3 X->X.cell? ⟨w.heap.size,0,none⟩=some (.bool m)/\X.cell? ⟨w.heap.size,1,none⟩=some (.slice px kx cx)/\X.cell? ⟨w.heap.size+1,0,none⟩=some (.bool m')/\X.cell? ⟨w.heap.size+1,1,none⟩=some (.slice py ky cy):=λX h=>by
  have e2:=(h.block w.heap.size (by omega)).trans b2;have e3:=(h.block (w.heap.size+1) (by omega)).trans b3;refine⟨?_,?_,?_,?_⟩<;>simp[World.cell?,e2,e3]
 have CL:=hid cells;have H3:=hid (⟨hB3,hz3,b4⟩:_/\_/\_);clear cells hB3 hz3 b2 b3 b4 hW3 lx ly;go_enter Tryz.func267,Tryz.ntmps267;go_wp2;rw[<-HW3.out];refine zc4 (λ(b:Nat×Value) i=>([.pointer (some ⟨w.heap.size,0,none⟩),.bool m,.pointer (some ⟨w.heap.size+1,0,none⟩),.bool m',.bool (m !=m'),.pointer (some ⟨w.heap.size,1,none⟩),.slice px kx cx,.pointer (some ⟨w.heap.size+1,1,none⟩),.slice py ky cy,b.2,.agg #[.bool (m !=m'),b.2],.pointer (some ⟨b.1,0,none⟩),undef]:List Value)[i]?.getD undef)
  (BigS W3 (m !=m') (nx*ny) 9 11 12) (by kernel_rfl) (by kernel_rfl) (0,.slice none 0 0) ⟨(zM _ W3).drew,λk=>(by cases k),λk=>(by cases k),λk=>(by cases k)⟩ λb=>?_
 refine qB (.pointer (some ⟨w.heap.size,0,none⟩)) (λf W' h=>h.congr rfl rfl rfl) ?_;refine qB (.bool m) (λf W' h=>h.congr rfl rfl rfl) ?_ (hy:=λf W' hf h=>by have g:=CL.out _ h.pre;obtain⟨q0,q1,q2,q3⟩:=g;go_simp);refine qB (.pointer (some ⟨w.heap.size+1,0,none⟩)) (λf W' h=>h.congr rfl rfl rfl) ?_;simp only[zzQ];refine qB (.bool m') (λf W' h=>h.congr rfl rfl rfl) ?_ (hy:=λf W' hf h=>by have g:=CL.out _ h.pre;obtain⟨q0,q1,q2,q3⟩:=g;go_simp);refine qB (.bool (m !=m')) (λf W' h=>h.congr rfl rfl rfl) ?_ (hy:=λf W' hf h=>by cases m<;>cases m'<;>go_simp);refine qB (.pointer (some ⟨w.heap.size,1,none⟩)) (λf W' h=>h.congr rfl rfl rfl) ?_;simp only[zzQ];refine qB (.slice px kx cx) (λf W' h=>h.congr rfl rfl rfl) ?_ (hy:=λf W' hf h=>by have g:=CL.out _ h.pre;obtain⟨q0,q1,q2,q3⟩:=g;go_simp);refine qB (.pointer (some ⟨w.heap.size+1,1,none⟩)) (λf W' h=>h.congr rfl rfl rfl) ?_;refine qB (.slice py ky cy) (λf W' h=>h.congr rfl rfl rfl) ?_ (hy:=λf W' hf h=>by have g:=CL.out _ h.pre;obtain⟨q0,q1,q2,q3⟩:=g;go_simp);simp only[zzQ]
 refine zdc b.2 (by rfl) (by rfl) (λf W' hf h C' hC'=>by
  have h9:=hf.self;have h12:=(hf.no (j:=12) (hf.no (j:=10) hf.self (by kernel_rfl)) (by kernel_rfl));go_simp;refine(HPL.out W' (HX.out.below h.pre) (HY.out.below h.pre)).mono ?_;intro e w' hr;obtain⟨p,c,rfl,hs,hb⟩:=z52 hr;refine⟨_,rfl,hC' (b.1,.slice p (zaa B6 (nx*ny)).length c) w' (λi hi=>?_) (h.call h9 h12 rfl rfl rfl hb hs)⟩
  match i,hi with
  |0,_|1,_|2,_|3,_|4,_|5,_|6,_|7,_|8,_|11,_|12,_=>rfl
  |9,hi=>rw[h9] at hi;cases hi
  |10,hi=>rw[hf.no (j:=10) hf.self (by kernel_rfl)] at hi;cases hi
  |_+13,_=>rfl) ?_
 refine qB (.agg #[.bool (m !=m'),b.2]) (λf W' h=>h.congr rfl rfl rfl) ?_ (hy:=λf W' hf h=>by
  obtain⟨p,c,e, -⟩:=h.cv (hf.done 9 (by kernel_rfl));obtain⟨b1,v⟩:=b;dsimp only at e;subst e;go_simp)
 try simp only[zzQ]
 refine zdc (.pointer (some ⟨b.1,0,none⟩)) (by rfl) (by rfl) (λf W' hf h C' hC'=>by
  have h12:=(hf.no (j:=12) hf.self (by kernel_rfl));have:=hC' (W'.heap.size,b.2) (W'.alloc (.cells #[.bool false,.slice none 0 0] 180)) (λi hi=>?_) (h.new h12 rfl rfl)
  ·go_simp
   exact this
  ·match i,hi with
   |0,_|1,_|2,_|3,_|4,_|5,_|6,_|7,_|8,_|9,_|10,_|12,_=>rfl
   |11,hi=>rw[hf.self] at hi;cases hi
   |_+13,_=>rfl) ?_
 try simp only[zzQ]
 refine zbv undef (by rfl) (by rfl) (λf W' hf h C' hC'=>by
  have h9:=hf.done 9 (by kernel_rfl);have h11:=hf.done 11 (by kernel_rfl);have h12:=hf.self;obtain⟨k1,k2⟩:=h.al h11;have hx:=k2 h12;have d0:W'.cell? ⟨b.1,0,none⟩=some (.bool false):=by simp[World.cell?,hx]
  have d1:W'.cell? ⟨b.1,1,none⟩=some (.slice none 0 0):=by simp[World.cell?,hx]
  have f0:W'.frozen? ⟨b.1,0,none⟩=false:=by simp[World.frozen?,hx]
  have f1:W'.frozen? ⟨b.1,1,none⟩=false:=by simp[World.frozen?,hx]
  have:=hC' _ (h.put h9 h11 h12 rfl);obtain⟨p,c,e, -⟩:=h.cv h9;rw[e] at this⊢;clear hC' h k2 hx e;go_simp;exact this) ?_
 try simp only[Act.put]
 refine ze1 λf X hf h=>?_;obtain⟨p,c,e,hs⟩:=h.cv (hf 9 (by decide));have hfin:=h.fin (hf 12 (by decide));obtain⟨k1, -⟩:=h.al (hf 11 (by decide));obtain⟨b1,v⟩:=b;dsimp only at e hfin k1 hs;subst e;have hres:=(h.pre.block (w.heap.size+1+1) (by have:=H3.out.2.1;omega)).trans H3.out.2.2;have HS:=hid hs;have HB:=hid (H3.out.1.trans (h.pre.mono (by have:=H3.out.2.1;omega)));have hk:w.heap.size+1+1<b1:=by have:=H3.out.2.1;omega
 clear h hf hs k1;have HZ:=hid (z38 m m' nx ny);have HR:=hid hres;have c0:X.cell? ⟨b1,0,none⟩=some (.bool (m !=m')):=by simp[World.cell?,hfin]
 have c1:X.cell? ⟨b1,1,none⟩=some (.slice p (zaa B6 (nx*ny)).length c):=by simp[World.cell?,hfin]
 have f0:X.frozen? ⟨b1,0,none⟩=false:=by simp[World.frozen?,hfin]
 have r0:X.cell? ⟨w.heap.size+1+1,0,none⟩=some (.bool false):=by simp[World.cell?,hres]
 have r1:X.cell? ⟨w.heap.size+1+1,1,none⟩=some (.slice none 0 0):=by simp[World.cell?,hres]
 have fr0:X.frozen? ⟨w.heap.size+1+1,0,none⟩=false:=by simp[World.frozen?,hres]
 have fr1:X.frozen? ⟨w.heap.size+1+1,1,none⟩=false:=by simp[World.frozen?,hres]
 have hne:w.heap.size+1+1≠b1:=by omega
 have hne2:b1≠w.heap.size+1+1:=by omega
 generalize hmm:(m !=m')=mm at*
 generalize hn:nx*ny=n at*
 clear hres hfin HPL HX HY HW3 CL H3 hmm hn;by_cases h0:n=0
 ·subst h0
  rw[zaz] at*
  have d0:=(zau X (b:=w.heap.size+1+1) (b':=b1) 0 0 (.bool false) hne).trans r0;have d1:=(zau X (b:=w.heap.size+1+1) (b':=b1) 1 0 (.bool false) hne).trans r1;have hs1:=HS.out.set c0 (λx=>by simp[I]) (.bool false);have F:=hid (z1z d0 d1 false (.slice p 0 c) _ [] hs1 (HB.out.setCell (p:=⟨b1,0,none⟩) (by show w.heap.size<=b1;omega) _) (show w.heap.size<=w.heap.size+1+1 by omega));have HZ2:=hid HZ.out;clear d0 d1 hs1;simp only[List.length_nil] at*
  go_wp2;obtain⟨g0,g1,g2,g3⟩:=F.out;exact bodyPost_ret (v:=.agg #[.bool false,.slice p 0 c]) (by simp[results,Tryz.results267,go_sem,g0,g1]) rfl ⟨false,_,0,rfl,by rw[<-HZ2.out];cases mm<;>simp[sgn],by rw[zaz];exact g2,g3⟩
 ·have hl0:¬(zaa B6 n).length=0:=λh=>h0 ((zbd (B:=B6) (by decide) n).1 (List.length_eq_zero_iff.1 h))
  have hlb:(((zaa B6 n).length:Int)==0)=false:=by rw[beq_eq_false_iff_ne];omega
  have F:=hid (z1z r0 r1 mm (.slice p (zaa B6 n).length c) _ (zaa B6 n) HS.out HB.out (show w.heap.size<=w.heap.size+1+1 by omega));clear h0;generalize (zaa B6 n).length=L at*
  go_wp2;obtain⟨g0,g1,g2,g3⟩:=F.out;exact bodyPost_ret (v:=.agg #[.bool mm,.slice p L c]) (by simp[results,Tryz.results267,go_sem,g0,g1]) rfl ⟨mm,_,n,rfl,HZ.out,g2,g3⟩
theorem zzE {n:Nat} (h:0<n):∀c r,zD n=c::r->c.toNat≠48:=by
 intro c r e hc;obtain⟨s,hs⟩:=zzX (⟨(zD n++[]).toArray⟩:ByteArray);have hz:=zjz n [] s hs;have c48:c=48:=by apply UInt8.toNat_inj.1;rw[hc];rfl
 rcases hz with h1|h1
 ·rw[e] at h1
  have hr:r=[]:=by cases r with|nil=>rfl|cons _ _=>simp at h1
  have:=zb2 n;rw[e,hr,c48] at this;simp[val] at this;omega
 ·rw[e] at hs
  subst hs;have:=h1 (by simp[ByteArray.size]);exact this (by show c.toNat=48;exact hc)
theorem zte (n:Nat) (h0:0<n) (hl:(zD n).length<=300) (w:zA):
 zC zF 174 #[St (45::zD n)] w λe w'=>e=.returned (.int .i64 0)/\w'=w:=by
 have hd:=zan n;have hh:=zzE h0;have hpos:1<=(zD n).length:=by have:=zbn (n:Int);unfold digs at this;simpa using this
 obtain⟨l,hll⟩:=zzX (zD n);rw[<-hll] at hd hl hpos hh⊢;obtain⟨s,hs⟩:=zzX (⟨(45::l).toArray⟩:ByteArray);obtain⟨b1,b2⟩:=zdd (45::l) s hs;have hsz:s.size=l.length+1:=by rw[b1];simp
 have h1:0<s.size:=by omega
 have h2:1<s.size:=by omega
 have e0:(((s[0]'h1).toNat:Int)==45)=true:=by rw[b2 0 (by simp) h1];rfl
 have hb2:∀k (hb:k<s.size),1<=k->48<=(s[k]'hb).toNat/\(s[k]'hb).toNat<=57:=λk hb hk=>by
  obtain⟨j,rfl⟩:∃j,k=j+1:=⟨k-1,by omega⟩;rw[b2 (j+1) (by simp;omega) hb];exact hd _ (by simp)
 have f1:(((s[1]'h2).toNat:Int)==48)=false:=by
  rw[beq_eq_false_iff_ne,b2 1 (by simp;omega) h2]
  cases l with
  |nil=>simp at hpos
  |cons c r=>have:=hh c r rfl;show((c.toNat:Int))≠48;omega
 show zC _ _ #[.string ⟨(45::l).toArray⟩] _ _;rw[<-hs];have B2:=hid hb2;have hw1:IntKind.i64.wrap ((s.size:Int)-1)=(s.size:Int)-1:=zI _ ⟨by omega,by omega⟩;have h300:¬(300:Int)<(s.size:Int)-1:=by omega
 have h0':(0:Int)<s.size:=by omega
 have hz:((1:Int)==s.size)=false:=by rw[beq_eq_false_iff_ne];omega
 clear hb2 b1 b2 hs hd hh hll hpos hl h0;go_enter Tryz.func174,Tryz.ntmps174;go_wp2;go_loop [4] (λi=>∃k:Nat,1<=k/\k<=s.size/\i=.int .i64 k) (λi=>s.size-(zL i).toNat)
 case atStart=>exact⟨1,zN _,by omega,rfl⟩
 case round=>
  obtain⟨k,hk1,hk,rfl⟩:=hrel;by_cases hlt:k<s.size
  ·obtain⟨c1,c2⟩:=B2.out k hlt hk1
   have d1:(48:Int)<=(s[k].toNat:Int):=by omega
   have d2:(s[k].toNat:Int)<=57:=by omega
   go_wp2;go_round
   case rel=>exact⟨k+1,by omega,by omega,by go_num⟩
   case measure=>simp[zL];omega
  ·go_wp2
   go_ret
   first|exact⟨rfl,rfl⟩|exact rfl|trivial
theorem zh6 (z:Int) (hl:digs z<=300) (w:zA):
 zC zF 174 #[St (zE z)] w λe w'=>e=.returned (.int .i64 0)/\w'=w:=by
 rcases zbg z with⟨h,e⟩|⟨h,e⟩<;>rw[e]
 ·exact ziz _ hl w
 ·exact zte _ (by omega) hl w
theorem zcb (x y:Int) (hx:digs x<=300) (hy:digs y<=300) (w:zA):
 zC zF 120 #[St (zE x),St (zE y)] w λe w'=>e=.returned (.int .i64 0)/\w'=w:=by
 have c1:=zh6 x hx w;have c2:=zh6 y hy w;generalize zE x=u at*
 generalize zE y=v at*
 have C1:=hid c1;have C2:=hid c2;clear c1 c2 hx hy;go_enter Tryz.func120,Tryz.ntmps120;go_wp21;refine C1.out.mono ?_;rintro e w' ⟨rfl,rfl⟩;go_wp21;refine C2.out.mono ?_;rintro e w'' ⟨rfl,rfl⟩;go_wp21;go_ret;exact⟨rfl,rfl⟩
theorem ztf (n:Nat) (h0:0<n) (hl:(zD n).length<=16) (w:zA):
 zC zF 175 #[St (45::zD n)] w λe w'=>e=.returned (.tuple #[.int .i64 (-(n:Int)),.bool true])/\w'=w:=by
 obtain⟨l,hll⟩:=zzX (zD n);have hd:=zan n;have hvn:=zb2 n;rw[<-hll] at hd hvn hl⊢;obtain⟨s,hs⟩:=zzX (⟨(45::l).toArray⟩:ByteArray);obtain⟨b1,b2⟩:=zdd (45::l) s hs;have hsz:s.size=l.length+1:=by rw[b1];simp
 have hvt:=λk hk=>zg3 (l:=l) hd (k:=k) hk;have hs0:0<s.size:=by omega
 have e0:(((s[0]'hs0).toNat:Int)==45)=true:=by rw[b2 0 (by simp) hs0];rfl
 have e0':(((s[0]'hs0).toNat:Int) !=45)=false:=by rw[b2 0 (by simp) hs0];rfl
 have hst:∀k (hb:k+1<s.size),48<=(s[k+1]'hb).toNat/\(s[k+1]'hb).toNat<=57/\val (l.take (k+1))=10*val (l.take k)+((s[k+1]'hb).toNat-48):=λk hb=>by
  have hk:k<l.length:=by omega
  rw[b2 (k+1) (by simp;omega) hb,List.take_succ_eq_append_getElem hk,zde];exact⟨(hd _ (by simp)).1,(hd _ (by simp)).2,rfl⟩
 have hfull:val (l.take (s.size-1))=n:=by rw[hsz,Nat.add_sub_cancel,List.take_length];exact hvn
 show zC _ _ #[.string ⟨(45::l).toArray⟩] _ _;rw[<-hs];have hs17:s.size<=17:=by omega
 generalize hvf:(λk=>val (l.take k))=vf at*
 have hvt':∀k,k<=17->vf k<100000000000000000:=by rw[<-hvf];exact hvt
 have hst':∀k (hb:k+1<s.size),48<=(s[k+1]'hb).toNat/\(s[k+1]'hb).toNat<=57/\vf (k+1)=10*vf k+((s[k+1]'hb).toNat-48):=by rw[<-hvf];exact hst
 have hfull':vf (s.size-1)=n:=by rw[<-hvf];exact hfull
 have hv0:vf 0=0:=by rw[<-hvf];rfl
 have VT:=hid hvt';have ST:=hid hst';have HF:=hid hfull';have V0:=hid hv0;clear hvt' hst' hfull' hv0 hvt hst hfull hvf b1 b2 hs hd hl hll hvn hsz;go_enter Tryz.func175,Tryz.ntmps175;go_wp2;go_loop [4,5] (λa i=>∃k:Nat,k<=s.size/\i=.int .i64 k/\a=.int .i64 (vf (k-1):Nat)) (λ_ i=>s.size-(zL i).toNat)
 case atStart=>exact⟨0,zR _,rfl,by rw[V0.out];rfl⟩
 case round=>
  obtain⟨k,hk,rfl,rfl⟩:=hrel;by_cases hlt:k<s.size
  ·rcases Nat.eq_zero_or_pos k with rfl|hp
   ·go_wp2
    go_round
    case rel=>exact⟨1,by omega,by go_num,rfl⟩
    case measure=>simp[zL];omega
   ·obtain⟨j,rfl⟩:∃j,k=j+1:=⟨k-1,by omega⟩
    obtain⟨c1,c2,c3⟩:=ST.out j hlt;have hv:=VT.out j (by omega);rw[Nat.add_sub_cancel];generalize vf j=v at*
    have C3:=hid c3;clear c3;have d1:(48:Int)<=(s[j+1].toNat:Int):=by omega
    have d2:(s[j+1].toNat:Int)<=57:=by omega
    have d3:((s[j+1].toNat:Int) !=45)=true:=by simp;omega
    go_wp2;go_round
    case rel=>exact⟨j+2,by omega,by go_num,by rw[show j+2-1=j+1 from rfl,C3.out];show Value.int .i64 _=Value.int .i64 _;congr 1;omega⟩
    case measure=>simp[zL];omega
  ·have hk':k=s.size:=by omega
   have HK:=hid hk';clear hk';have hvk:vf (k-1)=n:=by rw[HK.out];exact HF.out
   have hv:n<100000000000000000:=by rw[<-hvk];exact VT.out (k-1) (by omega)
   rw[hvk];have en:IntKind.i64.wrap (-(n:Int))= -(n:Int):=zI _ (by omega);clear hvk hv;go_wp2;go_ret2;exact⟨rfl,rfl⟩
theorem zh7 (z:Int) (hl:(zE z).length<=17) (w:zA):
 zC zF 175 #[St (zE z)] w λe w'=>e=.returned (.tuple #[.int .i64 z,.bool true])/\w'=w:=by
 rcases zbg z with⟨h,e⟩|⟨h,e⟩<;>rw[e] at hl⊢
 ·have:=zi0 z.natAbs hl w
  rwa [show I z.natAbs=.int .i64 z by show Value.int .i64 _=Value.int .i64 _;congr 1;omega] at this
 ·have:=ztf z.natAbs (by omega) (by simp at hl;omega) w
  rwa [show-(z.natAbs:Int)=z by omega] at this
theorem zld (z:Int) (hl:17<(zE z).length) (h2:(zE z).length<=1000) (w:zA):
 zC zF 175 #[St (zE z)] w λe w'=>e=.returned (.tuple #[.int .i64 0,.bool false])/\w'=w:=by
 obtain⟨s,hs⟩:=zzX (⟨(zE z).toArray⟩:ByteArray);have hz:s.size=(zE z).length:=by rw[hs];rfl
 show zC _ _ #[.string ⟨(zE z).toArray⟩] _ _;rw[<-hs];have h1:(17:Int)<s.size:=by omega
 have h3:(s.size:Int)<=1000:=by omega
 clear hs hz hl h2;go_enter Tryz.func175,Tryz.ntmps175;go_wp2;go_ret2;exact⟨rfl,rfl⟩
theorem ze3 (x y:Int) (hx:(zE x).length<=17) (hy:(zE y).length<=17) (w:zA):
 zC zF 121 #[St (zE x),St (zE y)] w λe w'=>e=.returned (.tuple #[.int .i64 x,.int .i64 y,.bool true])/\w'=w:=by
 have c1:=zh7 x hx w;have c2:=zh7 y hy w;generalize zE x=u at*
 generalize zE y=v at*
 have C1:=hid c1;have C2:=hid c2;clear c1 c2 hx hy;go_enter Tryz.func121,Tryz.ntmps121;go_wp21;refine C1.out.mono ?_;rintro e w' ⟨rfl,rfl⟩;go_wp21;refine C2.out.mono ?_;rintro e w'' ⟨rfl,rfl⟩;go_wp21;go_ret3;exact⟨rfl,rfl⟩
theorem zf5 (x y:Int) (h:17<(zE x).length\/17<(zE y).length) (hx:(zE x).length<=1000) (hy:(zE y).length<=1000) (w:zA):
 zC zF 121 #[St (zE x),St (zE y)] w λe w'=>(∃a b,e=.returned (.tuple #[.int .i64 a,.int .i64 b,.bool false]))/\w'=w:=by
 by_cases h1:17<(zE x).length
 ·have c1:=zld x h1 hx w
  generalize zE x=u at*
  generalize zE y=v at*
  have C1:=hid c1;clear c1 hx hy h h1;go_enter Tryz.func121,Tryz.ntmps121;go_wp21;refine C1.out.mono ?_;rintro e w' ⟨rfl,rfl⟩;go_wp21;go_ret3;exact⟨⟨_,_,rfl⟩,rfl⟩
 ·have c1:=zh7 x (by omega) w
  have c2:=zld y (by omega) hy w;generalize zE x=u at*
  generalize zE y=v at*
  have C1:=hid c1;have C2:=hid c2;clear c1 c2 hx hy h h1;go_enter Tryz.func121,Tryz.ntmps121;go_wp21;refine C1.out.mono ?_;rintro e w' ⟨rfl,rfl⟩;go_wp21;refine C2.out.mono ?_;rintro e w'' ⟨rfl,rfl⟩;go_wp21;go_ret3;exact⟨⟨_,_,rfl⟩,rfl⟩
end Go.Proofs.YtgeapfaiacoajaaGreatDoor
namespace Go.Proofs.YtgeapfaiacoajaaGreatDoor.Limb
theorem zec {B:Nat} (hB:2<=B):∀(i n:Nat),(zaa B n)[i]?.getD 0=n/B^i%B
 |0,n=>by
  by_cases h:n=0
  ·subst h;rw[zaz];simp
  ·rw[zfl hB h];simp
 |i+1,n=>by
  by_cases h:n=0
  ·subst h;rw[zaz];simp
  ·rw[zfl hB h,List.getElem?_cons_succ,zec hB i,Nat.div_div_eq_div_mul,yO,yP]
theorem zpd {B n V:Nat} (hB:2<=B) (hV:V<B^(n+2)):V/B^(n+1)%B*B+V/B^n%B=V/B^n:=by
 have e:V/B^(n+1)=V/B^n/B:=by rw[yO,Nat.div_div_eq_div_mul]
 have h1:V/B^n<B*B:=by
  rw[Nat.div_lt_iff_lt_mul (Nat.pow_pos (by omega))];rw[yO,yO,Nat.mul_assoc,yP] at hV;exact hV
 have h2:V/B^n/B<B:=Nat.div_lt_of_lt_mul h1;rw[e,Nat.mod_eq_of_lt h2,yP];exact Nat.div_add_mod _ _
theorem z16 {B n V R:Nat} (hB:2<=B) (hV:V<B^(n+2)) (_:0<V) (hR:R<B*V):
 ((R/B^(n+2)%B*B+R/B^(n+1)%B)*B+R/B^n%B)/(V/B^(n+1)%B*B+V/B^n%B+1)*V<=R/\
 ((R/B^(n+2)%B*B+R/B^(n+1)%B)*B+R/B^n%B)/(V/B^(n+1)%B*B+V/B^n%B+1)<B:=by
 rw[zpd hB hV];have hp:0<B^n:=Nat.pow_pos (by omega);have hR2:R<B^(n+3):=by
  rw[show n+3=(n+2)+1 from rfl,yO,yP];exact Nat.lt_trans hR (Nat.mul_lt_mul_of_pos_left hV (by omega))
 have hX:(R/B^(n+2)%B*B+R/B^(n+1)%B)*B+R/B^n%B=R/B^n:=by
  have e1:=zpd (n:=n+1) hB hR2;rw[show n+1+1=n+2 from rfl] at e1;rw[e1];have e:R/B^(n+1)=R/B^n/B:=by rw[yO,Nat.div_div_eq_div_mul]
  rw[e,yP];exact Nat.div_add_mod _ _
 rw[hX];have k1:V<(V/B^n+1)*B^n:=by rw[yP];exact Nat.lt_mul_div_succ V hp
 have k2:R/B^n/(V/B^n+1)*(V/B^n+1)<=R/B^n:=Nat.div_mul_le_self _ _;have k3:R/B^n*B^n<=R:=Nat.div_mul_le_self _ _;have h1:R/B^n/(V/B^n+1)*V<=R:=by
  have a1:=Nat.mul_le_mul_left (R/B^n/(V/B^n+1)) (Nat.le_of_lt k1);rw[<-Nat.mul_assoc] at a1;have a2:=Nat.mul_le_mul_right (B^n) k2;omega
 refine⟨h1,?_⟩;exact Nat.lt_of_mul_lt_mul_right (Nat.lt_of_le_of_lt h1 hR)
end Go.Proofs.YtgeapfaiacoajaaGreatDoor.Limb
namespace Go.Proofs.YtgeapfaiacoajaaGreatDoor
open Go.RowKit Go.Shelf Lib Str Limb
attribute [local go_sem] Oper.semAt_some
def outL (N n t:Nat):List Nat:=(List.range N).map λp=>if N-1-p<t then 48+n/10^(N-1-p)%10 else 0
theorem zed (N n t:Nat):(outL N n t).length=N:=by simp[outL]
theorem ze4 (N n t p:Nat) (hp:p<N):(outL N n t)[p]? =some (if N-1-p<t then 48+n/10^(N-1-p)%10 else 0):=by
 simp[outL,hp]
theorem zpe (N n:Nat):outL N n 0=List.replicate N 0:=by
 apply List.ext_getElem?;intro p;by_cases hp:p<N
 ·rw[ze4 N n 0 p hp];simp[hp]
 ·rw[List.getElem?_eq_none (by rw[zed];omega),List.getElem?_eq_none (by simp;omega)]
theorem zpf (N n t:Nat) (ht:t<N):(outL N n t).set (N-1-t) (48+n/10^t%10)=outL N n (t+1):=by
 apply List.ext_getElem?;intro p;by_cases hp:p<N
 ·rw[ze4 N n (t+1) p hp,List.getElem?_set]
  by_cases he:N-1-t=p
  ·rw[if_pos he,if_pos (by rw[zed];omega)]
   have:N-1-p=t:=by omega
   rw[this,if_pos (by omega)]
  ·rw[if_neg he,ze4 N n t p hp]
   congr 1;by_cases h1:N-1-p<t
   ·rw[if_pos h1,if_pos (by omega)]
   ·rw[if_neg h1,if_neg (by omega)]
 ·rw[List.getElem?_eq_none (by simp[zed];omega),List.getElem?_eq_none (by rw[zed];omega)]
theorem zle:∀N n,outL N n N=(padD N n).map UInt8.toNat
 |0,_=>rfl
 |N+1,n=>by
  rw[padD,List.map_append,<-zle N (n/10)];apply List.ext_getElem?;intro p;by_cases hp:p<N+1
  ·rw[ze4 (N+1) n (N+1) p hp,if_pos (by omega)]
   by_cases h:p<N
   ·rw[List.getElem?_append_left (by rw[zed];exact h),ze4 N (n/10) N p h,if_pos (by omega),Nat.div_div_eq_div_mul,show N+1-1-p=(N-1-p)+1 by omega,yO,yP (10^_) 10]
   ·have:p=N:=by omega
    subst this;rw[List.getElem?_append_right (by rw[zed];omega),zed];simp;omega
  ·rw[List.getElem?_eq_none (by rw[zed];omega),List.getElem?_eq_none (by simp[zed];omega)]
theorem zvc (n i j:Nat) (hj:j<6):n/B6^i%B6/10^j%10=n/10^(6*i+j)%10:=by
 have e:(10:Nat)^(6*i+j)=B6^i*10^j:=by rw[Nat.pow_add,Nat.pow_mul];rfl
 rw[e,<-Nat.div_div_eq_div_mul];generalize n/B6^i=a;have h:B6=10^j*(10*10^(5-j)):=by
  rw[show 10*10^(5-j)=10^(6-j) by rw[show 6-j=(5-j)+1 by omega,yO,yP],<-Nat.pow_add,show j+(6-j)=6 by omega];rfl
 rw[h,Nat.mod_mul_right_div_self,Nat.mod_mul_right_mod]
def RowB (W:zA) (g:Nat) (l:List Nat):Prop:=∃cur:Array Value,W.heap[g]? =some (.cells cur 5 (0,0))/\cur.toList=l.map λx:Nat=>Value.int .u8 (x:Int)
theorem RowB.cell {W:zA} {g:Nat} {l:List Nat} (h:RowB W g l) {j x:Nat} (hx:l[j]? =some x):W.cell? ⟨g,j,none⟩=some (.int .u8 (x:Int)):=by
 obtain⟨cur,h1,h2⟩:=h;rw[cell_of_row _ _ _ _ _ _ h1,<-Array.getElem?_toList,h2,List.getElem?_map,hx];rfl
theorem RowB.frozen {W:zA} {g:Nat} {l:List Nat} (h:RowB W g l) (j:Nat):W.frozen? ⟨g,j,none⟩=false:=by
 obtain⟨cur,h1,_⟩:=h;simp[World.frozen?,h1]
theorem RowB.set {W:zA} {g:Nat} {l:List Nat} (h:RowB W g l) (j x:Nat):RowB (W.setCell ⟨g,j,none⟩ (.int .u8 (x:Int))) g (l.set j x):=by
 obtain⟨cur,h1,h2⟩:=h;refine⟨cur.setIfInBounds j (.int .u8 (x:Int)),by simp[World.setCell,Array.getElem?_modify,h1],?_⟩;rw[Array.toList_setIfInBounds,h2,List.map_set]
theorem infoByte:(Tryz.prog.info? 5).map (λi=>(i.zero,i.size,i.bytes))=some (some (.int .u8 0),1,1):=by kernel_rfl
theorem zrw {W:zA} {g N base:Nat} (h:W.ownsRow base 5 1 (.slice (some ⟨g,0,none⟩) N N) N ((List.replicate N 0).map λx=>Value.int .u8 ((x:Nat):Int))):RowB W g (List.replicate N 0):=by
 rcases h.2 with⟨e,_⟩|⟨g',cap,cur,e,h1,hg,h2,h3,h4,h5⟩
 ·cases e
 ·simp only[Value.slice.injEq,Option.some.injEq,Addr.mk.injEq,and_true,true_and] at e
  obtain⟨rfl,rfl⟩:=e;refine⟨cur,hg,?_⟩;rw[<-h5,List.take_of_length_le (by simp;omega)]
theorem zhf (dd:List UInt8):((⟨#[45]⟩:ByteArray)++(⟨dd.toArray⟩:ByteArray))=⟨(45::dd).toArray⟩:=by
 apply ByteArray.ext;rw[ByteArray.data_append];apply Array.toList_inj.1;simp
theorem zvd (m:Bool) (vx:Value) (n:Nat) (hn0:0<n) (w:zA) (hx:Sl w vx ((zaa B6 n).map I)) (lx:(zaa B6 n).length<=200):
 qJ 124 #[.agg #[.bool m,vx]] w (St (zE (sgn m n))):=by
 obtain⟨i0,hi,hz0,hz1,hz2⟩:=info_parts infoByte;have hx':=hx;obtain⟨px,cx,rfl,hcx, -⟩:=hx';simp only[zV] at*
 have hl0:¬(zaa B6 n).length=0:=λh=>(Nat.ne_of_gt hn0) ((zbd (B:=B6) (by decide) n).1 (List.length_eq_zero_iff.1 h));have hlb:(((zaa B6 n).length:Int)==0)=false:=by rw[beq_eq_false_iff_ne];omega
 have hlt:=zgb (B:=B6) (by decide) n;obtain⟨L,hL⟩:=zzX ((zaa B6 n).length);have hb1:qL w (w.alloc (.cells #[.bool m,.slice px (zaa B6 n).length cx] 180)):=(zM _ w).alloc (zN _) _;have A1:=heap_alloc_new w (.cells #[.bool m,.slice px (zaa B6 n).length cx] 180);obtain⟨W1,hW1⟩:=zzX (w.alloc (.cells #[.bool m,.slice px (zaa B6 n).length cx] 180));rw[<-hW1] at hb1 A1;have hlen1:W1.heap.size=w.heap.size+1:=by rw[hW1];simp
 have hx1:=hx.below hb1;rw[<-hL] at hlb hl0 lx hlt hcx A1 hW1 hx1⊢;obtain⟨N,hN⟩:=zzX (6*L);have hNi:(6:Int)*(L:Int)=(N:Int):=by omega
 have hNb:N<=1200:=by omega
 have hn6:n<10^N:=by rw[hN,Nat.pow_mul];exact hlt
 have HN:=hid hN;have HL:=hid hL;have H6:=hid hn6;have HW1:=hid hW1;have c10:W1.cell? ⟨w.heap.size,1,none⟩=some (.slice px L cx):=by simp[World.cell?,A1]
 have cells:∀X:zA,qL W1 X->X.cell? ⟨w.heap.size,0,none⟩=some (.bool m)/\X.cell? ⟨w.heap.size,1,none⟩=some (.slice px L cx):=λX h=>by
  have e2:=(h.block w.heap.size (by omega)).trans A1;refine⟨?_,?_⟩<;>simp[World.cell?,e2]
 have CL:=hid cells;have H1:=hid (⟨hb1,hlen1,hx1⟩:_/\_/\_);clear hN hL hn6 hlt hW1 cells hb1 hlen1 hx1 hx hcx A1;go_enter Tryz.func124,Tryz.ntmps124;go_wp2_with (at_make;rw[<-HW1.out];refine wpList_make_full _ rfl _ _ 231 rfl W1.heap.size 5 i0 (.int .u8 0) 1 Tryz.underlying231 hi hz0 hz1 .i64 .i64 _ _ N rfl rfl (by omega) (by omega) (by rw[hz2];omega) (by unfold maxLen;omega) (zN _) ?_);intro w2 hown hgrow;rw[toList_madeCells_one,<-show(List.replicate N 0).map (λx:Nat=>Value.int .u8 (x:Int))=List.replicate N (.int .u8 0) by simp] at hown;have hrow:=zrw hown;rw[<-zpe N n] at hrow;have hB0:qL W1 w2:=(zM _ _).grown hgrow (zN _) (λ_ e=>by cases e);have hg2:=(Array.getElem?_eq_some_iff.1 hrow.choose_spec.1).1;clear hown hgrow c10;obtain⟨g,hg⟩:=zzX W1.heap.size;rw[<-hg] at hrow⊢;have HG:=hid hg;clear hg hg2;go_wp2;go_loopw [4] (λi wr=>∃k:Nat,k<=L/\i=.int .i64 k/\RowB wr g (outL N n (6*k))/\zB W1.heap.size W1 wr) (λi _=>L-(zL i).toNat)
 case atStart=>exact⟨0,zR _,rfl,hrow,hB0⟩
 case round=>
  clear hrow hB0;obtain⟨k,hk,rfl,hrow,hB⟩:=hrel;obtain⟨c0,c1⟩:=CL.out _ hB;by_cases hlt:k<L
  ·have hsl:=H1.out.2.2.below hB
   rw[HL.out] at hsl;obtain⟨bx,ox,rfl, -, -,hcx⟩:=hsl.at (i:=k) (by rw[<-HL.out];exact hlt);rw[zec (B:=B6) (by decide)] at hcx;obtain⟨x0,hx0⟩:=zzX (n/B6^k%B6);rw[<-hx0] at hcx;have hx6:x0<1000000:=by rw[hx0];exact Nat.mod_lt _ (by decide)
   have HX0:=hid hx0;have HROW:=hid hrow;have HB:=hid hB;clear hsl hx0 hrow hB;go_wp2;go_loopw [5,6] (λa i wr'=>∃j:Nat,j<=6/\i=.int .i64 ((j:Int)+1)/\a=.int .i64 ((x0/10^j:Nat):Int)/\RowB wr' g (outL N n (6*k+j))/\zB W1.heap.size W1 wr') (λ_ i _=>7-(zL i).toNat)
   case atStart=>exact⟨0,by omega,rfl,by simp,HROW.out,HB.out⟩
   case round=>
    clear HROW HB c0 c1 hcx;obtain⟨j,hj,rfl,rfl,hrow,hB⟩:=hrel;by_cases hj6:j<6
    ·obtain⟨t,ht⟩:=zzX (6*k+j)
     have htN:t<N:=by have:=HN.out;omega
     obtain⟨p,hp⟩:=zzX (N-1-t);have hpi:(N:Int)-6*k-((j:Int)+1)=(p:Int):=by omega
     have hpN:p<N:=by omega
     rw[<-ht] at hrow;have hcell:=hrow.cell (ze4 N n t p hpN);rw[if_neg (show ¬N-1-p<t by omega)] at hcell;have hfz:=hrow.frozen p;have hstep:=hrow.set p (48+n/10^t%10);rw[hp,zpf N n t htN,<-hp] at hstep;obtain⟨x,hx⟩:=zzX (x0/10^j);have hxb:x<1000000:=Nat.lt_of_le_of_lt (by rw[hx];exact Nat.div_le_self _ _) hx6;obtain⟨y,hy⟩:=zzX (48+x%10);have hyd:48+n/10^t%10=y:=by rw[hy,hx,HX0.out,zvc n k j hj6,ht]
     rw[hyd] at hstep;have hyi:(48:Int)+(x:Int)%10=(y:Int):=by omega
     have hyb:y<=57:=by omega
     have hnext:x/10=x0/10^(j+1):=by rw[hx,Nat.div_div_eq_div_mul,yO]
     have HST:=hid (⟨hstep,hnext,ht⟩:_/\_/\_);have HBB:=hid (hB.setCell (p:=⟨g,p,none⟩) (by show W1.heap.size<=g;rw[HG.out];exact zN _) (.int .u8 (y:Int)));rw[<-hx];clear hstep hnext hy hyd hx hp ht hrow hB hx6;go_wp2;go_roundw
     case rel=>exact⟨j+1,by omega,by go_num,by rw[<-HST.out.2.1];show Value.int .i64 _=Value.int .i64 _;congr 1,by rw[show 6*k+(j+1)=6*k+j+1 by omega,<-HST.out.2.2];exact HST.out.1,HBB.out⟩
     case measure=>simp[zL];omega
    ·obtain rfl:j=6:=by omega
     have HROW:=hid hrow;have HBB:=hid hB;clear hrow hB;generalize x0/10^6=xx at*
     go_wp2;go_roundw
     case rel=>exact⟨k+1,by omega,by go_num,by rw[show 6*(k+1)=6*k+6 by omega];exact HROW.out,HBB.out⟩
     case measure=>simp[zL];omega
  ·obtain rfl:k=L:=by omega
   have hN6:6*k=N:=HN.out.symm;rw[hN6,zle] at hrow;have hD:=zan n;obtain⟨D,hDl⟩:=zzX ((zD n).length);have hpd:=zjv N n (by omega) H6.out;rw[<-hDl] at hpd;have hDN:D<=N:=by
    have h1:=zhw N n;rw[hpd,List.length_append,List.length_replicate,<-hDl] at h1;omega
   have hD1:1<=D:=by have:=zbn (n:Int);unfold digs at this;rw[hDl];simpa using this
   obtain⟨Z,hZ⟩:=zzX (N-D);rw[<-hZ] at hpd;have cz:∀z,z<Z->wr.cell? ⟨g,z,none⟩=some (.int .u8 48):=λz hz=>by
    have:=hrow.cell (j:=z) (x:=48) (by rw[hpd,List.getElem?_map,List.getElem?_append_left (by simp;exact hz)];simp[hz]);exact this
   have cd:∀j (hj:j<(zD n).length),wr.cell? ⟨g,Z+j,none⟩=some (.int .u8 ((zD n)[j].toNat:Int)):=λj hj=>by
    have:=hrow.cell (j:=Z+j) (x:=(zD n)[j].toNat) (by rw[hpd,List.getElem?_map,List.getElem?_append_right (by simp)];simp[hj]);exact this
   have hf:∃c,(zD n)[0]? =some c/\c.toNat≠48:=by
    cases hdd:zD n with
    |nil=>rw[hDl,hdd] at hD1;simp at hD1
    |cons c r=>exact⟨c,rfl,zzE hn0 c r hdd⟩
   obtain⟨c,hc0,hc48⟩:=hf;have cd0:wr.cell? ⟨g,Z,none⟩=some (.int .u8 (c.toNat:Int)):=by
    have:=cd 0 (by omega);rw[Nat.add_zero] at this;rw[this]
    have e:(zD n)[0]'(by omega)=c:=by
     have:=yB (l:=zD n) (i:=0) (by omega);rw[hc0] at this;exact(Option.some.inj this).symm
    rw[e]
   have CZ:=hid cz;have CONV:=hid (run_convert_bytes_back (P:=zF) wr 231 9 5 ⟨g,Z,none⟩ D (zD n) Tryz.underlying231 Tryz.underlying5 Tryz.underlying9 (λj hj=>by
    have:((⟨g,Z,none⟩:Addr).add j)=⟨g,Z+j,none⟩:=by simp only[Addr.add];split<;>simp_all
    rw[this];exact cd j hj))
   rw[<-hDl] at CONV;have HBW:=hid (H1.out.1.trans (hB.mono (by have:=H1.out.2.1;omega)));have hc48':(((c.toNat:Nat):Int)==48)=false:=by rw[beq_eq_false_iff_ne];omega
   have hZN:Z+D=N:=by omega
   have HD:=hid hDl;clear hrow cz cd hpd hc0 hDl hZ hc48 hD H6;go_wp2;go_loop [3] (λv=>∃z d:Nat,z<=Z/\z+d=N/\v=.slice (some ⟨g,z,none⟩) d d) (λv=>zqm v)
   case atStart=>exact⟨0,N,zR _,by omega,rfl⟩
   case round=>
    obtain⟨z,d,hz,hzd,rfl⟩:=hrel;by_cases hzZ:z<Z
    ·have hcell:=CZ.out z hzZ
     go_wp2;go_round
     case rel=>exact⟨z+1,d-1,by omega,by omega,rfl⟩
     case measure=>simp[zqm];omega
    ·obtain rfl:z=Z:=by omega
     obtain rfl:d=D:=by omega
     have conv:=CONV.out;have HRES:=hid (show zE (sgn m n)=if m then 45::zD n else zD n by
      cases m
      ·rw[zkw];exact Str.zad n
      ·rw[zy0];exact Str.zga n hn0)
     have hdl:(zD n).length<=1200:=by rw[<-HD.out];omega
     clear CONV CZ CL H1 HW1 HN HL HD hlb;generalize zD n=dd at*
     have hdl2:¬(9223372036854775807<1+dd.length):=by omega
     cases m
     ·go_wp2
      go_ret;exact⟨by rw[HRES.out];rfl,HBW.out⟩
     ·go_wp2
      go_ret;refine⟨?_,HBW.out⟩;have e:=HRES.out;simp only[if_true] at e;rw[e];show Ending.returned (.string (_++_))=_;rw[zhf]
theorem z26 (N n t j:Nat) (ht:t<=N) (hj:j<t):(outL N n t)[N-t+j]? =some (((padD t n)[j]'(by rw[zhw];exact hj)).toNat):=by
 rw[ze4 N n t (N-t+j) (by omega),if_pos (by omega)];have h1:=zle t n;have h2:=ze4 t n t j hj;rw[if_pos (by omega),h1,List.getElem?_map,yB (by rw[zhw];exact hj)] at h2;rw[show N-1-(N-t+j)=t-1-j by omega];simp only[Option.map_some,Option.some.injEq] at h2;rw[h2]
theorem z28 {n t:Nat} (h0:n/10^t=0) (ht:0<t) (h1:t=1\/n/10^(t-1)≠0):padD t n=zD n:=by
 have hlt:n<10^t:=by
  rcases Nat.lt_or_ge n (10^t) with h|h
  ·exact h
  ·have:=Nat.div_pos h (Nat.pow_pos (show 0<10 by omega));omega
 rw[zjv t n ht hlt];have hl:t-(zD n).length=0:=by
  rcases h1 with rfl|h1
  ·have:=zbn (n:Int);unfold digs at this;simp at this;omega
  ·have h2:10^(t-1)<=n:=by
    rcases Nat.lt_or_ge n (10^(t-1)) with h|h
    ·exact absurd (Nat.div_eq_of_lt h) h1
    ·exact h
   rcases Nat.lt_or_ge (zD n).length t with h3|h3
   ·rcases Nat.eq_zero_or_pos (t-1) with h4|h4
    ·have:=zbn (n:Int);unfold digs at this;simp at this;omega
    ·have:=(zaf n (t-1) h4).1 (by omega)
     omega
   ·omega
 rw[hl];rfl
theorem zvs (n:Nat) (hn:n<9000000000000000000) (w:zA):
 qJ 222 #[I n] w (St (zD n)):=by
 obtain⟨i0,hi,hz0,hz1,hz2⟩:=info_parts infoByte;have hdig:n/10^19=0:=Nat.div_eq_of_lt (Nat.lt_trans hn (by decide));go_enter Tryz.func222,Tryz.ntmps222;go_wp2_with (at_make;refine wpList_make_full _ rfl _ _ 231 rfl w.heap.size 5 i0 (.int .u8 0) 1 Tryz.underlying231 hi hz0 hz1 .i64 .i64 _ _ 20 rfl rfl (by omega) (by omega) (by rw[hz2];omega) (by unfold maxLen;omega) (zN _) ?_);intro w2 hown hgrow;rw[toList_madeCells_one,<-show(List.replicate 20 0).map (λx:Nat=>Value.int .u8 (x:Int))=List.replicate 20 (.int .u8 0) by simp] at hown;have hrow:=zrw hown;rw[<-zpe 20 n] at hrow;have hB0:qL w w2:=(zM _ _).grown hgrow (zN _) (λ_ e=>by cases e);clear hown hgrow;obtain⟨g,hg⟩:=zzX w.heap.size;rw[<-hg] at hrow⊢;have HG:=hid hg;clear hg;have HD18:=hid hdig;clear hdig;have HN:=hid hn;go_wp2;go_loopw [0,4] (λa i wr=>∃t:Nat,t<=18/\a=.int .i64 ((n/10^t:Nat):Int)/\i=.int .i64 ((20:Int)-t)/\RowB wr g (outL 20 n t)/\zB w.heap.size w wr/\(t=0\/n/10^t≠0)) (λ_ i _=>(zL i).toNat)
 case atStart=>exact⟨0,by omega,by simp,rfl,hrow,hB0,.inl rfl⟩
 case round=>
  clear hrow hB0;obtain⟨t,ht,rfl,rfl,hrow,hB,hne⟩:=hrel;obtain⟨p,hp⟩:=zzX (20-1-t);have hpi:(20:Int)-t-1=(p:Int):=by omega
  have hp20:p<20:=by omega
  have hcell:=hrow.cell (ze4 20 n t p hp20);rw[if_neg (show ¬20-1-p<t by omega)] at hcell;have hfz:=hrow.frozen p;have hstep:=hrow.set p (48+n/10^t%10);rw[hp,zpf 20 n t (by omega),<-hp] at hstep;obtain⟨x,hx⟩:=zzX (n/10^t);rw[<-hx] at hstep hne⊢;have hxb:x<9000000000000000000:=Nat.lt_of_le_of_lt (by rw[hx];exact Nat.div_le_self _ _) hn;obtain⟨y,hy⟩:=zzX (48+x%10);rw[<-hy] at hstep;have hyi:(48:Int)+(x:Int)%10=(y:Int):=by omega
  have hyb:y<=57:=by omega
  have hnext:x/10=n/10^(t+1):=by rw[hx,Nat.div_div_eq_div_mul,yO]
  have hbb:=hB.setCell (p:=⟨g,p,none⟩) (by show w.heap.size<=g;rw[HG.out];exact zN _) (.int .u8 (y:Int));obtain⟨x',hx'⟩:=zzX (x/10);have hxi:(x:Int)/10=(x':Int):=by omega
  have hxb':x'<9000000000000000000:=by omega
  rw[<-hx'] at hnext;by_cases h0:x'=0
  ·have hpad:padD (t+1) n=zD n:=z28 (by rw[<-hnext];exact h0) (by omega) (by
    rcases hne with h|h
    ·exact .inl (by omega)
    ·exact .inr (by rw[Nat.add_sub_cancel,<-hx];exact h))
   have hlen:(zD n).length=t+1:=by rw[<-hpad,zhw]
   have hconv:=run_convert_bytes_back (P:=zF) (wr.setCell ⟨g,p,none⟩ (.int .u8 (y:Int))) 231 9 5 ⟨g,p,none⟩ (t+1) (zD n) Tryz.underlying231 Tryz.underlying5 Tryz.underlying9 (λj hj=>by
    have e:((⟨g,p,none⟩:Addr).add j)=⟨g,p+j,none⟩:=by simp only[Addr.add];split<;>simp_all
    have h1:=z26 20 n (t+1) j (by omega) (by omega);rw[show 20-(t+1)+j=p+j by omega] at h1;have h2:=hstep.cell h1;rw[e,h2];simp only[hpad])
   rw[hlen] at hconv;obtain⟨T,hT⟩:=zzX (t+1);rw[<-hT] at hconv;have hTp:(20:Int)-p=(T:Int):=by omega
   have hTp2:20-p=T:=by omega
   have hpT:p+T=20:=by omega
   subst h0;have HB:=hid hbb;clear hstep hnext hy hx hp hrow hB hbb hpad hlen hne hT hx' hn HN HD18 hxb';generalize hdd:zD n=dd at*
   have HDD:=hid hdd;clear hdd;go_wp2;go_ret;exact⟨by rw[HDD.out];rfl,HB.out⟩
  ·have hx0:((x':Int)==0)=false:=by rw[beq_eq_false_iff_ne];omega
   have ht18:t+1<=18:=by
    rcases Nat.lt_or_ge t 18 with h|h
    ·omega
    ·have:t=18:=by omega
     rw[this] at hnext;rw[hnext] at h0;exact absurd HD18.out h0
   have HST:=hid (⟨hstep,hnext,hbb⟩:_/\_/\_);have H0:=hid h0;clear hstep hnext hy hx hp hrow hB hbb hne h0 hx' hn HN HD18;go_wp2;go_roundw
   case rel=>exact⟨t+1,ht18,by rw[<-HST.out.2.1],by show Value.int .i64 _=Value.int .i64 _;congr 1;omega,HST.out.1,HST.out.2.2,.inr (by rw[<-HST.out.2.1];exact H0.out)⟩
   case measure=>simp[zL];omega
end Go.Proofs.YtgeapfaiacoajaaGreatDoor
