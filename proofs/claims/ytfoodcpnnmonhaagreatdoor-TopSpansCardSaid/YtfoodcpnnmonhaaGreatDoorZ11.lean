/- surd.sign, whole: three rounds of places. -/
import Derived.Test.YtfoodcpnnmonhaaGreatDoorZ10
import Derived.Lib.AppendZerosOnto
import Derived.Laws.AppendOwnNone
import Derived.LaidByTextLater
set_option maxRecDepth 100000
set_option maxHeartbeats 8000000
open Go renaming World → zA, Calls → zC
open Go.RowKit renaming Below → zB, intOf → zL
open Go.Lib renaming decDigits → zD, itoa → zE
open Go.Proofs.Tryz renaming prog → zF
open Go.World renaming alloc_heap_new → zG
open Go.IntWalk renaming i64_in → zI
open Go.Joins renaming cell_of_block → zJ
open Go.RowKit.Below renaming refl → zM
open Nat renaming le_refl → zN, le_trans → zO, zero_le → zR, lt_of_lt_of_le → zS, pos_of_ne_zero → yS
open List renaming length_append → zU, length_map → zV, getElem?_eq_getElem → yB, mem_cons_self → yD
namespace Go.Proofs.YtfoodcpnnmonhaaGreatDoor
section
open Go.RowKit Go.Shelf Lib Str Limb
attribute [local go_sem] Oper.semAt_some
def zap (n k:Nat) (z:Int):Int:=if 0<z then 1 else if z+n<0\/(z+n=0/\k=2) then-1 else 0
def sgnP (n:Nat) (Z:Nat->Int):Int:=if zap n 0 (Z 0)≠0 then zap n 0 (Z 0) else if zap n 1 (Z 1)≠0 then zap n 1 (Z 1) else zap n 2 (Z 2)
theorem zhp {n:Nat} {Z:Nat->Int}:∀{k:Nat},k<3->(∀j,j<k->zap n j (Z j)=0)->zap n k (Z k)≠0->sgnP n Z=zap n k (Z k)
 |0,_,_,h=>by unfold sgnP;rw[if_pos h]
 |1,_,h0,h=>by unfold sgnP;rw[if_neg (by simp[h0 0 (by omega)]),if_pos h]
 |2,_,h0,_=>by unfold sgnP;rw[if_neg (by simp[h0 0 (by omega)]),if_neg (by simp[h0 1 (by omega)])]
theorem znr {n:Nat} {Z:Nat->Int} (h:∀j,j<3->zap n j (Z j)=0):sgnP n Z=0:=by
 unfold sgnP;rw[if_neg (by simp[h 0 (by omega)]),if_neg (by simp[h 1 (by omega)]),h 2 (by omega)]
def errP (s:Int):Int:=if s=0 then 4 else 0
theorem zj5 (p:Option Addr) (cap n:Nat) (h0:0<n) (hn:n<=100) (X Y:Nat->List UInt8) (F Z:Nat->Nat->Int) (hZ0:Hid (∀k,Z k 0=0))
 (FL:Hid (∀k i,k<3->i<n->qK 65 #[.agg #[St (X i),St (Y i)],.int .i64 (plN k:Int)] (St (zE (F k i)))))
 (AD:Hid (∀k i,k<3->i<n->qK 64 #[St (zE (Z k i)),St (zE (F k i))] (.tuple #[St (zE (Z k (i+1))),.int .i64 0])))
 (A1:Hid (∀k j,k<3->j<n->qK 64 #[St (zE (Z k n+(j:Int))),.string ⟨#[49]⟩] (.tuple #[St (zE (Z k n+((j+1:Nat):Int))),.int .i64 0])))
 (CM:Hid (∀k j,k<3->j<=n->qK 59 #[St (zE (Z k n+(j:Int))),.string ⟨#[48]⟩] (.tuple #[.int .i64 (cmpZ (Z k n+(j:Int)) 0),.int .i64 0])))
 (w:zA) (HW:Hid (Wd w)) (HP:Hid (Spw w))
 (HT:Hid (∀i,i<n->∃b off,p=some ⟨b,off,none⟩/\b<w.heap.size/\w.cell? ⟨b,off+i*2,none⟩=some (St (X i))/\w.cell? ⟨b,off+i*2+1,none⟩=some (St (Y i)))):
 qJ 32 #[.slice p n cap] w (.tuple #[.int .i64 (sgnP n λk=>Z k n),.int .i64 (errP (sgnP n λk=>Z k n))]):=by
 obtain⟨tt,fz,hblk⟩:=HP.out.block;have hz:((n:Int)==0)=false:=by rw[beq_eq_false_iff_ne];omega
 have D0:=hid (zM w.heap.size w);go_enter Tryz.func32,Tryz.ntmps32;go_wp2_with (refine wpList_load_row rfl 107 (.global 0) rfl 0 rfl tt spV fz (.array 3 3) hblk (by kernel_rfl) rfl (by kernel_rfl) ?_);go_loopw [17] (λi wr=>∃(k:Nat),k<=3/\i=.int .i64 (k:Int)/\Hid (∀j,j<k->zap n j (Z j n)=0)/\Hid (qL w wr))
  (λi _=>3-(zL i).toNat)
 case atStart=>exact⟨0,by omega,rfl,hid (λj h=>by omega),D0⟩
 case round=>
  clear D0 hblk;obtain⟨k,hk,rfl,HU,DK⟩:=hrel;by_cases hlk:k<3
  ·have hx:=λw=>z8x k hlk w
   have HFL:=hid (λi=>FL.out k i hlk);have HAD:=hid (λi=>AD.out k i hlk);have HA1:=hid (λi=>A1.out k i hlk);have HCM:=hid (λj=>CM.out k j hlk);have hS:Value.string ⟨#[48]⟩=St (zE (Z k 0)):=by rw[hZ0.out,zb9]
   have hk3:((k:Int)+1==3)=decide (k=2):=by
    by_cases e:k=2
    ·subst e;rfl
    ·rw[decide_eq_false e,beq_eq_false_iff_ne];omega
   have hwk:IntKind.i64.wrap ((k:Int)+1)=(k:Int)+1:=zI _ (by omega);generalize plN k=pl at*
   have HK3:=hid hk3;clear hk3;go_wp21;rw[hS]
   try rw[show decide ((k:Int)<3)=true from decide_eq_true (by omega)]
   clear hS hx;go_loopw [6,23] (λv i wr=>∃(i0:Nat),i0<=n/\i=.int .i64 (i0:Int)/\v=St (zE (Z k i0))/\Hid (qL w wr))
    (λ_ i _=>n-(zL i).toNat)
   case atStart=>exact⟨0,zR _,rfl,rfl,DK⟩
   case round=>
    clear DK;obtain⟨i0,hi0,rfl,rfl,D1⟩:=hrel;by_cases hlt:i0<n
    ·obtain⟨b,off,rfl,hb,c0,c1⟩:=HT.out i0 hlt
     have t0:wr.cell? ⟨b,off+i0*2,none⟩=some (St (X i0)):=by rw[D1.out.cell (p:=⟨b,off+i0*2,none⟩) hb];exact c0
     have t1:wr.cell? ⟨b,off+i0*2+1,none⟩=some (St (Y i0)):=by rw[D1.out.cell (p:=⟨b,off+i0*2+1,none⟩) hb];exact c1
     have M1:=hid (HFL.out i0 hlt);have M2:=hid (HAD.out i0 hlt);generalize X i0=x at*
     generalize Y i0=y at*
     generalize zE (F k i0)=z at*
     generalize zE (Z k i0)=sk at*
     obtain⟨v1,hv⟩:=zzX (wr.alloc (.cells #[St x,St y] 49));have a1:qL wr v1:=by rw[hv];exact(zM _ wr).alloc (zN _) _
     have A1:v1.heap[wr.heap.size]? =some (.cells #[St x,St y] 49 (0,0)):=by rw[hv];exact zG wr _
     have k0:v1.cell? ⟨wr.heap.size,0,none⟩=some (St x):=by rw[zJ A1];rfl
     have k1:v1.cell? ⟨wr.heap.size,1,none⟩=some (St y):=by rw[zJ A1];rfl
     rw[hv] at k0 k1;have HV1:=hid hv.symm;have E1:=hid (D1.out.trans (a1.mono D1.out.size));clear hv a1 A1 c0 c1 hb;go_wp21;rw[HV1.out];clear t0 t1 k0 k1 HV1;refine zzM (M1.out v1 (HW.out.below E1.out)) λy1 hb1=>?_;have E2:=hid (E1.out.trans (hb1.mono E1.out.size));clear hb1 E1 M1;go_wp21;refine zzM (M2.out y1 (HW.out.below E2.out)) λy2 hb1=>?_;have E3:=hid (E2.out.trans (hb1.mono E2.out.size));clear hb1 E2 M2;go_wp21;go_roundw
     case rel=>exact⟨i0+1,by omega,by go_num,rfl,E3⟩
     case measure=>simp[zL];omega
    ·have hkn:i0=n:=by omega
     subst hkn;have hC0:=HCM.out 0 (zR _);rw[show Z k i0+((0:Nat):Int)=Z k i0 by omega] at hC0;have HC0:=hid hC0;clear hC0;obtain⟨T,hT⟩:=zzX ( λ(j:Nat)=>zE (Z k i0+(j:Int)):Nat->List UInt8);have hTn:St (zE (Z k i0))=St (T 0):=by rw[hT];show St (zE (Z k i0))=St (zE (Z k i0+((0:Nat):Int)));rw[show Z k i0+((0:Nat):Int)=Z k i0 by omega]
     have HTN:=hid hTn;clear hTn;have HB1:Hid (∀j,j<i0->qK 64 #[St (T j),.string ⟨#[49]⟩] (.tuple #[St (T (j+1)),.int .i64 0])):=hid (by rw[hT];exact HA1.out);have HB2:Hid (qK 59 #[St (T i0),.string ⟨#[48]⟩] (.tuple #[.int .i64 (cmpZ (Z k i0+(i0:Int)) 0),.int .i64 0])):=hid (by rw[hT];exact HCM.out i0 (zN _));clear HFL HAD HA1 HCM hT;by_cases hp:0<Z k i0
     ·have hd:decide (0<cmpZ (Z k i0) 0)=true:=by unfold cmpZ;rw[if_neg (by omega),if_pos (by omega)];rfl
      have hc1:cmpZ (Z k i0) 0=1:=by unfold cmpZ;rw[if_neg (by omega),if_pos (by omega)]
      have hs1:zap i0 k (Z k i0)=1:=by unfold zap;rw[if_pos hp]
      have hres:(sgnP i0 λk=>Z k i0)=1:=by rw[zhp hlk HU.out (by show zap i0 k (Z k i0)≠0;rw[hs1];decide)];exact hs1
      have HRES:=hid hres;rw[hc1] at HC0;generalize zE (Z k i0)=zs at*
      clear hp hd hc1 hs1 hres;go_wp21;refine zzM (HC0.out wr (HW.out.below D1.out)) λy1 hb1=>?_;have E1:=hid (D1.out.trans (hb1.mono D1.out.size));clear hb1 HC0;go_wp21;go_ret2;exact⟨by rw[HRES.out];rfl,E1.out⟩
     ·have hd:decide (0<cmpZ (Z k i0) 0)=false:=by
       unfold cmpZ;by_cases h2:Z k i0<0
       ·rw[if_pos h2];rfl
       ·rw[if_neg h2,if_neg (by omega)];rfl
      have HNP:=hid hp;clear hp;obtain⟨c,hc⟩:=zzX (cmpZ (Z k i0) 0);rw[<-hc] at hd HC0;clear hc;go_wp21;refine zzM (HC0.out wr (HW.out.below D1.out)) λy1 hb1=>?_;have E1:=hid (D1.out.trans (hb1.mono D1.out.size));clear hb1 HC0;go_wp21;rw[HTN.out];clear hd;go_loopw [6,45] (λv i wr=>∃(j:Nat),j<=i0/\i=.int .i64 (j:Int)/\v=St (T j)/\Hid (qL w wr))
       (λ_ i _=>i0-(zL i).toNat)
      case atStart=>exact⟨0,zR _,rfl,rfl,E1⟩
      case round=>
       clear E1;obtain⟨j,hj,rfl,rfl,D2⟩:=hrel;by_cases hlt:j<i0
       ·have M2:=hid (HB1.out j hlt)
        go_wp21;refine zzM (M2.out _ (HW.out.below D2.out)) λy2 hb1=>?_;have E3:=hid (D2.out.trans (hb1.mono D2.out.size));clear hb1 M2;go_wp21;go_roundw
        case rel=>exact⟨j+1,by omega,by go_num,rfl,E3⟩
        case measure=>simp[zL];omega
       ·have hji:j=i0:=by omega
        subst hji;have HC1:=HB2;clear HB2 HB1 HTN;obtain⟨z,hz⟩:=zzX (Z k j+(j:Int));rw[<-hz] at HC1;have HZ:=hid hz;clear hz;by_cases hneg:z<0
        ·have hd:decide (cmpZ z 0<0)=true:=by unfold cmpZ;rw[if_pos hneg];rfl
         have hs1:zap j k (Z k j)= -1:=by unfold zap;rw[if_neg (by have:=HNP.out;omega),if_pos (.inl (by rw[<-HZ.out];exact hneg))]
         have hres:(sgnP j λk=>Z k j)= -1:=by rw[zhp hlk HU.out (by show zap j k (Z k j)≠0;rw[hs1];decide)];exact hs1
         have HRES:=hid hres;generalize cmpZ z 0=c at*
         clear hs1 hres hneg;go_wp21;refine zzM (HC1.out _ (HW.out.below D2.out)) λy2 hb1=>?_;have E3:=hid (D2.out.trans (hb1.mono D2.out.size));clear hb1 HC1;go_wp21;go_ret2;exact⟨by rw[HRES.out];rfl,E3.out⟩
        ·have hd:decide (cmpZ z 0<0)=false:=by
          unfold cmpZ;rw[if_neg hneg];split<;>rfl
         by_cases hl:z=0/\k=2
         ·have hd2:(cmpZ z 0==0)=true:=by rw[hl.1];rfl
          have hd3:((k:Int)+1==3)=true:=by rw[HK3.out,decide_eq_true hl.2]
          have hs1:zap j k (Z k j)= -1:=by unfold zap;rw[if_neg (by have:=HNP.out;omega),if_pos (.inr ⟨by rw[<-HZ.out];exact hl.1,hl.2⟩)]
          have hres:(sgnP j λk=>Z k j)= -1:=by rw[zhp hlk HU.out (by show zap j k (Z k j)≠0;rw[hs1];decide)];exact hs1
          have HRES:=hid hres;generalize cmpZ z 0=c at*
          clear hs1 hres hneg hl;go_wp21;refine zzM (HC1.out _ (HW.out.below D2.out)) λy2 hb1=>?_;have E3:=hid (D2.out.trans (hb1.mono D2.out.size));clear hb1 HC1;go_wp21;go_ret2;exact⟨by rw[HRES.out];rfl,E3.out⟩
         ·have hs1:zap j k (Z k j)=0:=by unfold zap;rw[if_neg (by have:=HNP.out;omega),if_neg (by rw[<-HZ.out];omega)]
          have HS1:=hid hs1;have hnx:Hid (∀i,i<k+1->zap j i (Z i j)=0):=hid λi hi=>by
           by_cases e:i=k
           ·rw[e];exact HS1.out
           ·exact HU.out i (by omega)
          have hcs:(cmpZ z 0==0)=false\/((cmpZ z 0==0)=true/\((k:Int)+1==3)=false):=by
           by_cases e:z=0
           ·right
            exact⟨by rw[e];rfl,by rw[HK3.out,decide_eq_false (λh=>hl ⟨e,h⟩)]⟩
           ·left
            unfold cmpZ;rw[if_neg hneg,if_pos (by omega)];rfl
          generalize cmpZ z 0=c at*
          clear hs1 hneg hl;rcases hcs with hc|⟨hc,hc3⟩
          ·go_wp21
           refine zzM (HC1.out _ (HW.out.below D2.out)) λy2 hb1=>?_;have E3:=hid (D2.out.trans (hb1.mono D2.out.size));clear hb1 HC1;go_wp21;go_roundw
           case rel=>exact⟨k+1,by omega,by go_num,hnx,E3⟩
           case measure=>simp[zL];omega
          ·go_wp21
           refine zzM (HC1.out _ (HW.out.below D2.out)) λy2 hb1=>?_;have E3:=hid (D2.out.trans (hb1.mono D2.out.size));clear hb1 HC1;go_wp21;go_roundw
           case rel=>exact⟨k+1,by omega,by go_num,hnx,E3⟩
           case measure=>simp[zL];omega
  ·have hk3:k=3:=by omega
   subst hk3;have HRES:=hid (znr (Z:=λk=>Z k n) HU.out);go_wp21;go_ret2;exact⟨by rw[HRES.out];rfl,DK.out⟩
theorem zjn (v1 v2:Value) (sg e2:Int) (R:Value->zA->Prop) (E F:Prop) (w:zA)
 (S:Hid (zC zF 31 #[v1,v2] w λe w'=>∃q n c r,e=.returned (.tuple #[.slice q n c,.int .i64 r])/\zB w.heap.size w w'/\((r=0/\R (.slice q n c) w'/\E)\/(r=4/\F))))
 (G:Hid (∀(W:zA) (u:Value),E->qL w W->R u W->qJ 32 #[u] W (.tuple #[.int .i64 sg,.int .i64 e2]))):
 zC zF 11 #[v1,v2] w λe w'=>∃m r,e=.returned (.tuple #[.int .i64 m,.int .i64 r])/\zB w.heap.size w w'/\((r=4/\m=0/\F)\/(m=sg/\r=e2/\E)):=by
 go_enter Tryz.func11,Tryz.ntmps11;go_wp21;refine S.out.mono ?_;rintro e w1 ⟨q,n,c,r,rfl,hb1,hr⟩;have B1:=hid hb1;rcases hr with⟨rfl,hr,hE⟩|⟨rfl,hF⟩
 ·have HG:=hid (G.out w1 _ hE hb1 hr)
  have HE:=hid hE;clear hb1 hr G S hE;go_wp21;refine zzM HG.out λw2 hb2=>?_;have B2:=hid (B1.out.trans (hb2.mono B1.out.size));clear hb2;go_wp21;go_ret2;exact⟨_,_,rfl,B2.out,.inr ⟨rfl,rfl,HE.out⟩⟩
 ·have HF:=hid hF
  clear hb1 G S hF;go_wp21;go_ret2;exact⟨_,_,rfl,B1.out,.inl ⟨rfl,rfl,HF.out⟩⟩
theorem z0o (p1 p2:Option Addr) (n1 n2 c1 c2 N:Nat) (R R2:Option Addr->Nat->zA->Prop) (R3:Value->Int->zA->Prop) (w:zA)
 (B:Hid (qJ 60 #[.slice p1 n1 c1,.slice p2 n2 c2] w (.bool true)))
 (S:Hid (∀W:zA,qL w W->zC zF 61 #[.slice p2 n2 c2,.string ⟨#[45,49]⟩] W λe w'=>∃q d,e=.returned (.tuple #[.slice q n2 d,.int .i64 0])/\zB W.heap.size W w'/\R q d w'))
 (CN:Hid (∀(W:zA) (q:Option Addr) (d b:Nat),qL w W->w.heap.size<=b->(∃W0,qL w W0/\R q d W0/\zB W0.heap.size W0 W)->W.cell? ⟨b,0,none⟩=some (.slice p1 n1 c1)->W.cell? ⟨b,1,none⟩=some (.slice q n2 d)->zC zF 63 #[.slice (some ⟨b,0,none⟩) 2 2] W λe w'=>∃q' d',e=.returned (.slice q' N d')/\zB W.heap.size W w'/\R2 q' d' w'))
 (M:Hid (∀(W:zA) (q:Option Addr) (d:Nat),qL w W->R2 q d W->zC zF 62 #[.slice q N d] W λe w'=>∃q n c r,e=.returned (.tuple #[.slice q n c,.int .i64 r])/\zB W.heap.size W w'/\R3 (.slice q n c) r w')):
 zC zF 31 #[.slice p1 n1 c1,.slice p2 n2 c2] w λe w'=>∃q n c r,e=.returned (.tuple #[.slice q n c,.int .i64 r])/\zB w.heap.size w w'/\R3 (.slice q n c) r w':=by
 go_enter Tryz.func31,Tryz.ntmps31;go_wp21;refine zzM B.out λw1 hb1=>?_;have B1:=hid hb1;have HS:=hid (S.out w1 hb1);clear hb1 B S;go_wp21;refine HS.out.mono ?_;rintro e w2 ⟨q,d,rfl,hb2,hr⟩;have hb:=B1.out.trans (hb2.mono B1.out.size);obtain⟨v1,hv⟩:=zzX (w2.alloc (.cells #[.slice p1 n1 c1,.slice q n2 d] 36));have a1:qL w2 v1:=by rw[hv];exact(zM _ w2).alloc (zN _) _
 have A1:v1.heap[w2.heap.size]? =some (.cells #[.slice p1 n1 c1,.slice q n2 d] 36 (0,0)):=by rw[hv];exact zG w2 _
 have HC:=hid (CN.out v1 q d w2.heap.size (hb.trans (a1.mono hb.size)) hb.size ⟨w2,hb,hr,a1⟩ (by rw[zJ A1];rfl) (by rw[zJ A1];rfl));have HV1:=hid hv.symm;have B2:=hid (hb.trans (a1.mono hb.size));clear hv a1 A1 CN hb hb2 hr HS B1;go_wp21;rw[HV1.out];clear HV1;refine HC.out.mono ?_;rintro e w3 ⟨q2,d2,rfl,hb3,hr3⟩;have hb:=B2.out.trans (hb3.mono B2.out.size);have B3:=hid hb;have HM:=hid (M.out w3 q2 d2 hb hr3);clear hb hb3 hr3 M HC B2;go_wp21;refine HM.out.mono ?_;rintro e w4 ⟨q4,n4,d4,r4,rfl,hb4,hr4⟩;have FE:=hid (⟨B3.out.trans (hb4.mono B3.out.size),hr4⟩:qL w w4/\R3 (.slice q4 n4 d4) r4 w4);clear hb4 hr4 HM B3;go_wp21;go_ret2;exact⟨q4,n4,d4,r4,rfl,FE.out.1,FE.out.2⟩
theorem z5e (a ar b br:List UInt8) (n:Int) (CM:Hid (qK 30 #[St ar,St br] (.tuple #[.int .i64 n,.int .i64 0]))) (w:zA) (HW:Hid (Wd w)):
 qJ 122 #[.agg #[St a,St ar],.agg #[St b,St br]] w (.int .i64 n):=by
 obtain⟨v1,hv⟩:=zzX (w.alloc (.cells #[St a,St ar] 49));have a1:qL w v1:=by rw[hv];exact(zM _ w).alloc (zN _) _
 have A1:v1.heap[w.heap.size]? =some (.cells #[St a,St ar] 49 (0,0)):=by rw[hv];exact zG w _
 have s1:v1.heap.size=w.heap.size+1:=by rw[hv];simp
 obtain⟨v2,hv2⟩:=zzX (v1.alloc (.cells #[St b,St br] 49));have a2:qL v1 v2:=by rw[hv2];exact(zM _ v1).alloc (zN _) _
 have A2:v2.heap[w.heap.size+1]? =some (.cells #[St b,St br] 49 (0,0)):=by rw[hv2,<-s1];exact zG v1 _
 have A3:=zac a2 _ _ _ _ A1;have k0:v2.cell? ⟨w.heap.size,1,none⟩=some (St ar):=by rw[zJ A3];rfl
 have k1:v2.cell? ⟨w.heap.size+1,1,none⟩=some (St br):=by rw[zJ A2];rfl
 have E1:=hid (a1.trans (a2.mono a1.size));rw[hv] at hv2;rw[hv2] at k0 k1;have HV:=hid hv2.symm;clear hv hv2 a1 a2 A1 A2 A3 s1;go_enter Tryz.func122,Tryz.ntmps122;go_wp21;rw[HV.out];clear k0 k1 HV;refine zzM (CM.out v2 (HW.out.below E1.out)) λy1 hb1=>?_;have E2:=hid (E1.out.trans (hb1.mono E1.out.size));clear hb1;go_wp21;go_ret;exact⟨rfl,E2.out⟩
theorem z61 (a b c:Rat) (i j:Nat) (hi:0<i) (hj:0<j) (hij:i+j<=300) (ha:sz a i) (hb:sz b j) (h:a*b=c) (W:zA) (hW:Wd W):qJ 52 #[St (numS a),St (numS b)] W (.tuple #[St (numS c),.int .i64 0]):=by
 rw[<-h];exact zjf a b i j hi hj hij ha hb W hW
theorem zsf {a:Rat} (h:a≠0):(numS a==[48])=false:=by rw[beq_eq_false_iff_ne];exact λe=>h ((zpy a).1 e)
def strT (t:Rat×Nat):List UInt8×List UInt8:=(numS t.1,zD t.2)
theorem zi3:∀l:List (Rat×Nat),zin (l.map strT)=(l.filter λc=>!decide (c.1=0)).map strT
 |[]=>rfl
 |c::l=>by
  have ih:=zi3 l;unfold zin at ih⊢;rw[List.map_cons,List.filter_cons,List.filter_cons,ih];by_cases e:c.1=0
  ·have h1:((strT c).1==[48])=true:=by unfold strT;rw[e];simp[zie]
   simp[h1,e]
  ·have h1:((strT c).1==[48])=false:=zsf e
   simp[h1,e]
theorem zui:∀(l:List (List UInt8×List UInt8)),∀u∈zbj l,u.oneCell'=true
 |[],u,h=>by simp[zbj] at h
 |a::r,u,h=>by
  rcases List.mem_cons.1 h with rfl|h
  ·rfl
  ·rcases List.mem_cons.1 h with rfl|h
   ·rfl
   ·exact zui r u h
theorem zpa {w:zA} {base:Nat} {e:TypeId} {s:Nat} {v:Value} {n:Nat} {xs:List Value} (h:w.ownsRow base e s v n xs):∃q c,v=.slice q n c:=by
 rcases h.2 with⟨rfl,rfl⟩|⟨g,cp,cur,rfl,_⟩
 ·exact⟨none,0,rfl⟩
 ·exact⟨_,cp,rfl⟩
def catL (L:Nat->List (List UInt8×List UInt8)):Nat->List (List UInt8×List UInt8)
 |0=>[]
 |k+1=>catL L k++L k
theorem zih (L:Nat->List (List UInt8×List UInt8)) {k:Nat}:∀{m:Nat},k<=m->(catL L k).length<=(catL L m).length
 |0,h=>by rw[show k=0 by omega];exact zN _
 |m+1,h=>by
  rcases Nat.lt_or_ge m k with h1|h1
  ·obtain rfl:k=m+1:=by omega
   exact zN _
  ·have:=zih L h1
   show _<=(catL L m++L m).length;rw[zU];omega
theorem z62 (n:Nat) (h1:1<=n) (hn:n<=10000) (w:zA):
 zC zF 123 #[.slice none 0 0,.int .i64 (n:Int)] w λe w'=>∃v,e=.returned v/\w'.ownsRow w.heap.size 49 2 v 0 []/\zB w.heap.size w w':=by
 obtain⟨i0,hi,hz0,hz1,hz2⟩:=info_parts zsc;have hrz:∀ty,(Builtin.append_ #[36,3] ty #[.slice none 0 0,.int .i64 (n:Int)]).run zF w=
  .ok (.slice (some ⟨w.heap.size,0,none⟩) n (grownCap w n 0 49)) (w.drew.alloc (.cells (#[]++Builtin.zeroCells (Value.agg #[St [],St []]).cells n++Builtin.zeroCells (Value.agg #[St [],St []]).cells (grownCap w n 0 49-n)) 49)):=λty=>by
  have h:=Lib.run_append_grow_zeros w 36 3 ty 49 i0 (.agg #[St [],St []]) .i64 .i64 Tryz.underlying36 Tryz.underlying3 hi hz0 none 0 0 [] (run_firstCells_none w.drew i0.size 0 0 0) n h1 (by omega) (by omega) (by omega) (by rw[hz2];omega) (by rw[hz2];exact growslice_fits (by omega) (by omega));simpa using h
 have hGn:n<=grownCap w n 0 49:=grownCap_ge w _ _ _;have hGm:grownCap w n 0 49<=maxLen:=grownCap_le_maxLen w n 0 49 (by unfold maxLen;omega);generalize grownCap w n 0 49=G at*
 have HR:=hid (hrz);clear hrz;have HG:=hid (⟨hGn,hGm⟩:n<=G/\G<=maxLen);have hG63:G<=9223372036854775807:=by unfold maxLen at hGm;omega
 clear hi hz0 hz1 hz2 hGm;have hn0:¬(n:Int)<0:=by omega
 have hn1:(0:Int)<n:=by omega
 have hw1:IntKind.i64.wrap (n:Int)=n:=zI _ ⟨by omega,by omega⟩;go_enter Tryz.func123,Tryz.ntmps123;go_wp2_with (at_builtin;refine Lib.wpList_append_run _ rfl _ _ _ _ rfl _ _ rfl rfl _ _ (HR.out _) ?_);go_ret;refine⟨_,rfl,⟨rfl,.inr ⟨w.heap.size,G,_,rfl,zN _,zG w _,zR _,HG.out.2,?_,by simp⟩⟩,((zM _ w).alloc (zN _) _).drew⟩;have:=HG.out.1;rw[Array.size_append,size_zeroCells,size_zeroCells];show n*2+(G-n)*2=G*2;omega
theorem z5g (b m:Nat) (p:Nat->Option Addr) (c:Nat->Nat) (L:Nat->List (List UInt8×List UInt8)) (hm:m<=4096) (hN:(catL L m).length<=4096) (w:zA)
 (GR:Hid (∀W:zA,zC zF 123 #[.slice none 0 0,.int .i64 ((catL L m).length:Int)] W λe w'=>∃v,e=.returned v/\w'.ownsRow W.heap.size 49 2 v 0 []/\zB W.heap.size W w'))
 (HX:Hid (∀k,k<m->(p k=none/\(L k).length=0/\c k=0)\/∃g o,p k=some ⟨g,o,none⟩/\∀W:zA,qL w W->∀j u,(zbj (L k))[j]? =some u->W.cell? ⟨g,o+j,none⟩=some u))
 (HA:Hid (∀W:zA,qL w W->∀k,k<m->W.cell? ⟨b,k,none⟩=some (.slice (p k) (L k).length (c k)))):
 zC zF 63 #[.slice (some ⟨b,0,none⟩) m m] w λe w'=>∃v,e=.returned v/\w'.ownsRow w.heap.size 49 2 v (catL L m).length (zbj (catL L m))/\zB w.heap.size w w':=by
 obtain⟨N,hNe⟩:=zzX ((catL L m).length);rw[<-hNe] at GR hN⊢;have HN:=hid hNe;clear hNe;go_enter Tryz.func63,Tryz.ntmps63;go_wp21;go_loopw [11,3] (λi z wr=>∃(k:Nat),k<=m/\i=.int .i64 (k:Int)/\z=.int .i64 ((catL L k).length:Int)/\Hid (wr=w))
  (λi _ _=>m-(zL i).toNat)
 case atStart=>exact⟨0,zR _,rfl,rfl,hid rfl⟩
 case round=>
  obtain⟨k,hk,rfl,rfl,hB⟩:=hrel;obtain rfl:=hB.out.symm;clear hB;by_cases hlt:k<m
  ·have a0:=HA.out w (zM _ _) k hlt
   have hxy:(catL L k).length+(L k).length=(catL L (k+1)).length:=(zU ..).symm;have hle:(catL L (k+1)).length<=4096:=zO (zih L hlt) (by rw[<-HN.out];exact hN);obtain⟨z,hz⟩:=zzX ((catL L (k+1)).length);rw[<-hz] at hxy hle;have HZ:=hid hz;clear hz;generalize (catL L k).length=x at*
   generalize (L k).length=y at*
   generalize p k=pk at a0;generalize c k=ck at a0;have hw1:IntKind.i64.wrap ((x:Int)+(y:Int))=(z:Int):=by rw[zI _ ⟨by omega,by omega⟩];omega
   have hn0:¬(z:Int)<0:=by omega
   clear hxy hle;go_wp21;go_roundw
   case rel=>exact⟨k+1,by omega,by go_num,by rw[HZ.out],hid trivial⟩
   case measure=>simp[zL];omega
  ·have hkm:k=m:=by omega
   subst hkm;rw[<-HN.out];go_wp21;refine(GR.out w).mono ?_;rintro e w1 ⟨v,rfl,hown,hb1⟩;obtain⟨q0,c0,rfl⟩:=zpa hown;have HO1:=hid hown;have HB1:=hid hb1;clear hown hb1 GR;go_wp21;go_loopw [27,6] (λi v wr=>∃(j:Nat) (q:Option Addr) (c':Nat),j<=k/\i=.int .i64 (j:Int)/\v=.slice q (catL L j).length c'/\Hid (qL w wr)/\Hid (wr.ownsRow w.heap.size 49 2 (.slice q (catL L j).length c') (catL L j).length (zbj (catL L j))))
    (λi _ _=>k-(zL i).toNat)
   case atStart=>exact⟨0,q0,c0,zR _,rfl,rfl,HB1,HO1⟩
   case round=>
    obtain⟨j,q,c',hj,rfl,rfl,hB,hO⟩:=hrel;by_cases hjk:j<k
    ·have a0:=HA.out wr hB.out j hjk
     obtain⟨i0,hi,hz0,hz1,hz2⟩:=info_parts zsc;have HD:=hid (⟨hi,hz0,hz1,hz2⟩:_/\_/\_/\_);have HS:=hid (show(catL L j).length+(L j).length=(catL L (j+1)).length from(zU ..).symm);have HL:=hid (show(catL L j).length+(L j).length<=4096 by rw[HS.out];exact zO (zih L hjk) (by rw[<-HN.out];exact hN));clear hi hz0 hz1 hz2;rcases HX.out j hjk with⟨e1,e2,e3⟩|⟨g,o,e1,hc⟩
     ·rw[e1,e2,e3] at a0
      have HE:=hid (show catL L (j+1)=catL L j by show catL L j++L j=_;rw[List.length_eq_zero_iff.1 e2,List.append_nil]);clear e1 e2 e3;go_wp2_with (at_builtin;refine wpList_append_own_none rfl _ _ 36 rfl w.heap.size 49 i0 2 Tryz.underlying36 HD.out.1 (.slice q (catL L j).length c') (catL L j).length (zbj (catL L j)) rfl hO.out rfl ?_);go_wp21;go_roundw
      case rel=>exact⟨j+1,q,c',by omega,by go_num,by rw[HE.out],hB,by rw[HE.out];exact hO⟩
      case measure=>simp[zL];omega
     ·rw[e1] at a0
      have HN0:=hid (show ∀i u,(zbj (L j))[i]? =some u->wr.cell? ((⟨g,o,none⟩:Addr).add i)=some u from λi u hu=>by
       have ea:(⟨g,o,none⟩:Addr).add i=⟨g,o+i,none⟩:=by unfold Addr.add;split<;>simp_all
       rw[ea];exact hc wr hB.out _ _ hu)
      clear e1 hc;go_wp2_with (at_builtin;refine wpList_append_own_at _ rfl _ _ 36 rfl w.heap.size 49 i0 (.agg #[St [],St []]) 2 32 Tryz.underlying36 HD.out.1 HD.out.2.1 HD.out.2.2.1 HD.out.2.2.2 rfl (by decide) (.slice q (catL L j).length c') (catL L j).length (zbj (catL L j)) rfl hO.out ⟨g,o,none⟩ (L j).length (c j) (zbj (L j)) rfl (by rw[zn8]) HN0.out (zui _) (by have:=HL.out;unfold maxLen;omega) (by have:=HL.out;omega) hB.out.size ?_);intro v' w2 hown' hgrow hnil hat
      obtain⟨q',c3,rfl⟩:=zpa hown';have HB2:=hid (hB.out.grown hgrow hB.out.size (λg e=>(hO.out.lt g e).1));have HO2:=hid (show w2.ownsRow w.heap.size 49 2 (.slice q' (catL L (j+1)).length c3) (catL L (j+1)).length (zbj (catL L (j+1))) by
       rw[<-HS.out,show catL L (j+1)=catL L j++L j from rfl,zjb];exact hown')
      clear hown' hgrow hnil hat
      go_wp21;go_roundw
      case rel=>exact⟨j+1,q',c3,by omega,by go_num,by rw[<-HS.out],HB2,HO2⟩
      case measure=>simp[zL];omega
    ·have hjk2:j=k:=by omega
     subst hjk2;go_wp21;go_ret;refine⟨_,rfl,?_,hB.out⟩;rw[HN.out];exact hO.out
theorem zl9 (w:zA):
 zC zF 123 #[.slice none 0 0,.int .i64 ((0:Nat):Int)] w λe w'=>∃v,e=.returned v/\w'.ownsRow w.heap.size 49 2 v 0 []/\zB w.heap.size w w':=by
 go_enter Tryz.func123,Tryz.ntmps123;go_wp21;go_ret;exact⟨_,rfl,World.ownsRow_nil _ _ _ _,zM _ _⟩
theorem zgi (v f:Value) (w:zA):
 zC zF 240 #[v,.int .i64 0,.int .i64 ((0:Nat):Int),f] w λe w'=>(∃u,e=.returned u)/\zB w.heap.size w w':=by
 go_enter Tryz.func240,Tryz.ntmps240;go_wp21;refine wp_loop_rounds 1 ?_;rw[rounds_succ];go_wp21;go_end0;exact⟨⟨_,rfl⟩,zM _ _⟩
def SdL (v:Value) (l:List (Rat×Nat)) (W:zA):Prop:=
 (v=.slice none 0 0/\l=[])\/∃b off cap,v=.slice (some ⟨b,off,none⟩) l.length cap/\l.length<=cap/\b<W.heap.size/\
   ∀i t,l[i]? =some t->W.cell? ⟨b,off+i*2,none⟩=some (St (numS t.1))/\W.cell? ⟨b,off+i*2+1,none⟩=some (St (zD t.2))
theorem SdL.below {v:Value} {l:List (Rat×Nat)} {W W':zA} (h:SdL v l W) (hb:qL W W'):SdL v l W':=by
 rcases h with h|⟨b,off,cap,e,hc,hl,hx⟩
 ·exact .inl h
 ·exact .inr ⟨b,off,cap,e,hc,zS hl hb.size,λi t ht=>⟨zai hb (hx i t ht).1,zai hb (hx i t ht).2⟩⟩
theorem SdL.slice {v:Value} {l:List (Rat×Nat)} {W:zA} (h:SdL v l W):∃p cap,v=.slice p l.length cap/\l.length<=cap/\∀i t,l[i]? =some t->∃b off,p=some ⟨b,off,none⟩/\b<W.heap.size/\W.cell? ⟨b,off+i*2,none⟩=some (St (numS t.1))/\W.cell? ⟨b,off+i*2+1,none⟩=some (St (zD t.2)):=by
 rcases h with⟨rfl,rfl⟩|⟨b,off,cap,e,hc,hl,hx⟩
 ·exact⟨none,0,rfl,zN _,λi t ht=>by simp at ht⟩
 ·exact⟨_,cap,e,hc,λi t ht=>⟨b,off,rfl,hl,hx i t ht⟩⟩
theorem SdL.nil (W:zA):SdL (.slice none 0 0) [] W:=.inl ⟨rfl,rfl⟩
theorem SdL.own {B n c:Nat} {q:Option Addr} {l:List (Rat×Nat)} {W:zA} (h:W.ownsRow B 49 2 (.slice q n c) n (zbj (l.map strT))) (hn:n=l.length):SdL (.slice q n c) l W:=by
 subst hn;rcases h.2 with⟨e,e0⟩|⟨g,cp,cur,e,hg1,hg2,hnc,_⟩
 ·injection e with e1 e2 e3
  subst e1;subst e3;exact .inl ⟨by rw[e0],List.length_eq_zero_iff.1 e0⟩
 ·have hcap:l.length<=c:=by injection e with e1 e2 e3;omega
  injection e with e1 e2 e3;subst e1;refine .inr ⟨g,0,c,rfl,hcap,(Array.getElem?_eq_some_iff.1 hg2).1,λi t ht=>?_⟩;have hm:(l.map strT)[i]? =some (strT t):=by rw[List.getElem?_map,ht];rfl
  obtain⟨k0,k1⟩:=zpb _ i _ hm;obtain⟨g',c',e', -,hx⟩:=zye h (by have:=(List.getElem?_eq_some_iff.1 ht).1;omega);injection e' with e1' _ _;injection e1' with e1';cases e1';rw[Nat.zero_add];exact⟨hx _ _ k0,hx _ _ k1⟩
def incR (l:List (Rat×Nat)):Prop:=∀(i:Nat) (t u:Rat×Nat),l[i]? =some t->l[i+1]? =some u->t.2<u.2
structure SdOk (l:List (Rat×Nat)) (d:Nat:=20):Prop where
 len:l.length<=12
 trm:∀t∈l,TrmR t.1 t.2 d
 inc:incR l
 apt:∀(i k:Nat) (t u:Rat×Nat),i≠k->l[i]? =some t->l[k]? =some u->z5c (u.2:Rat) (t.2:Rat)=false
theorem zbh (v:Value) (l:List (Rat×Nat)) {d:Nat} (hl:SdOk l d) (w:zA) (hw:Wd w) (hp:Pw w) (hs:SdL v l w) (hd:d<=40:=by omega):
 qJ 97 #[v] w (.int .i64 0):=by
 obtain⟨p,cap,rfl,hc,hx⟩:=hs.slice;have at_:∀i,i<l.length->∃t,l[i]? =some t:=λi hi=>⟨_,yB hi⟩;have hg:∀(i:Nat) (t:Rat×Nat),l[i]? =some t->l[i]?.getD (1,1)=t:=λi t h=>by rw[h];rfl
 refine zos p cap l.length (λi=>(l[i]?.getD (1,1)).1) (λi=>(l[i]?.getD (1,1)).2) ⟨by have:=hl.len;omega,λi hi=>?_,λi hi=>?_,λi k hik hk=>?_⟩ hc w hw hp λi hi=>?_
 ·obtain⟨t,ht⟩:=at_ i hi
  rw[hg i t ht];exact hl.trm t (List.mem_of_getElem? ht)
 ·obtain⟨t,ht⟩:=at_ i (by omega)
  obtain⟨u,hu⟩:=at_ (i+1) hi;rw[hg i t ht,hg _ u hu];exact hl.inc i t u ht hu
 ·obtain⟨t,ht⟩:=at_ i (by omega)
  obtain⟨u,hu⟩:=at_ k hk;rw[hg i t ht,hg _ u hu];exact hl.apt i k t u (by omega) ht hu
 ·obtain⟨t,ht⟩:=at_ i hi
  obtain⟨b,off,e,_,c0,c1⟩:=hx i t ht;simp only[hg i t ht];exact⟨b,off,e,c0,c1⟩
theorem zj8 (b:Nat) (v1 v2:Value) (l1 l2:List (Rat×Nat)) (hN:l1.length+l2.length<=4096) (w:zA) (h1:SdL v1 l1 w) (h2:SdL v2 l2 w) (k0:w.cell? ⟨b,0,none⟩=some v1) (k1:w.cell? ⟨b,1,none⟩=some v2):
 zC zF 63 #[.slice (some ⟨b,0,none⟩) 2 2] w λe w'=>∃v,e=.returned v/\zB w.heap.size w w'/\SdL v (l1++l2) w':=by
 have gr:∀n:Nat,n<=4096->∀W:zA,zC zF 123 #[.slice none 0 0,.int .i64 (n:Int)] W λe w'=>∃v,e=.returned v/\w'.ownsRow W.heap.size 49 2 v 0 []/\zB W.heap.size W w':=λn hn W=>by
  rcases Nat.eq_zero_or_pos n with rfl|h
  ·exact zl9 W
  ·exact z62 n h (by omega) W
 have row:∀(g off:Nat) (l:List (Rat×Nat)),(∀i t,l[i]? =some t->w.cell? ⟨g,off+i*2,none⟩=some (St (numS t.1))/\w.cell? ⟨g,off+i*2+1,none⟩=some (St (zD t.2)))->∀W:zA,qL w W->∀j u,(zbj (l.map strT))[j]? =some u->W.cell? ⟨g,off+j,none⟩=some u:=λg off l h W hW j u hu=>by
  have hjl:j<(l.map strT).length*2:=by have:=(List.getElem?_eq_some_iff.1 hu).1;rwa [zn8] at this
  rw[zV] at hjl;obtain⟨t,ht⟩:∃t,l[j/2]? =some t:=⟨_,yB (by omega)⟩;have hm:(l.map strT)[j/2]? =some (strT t):=by rw[List.getElem?_map,ht];rfl
  obtain⟨f0,f1⟩:=zpb _ _ _ hm;obtain⟨c0,c1⟩:=h _ t ht;rcases Nat.mod_two_eq_zero_or_one j with e|e
  ·have ej:j=j/2*2:=by omega
   rw[ej] at hu;rw[hu] at f0;injection f0 with f0;rw[f0,ej];exact zai hW c0
  ·have ej:j=j/2*2+1:=by omega
   rw[ej] at hu;rw[hu] at f1;injection f1 with f1;rw[f1,ej,<-Nat.add_assoc];exact zai hW c1
 have src:∀{v:Value} {l:List (Rat×Nat)},SdL v l w->∃p c,v=.slice p (l.map strT).length c/\((p=none/\(l.map strT).length=0/\c=0)\/∃g o,p=some ⟨g,o,none⟩/\∀W:zA,qL w W->∀j u,(zbj (l.map strT))[j]? =some u->W.cell? ⟨g,o+j,none⟩=some u):=λh=>by
  rcases h with⟨rfl,rfl⟩|⟨g,o,c,rfl,_,_,hx⟩
  ·exact⟨none,0,rfl,.inl ⟨rfl,rfl,rfl⟩⟩
  ·exact⟨_,c,by rw[zV],.inr ⟨g,o,rfl,row g o _ hx⟩⟩
 obtain⟨p1,c1,rfl,g1⟩:=src h1;obtain⟨p2,c2,rfl,g2⟩:=src h2;have hc:catL (λk=>if k=0 then l1.map strT else l2.map strT) 2=(l1++l2).map strT:=by rw[List.map_append];rfl
 refine(z5g b 2 (λk=>if k=0 then p1 else p2) (λk=>if k=0 then c1 else c2) (λk=>if k=0 then l1.map strT else l2.map strT) (by omega) (by rw[hc];simpa using hN) w (hid (gr _ (by rw[hc];simpa using hN))) (hid λk hk=>?_) (hid λW hW k hk=>?_)).mono λe w' ⟨v,he,ho,hb⟩=>?_
 ·match k,hk with
  |0,_=>exact g1
  |1,_=>exact g2
 ·match k,hk with
  |0,_=>exact zai hW k0
  |1,_=>exact zai hW k1
 ·obtain⟨q,c,rfl⟩:=zpa ho
  rw[hc] at ho;rw[hc] at he;exact⟨_,he,hb,SdL.own ho (by simp)⟩
def sclL (l:List (Rat×Nat)) (c:Rat):List (Rat×Nat):=l.map λt=>(t.1*c,t.2)
theorem zkb (v:Value) (l:List (Rat×Nat)) (c:Rat) (hn:l.length<=256) (hs:∀t∈l,sz t.1 150) (hc:sz c 150) (w:zA) (HW:Hid (∀W,qL w W->Wd W)) (h:SdL v l w):
 zC zF 61 #[v,St (numS c)] w λe w'=>∃v',e=.returned (.tuple #[v',.int .i64 0])/\zB w.heap.size w w'/\SdL v' (sclL l c) w':=by
 obtain⟨p,cap,rfl, -,hx⟩:=h.slice;let X:Nat->List UInt8:=λi=>numS ((l[i]?.getD (1,1)).1);let Y:Nat->List UInt8:=λi=>zD ((l[i]?.getD (1,1)).2);let C:Nat->List UInt8:=λi=>numS ((l[i]?.getD (1,1)).1*c);have at_:∀i,i<l.length->∃t,l[i]? =some t:=λi hi=>⟨_,yB hi⟩;have hX:∀(i:Nat) (t:Rat×Nat),l[i]? =some t->X i=numS t.1/\Y i=zD t.2/\C i=numS (t.1*c):=λi t h=>⟨by show numS ((l[i]?.getD (1,1)).1)=_;rw[h];rfl,by show zD ((l[i]?.getD (1,1)).2)=_;rw[h];rfl,by show numS ((l[i]?.getD (1,1)).1*c)=_;rw[h];rfl⟩;have hk:∀k,k<=l.length->scK C Y k=((sclL l c).take k).map strT:=by
  intro k
  induction k with
  |zero=>intro _;rfl
  |succ k ih=>
   intro hk;obtain⟨t,ht⟩:=at_ k (by omega);have e:(sclL l c)[k]? =some (t.1*c,t.2):=by unfold sclL;rw[List.getElem?_map,ht];rfl
   show scK C Y k++[(C k,Y k)]=_;rw[ih (by omega),(hX k t ht).2.1,(hX k t ht).2.2,List.take_add_one,e,List.map_append];rfl
 refine(z6y p cap l.length X Y C (numS c) hn w HW (hid λi hi W hW=>?_) (hid λi hi=>?_)).mono λe w' ⟨q,d,e1,hb,ho⟩=>⟨_,e1,hb,?_⟩
 ·obtain⟨t,ht⟩:=at_ i hi
  rw[(hX i t ht).1,(hX i t ht).2.2];exact zjf t.1 c 150 150 (by omega) (by omega) (by omega) (hs t (List.mem_of_getElem? ht)) hc W hW
 ·obtain⟨t,ht⟩:=at_ i hi
  rw[(hX i t ht).1,(hX i t ht).2.1];exact hx i t ht
 ·rw[hk _ (zN _)] at ho
  rw[List.take_of_length_le (by simp[sclL])] at ho;exact SdL.own ho (by simp[sclL])
end
section
open Go.RowKit Go.Shelf Lib Str Limb
def rt (q:Rat):Rat:=((isq q.num.natAbs:Nat):Rat)/((isq q.den:Nat):Rat)
theorem z1p (m:Nat):isq (m*m)=m:=by
 obtain⟨h1,h2⟩:=zv0 (m*m);have a:isq (m*m)<=m:=Nat.mul_self_le_mul_self_iff.1 h1;have b:m<isq (m*m)+1:=Nat.mul_self_lt_mul_self_iff.1 h2;omega
theorem z32 (x:Rat):(x*x).num=x.num*x.num/\(x*x).den=x.den*x.den:=by
 have c:Nat.Coprime (x.num*x.num).natAbs (x.den*x.den):=by
  rw[Int.natAbs_mul];exact Nat.Coprime.mul_left (Nat.Coprime.mul_right x.reduced x.reduced) (Nat.Coprime.mul_right x.reduced x.reduced)
 have nz:x.den*x.den≠0:=Nat.mul_ne_zero x.den_nz x.den_nz;have e:(⟨x.num*x.num,x.den*x.den,nz,c⟩:Rat)=x*x:=by
  rw[Rat.mk_eq_normalize,Rat.mul_def]
 rw[<-e];exact⟨rfl,rfl⟩
theorem z2m (q:Rat) (h:0<q):((q.num.natAbs:Nat):Rat)/((q.den:Nat):Rat)=q:=by
 have h1:0<=q.num:=Rat.num_nonneg.2 (Rat.le_of_lt h);have h2:((q.num.natAbs:Nat):Rat)=((q.num:Int):Rat):=by
  have:((q.num.natAbs:Nat):Int)=q.num:=Int.natAbs_of_nonneg h1;exact_mod_cast congrArg (Int.cast (R:=Rat)) this
 rw[h2];have:=Rat.num_divInt_den q;rw[Rat.divInt_eq_div] at this;exact this
theorem zxd {p q:Rat} (h:0<p/q) (ha:z5c p q=true):rt (p/q)*rt (p/q)=p/q:=by
 unfold z5c at ha;rw[Bool.and_eq_true,decide_eq_true_eq,decide_eq_true_eq] at ha;have e:=z2m _ h;have d0:((p/q).den:Rat)≠0:=by
  have:=(p/q).den_nz;exact_mod_cast this
 unfold rt;have n1:((isq (p/q).num.natAbs:Nat):Rat)*((isq (p/q).num.natAbs:Nat):Rat)=(((p/q).num.natAbs:Nat):Rat):=by exact_mod_cast congrArg (Nat.cast (R:=Rat)) ha.1
 have n2:((isq (p/q).den:Nat):Rat)*((isq (p/q).den:Nat):Rat)=(((p/q).den:Nat):Rat):=by exact_mod_cast congrArg (Nat.cast (R:=Rat)) ha.2
 generalize ((isq (p/q).num.natAbs:Nat):Rat)=a at*
 generalize ((isq (p/q).den:Nat):Rat)=b at*
 have b0:b≠0:=λk=>d0 (by rw[<-n2,k,Rat.mul_zero]);rw[<-n1,<-n2] at e;rw[<-e];grind
theorem zxg {p q x:Rat} (h:x*x=p/q):z5c p q=true:=by
 unfold z5c;obtain⟨h1,h2⟩:=z32 x;rw[<-h,h1,h2,Int.natAbs_mul,z1p,z1p];simp
theorem div_pos {p q:Rat} (hp:0<p) (hq:0<q):0<p/q:=by
 rw[Rat.div_def];exact Rat.mul_pos hp (Rat.inv_pos.2 hq)
theorem zx1 {p:Rat} (hp:0<p):z5c p p=true:=zxg (x:=1) (by grind)
theorem zu5 {p q:Rat} (hp:0<p) (hq:0<q) (h:z5c p q=true):z5c q p=true:=by
 have:=zxd (div_pos hp hq) h;have h0:=div_pos hp hq;generalize rt (p/q)=x at this;have x0:x≠0:=λk=>by rw[k] at this;grind
 exact zxg (x:=1/x) (by grind)
theorem zw8 {p q r:Rat} (hp:0<p) (hq:0<q) (hr:0<r) (h:z5c p q=true) (k:z5c q r=true):z5c p r=true:=by
 have h1:=zxd (div_pos hp hq) h;have h2:=zxd (div_pos hq hr) k;generalize rt (p/q)=x at h1;generalize rt (q/r)=y at h2;exact zxg (x:=x*y) (by grind)
def plG (c t:Rat×Nat):Rat×Nat:=
 if t.2<c.2 then(t.1+c.1*rt ((c.2:Rat)/(t.2:Rat)),t.2) else(c.1+t.1*rt ((t.2:Rat)/(c.2:Rat)),c.2)
def gaG:List (Rat×Nat)->Rat×Nat->List (Rat×Nat)
 |[],t=>[t]
 |c::l,t=>if z5c (t.2:Rat) (c.2:Rat)=true then plG c t::l else c::gaG l t
theorem zm7 (t:Rat×Nat):∀l:List (Rat×Nat),((∀c∈l,z5c (t.2:Rat) (c.2:Rat)=false)/\gaG l t=l++[t])\/
 ∃j c,l[j]? =some c/\z5c (t.2:Rat) (c.2:Rat)=true/\(∀i d,i<j->l[i]? =some d->z5c (t.2:Rat) (d.2:Rat)=false)/\gaG l t=l.set j (plG c t)
 |[]=>.inl ⟨λc h=>(by cases h),rfl⟩
 |c::l=>by
  cases e:z5c (t.2:Rat) (c.2:Rat)
  ·rcases zm7 t l with⟨h1,h2⟩|⟨j,d,h1,h2,h3,h4⟩
   ·left
    refine⟨λd hd=>?_,by simp[gaG,e,h2]⟩;rcases List.mem_cons.1 hd with rfl|hd
    ·exact e
    ·exact h1 d hd
   ·right
    refine⟨j+1,d,by simpa using h1,h2,λi x hi hx=>?_,by simp[gaG,e,h4]⟩
    cases i with
    |zero=>simp at hx;subst hx;exact e
    |succ i=>exact h3 i x (by omega) (by simpa using hx)
  ·right
   exact⟨0,c,rfl,e,λi d h=>by omega,by simp[gaG,e]⟩
def grG (T:List (Rat×Nat)) (i:Nat):List (Rat×Nat):=(T.take i).foldl gaG []
theorem zr9 {T:List (Rat×Nat)} {i:Nat} {t:Rat×Nat} (h:T[i]? =some t):grG T (i+1)=gaG (grG T i) t:=by
 unfold grG;rw[List.take_add_one,h,List.foldl_append];rfl
theorem zwy {T:List (Rat×Nat)} {i:Nat} (h:T[i]? =none):grG T (i+1)=grG T i:=by
 unfold grG;rw[List.take_add_one,h];simp
theorem zuk (T:List (Rat×Nat)):grG T T.length=T.foldl gaG []:=by unfold grG;rw[List.take_length]
theorem zxh (c t:Rat×Nat):(plG c t).2=t.2\/(plG c t).2=c.2:=by
 unfold plG;split
 ·exact .inl rfl
 ·exact .inr rfl
theorem z44 {l:List (Rat×Nat)} {t c:Rat×Nat} (h:c∈gaG l t):(∃d∈l,d.2=c.2)\/t.2=c.2:=by
 rcases zm7 t l with⟨_,e⟩|⟨j,d,hj,_,_,e⟩
 ·rw[e] at h
  rcases List.mem_append.1 h with h|h
  ·exact .inl ⟨c,h,rfl⟩
  ·simp at h;subst h;exact .inr rfl
 ·rw[e] at h
  rcases List.mem_or_eq_of_mem_set h with h|rfl
  ·exact .inl ⟨c,h,rfl⟩
  ·rcases zxh d t with k|k
   ·exact .inr k.symm
   ·exact .inl ⟨d,List.mem_of_getElem? hj,k.symm⟩
theorem z45 (t:Rat×Nat) (l:List (Rat×Nat)):(gaG l t).length<=l.length+1:=by
 rcases zm7 t l with⟨_,e⟩|⟨j,d,hj,_,_,e⟩<;>rw[e]<;>simp
theorem zw1 (T:List (Rat×Nat)):∀i,(grG T i).length<=i
 |0=>by simp[grG]
 |i+1=>by
  have:=zw1 T i
  cases hi:T[i]? with
  |none=>rw[zwy hi];omega
  |some t=>rw[zr9 hi];have:=z45 t (grG T i);omega
def ULs (l:List (Rat×Nat)):Prop:=∀(i k:Nat) (t u:Rat×Nat),i≠k->l[i]? =some t->l[k]? =some u->z5c (u.2:Rat) (t.2:Rat)=false
def PosR (l:List (Rat×Nat)):Prop:=∀t∈l,(0:Rat)<(t.2:Rat)
theorem PosR.at {l:List (Rat×Nat)} (h:PosR l) {i:Nat} {t:Rat×Nat} (ht:l[i]? =some t):(0:Rat)<(t.2:Rat):=h t (List.mem_of_getElem? ht)
theorem z2n {c t:Rat×Nat} (hc:(0:Rat)<(c.2:Rat)) (ht:(0:Rat)<(t.2:Rat)) (h:z5c (t.2:Rat) (c.2:Rat)=true):z5c ((plG c t).2:Rat) (c.2:Rat)=true/\(0:Rat)<((plG c t).2:Rat):=by
 rcases zxh c t with e|e<;>rw[e]
 ·exact⟨h,ht⟩
 ·exact⟨zx1 hc,hc⟩
theorem zzy {p q r:Rat} (hp:0<p) (hq:0<q) (hr:0<r) (h:z5c p q=true) (k:z5c q r=false):z5c p r=false:=by
 cases e:z5c p r
 ·rfl
 ·rw[zw8 hq hp hr (zu5 hp hq h) e] at k;cases k
theorem zu9 {p q:Rat} (hp:0<p) (hq:0<q) (h:z5c p q=false):z5c q p=false:=by
 cases e:z5c q p
 ·rfl
 ·rw[zu5 hq hp e] at h;cases h
theorem z47 {l:List (Rat×Nat)} {t:Rat×Nat} (hl:ULs l) (hp:PosR l) (ht:(0:Rat)<(t.2:Rat)):ULs (gaG l t)/\PosR (gaG l t):=by
 rcases zm7 t l with⟨h1,e⟩|⟨j,d,hj,h1,_,e⟩
 ·rw[e]
  refine⟨λi k a b hik ha hb=>?_,λa ha=>?_⟩
  ·rw[List.getElem?_append] at ha hb
   split at ha<;>split at hb
   ·exact hl i k a b hik ha hb
   ·have:b=t:=by
     have:=(List.getElem?_eq_some_iff.1 hb).1;simp at this;have e0:k-l.length=0:=by omega
     rw[e0] at hb;simpa using hb.symm
    subst this;exact h1 a (List.mem_of_getElem? ha)
   ·have:a=t:=by
     have:=(List.getElem?_eq_some_iff.1 ha).1;simp at this;have e0:i-l.length=0:=by omega
     rw[e0] at ha;simpa using ha.symm
    subst this;exact zu9 ht (hp.at hb) (h1 b (List.mem_of_getElem? hb))
   ·have h2:=(List.getElem?_eq_some_iff.1 ha).1
    have h3:=(List.getElem?_eq_some_iff.1 hb).1;simp at h2 h3;omega
  ·rcases List.mem_append.1 ha with h|h
   ·exact hp a h
   ·simp at h;subst h;exact ht
 ·rw[e]
  have hd:=hp.at hj;obtain⟨pa,pp⟩:=z2n hd ht h1;have hjl:=(List.getElem?_eq_some_iff.1 hj).1;refine⟨λi k a b hik ha hb=>?_,λa ha=>?_⟩
  ·rw[List.getElem?_set] at ha hb
   split at ha<;>split at hb
   ·omega
   ·injection ha with ha;subst ha
    subst i;have hb2:=hp.at hb;exact zu9 pp hb2 (zzy pp hd hb2 pa (zu9 hb2 hd (hl j k d b hik hj hb)))
   ·injection hb with hb;subst hb
    subst k;have ha2:=hp.at ha;exact zzy pp hd ha2 pa (hl i j a d hik ha hj)
   ·exact hl i k a b hik ha hb
  ·rcases List.mem_or_eq_of_mem_set ha with h|rfl
   ·exact hp a h
   ·exact pp
theorem zw2 {T:List (Rat×Nat)} (hp:PosR T):∀i,ULs (grG T i)/\PosR (grG T i)
 |0=>⟨λi k a b _ h=>by simp[grG] at h,λa h=>by simp[grG] at h⟩
 |i+1=>by
  obtain⟨h1,h2⟩:=zw2 hp i
  cases hi:T[i]? with
  |none=>rw[zwy hi];exact⟨h1,h2⟩
  |some t=>rw[zr9 hi];exact z47 h1 h2 (hp.at hi)
theorem z2p (n d:Nat):(n:Rat)/(d:Rat)=Rat.divInt (n:Int) (d:Int):=by
 rw[Rat.divInt_eq_div];rfl
theorem zvm {n d k:Nat} (hd:d≠0) (h1:n<10^k) (h2:d<10^k):sz ((n:Rat)/(d:Rat)) k:=by
 rw[z2p];exact zig (by omega) (by rw[Int.natAbs_natCast];exact h1) (by rw[Int.natAbs_natCast];exact h2)
theorem zzs {q:Rat} {k:Nat} (h:sz q (k+k)):sz (rt q) k:=by
 have lt:∀n:Nat,n<10^(k+k)->isq n<10^k:=λn hn=>by
  refine Nat.lt_of_not_le λhc=>?_;have:=Nat.mul_le_mul hc hc;rw[<-Nat.pow_add] at this;have:=(zv0 n).1;omega
 have pos:0<isq q.den:=by
  have h2:=(zv0 q.den).2;have:=q.den_pos;rcases Nat.eq_zero_or_pos (isq q.den) with e|e
  ·rw[e] at h2;omega
  ·exact e
 exact zvm (by omega) (lt _ h.1) (lt _ h.2)
def insS (t:Rat×Nat):List (Rat×Nat)->List (Rat×Nat)
 |[]=>[t]
 |c::l=>if t.2<c.2 then t::c::l else c::insS t l
def srtS:List (Rat×Nat)->List (Rat×Nat)
 |[]=>[]
 |t::l=>insS t (srtS l)
theorem zxl (t c:Rat×Nat):∀l:List (Rat×Nat),c∈insS t l↔c=t\/c∈l
 |[]=>by simp[insS]
 |d::l=>by
  unfold insS;split
  ·simp
  ·rw[List.mem_cons,zxl t c l,List.mem_cons]
   constructor
   ·rintro(h|h|h)
    ·exact .inr (.inl h)
    ·exact .inl h
    ·exact .inr (.inr h)
   ·rintro(h|h|h)
    ·exact .inr (.inl h)
    ·exact .inl h
    ·exact .inr (.inr h)
theorem zvb (c:Rat×Nat):∀l:List (Rat×Nat),c∈srtS l↔c∈l
 |[]=>by simp[srtS]
 |t::l=>by
  rw[show srtS (t::l)=insS t (srtS l) from rfl,zxl,zvb c l,List.mem_cons]
theorem zz0 (t:Rat×Nat):∀l:List (Rat×Nat),(insS t l).length=l.length+1
 |[]=>rfl
 |d::l=>by
  unfold insS;split
  ·rfl
  ·simp[zz0 t l]
theorem zz1:∀l:List (Rat×Nat),(srtS l).length=l.length
 |[]=>rfl
 |t::l=>by rw[show srtS (t::l)=insS t (srtS l) from rfl,zz0,zz1 l];rfl
def IncS (l:List (Rat×Nat)):Prop:=l.Pairwise λa b=>a.2<b.2
theorem zz2 {t:Rat×Nat}:∀{l:List (Rat×Nat)},IncS l->(∀c∈l,c.2≠t.2)->IncS (insS t l)
 |[],_,_=>List.pairwise_singleton _ _
 |d::l,h,hne=>by
  have hd:=List.pairwise_cons.1 h;unfold insS;split
  ·refine List.pairwise_cons.2 ⟨λc hc=>?_,h⟩
   rcases List.mem_cons.1 hc with rfl|hc
   ·assumption
   ·have:=hd.1 c hc;omega
  ·refine List.pairwise_cons.2 ⟨λc hc=>?_,zz2 hd.2 λc hc=>hne c (List.mem_cons_of_mem _ hc)⟩
   rcases(zxl t c l).1 hc with rfl|hc
   ·have:=hne d (yD ..);omega
   ·exact hd.1 c hc
def DisR (l:List (Rat×Nat)):Prop:=l.Pairwise λa b=>a.2≠b.2
theorem zxo:∀{l:List (Rat×Nat)},DisR l->IncS (srtS l)
 |[],_=>List.Pairwise.nil
 |t::l,h=>by
  have hd:=List.pairwise_cons.1 h;exact zz2 (zxo hd.2) λc hc=>(hd.1 c ((zvb c l).1 hc)).symm
theorem z1q:∀{l m:List (Rat×Nat)},IncS l->IncS m->(∀c,c∈l↔c∈m)->l=m
 |[],[],_,_,_=>rfl
 |[],b::m,_,_,h=>by have:=(h b).2 (yD ..);cases this
 |a::l,[],_,_,h=>by have:=(h a).1 (yD ..);cases this
 |a::l,b::m,h1,h2,h=>by
  have h1':=List.pairwise_cons.1 h1;have h2':=List.pairwise_cons.1 h2;have e:a=b:=by
   rcases List.mem_cons.1 ((h a).1 (yD ..)) with e|e
   ·exact e
   ·rcases List.mem_cons.1 ((h b).2 (yD ..)) with e2|e2
    ·exact e2.symm
    ·have:=h2'.1 a e;have:=h1'.1 b e2;omega
  subst e;rw[z1q h1'.2 h2'.2 λc=>?_];constructor
  ·intro hc
   rcases List.mem_cons.1 ((h c).1 (List.mem_cons_of_mem _ hc)) with e|e
   ·subst e;have:=h1'.1 c hc;omega
   ·exact e
  ·intro hc
   rcases List.mem_cons.1 ((h c).2 (List.mem_cons_of_mem _ hc)) with e|e
   ·subst e;have:=h2'.1 c hc;omega
   ·exact e
def keG (T:List (Rat×Nat)):List (Rat×Nat):=(T.foldl gaG []).filter λc=>!decide (c.1=0)
def mkG (T:List (Rat×Nat)):List (Rat×Nat):=srtS (keG T)
theorem z1t:∀{l:List (Rat×Nat)},ULs l->PosR l->DisR l
 |[],_,_=>List.Pairwise.nil
 |t::l,h,hp=>by
  refine List.pairwise_cons.2 ⟨λc hc=>?_,z1t (λi k a b hik ha hb=>h (i+1) (k+1) a b (by omega) (by simpa using ha) (by simpa using hb)) λa ha=>hp a (List.mem_cons_of_mem _ ha)⟩;obtain⟨i,hi⟩:=List.mem_iff_getElem?.1 hc;have:=h 0 (i+1) t c (by omega) rfl (by simpa using hi);intro e;rw[e,zx1 (hp c (List.mem_cons_of_mem _ hc))] at this;cases this
theorem zz8 {l:List (Rat×Nat)} (h:ULs l):∀a∈l,∀b∈l,a≠b->z5c (b.2:Rat) (a.2:Rat)=false:=λa ha b hb hn=>by
 obtain⟨i,hi⟩:=List.mem_iff_getElem?.1 ha;obtain⟨k,hk⟩:=List.mem_iff_getElem?.1 hb;refine h i k a b (λe=>?_) hi hk;subst e;rw[hi] at hk;injection hk with hk;exact hn hk
theorem zrq {l:List (Rat×Nat)} (h:IncS l):∀{i k:Nat} {t u:Rat×Nat},i<k->l[i]? =some t->l[k]? =some u->t.2<u.2:=by
 intro i k t u hik ht hu;obtain⟨h1,e1⟩:=List.getElem?_eq_some_iff.1 ht;obtain⟨h2,e2⟩:=List.getElem?_eq_some_iff.1 hu;rw[<-e1,<-e2];exact List.pairwise_iff_getElem.1 h i k h1 h2 hik
theorem zx8 {T:List (Rat×Nat)} {c:Rat×Nat} (h:c∈mkG T):c∈grG T T.length/\c.1≠0:=by
 have h2:=List.mem_filter.1 ((zvb c _).1 h);refine⟨by rw[zuk];exact h2.1,?_⟩;simpa using h2.2
theorem z1u {T:List (Rat×Nat)} (hp:PosR T):DisR (keG T):=by
 have h:=z1t (zw2 hp T.length).1 (zw2 hp T.length).2;rw[zuk] at h;exact h.sublist List.filter_sublist
theorem zw5 (T:List (Rat×Nat)):(mkG T).length=(keG T).length/\(keG T).length<=T.length:=by
 refine⟨zz1 _,?_⟩;have h1:=List.length_filter_le (λc:Rat×Nat=>!decide (c.1=0)) (T.foldl gaG []);have h2:=zw1 T T.length;rw[zuk] at h2;exact zO h1 h2
theorem ycs {T:List (Rat×Nat)} {d:Nat} (hp:PosR T) (hn:∀c∈mkG T,NrmR c.2 d) (hlen:T.length<=12) (hs:∀c∈mkG T,sz c.1 60):SdOk (mkG T) d:=by
 have hu:=zw2 hp T.length;have hi:IncS (mkG T):=zxo (z1u hp);refine⟨by have:=zw5 T;omega,λt ht=>?_,λi t u ht hu=>zrq hi (Nat.lt_succ_self i) ht hu,λi k t u hik ht hk=>?_⟩
 ·exact⟨(zx8 ht).2,hs t ht,hn t ht⟩
 ·refine zz8 hu.1 t (zx8 (List.mem_of_getElem? ht)).1 u (zx8 (List.mem_of_getElem? hk)).1 λe=>?_
  subst e;rcases Nat.lt_or_ge i k with h|h
  ·have:=zrq hi h ht hk;omega
  ·have:=zrq hi (by omega:k<i) hk ht;omega
def ngT (t:Rat×Nat):Rat×Nat:=(-t.1,t.2)
def swS (P:List (Rat×Nat)) (m:Nat) (u t:Rat×Nat):List (Rat×Nat):=(P.set (m+1) u).set m t
def sgS (m x:Nat):Nat:=if x=m then m+1 else if x=m+1 then m else x
theorem zz5 (m x:Nat):sgS m (sgS m x)=x:=by
 unfold sgS;split<;>split<;>(try split)<;>omega
theorem z5z {P:List (Rat×Nat)} {m:Nat} {u t:Rat×Nat} (hu:P[m]? =some u) (ht:P[m+1]? =some t) (x:Nat):(swS P m u t)[x]? =P[sgS m x]? :=by
 have h1:=(List.getElem?_eq_some_iff.1 ht).1;unfold swS sgS;rw[List.getElem?_set,List.getElem?_set,List.length_set];by_cases e:x=m
 ·subst e
  rw[if_pos rfl,if_pos (by omega),if_pos rfl,ht]
 ·rw[if_neg (λk=>e k.symm),if_neg e]
  by_cases e2:x=m+1
  ·subst e2
   rw[if_pos rfl,if_pos h1,if_pos rfl,hu]
  ·rw[if_neg (λk=>e2 k.symm),if_neg e2]
structure OutS (L:List (Rat×Nat)) (n i0:Nat) (P:List (Rat×Nat)):Prop where
 len:P.length=n
 mem:∀t,t∈P↔t∈L
 dis:∀(i k:Nat) (t u:Rat×Nat),i≠k->P[i]? =some t->P[k]? =some u->t.2≠u.2
 ord:∀(i k:Nat) (t u:Rat×Nat),i<k->k<i0->P[i]? =some t->P[k]? =some u->t.2<u.2
structure InvS (L:List (Rat×Nat)) (n i0 j:Nat) (P:List (Rat×Nat)):Prop where
 len:P.length=n
 mem:∀t,t∈P↔t∈L
 dis:∀(i k:Nat) (t u:Rat×Nat),i≠k->P[i]? =some t->P[k]? =some u->t.2≠u.2
 ord:∀(i k:Nat) (t u:Rat×Nat),i<k->k<=i0->i≠j->k≠j->P[i]? =some t->P[k]? =some u->t.2<u.2
 low:∀(k:Nat) (t u:Rat×Nat),j<k->k<=i0->P[j]? =some t->P[k]? =some u->t.2<u.2
theorem OutS.begin {L:List (Rat×Nat)} (h:DisR L):OutS L L.length 1 L:=by
 refine⟨rfl,λt=>Iff.rfl,λi k t u hik ht hu=>?_,λi k t u h1 h2=>by omega⟩;obtain⟨h1,e1⟩:=List.getElem?_eq_some_iff.1 ht;obtain⟨h2,e2⟩:=List.getElem?_eq_some_iff.1 hu;rcases Nat.lt_or_ge i k with hl|hl
 ·rw[<-e1,<-e2];exact List.pairwise_iff_getElem.1 h i k h1 h2 hl
 ·rw[<-e1,<-e2];exact(List.pairwise_iff_getElem.1 h k i h2 h1 (by omega)).symm
theorem OutS.enter {L:List (Rat×Nat)} {n i0:Nat} {P:List (Rat×Nat)} (h:OutS L n i0 P):InvS L n i0 i0 P:=
 ⟨h.len,h.mem,h.dis,λi k t u h1 h2 h3 h4=>h.ord i k t u h1 (by omega),λk t u h1 h2=>by omega⟩
theorem InvS.swap {L:List (Rat×Nat)} {n i0 m:Nat} {P:List (Rat×Nat)} {t u:Rat×Nat} (h:InvS L n i0 (m+1) P) (hm:m+1<=i0) (hu:P[m]? =some u) (ht:P[m+1]? =some t) (hlt:t.2<u.2):InvS L n i0 m (swS P m u t):=by
 have at_:=z5z hu ht;have s1:∀x,x≠m->x≠m+1->sgS m x=x:=λx h1 h2=>by unfold sgS;rw[if_neg h1,if_neg h2]
 have s2:sgS m m=m+1:=by simp[sgS]
 have s3:sgS m (m+1)=m:=by simp[sgS]
 refine⟨by unfold swS;simp[h.len],λx=>?_,λi k a b hik ha hb=>?_,λi k a b h1 h2 h3 h4 ha hb=>?_,λk a b h1 h2 ha hb=>?_⟩
 ·rw[<-h.mem x,List.mem_iff_getElem?,List.mem_iff_getElem?]
  constructor
  ·rintro⟨i,hi⟩;rw[at_] at hi;exact⟨_,hi⟩
  ·rintro⟨i,hi⟩;exact⟨sgS m i,by rw[at_,zz5];exact hi⟩
 ·rw[at_] at ha hb
  exact h.dis _ _ a b (λe=>hik (by rw[<-zz5 m i,e,zz5])) ha hb
 ·rw[at_] at ha hb
  by_cases e1:i=m+1
  ·subst e1
   rw[s3] at ha;rw[s1 k h4 (by omega)] at hb;exact h.ord m k a b (by omega) h2 (by omega) (by omega) ha hb
  ·rw[s1 i h3 e1] at ha
   by_cases e2:k=m+1
   ·subst e2
    rw[s3] at hb;exact h.ord i m a b (by omega) (by omega) e1 (by omega) ha hb
   ·rw[s1 k h4 e2] at hb
    exact h.ord i k a b h1 h2 e1 e2 ha hb
 ·rw[at_] at ha hb
  rw[s2,ht] at ha;injection ha with ha;subst ha;by_cases e2:k=m+1
  ·subst e2
   rw[s3,hu] at hb;injection hb with hb;subst hb;exact hlt
  ·rw[s1 k (by omega) e2] at hb
   exact h.low k _ b (by omega) h2 ht hb
theorem InvS.stop {L:List (Rat×Nat)} {n i0 j:Nat} {P:List (Rat×Nat)} (h:InvS L n i0 j P) (hj:j=0\/∃m t u,j=m+1/\P[m]? =some u/\P[m+1]? =some t/\¬t.2<u.2):OutS L n (i0+1) P:=by
 refine⟨h.len,h.mem,h.dis,λi k a b h1 h2 ha hb=>?_⟩;by_cases e1:i=j
 ·subst e1;exact h.low k a b h1 (by omega) ha hb
 ·by_cases e2:k=j
  ·subst e2
   rcases hj with e|⟨m,t,u,rfl,hu,ht,hlt⟩
   ·omega
   ·rw[ht] at hb;injection hb with hb;subst hb
    have hut:u.2<t.2:=by
     have:=h.dis m (m+1) u t (by omega) hu ht;omega
    rcases Nat.lt_or_ge i m with e3|e3
    ·exact Nat.lt_trans (h.ord i m a u e3 (by omega) (by omega) (by omega) ha hu) hut
    ·obtain rfl:i=m:=by omega
     rw[hu] at ha;injection ha with ha;subst ha;exact hut
  ·exact h.ord i k a b h1 (by omega) e1 e2 ha hb
theorem OutS.end_ {L:List (Rat×Nat)} {n i0:Nat} {P:List (Rat×Nat)} (h:OutS L n i0 P) (hn:n<=i0) (hd:DisR L):P=srtS L:=by
 refine z1q (List.pairwise_iff_getElem.2 λi k h1 h2 hik=>?_) (zxo hd) λc=>by rw[h.mem,zvb]
 exact h.ord i k _ _ hik (by have:=h.len;omega) (yB h1) (yB h2)
end
section
open Go.RowKit Go.Shelf Lib Str Limb
attribute [local go_sem] Oper.semAt_some
theorem z1y {W:zA} {B g n c:Nat} {t:TypeId} {xs:List Value} (h:W.ownsRow B t 2 (.slice (some ⟨g,0,none⟩) n c) n xs):B<=g:=by
 rcases h.2 with⟨e,_⟩|⟨g',cap,cur,e,hb,hg,_⟩
 ·cases e
 ·cases e;exact hb
theorem zu3 {W:zA} {B g n c:Nat} {P:List (Rat×Nat)} (h:W.ownsRow B 49 2 (.slice (some ⟨g,0,none⟩) n c) n (zbj (P.map strT))) {i:Nat} {t:Rat×Nat} (ht:P[i]? =some t):W.cell? ⟨g,i*2,none⟩=some (St (numS t.1))/\W.cell? ⟨g,i*2+1,none⟩=some (St (zD t.2)):=by
 have hl:=h.1;rw[zn8,zV] at hl;have hi:=(List.getElem?_eq_some_iff.1 ht).1;obtain⟨g',c',e, -,hx⟩:=zye h (by omega);injection e with e1 _ _;injection e1 with e1;cases e1;obtain⟨k0,k1⟩:=zpb _ i _ (show(P.map strT)[i]? =some (strT t) by rw[List.getElem?_map,ht];rfl);exact⟨hx _ _ k0,hx _ _ k1⟩
theorem zz6 {W:zA} {B g n c k:Nat} {P:List (Rat×Nat)} (h:W.ownsRow B 49 2 (.slice (some ⟨g,0,none⟩) n c) n (zbj (P.map strT))) (hn:n=P.length) (hk:k<n) (t:Rat×Nat):
 ((W.setCell ⟨g,k*2,none⟩ (St (numS t.1))).setCell ⟨g,k*2+1,none⟩ (St (zD t.2))).ownsRow B 49 2 (.slice (some ⟨g,0,none⟩) n c) n (zbj ((P.set k t).map strT)):=by
 have:=z6l h (by rw[zV];exact hn) hk (z:=numS t.1) (zr:=zD t.2);rw[List.map_set];exact this
def excY (P:List (Rat×Nat)) (m:Nat) (u t:Rat×Nat) (f:Nat->Bool):List (Rat×Nat):=if f 17=true then swS P m u t else if f 15=true then P.set (m+1) u else P
structure ExcS (w:zA) (B g n cap:Nat) (P:List (Rat×Nat)) (m:Nat) (u t:Rat×Nat) (_:Unit) (f:Nat->Bool) (W:zA):Prop where
 bel:zB B w W
 own:W.ownsRow B 49 2 (.slice (some ⟨g,0,none⟩) n cap) n (zbj ((excY P m u t f).map strT))
theorem ExcS.congr {w W:zA} {B g n cap:Nat} {P:List (Rat×Nat)} {m:Nat} {u t:Rat×Nat} {q:Unit} {f f':Nat->Bool} (h:ExcS w B g n cap P m u t q f W) (e15:f' 15=f 15) (e17:f' 17=f 17):ExcS w B g n cap P m u t q f' W:=
 ⟨h.bel,by have:=h.own;unfold excY at this⊢;rw[e15,e17];exact this⟩
theorem z17 (B g cap n:Nat) (L:List (Rat×Nat)) (hL:L.length=n) (hn:n<=12) (hd:DisR L)
 (CM:Hid (∀t u:Rat×Nat,t∈L->u∈L->∃nn:Int,(decide (nn<0)=decide (t.2<u.2))/\qK 122 #[.agg #[St (numS t.1),St (zD t.2)],.agg #[St (numS u.1),St (zD u.2)]] (.int .i64 nn)))
 (w:zA) (HW:Hid (∀W,zB B w W->Wd W)) (hB:B<=w.heap.size) (HO:Hid (w.ownsRow B 49 2 (.slice (some ⟨g,0,none⟩) n cap) n (zbj (L.map strT)))):
 zC zF 240 #[.slice (some ⟨g,0,none⟩) n cap,.int .i64 0,.int .i64 (n:Int),.func (.func 122) #[] #[]] w λe w'=>(∃u,e=.returned u)/\zB B w w'/\w'.ownsRow B 49 2 (.slice (some ⟨g,0,none⟩) n cap) n (zbj ((srtS L).map strT)):=by
 have D0:=hid (zM B w);have HB0:=hid hB;have S0:=hid (OutS.begin hd);rw[hL] at S0;have HD:=hid hd;clear hd hL hB;go_enter Tryz.func240,Tryz.ntmps240;go_wp21;go_loopw [8] (λi wr=>∃(i0:Nat) (P:List (Rat×Nat)),1<=i0/\i0<=n+1/\i=.int .i64 (i0:Int)/\Hid (OutS L n i0 P)/\Hid (zB B w wr)/\Hid (wr.ownsRow B 49 2 (.slice (some ⟨g,0,none⟩) n cap) n (zbj (P.map strT))))
  (λi _=>n+1-(zL i).toNat)
 case atStart=>exact⟨1,L,by omega,by omega,rfl,S0,D0,HO⟩
 case round=>
  clear D0 S0 HO;obtain⟨i0,P0,h1,h2,rfl,hS,D1,hO⟩:=hrel;by_cases hlt:i0<n
  ·have hw1:IntKind.i64.wrap ((i0:Int)+1)=(i0:Int)+1:=zI _ (by omega)
   have HI:=hid hS.out.enter;clear hS;go_wp21;go_loopw [9] (λj wr=>∃(jn:Nat) (P:List (Rat×Nat)),jn<=i0/\j=.int .i64 (jn:Int)/\Hid (InvS L n i0 jn P)/\Hid (zB B w wr)/\Hid (wr.ownsRow B 49 2 (.slice (some ⟨g,0,none⟩) n cap) n (zbj (P.map strT))))
    (λj _=>(zL j).toNat)
   case atStart=>exact⟨i0,P0,zN _,rfl,HI,D1,hO⟩
   case round=>
    clear HI D1 hO;obtain⟨jn,P,hj,rfl,HI,HB,hO⟩:=hrel;have HGB:=hid (zO HB0.out HB.out.size);by_cases h0:jn=0
    ·subst h0
     have HE:=hid (HI.out.stop (.inl rfl));clear HI;go_wp21
     (refine wp_region_quiet_lit (by kernel_rfl) (by kernel_rfl) (WQ.out ?_);(repeat(first|(apply WQ.read (by rfl);(focus(rintro W ⟨n,rfl⟩;go_simp;try with_reducible rfl));try simp only[zzQ])|(apply WQ.skip (by rfl);try simp only[zzQ])));refine WQ.nil ?_;rintro _ ⟨nq,rfl⟩)
     have HX:=hid (zao HB.out nq);have HO2:=hid (show(wr.drewN nq).ownsRow B 49 2 (.slice (some ⟨g,0,none⟩) n cap) n (zbj (P.map strT)) from zcj (zac (zao (zM wr.heap.size wr) nq)) hO.out);clear HB HGB hO;go_wp21;go_roundw
     case rel=>exact⟨i0+1,P,by omega,by omega,by go_num,HE,HX,HO2⟩
     case measure=>simp[zL];omega
    ·obtain⟨m,hm⟩:∃m,jn=m+1:=⟨jn-1,by omega⟩
     have hPl:=HI.out.len;obtain⟨t,ht⟩:∃t,P[jn]? =some t:=⟨_,yB (by omega)⟩;obtain⟨u,hu⟩:∃u,P[m]? =some u:=⟨_,yB (by omega)⟩;obtain⟨nn,hnn,hcm⟩:=CM.out t u ((HI.out.mem t).1 (List.mem_of_getElem? ht)) ((HI.out.mem u).1 (List.mem_of_getElem? hu));have HC1:=hid (zu3 hO.out ht);have HC0:=hid (zu3 hO.out hu);have hj0:(0:Int)<(jn:Int):=by omega
     have hwm:IntKind.i64.wrap ((jn:Int)-1)=(m:Int):=by rw[zI _ (by omega)];omega
     have hmn:m<n:=by omega
     have hjnn:jn<n:=by omega
     have HPL:=hid hPl;have HHT:=hid ht;have HHU:=hid hu;have HM:=hid hm;have HCM:=hid hcm;have HNN:=hid hnn;clear hPl ht hu hm hcm hnn h0;obtain⟨x1,hx1⟩:∃x1,numS t.1=x1:=⟨_,rfl⟩;obtain⟨y1,hy1⟩:∃y1,zD t.2=y1:=⟨_,rfl⟩;obtain⟨x0,hx0⟩:∃x0,numS u.1=x0:=⟨_,rfl⟩;obtain⟨y0,hy0⟩:∃y0,zD u.2=y0:=⟨_,rfl⟩;rw[hx1,hy1] at HC1 HCM;rw[hx0,hy0] at HC0 HCM;have HVS:=hid (⟨hx1,hy1,hx0,hy0⟩:_/\_/\_/\_);clear hx1 hy1 hx0 hy0;cases hlt2:decide (t.2<u.2)
     ·have hng:decide (nn<0)=false:=by rw[HNN.out,hlt2]
      have hnb:¬nn<0:=of_decide_eq_false hng;have HE:=hid (HI.out.stop (.inr ⟨m,t,u,HM.out,HHU.out,by rw[<-HM.out];exact HHT.out,of_decide_eq_false hlt2⟩));clear HI HNN;go_wp21;refine zbl (λ_ W=>qL wr W) (by kernel_rfl) (by kernel_rfl) (zM _ _).drew ?_;refine qR (.int .i64 (jn:Int)) ?_ (hy:=λf W' hf h=>by go_simp;try omega);refine qR (.int .i64 0) ?_ (hy:=λf W' hf h=>by go_simp;try omega);refine qR (.bool true) ?_ (hy:=λf W' hf h=>by go_simp;try omega);simp only[zzQ];refine qR (.bool true) ?_ (hy:=λf W' hf h=>by go_simp;try omega);refine qR (.func (.func 122) #[] #[]) ?_ (hy:=λf W' hf h=>by go_simp;try omega);refine qR (.slice (some ⟨g,0,none⟩) n cap) ?_ (hy:=λf W' hf h=>by go_simp;try omega);simp only[zzQ];refine qR (.int .i64 (jn:Int)) ?_ (hy:=λf W' hf h=>by go_simp;try omega);refine qR (.pointer (some ⟨g,jn*2,none⟩)) ?_ (hy:=λf W' hf h=>by go_simp;try omega);refine qR (.agg #[St x1,St y1]) ?_ (hy:=λf W' hf h=>by obtain⟨c0,c1⟩:=HC1.out;have d0:=zai h c0;have d1:=zai h c1;go_simp;try omega);simp only[zzQ];refine qR (.slice (some ⟨g,0,none⟩) n cap) ?_ (hy:=λf W' hf h=>by go_simp;try omega);refine qR (.int .i64 (jn:Int)) ?_ (hy:=λf W' hf h=>by go_simp;try omega);refine qR (.int .i64 (m:Int)) ?_ (hy:=λf W' hf h=>by go_simp;try omega);simp only[zzQ];refine qR (.pointer (some ⟨g,m*2,none⟩)) ?_ (hy:=λf W' hf h=>by go_simp;try omega);refine qR (.agg #[St x0,St y0]) ?_ (hy:=λf W' hf h=>by obtain⟨c0,c1⟩:=HC0.out;have d0:=zai h c0;have d1:=zai h c1;go_simp;try omega);simp only[zzQ]
      refine zar (.int .i64 nn) (by rfl) (λf W' hf h C' hC'=>by
       go_simp;refine zzM (HCM.out _ (HW.out _ (HB.out.trans (h.mono HGB.out)))) λw' hb=>?_;exact⟨rfl,hC' _ (h.trans (hb.mono h.size))⟩) ?_
      refine qR (.bool false) ?_ (hy:=λf W' hf h=>by go_simp;try omega);refine qR (.bool false) ?_ (hy:=λf W' hf h=>by go_simp;try omega);simp only[zzQ];refine zck λf X hf h=>?_;have HX:=hid (HB.out.trans (h.mono HGB.out));have HO2:=hid (zcj (zac h) hO.out);clear hf h HB HGB hO HC1 HC0 HCM;go_wp21;go_roundw
      case rel=>exact⟨i0+1,P,by omega,by omega,by go_num,HE,HX,HO2⟩
      case measure=>simp[zL];omega
     ·have hng:decide (nn<0)=true:=by rw[HNN.out,hlt2]
      have hnb:nn<0:=of_decide_eq_true hng;have hsw:=HI.out;rw[HM.out] at hsw;have HE:=hid (hsw.swap (by have:=HM.out;omega) HHU.out (by rw[<-HM.out];exact HHT.out) (of_decide_eq_true hlt2));clear HI HNN hsw;go_wp21;refine zbl (λ_ W=>qL wr W) (by kernel_rfl) (by kernel_rfl) (zM _ _).drew ?_;refine qR (.int .i64 (jn:Int)) ?_ (hy:=λf W' hf h=>by go_simp;try omega);refine qR (.int .i64 0) ?_ (hy:=λf W' hf h=>by go_simp;try omega);refine qR (.bool true) ?_ (hy:=λf W' hf h=>by go_simp;try omega);simp only[zzQ];refine qR (.bool true) ?_ (hy:=λf W' hf h=>by go_simp;try omega);refine qR (.func (.func 122) #[] #[]) ?_ (hy:=λf W' hf h=>by go_simp;try omega);refine qR (.slice (some ⟨g,0,none⟩) n cap) ?_ (hy:=λf W' hf h=>by go_simp;try omega);simp only[zzQ];refine qR (.int .i64 (jn:Int)) ?_ (hy:=λf W' hf h=>by go_simp;try omega);refine qR (.pointer (some ⟨g,jn*2,none⟩)) ?_ (hy:=λf W' hf h=>by go_simp;try omega);refine qR (.agg #[St x1,St y1]) ?_ (hy:=λf W' hf h=>by obtain⟨c0,c1⟩:=HC1.out;have d0:=zai h c0;have d1:=zai h c1;go_simp;try omega);simp only[zzQ];refine qR (.slice (some ⟨g,0,none⟩) n cap) ?_ (hy:=λf W' hf h=>by go_simp;try omega);refine qR (.int .i64 (jn:Int)) ?_ (hy:=λf W' hf h=>by go_simp;try omega);refine qR (.int .i64 (m:Int)) ?_ (hy:=λf W' hf h=>by go_simp;try omega);simp only[zzQ]
      refine qR (.pointer (some ⟨g,m*2,none⟩)) ?_ (hy:=λf W' hf h=>by go_simp;try omega);refine qR (.agg #[St x0,St y0]) ?_ (hy:=λf W' hf h=>by obtain⟨c0,c1⟩:=HC0.out;have d0:=zai h c0;have d1:=zai h c1;go_simp;try omega);simp only[zzQ]
      refine zar (.int .i64 nn) (by rfl) (λf W' hf h C' hC'=>by
       go_simp;refine zzM (HCM.out _ (HW.out _ (HB.out.trans (h.mono HGB.out)))) λw' hb=>?_;exact⟨rfl,hC' _ (h.trans (hb.mono h.size))⟩) ?_
      refine qR (.bool true) ?_ (hy:=λf W' hf h=>by go_simp;try omega);refine qR (.bool true) ?_ (hy:=λf W' hf h=>by go_simp;try omega);simp only[zzQ];refine zck λf X hf h=>?_;have HXB:=hid (HB.out.trans (h.mono HGB.out));have HO2:=hid (zcj (zac h) hO.out);clear hf h HB HGB hO HC1 HC0 HCM;go_wp21;have HHU2:Hid ((P.set (m+1) u)[m]? =some u):=hid (by rw[List.getElem?_set,if_neg (by omega)];exact HHU.out);refine zc4 (λ(_:Unit) i=>([.slice (some ⟨g,0,none⟩) n cap,.int .i64 (jn:Int),.slice (some ⟨g,0,none⟩) n cap,.int .i64 (jn:Int),.int .i64 (m:Int),.slice (some ⟨g,0,none⟩) n cap,.int .i64 (jn:Int),.int .i64 (m:Int),.pointer (some ⟨g,m*2,none⟩),.agg #[St x0,St y0],.slice (some ⟨g,0,none⟩) n cap,.int .i64 (jn:Int),.pointer (some ⟨g,jn*2,none⟩),.agg #[St x1,St y1],.pointer (some ⟨g,jn*2,none⟩),undef,.pointer (some ⟨g,m*2,none⟩),undef]:List Value).getD i undef) (ExcS w B g n cap P m u t) (by kernel_rfl) (by kernel_rfl) () ⟨HXB.out.drew,HO2.out⟩ λq=>?_;refine qB (.slice (some ⟨g,0,none⟩) n cap) (λf W' h=>h.congr rfl rfl) ?_ (hy:=λf W' hf h=>by go_simp;try omega);refine qB (.int .i64 (jn:Int)) (λf W' h=>h.congr rfl rfl) ?_ (hy:=λf W' hf h=>by go_simp;try omega);refine qB (.slice (some ⟨g,0,none⟩) n cap) (λf W' h=>h.congr rfl rfl) ?_ (hy:=λf W' hf h=>by go_simp;try omega);simp only[zzQ];refine qB (.int .i64 (jn:Int)) (λf W' h=>h.congr rfl rfl) ?_ (hy:=λf W' hf h=>by go_simp;try omega);refine qB (.int .i64 (m:Int)) (λf W' h=>h.congr rfl rfl) ?_ (hy:=λf W' hf h=>by go_simp;try omega);refine qB (.slice (some ⟨g,0,none⟩) n cap) (λf W' h=>h.congr rfl rfl) ?_ (hy:=λf W' hf h=>by go_simp;try omega);simp only[zzQ];refine qB (.int .i64 (jn:Int)) (λf W' h=>h.congr rfl rfl) ?_ (hy:=λf W' hf h=>by go_simp;try omega);refine qB (.int .i64 (m:Int)) (λf W' h=>h.congr rfl rfl) ?_ (hy:=λf W' hf h=>by go_simp;try omega);refine qB (.pointer (some ⟨g,m*2,none⟩)) (λf W' h=>h.congr rfl rfl) ?_ (hy:=λf W' hf h=>by go_simp;try omega);simp only[zzQ];refine qB (.agg #[St x0,St y0]) (λf W' h=>h.congr rfl rfl) ?_ (hy:=λf W' hf h=>by
       have h15:=hf.no (j:=15) hf.self (by kernel_rfl);have h17:=hf.no (j:=17) hf.self (by kernel_rfl);have ho:=h.own;rw[show excY P m u t f=P by unfold excY;rw[h15,h17];rfl] at ho;obtain⟨c0,c1⟩:=zu3 ho HHU.out;obtain⟨v1,v2,v3,v4⟩:=HVS.out;rw[v3] at c0;rw[v4] at c1;go_simp;try omega)
      refine qB (.slice (some ⟨g,0,none⟩) n cap) (λf W' h=>h.congr rfl rfl) ?_ (hy:=λf W' hf h=>by go_simp;try omega);refine qB (.int .i64 (jn:Int)) (λf W' h=>h.congr rfl rfl) ?_ (hy:=λf W' hf h=>by go_simp;try omega);simp only[zzQ];refine qB (.pointer (some ⟨g,jn*2,none⟩)) (λf W' h=>h.congr rfl rfl) ?_ (hy:=λf W' hf h=>by go_simp;try omega);refine qB (.agg #[St x1,St y1]) (λf W' h=>h.congr rfl rfl) ?_ (hy:=λf W' hf h=>by
       have h15:=hf.no (j:=15) hf.self (by kernel_rfl);have h17:=hf.no (j:=17) hf.self (by kernel_rfl);have ho:=h.own;rw[show excY P m u t f=P by unfold excY;rw[h15,h17];rfl] at ho;obtain⟨c0,c1⟩:=zu3 ho HHT.out;obtain⟨v1,v2,v3,v4⟩:=HVS.out;rw[v1] at c0;rw[v2] at c1;go_simp;try omega)
      refine qB (.pointer (some ⟨g,jn*2,none⟩)) (λf W' h=>h.congr rfl rfl) ?_ (hy:=λf W' hf h=>by go_simp;try omega);simp only[zzQ]
      refine zbv undef (by rfl) (by rfl) (λf W' hf h C' hC'=>by
       have h15:=hf.self;have h17:=hf.no (j:=17) hf.self (by kernel_rfl);have ho:=h.own;rw[show excY P m u t f=P by unfold excY;simp[h15,h17]] at ho;obtain⟨c0,c1⟩:=zu3 ho HHT.out;have z0:=z42 ho (jn*2);have z1:=z42 ho (jn*2+1);have hp:=zz6 ho HPL.out.symm hjnn u;obtain⟨v1,v2,v3,v4⟩:=HVS.out;rw[v3,v4] at hp;have hB':=z1y ho;have hc:=hC' _ (⟨(h.bel.setCell (by simp;omega) _).setCell (by simp;omega) _,(by unfold excY;simp[h17];rw[<-HM.out];rw[List.map_set] at hp;exact hp)⟩:ExcS w B g n cap P m u t q (λi=>if 15=i then true else f i) ((W'.setCell ⟨g,jn*2,none⟩ (St x0)).setCell ⟨g,jn*2+1,none⟩ (St y0)));clear ho hp h;go_simp;exact hc) ?_
      refine qB (.pointer (some ⟨g,m*2,none⟩)) (λf W' h=>h.congr rfl rfl) ?_ (hy:=λf W' hf h=>by go_simp;try omega);simp only[zzQ]
      refine zbv undef (by rfl) (by rfl) (λf W' hf h C' hC'=>by
       have h15:=hf.done 15 (by kernel_rfl);have h17:=hf.self;have ho:=h.own;rw[show excY P m u t f=P.set (m+1) u by unfold excY;simp[h15,h17]] at ho;obtain⟨c0,c1⟩:=zu3 ho HHU2.out;have z0:=z42 ho (m*2);have z1:=z42 ho (m*2+1);have hp:=zz6 ho (by rw[List.length_set];exact HPL.out.symm) hmn t;obtain⟨v1,v2,v3,v4⟩:=HVS.out;rw[v1,v2] at hp;have hB':=z1y ho;have hc:=hC' _ (⟨(h.bel.setCell (by simp;omega) _).setCell (by simp;omega) _,(by unfold excY;simp;exact hp)⟩:ExcS w B g n cap P m u t q (λi=>if 17=i then true else f i) ((W'.setCell ⟨g,m*2,none⟩ (St x1)).setCell ⟨g,m*2+1,none⟩ (St y1)));clear ho hp h;go_simp;exact hc) ?_
      try simp only[zzQ]
      refine ze1 λf W5 hf h=>?_;have HF:=hid h;have HL:=hid (show excY P m u t f=swS P m u t from if_pos (hf 17 (by decide)));clear h hf;go_wp21;go_roundw
      case rel=>exact⟨m,swS P m u t,by have:=HM.out;omega,by rfl,HE,hid HF.out.bel,by rw[<-HL.out];exact HF.out.own⟩
      case measure=>simp[zL];have:=HM.out;omega
  ·have HE:=hid (hS.out.end_ (by omega) HD.out)
   go_wp21;go_end0;exact⟨⟨_,rfl⟩,D1.out,by rw[<-HE.out];exact hO.out⟩
theorem z33 (v f:Value) (n:Nat) (hn:n<=12) (b:Int) (w:zA) (Q:zA->Prop)
 (IN:Hid (zC zF 240 #[v,.int .i64 0,.int .i64 (n:Int),f] w λe w'=>(∃u,e=.returned u)/\Q w')):
 zC zF 184 #[v,.int .i64 0,.int .i64 (n:Int),.int .i64 b,f] w λe w'=>(∃u,e=.returned u)/\Q w':=by
 have hw0:IntKind.i64.wrap ((n:Int)-0)=(n:Int):=by rw[zI _ (by omega)];omega
 have hw1:IntKind.i64.wrap (n:Int)=(n:Int):=zI _ (by omega);have h12:(n:Int)<=12:=by omega
 go_enter Tryz.func184,Tryz.ntmps184;go_wp21;refine wp_loop_rounds 1 ?_;rw[rounds_succ];go_wp21;refine IN.out.mono ?_;rintro e w' ⟨⟨u,rfl⟩,hb⟩;have HB:=hid hb;clear hb;go_wp21;refine bodyPost_ret (results_none rfl _ _ _) rfl ?_;exact⟨⟨_,rfl⟩,HB.out⟩
theorem z2z (v:Value) (p:Option Addr) (cap:Nat) (f:Value) (n:Nat) (hn:n<=12) (hv:v=.slice p n cap) (w:zA) (Q:zA->Prop)
 (IN:Hid (zC zF 240 #[.slice p n cap,.int .i64 0,.int .i64 (n:Int),f] w λe w'=>(∃u,e=.returned u)/\Q w')):
 zC zF 121 #[v,f] w λe w'=>(∃u,e=.returned u)/\Q w':=by
 have hl:=Tryz.bits_Len n w (by omega) (by omega);have HL:=hid hl;clear hl;have HI:=hid λm=>z33 (.slice p n cap) f n hn m w Q IN;have hwu:IntKind.u64.wrap (n:Int)=(n:Int):=IntWalk.u64_in _ (by omega);subst hv;go_enter Tryz.func121,Tryz.ntmps121;go_wp21;refine HL.out.mono ?_;rintro e w' ⟨rfl,rfl⟩;go_wp21;refine(HI.out _).mono ?_;rintro e w'' ⟨⟨u,rfl⟩,hb⟩;have HB:=hid hb;clear hb;go_wp21;go_end0;exact⟨⟨_,rfl⟩,HB.out⟩
theorem yct (B:Nat) (L:List (Rat×Nat)) (hn:L.length<=12) (hd:DisR L) (hnr:∀t∈L,sz (t.2:Rat) 90) (p:Option Addr) (c:Nat) (W:zA) (HW:Hid (∀V,zB B W V->Wd V)) (hB:B<=W.heap.size) (h:W.ownsRow B 49 2 (.slice p L.length c) L.length (zbj (L.map strT))):
 zC zF 121 #[.slice p L.length c,.func (.func 122) #[] #[]] W λe w'=>(∃u,e=.returned u)/\zB B W w'/\w'.ownsRow B 49 2 (.slice p L.length c) L.length (zbj ((srtS L).map strT)):=by
 rcases Nat.eq_zero_or_pos L.length with e0|e0
 ·obtain rfl:=List.length_eq_zero_iff.1 e0
  exact z2z (.slice p 0 c) p c _ 0 (by omega) rfl W _ (hid ((zgi _ _ W).mono λe w' ⟨h5,h6⟩=>⟨h5,h6.mono hB,zcj (zac h6) h⟩))
 ·obtain⟨g,c',e, -, -⟩:=zye h e0
  injection e with e1 _ e2;subst e1;subst e2;exact z2z _ _ _ _ L.length hn rfl W _ (hid (z17 B g c L.length L rfl hn hd (hid λt u ht hu=>by
   have st:=hnr t ht;have su:=hnr u hu;refine⟨Geo.cmpR (t.2:Rat) (u.2:Rat),?_,λV hV=>z5e _ _ _ _ _ (hid λU hU=>?_) V (hid hV)⟩
   ·have hc:=Geo.zaw (t.2:Rat) (u.2:Rat)
    have e:(t.2<u.2)↔(t.2:Rat)<(u.2:Rat):=by constructor<;>intro h<;>exact_mod_cast h
    rw[decide_eq_decide,e];grind
   ·have:=zgq (t.2:Rat) (u.2:Rat) 90 90 (by omega) (by omega) (by omega) st su U hU
    rw[zhe,zhe] at this;exact this) W HW hB (hid h)))
theorem zyf {α:Type} (p:α->Bool):∀l:List α,(∀c∈l,p c=false)\/∃(j:Nat) (c:α),l[j]? =some c/\p c=true/\∀(i:Nat) (d:α),i<j->l[i]? =some d->p d=false
 |[]=>.inl λc h=>(by cases h)
 |a::l=>by
  cases e:p a
  ·rcases zyf p l with h|⟨j,c,h1,h2,h3⟩
   ·left
    intro c hc;rcases List.mem_cons.1 hc with rfl|hc
    ·exact e
    ·exact h c hc
   ·right
    refine⟨j+1,c,by simpa using h1,h2,λi d hi hd=>?_⟩
    cases i with
    |zero=>simp at hd;subst hd;exact e
    |succ i=>exact h3 i d (by omega) (by simpa using hd)
  ·exact .inr ⟨0,a,rfl,e,λi d hi=>by omega⟩
instance szDec (q:Rat) (k:Nat):Decidable (sz q k):=inferInstanceAs (Decidable (_/\_))
end
section
open Go.RowKit Go.Shelf Lib Str Limb Geo
attribute [local go_sem] Oper.semAt_some
end
section
open Go.RowKit Go.Shelf Lib Str Limb
open Go.ChangeShapes Go.WideShapes Go.ChangeAt
theorem z4k {α:Type} (P:Nat->α->Prop):∀n,(∀i,i<n->∃x,P i x)->∃l:List α,l.length=n/\∀i (h:i<l.length),P i l[i]
 |0,_=>⟨[],rfl,λi h=>by simp at h⟩
 |n+1,h=>by
  obtain⟨l,hl,hP⟩:=z4k P n (λi hi=>h i (by omega));obtain⟨x,hx⟩:=h n (by omega);refine⟨l++[x],by simp[hl],λi hi=>?_⟩;by_cases e:i<l.length
  ·rw[List.getElem_append_left e];exact hP i e
  ·have:i=n:=by simp at hi;omega
   subst this;rw[List.getElem_append_right (by omega)];simpa using hx
theorem z8l {P:Program} {W:zA} {r:Reach} {base:Nat} {t e:TypeId} {a:Addr} {n c:Nat} (ht:P.underlying t=some (.slice e)) (h:Cell.okWide P W r base t (.slice (some a) n c)):a.spot=none/\a.block<W.heap.size:=by
 simp only[Cell.okWide,ht,Cell.ok] at h;obtain⟨_,_,_,h1,row,cells,h2,_⟩:=h;refine⟨h1,?_⟩;refine Classical.byContradiction λhn=>?_;have:W.heap[a.block]? =none:=by simp;omega
 unfold World.shape? at h2;simp[this] at h2
theorem z5r {H:Type} {enc:TypeId×Value->H} {W:zA} {base:Nat} {sp:Nat->Bool} {held:Bool} {t:TypeId} {f0 f1 f2:Field} {fuel:Nat} {cs:List Value} {x:DataW H×List MemPlace} (ht:Tryz.prog.underlying t=some (.struct #[f0,f1,f2])) (h:DataW.trod enc zF W base sp held fuel t cs=some x):
 ∃y0 y1 y2 n,x=(.agg [y0.1,y1.1,y2.1],y0.2++y1.2++y2.2)/\DataW.trod enc zF W base sp held n f0.type ((cs.drop f0.offset).take (Tryz.prog.cellsOf f0.type))=some y0/\
  DataW.trod enc zF W base sp held n f1.type ((cs.drop f1.offset).take (Tryz.prog.cellsOf f1.type))=some y1/\DataW.trod enc zF W base sp held n f2.type ((cs.drop f2.offset).take (Tryz.prog.cellsOf f2.type))=some y2:=by
 obtain⟨xs,n,_,rfl, -,hlen,hf⟩:=DataW.trod_struct ht h
 match xs,hlen with
 |[y0,y1,y2],_=>exact⟨y0,y1,y2,n,by simp,by simpa using hf 0 f0 rfl,by simpa using hf 1 f1 rfl,by simpa using hf 2 f2 rfl⟩
theorem z80 {l:List (String×DataW Unit)} {W:zA} (hL:laidMet zF l W) (hm:("kingpost/surd.signPlaces",Rows.laid_kingpost_surd_signPlaces)∈l):Spw W:=by
 obtain⟨g,t,cs,fuel,p,hg,ht,hv,hd⟩:=Lib.laidMet.reads hL hm;obtain rfl:g=0:=Option.some.inj (hg.symm.trans (by kernel_rfl));obtain rfl:t=107:=Option.some.inj (ht.symm.trans (by kernel_rfl));have e:(Rows.laid_kingpost_surd_signPlaces:DataW Unit)=Lib.tabData .i64 [4,16,64]:=by kernel_rfl
 rw[e] at hd;have hc:=Lib.cells_of_tab (n:=3) Tryz.underlying107 Tryz.underlying3 (by kernel_rfl) (by kernel_rfl) hd;obtain rfl:cs=spV:=Array.toList_inj.1 (hc.trans (by kernel_rfl));exact⟨hv⟩
end
section
open Go.RowKit Go.Shelf Lib Str Limb
attribute [local go_sem] Oper.semAt_some
def inB (n a b:Int):Bool:=decide (a<=n)&&decide (n<=b)
theorem z2f (n a b:Int) (w:zA):zC zF 16 #[.int .i64 n,.int .i64 a,.int .i64 b] w λe w'=>e=.returned (.bool (!inB n a b))/\w'=w:=by
 cases h:decide (n<a)
 all_goals
  go_enter Tryz.func16,Tryz.ntmps16;go_wp21;go_ret;refine⟨?_,rfl⟩;unfold inB;simp at h
  first|(simp;omega)|(simp;done)|(simp;rw[Bool.eq_iff_iff];simp;omega)
theorem zbz (n a b:Int) (w:zA):zC zF 26 #[.int .i64 n,.int .i64 a,.int .i64 b] w λe w'=>e=.returned (.bool (inB n a b))/\w'=w:=by
 cases h:decide (a<=n)
 all_goals
  go_enter Tryz.func26,Tryz.ntmps26;go_wp21;go_ret;refine⟨?_,rfl⟩;unfold inB;simp at h
  first|(simp;omega)|(simp;done)|(simp;rw[Bool.eq_iff_iff];simp;omega)
def secB (wd dp sp ld:Int):Bool:=inB wd 1 1000&&inB dp 1 1000&&inB sp 1 65536&&inB ld 0 1048576
theorem z66 (wd dp sp ld:Int) (w:zA):zC zF 15 #[.int .i64 wd,.int .i64 dp,.int .i64 sp,.int .i64 ld] w λe w'=>e=.returned (.int .i64 (if secB wd dp sp ld=true then 0 else 2))/\w'=w:=by
 have O:=hid z2f;unfold secB;generalize h1:inB wd 1 1000=b1;generalize h2:inB dp 1 1000=b2;generalize h3:inB sp 1 65536=b3;generalize h4:inB ld 0 1048576=b4;have c1:=λW=>O.out wd 1 1000 W;have c2:=λW=>O.out dp 1 1000 W;have c3:=λW=>O.out sp 1 65536 W;have c4:=λW=>O.out ld 0 1048576 W;rw[h1] at c1;rw[h2] at c2;rw[h3] at c3;rw[h4] at c4;have C1:=hid c1;have C2:=hid c2;have C3:=hid c3;have C4:=hid c4;clear c1 c2 c3 c4 h1 h2 h3 h4 O;go_enter Tryz.func15,Tryz.ntmps15;go_wp21;refine zzM (C1.out w) λw1 hw=>?_;have hw':=hw.symm;subst hw';clear hw;cases b1
 ·go_wp21
  go_ret;exact⟨rfl,rfl⟩
 go_wp21;refine zzM (C2.out w) λw1 hw=>?_;have hw':=hw.symm;subst hw';clear hw;cases b2
 ·go_wp21
  go_ret;exact⟨rfl,rfl⟩
 go_wp21;refine zzM (C3.out w) λw1 hw=>?_;have hw':=hw.symm;subst hw';clear hw;cases b3
 ·go_wp21
  go_ret;exact⟨rfl,rfl⟩
 go_wp21;refine zzM (C4.out w) λw1 hw=>?_;have hw':=hw.symm;subst hw';clear hw;cases b4
 all_goals
  go_wp21;go_ret;exact⟨rfl,rfl⟩
theorem z8m (sp ld:Int) (w:zA):zC zF 99 #[.int .i64 sp,.int .i64 ld] w λe w'=>e=.returned (.bool (inB sp 1 65536&&inB ld 0 1048576))/\w'=w:=by
 have c3:=λW=>zbz sp 1 65536 W;have c4:=λW=>zbz ld 0 1048576 W;generalize inB sp 1 65536=b3 at*
 generalize inB ld 0 1048576=b4 at*
 have C3:=hid c3;have C4:=hid c4;clear c3 c4;go_enter Tryz.func99,Tryz.ntmps99;go_wp21;refine zzM (C3.out w) λw1 hw=>?_;have hw':=hw.symm;subst hw';clear hw;cases b3
 ·go_wp21
  go_ret;exact⟨rfl,rfl⟩
 go_wp21;refine zzM (C4.out w) λw1 hw=>?_;have hw':=hw.symm;subst hw';clear hw;go_wp21;go_ret;exact⟨by cases b4<;>rfl,rfl⟩
theorem zzz (wd dp sp ld:Int) (w:zA):zC zF 49 #[.int .i64 wd,.int .i64 dp,.int .i64 sp,.int .i64 ld] w λe w'=>e=.returned (.bool (secB wd dp sp ld))/\w'=w:=by
 have e:secB wd dp sp ld=(inB wd 1 1000&&(inB dp 1 1000&&(inB sp 1 65536&&inB ld 0 1048576))):=by unfold secB;simp only[Bool.and_assoc]
 rw[e];have c1:=λW=>zbz wd 1 1000 W;have c2:=λW=>zbz dp 1 1000 W;have c3:=λW=>z8m sp ld W;generalize inB wd 1 1000=b1 at*
 generalize inB dp 1 1000=b2 at*
 generalize (inB sp 1 65536&&inB ld 0 1048576)=b3 at*
 have C1:=hid c1;have C2:=hid c2;have C3:=hid c3;clear c1 c2 c3 e;go_enter Tryz.func49,Tryz.ntmps49;go_wp21;refine zzM (C1.out w) λw1 hw=>?_;have hw':=hw.symm;subst hw';clear hw;cases b1
 ·go_wp21
  go_ret;exact⟨rfl,rfl⟩
 go_wp21;refine zzM (C2.out w) λw1 hw=>?_;have hw':=hw.symm;subst hw';clear hw;cases b2
 ·go_wp21
  go_ret;exact⟨rfl,rfl⟩
 go_wp21;refine zzM (C3.out w) λw1 hw=>?_;have hw':=hw.symm;subst hw';clear hw;go_wp21;go_ret;exact⟨by cases b3<;>rfl,rfl⟩
structure AlR where
 w:Int
 d:Int
 s:Int
 l:Int
 n:Int
def AlR.ok (x:AlR):Bool:=secB x.w x.d x.s x.l&&inB x.n 1 65536
def AlR.lt (x y:AlR):Bool:=if x.w≠y.w then decide (x.w<y.w) else if x.d≠y.d then decide (x.d<y.d) else if x.s≠y.s then decide (x.s<y.s) else decide (x.l<y.l)
def AlR.v (x:AlR):Value:=.agg #[.int .i64 x.w,.int .i64 x.d,.int .i64 x.s,.int .i64 x.l,.int .i64 x.n]
theorem yef (v1 v2:Value) (l1 l2:List (Rat×Nat)) {d:Nat} (ok1:SdOk l1 d) (ok2:SdOk l2 d) (hlen:l1.length+l2.length<=12) (R3:Value->Int->zA->Prop) (w:zA) (HW:Hid (∀W,qL w W->Wd W)) (HP:Hid (∀W,qL w W->Pw W)) (h1:SdL v1 l1 w) (h2:SdL v2 l2 w)
 (M:∀(W:zA) (v:Value),qL w W->SdL v (l1++sclL l2 (-1)) W->zC zF 62 #[v] W λe w'=>∃q n c r,e=.returned (.tuple #[.slice q n c,.int .i64 r])/\zB W.heap.size W w'/\R3 (.slice q n c) r w') (hd:d<=40:=by omega):
 zC zF 31 #[v1,v2] w λe w'=>∃q n c r,e=.returned (.tuple #[.slice q n c,.int .i64 r])/\zB w.heap.size w w'/\R3 (.slice q n c) r w':=by
 obtain⟨p1,c1,e1, -⟩:=h1.slice;obtain⟨p2,c2,e2, -⟩:=h2.slice;have hl2:(sclL l2 (-1)).length=l2.length:=by simp[sclL]
 subst e1;subst e2;exact z0o p1 p2 l1.length l2.length c1 c2 (l1++sclL l2 (-1)).length (λq d W=>SdL (.slice q l2.length d) (sclL l2 (-1)) W) (λq d W=>SdL (.slice q (l1++sclL l2 (-1)).length d) (l1++sclL l2 (-1)) W) R3 w
  (hid (z6g _ _ (λW=>qL w W) (λW W' h h'=>h.trans (h'.mono h.size)) (hid λW hW=>zbh _ l1 ok1 W (HW.out W hW) (HP.out W hW) (h1.below hW)) (hid λW hW=>zbh _ l2 ok2 W (HW.out W hW) (HP.out W hW) (h2.below hW)) w (zM _ _)))
  (hid λW hW=>by
    have:=zkb _ l2 (-1) (by omega) (λt ht=>(ok2.trm t ht).sc.mono (by omega)) (zb7.2.2.2.2.1.mono (by omega)) W (hid λV hV=>HW.out V (hW.trans (hV.mono hW.size))) (h2.below hW);rw[show St (numS (-1))=.string ⟨#[45,49]⟩ by rw[nm_1]] at this;refine this.mono λe w' ⟨v',e1,hb,hv'⟩=>?_;obtain⟨q,d,e2, -⟩:=hv'.slice;rw[hl2] at e2;subst e2;exact⟨q,d,e1,hb,hv'⟩)
  (hid λW q d b hW hb hR k0 k1=>by
    obtain⟨W0,hB0,hR0,hBW⟩:=hR;refine(zj8 b _ _ l1 (sclL l2 (-1)) (by omega) W (h1.below hW) (hR0.below hBW) k0 k1).mono λe w' ⟨v,e1,hb',hv'⟩=>?_;obtain⟨q',d',e2, -⟩:=hv'.slice;subst e2;exact⟨q',d',e1,hb',hv'⟩)
  (hid λW q d hW hv=>M W _ hW hv)
def rs (q:Rat):List (Rat×Nat):=if q=0 then[] else[(q,1)]
theorem yag:rs 0=[]:=by unfold rs;rw[if_pos rfl]
theorem yac {q:Rat} (h:q≠0):rs q=[(q,1)]:=by unfold rs;rw[if_neg h]
theorem zkl (p:Option Addr) (cap:Nat) (w:zA):
 qJ 32 #[.slice p 0 cap] w (.tuple #[.int .i64 0,.int .i64 0]):=by
 go_enter Tryz.func32,Tryz.ntmps32;go_wp21;go_ret2;exact⟨rfl,zM _ _⟩
theorem zn3 (k:Nat):plN k<=64:=by
 match k with
 |0=>decide
 |1=>decide
 |_+2=>exact zN _
def b2 (b:Rat):List (Rat×Nat):=[(b,2)]
theorem yaj (q:Rat):numS q≠[]:=by
 intro h;have h1:(zE q.num).length<=(numS q).length:=by unfold numS;simp
 have h2:zE q.num≠[]:=by
  rcases zbg q.num with⟨_,e⟩|⟨_,e⟩
  ·rw[e];exact zci _
  ·rw[e];simp
 rw[h] at h1;exact h2 (List.length_eq_zero_iff.1 (by simpa using h1))
section
variable {w W W':zA} {o:Nat} {a b c a' b' c':List UInt8} {d d':Value} {l:List (Rat×Nat)} {f g:Nat->Bool}
end
section
variable {w W W':zA} {a b c a2 b2 c2:List UInt8} {v d:Value} {l l2:List (Rat×Nat)} {f g:Nat->Bool}
end
section
variable {w W W':zA} {s0 s1 s2 p0 p1 p2:Value} {x0 x1 x2:List UInt8}
end
theorem zln (a b c:List UInt8) (w:zA):
 qJ 100 #[.agg #[St a,St b,St c]] w (.agg #[St a,St b,St c]):=by
 go_enter Tryz.func100,Tryz.ntmps100;go_wp21;exact bodyPost_ret (v:=.agg #[St a,St b,St c]) (by simp[results,Tryz.results100,go_sem]) rfl ⟨rfl,((zM _ w).alloc (zN _) _).alloc (by simp) _⟩
theorem zet (a b c:List UInt8) (w:zA):(Instr.index 133 (.agg #[St a,St b,St c]) (.int .i64 0)).run zF w=.ok (St a) w/\(Instr.index 133 (.agg #[St a,St b,St c]) (.int .i64 1)).run zF w=.ok (St b) w/\(Instr.index 133 (.agg #[St a,St b,St c]) (.int .i64 2)).run zF w=.ok (St c) w:=
 ⟨by kernel_rfl,by kernel_rfl,by kernel_rfl⟩
theorem z3t (a b c:List UInt8)
 (C0:Hid (qK 36 #[St a] (.int .i64 0)))
 (C1:Hid (qK 36 #[St b] (.int .i64 0)))
 (C2:Hid (qK 36 #[St c] (.int .i64 0)))
 (w:zA) (HW:Hid (Wd w)):
 qJ 50 #[.agg #[St a,St b,St c]] w (.int .i64 0):=by
 have n0:=λw=>(zet a b c w).1;have n1:=λw=>(zet a b c w).2.1;have n2:=λw=>(zet a b c w).2.2;obtain⟨v1,hv⟩:=zzX (w.alloc (.cells #[St a,St b,St c] 25));have a1:qL w v1:=by rw[hv];exact(zM _ w).alloc (zN _) _
 have HV:=hid hv.symm;have E1:=hid a1;clear hv a1;go_enter Tryz.func50,Tryz.ntmps50;go_wp21;have h9:=HV.out;rw[show w.alloc (.cells #[.string ⟨a.toArray⟩,.string ⟨b.toArray⟩,.string ⟨c.toArray⟩] 25)=v1 from h9];clear h9 HV;refine zzM (zln a b c v1) λr0 hb=>?_;have E2:=hid (E1.out.trans (hb.mono E1.out.size));clear hb E1;go_wp21;refine wp_loop_rounds 4 ?_;rw[rounds_succ];go_wp21;refine zzM (C0.out r0 (HW.out.below E2.out)) λr1 hb=>?_;have E3:=hid (E2.out.trans (hb.mono E2.out.size));clear hb E2;go_wp21;rw[rounds_succ];go_wp21;refine zzM (C1.out r1 (HW.out.below E3.out)) λr2 hb=>?_;have E4:=hid (E3.out.trans (hb.mono E3.out.size));clear hb E3;go_wp21;rw[rounds_succ];go_wp21;refine zzM (C2.out r2 (HW.out.below E4.out)) λr3 hb=>?_;have E5:=hid (E4.out.trans (hb.mono E4.out.size));clear hb E4;go_wp21;rw[rounds_succ];go_wp21;go_ret;exact⟨rfl,E5.out⟩
section
variable {w W W':zA} {P:Nat} {p0 p1 p2:Value} {x0 x1 x2:List UInt8}
end
section
variable {w W W':zA} {a b c:List UInt8} {d s0 s1 s2 r:Value} {M:List (Rat×Nat)} {E F:Prop} {er:Int} {f g:Nat->Bool}
end
structure Hw (w:zA):Prop where
 wd:Wd w
 pw:Pw w
 sw:Spw w
theorem Hw.below {w w':zA} (h:Hw w) (hb:qL w w'):Hw w':=⟨h.wd.below hb,h.pw.below hb,h.sw.below hb⟩
def trN (t:Rat×Nat) (p:Nat):Nat:=t.1.num.natAbs*t.1.num.natAbs*t.2*10^(2*p)
def flT (t:Rat×Nat) (p:Nat):Int:=floT t.1 (isq (trN t p)) (trN t p)
def valZ:List (Rat×Nat)->Nat->Int
 |[],_=>0
 |t::l,p=>flT t p+valZ l p
theorem zrt (p:Nat):∀l m:List (Rat×Nat),valZ (l++m) p=valZ l p+valZ m p
 |[],m=>by simp[valZ]
 |t::l,m=>by
  rw[List.cons_append];show flT t p+valZ (l++m) p=flT t p+valZ l p+valZ m p;rw[zrt p l m];omega
theorem znz {l:List (Rat×Nat)} {i:Nat} {t:Rat×Nat} (h:l[i]? =some t) (p:Nat):valZ (l.take (i+1)) p=valZ (l.take i) p+flT t p:=by
 rw[List.take_add_one,h,zrt];show _+(flT t p+0)=_;omega
def sgnL (l:List (Rat×Nat)):Int:=if l=[] then 0 else sgnP l.length λk=>valZ l (plN k)
def sgeL (l:List (Rat×Nat)):Int:=if l=[] then 0 else errP (sgnL l)
theorem zvi {t:Rat×Nat} {d:Nat} (h:TrmR t.1 t.2 d) (hd:d<=40) (k:Nat):trN t (plN k)<10^144*10^144:=by
 have h1:=h.sc.1;have h2:t.2<10^40:=(zaf _ 40 (by omega)).1 (zO h.nr.len hd);have h3:(10:Nat)^(2*plN k)<=10^128:=Nat.pow_le_pow_right (by omega) (by have:=zn3 k;omega);have h4:t.1.num.natAbs*t.1.num.natAbs*t.2<10^160:=zcc (i:=120) (j:=40) (zcc (i:=60) (j:=60) h1 h1) h2;unfold trN
 calc _<10^160*10^(2*plN k):=Nat.mul_lt_mul_of_pos_right h4 (yS (by simp))
  _<=10^160*10^128:=Nat.mul_le_mul_left _ h3
  _=10^144*10^144:=by decide+kernel
theorem zz9 {n:Nat} (h:n<10^144*10^144):isq n<10^144:=Nat.mul_self_lt_mul_self_iff.1 (Nat.lt_of_le_of_lt (zv0 n).1 h)
theorem zzb {t:Rat×Nat} {d:Nat} (h:TrmR t.1 t.2 d) (hd:d<=40) (k:Nat):(zD (trN t (plN k))).length<=290:=by
 have:(10:Nat)^144*10^144<=10^290:=by decide+kernel
 exact zil (by omega) (zS (zvi h hd k) this)
theorem zvj {t:Rat×Nat} {d:Nat} (h:TrmR t.1 t.2 d) (hd:d<=40) (k:Nat):(flT t (plN k)).natAbs<=10^144:=by
 have hs:=zz9 (zvi h hd k);have hdv:=Nat.div_le_self (isq (trN t (plN k))) t.1.den;unfold flT floT;generalize isq (trN t (plN k))/t.1.den=x at*
 split
 ·rw[Int.natAbs_neg,Int.natAbs_natCast]
  split<;>omega
 ·rw[Int.natAbs_natCast]
  omega
theorem zzd {l:List (Rat×Nat)} {d:Nat} (h:∀t∈l,TrmR t.1 t.2 d) (hd:d<=40) (k:Nat):(valZ l (plN k)).natAbs<=l.length*10^144:=by
 induction l with
 |nil=>simp[valZ]
 |cons t l ih=>
  have h1:=zvj (h t (yD ..)) hd k;have h2:=ih λu hu=>h u (List.mem_cons_of_mem _ hu);show(flT t (plN k)+valZ l (plN k)).natAbs<=(l.length+1)*10^144;rw[Nat.add_mul,Nat.one_mul];omega
theorem z0a (v:Value) (l:List (Rat×Nat)) {d:Nat} (h:SdOk l d) (w:zA) (hw:Wd w) (hp:Spw w) (hv:SdL v l w) (hd:d<=40:=by omega):
 qJ 32 #[v] w (.tuple #[.int .i64 (sgnL l),.int .i64 (sgeL l)]):=by
 obtain⟨p,cap,rfl, -,hx⟩:=hv.slice;by_cases h0:l=[]
 ·subst h0
  exact zkl p cap w
 have hl0:0<l.length:=List.length_pos_iff.2 h0;have hl:=h.len;rw[show sgeL l=errP (sgnL l) from if_neg h0,show sgnL l=sgnP l.length λk=>valZ l (plN k) from if_neg h0];have z48:zE 0=[48]:=zb9;have z49:zE 1=[49]:=by rw[show(1:Int)=((1:Nat):Int) from rfl,Str.zad,zae (by omega)];rfl
 have dz:∀z:Int,z.natAbs<=12*10^144+12->digs z<=300:=λz hz=>by
  have p1:12*(10:Nat)^144+12<10^150:=by decide+kernel
  exact zO (zhd (k:=150) (by omega) (by omega)) (by omega)
 have vb:∀(k i:Nat),(valZ (l.take i) (plN k)).natAbs<=12*10^144:=λk i=>by
  have h1:=zzd (l:=l.take i) (λt ht=>h.trm t (List.mem_of_mem_take ht)) hd k;have h2:(l.take i).length<=12:=by rw[List.length_take];omega
  exact zO h1 (Nat.mul_le_mul_right _ h2)
 have at_:∀i,i<l.length->∃t,l[i]? =some t:=λi hi=>⟨_,yB hi⟩;have hg:∀(i:Nat) (t:Rat×Nat),l[i]? =some t->l[i]?.getD (1,1)=t:=λi t h=>by rw[h];rfl
 have hall:=zj5 p cap l.length hl0 (by omega) (λi=>numS (l[i]?.getD (1,1)).1) (λi=>zD (l[i]?.getD (1,1)).2) (λk i=>flT (l[i]?.getD (1,1)) (plN k)) (λk i=>valZ (l.take i) (plN k)) (hid λk=>rfl)
  (hid λk i hk hi W hW=>by
    obtain⟨t,ht⟩:=at_ i hi;rw[hg i t ht];have htr:=h.trm t (List.mem_of_getElem? ht);exact zul t.1 t.2 (plN k) (isq (trN t (plN k))) (trN t (plN k)) (zd0 (by omega) (by omega) htr.sc) htr.ne htr.nr.pos (by have:=zn3 k;omega) rfl (zzb htr hd k) (zv0 _) W hW)
  (hid λk i hk hi W hW=>by
    obtain⟨t,ht⟩:=at_ i hi;rw[hg i t ht,znz ht];have h1:=vb k i;have h2:=vb k (i+1);rw[znz ht] at h2;have h3:=zvj (h.trm t (List.mem_of_getElem? ht)) hd k;exact zva _ _ (dz _ (by omega)) (dz _ (by omega)) (dz _ (by omega)) W hW)
  (hid λk j hk hj W hW=>by
    have h1:=vb k l.length;have:=zva (valZ (l.take l.length) (plN k)+(j:Int)) 1 (dz _ (by omega)) (dz _ (by omega)) (dz _ (by omega)) W hW;rw[z49,show valZ (l.take l.length) (plN k)+(j:Int)+1=valZ (l.take l.length) (plN k)+((j+1:Nat):Int) by omega] at this;exact this)
  (hid λk j hk hj W hW=>by
    have h1:=vb k l.length;have:=zsx (valZ (l.take l.length) (plN k)+(j:Int)) 0 (dz _ (by omega)) (dz _ (by omega)) W;rw[z48] at this;exact this)
  w (hid hw) (hid hp)
  (hid λi hi=>by
    obtain⟨t,ht⟩:=at_ i hi;rw[hg i t ht];exact hx i t ht)
 rw[List.take_length] at hall;exact hall
theorem zpf {a b:Nat} (h:a*a<=b*b):a<=b:=Nat.mul_self_le_mul_self_iff.1 h
theorem zx7 {a b:Nat} (h:a*a<b*b):a<b:=Nat.mul_self_lt_mul_self_iff.1 h
theorem zn0 (M d p q:Nat) (hd:0<d):
 (isq (M*10^(2*p))/d)*10^q<=(isq (M*10^(2*q))/d+(if isq (M*10^(2*q))*isq (M*10^(2*q))=M*10^(2*q)/\isq (M*10^(2*q))%d=0 then 0 else 1))*10^p/\
 (isq (M*10^(2*q))/d+(if isq (M*10^(2*q))*isq (M*10^(2*q))=M*10^(2*q)/\isq (M*10^(2*q))%d=0 then 0 else 1))*10^p<(isq (M*10^(2*p))/d+1)*10^q+10^p:=by
 obtain⟨s1,s2⟩:=zv0 (M*10^(2*p));obtain⟨r1,r2⟩:=zv0 (M*10^(2*q));generalize isq (M*10^(2*p))=s at*
 generalize isq (M*10^(2*q))=r at*
 have ep:(10:Nat)^(2*p)=10^p*10^p:=by rw[Nat.two_mul,Nat.pow_add]
 have eq:(10:Nat)^(2*q)=10^q*10^q:=by rw[Nat.two_mul,Nat.pow_add]
 rw[ep] at s1 s2;rw[eq] at r1 r2⊢;have hP:0<(10:Nat)^p:=yS (by simp);have hQ:0<(10:Nat)^q:=yS (by simp);generalize (10:Nat)^p=P at*
 generalize (10:Nat)^q=Q at*
 have a1:s/d*d<=s:=Nat.div_mul_le_self s d;have a2:s<(s/d+1)*d:=by
  have:=Nat.lt_div_mul_add hd (a:=s);rw[Nat.add_mul,Nat.one_mul];exact this
 have b1:r/d*d<=r:=Nat.div_mul_le_self r d;have b2:r<(r/d+1)*d:=by
  have:=Nat.lt_div_mul_add hd (a:=r);rw[Nat.add_mul,Nat.one_mul];exact this
 have b3:r%d=0->r/d*d=r:=λh=>Nat.div_mul_cancel (Nat.dvd_of_mod_eq_zero h);generalize s/d=x at*
 generalize r/d=y at*
 have c1:(x*d)*(x*d)<=M*(P*P):=zO (Nat.mul_le_mul a1 a1) s1;have c2:M*(P*P)<((x+1)*d)*((x+1)*d):=zS s2 (Nat.mul_le_mul a2 a2);have c3:(y*d)*(y*d)<=M*(Q*Q):=zO (Nat.mul_le_mul b1 b1) r1;have mono:∀{a b c:Nat},a<=b->a*c<=b*c:=λh=>Nat.mul_le_mul_right _ h;constructor
 ·split
  ·rename_i h
   have c4:(y*d)*(y*d)=M*(Q*Q):=by rw[b3 h.2];exact h.1
   have:(x*Q*d)*(x*Q*d)<=(y*P*d)*(y*P*d):=by
    calc (x*Q*d)*(x*Q*d)=(x*d)*(x*d)*(Q*Q):=by ac_rfl
     _<=M*(P*P)*(Q*Q):=mono c1
     _=M*(Q*Q)*(P*P):=by ac_rfl
     _=(y*d)*(y*d)*(P*P):=by rw[c4]
     _=(y*P*d)*(y*P*d):=by ac_rfl
   have:=zpf this;exact Nat.le_of_mul_le_mul_right this hd
  ·have c4:M*(Q*Q)<=((y+1)*d)*((y+1)*d):=Nat.le_of_lt (zS r2 (Nat.mul_le_mul b2 b2))
   have:(x*Q*d)*(x*Q*d)<=((y+1)*P*d)*((y+1)*P*d):=by
    calc (x*Q*d)*(x*Q*d)=(x*d)*(x*d)*(Q*Q):=by ac_rfl
     _<=M*(P*P)*(Q*Q):=mono c1
     _=M*(Q*Q)*(P*P):=by ac_rfl
     _<=((y+1)*d)*((y+1)*d)*(P*P):=mono c4
     _=((y+1)*P*d)*((y+1)*P*d):=by ac_rfl
   have:=zpf this;exact Nat.le_of_mul_le_mul_right this hd
 ·have:(y*P*d)*(y*P*d)<((x+1)*Q*d)*((x+1)*Q*d):=by
   calc (y*P*d)*(y*P*d)=(y*d)*(y*d)*(P*P):=by ac_rfl
    _<=M*(Q*Q)*(P*P):=mono c3
    _=M*(P*P)*(Q*Q):=by ac_rfl
    _<((x+1)*d)*((x+1)*d)*(Q*Q):=Nat.mul_lt_mul_of_pos_right c2 (Nat.mul_pos hQ hQ)
    _=((x+1)*Q*d)*((x+1)*Q*d):=by ac_rfl
  have:=zx7 this;have:y*P<(x+1)*Q:=Nat.lt_of_mul_lt_mul_right this;rw[Nat.add_mul];split
  ·rw[Nat.zero_mul];omega
  ·rw[Nat.one_mul];omega
theorem z0c (c:Rat):(-c).num= -c.num/\(-c).den=c.den:=⟨rfl,rfl⟩
theorem zvk (t:Rat×Nat) (hne:t.1≠0) (p q:Nat):
 flT t p*(10^q:Nat)+flT (ngT t) q*(10^p:Nat)<=0/\0<(flT t p+1)*(10^q:Nat)+(flT (ngT t) q+1)*(10^p:Nat):=by
 have hn0:t.1.num≠0:=λe=>hne (Rat.num_eq_zero.1 e);have hd:=t.1.den_pos;obtain⟨n1,n2⟩:=z0c t.1;have hM:trN (ngT t) q=t.1.num.natAbs*t.1.num.natAbs*t.2*10^(2*q):=by
  show(-t.1).num.natAbs*(-t.1).num.natAbs*t.2*10^(2*q)=_;rw[n1,Int.natAbs_neg]
 have hM0:trN t p=t.1.num.natAbs*t.1.num.natAbs*t.2*10^(2*p):=rfl;unfold flT floT;rw[hM,hM0,show(ngT t).1= -t.1 from rfl,n1,n2];generalize t.1.num.natAbs*t.1.num.natAbs*t.2=M;by_cases hs:t.1.num<0
 ·rw[if_pos hs,if_neg (show ¬ -t.1.num<0 by omega)]
  obtain⟨f1,f2⟩:=zn0 M t.1.den q p hd;generalize isq (M*10^(2*q))/t.1.den=x at*
  generalize (isq (M*10^(2*p))/t.1.den+if isq (M*10^(2*p))*isq (M*10^(2*p))=M*10^(2*p)/\isq (M*10^(2*p))%t.1.den=0 then 0 else 1)=y at*
  generalize (10:Nat)^p=P at*
  generalize (10:Nat)^q=Q at*
  have g1:((x*P:Nat):Int)<=((y*Q:Nat):Int):=by exact_mod_cast f1
  have g2:((y*Q:Nat):Int)<(((x+1)*P+Q:Nat):Int):=by exact_mod_cast f2
  simp only[Int.natCast_mul,Int.natCast_add,Int.natCast_one] at g1 g2;rw[Int.neg_mul,Int.add_mul,Int.add_mul,Int.neg_mul];rw[Int.add_mul] at g2;simp only[Int.one_mul] at*
  omega
 ·rw[if_neg hs,if_pos (show-t.1.num<0 by have:=hn0;omega)]
  obtain⟨f1,f2⟩:=zn0 M t.1.den p q hd;generalize isq (M*10^(2*p))/t.1.den=x at*
  generalize (isq (M*10^(2*q))/t.1.den+if isq (M*10^(2*q))*isq (M*10^(2*q))=M*10^(2*q)/\isq (M*10^(2*q))%t.1.den=0 then 0 else 1)=y at*
  generalize (10:Nat)^p=P at*
  generalize (10:Nat)^q=Q at*
  have g1:((x*Q:Nat):Int)<=((y*P:Nat):Int):=by exact_mod_cast f1
  have g2:((y*P:Nat):Int)<(((x+1)*Q+P:Nat):Int):=by exact_mod_cast f2
  simp only[Int.natCast_mul,Int.natCast_add,Int.natCast_one] at g1 g2;rw[Int.neg_mul,Int.add_mul,Int.add_mul,Int.neg_mul];rw[Int.add_mul] at g2;simp only[Int.one_mul] at*
  omega
theorem zg3 (n:Nat) (Z:Nat->Int):(sgnP n Z=1/\∃k,0<Z k)\/(sgnP n Z= -1/\∃k,Z k+n<=0)\/sgnP n Z=0:=by
 have r:∀k,(zap n k (Z k)=1/\0<Z k)\/(zap n k (Z k)= -1/\Z k+n<=0)\/zap n k (Z k)=0:=λk=>by
  unfold zap;split
  ·exact .inl ⟨rfl,by assumption⟩
  ·split
   ·exact .inr (.inl ⟨rfl,by omega⟩)
   ·exact .inr (.inr rfl)
 unfold sgnP;split
 ·rcases r 0 with⟨h,k⟩|⟨h,k⟩|h
  ·exact .inl ⟨h,0,k⟩
  ·exact .inr (.inl ⟨h,0,k⟩)
  ·exact .inr (.inr h)
 ·split
  ·rcases r 1 with⟨h,k⟩|⟨h,k⟩|h
   ·exact .inl ⟨h,1,k⟩
   ·exact .inr (.inl ⟨h,1,k⟩)
   ·exact .inr (.inr h)
  ·rcases r 2 with⟨h,k⟩|⟨h,k⟩|h
   ·exact .inl ⟨h,2,k⟩
   ·exact .inr (.inl ⟨h,2,k⟩)
   ·exact .inr (.inr h)
def zm0 (q:Rat):Prop:=digs q.num<=9/\(zD q.den).length<=9
theorem z5o (q:Rat):(denS q).length<=9↔(zD q.den).length<=9:=by
 unfold denS;split
 ·rename_i h
  rw[h];have:(zD 1).length=1:=by decide+kernel
  simp[this]
 ·exact Iff.rfl
theorem yad (q:Rat) (h:okN q) (hn:¬zm0 q) (w:zA):
 qJ 144 #[St (numS q)] w (.tuple #[.int .i64 0,.int .i64 0,.bool false]):=by
 have hc:=z1x q h w;have hl1:(zD q.num.natAbs).length<=300:=h.1;have hl2:(denS q).length<=300:=by unfold denS;split;exact zR _;exact h.2
 have hor:9<(zD q.num.natAbs).length\/((zD q.num.natAbs).length<=9/\9<(denS q).length):=by
  have:=z5o q;by_cases h1:(zD q.num.natAbs).length<=9
  ·right
   refine⟨h1,?_⟩;rcases Nat.lt_or_ge 9 (denS q).length with h2|h2
   ·exact h2
   ·exact absurd ⟨h1,this.1 h2⟩ hn
  ·left;omega
 have HC:=hid hc;clear hc h hn;generalize zD q.num.natAbs=a at*
 generalize denS q=ds at*
 generalize numS q=s at*
 generalize decide (q.num<0)=mb at*
 generalize decide (q.den≠1)=db at*
 go_enter Tryz.func144,Tryz.ntmps144;go_wp21;refine zzM HC.out λw1 hb=>?_;rcases hor with h1|⟨h1,h2⟩
 ·have g1:(9:Int)<a.length:=by omega
  go_wp21;go_ret3;exact⟨rfl,hb⟩
 ·have g1:¬(9:Int)<a.length:=by omega
  have g2:(9:Int)<ds.length:=by omega
  go_wp21;go_ret3;exact⟨rfl,hb⟩
theorem zrh (q:Rat) (h:okN q) (hn:zm0 q) (w:zA):
 qJ 144 #[St (numS q)] w (.tuple #[.int .i64 q.num,.int .i64 (q.den:Int),.bool true]):=by
 have hc:=z1x q h w;have hl1:(zD q.num.natAbs).length<=9:=hn.1;have hl2:(denS q).length<=9:=(z5o q).2 hn.2;have s1:=λW=>zrk (zD q.num.natAbs) (zan _) (by omega) W;have s2:=λW=>zrk (zD q.den) (zan _) (by have:=hn.2;omega) W;rw[zb2] at s1 s2;have b1:q.num.natAbs<1000000000:=(zaf _ 9 (by omega)).1 hn.1;have hd2:q.den≠1->denS q=zD q.den:=λe=>by unfold denS;rw[if_neg e]
 have HC:=hid hc;have S1:=hid s1;have S2:=hid s2;have HD2:=hid hd2;obtain⟨a,ha⟩:=zzX q.num.natAbs;rw[<-ha] at HC S1 hl1 b1;have g1:¬(9:Int)<(zD a).length:=by omega
 have g2:¬(9:Int)<(denS q).length:=by omega
 clear hc h hn s1 s2 hd2;generalize zD a=da at*
 generalize numS q=s at*
 by_cases hm:q.num<0<;>by_cases h1:q.den=1
 ·rw[decide_eq_true hm,decide_eq_false (by simpa using h1)] at HC
  have hw:IntKind.i64.wrap (-(a:Int))=q.num:=by rw[show-(a:Int)=q.num by omega];exact zI _ (by omega)
  rw[h1];clear hm ha HD2 b1;generalize q.num=nn at*
  generalize denS q=ds at*
  generalize q.den=den at*
  generalize zD den=dd at*
  go_enter Tryz.func144,Tryz.ntmps144;go_wp21;refine zzM HC.out λw1 hb=>?_;go_wp21;refine zzM (S1.out w1) λw2 hw2=>?_;have hw2':=hw2.symm;subst hw2';go_wp21;go_ret3;exact⟨rfl,hb⟩
 ·rw[decide_eq_true hm,decide_eq_true (by simpa using h1)] at HC
  have hw:IntKind.i64.wrap (-(a:Int))=q.num:=by rw[show-(a:Int)=q.num by omega];exact zI _ (by omega)
  rw[HD2.out h1] at HC g2 hl2;clear hm ha HD2 b1;generalize q.num=nn at*
  generalize denS q=ds at*
  generalize q.den=den at*
  generalize zD den=dd at*
  go_enter Tryz.func144,Tryz.ntmps144;go_wp21;refine zzM HC.out λw1 hb=>?_;go_wp21;refine zzM (S1.out w1) λw2 hw2=>?_;have hw2':=hw2.symm;subst hw2';go_wp21;refine zzM (S2.out w1) λw3 hw3=>?_;have hw3':=hw3.symm;subst hw3';go_wp21;go_ret3;exact⟨rfl,hb⟩
 ·rw[decide_eq_false hm,decide_eq_false (by simpa using h1)] at HC
  have hw:(q.num:Int)=(a:Int):=by omega
  rw[hw];rw[h1];clear hm ha HD2 b1 hw;generalize q.num=nn at*
  generalize denS q=ds at*
  generalize q.den=den at*
  generalize zD den=dd at*
  go_enter Tryz.func144,Tryz.ntmps144;go_wp21;refine zzM HC.out λw1 hb=>?_;go_wp21;refine zzM (S1.out w1) λw2 hw2=>?_;have hw2':=hw2.symm;subst hw2';go_wp21;go_ret3;exact⟨rfl,hb⟩
 ·rw[decide_eq_false hm,decide_eq_true (by simpa using h1)] at HC
  have hw:(q.num:Int)=(a:Int):=by omega
  rw[hw];rw[HD2.out h1] at HC g2 hl2;clear hm ha HD2 b1 hw;generalize q.num=nn at*
  generalize denS q=ds at*
  generalize q.den=den at*
  generalize zD den=dd at*
  go_enter Tryz.func144,Tryz.ntmps144;go_wp21;refine zzM HC.out λw1 hb=>?_;go_wp21;refine zzM (S1.out w1) λw2 hw2=>?_;have hw2':=hw2.symm;subst hw2';go_wp21;refine zzM (S2.out w1) λw3 hw3=>?_;have hw3':=hw3.symm;subst hw3';go_wp21;go_ret3;exact⟨rfl,hb⟩
theorem zct (a b c d:Int) (ha:digs a<=300) (hb:digs b<=300) (hc:digs c<=300) (hd:digs d<=300) (hab:digs (a*b)<=300) (hcd:digs (c*d)<=300) (w:zA) (hw:Wd w):
 qJ 210 #[St (zE a),St (zE b),St (zE c),St (zE d)] w (.tuple #[St (zE (a*b)),St (zE (c*d)),.int .i64 0]):=by
 have c1:=λW hW=>z26 a b ha hb hab W hW;have c2:=λW hW=>z26 c d hc hd hcd W hW;have HW:=hid hw;have C1:=hid c1;have C2:=hid c2;clear c1 c2 hw ha hb hc hd hab hcd;generalize zE (a*b)=x at*
 generalize zE (c*d)=y at*
 generalize zE a=sa at*
 generalize zE b=sb at*
 generalize zE c=sc at*
 generalize zE d=sd at*
 go_enter Tryz.func210,Tryz.ntmps210;go_wp21;refine zzM (C1.out w HW.out) λw1 hb1=>?_;have HB1:=hid hb1;clear hb1;go_wp21;refine zzM (C2.out w1 (HW.out.below HB1.out)) λw2 hb2=>?_;have HB2:=qT HB1 hb2;clear hb2;go_wp21;go_ret3;exact⟨rfl,HB2.out⟩
theorem yae (n k:Nat) (h:n≠k) (l:List UInt8) (hl:zD k=l):(zD n==l)=false/\¬zD n=l:=by
 have:¬zD n=l:=λe=>h (by rw[<-hl] at e;have:=congrArg val e;rwa [zb2,zb2] at this);exact⟨by rw[beq_eq_false_iff_ne];exact this,this⟩
theorem zgv (q:Rat) (h:okN q) (w:zA) (hw:Wd w):
 qJ 139 #[St (numS q)] w (.int .i64 0):=by
 refine(zt5 (numS q) (z8i h) w hw).mono ?_;rintro e w' ⟨r,rfl,hr,hb⟩;rw[hr.2 ⟨q,rfl,h⟩];exact⟨rfl,hb⟩
theorem zrs (q r:Rat) (hq:okN q) (hr:okN r) (w:zA) (hw:Wd w):
 qJ 141 #[St (numS q),St (numS r)] w (.int .i64 0):=by
 have c1:=λW hW=>zgv q hq W hW;have c2:=λW hW=>zgv r hr W hW;generalize numS q=x at*
 generalize numS r=y at*
 have C1:=hid c1;have C2:=hid c2;have HW:=hid hw;clear c1 c2 hq hr hw;go_enter Tryz.func141,Tryz.ntmps141;go_wp21;refine zzM (C1.out w HW.out) λw1 hb1=>?_;have HB1:=hid hb1;clear hb1;go_wp21;refine zzM (C2.out w1 (HW.out.below HB1.out)) λw2 hb2=>?_;have HB2:=qT HB1 hb2;clear hb2;go_wp21;go_ret;exact⟨rfl,HB2.out⟩
theorem zp5 (q:Rat) (h:okN q) (w:zA) (hw:Wd w):
 qJ 87 #[St (numS q)] w (.tuple #[St (zE q.num),St (zD q.den),.int .i64 0]):=by
 have c1:=zgv q h w hw;have c2:=λW=>zre q h W;generalize numS q=x at*
 generalize zE q.num=n at*
 generalize zD q.den=d at*
 have C1:=hid c1;have C2:=hid c2;clear c1 c2 h hw;go_enter Tryz.func87,Tryz.ntmps87;go_wp21;refine zzM C1.out λw1 hb1=>?_;have HB1:=hid hb1;clear hb1;go_wp21;refine zzM (C2.out w1) λw2 hb2=>?_;have HB2:=qT HB1 hb2;clear hb2;go_wp21;go_ret3;exact⟨rfl,HB2.out⟩
end
end Go.Proofs.YtfoodcpnnmonhaaGreatDoor
