/- rounding.single and Within, by contracts. -/
import Derived.Test.YtmeekcnlacckfaaGreatDoorV12
import Derived.Laws.EntriesVeiled
set_option maxRecDepth 100000
set_option maxHeartbeats 8000000
open Go renaming World → zA, Calls → zC
open Go.RowKit renaming Below → zB, intOf → zL
open Go.Lib renaming decDigits → zD
open Go.Proofs.Tryz renaming prog → zF
open Go.World renaming alloc_heap_new → zG
open Go.Joins renaming cell_of_block → zJ
open Go.RowKit.Below renaming refl → zM
open Nat renaming le_refl → zN
open List renaming length_map → zV, getElem?_eq_getElem → yB
namespace Go.Proofs.YtmeekcnlacckfaaGreatDoor
section
open Go.RowKit Go.Shelf Lib Str Limb Geo
attribute [local go_sem] Oper.semAt_some
theorem zpd (q:Rat) (hq:sz q 60) (w:zA) (hw:Hw w):
 zC zF 90 #[St (numS q)] w λe w'=>∃p k c,e=.returned (.tuple #[.slice p k c,.int .i64 0])/\zB w.heap.size w w'/\SdL (.slice p k c) (rs q) w':=by
 obtain⟨v1,hv⟩:=zzX (w.alloc (.cells #[St (numS q),.string ⟨#[49]⟩] 37));have d1:St (zD 1)=.string ⟨#[49]⟩:=by rw[zae (by omega)];rfl
 have hl:=SdL.laid w q 1 ⟨(numS q).toArray⟩ ⟨#[49]⟩ rfl d1 v1 hv;have a1:qL w v1:=by rw[hv];exact(zM _ w).alloc (zN _) _
 have hm:=zlh _ q hq v1 (hw.below a1).d (hw.below a1).p hl;have HM:=hid hm;have B0:=hid a1;have HV:=hid hv.symm;clear hm a1 hv hl;generalize numS q=x at*
 go_enter Tryz.func90,Tryz.ntmps90;go_wp21;have h9:=HV.out;rw[h9];clear h9 HV;refine HM.out.mono ?_;rintro e w1 ⟨v,rfl,hb,hs⟩;obtain⟨p,k,c,rfl⟩:=hs.any;have B1:=hid (B0.out.trans (hb.mono B0.out.size));have HS:=hid hs;clear hb hs;go_wp21;go_ret2;exact⟨_,_,_,rfl,B1.out,HS.out⟩
theorem zs5 (v:Value) (r lo hi:List UInt8) (E:ByteArray) (h0:0<E.size) (hE:(((E[0]'h0).toNat:Int)==45)=false) (L1 L2:List (Rat×Nat)) (n m:Int) (hn:0<=n) (hm:m<=0) (w:zA)
 (CS:Hid (∀W:zA,qL w W->qJ 70 #[v] W (.int .i64 0)))
 (CR:Hid (∀W:zA,qL w W->qJ 54 #[St r] W (.int .i64 0)))
 (CE:Hid (∀W:zA,qL w W->qJ 54 #[.string E] W (.int .i64 0)))
 (SB:Hid (∀W:zA,qL w W->qJ 10 #[St r,.string E] W (.tuple #[St lo,.int .i64 0])))
 (AD:Hid (∀W:zA,qL w W->qJ 12 #[St r,.string E] W (.tuple #[St hi,.int .i64 0])))
 (S1:Hid (∀W:zA,qL w W->zC zF 90 #[St lo] W λe w'=>∃q k c,e=.returned (.tuple #[.slice q k c,.int .i64 0])/\zB W.heap.size W w'/\SdL (.slice q k c) L1 w'))
 (S2:Hid (∀W:zA,qL w W->zC zF 90 #[St hi] W λe w'=>∃q k c,e=.returned (.tuple #[.slice q k c,.int .i64 0])/\zB W.heap.size W w'/\SdL (.slice q k c) L2 w'))
 (C1:Hid (∀(W:zA) (u:Value),qL w W->SdL u L1 W->qJ 14 #[v,u] W (.tuple #[.int .i64 n,.int .i64 0])))
 (C2:Hid (∀(W:zA) (u:Value),qL w W->SdL u L2 W->qJ 14 #[v,u] W (.tuple #[.int .i64 m,.int .i64 0]))):
 qJ 32 #[v,St r,.string E] w (.tuple #[.bool true,.int .i64 0]):=by
 have d1:decide (0<=n)=true:=decide_eq_true hn;have d2:decide (m<=0)=true:=decide_eq_true hm;have D0:=hid (zM w.heap.size w);go_enter Tryz.func32,Tryz.ntmps32;go_wp21;refine zzM (CS.out w D0.out) λw1 hb=>?_;have B1:=hid (D0.out.trans (hb.mono D0.out.size));clear hb D0;go_wp21;refine zzM (CR.out w1 B1.out) λw2 hb=>?_;have B2:=hid (B1.out.trans (hb.mono B1.out.size));clear hb B1;go_wp21;refine zzM (CE.out w2 B2.out) λw3 hb=>?_;have B3:=hid (B2.out.trans (hb.mono B2.out.size));clear hb B2;go_wp21;refine zzM (SB.out w3 B3.out) λw4 hb=>?_;have B4:=hid (B3.out.trans (hb.mono B3.out.size));clear hb B3;go_wp21;refine zzM (AD.out w4 B4.out) λw5 hb=>?_;have B5:=hid (B4.out.trans (hb.mono B4.out.size));clear hb B4;go_wp21;refine(S1.out w5 B5.out).mono ?_;rintro e w6 ⟨q1,k1,c1,rfl,hb,g10⟩;have B6:=hid (B5.out.trans (hb.mono B5.out.size));have G1:=hid g10;clear hb B5 g10;go_wp21;refine(S2.out w6 B6.out).mono ?_;rintro e w7 ⟨q2,k2,c2,rfl,hb,g20⟩;have B7:=hid (B6.out.trans (hb.mono B6.out.size));replace G1:=hid (G1.out.below hb);have G2:=hid g20;clear hb B6 g20;go_wp21;refine zzM (C1.out w7 _ B7.out G1.out) λw8 hb=>?_;have B8:=hid (B7.out.trans (hb.mono B7.out.size));replace G1:=hid (G1.out.below hb);replace G2:=hid (G2.out.below hb);clear hb B7;go_wp21;refine zzM (C2.out w8 _ B8.out G2.out) λw9 hb=>?_;have B9:=hid (B8.out.trans (hb.mono B8.out.size));replace G1:=hid (G1.out.below hb);replace G2:=hid (G2.out.below hb);clear hb B8;go_wp21;go_ret2;exact⟨rfl,B9.out⟩
theorem z0p:(Tryz.prog.info? 30).map (λi=>(i.zero,i.size,i.bytes))=some (some (St []),1,16):=by kernel_rfl
def rowF (i:Nat):ByteArray:=if i=2 then⟨#[49,54]⟩ else if i=3 then⟨#[50,52]⟩ else⟨#[49,50]⟩
def rowG (i:Nat):FuncId:=if i<4 then 224 else 225
def rowA (i:Nat):ByteArray:=if i=1\/i=5 then⟨#[50]⟩ else⟨#[49]⟩
structure RowsQ (g:Nat) (W:zA):Prop where
 at_:∀i,i<6->∃b,W.cell? ⟨g,i*2,none⟩=some (.string (rowF i))/\W.cell? ⟨g,i*2+1,none⟩=some (.func (.func (rowG i)) #[] #[.pointer (some ⟨b,0,none⟩)])/\W.cell? ⟨b,0,none⟩=some (.string (rowA i))
theorem RowsQ.below {g:Nat} {W W':zA} (h:RowsQ g W) (hb:qL W W'):RowsQ g W':=⟨λi hi=>by
 obtain⟨b,h1,h2,h3⟩:=h.at_ i hi;exact⟨b,zai hb h1,zai hb h2,zai hb h3⟩⟩
theorem zeg (a:ByteArray) (w:zA):zC zF 150 #[.string a] w λe w'=>e=.returned (.func (.func 224) #[] #[.pointer (some ⟨w.heap.size,0,none⟩)])/\zB w.heap.size w w'/\w'.cell? ⟨w.heap.size,0,none⟩=some (.string a):=by
 have h1:qL w (w.alloc (.cells #[.string a] 30)):=(zM _ w).alloc (zN _) _;have h2:(w.alloc (.cells #[.string a] 30)).cell? ⟨w.heap.size,0,none⟩=some (.string a):=by rw[zJ (zG w _)];rfl
 have H:=hid (⟨h1,h2⟩:_/\_);clear h1 h2;go_enter Tryz.func150,Tryz.ntmps150;go_wp2;go_ret;exact⟨rfl,H.out.1,H.out.2⟩
theorem zmj (a:ByteArray) (w:zA):zC zF 151 #[.string a] w λe w'=>e=.returned (.func (.func 225) #[] #[.pointer (some ⟨w.heap.size,0,none⟩)])/\zB w.heap.size w w'/\w'.cell? ⟨w.heap.size,0,none⟩=some (.string a):=by
 have h1:qL w (w.alloc (.cells #[.string a] 30)):=(zM _ w).alloc (zN _) _;have h2:(w.alloc (.cells #[.string a] 30)).cell? ⟨w.heap.size,0,none⟩=some (.string a):=by rw[zJ (zG w _)];rfl
 have H:=hid (⟨h1,h2⟩:_/\_);clear h1 h2;go_enter Tryz.func151,Tryz.ntmps151;go_wp2;go_ret;exact⟨rfl,H.out.1,H.out.2⟩
theorem zwv (w:zA):zC zF 86 #[] w λe w'=>∃g,e=.returned (.slice (some ⟨g,0,none⟩) 6 6)/\zB w.heap.size w w'/\RowsQ g w':=by
 have B0:=hid (zM w.heap.size w);go_enter Tryz.func86,Tryz.ntmps86;go_wp21;refine(zeg ⟨#[49]⟩ w).mono ?_;rintro e w1 ⟨rfl,hb,k⟩;have B1:=hid (B0.out.trans (hb.mono B0.out.size));have K1:=hid k;clear hb k B0;go_wp21;refine(zeg ⟨#[50]⟩ w1).mono ?_;rintro e w2 ⟨rfl,hb,k⟩;have B2:=hid (B1.out.trans (hb.mono B1.out.size));have K2:=hid k;replace K1:=hid (zai hb K1.out);clear hb k B1;go_wp21;refine(zeg ⟨#[49]⟩ w2).mono ?_;rintro e w3 ⟨rfl,hb,k⟩;have B3:=hid (B2.out.trans (hb.mono B2.out.size));have K3:=hid k;replace K1:=hid (zai hb K1.out);replace K2:=hid (zai hb K2.out);clear hb k B2;go_wp21;refine(zeg ⟨#[49]⟩ w3).mono ?_;rintro e w4 ⟨rfl,hb,k⟩;have B4:=hid (B3.out.trans (hb.mono B3.out.size));have K4:=hid k;replace K1:=hid (zai hb K1.out);replace K2:=hid (zai hb K2.out);replace K3:=hid (zai hb K3.out);clear hb k B3;go_wp21;refine(zmj ⟨#[49]⟩ w4).mono ?_;rintro e w5 ⟨rfl,hb,k⟩;have B5:=hid (B4.out.trans (hb.mono B4.out.size));have K5:=hid k;replace K1:=hid (zai hb K1.out);replace K2:=hid (zai hb K2.out);replace K3:=hid (zai hb K3.out);replace K4:=hid (zai hb K4.out);clear hb k B4;go_wp21;refine(zmj ⟨#[50]⟩ w5).mono ?_;rintro e w6 ⟨rfl,hb,k⟩;have B6:=hid (B5.out.trans (hb.mono B5.out.size));have K6:=hid k;replace K1:=hid (zai hb K1.out);replace K2:=hid (zai hb K2.out);replace K3:=hid (zai hb K3.out);replace K4:=hid (zai hb K4.out);replace K5:=hid (zai hb K5.out);clear hb k B5;have n0:=w.heap.size;obtain⟨b1,h1⟩:=zzX w.heap.size;obtain⟨b2,h2⟩:=zzX w1.heap.size
 obtain⟨b3,h3⟩:=zzX w2.heap.size;obtain⟨b4,h4⟩:=zzX w3.heap.size;obtain⟨b5,h5⟩:=zzX w4.heap.size;obtain⟨b6,h6⟩:=zzX w5.heap.size;rw[<-h1] at K1;rw[<-h2] at K2;rw[<-h3] at K3;rw[<-h4] at K4;rw[<-h5] at K5;rw[<-h6] at K6;obtain⟨c,hc⟩:=zzX ( #[.string ⟨#[49,50]⟩,.func (.func 224) #[] #[.pointer (some ⟨b1,0,none⟩)],.string ⟨#[49,50]⟩,.func (.func 224) #[] #[.pointer (some ⟨b2,0,none⟩)],.string ⟨#[49,54]⟩,.func (.func 224) #[] #[.pointer (some ⟨b3,0,none⟩)],.string ⟨#[50,52]⟩,.func (.func 224) #[] #[.pointer (some ⟨b4,0,none⟩)],.string ⟨#[49,50]⟩,.func (.func 225) #[] #[.pointer (some ⟨b5,0,none⟩)],.string ⟨#[49,50]⟩,.func (.func 225) #[] #[.pointer (some ⟨b6,0,none⟩)]]:Array Value);obtain⟨v6,hv⟩:=zzX (w6.alloc (.cells c 137));have a6:qL w6 v6:=by rw[hv];exact(zM _ w6).alloc (zN _) _
 have A6:v6.heap[w6.heap.size]? =some (.cells c 137 (0,0)):=by rw[hv];exact zG w6 _
 have hq:RowsQ w6.heap.size v6:=⟨λi hi=>by
  have cc:=λo u (hu:c[o]? =some u)=>(show v6.cell? ⟨w6.heap.size,o,none⟩=some u by rw[zJ A6];exact hu)
  match i,hi with
  |0,_=>exact⟨b1,cc _ _ (by rw[hc];rfl),cc _ _ (by rw[hc];rfl),zai a6 K1.out⟩
  |1,_=>exact⟨b2,cc _ _ (by rw[hc];rfl),cc _ _ (by rw[hc];rfl),zai a6 K2.out⟩
  |2,_=>exact⟨b3,cc _ _ (by rw[hc];rfl),cc _ _ (by rw[hc];rfl),zai a6 K3.out⟩
  |3,_=>exact⟨b4,cc _ _ (by rw[hc];rfl),cc _ _ (by rw[hc];rfl),zai a6 K4.out⟩
  |4,_=>exact⟨b5,cc _ _ (by rw[hc];rfl),cc _ _ (by rw[hc];rfl),zai a6 K5.out⟩
  |5,_=>exact⟨b6,cc _ _ (by rw[hc];rfl),cc _ _ (by rw[hc];rfl),zai a6 K6.out⟩⟩
 have HQ:=hid (⟨B6.out.trans (a6.mono B6.out.size),hq⟩:_/\_);rw[h1,h2,h3,h4,h5,h6] at hc;rw[hc] at hv;have HV:=hid hv.symm;clear hv hc hq a6 A6 h1 h2 h3 h4 h5 h6 n0 K1 K2 K3 K4 K5 K6 B6;go_wp21;rw[HV.out];go_ret;exact⟨_,rfl,HQ.out.1,HQ.out.2⟩
theorem zub (p:ByteArray) (sq u:List UInt8) (N:Int) (X Y:Nat->List UInt8) (L:Nat->List (Rat×Nat)) (hz:(p.toList==[48])=false) (h0:0<p.size) (hb0:(((p[0]'h0).toNat:Int)==45)=false) (w:zA)
 (CK:Hid (∀W:zA,qL w W->qJ 54 #[.string p] W (.int .i64 0)))
 (UN:Hid (∀W:zA,qL w W->qJ 85 #[.int .i64 N] W (.tuple #[St u,.bool true])))
 (MU:Hid (∀W:zA,qL w W->qJ 11 #[.string p,.string p] W (.tuple #[St sq,.int .i64 0])))
 (FN:Hid (∀i,i<6->∀(W:zA) (b:Nat),qL w W->W.cell? ⟨b,0,none⟩=some (.string (rowA i))->zC zF (rowG i) #[St sq,.pointer (some ⟨b,0,none⟩)] W λe w'=>e=.returned (.tuple #[St (X i),.int .i64 0])/\zB W.heap.size W w'))
 (MK:Hid (∀i,i<6->∀(W:zA) (a:Nat),qL w W->W.cell? ⟨a,0,none⟩=some (.string (rowF i))->W.cell? ⟨a,1,none⟩=some (St (X i))->zC zF 13 #[.slice (some ⟨a,0,none⟩) 1 1] W λe w'=>∃q k c,e=.returned (.tuple #[.slice q k c,.int .i64 0])/\zB W.heap.size W w'/\SdL (.slice q k c) (L i) w'))
 (NR:Hid (∀i,i<6->∀(W:zA) (v:Value),qL w W->SdL v (L i) W->qJ 87 #[v,St u] W (.tuple #[St (Y i),.int .i64 0]))):
 zC zF 29 #[.string p,.int .i64 N] w λe w'=>∃g c,e=.returned (.tuple #[.slice (some ⟨g,0,none⟩) 6 c,.int .i64 0])/\zB w.heap.size w w'/\w'.cell? ⟨g,0,none⟩=some (St (Y 0)):=by
 obtain⟨i0,hi,hz0,hz1,hz2⟩:=info_parts z0p;have EG:Hid (∀i,∀args w,(callFunc (rowG i) args).run zF w=.ok (.enter (rowG i) args) w):=hid λi=>by
  unfold rowG;split
  ·exact enters_of Tryz.func224 (by kernel_rfl) rfl
  ·exact enters_of Tryz.func225 (by kernel_rfl) rfl
 have D0:=hid (zM w.heap.size w);go_enter Tryz.func29,Tryz.ntmps29;go_wp21;refine zzM (CK.out w D0.out) λw1 hb=>?_;have B1:=hid (D0.out.trans (hb.mono D0.out.size));clear hb D0 CK;go_wp21;refine zzM (UN.out w1 B1.out) λw2 hb=>?_;have B2:=hid (B1.out.trans (hb.mono B1.out.size));clear hb B1 UN;go_wp21;clear hz hb0;refine zzM (MU.out w2 B2.out) λw3 hb=>?_;have B3:=hid (B2.out.trans (hb.mono B2.out.size));clear hb B2 MU;go_wp21;refine(zwv w3).mono ?_;rintro e w4 ⟨g,rfl,hb,hr⟩;have B4:=hid (B3.out.trans (hb.mono B3.out.size));have R4:=hid hr;clear hb B3 hr;have O4:=hid (show w4.ownsRow w4.heap.size 30 1 (.slice none 0 0) 0 (((List.range 0).map Y).map St) from World.ownsRow_nil _ _ _ _);have D4:=hid (zM w4.heap.size w4);go_wp21;go_loopw [11,50] (λv i wr=>∃(k:Nat) (q:Option Addr) (d:Nat),k<=6/\i=.int .i64 (k:Int)/\v=.slice q k d/\Hid (qL w4 wr)/\Hid (wr.ownsRow w4.heap.size 30 1 (.slice q k d) k (((List.range k).map Y).map St)))
  (λ_ i _=>6-(zL i).toNat)
 case atStart=>exact⟨0,none,0,by omega,rfl,rfl,D4,O4⟩
 case round=>
  clear D4 O4;obtain⟨k,q,d,hk,rfl,rfl,D1,O1⟩:=hrel;by_cases hlt:k<6
  ·obtain⟨b,c0,c1,c2⟩:=(R4.out.below D1.out).at_ k hlt
   have FK:=hid (FN.out k hlt);have MK1:=hid (MK.out k hlt);have NR1:=hid (NR.out k hlt);have EG1:=hid (EG.out k);have HS:=hid (show((List.range (k+1)).map Y).map St=((List.range k).map Y).map St++[St (Y k)] by rw[List.range_succ];simp);generalize rowF k=f at*
   generalize rowG k=G at*
   generalize rowA k=a at*
   generalize X k=x at*
   generalize Y k=y at*
   generalize L k=l at*
   obtain⟨v1,hv⟩:=zzX (wr.alloc (.cells #[.string f,.func (.func G) #[] #[.pointer (some ⟨b,0,none⟩)]] 137));have a1:qL wr v1:=by rw[hv];exact(zM _ wr).alloc (zN _) _
   have A1:v1.heap[wr.heap.size]? =some (.cells #[.string f,.func (.func G) #[] #[.pointer (some ⟨b,0,none⟩)]] 137 (0,0)):=by rw[hv];exact zG wr _
   have k1:v1.cell? ⟨wr.heap.size,1,none⟩=some (.func (.func G) #[] #[.pointer (some ⟨b,0,none⟩)]):=by rw[zJ A1];rfl
   have E1:=hid (D1.out.trans (a1.mono D1.out.size));have HF:=hid (FK.out v1 b (B4.out.trans (E1.out.mono B4.out.size)) (zai a1 c2));rw[hv] at k1;have HV1:=hid hv.symm;have A2:=hid A1;have O2:=hid (zcj (zac a1) O1.out);have heg:=EG1.out;clear hv a1 A1 O1 c2;go_wp21;rw[HV1.out];clear c0 c1 k1 HV1 heg;refine zzM HF.out λu1 hb1=>?_;have E2:=hid (E1.out.trans (hb1.mono E1.out.size));have O3:=hid (zcj (zac hb1) O2.out);have k0:u1.cell? ⟨wr.heap.size,0,none⟩=some (.string f):=by rw[zJ (zac hb1 _ _ _ _ A2.out)];rfl
   obtain⟨v2,hv⟩:=zzX (u1.alloc (.cells #[.string f,St x] 37));have a2:qL u1 v2:=by rw[hv];exact(zM _ u1).alloc (zN _) _
   have A3:v2.heap[u1.heap.size]? =some (.cells #[.string f,St x] 37 (0,0)):=by rw[hv];exact zG u1 _
   have E3:=hid (E2.out.trans (a2.mono E2.out.size));have HM:=hid (MK1.out v2 u1.heap.size (B4.out.trans (E3.out.mono B4.out.size)) (by rw[zJ A3];rfl) (by rw[zJ A3];rfl));replace O3:=hid (zcj (zac a2) O3.out);have HV2:=hid hv.symm;clear hb1 E1 O2 A2 HF hv a2 A3 MK1;go_wp21;rw[HV2.out];clear HV2 k0;refine HM.out.mono ?_;rintro e u2 ⟨q2,k2,c2,rfl,hb,hs⟩;have E4:=hid (E3.out.trans (hb.mono E3.out.size));have S4:=hid hs;have O4:=hid (zcj (zac hb) O3.out);clear hb hs E3 O3 HM E2;go_wp21;refine zzM (NR1.out u2 _ (B4.out.trans (E4.out.mono B4.out.size)) S4.out) λu3 hb=>?_;have E5:=hid (E4.out.trans (hb.mono E4.out.size));have O5:=hid (zcj (zac hb) O4.out);clear hb E4 O4 S4 NR1;go_wp2_with (at_builtin;refine wpList_append_own _ rfl _ _ 53 rfl w4.heap.size 30 i0 (St []) 1 16 Tryz.underlying53 hi hz0 hz1 hz2 rfl (by decide) _ _ _ rfl (O5.out.alloc _) ⟨u3.heap.size,0,none⟩ 1 1 [St y] rfl rfl (zep _ _ _) (zyg _) (by unfold maxLen;omega) (by omega) (by have:=E5.out.size;simp;omega) (λv' w' hown' hgrow _=>?_));obtain⟨g',c',rfl, -, -⟩:=zye hown' (by omega);have F1:Hid (qL w4 w'):=hid ((E5.out.alloc E5.out.size _).grown hgrow (by have:=E5.out.size;simp;omega) (λq e=>(O5.out.lt q e).1));have G1:Hid (w'.ownsRow w4.heap.size 30 1 (.slice (some ⟨g',0,none⟩) (k+1) c') (k+1) (((List.range (k+1)).map Y).map St)):=hid (by rw[HS.out];exact hown');clear hgrow hown' E5 O5;go_roundw
   case rel=>exact⟨k+1,some ⟨g',0,none⟩,c',by omega,by go_num,rfl,F1,G1⟩
   case measure=>simp[zL];omega
  ·have hkn:k=6:=by omega
   subst hkn;go_wp21;go_ret2;obtain⟨g',c',e1, -,hx⟩:=zye O1.out (by omega);injection e1 with e1 e2 e3;subst e1;exact⟨g',_,rfl,B4.out.trans (D1.out.mono B4.out.size),hx 0 _ rfl⟩
end
section
open Go.RowKit Go.Shelf Lib Str Limb
attribute [local go_sem] Oper.semAt_some
def za2 (X Y Z:ByteArray):Value:=.agg #[.int .i64 1,.int .i64 0,.int .i64 (-1),.string ⟨#[48]⟩,.string ⟨#[48]⟩,.string ⟨#[48]⟩,.string X,.string Y,.string Z,.int .i64 60,.int .i64 180]
theorem zhg (X Y Z:ByteArray) (w:zA):qJ 31 #[.string X,.string Y,.string Z] w (za2 X Y Z):=by
 go_enter Tryz.func31,Tryz.ntmps31;go_wp21;exact bodyPost_ret (v:=za2 X Y Z) (by simp[results,Tryz.results31,go_sem,za2]) rfl ⟨rfl,(zM _ w).alloc (zN _) _⟩
theorem zlw (w:zA)
 (LE:Hid (∀W:zA,qL w W->zC zF 30 #[za2 ⟨#[52]⟩ ⟨#[48]⟩ ⟨#[51]⟩] W λe w'=>∃b c,e=.returned (.tuple #[.slice (some ⟨b,0,none⟩) 1 c,.int .i64 0])/\zB W.heap.size W w'/\w'.cell? ⟨b,0,none⟩=some (.string ⟨#[53]⟩)/\w'.cell? ⟨b,1,none⟩=some (.string ⟨#[49]⟩)))
 (SH:Hid (∀(W:zA) (v:Value),qL w W->SdL v [(mkRat 3 4,1)] W->qJ 24 #[v,.int .i64 12] W (.tuple #[.string ⟨#[57]⟩,.int .i64 0])))
 (ST:Hid (∀W:zA,qL w W->qJ 84 #[za2 ⟨#[52]⟩ ⟨#[48]⟩ ⟨#[51]⟩,.string ⟨#[51]⟩] W (.tuple #[.int .i64 1,.string ⟨#[49]⟩,.int .i64 0]))):
 qJ 28 #[] w (.bool true):=by
 have D0:=hid (zM w.heap.size w);have M0:=hid (zhg ⟨#[52]⟩ ⟨#[48]⟩ ⟨#[51]⟩);generalize za2 ⟨#[52]⟩ ⟨#[48]⟩ ⟨#[51]⟩=m at*
 go_enter Tryz.func28,Tryz.ntmps28;go_wp21;refine zzM (M0.out w) λw1 hb=>?_;have D1:=hid (D0.out.trans (hb.mono D0.out.size));clear hb D0;go_wp21;refine(LE.out w1 D1.out).mono ?_;rintro e w2 ⟨b,c,rfl,hb,c0,c1⟩;have D2:=hid (D1.out.trans (hb.mono D1.out.size));have C0:=hid c0;have C1:=hid c1;clear hb c0 c1 D1 LE;obtain⟨v2,hv⟩:=zzX (w2.alloc (.cells #[.string ⟨#[51,47,52]⟩,.string ⟨#[49]⟩] 37));have d1:St (zD 1)=.string ⟨#[49]⟩:=by rw[zae (by omega)];rfl
 have hl:=SdL.laid w2 (mkRat 3 4) 1 ⟨#[51,47,52]⟩ ⟨#[49]⟩ (by rw[show numS (mkRat 3 4)=[51,47,52] by decide+kernel]<;>rfl) d1 v2 hv;have a1:qL w2 v2:=by rw[hv];exact(zM _ w2).alloc (zN _) _
 have E2:=D2.out.trans (a1.mono D2.out.size);have HS:=hid (SH.out v2 _ E2 hl);have HV:=hid hv.symm;have D3:=hid E2;replace C0:=hid (zai a1 C0.out);replace C1:=hid (zai a1 C1.out);clear hv a1 hl E2 SH D2;go_wp21;have h9:=HV.out;rw[h9];clear h9 HV;refine zzM HS.out λw3 hb=>?_;have D4:=hid (D3.out.trans (hb.mono D3.out.size));replace C0:=hid (zai hb C0.out);replace C1:=hid (zai hb C1.out);clear hb D3 HS;go_wp21;refine zzM (M0.out w3) λw4 hb=>?_;have D5:=hid (D4.out.trans (hb.mono D4.out.size));replace C0:=hid (zai hb C0.out);replace C1:=hid (zai hb C1.out);clear hb D4 M0;go_wp21;refine zzM (ST.out w4 D5.out) λw5 hb=>?_;have D6:=hid (D5.out.trans (hb.mono D5.out.size));have c0:=zai hb C0.out;have c1:=zai hb C1.out;clear hb D5 ST C0 C1;go_wp21;go_ret;exact⟨rfl,D6.out⟩
structure Mb (X Y Z:ByteArray) (b:Nat) (W:zA):Prop where
 h:W.heap[b]? =some (.cells #[.int .i64 1,.int .i64 0,.int .i64 (-1),.string ⟨#[48]⟩,.string ⟨#[48]⟩,.string ⟨#[48]⟩,.string X,.string Y,.string Z,.int .i64 60,.int .i64 180] 60 (0,0))
theorem Mb.below {X Y Z:ByteArray} {b:Nat} {W W':zA} (h:Mb X Y Z b W) (hb:qL W W'):Mb X Y Z b W':=⟨zac hb _ _ _ _ h.h⟩
theorem Mb.cells {X Y Z:ByteArray} {b:Nat} {W:zA} (h:Mb X Y Z b W):W.cell? ⟨b,0,none⟩=some (.int .i64 1)/\W.cell? ⟨b,1,none⟩=some (.int .i64 0)/\W.cell? ⟨b,2,none⟩=some (.int .i64 (-1))/\W.cell? ⟨b,3,none⟩=some (.string ⟨#[48]⟩)/\W.cell? ⟨b,4,none⟩=some (.string ⟨#[48]⟩)/\W.cell? ⟨b,5,none⟩=some (.string ⟨#[48]⟩)/\
 W.cell? ⟨b,6,none⟩=some (.string X)/\W.cell? ⟨b,7,none⟩=some (.string Y)/\W.cell? ⟨b,8,none⟩=some (.string Z)/\W.cell? ⟨b,9,none⟩=some (.int .i64 60)/\W.cell? ⟨b,10,none⟩=some (.int .i64 180):=by
 have c:=λo u (hu:(#[.int .i64 1,.int .i64 0,.int .i64 (-1),.string ⟨#[48]⟩,.string ⟨#[48]⟩,.string ⟨#[48]⟩,.string X,.string Y,.string Z,.int .i64 60,.int .i64 180]:Array Value)[o]? =some u)=>(show W.cell? ⟨b,o,none⟩=some u by rw[zJ h.h];exact hu);exact⟨c 0 _ rfl,c 1 _ rfl,c 2 _ rfl,c 3 _ rfl,c 4 _ rfl,c 5 _ rfl,c 6 _ rfl,c 7 _ rfl,c 8 _ rfl,c 9 _ rfl,c 10 _ rfl⟩
theorem zly (q f g l:List UInt8) (w:zA)
 (CK:Hid (∀W:zA,qL w W->qJ 146 #[za2 ⟨#[52]⟩ ⟨#[48]⟩ ⟨#[51]⟩] W (.int .i64 0)))
 (RC:Hid (∀W:zA,qL w W->qJ 54 #[.string ⟨#[51]⟩] W (.int .i64 0)))
 (RU:Hid (∀W:zA,qL w W->zC zF 147 #[za2 ⟨#[52]⟩ ⟨#[48]⟩ ⟨#[51]⟩] W λe w'=>∃b c,e=.returned (.tuple #[.slice (some ⟨b,0,none⟩) 1 c,.int .i64 0])/\zB W.heap.size W w'/\
   ∀V:zA,qL w' V->zC zF 68 #[.slice (some ⟨b,0,none⟩) 1 c] V λe v'=>e=.returned (.tuple #[.string ⟨#[52]⟩,.bool true,.int .i64 0])/\zB V.heap.size V v'))
 (DV:Hid (∀W:zA,qL w W->qJ 101 #[.string ⟨#[52]⟩,.string ⟨#[51]⟩] W (.tuple #[St q,.int .i64 0])))
 (FL:Hid (∀W:zA,qL w W->qJ 148 #[St q] W (.tuple #[St f,.int .i64 0])))
 (IN:Hid (∀W:zA,qL w W->qJ 149 #[St f] W (.tuple #[.int .i64 1,.int .i64 0])))
 (MU:Hid (∀W:zA,qL w W->qJ 11 #[St f,.string ⟨#[51]⟩] W (.tuple #[St g,.int .i64 0])))
 (SB:Hid (∀W:zA,qL w W->qJ 10 #[.string ⟨#[52]⟩,St g] W (.tuple #[St l,.int .i64 0]))):
 qJ 84 #[za2 ⟨#[52]⟩ ⟨#[48]⟩ ⟨#[51]⟩,.string ⟨#[51]⟩] w (.tuple #[.int .i64 1,St l,.int .i64 0]):=by
 obtain⟨v1,hv⟩:=zzX (w.alloc (.cells #[.int .i64 1,.int .i64 0,.int .i64 (-1),.string ⟨#[48]⟩,.string ⟨#[48]⟩,.string ⟨#[48]⟩,.string ⟨#[52]⟩,.string ⟨#[48]⟩,.string ⟨#[51]⟩,.int .i64 60,.int .i64 180] 60));have a1:qL w v1:=by rw[hv];exact(zM _ w).alloc (zN _) _
 have m1:Mb ⟨#[52]⟩ ⟨#[48]⟩ ⟨#[51]⟩ w.heap.size v1:=⟨by rw[hv];exact zG w _⟩;have HV:=hid hv.symm;have B0:=hid a1;have M0:=hid m1;obtain⟨k0,k1,k2,k3,k4,k5,k6,k7,k8,k9,k10⟩:=m1.cells;rw[hv] at k0 k1 k2 k3 k4 k5 k6 k7 k8 k9 k10;clear hv a1 m1;unfold za2 at CK RU⊢;go_enter Tryz.func84,Tryz.ntmps84;go_wp21;rw[HV.out];clear k0 k1 k2 k3 k4 k5 k6 k7 k8 k9 k10 HV;refine zzM (CK.out v1 B0.out) λw1 hb=>?_;have B1:=hid (B0.out.trans (hb.mono B0.out.size));have M1:=hid (M0.out.below hb);clear hb B0 M0 CK;go_wp21;refine zzM (RC.out w1 B1.out) λw2 hb=>?_;have B2:=hid (B1.out.trans (hb.mono B1.out.size));have M2:=hid (M1.out.below hb);clear hb B1 M1 RC;obtain⟨k0,k1,k2,k3,k4,k5,k6,k7,k8,k9,k10⟩:=M2.out.cells;go_wp21;clear k0 k1 k2 k3 k4 k5 k6 k7 k8 k9 k10 M2;refine(RU.out w2 B2.out).mono ?_;rintro e w3 ⟨b,c,rfl,hb,hv⟩;have B3:=hid (B2.out.trans (hb.mono B2.out.size));have V3:=hid (hv w3 (zM _ _));clear hb B2 RU hv;go_wp21;refine zzM V3.out λw4 hb=>?_;have B4:=hid (B3.out.trans (hb.mono B3.out.size));clear hb B3 V3;go_wp21;refine zzM (DV.out w4 B4.out) λw5 hb=>?_;have B5:=hid (B4.out.trans (hb.mono B4.out.size));clear hb B4 DV;go_wp21;refine zzM (FL.out w5 B5.out) λw6 hb=>?_;have B6:=hid (B5.out.trans (hb.mono B5.out.size));clear hb B5 FL;go_wp21;refine zzM (IN.out w6 B6.out) λw7 hb=>?_;have B7:=hid (B6.out.trans (hb.mono B6.out.size));clear hb B6 IN;go_wp21;refine zzM (MU.out w7 B7.out) λw8 hb=>?_;have B8:=hid (B7.out.trans (hb.mono B7.out.size));clear hb B7 MU;go_wp21
 refine zzM (SB.out w8 B8.out) λw9 hb=>?_;have B9:=hid (B8.out.trans (hb.mono B8.out.size));clear hb B8 SB;go_wp21;go_ret3;exact⟨rfl,B9.out⟩
end
section
open Go.RowKit Go.Shelf Lib Str Limb Geo
attribute [local go_sem] Oper.semAt_some
structure TtlQ (w:zA) (A B K N:Int) (p t way up sh own most:List UInt8) (l:List (Rat×Nat)):Prop where
 o1:∀W:zA,qL w W->qJ 22 #[.int .i64 A,.int .i64 B] W (.tuple #[St p,.int .i64 0])
 tb:∀W:zA,qL w W->zC zF 29 #[St p,.int .i64 N] W λe w'=>∃g c,e=.returned (.tuple #[.slice (some ⟨g,0,none⟩) 6 c,.int .i64 0])/\zB W.heap.size W w'/\w'.cell? ⟨g,0,none⟩=some (St t)
 ow:∀W:zA,qL w W->qJ 26 #[.int .i64 K,.int .i64 1] W (.tuple #[St way,.int .i64 0])
 mu:∀W:zA,qL w W->qJ 11 #[St way,St p] W (.tuple #[St up,.int .i64 0])
 le:∀W:zA,qL w W->zC zF 30 #[za2 ⟨way.toArray⟩ ⟨#[48]⟩ ⟨up.toArray⟩] W λe w'=>∃b c,e=.returned (.tuple #[.slice (some ⟨b,0,none⟩) 1 c,.int .i64 0])/\zB W.heap.size W w'/\SdL (.slice (some ⟨b,0,none⟩) 1 c) l w'
 hs:∀W:zA,qL w W->qJ 26 #[.int .i64 K,.int .i64 12] W (.tuple #[St sh,.int .i64 0])
 mw:∀W:zA,qL w W->qJ 11 #[St t,St sh] W (.tuple #[St own,.int .i64 0])
 mo:∀W:zA,qL w W->qJ 26 #[.int .i64 K,.int .i64 (24*N)] W (.tuple #[St most,.int .i64 0])
 wi:∀(W:zA) (v:Value),qL w W->SdL v l W->qJ 32 #[v,St own,St most] W (.tuple #[.bool true,.int .i64 0])
 rc:∀W:zA,qL w W->qJ 33 #[St own] W (.int .i64 0)
 aw:∀W:zA,qL w W->qJ 28 #[] W (.bool true)
theorem zs6 (a b c n:Nat) (ha:a<256) (hb:b<256) (hc:c<256) (hn:n<256) (p t way up sh own most:List UInt8) (l:List (Rat×Nat)) (w:zA)
 (HQ:Hid (TtlQ w ((1+a%48:Nat):Int) ((1+b%48:Nat):Int) ((1+c:Nat):Int) ((1+n%64:Nat):Int) p t way up sh own most l)):
 qJ 6 #[.int .u8 (a:Int),.int .u8 (b:Int),.int .u8 (c:Int),.int .u8 (n:Int)] w (.bool true):=by
 have e1:∀k:Nat,k<256->wrap64 (1+(wrap64 (k:Int)).tmod 48)=((1+k%48:Nat):Int):=λk hk=>by
  have w1:wrap64 (k:Int)=k:=by unfold wrap64;omega
  have w2:(k:Int).tmod 48=((k%48:Nat):Int):=by rw[Int.tmod_eq_emod_of_nonneg (by omega)];omega
  rw[w1,w2];have:k%48<48:=Nat.mod_lt _ (by omega);unfold wrap64;omega
 have e2:∀k:Nat,k<256->wrap64 (1+(wrap64 (k:Int)).tmod 64)=((1+k%64:Nat):Int):=λk hk=>by
  have w1:wrap64 (k:Int)=k:=by unfold wrap64;omega
  have w2:(k:Int).tmod 64=((k%64:Nat):Int):=by rw[Int.tmod_eq_emod_of_nonneg (by omega)];omega
  rw[w1,w2];have:k%64<64:=Nat.mod_lt _ (by omega);unfold wrap64;omega
 have e3:wrap64 (1+wrap64 (c:Int))=((1+c:Nat):Int):=by
  have w1:wrap64 (c:Int)=c:=by unfold wrap64;omega
  rw[w1];unfold wrap64;omega
 have r2:wrap64 (24*((1+n%64:Nat):Int))=24*((1+n%64:Nat):Int):=by
  have:n%64<64:=Nat.mod_lt _ (by omega);unfold wrap64;omega
 have HE:=hid (⟨e1 a ha,e1 b hb,e2 n hn,e3⟩:_/\_/\_/\_);have HR:=hid r2;clear e1 e2 e3 r2 ha hb hc hn;have D0:=hid (zM w.heap.size w);go_enter Tryz.func6,Tryz.ntmps6;go_wp21
 try rw[HE.out.1,HE.out.2.1,HE.out.2.2.1,HE.out.2.2.2]
 clear HE;generalize ((1+a%48:Nat):Int)=A at*
 generalize ((1+b%48:Nat):Int)=B at*
 generalize ((1+c:Nat):Int)=K at*
 generalize ((1+n%64:Nat):Int)=N at*
 refine zzM (HQ.out.o1 w D0.out) λw1 hb=>?_;have B1:=hid (D0.out.trans (hb.mono D0.out.size));clear hb D0;go_wp21;refine(HQ.out.tb w1 B1.out).mono ?_;rintro e w2 ⟨g,c,rfl,hb,c00⟩;have B2:=hid (B1.out.trans (hb.mono B1.out.size));have C0:=hid c00;clear hb B1 c00;go_wp21;refine zzM (HQ.out.ow w2 B2.out) λw3 hb=>?_;have B3:=hid (B2.out.trans (hb.mono B2.out.size));replace C0:=hid (zai hb C0.out);clear hb B2;go_wp21;refine zzM (HQ.out.mu w3 B3.out) λw4 hb=>?_;have B4:=hid (B3.out.trans (hb.mono B3.out.size));replace C0:=hid (zai hb C0.out);clear hb B3;go_wp21;refine zzM (zhg ⟨way.toArray⟩ ⟨#[48]⟩ ⟨up.toArray⟩ w4) λw5 hb=>?_;have B5:=hid (B4.out.trans (hb.mono B4.out.size));replace C0:=hid (zai hb C0.out);clear hb B4;go_wp21;refine(HQ.out.le w5 B5.out).mono ?_;rintro e w6 ⟨b2,c2,rfl,hb,s10⟩;have B6:=hid (B5.out.trans (hb.mono B5.out.size));replace C0:=hid (zai hb C0.out);have S1:=hid s10;clear hb B5 s10;go_wp21;refine zzM (HQ.out.hs w6 B6.out) λw7 hb=>?_;have B7:=hid (B6.out.trans (hb.mono B6.out.size));replace C0:=hid (zai hb C0.out);replace S1:=hid (S1.out.below hb);clear hb B6;have mx6:∀w:zA,(Builtin.max_ #[27,27,27,27,27,27] 27 #[.int .i64 0,.int .i64 0,.int .i64 0,.int .i64 0,.int .i64 0,.int .i64 0]).run zF w=.ok (.int .i64 0) w:=λ_=>by kernel_rfl
 have c0:=C0.out;go_wp21;clear mx6 c0;refine zzM (HQ.out.mw w7 B7.out) λw8 hb=>?_;have B8:=hid (B7.out.trans (hb.mono B7.out.size));replace C0:=hid (zai hb C0.out);replace S1:=hid (S1.out.below hb);clear hb B7;go_wp21
 try rw[HR.out]
 refine zzM (HQ.out.mo w8 B8.out) λw9 hb=>?_;have B9:=hid (B8.out.trans (hb.mono B8.out.size));replace C0:=hid (zai hb C0.out);replace S1:=hid (S1.out.below hb);clear hb B8;go_wp21;refine zzM (HQ.out.wi w9 _ B9.out S1.out) λw10 hb=>?_;have B10:=hid (B9.out.trans (hb.mono B9.out.size));replace C0:=hid (zai hb C0.out);replace S1:=hid (S1.out.below hb);clear hb B9;have mx3:∀w:zA,(Builtin.max_ #[27,27,27] 27 #[.int .i64 0,.int .i64 0,.int .i64 0]).run zF w=.ok (.int .i64 0) w:=λ_=>by kernel_rfl
 go_wp21;clear mx3;refine zzM (HQ.out.rc w10 B10.out) λw11 hb=>?_;have B11:=hid (B10.out.trans (hb.mono B10.out.size));replace C0:=hid (zai hb C0.out);replace S1:=hid (S1.out.below hb);clear hb B10;go_wp21;refine zzM (HQ.out.aw w11 B11.out) λw12 hb=>?_;have B12:=hid (B11.out.trans (hb.mono B11.out.size));replace C0:=hid (zai hb C0.out);replace S1:=hid (S1.out.below hb);clear hb B11;go_wp21;go_ret;exact⟨rfl,B12.out⟩
end
section
open Go.RowKit Go.Shelf Lib Str Limb
attribute [local go_sem] Oper.semAt_some
theorem zda (n a b:Int) (h1:a<=n) (h2:n<=b) (w:zA):qJ 220 #[.int .i64 n,.int .i64 a,.int .i64 b] w (.bool false):=by
 have d1:decide (n<a)=false:=decide_eq_false (by omega);have d2:decide (b<n)=false:=decide_eq_false (by omega);have d3:¬n<a:=by omega
 have d4:¬b<n:=by omega
 go_enter Tryz.func220,Tryz.ntmps220;go_wp21;go_ret;exact⟨rfl,zM _ _⟩
theorem za4 {b:Nat} {W:zA} {x y z:Value} {t:TypeId} (h:W.heap[b]? =some (.cells #[x,y,z] t (0,0))):W.cell? ⟨b,0,none⟩=some x/\W.cell? ⟨b,1,none⟩=some y/\W.cell? ⟨b,2,none⟩=some z:=by
 refine⟨?_,?_,?_⟩<;>rw[zJ h]<;>rfl
theorem zgs {b:Nat} {W:zA} {x y z x' y' z':Value} {t:TypeId} (h:W.heap[b]? =some (.cells #[x,y,z,x',y',z'] t (0,0))):W.cell? ⟨b,0,none⟩=some x/\W.cell? ⟨b,1,none⟩=some y/\W.cell? ⟨b,2,none⟩=some z/\W.cell? ⟨b,3,none⟩=some x'/\W.cell? ⟨b,4,none⟩=some y'/\W.cell? ⟨b,5,none⟩=some z':=by
 refine⟨?_,?_,?_,?_,?_,?_⟩<;>rw[zJ h]<;>rfl
theorem zhi (X Y Z:ByteArray) (hX:(X.toList==[48])=false/\([48]==X.toList)=false) (w:zA)
 (V1:Hid (∀W:zA,qL w W->qJ 221 #[.agg #[.string ⟨#[48]⟩,.string ⟨#[48]⟩,.string ⟨#[48]⟩]] W (.int .i64 0)))
 (V2:Hid (∀W:zA,qL w W->qJ 221 #[.agg #[.string X,.string Y,.string Z]] W (.int .i64 0)))
 (L1:Hid (∀W:zA,qL w W->qJ 222 #[.agg #[.string ⟨#[48]⟩,.string ⟨#[48]⟩,.string ⟨#[48]⟩]] W (.bool false)))
 (L2:Hid (∀W:zA,qL w W->qJ 222 #[.agg #[.string X,.string Y,.string Z]] W (.bool false))):
 qJ 146 #[za2 X Y Z] w (.int .i64 0):=by
 have HX:=hid hX;clear hX;obtain⟨v1,hv⟩:=zzX (w.alloc (.cells #[.int .i64 1,.int .i64 0,.int .i64 (-1),.string ⟨#[48]⟩,.string ⟨#[48]⟩,.string ⟨#[48]⟩,.string X,.string Y,.string Z,.int .i64 60,.int .i64 180] 60));have a1:qL w v1:=by rw[hv];exact(zM _ w).alloc (zN _) _
 have m1:Mb X Y Z w.heap.size v1:=⟨by rw[hv];exact zG w _⟩;have HV:=hid hv.symm;have B0:=hid a1;have M0:=hid m1;obtain⟨k0,k1,k2,k3,k4,k5,k6,k7,k8,k9,k10⟩:=m1.cells;rw[hv] at k0;clear hv a1 m1 k1 k2 k3 k4 k5 k6 k7 k8 k9 k10;unfold za2;go_enter Tryz.func146,Tryz.ntmps146;go_wp21;rw[HV.out];clear k0 HV;refine zzM (zda 1 1 12 (by omega) (by omega) v1) λw1 hb=>?_;have B1:=hid (B0.out.trans (hb.mono B0.out.size));have M1:=hid (M0.out.below hb);clear hb B0 M0;obtain⟨k0,k1,k2,k3,k4,k5,k6,k7,k8,k9,k10⟩:=M1.out.cells;go_wp21;clear k0 k1 k2 k3 k4 k5 k6 k7 k8 k9 k10;refine zzM (zda 60 1 1000 (by omega) (by omega) w1) λw2 hb=>?_;have B2:=hid (B1.out.trans (hb.mono B1.out.size));have M2:=hid (M1.out.below hb);clear hb B1 M1;obtain⟨k0,k1,k2,k3,k4,k5,k6,k7,k8,k9,k10⟩:=M2.out.cells;go_wp21;clear k0 k1 k2 k3 k4 k5 k6 k7 k8 k9 k10;refine zzM (zda 180 1 1000 (by omega) (by omega) w2) λw3 hb=>?_;have B3:=hid (B2.out.trans (hb.mono B2.out.size));have M3:=hid (M2.out.below hb);clear hb B2 M2;obtain⟨k0,k1,k2,k3,k4,k5,k6,k7,k8,k9,k10⟩:=M3.out.cells;obtain⟨v3,hv⟩:=zzX (w3.alloc (.cells #[.string ⟨#[48]⟩,.string ⟨#[48]⟩,.string ⟨#[48]⟩,.string X,.string Y,.string Z] 58));have a3:qL w3 v3:=by rw[hv];exact(zM _ w3).alloc (zN _) _
 have s3:v3.heap[w3.heap.size]? =some (.cells #[.string ⟨#[48]⟩,.string ⟨#[48]⟩,.string ⟨#[48]⟩,.string X,.string Y,.string Z] 58 (0,0)):=by rw[hv];exact zG w3 _
 have HV:=hid hv.symm;have B4:=hid (B3.out.trans (a3.mono B3.out.size));have M4:=hid (M3.out.below a3);have S4:=hid s3;clear hv a3 s3 B3 M3;go_wp21;rw[HV.out];clear k0 k1 k2 k3 k4 k5 k6 k7 k8 k9 k10 HV;refine wp_loop_rounds 3 ?_;rw[rounds_succ];obtain⟨v4,hv⟩:=zzX (v3.alloc (.cells #[.string ⟨#[48]⟩,.string ⟨#[48]⟩,.string ⟨#[48]⟩] 58));have a4:qL v3 v4:=by rw[hv];exact(zM _ v3).alloc (zN _) _
 obtain⟨t0,t1,t2⟩:=za4 (show v4.heap[v3.heap.size]? =some (.cells #[.string ⟨#[48]⟩,.string ⟨#[48]⟩,.string ⟨#[48]⟩] 58 (0,0)) by rw[hv];exact zG v3 _);obtain⟨s0,s1,s2,s3,s4,s5⟩:=zgs S4.out;have HV:=hid hv.symm;have B5:=hid (B4.out.trans (a4.mono B4.out.size));have M5:=hid (M4.out.below a4);have S5:=hid (zac a4 _ _ _ _ S4.out);rw[hv] at t0 t1 t2;clear hv a4 B4 M4 S4;go_wp21;rw[HV.out];clear t0 t1 t2 s0 s1 s2 s3 s4 s5 HV;refine zzM (V1.out v4 B5.out) λw5 hb=>?_;have B6:=hid (B5.out.trans (hb.mono B5.out.size));have M6:=hid (M5.out.below hb);have S6:=hid (zac hb _ _ _ _ S5.out);clear hb B5 M5 S5 V1;go_wp21;rw[rounds_succ];obtain⟨v6,hv⟩:=zzX (w5.alloc (.cells #[.string X,.string Y,.string Z] 58));have a6:qL w5 v6:=by rw[hv];exact(zM _ w5).alloc (zN _) _
 obtain⟨t0,t1,t2⟩:=za4 (show v6.heap[w5.heap.size]? =some (.cells #[.string X,.string Y,.string Z] 58 (0,0)) by rw[hv];exact zG w5 _);obtain⟨s0,s1,s2,s3,s4,s5⟩:=zgs S6.out;have HV:=hid hv.symm;have B7:=hid (B6.out.trans (a6.mono B6.out.size));have M7:=hid (M6.out.below a6);rw[hv] at t0 t1 t2;clear hv a6 B6 M6 S6;go_wp21;rw[HV.out];clear t0 t1 t2 s0 s1 s2 s3 s4 s5 HV;refine zzM (V2.out v6 B7.out) λw7 hb=>?_;have B8:=hid (B7.out.trans (hb.mono B7.out.size));have M8:=hid (M7.out.below hb);clear hb B7 M7 V2;go_wp21;rw[rounds_succ];obtain⟨k0,k1,k2,k3,k4,k5,k6,k7,k8,k9,k10⟩:=M8.out.cells;go_wp21;clear k0 k1 k2 k3 k4 k5 k6 k7 k8 k9 k10;refine zzM (L1.out w7 B8.out) λw8 hb=>?_;have B9:=hid (B8.out.trans (hb.mono B8.out.size));have M9:=hid (M8.out.below hb);clear hb B8 M8 L1;obtain⟨k0,k1,k2,k3,k4,k5,k6,k7,k8,k9,k10⟩:=M9.out.cells;go_wp21;clear k0 k1 k2 k3 k4 k5 k6 k7 k8 k9 k10;refine zzM (L2.out w8 B9.out) λw9 hb=>?_;have B10:=hid (B9.out.trans (hb.mono B9.out.size));have M10:=hid (M9.out.below hb);clear hb B9 M9 L2;obtain⟨k0,k1,k2,k3,k4,k5,k6,k7,k8,k9,k10⟩:=M10.out.cells;obtain⟨hX1,hX2⟩:=HX.out;go_wp21;go_ret;exact⟨rfl,B10.out⟩
theorem zny (a0 a1 a2 b0 b1 b2 c0 c1 c2:List UInt8) (w:zA)
 (BO:Hid (∀W:zA,qL w W->qJ 356 #[.agg #[St a0,St a1,St a2],.agg #[St b0,St b1,St b2]] W (.int .i64 0)))
 (WI:Hid (∀W:zA,qL w W->qJ 292 #[.agg #[St a0,St a1,St a2],.agg #[St b0,St b1,St b2],.func (.func 10) #[] #[]] W (.tuple #[.agg #[St c0,St c1,St c2],.int .i64 0]))):
 qJ 329 #[.agg #[St a0,St a1,St a2],.agg #[St b0,St b1,St b2]] w (.tuple #[.agg #[St c0,St c1,St c2],.int .i64 0]):=by
 obtain⟨v1,hv⟩:=zzX (((w.alloc (.cells #[St a0,St a1,St a2] 58)).alloc (.cells #[St b0,St b1,St b2] 58)).alloc (.cells #[St [],St [],St []] 58));obtain⟨b1,p1,p2,p3, -⟩:=zll hv;have HC:=hid (BO.out v1 b1);have B1:=hid b1;have P1:=hid p1;have P2:=hid p2;have P3:=hid p3;have HV:=hid hv.symm;obtain⟨d0,d1,d2, -, -, -⟩:=zah p1;obtain⟨d3,d4,d5, -, -, -⟩:=zah p2;rw[hv] at d0 d1 d2 d3 d4 d5;clear hv b1 BO p1 p2 p3;go_enter Tryz.func329,Tryz.ntmps329;go_wp21;have h9:=HV.out;rw[show((w.alloc (.cells #[.string ⟨a0.toArray⟩,.string ⟨a1.toArray⟩,.string ⟨a2.toArray⟩] 58)).alloc (.cells #[.string ⟨b0.toArray⟩,.string ⟨b1.toArray⟩,.string ⟨b2.toArray⟩] 58)).alloc (.cells #[.string ⟨#[]⟩,.string ⟨#[]⟩,.string ⟨#[]⟩] 58)=v1 from h9];clear h9 HV d0 d1 d2 d3 d4 d5;refine zzM HC.out λr0 hb=>?_;have hB:=B1.out.trans (hb.mono B1.out.size);have B2:=hid hB;have HD:=hid (WI.out r0 hB);obtain⟨d0,d1,d2, -, -, -⟩:=zah (zac hb _ _ _ _ P1.out);obtain⟨d3,d4,d5, -, -, -⟩:=zah (zac hb _ _ _ _ P2.out);have P4:=hid (zac hb _ _ _ _ P3.out);clear hb hB B1 WI HC P1 P2 P3;go_wp21;clear d0 d1 d2 d3 d4 d5;refine zzM HD.out λr2 hb=>?_;have B4:=hid (B2.out.trans (hb.mono B2.out.size));obtain⟨d0,d1,d2,z0,z1,z2⟩:=zah (zac hb _ _ _ _ P4.out);clear hb HD B2 P4;go_wp21
 exact bodyPost_ret (v:=.tuple #[.agg #[St c0,St c1,St c2],.int .i64 0]) (by simp[results,Tryz.results329,go_sem,d0,d1,d2]) rfl ⟨rfl,((B4.out.setCell (p:=⟨w.heap.size+1+1,0,none⟩) (by show _<=w.heap.size+1+1;omega) _).setCell (p:=⟨w.heap.size+1+1,1,none⟩) (by show _<=w.heap.size+1+1;omega) _).setCell (p:=⟨w.heap.size+1+1,2,none⟩) (by show _<=w.heap.size+1+1;omega) _⟩
theorem zn4 (X Y Z:ByteArray) (w:zA):qJ 290 #[.agg #[.string X,.string Y,.string Z]] w (.tuple #[.agg #[.string X,.string Y,.string Z],.int .i64 0]):=by
 obtain⟨v1,hv⟩:=zzX ((w.alloc (.cells #[.string X,.string Y,.string Z] 58)).alloc (.cells #[.string ⟨#[]⟩,.string ⟨#[]⟩,.string ⟨#[]⟩] 58));obtain⟨b1,p1,p2, -⟩:=zc8 hv;obtain⟨d0,d1,d2, -, -, -⟩:=zah p1;obtain⟨e0,e1,e2,z0,z1,z2⟩:=zah p2;have B1:=hid b1;have HV:=hid hv;rw[hv] at d0 d1 d2 e0 e1 e2 z0 z1 z2;clear hv b1 p1 p2;go_enter Tryz.func290,Tryz.ntmps290;go_wp21;have hB:=B1.out;rw[HV.out] at hB;refine bodyPost_ret (v:=.tuple #[.agg #[.string X,.string Y,.string Z],.int .i64 0]) (by simp[results,Tryz.results290,go_sem]) rfl ⟨rfl,?_⟩
 first
  |exact((zM _ w).alloc (zN _) _).alloc (by simp) _
  |(repeat(first|exact hB|refine Below.setCell ?_ (by simp) _))
theorem zmc (X Y Z:ByteArray) (w:zA)
 (CK:Hid (∀W:zA,qL w W->qJ 146 #[za2 X Y Z] W (.int .i64 0)))
 (SB:Hid (∀W:zA,qL w W->qJ 329 #[.agg #[.string X,.string Y,.string Z],.agg #[.string ⟨#[48]⟩,.string ⟨#[48]⟩,.string ⟨#[48]⟩]] W (.tuple #[.agg #[.string X,.string Y,.string Z],.int .i64 0]))):
 qJ 291 #[.agg #[.func (.func 290) #[] #[]],za2 X Y Z] w (.tuple #[.agg #[.string X,.string Y,.string Z],.int .i64 0]):=by
 obtain⟨x0,hx0⟩:=zzX (w.alloc (.cells #[.func (.func 290) #[] #[]] 318));have s0:x0.heap.size=w.heap.size+1:=by rw[hx0];simp
 have q0:qL w x0:=by rw[hx0];exact(zM _ w).alloc (zN _) _
 have f0:x0.heap[w.heap.size]? =some (.cells #[.func (.func 290) #[] #[]] 318 (0,0)):=by rw[hx0];exact zG w _
 obtain⟨x1,hx1⟩:=zzX (x0.alloc (.cells #[.int .i64 1,.int .i64 0,.int .i64 (-1),.string ⟨#[48]⟩,.string ⟨#[48]⟩,.string ⟨#[48]⟩,.string X,.string Y,.string Z,.int .i64 60,.int .i64 180] 60));have s1:x1.heap.size=x0.heap.size+1:=by rw[hx1];simp
 have q1:qL x0 x1:=by rw[hx1];exact(zM _ x0).alloc (zN _) _
 have f1:x1.heap[x0.heap.size]? =some (.cells #[.int .i64 1,.int .i64 0,.int .i64 (-1),.string ⟨#[48]⟩,.string ⟨#[48]⟩,.string ⟨#[48]⟩,.string X,.string Y,.string Z,.int .i64 60,.int .i64 180] 60 (0,0)):=by rw[hx1];exact zG x0 _
 obtain⟨x2,hx2⟩:=zzX (x1.alloc (.cells #[.string ⟨#[]⟩,.string ⟨#[]⟩,.string ⟨#[]⟩] 58));have s2:x2.heap.size=x1.heap.size+1:=by rw[hx2];simp
 have q2:qL x1 x2:=by rw[hx2];exact(zM _ x1).alloc (zN _) _
 have f2:x2.heap[x1.heap.size]? =some (.cells #[.string ⟨#[]⟩,.string ⟨#[]⟩,.string ⟨#[]⟩] 58 (0,0)):=by rw[hx2];exact zG x1 _
 obtain⟨x3,hx3⟩:=zzX (x2.alloc (.cells #[.string ⟨#[]⟩,.string ⟨#[]⟩,.string ⟨#[]⟩] 58));have s3:x3.heap.size=x2.heap.size+1:=by rw[hx3];simp
 have q3:qL x2 x3:=by rw[hx3];exact(zM _ x2).alloc (zN _) _
 have f3:x3.heap[x2.heap.size]? =some (.cells #[.string ⟨#[]⟩,.string ⟨#[]⟩,.string ⟨#[]⟩] 58 (0,0)):=by rw[hx3];exact zG x2 _
 have q23:=q2.trans (q3.mono q2.size);have q13:=q1.trans (q23.mono q1.size);have q03:=q0.trans (q13.mono q0.size);have B0:=hid q03;have F0:=hid (zac q13 _ _ _ _ f0);have M0:=hid (⟨zac q23 _ _ _ _ f1⟩:Mb X Y Z x0.heap.size x3);have R0:=hid (zac q3 _ _ _ _ f2);have Z0:=hid f3;rw[s0] at M0;rw[s1,s0] at R0;rw[s2,s1,s0] at Z0;have hall:x3=(((w.alloc (.cells #[.func (.func 290) #[] #[]] 318)).alloc (.cells #[.int .i64 1,.int .i64 0,.int .i64 (-1),.string ⟨#[48]⟩,.string ⟨#[48]⟩,.string ⟨#[48]⟩,.string X,.string Y,.string Z,.int .i64 60,.int .i64 180] 60)).alloc (.cells #[.string ⟨#[]⟩,.string ⟨#[]⟩,.string ⟨#[]⟩] 58)).alloc (.cells #[.string ⟨#[]⟩,.string ⟨#[]⟩,.string ⟨#[]⟩] 58):=by rw[hx3,hx2,hx1,hx0]
 have HV:=hid hall.symm;obtain⟨k0,k1,k2,k3,k4,k5,k6,k7,k8,k9,k10⟩:=M0.out.cells;rw[hall] at k0 k1 k2 k3 k4 k5 k6 k7 k8 k9 k10;clear hall hx0 hx1 hx2 hx3 s0 s1 s2 s3 q0 q1 q2 q3 f0 f1 f2 f3 q23 q13 q03;unfold za2 at CK⊢;go_enter Tryz.func291,Tryz.ntmps291;go_wp21;rw[HV.out];clear k0 k1 k2 k3 k4 k5 k6 k7 k8 k9 k10 HV;refine zzM (CK.out x3 B0.out) λw1 hb=>?_;have B1:=hid (B0.out.trans (hb.mono B0.out.size));have M1:=hid (M0.out.below hb);have F1:=hid (zac hb _ _ _ _ F0.out);have R1:=hid (zac hb _ _ _ _ R0.out);clear hb B0 M0 F0 R0 Z0 CK;obtain⟨k0,k1,k2,k3,k4,k5,k6,k7,k8,k9,k10⟩:=M1.out.cells;go_wp21;clear k0 k1 k2 k3 k4 k5 k6 k7 k8 k9 k10;refine zzM (SB.out w1 B1.out) λw2 hb=>?_;have B2:=hid (B1.out.trans (hb.mono B1.out.size));have F2:=hid (zac hb _ _ _ _ F1.out);have R2:=hid (zac hb _ _ _ _ R1.out);clear hb B1 M1 F1 R1 SB;obtain⟨v3,hv⟩:=zzX (w2.alloc (.cells #[.string X,.string Y,.string Z] 58));have a3:qL w2 v3:=by rw[hv];exact(zM _ w2).alloc (zN _) _
 obtain⟨t0,t1,t2⟩:=za4 (show v3.heap[w2.heap.size]? =some (.cells #[.string X,.string Y,.string Z] 58 (0,0)) by rw[hv];exact zG w2 _);have g0:v3.cell? ⟨w.heap.size,0,none⟩=some (.func (.func 290) #[] #[]):=by rw[zJ (zac a3 _ _ _ _ F2.out)];rfl
 have HV:=hid hv.symm;have B3:=hid (B2.out.trans (a3.mono B2.out.size));have R3:=hid (zac a3 _ _ _ _ R2.out);rw[hv] at t0 t1 t2 g0;clear hv a3 B2 F2 R2;go_wp21;rw[HV.out];clear t0 t1 t2 g0 HV;refine zzM (zn4 X Y Z v3) λw4 hb=>?_;have B4:=hid (B3.out.trans (hb.mono B3.out.size));obtain⟨e0,e1,e2,z0,z1,z2⟩:=zah (zac hb _ _ _ _ R3.out);clear hb B3 R3;go_wp21;have hB:=B4.out;refine bodyPost_ret (v:=.tuple #[.agg #[.string X,.string Y,.string Z],.int .i64 0]) (by simp[results,Tryz.results291,go_sem,e0,e1,e2]) rfl ⟨rfl,?_⟩
 repeat(first|exact hB|refine Below.setCell ?_ (by simp<;>omega) _)
theorem zlf (X Y Z:ByteArray) (w:zA)
 (QU:Hid (∀W:zA,qL w W->qJ 291 #[.agg #[.func (.func 290) #[] #[]],za2 X Y Z] W (.tuple #[.agg #[.string X,.string Y,.string Z],.int .i64 0]))):
 qJ 228 #[za2 X Y Z] w (.tuple #[.agg #[.string X,.string Y,.string Z],.int .i64 0]):=by
 obtain⟨x0,hx0⟩:=zzX (w.alloc (.cells #[.int .i64 1,.int .i64 0,.int .i64 (-1),.string ⟨#[48]⟩,.string ⟨#[48]⟩,.string ⟨#[48]⟩,.string X,.string Y,.string Z,.int .i64 60,.int .i64 180] 60));obtain⟨x1,hx1⟩:=zzX (x0.alloc (.cells #[.string ⟨#[]⟩,.string ⟨#[]⟩,.string ⟨#[]⟩] 58));have s0:x0.heap.size=w.heap.size+1:=by rw[hx0];simp
 have q0:qL w x0:=by rw[hx0];exact(zM _ w).alloc (zN _) _
 have q1:qL x0 x1:=by rw[hx1];exact(zM _ x0).alloc (zN _) _
 have m0:Mb X Y Z w.heap.size x0:=⟨by rw[hx0];exact zG w _⟩;have f1:x1.heap[w.heap.size+1]? =some (.cells #[.string ⟨#[]⟩,.string ⟨#[]⟩,.string ⟨#[]⟩] 58 (0,0)):=by rw[hx1,<-s0];exact zG x0 _
 have B0:=hid (q0.trans (q1.mono q0.size));have M0:=hid (m0.below q1);have R0:=hid f1;have hall:x1=(w.alloc (.cells #[.int .i64 1,.int .i64 0,.int .i64 (-1),.string ⟨#[48]⟩,.string ⟨#[48]⟩,.string ⟨#[48]⟩,.string X,.string Y,.string Z,.int .i64 60,.int .i64 180] 60)).alloc (.cells #[.string ⟨#[]⟩,.string ⟨#[]⟩,.string ⟨#[]⟩] 58):=by rw[hx1,hx0]
 have HV:=hid hall.symm;obtain⟨k0,k1,k2,k3,k4,k5,k6,k7,k8,k9,k10⟩:=M0.out.cells;rw[hall] at k0 k1 k2 k3 k4 k5 k6 k7 k8 k9 k10;clear hall hx0 hx1 s0 q0 q1 m0 f1;unfold za2 at*
 go_enter Tryz.func228,Tryz.ntmps228;go_wp21;rw[HV.out];clear k0 k1 k2 k3 k4 k5 k6 k7 k8 k9 k10 HV;refine zzM (QU.out x1 B0.out) λw1 hb=>?_;have B9:=hid (B0.out.trans (hb.mono B0.out.size));obtain⟨e0,e1,e2,z0,z1,z2⟩:=zah (zac hb _ _ _ _ R0.out);clear hb B0 M0 R0 QU;go_wp21;have hB:=B9.out;refine bodyPost_ret (v:=.tuple #[.agg #[.string X,.string Y,.string Z],.int .i64 0]) (by simp[results,Tryz.results228,go_sem,e0,e1,e2]) rfl ⟨rfl,?_⟩
 repeat(first|exact hB|refine Below.setCell ?_ (by simp<;>omega) _)
theorem zjk (X Y Z:ByteArray) (w:zA)
 (CK:Hid (∀W:zA,qL w W->qJ 146 #[za2 X Y Z] W (.int .i64 0)))
 (DI:Hid (∀W:zA,qL w W->qJ 228 #[za2 X Y Z] W (.tuple #[.agg #[.string X,.string Y,.string Z],.int .i64 0]))):
 qJ 155 #[za2 X Y Z] w (.tuple #[.agg #[.string X,.string Y,.string Z],.int .i64 0]):=by
 obtain⟨x0,hx0⟩:=zzX (w.alloc (.cells #[.int .i64 1,.int .i64 0,.int .i64 (-1),.string ⟨#[48]⟩,.string ⟨#[48]⟩,.string ⟨#[48]⟩,.string X,.string Y,.string Z,.int .i64 60,.int .i64 180] 60));obtain⟨x1,hx1⟩:=zzX (x0.alloc (.cells #[.string ⟨#[]⟩,.string ⟨#[]⟩,.string ⟨#[]⟩] 58));have s0:x0.heap.size=w.heap.size+1:=by rw[hx0];simp
 have q0:qL w x0:=by rw[hx0];exact(zM _ w).alloc (zN _) _
 have q1:qL x0 x1:=by rw[hx1];exact(zM _ x0).alloc (zN _) _
 have m0:Mb X Y Z w.heap.size x0:=⟨by rw[hx0];exact zG w _⟩;have f1:x1.heap[w.heap.size+1]? =some (.cells #[.string ⟨#[]⟩,.string ⟨#[]⟩,.string ⟨#[]⟩] 58 (0,0)):=by rw[hx1,<-s0];exact zG x0 _
 have B0:=hid (q0.trans (q1.mono q0.size));have M0:=hid (m0.below q1);have R0:=hid f1;have hall:x1=(w.alloc (.cells #[.int .i64 1,.int .i64 0,.int .i64 (-1),.string ⟨#[48]⟩,.string ⟨#[48]⟩,.string ⟨#[48]⟩,.string X,.string Y,.string Z,.int .i64 60,.int .i64 180] 60)).alloc (.cells #[.string ⟨#[]⟩,.string ⟨#[]⟩,.string ⟨#[]⟩] 58):=by rw[hx1,hx0]
 have HV:=hid hall.symm;obtain⟨k0,k1,k2,k3,k4,k5,k6,k7,k8,k9,k10⟩:=M0.out.cells;rw[hall] at k0 k1 k2 k3 k4 k5 k6 k7 k8 k9 k10;clear hall hx0 hx1 s0 q0 q1 m0 f1;unfold za2 at*
 go_enter Tryz.func155,Tryz.ntmps155;go_wp21;rw[HV.out];clear k0 k1 k2 k3 k4 k5 k6 k7 k8 k9 k10 HV;refine zzM (CK.out x1 B0.out) λw1 hb=>?_;have B1:=hid (B0.out.trans (hb.mono B0.out.size));have M1:=hid (M0.out.below hb);have R1:=hid (zac hb _ _ _ _ R0.out);clear hb B0 M0 R0 CK;obtain⟨k0,k1,k2,k3,k4,k5,k6,k7,k8,k9,k10⟩:=M1.out.cells;go_wp21;clear k0 k1 k2 k3 k4 k5 k6 k7 k8 k9 k10;refine zzM (DI.out w1 B1.out) λw2 hb=>?_;have B9:=hid (B1.out.trans (hb.mono B1.out.size));obtain⟨e0,e1,e2,z0,z1,z2⟩:=zah (zac hb _ _ _ _ R1.out);clear hb B1 M1 R1 DI;go_wp21;have hB:=B9.out;refine bodyPost_ret (v:=.tuple #[.agg #[.string X,.string Y,.string Z],.int .i64 0]) (by simp[results,Tryz.results155,go_sem,e0,e1,e2]) rfl ⟨rfl,?_⟩
 repeat(first|exact hB|refine Below.setCell ?_ (by simp<;>omega) _)
theorem zn5 (X Y Z:ByteArray) (w:zA):qJ 88 #[.agg #[.string X,.string Y,.string Z]] w (.agg #[.string X,.string Y,.string Z]):=by
 obtain⟨v1,hv⟩:=zzX ((w.alloc (.cells #[.string X,.string Y,.string Z] 58)).alloc (.cells #[.string ⟨#[]⟩,.string ⟨#[]⟩,.string ⟨#[]⟩] 58));obtain⟨b1,p1,p2, -⟩:=zc8 hv;obtain⟨d0,d1,d2, -, -, -⟩:=zah p1;obtain⟨e0,e1,e2,z0,z1,z2⟩:=zah p2;have B1:=hid b1;have HV:=hid hv;rw[hv] at d0 d1 d2 e0 e1 e2 z0 z1 z2;clear hv b1 p1 p2;go_enter Tryz.func88,Tryz.ntmps88;go_wp21;have hB:=B1.out;rw[HV.out] at hB;refine bodyPost_ret (v:=.agg #[.string X,.string Y,.string Z]) (by simp[results,Tryz.results88,go_sem]) rfl ⟨rfl,?_⟩
 first
  |exact((zM _ w).alloc (zN _) _).alloc (by simp) _
  |(repeat(first|exact hB|refine Below.setCell ?_ (by simp) _))
theorem zol (X Y Z:ByteArray) (w:zA):qJ 223 #[.agg #[.string X,.string Y,.string Z]] w (.agg #[.string X,.string Y,.string ⟨#[48]⟩]):=by
 obtain⟨v1,hv⟩:=zzX ((w.alloc (.cells #[.string X,.string Y,.string Z] 58)).alloc (.cells #[.string ⟨#[]⟩,.string ⟨#[]⟩,.string ⟨#[]⟩] 58));obtain⟨b1,p1,p2, -⟩:=zc8 hv;obtain⟨d0,d1,d2, -, -, -⟩:=zah p1;obtain⟨e0,e1,e2,z0,z1,z2⟩:=zah p2;have B1:=hid b1;have HV:=hid hv;rw[hv] at d0 d1 d2 e0 e1 e2 z0 z1 z2;clear hv b1 p1 p2;go_enter Tryz.func223,Tryz.ntmps223;go_wp21;have hB:=B1.out;rw[HV.out] at hB;refine bodyPost_ret (v:=.agg #[.string X,.string Y,.string ⟨#[48]⟩]) (by simp[results,Tryz.results223,go_sem]) rfl ⟨rfl,?_⟩
 first
  |exact((zM _ w).alloc (zN _) _).alloc (by simp) _
  |(repeat(first|exact hB|refine Below.setCell ?_ (by simp) _))
theorem zml (X Y Z:ByteArray) (x r:List UInt8) (w:zA)
 (DI:Hid (∀W:zA,qL w W->qJ 155 #[za2 X Y Z] W (.tuple #[.agg #[.string X,.string Y,.string Z],.int .i64 0])))
 (VL:Hid (∀W:zA,qL w W->zC zF 156 #[.agg #[.string X,.string Y,.string Z]] W λe w'=>∃b c,1<=c/\e=.returned (.tuple #[.slice (some ⟨b,0,none⟩) 1 c,.int .i64 0])/\zB W.heap.size W w'/\w'.cell? ⟨b,0,none⟩=some (St x)/\w'.cell? ⟨b,1,none⟩=some (St r))):
 zC zF 89 #[.agg #[.func (.func 88) #[] #[]],za2 X Y Z] w λe w'=>∃b c,1<=c/\e=.returned (.tuple #[.slice (some ⟨b,0,none⟩) 1 c,.int .i64 0])/\zB w.heap.size w w'/\w'.cell? ⟨b,0,none⟩=some (St x)/\w'.cell? ⟨b,1,none⟩=some (St r):=by
 obtain⟨x0,hx0⟩:=zzX (w.alloc (.cells #[.func (.func 88) #[] #[]] 141));obtain⟨x1,hx1⟩:=zzX (x0.alloc (.cells #[.int .i64 1,.int .i64 0,.int .i64 (-1),.string ⟨#[48]⟩,.string ⟨#[48]⟩,.string ⟨#[48]⟩,.string X,.string Y,.string Z,.int .i64 60,.int .i64 180] 60));have q0:qL w x0:=by rw[hx0];exact(zM _ w).alloc (zN _) _
 have q1:qL x0 x1:=by rw[hx1];exact(zM _ x0).alloc (zN _) _
 have f0:x0.heap[w.heap.size]? =some (.cells #[.func (.func 88) #[] #[]] 141 (0,0)):=by rw[hx0];exact zG w _
 have s0:x0.heap.size=w.heap.size+1:=by rw[hx0];simp
 have m0:Mb X Y Z (w.heap.size+1) x1:=⟨by rw[hx1,<-s0];exact zG x0 _⟩;have B0:=hid (q0.trans (q1.mono q0.size));have M0:=hid m0;have F0:=hid (zac q1 _ _ _ _ f0);have hall:x1=(w.alloc (.cells #[.func (.func 88) #[] #[]] 141)).alloc (.cells #[.int .i64 1,.int .i64 0,.int .i64 (-1),.string ⟨#[48]⟩,.string ⟨#[48]⟩,.string ⟨#[48]⟩,.string X,.string Y,.string Z,.int .i64 60,.int .i64 180] 60):=by rw[hx1,hx0]
 have HV:=hid hall.symm;obtain⟨k0,k1,k2,k3,k4,k5,k6,k7,k8,k9,k10⟩:=M0.out.cells;rw[hall] at k0 k1 k2 k3 k4 k5 k6 k7 k8 k9 k10;clear hall hx0 hx1 q0 q1 f0 s0 m0;unfold za2 at*
 go_enter Tryz.func89,Tryz.ntmps89;go_wp21;rw[HV.out];clear k0 k1 k2 k3 k4 k5 k6 k7 k8 k9 k10 HV;refine zzM (DI.out x1 B0.out) λw2 hb=>?_;have B2:=hid (B0.out.trans (hb.mono B0.out.size));have F2:=hid (zac hb _ _ _ _ F0.out);clear hb B0 M0 F0 DI;obtain⟨v3,hv⟩:=zzX (w2.alloc (.cells #[.string X,.string Y,.string Z] 58));have a3:qL w2 v3:=by rw[hv];exact(zM _ w2).alloc (zN _) _
 obtain⟨t0,t1,t2⟩:=za4 (show v3.heap[w2.heap.size]? =some (.cells #[.string X,.string Y,.string Z] 58 (0,0)) by rw[hv];exact zG w2 _);have g0:v3.cell? ⟨w.heap.size,0,none⟩=some (.func (.func 88) #[] #[]):=by rw[zJ (zac a3 _ _ _ _ F2.out)];rfl
 have HV:=hid hv.symm;have B3:=hid (B2.out.trans (a3.mono B2.out.size));rw[hv] at t0 t1 t2 g0;clear hv a3 B2 F2;go_wp21;rw[HV.out];clear t0 t1 t2 g0 HV;refine zzM (zn5 X Y Z v3) λw4 hb=>?_;have B4:=hid (B3.out.trans (hb.mono B3.out.size));clear hb B3;go_wp21;refine(VL.out w4 B4.out).mono ?_;rintro e w5 ⟨b,c,hc,rfl,hb,h0,h1⟩;have B5:=hid (B4.out.trans (hb.mono B4.out.size));have H0:=hid h0;have H1:=hid h1;clear hb B4 VL h0 h1;go_wp21;go_ret2;exact⟨_,_,hc,rfl,B5.out,H0.out,H1.out⟩
theorem zjl (X Y Z:ByteArray) (x r:List UInt8) (w:zA)
 (OF:Hid (∀W:zA,qL w W->zC zF 89 #[.agg #[.func (.func 88) #[] #[]],za2 X Y Z] W λe w'=>∃b c,1<=c/\e=.returned (.tuple #[.slice (some ⟨b,0,none⟩) 1 c,.int .i64 0])/\zB W.heap.size W w'/\w'.cell? ⟨b,0,none⟩=some (St x)/\w'.cell? ⟨b,1,none⟩=some (St r))):
 zC zF 30 #[za2 X Y Z] w λe w'=>∃b c,1<=c/\e=.returned (.tuple #[.slice (some ⟨b,0,none⟩) 1 c,.int .i64 0])/\zB w.heap.size w w'/\w'.cell? ⟨b,0,none⟩=some (St x)/\w'.cell? ⟨b,1,none⟩=some (St r):=by
 obtain⟨x0,hx0⟩:=zzX (w.alloc (.cells #[.int .i64 1,.int .i64 0,.int .i64 (-1),.string ⟨#[48]⟩,.string ⟨#[48]⟩,.string ⟨#[48]⟩,.string X,.string Y,.string Z,.int .i64 60,.int .i64 180] 60));have q0:qL w x0:=by rw[hx0];exact(zM _ w).alloc (zN _) _
 have m0:Mb X Y Z w.heap.size x0:=⟨by rw[hx0];exact zG w _⟩;have B0:=hid q0;have HV:=hid hx0.symm;obtain⟨k0,k1,k2,k3,k4,k5,k6,k7,k8,k9,k10⟩:=m0.cells;rw[hx0] at k0 k1 k2 k3 k4 k5 k6 k7 k8 k9 k10;clear hx0 q0 m0;unfold za2 at*
 go_enter Tryz.func30,Tryz.ntmps30;go_wp21;rw[HV.out];clear k0 k1 k2 k3 k4 k5 k6 k7 k8 k9 k10 HV;refine(OF.out x0 B0.out).mono ?_;rintro e w5 ⟨b,c,hc,rfl,hb,h0,h1⟩;have B5:=hid (B0.out.trans (hb.mono B0.out.size));have H0:=hid h0;have H1:=hid h1;clear hb B0 OF h0 h1;go_wp21;go_ret2;exact⟨_,_,hc,rfl,B5.out,H0.out,H1.out⟩
theorem zmv (X Y Z:ByteArray) (x r:List UInt8) (w:zA)
 (DI:Hid (∀W:zA,qL w W->qJ 155 #[za2 X Y Z] W (.tuple #[.agg #[.string X,.string Y,.string Z],.int .i64 0])))
 (VL:Hid (∀W:zA,qL w W->zC zF 156 #[.agg #[.string X,.string Y,.string ⟨#[48]⟩]] W λe w'=>∃b c,1<=c/\e=.returned (.tuple #[.slice (some ⟨b,0,none⟩) 1 c,.int .i64 0])/\zB W.heap.size W w'/\w'.cell? ⟨b,0,none⟩=some (St x)/\w'.cell? ⟨b,1,none⟩=some (St r))):
 zC zF 89 #[.agg #[.func (.func 223) #[] #[]],za2 X Y Z] w λe w'=>∃b c,1<=c/\e=.returned (.tuple #[.slice (some ⟨b,0,none⟩) 1 c,.int .i64 0])/\zB w.heap.size w w'/\w'.cell? ⟨b,0,none⟩=some (St x)/\w'.cell? ⟨b,1,none⟩=some (St r):=by
 obtain⟨x0,hx0⟩:=zzX (w.alloc (.cells #[.func (.func 223) #[] #[]] 141));obtain⟨x1,hx1⟩:=zzX (x0.alloc (.cells #[.int .i64 1,.int .i64 0,.int .i64 (-1),.string ⟨#[48]⟩,.string ⟨#[48]⟩,.string ⟨#[48]⟩,.string X,.string Y,.string Z,.int .i64 60,.int .i64 180] 60));have q0:qL w x0:=by rw[hx0];exact(zM _ w).alloc (zN _) _
 have q1:qL x0 x1:=by rw[hx1];exact(zM _ x0).alloc (zN _) _
 have f0:x0.heap[w.heap.size]? =some (.cells #[.func (.func 223) #[] #[]] 141 (0,0)):=by rw[hx0];exact zG w _
 have s0:x0.heap.size=w.heap.size+1:=by rw[hx0];simp
 have m0:Mb X Y Z (w.heap.size+1) x1:=⟨by rw[hx1,<-s0];exact zG x0 _⟩;have B0:=hid (q0.trans (q1.mono q0.size));have M0:=hid m0;have F0:=hid (zac q1 _ _ _ _ f0);have hall:x1=(w.alloc (.cells #[.func (.func 223) #[] #[]] 141)).alloc (.cells #[.int .i64 1,.int .i64 0,.int .i64 (-1),.string ⟨#[48]⟩,.string ⟨#[48]⟩,.string ⟨#[48]⟩,.string X,.string Y,.string Z,.int .i64 60,.int .i64 180] 60):=by rw[hx1,hx0]
 have HV:=hid hall.symm;obtain⟨k0,k1,k2,k3,k4,k5,k6,k7,k8,k9,k10⟩:=M0.out.cells;rw[hall] at k0 k1 k2 k3 k4 k5 k6 k7 k8 k9 k10;clear hall hx0 hx1 q0 q1 f0 s0 m0;unfold za2 at*
 go_enter Tryz.func89,Tryz.ntmps89;go_wp21;rw[HV.out];clear k0 k1 k2 k3 k4 k5 k6 k7 k8 k9 k10 HV;refine zzM (DI.out x1 B0.out) λw2 hb=>?_;have B2:=hid (B0.out.trans (hb.mono B0.out.size));have F2:=hid (zac hb _ _ _ _ F0.out);clear hb B0 M0 F0 DI;obtain⟨v3,hv⟩:=zzX (w2.alloc (.cells #[.string X,.string Y,.string Z] 58));have a3:qL w2 v3:=by rw[hv];exact(zM _ w2).alloc (zN _) _
 obtain⟨t0,t1,t2⟩:=za4 (show v3.heap[w2.heap.size]? =some (.cells #[.string X,.string Y,.string Z] 58 (0,0)) by rw[hv];exact zG w2 _);have g0:v3.cell? ⟨w.heap.size,0,none⟩=some (.func (.func 223) #[] #[]):=by rw[zJ (zac a3 _ _ _ _ F2.out)];rfl
 have HV:=hid hv.symm;have B3:=hid (B2.out.trans (a3.mono B2.out.size));rw[hv] at t0 t1 t2 g0;clear hv a3 B2 F2;go_wp21;rw[HV.out];clear t0 t1 t2 g0 HV;refine zzM (zol X Y Z v3) λw4 hb=>?_;have B4:=hid (B3.out.trans (hb.mono B3.out.size));clear hb B3;go_wp21;refine(VL.out w4 B4.out).mono ?_;rintro e w5 ⟨b,c,hc,rfl,hb,h0,h1⟩;have B5:=hid (B4.out.trans (hb.mono B4.out.size));have H0:=hid h0;have H1:=hid h1;clear hb B4 VL h0 h1;go_wp21;go_ret2;exact⟨_,_,hc,rfl,B5.out,H0.out,H1.out⟩
theorem zjm (X Y Z:ByteArray) (x r:List UInt8) (w:zA)
 (OF:Hid (∀W:zA,qL w W->zC zF 89 #[.agg #[.func (.func 223) #[] #[]],za2 X Y Z] W λe w'=>∃b c,1<=c/\e=.returned (.tuple #[.slice (some ⟨b,0,none⟩) 1 c,.int .i64 0])/\zB W.heap.size W w'/\w'.cell? ⟨b,0,none⟩=some (St x)/\w'.cell? ⟨b,1,none⟩=some (St r))):
 zC zF 147 #[za2 X Y Z] w λe w'=>∃b c,1<=c/\e=.returned (.tuple #[.slice (some ⟨b,0,none⟩) 1 c,.int .i64 0])/\zB w.heap.size w w'/\w'.cell? ⟨b,0,none⟩=some (St x)/\w'.cell? ⟨b,1,none⟩=some (St r):=by
 obtain⟨x0,hx0⟩:=zzX (w.alloc (.cells #[.int .i64 1,.int .i64 0,.int .i64 (-1),.string ⟨#[48]⟩,.string ⟨#[48]⟩,.string ⟨#[48]⟩,.string X,.string Y,.string Z,.int .i64 60,.int .i64 180] 60));have q0:qL w x0:=by rw[hx0];exact(zM _ w).alloc (zN _) _
 have m0:Mb X Y Z w.heap.size x0:=⟨by rw[hx0];exact zG w _⟩;have B0:=hid q0;have HV:=hid hx0.symm;obtain⟨k0,k1,k2,k3,k4,k5,k6,k7,k8,k9,k10⟩:=m0.cells;rw[hx0] at k0 k1 k2 k3 k4 k5 k6 k7 k8 k9 k10;clear hx0 q0 m0;unfold za2 at*
 go_enter Tryz.func147,Tryz.ntmps147;go_wp21;rw[HV.out];clear k0 k1 k2 k3 k4 k5 k6 k7 k8 k9 k10 HV;refine(OF.out x0 B0.out).mono ?_;rintro e w5 ⟨b,c,hc,rfl,hb,h0,h1⟩;have B5:=hid (B0.out.trans (hb.mono B0.out.size));have H0:=hid h0;have H1:=hid h1;clear hb B0 OF h0 h1;go_wp21;go_ret2;exact⟨_,_,hc,rfl,B5.out,H0.out,H1.out⟩
theorem zwx (X Y Z Q F R:ByteArray) (hF:(F.toList==[48])=false) (w:zA)
 (CK:Hid (∀W:zA,qL w W->qJ 221 #[.agg #[.string X,.string Y,.string Z]] W (.int .i64 0)))
 (DO:Hid (∀W:zA,qL w W->qJ 229 #[.agg #[.string X,.string Y,.string Z],.agg #[.string X,.string Y,.string Z]] W (.tuple #[.string Q,.int .i64 0])))
 (NO:Hid (∀W:zA,qL w W->qJ 120 #[.string Q] W (.tuple #[.string F,.string R,.int .i64 0])))
 (SC:Hid (∀(W:zA) (b:Nat),qL w W->W.cell? ⟨b,0,none⟩=some (.string F)->W.cell? ⟨b,1,none⟩=some (.string R)->qJ 70 #[.slice (some ⟨b,0,none⟩) 1 1] W (.int .i64 0))):
 zC zF 156 #[.agg #[.string X,.string Y,.string Z]] w λe w'=>∃b c,1<=c/\e=.returned (.tuple #[.slice (some ⟨b,0,none⟩) 1 c,.int .i64 0])/\zB w.heap.size w w'/\w'.cell? ⟨b,0,none⟩=some (.string F)/\w'.cell? ⟨b,1,none⟩=some (.string R):=by
 obtain⟨x0,hx0⟩:=zzX (w.alloc (.cells #[.string X,.string Y,.string Z] 58));have q0:qL w x0:=by rw[hx0];exact(zM _ w).alloc (zN _) _
 have f0:x0.heap[w.heap.size]? =some (.cells #[.string X,.string Y,.string Z] 58 (0,0)):=by rw[hx0];exact zG w _
 have B0:=hid q0;have F0:=hid f0;have HV:=hid hx0.symm;obtain⟨k0,k1,k2⟩:=za4 f0;rw[hx0] at k0 k1 k2;clear hx0 q0 f0;go_enter Tryz.func156,Tryz.ntmps156;go_wp21;rw[HV.out];clear k0 k1 k2 HV;refine zzM (CK.out x0 B0.out) λw1 hb=>?_;have B1:=hid (B0.out.trans (hb.mono B0.out.size));obtain⟨k0,k1,k2⟩:=za4 (zac hb _ _ _ _ F0.out);clear hb B0 F0 CK;go_wp21;clear k0 k1 k2;refine zzM (DO.out w1 B1.out) λw2 hb=>?_;have B2:=hid (B1.out.trans (hb.mono B1.out.size));clear hb B1 DO;go_wp21;refine zzM (NO.out w2 B2.out) λw3 hb=>?_;have B3:=hid (B2.out.trans (hb.mono B2.out.size));clear hb B2 NO;obtain⟨v3,hv⟩:=zzX (w3.alloc (.cells #[.string F,.string R] 37));have a3:qL w3 v3:=by rw[hv];exact(zM _ w3).alloc (zN _) _
 have A3:v3.heap[w3.heap.size]? =some (.cells #[.string F,.string R] 37 (0,0)):=by rw[hv];exact zG w3 _
 have t0:v3.cell? ⟨w3.heap.size,0,none⟩=some (.string F):=by rw[zJ A3];rfl
 have t1:v3.cell? ⟨w3.heap.size,1,none⟩=some (.string R):=by rw[zJ A3];rfl
 have HV:=hid hv.symm;have E3:=B3.out.trans (a3.mono B3.out.size);have B4:=hid E3;have HS:=hid (SC.out v3 w3.heap.size E3 t0 t1);have T0:=hid t0;have T1:=hid t1;clear hv a3 A3 t0 t1 E3 B3 SC;go_wp21;rw[HV.out];clear HV;refine zzM HS.out λw4 hb=>?_;have B5:=hid (B4.out.trans (hb.mono B4.out.size));have U0:=hid (zai hb T0.out);have U1:=hid (zai hb T1.out);clear hb B4 HS T0 T1;go_wp21;go_ret2;exact⟨_,_,zN _,rfl,B5.out,U0.out,U1.out⟩
theorem zhm (x u v:List UInt8) (t:ByteArray) (ht:t=⟨(trimPrefix u [45]).toArray⟩) (h1:(t.size:Int)<=36) (h2:(v.length:Int)<=36) (w:zA) (HW:Hid (Wd w))
 (PA:Hid (qK 123 #[St x] (.tuple #[St u,St v,.int .i64 0]))):
 qJ 289 #[St x] w (.bool false):=by
 have ht2:∀W,zC zF 145 #[St u,.string ⟨#[45]⟩] W λe w'=>e=.returned (.string t)/\w'=W:=λW=>by
  rw[ht];exact Tryz.strings_TrimPrefix ⟨u.toArray⟩ ⟨#[45]⟩ W
 obtain⟨d,hd⟩:=zzX (⟨v.toArray⟩:ByteArray);have hds:d.size=v.length:=by rw[hd];show v.toArray.size=_;simp
 rw[<-hds] at h2;have HT:=hid ht2;have h3:decide (36<max (t.size:Int) (d.size:Int))=false:=decide_eq_false (by omega);have PA2:Hid (qK 123 #[St x] (.tuple #[St u,.string d,.int .i64 0])):=hid (by rw[hd];exact PA.out);clear ht ht2 hd hds PA h1 h2;go_enter Tryz.func289,Tryz.ntmps289;go_wp21;refine zzM (PA2.out _ HW.out) λw1 hb1=>?_;have B1:=hid hb1;clear hb1;go_wp21;refine zzM (HT.out w1) λw2 hw2=>?_;have B2:Hid (qL w w2):=hid (by rw[hw2];exact B1.out);clear hw2;go_wp21;go_ret;exact⟨rfl,B2.out⟩
theorem zho (p:Option Addr) (cap:Nat) (l:List (List UInt8)) (hl:l.length<=5000)
 (F:Hid (∀i,i<l.length->qK 289 #[St (l[i]?.getD [])] (.bool false)))
 (w:zA) (HW:Hid (Wd w)) (HP:Hid (RowSt p l w)):
 qJ 328 #[.slice p l.length cap,.func (.func 289) #[] #[]] w (.int .i64 (-1)):=by
 obtain⟨n,hn⟩:=zzX l.length;rw[<-hn] at F hl⊢;have HN:=hid hn;clear hn;go_enter Tryz.func328,Tryz.ntmps328;go_wp2;go_loopw [8] (λi wr=>∃(k:Nat),k<=n/\i=.int .i64 (k:Int)/\Hid (qL w wr))
  (λi _=>n-(zL i).toNat)
 case atStart=>exact⟨0,Nat.zero_le _,rfl,zM _ _⟩
 case round=>
  obtain⟨k,hk,rfl,hB⟩:=hrel;by_cases hlt:k<n
  ·obtain⟨b,off,rfl,c0⟩:=(HP.out.keep (zac hB.out)) k (by rw[<-HN.out];exact hlt)
   have HF:=hid (F.out k hlt wr (HW.out.below hB.out));generalize l[k]?.getD []=x at*
   go_wp21;refine zzM HF.out λw2 hb2=>?_;have hB2:=hid (hB.out.trans (hb2.mono hB.out.size));clear hb2 HF;go_wp21;go_roundw
   case rel=>exact⟨k+1,by omega,by go_num,hB2⟩
   case measure=>simp[zL];omega
  ·have hkn:k=n:=by omega
   go_wp21;go_ret;exact⟨rfl,hB.out⟩
theorem zf8 (p:Option Addr) (cap n:Nat) (w:zA)
 (F:Hid (qJ 328 #[.slice p n cap,.func (.func 289) #[] #[]] w (.int .i64 (-1)))):
 qJ 288 #[.slice p n cap,.func (.func 289) #[] #[]] w (.bool false):=by
 go_enter Tryz.func288,Tryz.ntmps288;go_wp21;refine zzM F.out λw1 hB=>?_;have B1:=hid hB;clear hB;go_wp21;go_ret;exact⟨rfl,B1.out⟩
theorem zj1 (x y z:List UInt8) (w:zA)
 (C:Hid (∀(W:zA) (b:Nat),qL w W->W.heap[b]? =some (.cells #[St x,St y,St z] 30 (0,0))->qJ 288 #[.slice (some ⟨b,0,none⟩) 3 3,.func (.func 289) #[] #[]] W (.bool false))):
 qJ 222 #[.agg #[St x,St y,St z]] w (.bool false):=by
 obtain⟨v1,hv⟩:=zzX ((w.alloc (.cells #[St x,St y,St z] 58)).alloc (.cells #[St x,St y,St z] 30));have n0:=zG w (.cells #[St x,St y,St z] 58);obtain⟨k0,k1,k2⟩:=za4 n0;have b1:qL w v1:=by rw[hv];exact((zM _ w).alloc (zN _) _).alloc (by simp) _
 have A2:v1.heap[w.heap.size+1]? =some (.cells #[St x,St y,St z] 30 (0,0)):=by
  rw[hv];have:=zG (w.alloc (.cells #[St x,St y,St z] 58)) (.cells #[St x,St y,St z] 30);rw[World.size_alloc] at this;exact this
 have HC:=hid (C.out v1 _ b1 A2);have HV:=hid hv.symm;have B1:=hid b1;clear hv n0 b1 A2 C;go_enter Tryz.func222,Tryz.ntmps222;go_wp21;have h9:=HV.out;rw[show(w.alloc (.cells #[.string ⟨x.toArray⟩,.string ⟨y.toArray⟩,.string ⟨z.toArray⟩] 58)).alloc (.cells #[.string ⟨x.toArray⟩,.string ⟨y.toArray⟩,.string ⟨z.toArray⟩] 30)=v1 from h9];clear h9 HV;refine zzM HC.out λw2 hb=>?_;have B2:=hid (B1.out.trans (hb.mono B1.out.size));clear hb;go_wp21;go_ret;exact⟨rfl,B2.out⟩
end
section
open Go.RowKit Go.Shelf Lib Str Limb Geo
attribute [local go_sem] Oper.semAt_some
theorem zom (w:zA)
 (RE:Hid (∀W:zA,qL w W->qJ 81 #[.string ⟨#[49]⟩] W (.tuple #[.agg #[.string ⟨#[49]⟩,.string ⟨#[49]⟩],.int .i64 0])))
 (AT:Hid (∀W:zA,qL w W->qJ 174 #[.string ⟨#[49]⟩] W (.tuple #[.int .i64 1,.nilIface]))):
 qJ 149 #[.string ⟨#[49]⟩] w (.tuple #[.int .i64 1,.int .i64 0]):=by
 go_enter Tryz.func149,Tryz.ntmps149;go_wp21;refine zzM (RE.out w (zM _ _)) λw1 hb1=>?_;obtain⟨v1,hv⟩:=zzX (w1.alloc (.cells #[.string ⟨#[49]⟩,.string ⟨#[49]⟩] 87));have a1:qL w1 v1:=by rw[hv];exact(zM _ w1).alloc (zN _) _
 have A1:v1.heap[w1.heap.size]? =some (.cells #[.string ⟨#[49]⟩,.string ⟨#[49]⟩] 87 (0,0)):=by rw[hv];exact zG w1 _
 have k0:v1.cell? ⟨w1.heap.size,0,none⟩=some (.string ⟨#[49]⟩):=by rw[zJ A1];rfl
 have k1:v1.cell? ⟨w1.heap.size,1,none⟩=some (.string ⟨#[49]⟩):=by rw[zJ A1];rfl
 rw[hv] at k0 k1;have HV1:=hid hv.symm;have E1:=hid (hb1.trans (a1.mono hb1.size));clear hv a1 A1 hb1 RE;go_wp21;rw[HV1.out];clear k0 k1 HV1;refine zzM (AT.out v1 E1.out) λw2 hb2=>?_;have E2:=hid (E1.out.trans (hb2.mono E1.out.size));clear hb2;go_wp21;go_ret2;exact⟨rfl,E2.out⟩
theorem zdi:St (numS 0)=.string ⟨#[48]⟩/\St (numS 1)=.string ⟨#[49]⟩/\St (numS 3)=.string ⟨#[51]⟩/\St (numS 4)=.string ⟨#[52]⟩/\St (numS 5)=.string ⟨#[53]⟩/\St (numS 9)=.string ⟨#[57]⟩/\St (zD 1)=.string ⟨#[49]⟩:=by
 have h:∀(k:Int) (l:List UInt8),itoa k=l->St (numS ((k:Int):Rat))=.string ⟨l.toArray⟩:=λk l h=>by rw[zha,h]
 refine⟨h 0 [48] (by decide+kernel),h 1 [49] (by decide+kernel),h 3 [51] (by decide+kernel),h 4 [52] (by decide+kernel),h 5 [53] (by decide+kernel),h 9 [57] (by decide+kernel),?_⟩;rw[zae (by omega)];rfl
theorem sz34:sz 0 1/\sz 1 1/\sz 3 1/\sz 4 1/\sz 5 1:=⟨⟨by decide,by decide⟩,⟨by decide,by decide⟩,⟨by decide,by decide⟩,⟨by decide,by decide⟩,⟨by decide,by decide⟩⟩
theorem zrc:∀args w,(callFunc 10 args).run zF w=.ok (.enter 10 args) w:=enters_of Tryz.func10 (by kernel_rfl) rfl
theorem zj3 (x y z:Rat) (hx:sz x 30) (hy:sz y 30) (hz:sz z 30) (w:zA) (hw:Wd w):
 qJ 222 #[.agg #[St (numS x),St (numS y),St (numS z)]] w (.bool false):=by
 have one:∀q:Rat,sz q 30->qK 289 #[St (numS q)] (.bool false):=λq hq W hW=>by
  have h1:(trimPrefix (itoa q.num) [45]).length<=30:=by
   have:=(zok (k:=30) (by omega) hq).1;unfold digs at this;rw[zbi];exact this
  have h2:(zD q.den).length<=30:=(zaf q.den 30 (by omega)).2 hq.2;exact zhm (numS q) (itoa q.num) (zD q.den) _ rfl (by show(((trimPrefix (itoa q.num) [45]).toArray.size:Nat):Int)<=36;simp;omega) (by omega) W (hid hW) (hid λZ hZ=>zk5 q (zd0 (by omega) (by omega) hq) Z hZ)
 refine zj1 (numS x) (numS y) (numS z) w (hid λW b hW hb=>zf8 _ 3 3 W (hid ?_));refine zho (some ⟨b,0,none⟩) 3 [numS x,numS y,numS z] (by simp) (hid λi hi V hV=>?_) W (hid (hw.below hW)) (hid λi hi=>?_)
 ·match i,hi with
  |0,_=>exact one x hx V hV
  |1,_=>exact one y hy V hV
  |2,_=>exact one z hz V hV
 ·refine⟨b,0,rfl,?_⟩
  rw[zJ hb]
  match i,hi with
  |0,_|1,_|2,_=>rfl
theorem zr0 {q:Rat} (h:q≠0):(ByteArray.toList ⟨(numS q).toArray⟩==[48])=false/\([48]==ByteArray.toList ⟨(numS q).toArray⟩)=false:=by
 have:ByteArray.toList ⟨(numS q).toArray⟩≠[48]:=λe=>h (zh0 (by rw[nm0,<-e,ByteArray.toList_eq]));exact⟨beq_eq_false_iff_ne.2 this,beq_eq_false_iff_ne.2 (Ne.symm this)⟩
abbrev memQ (x y z:Rat):Value:=za2 ⟨(numS x).toArray⟩ ⟨(numS y).toArray⟩ ⟨(numS z).toArray⟩
theorem zh9 (x y z:Rat) (hx:sz x 30) (hy:sz y 30) (hz:sz z 30) (h0:x≠0) (w:zA) (hw:Wd w):qJ 146 #[memQ x y z] w (.int .i64 0):=by
 have n0:=zdi.1;have s0:sz 0 1:=sz34.1;refine zhi _ _ _ (zr0 h0) w (hid λW hW=>?_) (hid λW hW=>zce x y z ⟨hx.mono (by omega),hy.mono (by omega),hz.mono (by omega)⟩ W (hw.below hW)) (hid λW hW=>?_) (hid λW hW=>zj3 x y z hx hy hz W (hw.below hW))
 ·have:=zce 0 0 0 ⟨s0.mono (by omega),s0.mono (by omega),s0.mono (by omega)⟩ W (hw.below hW)
  rw[n0] at this;exact this
 ·have:=zj3 0 0 0 (s0.mono (by omega)) (s0.mono (by omega)) (s0.mono (by omega)) W (hw.below hW)
  rw[n0] at this;exact this
theorem zr1 (x y z:Rat) (hx:sz x 30) (hy:sz y 30) (hz:sz z 30) (h0:x≠0) (w:zA) (hw:Wd w):qJ 155 #[memQ x y z] w (.tuple #[.agg #[St (numS x),St (numS y),St (numS z)],.int .i64 0]):=by
 have n0:=zdi.1;have s0:sz 0 1:=sz34.1;have ck:=λ(W:zA) (h:qL w W)=>zh9 x y z hx hy hz h0 W (hw.below h);refine zjk _ _ _ w (hid ck) (hid λW hW=>zlf _ _ _ W (hid λV hV=>zmc _ _ _ V (hid λU hU=>zh9 x y z hx hy hz h0 U (((hw.below hW).below hV).below hU)) (hid λU hU=>?_)));have hU':=((hw.below hW).below hV).below hU;have:=zny (numS x) (numS y) (numS z) (numS 0) (numS 0) (numS 0) (numS (x-0)) (numS (y-0)) (numS (z-0)) U
  (hid λV hV=>zqh x y z 0 0 0 ⟨hx.mono (by omega),hy.mono (by omega),hz.mono (by omega)⟩ ⟨s0.mono (by omega),s0.mono (by omega),s0.mono (by omega)⟩ V (hU'.below hV))
  (hid λT hT=>zgo _ _ _ _ _ _ _ _ _ _ zrc T (hid λS hS=>ztz x 0 30 1 (by omega) (by omega) (by omega) hx s0 S ((hU'.below hT).below hS)) (hid λS hS=>ztz y 0 30 1 (by omega) (by omega) (by omega) hy s0 S ((hU'.below hT).below hS)) (hid λS hS=>ztz z 0 30 1 (by omega) (by omega) (by omega) hz s0 S ((hU'.below hT).below hS)))
 rw[show x-0=x by grind,show y-0=y by grind,show z-0=z by grind,n0] at this;exact this
def lenC (q:Rat):Rat:=((zn7 (q.num.natAbs*q.den)).1:Rat)/(q.den:Rat)
def lenR (q:Rat):Nat:=(zn7 (q.num.natAbs*q.den)).2
theorem ze3 {q:Rat} {k:Nat} (hk:0<k) (hk2:k<=10) (h0:0<q) (h:sz q k):TrmR (lenC q) (lenR q)/\sz (lenC q) k/\0<lenC q/\lenC q*lenC q*((lenR q:Nat):Rat)=q:=by
 obtain⟨-,hn⟩:=z9b h0;have hd:0<q.den:=q.den_pos;obtain⟨e,p1,p2,e2⟩:=zmf (Nat.mul_pos hn hd);have hd0:((q.den:Nat):Rat)≠0:=by
  have:(0:Rat)<(q.den:Rat):=by exact_mod_cast hd
  grind
 have hq:=zlk (Rat.le_of_lt h0);unfold lenC lenR;generalize zn7 (q.num.natAbs*q.den)=x at*
 have hN:q.num.natAbs*q.den<10^(k+k):=zcc h.1 h.2;have hC:x.1<10^k:=by
  refine Nat.lt_of_not_le λhc=>?_;have h3:=Nat.mul_le_mul hc hc;rw[<-Nat.pow_add] at h3;have h5:=Nat.le_mul_of_pos_right (x.1*x.1) p2;omega
 have hL:x.2<=q.num.natAbs*q.den:=by rw[<-e];exact Nat.le_mul_of_pos_left _ (Nat.mul_pos p1 p1)
 have hk20:10^(k+k)<=10^20:=Nat.pow_le_pow_right (by omega) (by omega);have sC:=zfr x.1 q.den k hd hC h.2;have pC:0<((x.1:Nat):Rat)/((q.den:Nat):Rat):=by
  rw[Rat.div_def];exact Rat.mul_pos (by exact_mod_cast p1) (Rat.inv_pos.2 (by exact_mod_cast hd))
 refine⟨⟨by grind,sC.mono (by omega),⟨p2,(zaf _ 20 (by omega)).2 (Nat.lt_of_le_of_lt hL (Nat.lt_of_lt_of_le hN hk20)),e2⟩⟩,sC,pC,?_⟩;have e':((x.1:Nat):Rat)*((x.1:Nat):Rat)*((x.2:Nat):Rat)=((q.num.natAbs:Nat):Rat)*((q.den:Nat):Rat):=by exact_mod_cast e
 have:((x.1:Nat):Rat)/((q.den:Nat):Rat)*(((x.1:Nat):Rat)/((q.den:Nat):Rat))*((x.2:Nat):Rat)=((x.1:Nat):Rat)*((x.1:Nat):Rat)*((x.2:Nat):Rat)/(((q.den:Nat):Rat)*((q.den:Nat):Rat)):=by grind
 rw[this,e',hq];grind
theorem zft (a:Rat) (r:Nat) (ht:TrmR a r) (W:zA) (b:Nat) (hw:Hw W) (c0:W.cell? ⟨b,0,none⟩=some (St (numS a))) (c1:W.cell? ⟨b,1,none⟩=some (St (zD r))) (c:Nat) (hc:1<=c):
 SdL (.slice (some ⟨b,0,none⟩) 1 c) [(a,r)] W/\qJ 70 #[.slice (some ⟨b,0,none⟩) 1 c] W (.int .i64 0):=by
 have hs:SdL (.slice (some ⟨b,0,none⟩) 1 c) [(a,r)] W:=.inr ⟨b,0,c,rfl,hc,zbe c0,λi t ht=>by
  match i,ht with
  |0,ht=>injection ht with ht;subst ht;exact⟨c0,c1⟩⟩
 exact⟨hs,zbh _ _ (SdOk.one ht) W hw.wd hw.pw hs⟩
theorem zx9 (x y z q:Rat) (hx:sz x 14) (hy:sz y 14) (hz:sz z 14) (hq:x*x+y*y+z*z=q) (h0:0<q) (sq:sz q 10) (w:zA) (hw:Hw w):
 zC zF 156 #[.agg #[St (numS x),St (numS y),St (numS z)]] w λe w'=>∃b c,1<=c/\e=.returned (.tuple #[.slice (some ⟨b,0,none⟩) 1 c,.int .i64 0])/\zB w.heap.size w w'/\w'.cell? ⟨b,0,none⟩=some (St (numS (lenC q)))/\w'.cell? ⟨b,1,none⟩=some (St (zD (lenR q))):=by
 obtain⟨ht,_,hp,_⟩:=ze3 (k:=10) (by omega) (by omega) h0 sq
 refine zwx _ _ _ ⟨(numS q).toArray⟩ ⟨(numS (lenC q)).toArray⟩ ⟨(zD (lenR q)).toArray⟩ (zr0 (by grind)).1 w (hid λU hU=>zce x y z ⟨hx.mono (by omega),hy.mono (by omega),hz.mono (by omega)⟩ U (hw.below hU).wd) (hid λU hU=>?_)
  (hid λU hU=>z7a q h0 (sq.mono (by omega)) U (hw.below hU).wd (hw.below hU).pw) (hid λU b hU c0 c1=>(zft _ _ ht U b (hw.below hU) c0 c1 1 (by omega)).2)
 rw[<-hq];have hv:=(hw.below hU).wd
 exact zpj _ _ _ _ _ _ _ _ _ (numS (x*x+y*y)) _ U (hid λV hV=>zlm x y z x y z ⟨hx.mono (by omega),hy.mono (by omega),hz.mono (by omega)⟩ ⟨hx.mono (by omega),hy.mono (by omega),hz.mono (by omega)⟩ V (hv.below hV))
  (hid λV hV=>zje (x*x) (y*y) 28 28 (by omega) (by omega) (by omega) (zca hx hx) (zca hy hy) V (hv.below hV))
  (hid λV hV=>zje (x*x+y*y) (z*z) 57 28 (by omega) (by omega) (by omega) (zk0 (zca hx hx) (zca hy hy)) (zca hz hz) V (hv.below hV))
theorem lenQ (x y z q:Rat) (hx:sz x 14) (hy:sz y 14) (hz:sz z 14) (h0:x≠0) (hq:x*x+y*y+z*z=q) (hp:0<q) (sq:sz q 10) (w:zA) (hw:Hw w):
 zC zF 30 #[memQ x y z] w λe w'=>∃b c,1<=c/\e=.returned (.tuple #[.slice (some ⟨b,0,none⟩) 1 c,.int .i64 0])/\zB w.heap.size w w'/\w'.cell? ⟨b,0,none⟩=some (St (numS (lenC q)))/\w'.cell? ⟨b,1,none⟩=some (St (zD (lenR q))):=
 zjl _ _ _ _ _ w (hid λW hW=>zml _ _ _ _ _ W (hid λV hV=>zr1 x y z (hx.mono (by omega)) (hy.mono (by omega)) (hz.mono (by omega)) h0 V ((hw.below hW).below hV).wd) (hid λV hV=>zx9 x y z q hx hy hz hq hp sq V ((hw.below hW).below hV)))
theorem m34:za2 ⟨#[52]⟩ ⟨#[48]⟩ ⟨#[51]⟩=memQ 4 0 3:=by
 have b:=λ(q:Rat) (l:List UInt8) (h:numS q=l)=>(show(⟨(numS q).toArray⟩:ByteArray)=⟨l.toArray⟩ by rw[h]);unfold memQ;rw[b 4 [52] (by decide+kernel),b 0 [48] nm0,b 3 [51] (by decide+kernel)]
theorem l34:lenC 25=5/\lenR 25=1/\lenC 16=4/\lenR 16=1/\(4:Rat)*4+0*0+3*3=25/\(4:Rat)*4+0*0+0*0=16/\sz 25 10/\sz 16 10/\(0:Rat)<25/\(0:Rat)<16/\(4:Rat)≠0:=by
 refine⟨?_,?_,?_,?_,?_,?_,?_,?_,?_,?_,?_⟩<;>decide+kernel
theorem zse (w:zA) (hw:Hw w):zC zF 30 #[memQ 4 0 3] w λe w'=>∃b c,1<=c/\e=.returned (.tuple #[.slice (some ⟨b,0,none⟩) 1 c,.int .i64 0])/\zB w.heap.size w w'/\w'.cell? ⟨b,0,none⟩=some (.string ⟨#[53]⟩)/\w'.cell? ⟨b,1,none⟩=some (.string ⟨#[49]⟩):=by
 obtain⟨n0,n1,n3,n4,n5, -,d1⟩:=zdi;obtain⟨s0,s1,s3,s4,s5⟩:=sz34;obtain⟨e1,e2, -, -,e5, -,s25, -,p25, -,p4⟩:=l34;have:=lenQ 4 0 3 25 (s4.mono (by omega)) (s0.mono (by omega)) (s3.mono (by omega)) p4 e5 p25 s25 w hw;rw[e1,e2,n5,d1] at this;exact this
theorem zsh (w:zA) (hw:Hw w):zC zF 147 #[memQ 4 0 3] w λe w'=>∃b c,1<=c/\e=.returned (.tuple #[.slice (some ⟨b,0,none⟩) 1 c,.int .i64 0])/\zB w.heap.size w w'/\w'.cell? ⟨b,0,none⟩=some (St (numS 4))/\w'.cell? ⟨b,1,none⟩=some (St (zD 1)):=by
 obtain⟨n0,n1,n3,n4,n5, -, -⟩:=zdi;obtain⟨s0,s1,s3,s4,s5⟩:=sz34;obtain⟨-, -,e3,e4, -,e6, -,s16, -,p16,p4⟩:=l34;refine zjm _ _ _ _ _ w (hid λW hW=>zmv _ _ _ _ _ W (hid λV hV=>zr1 4 0 3 (s4.mono (by omega)) (s0.mono (by omega)) (s3.mono (by omega)) p4 V ((hw.below hW).below hV).wd) (hid λV hV=>?_));have:=zx9 4 0 0 16 (s4.mono (by omega)) (s0.mono (by omega)) (s0.mono (by omega)) e6 p16 s16 V ((hw.below hW).below hV);rw[e3,e4] at this;simp only[n0] at this⊢;exact this
theorem q34:numS (mkRat 4 3)=[52,47,51]/\flQ (mkRat 4 3)=1/\(4:Rat)/3=mkRat 4 3/\sz (mkRat 4 3) 1/\0<=mkRat 4 3:=by
 refine⟨?_,?_,?_,⟨?_,?_⟩,?_⟩<;>decide+kernel
theorem nr34:nrQ (mkRat 3 4*12) 12=9/\(0:Rat)<=mkRat 3 4/\sz (mkRat 3 4) 2/\mkRat 3 4*12*((12:Nat):Rat)+mkRat 1 2<100000/\mkRat 3 4≠0:=by
 refine⟨?_,?_,⟨?_,?_⟩,?_,?_⟩<;>decide+kernel
theorem zrd (w:zA) (hw:Hw w):qJ 84 #[za2 ⟨#[52]⟩ ⟨#[48]⟩ ⟨#[51]⟩,.string ⟨#[51]⟩] w (.tuple #[.int .i64 1,.string ⟨#[49]⟩,.int .i64 0]):=by
 obtain⟨n0,n1,n3,n4,n5,n9, -⟩:=zdi;obtain⟨s0,s1,s3,s4,s5⟩:=sz34;have st:=zly (numS (4/3)) (numS 1) (numS (1*3)) (numS (4-1*3)) w (hid λW hW=>by rw[m34];exact zh9 4 0 3 (s4.mono (by omega)) (s0.mono (by omega)) (s3.mono (by omega)) l34.2.2.2.2.2.2.2.2.2.2 W (hw.below hW).wd) (hid λW hW=>?_) (hid λW hW=>?_) (hid λW hW=>?_) (hid λW hW=>?_) (hid λW hW=>?_) (hid λW hW=>?_) (hid λW hW=>?_)
 ·rw[show(4:Rat)-1*3=1 by decide+kernel,n1] at st
  exact st
 ·have:=zfj 3 (zd0 (by omega) (by omega) s3) W (hw.below hW).wd
  rw[n3] at this;exact this
 ·rw[m34]
  refine(zsh W (hw.below hW)).mono λe w' ⟨b,c,hc,e1,hb,c0,c1⟩=>⟨b,c,e1,hb,λV hV=>?_⟩;have hV':=((hw.below hW).below hb).below hV;have d1:=zdi.2.2.2.2.2.2;have:=yab b c (numS 4) V (zai hV c0) (by rw[<-d1];exact zai hV c1) (hid (zft 4 1 (by have:=(ze3 (q:=16) (k:=10) (by omega) (by omega) l34.2.2.2.2.2.2.2.2.2.1 l34.2.2.2.2.2.2.2.1).1;rwa [l34.2.2.1,l34.2.2.2.1] at this) V b hV' (zai hV c0) (zai hV c1) c hc).2);rw[n4] at this;exact this
 ·have:=zoj 4 3 (by decide) 1 1 (by omega) (by omega) (by omega) s4 s3 W (hw.below hW).wd
  rw[n4,n3] at this;exact this
 ·have:=zgr (mkRat 4 3) q34.2.2.2.2 (q34.2.2.2.1.mono (by omega)) W (hw.below hW).wd
  rw[q34.2.1,zc9,<-q34.2.2.1] at this;exact this
 ·have hr:=λV (hV:Wd V)=>zek 1 (zd0 (by omega) (by omega) s1) V hV
  rw[n1] at*
  refine zom W (hid λV hV=>?_) (hid λV hV=>?_)
  ·have:=hr V ((hw.below hW).below hV).wd
   rw[show itoa (Rat.num 1)=[49] by decide+kernel,show zD (Rat.den 1)=[49] by decide+kernel] at this;exact this
  ·have:=znc 1 (by decide+kernel) V
   rw[show itoa 1=[49] by decide+kernel] at this;exact this
 ·have:=zjf 1 3 1 1 (by omega) (by omega) (by omega) s1 s3 W (hw.below hW).wd
  rw[n3] at this;exact this
 ·have:=ztz 4 (1*3) 1 2 (by omega) (by omega) (by omega) s4 (zca s1 s3) W (hw.below hW).wd
  rw[n4] at this;exact this
theorem zp4 (w:zA) (hw:Hw w):qJ 28 #[] w (.bool true):=by
 obtain⟨n0,n1,n3,n4,n5,n9, -⟩:=zdi;refine zlw w (hid λW hW=>by rw[m34];exact(zse W (hw.below hW)).mono λe w' ⟨b,c,_,h⟩=>⟨b,c,h⟩) (hid λW v hW hv=>?_) (hid λW hW=>zrd W (hw.below hW));rw[<-za5 nr34.2.2.2.2] at hv;have:=zgk v (mkRat 3 4) 12 (by omega) (by omega) nr34.2.1 nr34.2.2.1 nr34.2.2.2.1 W (hw.below hW) hv;rw[nr34.1,n9] at this;exact this
theorem zj4 (a b:Nat) (ha:a<=48) (hb:1<=b):0<=((a:Nat):Rat)/((b:Nat):Rat)/\((a:Nat):Rat)/((b:Nat):Rat)<=48:=by
 have hb1:(1:Rat)<=(b:Rat):=by exact_mod_cast hb
 have ha1:((a:Nat):Rat)<=48:=by exact_mod_cast ha
 have ha0:(0:Rat)<=(a:Rat):=by exact_mod_cast Nat.zero_le a
 have hi:0<((b:Nat):Rat)⁻¹ :=Rat.inv_pos.2 (by grind);have e:((a:Nat):Rat)/((b:Nat):Rat)*((b:Nat):Rat)=a:=by grind
 have h0:0<=((a:Nat):Rat)/((b:Nat):Rat):=by rw[Rat.div_def];exact Rat.mul_nonneg ha0 (Rat.le_of_lt hi)
 refine⟨h0,?_⟩;have:=Rat.mul_le_mul_of_nonneg_left hb1 h0;grind
end
section
open Go.RowKit Go.Shelf Lib Str Limb
attribute [local go_sem] Oper.semAt_some
def nrT (u:Rat×Rat):Rat×Nat:=(u.1*(((zn7 (u.2.num.natAbs*u.2.den)).1:Rat)/(u.2.den:Rat)),(zn7 (u.2.num.natAbs*u.2.den)).2)
structure MkU (U:List (Rat×Rat)):Prop where
 gt:MkGT (U.map nrT)
 pos:∀u∈U,0<u.2
 csz:∀u∈U,sz u.1 140
 rsz:∀u∈U,sz u.2 90
def SdU (v:Value) (U:List (Rat×Rat)) (W:zA):Prop:=
 ∃p cap,v=.slice p U.length cap/\U.length<=cap/\∀i u,U[i]? =some u->∃b off,p=some ⟨b,off,none⟩/\b<W.heap.size/\W.cell? ⟨b,off+i*2,none⟩=some (St (numS u.1))/\W.cell? ⟨b,off+i*2+1,none⟩=some (St (numS u.2))
theorem zzk (c:Rat):nrT (c,1)=(c,1):=by
 unfold nrT;dsimp only;rw[show(1:Rat).num.natAbs*(1:Rat).den=1 from rfl,show zn7 1=(1,1) by decide+kernel,show(1:Rat).den=1 from rfl];congr 1;grind
theorem z0e {u:Rat×Rat} (h:(nrT u).1≠0):u.1≠0:=λe=>h (by unfold nrT;dsimp only;rw[e,Rat.zero_mul])
theorem zw6 {u:Rat×Rat} (hp:0<u.2) (h:sz u.2 90):sz (((zn7 (u.2.num.natAbs*u.2.den)).1:Rat)/(u.2.den:Rat)) 90:=by
 obtain⟨-,n0⟩:=z9b hp;have d0:=u.2.den_pos;obtain⟨e, -,h2, -⟩:=zmf (Nat.mul_pos n0 d0);refine zvm (by omega) ?_ h.2;refine Nat.lt_of_not_le λhc=>?_;have h3:=Nat.mul_le_mul hc hc;rw[<-Nat.pow_add] at h3;have h4:u.2.num.natAbs*u.2.den<10^(90+90):=zcc h.1 h.2;have h5:=Nat.le_mul_of_pos_right ((zn7 (u.2.num.natAbs*u.2.den)).1*(zn7 (u.2.num.natAbs*u.2.den)).1) h2;rw[e] at h5;omega
theorem zuc (U:List (Rat×Rat)) (hU:MkU U) (T:List (Rat×Nat)) (eT:T=U.map nrT) (X Y:Nat->List UInt8) (hX:∀i u,U[i]? =some u->X i=numS u.1/\Y i=numS u.2) (q:Option Addr) (cap:Nat) (w:zA) (HW:Hid (∀W,qL w W->Wd W)) (HP:Hid (∀W,qL w W->Pw W))
 (HT:Hid (∀i u,U[i]? =some u->∃b off,q=some ⟨b,off,none⟩/\b<w.heap.size/\w.cell? ⟨b,off+i*2,none⟩=some (St (numS u.1))/\w.cell? ⟨b,off+i*2+1,none⟩=some (St (numS u.2)))) (u vg:zA) (h1:qL w u) (h2:qL u vg) (h3:vg.heap.size=u.heap.size+1) (h4:GatL u.heap.size [] vg):
 zC zF 56 #[.slice q U.length cap,.func (.func 57) #[.pointer (some ⟨u.heap.size,0,none⟩)] #[]] vg λe w'=>e=.returned (.int .i64 0)/\zB u.heap.size vg w'/\GatL u.heap.size ((grG T T.length).map strT) w':=by
 have hT:=hU.gt;rw[<-eT] at hT;have lT:T.length=U.length:=by rw[eT,zV]
 have at_:∀i,i<U.length->∃u,U[i]? =some u:=λi hi=>⟨_,yB hi⟩;have hcr:∀(i:Nat) (c:Rat×Nat),c∈grG T i->NrmR c.2:=λi c hc=>by
  obtain⟨t,ht,e⟩:=zvl i hc;rw[<-e];exact hT.nr t ht
 have hs:=h1.size;rw[lT]
 exact z4e u.heap.size q cap U.length X Y (λi=>GatL u.heap.size ((grG T i).map strT)) (by have:=hT.len;omega)
  (hid λi hi=>by
    obtain⟨a,ha⟩:=at_ i hi;have hma:=List.mem_of_getElem? ha;have ht:T[i]? =some (nrT a):=by rw[eT,List.getElem?_map,ha];rfl
    have hmt:=List.mem_of_getElem? ht;have hn:=hT.nr _ hmt;have hne:=hT.ne _ hmt;have ha2:=hU.pos a hma;have sr:sz ((nrT a).2:Rat) 20:=zrg (by omega) hn.len;have d1:zD 1=[49]:=by rw[zae (by omega)];rfl
    have hlg:∃ln:Int,ln<=90/\qK 58 #[St (zD (nrT a).2)] (.int .i64 ln):=by
     have d:=zok (k:=20) (by omega) sr;refine⟨max (digs ((nrT a).2:Rat).num:Int) (digs (((nrT a).2:Rat).den:Int):Nat),?_,λW hW=>?_⟩
     ·have d2:digs (((nrT a).2:Rat).den:Int)<=20:=by rw[zd9];exact d.2
      have:=d.1;omega
     ·have:=znp ((nrT a).2:Rat) (zd0 (by omega) (by omega) sr) W hW
      rw[zhe] at this;exact this
    obtain⟨ln,hln,hlw⟩:=hlg;have hadd:∀W:zA,Wd W->GatL u.heap.size ((grG T i).map strT) W->zC zF 57 #[.pointer (some ⟨u.heap.size,0,none⟩),.agg #[St (numS (nrT a).1),St (zD (nrT a).2)]] W λe w'=>e=.returned (.int .i64 0)/\zB u.heap.size W w'/\GatL u.heap.size ((grG T (i+1)).map strT) w':=λW hW hg=>by
     rw[zr9 ht];exact z35 u.heap.size (grG T i) _ (by have:=zw1 T i;have:=hT.len;omega) hn (λc hc=>hcr i c hc) (λc hc=>hT.mid i (by omega) c hc) (hT.tsz _ hmt) W hW hg
    rw[(hX i a ha).1,(hX i a ha).2];have hcz:=zsf (z0e hne);have hrz:(numS a.2==[48])=false:=zsf (λe=>by rw[e] at ha2;exact absurd ha2 (by decide));by_cases e1:a.2=1
    ·have e2:nrT a=(a.1,1):=by rw[show a=(a.1,1) from by rw[<-e1]];exact zzk a.1
     rw[e2] at hlw hadd;dsimp only at hlw hadd;refine⟨true,[49],zD 1,numS a.1,ln,hcz,hrz,by rw[e1,zfc];rfl,λ_=>⟨rfl,by rw[e1,zfc,d1]⟩,λh=>(by cases h),hlw,decide_eq_false (by omega),λW hW=>?_,λW W' h hb=>GatL.keep h (zac hb),hadd⟩;have:=z61 a.1 1 a.1 140 1 (by omega) (by omega) (by omega) (hU.csz a hma) zb7.2.1 (by rw[Rat.mul_one]) W hW;rw[zfc] at this;exact this
    ·obtain⟨C,hC⟩:=zzX ((zn7 (a.2.num.natAbs*a.2.den)).1)
     obtain⟨L,hL⟩:=zzX ((zn7 (a.2.num.natAbs*a.2.den)).2);have hnq:=λW hW hP=>z7a a.2 ha2 (hU.rsz a hma) W hW hP;have hsz:=zw6 ha2 (hU.rsz a hma);have e3:nrT a=(a.1*((C:Rat)/(a.2.den:Rat)),L):=by unfold nrT;rw[<-hC,<-hL]
     rw[<-hC,<-hL] at hnq;rw[<-hC] at hsz;rw[e3] at hlw hadd;dsimp only at hlw hadd;clear hC hL e3 ht hmt hn hne sr;refine⟨false,numS ((C:Rat)/(a.2.den:Rat)),zD L,numS (a.1*((C:Rat)/(a.2.den:Rat))),ln,hcz,hrz,?_,λh=>(by cases h),λ_ W hW hP=>hnq W hW hP,hlw,decide_eq_false (by omega),λW hW=>?_,λW W' h hb=>GatL.keep h (zac hb),hadd⟩
     ·rw[beq_eq_false_iff_ne,<-zfc]
      exact λe=>e1 (zh0 e)
     ·exact zjf _ _ 140 90 (by omega) (by omega) (by omega) (hU.csz a hma) hsz W hW) vg (by omega)
  (hid λW h=>HW.out _ (h1.trans ((h2.trans h).mono hs))) (hid λW h=>HP.out _ (h1.trans ((h2.trans h).mono hs))) h4
  (hid λi hi=>by
    obtain⟨t,ht⟩:=at_ i hi;obtain⟨b,off,e,hb,c0,c1⟩:=HT.out i t ht;have hB:qL w vg:=h1.trans (h2.mono hs);rw[(hX i t ht).1,(hX i t ht).2];exact⟨b,off,e,by omega,by rw[hB.cell (p:=⟨b,off+i*2,none⟩) hb];exact c0,by rw[hB.cell (p:=⟨b,off+i*2+1,none⟩) hb];exact c1⟩)
theorem zpe (q:Rat) (h:0<=q.num):Lib.hasPrefix (numS q) [45]=false:=by
 obtain⟨c,r,e,hc,_⟩:=dec_head q.num.natAbs;have e1:itoa q.num=zD q.num.natAbs:=by
  rcases zbg q.num with⟨_,e⟩|⟨h',_⟩
  ·exact e
  ·omega
 have hc5:c≠45:=λh=>by subst h;simp at hc
 unfold numS;rw[e1,e];simp[Lib.hasPrefix,List.isPrefixOf,Ne.symm hc5]
theorem zud (q:Rat) (hq:0<q) (W:zA):zC zF 55 #[St (numS q),.string ⟨#[45]⟩] W λe w'=>e=.returned (.bool false)/\w'=W:=by
 have hc:=Tryz.strings_HasPrefix ⟨(numS q).toArray⟩ ⟨#[45]⟩ W;have hp:Lib.hasPrefix (numS q) [45]=false:=zpe q (Rat.num_nonneg.2 (Rat.le_of_lt hq));rw[show(⟨(numS q).toArray⟩:ByteArray).data.toList=numS q from rfl,show(⟨#[45]⟩:ByteArray).data.toList=[45] from rfl,hp] at hc;exact hc
theorem z0f (U:List (Rat×Rat)) (hU:MkU U) (v:Value) (w:zA) (HW:Hid (∀W,qL w W->Wd W)) (HP:Hid (∀W,qL w W->Pw W)) (hs:SdU v U w):
 zC zF 13 #[v] w (MkOut (mkG (U.map nrT)) w):=by
 obtain⟨q,cap,rfl, -,hx⟩:=hs;have HT:=hid hx;obtain⟨T,eT⟩:=zzX (U.map nrT);have hT:=hU.gt;rw[<-eT] at hT⊢;have lT:T.length=U.length:=by rw[eT,zV]
 have at_:∀i,i<U.length->∃u,U[i]? =some u:=λi hi=>⟨_,yB hi⟩;let X:Nat->List UInt8:=λi=>numS ((U[i]?.getD (1,1)).1);let Y:Nat->List UInt8:=λi=>numS ((U[i]?.getD (1,1)).2);have hX:∀i u,U[i]? =some u->X i=numS u.1/\Y i=numS u.2:=λi t h=>⟨by show numS ((U[i]?.getD (1,1)).1)=_;rw[h];rfl,by show numS ((U[i]?.getD (1,1)).2)=_;rw[h];rfl⟩;have hk:zin ((grG T T.length).map strT)=(keG T).map strT:=by rw[zi3,zuk];rfl
 have hgl:(grG T T.length).length<=T.length:=zw1 T _;have hlen:=hT.len;have hkl:=(zw5 T).2;have hcr:∀(i:Nat) (c:Rat×Nat),c∈grG T i->NrmR c.2:=λi c hc=>by
  obtain⟨t,ht,e⟩:=zvl i hc;rw[<-e];exact hT.nr t ht
 have CK:Hid (∀i,i<U.length->qK 54 #[St (X i)] (.int .i64 0)):=hid λi hi W hW=>by
  obtain⟨u,hu⟩:=at_ i hi;rw[(hX i u hu).1];exact zfj u.1 (zd0 (by omega) (by omega) (hU.csz u (List.mem_of_getElem? hu))) W hW
 have RK:Hid (∀i,i<U.length->qK 54 #[St (Y i)] (.int .i64 0)):=hid λi hi W hW=>by
  obtain⟨u,hu⟩:=at_ i hi;rw[(hX i u hu).2];exact zfj u.2 (zd0 (by omega) (by omega) (hU.rsz u (List.mem_of_getElem? hu))) W hW
 have PF:Hid (∀i,i<U.length->∀W:zA,zC zF 55 #[St (Y i),.string ⟨#[45]⟩] W λe w'=>e=.returned (.bool false)/\w'=W):=hid λi hi W=>by
  obtain⟨u,hu⟩:=at_ i hi;rw[(hX i u hu).2];exact zud u.2 (hU.pos u (List.mem_of_getElem? hu)) W
 have HT2:Hid (∀i,i<U.length->∃b off,q=some ⟨b,off,none⟩/\b<w.heap.size/\w.cell? ⟨b,off+i*2,none⟩=some (St (X i))/\w.cell? ⟨b,off+i*2+1,none⟩=some (St (Y i))):=hid λi hi=>by
  obtain⟨t,ht⟩:=at_ i hi;rw[(hX i t ht).1,(hX i t ht).2];exact HT.out i t ht
 have VIS:=hid λ(u vg:zA) h1 h2 h3 h4=>zuc U hU T eT X Y hX q cap w HW HP HT u vg h1 h2 h3 h4;have mid:=hT.fin;have lng:∀(c:Rat×Nat),c∈grG T T.length->(sz c.1 60->decide (60<(max (digs c.1.num:Int) (digs (c.1.den:Int):Nat)))=false)/\(¬sz c.1 60->decide (60<(max (digs c.1.num:Int) (digs (c.1.den:Int):Nat)))=true):=λc hc=>by
  refine⟨λh=>?_,λh=>?_⟩
  ·have da:=zok (k:=60) (by omega) h
   have da2:digs (c.1.den:Int)<=60:=by rw[zd9];exact da.2
   exact decide_eq_false (by have:=da.1;omega)
  ·refine decide_eq_true ?_
   have:¬(digs c.1.num<=60/\digs (c.1.den:Int)<=60):=λ⟨k1,k2⟩=>h ⟨(za3 _ _ (by omega)).1 k1,by have:=(za3 _ _ (by omega)).1 k2;rwa [Int.natAbs_natCast] at this⟩;omega
 have core:=λ(j0:Nat) (h60:∀(i:Nat) (c:Rat×Nat),i<j0->(grG T T.length)[i]? =some c->c.1≠0->sz c.1 60) EN=>zl0 q cap U.length X Y ((grG T T.length).map strT) ((mkG T).map strT) j0 (by omega) (by rw[zV];omega) CK RK PF w HW HT2 VIS
  (hid λi d hij hd h0=>by
    rw[List.getElem?_map,Option.map_eq_some_iff] at hd;obtain⟨c,hc,rfl⟩:=hd;have hmc:=List.mem_of_getElem? hc;have hne:c.1≠0:=λe=>by
     have:((strT c).1==[48])=true:=by unfold strT;rw[e];simp[zie]
     rw[this] at h0;cases h0
    have s60:=h60 i c hij hc hne;have hn:=hcr _ c hmc;have sr:sz (c.2:Rat) 20:=zrg (by omega) hn.len;have dr:=zok (k:=20) (by omega) sr;have dr2:digs ((c.2:Rat).den:Int)<=20:=by rw[zd9];exact dr.2
    refine⟨max (digs c.1.num:Int) (digs (c.1.den:Int):Nat),max (digs (c.2:Rat).num:Int) (digs ((c.2:Rat).den:Int):Nat),λW hW=>znp c.1 (zd0 (by omega) (by omega) s60) W hW,λW hW=>?_,(lng c hmc).1 s60,decide_eq_false (by have:=dr.1;omega)⟩;have:=znp (c.2:Rat) (zd0 (by omega) (by omega) sr) W hW;rw[zhe] at this;exact this) EN
 rcases zyf (λc:Rat×Nat=>!decide (c.1=0)&&!decide (sz c.1 60)) (grG T T.length) with hgood|⟨j,c,hj,hb,hbe⟩
 ·have h60:∀c∈grG T T.length,c.1≠0->sz c.1 60:=λc hc hne=>by simpa [hne] using hgood c hc
  refine(core (grG T T.length).length (λi c _ hc hne=>h60 c (List.mem_of_getElem? hc) hne) (hid (.inl ⟨by rw[zV],by rw[hk,zV];omega,λB W p c h1 h2 h3 h4=>by
   rw[hk,zV] at h4⊢;have hp:PosR T:=λt ht=>by have:=(hT.nr t ht).pos;exact_mod_cast this
   exact z34 B (keG T) (by omega) (z1u hp) (λt ht=>by
    have h2:=List.mem_filter.1 ht;rw[<-zuk] at h2;exact hcr _ t h2.1) p c W (hid λV hV=>HW.out V (h1.trans (hV.mono h2))) h3 h4⟩))).mono λe w' ⟨q',m,c',r,e1,hb,h⟩=>?_
  rcases h with⟨rfl,_,rfl,ho⟩|⟨_,h,_⟩
  ·refine⟨_,_,_,_,e1,hb,.inl ⟨rfl,?_,λc hc=>h60 c (zx8 hc).1 (zx8 hc).2⟩⟩
   rw[hk,zV] at ho;have:(keG T).length=(mkG T).length:=(zw5 T).1.symm;rw[hk,zV];exact SdL.own ho this
  ·rw[zV] at h;omega
 ·have hmc:=List.mem_of_getElem? hj
  rw[Bool.and_eq_true,Bool.not_eq_true',Bool.not_eq_true',decide_eq_false_iff_not,decide_eq_false_iff_not] at hb;have hjl:=(List.getElem?_eq_some_iff.1 hj).1;refine(core j (λi c hij hc hne=>by simpa [hne] using hbe i c hij hc) (hid (.inr ⟨(strT c).1,(strT c).2,_,by rw[List.getElem?_map,hj];rfl,zsf hb.1,(lng c hmc).2 hb.2,λW hW=>znp c.1 (zd0 (k:=200) (by omega) (by omega) (mid c hmc)) W hW⟩))).mono λe w' ⟨q',m,c',r,e1,hb',h⟩=>?_;rcases h with⟨_,h,_⟩|⟨rfl,_,rfl,rfl,rfl⟩
  ·rw[zV] at h;omega
  ·refine⟨_,_,_,_,e1,hb',.inr ⟨rfl,rfl,λh=>hb.2 (h c ((zvb c _).2 ?_))⟩⟩
   unfold keG;rw[<-zuk];exact List.mem_filter.2 ⟨hmc,by simp[hb.1]⟩
end
section
open Go.RowKit Go.Shelf Lib Str Limb
def tn (q:Nat):Rat:=((10^q:Nat):Rat)
end
section
open Go.RowKit Go.Shelf Lib Str Limb
attribute [local go_sem] Oper.semAt_some
theorem zi0 {T:List (Rat×Nat)} (h:∀t∈T,sz t.1 30/\NrmR t.2):∀i,∀c∈grG T i,sz c.1 (41*i)
 |0=>λc hc=>(by unfold grG at hc;rw[List.take_zero] at hc;cases hc)
 |i+1=>λc hc=>by
  have hn:∀d∈grG T i,NrmR d.2:=λd hd=>by
   obtain⟨t,ht,e⟩:=zvl i hd;rw[<-e];exact(h t ht).2
  cases ht:T[i]? with
  |none=>
   rw[zwy ht] at hc;exact(zi0 h i c hc).mono (by omega)
  |some t=>
   rw[zr9 ht] at hc;obtain⟨s1,n1⟩:=h t (List.mem_of_getElem? ht);rcases zm7 t (grG T i) with⟨-,e⟩|⟨j,d,hj, -, -,e⟩
   ·rw[e] at hc
    rcases List.mem_append.1 hc with hc|hc
    ·exact(zi0 h i c hc).mono (by omega)
    ·obtain rfl:=List.mem_singleton.1 hc
     exact s1.mono (by omega)
   ·rw[e] at hc
    have hd:=List.mem_of_getElem? hj;have s2:=zi0 h i d hd;have n2:=hn d hd;have hi:0<i:=Nat.pos_of_ne_zero λe=>by
     rw[e] at hd;unfold grG at hd;rw[List.take_zero] at hd;cases hd
    rcases List.mem_or_eq_of_mem_set hc with hc|rfl
    ·exact(zi0 h i c hc).mono (by omega)
    ·have a:=zx2 n1;have b:=zx2 n2
     have pa:=n1.pos;have pb:=n2.pos;unfold plG;split
     ·exact(zk0 s1 (zca s2 (zzs (k:=10) (zvm (k:=20) (by omega) b a)))).mono (by omega)
     ·exact(zk0 s2 (zca s1 (zzs (k:=10) (zvm (k:=20) (by omega) a b)))).mono (by omega)
theorem zw7 {L:List (Rat×Nat)} (hl:L.length<=4) (h:∀c∈L,c.1≠0/\sz c.1 30/\NrmR c.2):MkGT L:=by
 have hT:∀c∈L,sz c.1 30/\NrmR c.2:=λc hc=>(h c hc).2;exact⟨Nat.le_trans hl (by omega),λc hc=>(h c hc).1,λc hc=>(hT c hc).1.mono (by omega),λc hc=>(hT c hc).2,λi hi c hc=>(zi0 hT i c hc).mono (by omega),λc hc=>(zi0 hT _ c hc).mono (by omega)⟩
end
end Go.Proofs.YtmeekcnlacckfaaGreatDoor
