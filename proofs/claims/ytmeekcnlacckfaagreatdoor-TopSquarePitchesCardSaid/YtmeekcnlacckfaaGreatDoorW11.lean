/- kingposttop.top34Member and top34Awake, and square.Steps, by their contracts. -/
import Derived.Test.YtmeekcnlacckfaaGreatDoorW10
import Derived.LaidByTextLater
set_option maxRecDepth 100000
set_option maxHeartbeats 8000000
open Go renaming World → zA, Calls → zC
open Go.RowKit renaming Below → zB
open Go.Lib renaming decDigits → zD
open Go.Proofs.Tryz renaming prog → zF
open Go.World renaming alloc_heap_new → zG
open Go.Joins renaming cell_of_block → zJ
open Go.RowKit.Below renaming refl → zM
open Nat renaming le_refl → zN
namespace Go.Proofs.YtmeekcnlacckfaaGreatDoor
section
open Go.RowKit Go.Shelf Lib Str Limb
attribute [local go_sem] Oper.semAt_some
def za2:Value:=.agg #[.int .i64 1,.int .i64 0,.int .i64 (-1),.string ⟨#[48]⟩,.string ⟨#[48]⟩,.string ⟨#[48]⟩,.string ⟨#[52]⟩,.string ⟨#[48]⟩,.string ⟨#[51]⟩,.int .i64 60,.int .i64 180]
theorem zhg (w:zA):zC zF 31 #[.string ⟨#[52]⟩,.string ⟨#[48]⟩,.string ⟨#[51]⟩] w λe w'=>e=.returned za2/\zB w.heap.size w w':=by
 go_enter Tryz.func31,Tryz.ntmps31;go_wp21;exact bodyPost_ret (v:=za2) (by simp[results,Tryz.results31,go_sem,za2]) rfl ⟨rfl,(zM _ w).alloc (zN _) _⟩
theorem zlw (w:zA)
 (LE:Hid (∀W:zA,qL w W->zC zF 30 #[za2] W λe w'=>∃b c,e=.returned (.tuple #[.slice (some ⟨b,0,none⟩) 1 c,.int .i64 0])/\zB W.heap.size W w'/\w'.cell? ⟨b,0,none⟩=some (.string ⟨#[53]⟩)/\w'.cell? ⟨b,1,none⟩=some (.string ⟨#[49]⟩)))
 (SH:Hid (∀(W:zA) (v:Value),qL w W->SdL v [(mkRat 3 4,1)] W->qJ 24 #[v,.int .i64 12] W (.tuple #[.string ⟨#[57]⟩,.int .i64 0])))
 (ST:Hid (∀W:zA,qL w W->qJ 84 #[za2,.string ⟨#[51]⟩] W (.tuple #[.int .i64 1,.string ⟨#[49]⟩,.int .i64 0]))):
 qJ 28 #[] w (.bool true):=by
 have D0:=hid (zM w.heap.size w);have M0:=hid zhg;generalize za2=m at*
 go_enter Tryz.func28,Tryz.ntmps28;go_wp21;refine zzM (M0.out w) λw1 hb=>?_;have D1:=hid (D0.out.trans (hb.mono D0.out.size));clear hb D0;go_wp21;refine(LE.out w1 D1.out).mono ?_;rintro e w2 ⟨b,c,rfl,hb,c0,c1⟩;have D2:=hid (D1.out.trans (hb.mono D1.out.size));have C0:=hid c0;have C1:=hid c1;clear hb c0 c1 D1 LE;obtain⟨v2,hv⟩:=zzX (w2.alloc (.cells #[.string ⟨#[51,47,52]⟩,.string ⟨#[49]⟩] 37));have d1:St (zD 1)=.string ⟨#[49]⟩:=by rw[zae (by omega)];rfl
 have hl:=SdL.laid w2 (mkRat 3 4) 1 ⟨#[51,47,52]⟩ ⟨#[49]⟩ (by rw[show numS (mkRat 3 4)=[51,47,52] by decide+kernel]<;>rfl) d1 v2 hv;have a1:qL w2 v2:=by rw[hv];exact(zM _ w2).alloc (zN _) _
 have E2:=D2.out.trans (a1.mono D2.out.size);have HS:=hid (SH.out v2 _ E2 hl);have HV:=hid hv.symm;have D3:=hid E2;replace C0:=hid (zai a1 C0.out);replace C1:=hid (zai a1 C1.out);clear hv a1 hl E2 SH D2;go_wp21;have h9:=HV.out;rw[h9];clear h9 HV;refine zzM HS.out λw3 hb=>?_;have D4:=hid (D3.out.trans (hb.mono D3.out.size));replace C0:=hid (zai hb C0.out);replace C1:=hid (zai hb C1.out);clear hb D3 HS;go_wp21;refine zzM (M0.out w3) λw4 hb=>?_;have D5:=hid (D4.out.trans (hb.mono D4.out.size));replace C0:=hid (zai hb C0.out);replace C1:=hid (zai hb C1.out);clear hb D4 M0;go_wp21;refine zzM (ST.out w4 D5.out) λw5 hb=>?_;have D6:=hid (D5.out.trans (hb.mono D5.out.size));have c0:=zai hb C0.out;have c1:=zai hb C1.out;clear hb D5 ST C0 C1;go_wp21;go_ret;exact⟨rfl,D6.out⟩
structure Mb (b:Nat) (W:zA):Prop where
 h:W.heap[b]? =some (.cells #[.int .i64 1,.int .i64 0,.int .i64 (-1),.string ⟨#[48]⟩,.string ⟨#[48]⟩,.string ⟨#[48]⟩,.string ⟨#[52]⟩,.string ⟨#[48]⟩,.string ⟨#[51]⟩,.int .i64 60,.int .i64 180] 60 (0,0))
theorem Mb.below {b:Nat} {W W':zA} (h:Mb b W) (hb:qL W W'):Mb b W':=⟨zac hb _ _ _ _ h.h⟩
theorem Mb.cells {b:Nat} {W:zA} (h:Mb b W):W.cell? ⟨b,0,none⟩=some (.int .i64 1)/\W.cell? ⟨b,1,none⟩=some (.int .i64 0)/\W.cell? ⟨b,2,none⟩=some (.int .i64 (-1))/\W.cell? ⟨b,3,none⟩=some (.string ⟨#[48]⟩)/\W.cell? ⟨b,4,none⟩=some (.string ⟨#[48]⟩)/\W.cell? ⟨b,5,none⟩=some (.string ⟨#[48]⟩)/\
 W.cell? ⟨b,6,none⟩=some (.string ⟨#[52]⟩)/\W.cell? ⟨b,7,none⟩=some (.string ⟨#[48]⟩)/\W.cell? ⟨b,8,none⟩=some (.string ⟨#[51]⟩)/\W.cell? ⟨b,9,none⟩=some (.int .i64 60)/\W.cell? ⟨b,10,none⟩=some (.int .i64 180):=by
 have c:=λo u (hu:(#[.int .i64 1,.int .i64 0,.int .i64 (-1),.string ⟨#[48]⟩,.string ⟨#[48]⟩,.string ⟨#[48]⟩,.string ⟨#[52]⟩,.string ⟨#[48]⟩,.string ⟨#[51]⟩,.int .i64 60,.int .i64 180]:Array Value)[o]? =some u)=>(show W.cell? ⟨b,o,none⟩=some u by rw[zJ h.h];exact hu);exact⟨c 0 _ rfl,c 1 _ rfl,c 2 _ rfl,c 3 _ rfl,c 4 _ rfl,c 5 _ rfl,c 6 _ rfl,c 7 _ rfl,c 8 _ rfl,c 9 _ rfl,c 10 _ rfl⟩
theorem zly (q f g l:List UInt8) (w:zA)
 (CK:Hid (∀W:zA,qL w W->qJ 146 #[za2] W (.int .i64 0)))
 (RC:Hid (∀W:zA,qL w W->qJ 54 #[.string ⟨#[51]⟩] W (.int .i64 0)))
 (RU:Hid (∀W:zA,qL w W->zC zF 147 #[za2] W λe w'=>∃b c,e=.returned (.tuple #[.slice (some ⟨b,0,none⟩) 1 c,.int .i64 0])/\zB W.heap.size W w'/\
   ∀V:zA,qL w' V->zC zF 68 #[.slice (some ⟨b,0,none⟩) 1 c] V λe v'=>e=.returned (.tuple #[.string ⟨#[52]⟩,.bool true,.int .i64 0])/\zB V.heap.size V v'))
 (DV:Hid (∀W:zA,qL w W->qJ 101 #[.string ⟨#[52]⟩,.string ⟨#[51]⟩] W (.tuple #[St q,.int .i64 0])))
 (FL:Hid (∀W:zA,qL w W->qJ 148 #[St q] W (.tuple #[St f,.int .i64 0])))
 (IN:Hid (∀W:zA,qL w W->qJ 149 #[St f] W (.tuple #[.int .i64 1,.int .i64 0])))
 (MU:Hid (∀W:zA,qL w W->qJ 11 #[St f,.string ⟨#[51]⟩] W (.tuple #[St g,.int .i64 0])))
 (SB:Hid (∀W:zA,qL w W->qJ 10 #[.string ⟨#[52]⟩,St g] W (.tuple #[St l,.int .i64 0]))):
 qJ 84 #[za2,.string ⟨#[51]⟩] w (.tuple #[.int .i64 1,St l,.int .i64 0]):=by
 obtain⟨v1,hv⟩:=zzX (w.alloc (.cells #[.int .i64 1,.int .i64 0,.int .i64 (-1),.string ⟨#[48]⟩,.string ⟨#[48]⟩,.string ⟨#[48]⟩,.string ⟨#[52]⟩,.string ⟨#[48]⟩,.string ⟨#[51]⟩,.int .i64 60,.int .i64 180] 60));have a1:qL w v1:=by rw[hv];exact(zM _ w).alloc (zN _) _
 have m1:Mb w.heap.size v1:=⟨by rw[hv];exact zG w _⟩;have HV:=hid hv.symm;have B0:=hid a1;have M0:=hid m1;obtain⟨k0,k1,k2,k3,k4,k5,k6,k7,k8,k9,k10⟩:=m1.cells;rw[hv] at k0 k1 k2 k3 k4 k5 k6 k7 k8 k9 k10;clear hv a1 m1;unfold za2 at CK RU⊢;go_enter Tryz.func84,Tryz.ntmps84;go_wp21;rw[HV.out];clear k0 k1 k2 k3 k4 k5 k6 k7 k8 k9 k10 HV;refine zzM (CK.out v1 B0.out) λw1 hb=>?_;have B1:=hid (B0.out.trans (hb.mono B0.out.size));have M1:=hid (M0.out.below hb);clear hb B0 M0 CK;go_wp21;refine zzM (RC.out w1 B1.out) λw2 hb=>?_;have B2:=hid (B1.out.trans (hb.mono B1.out.size));have M2:=hid (M1.out.below hb);clear hb B1 M1 RC;obtain⟨k0,k1,k2,k3,k4,k5,k6,k7,k8,k9,k10⟩:=M2.out.cells;go_wp21;clear k0 k1 k2 k3 k4 k5 k6 k7 k8 k9 k10 M2;refine(RU.out w2 B2.out).mono ?_;rintro e w3 ⟨b,c,rfl,hb,hv⟩;have B3:=hid (B2.out.trans (hb.mono B2.out.size));have V3:=hid (hv w3 (zM _ _));clear hb B2 RU hv;go_wp21;refine zzM V3.out λw4 hb=>?_;have B4:=hid (B3.out.trans (hb.mono B3.out.size));clear hb B3 V3;go_wp21;refine zzM (DV.out w4 B4.out) λw5 hb=>?_;have B5:=hid (B4.out.trans (hb.mono B4.out.size));clear hb B4 DV;go_wp21;refine zzM (FL.out w5 B5.out) λw6 hb=>?_;have B6:=hid (B5.out.trans (hb.mono B5.out.size));clear hb B5 FL;go_wp21;refine zzM (IN.out w6 B6.out) λw7 hb=>?_;have B7:=hid (B6.out.trans (hb.mono B6.out.size));clear hb B6 IN;go_wp21;refine zzM (MU.out w7 B7.out) λw8 hb=>?_;have B8:=hid (B7.out.trans (hb.mono B7.out.size));clear hb B7 MU;go_wp21;refine zzM (SB.out w8 B8.out) λw9 hb=>?_
 have B9:=hid (B8.out.trans (hb.mono B8.out.size));clear hb B8 SB;go_wp21;go_ret3;exact⟨rfl,B9.out⟩
theorem zda (n a b:Int) (h1:a<=n) (h2:n<=b) (w:zA):qJ 220 #[.int .i64 n,.int .i64 a,.int .i64 b] w (.bool false):=by
 have d1:decide (n<a)=false:=decide_eq_false (by omega);have d2:decide (b<n)=false:=decide_eq_false (by omega);have d3:¬n<a:=by omega
 have d4:¬b<n:=by omega
 go_enter Tryz.func220,Tryz.ntmps220;go_wp21;go_ret;exact⟨rfl,zM _ _⟩
theorem za4 {b:Nat} {W:zA} {x y z:Value} {t:TypeId} (h:W.heap[b]? =some (.cells #[x,y,z] t (0,0))):W.cell? ⟨b,0,none⟩=some x/\W.cell? ⟨b,1,none⟩=some y/\W.cell? ⟨b,2,none⟩=some z:=by
 refine⟨?_,?_,?_⟩<;>rw[zJ h]<;>rfl
theorem zgs {b:Nat} {W:zA} {x y z x' y' z':Value} {t:TypeId} (h:W.heap[b]? =some (.cells #[x,y,z,x',y',z'] t (0,0))):W.cell? ⟨b,0,none⟩=some x/\W.cell? ⟨b,1,none⟩=some y/\W.cell? ⟨b,2,none⟩=some z/\W.cell? ⟨b,3,none⟩=some x'/\W.cell? ⟨b,4,none⟩=some y'/\W.cell? ⟨b,5,none⟩=some z':=by
 refine⟨?_,?_,?_,?_,?_,?_⟩<;>rw[zJ h]<;>rfl
theorem zhi (w:zA)
 (V1:Hid (∀W:zA,qL w W->qJ 221 #[.agg #[.string ⟨#[48]⟩,.string ⟨#[48]⟩,.string ⟨#[48]⟩]] W (.int .i64 0)))
 (V2:Hid (∀W:zA,qL w W->qJ 221 #[.agg #[.string ⟨#[52]⟩,.string ⟨#[48]⟩,.string ⟨#[51]⟩]] W (.int .i64 0)))
 (L1:Hid (∀W:zA,qL w W->qJ 222 #[.agg #[.string ⟨#[48]⟩,.string ⟨#[48]⟩,.string ⟨#[48]⟩]] W (.bool false)))
 (L2:Hid (∀W:zA,qL w W->qJ 222 #[.agg #[.string ⟨#[52]⟩,.string ⟨#[48]⟩,.string ⟨#[51]⟩]] W (.bool false))):
 qJ 146 #[za2] w (.int .i64 0):=by
 obtain⟨v1,hv⟩:=zzX (w.alloc (.cells #[.int .i64 1,.int .i64 0,.int .i64 (-1),.string ⟨#[48]⟩,.string ⟨#[48]⟩,.string ⟨#[48]⟩,.string ⟨#[52]⟩,.string ⟨#[48]⟩,.string ⟨#[51]⟩,.int .i64 60,.int .i64 180] 60));have a1:qL w v1:=by rw[hv];exact(zM _ w).alloc (zN _) _
 have m1:Mb w.heap.size v1:=⟨by rw[hv];exact zG w _⟩;have HV:=hid hv.symm;have B0:=hid a1;have M0:=hid m1;obtain⟨k0,k1,k2,k3,k4,k5,k6,k7,k8,k9,k10⟩:=m1.cells;rw[hv] at k0;clear hv a1 m1 k1 k2 k3 k4 k5 k6 k7 k8 k9 k10;unfold za2;go_enter Tryz.func146,Tryz.ntmps146;go_wp21;rw[HV.out];clear k0 HV;refine zzM (zda 1 1 12 (by omega) (by omega) v1) λw1 hb=>?_;have B1:=hid (B0.out.trans (hb.mono B0.out.size));have M1:=hid (M0.out.below hb);clear hb B0 M0;obtain⟨k0,k1,k2,k3,k4,k5,k6,k7,k8,k9,k10⟩:=M1.out.cells;go_wp21;clear k0 k1 k2 k3 k4 k5 k6 k7 k8 k9 k10;refine zzM (zda 60 1 1000 (by omega) (by omega) w1) λw2 hb=>?_;have B2:=hid (B1.out.trans (hb.mono B1.out.size));have M2:=hid (M1.out.below hb);clear hb B1 M1;obtain⟨k0,k1,k2,k3,k4,k5,k6,k7,k8,k9,k10⟩:=M2.out.cells;go_wp21;clear k0 k1 k2 k3 k4 k5 k6 k7 k8 k9 k10;refine zzM (zda 180 1 1000 (by omega) (by omega) w2) λw3 hb=>?_;have B3:=hid (B2.out.trans (hb.mono B2.out.size));have M3:=hid (M2.out.below hb);clear hb B2 M2;obtain⟨k0,k1,k2,k3,k4,k5,k6,k7,k8,k9,k10⟩:=M3.out.cells;obtain⟨v3,hv⟩:=zzX (w3.alloc (.cells #[.string ⟨#[48]⟩,.string ⟨#[48]⟩,.string ⟨#[48]⟩,.string ⟨#[52]⟩,.string ⟨#[48]⟩,.string ⟨#[51]⟩] 58));have a3:qL w3 v3:=by rw[hv];exact(zM _ w3).alloc (zN _) _
 have s3:v3.heap[w3.heap.size]? =some (.cells #[.string ⟨#[48]⟩,.string ⟨#[48]⟩,.string ⟨#[48]⟩,.string ⟨#[52]⟩,.string ⟨#[48]⟩,.string ⟨#[51]⟩] 58 (0,0)):=by rw[hv];exact zG w3 _
 have HV:=hid hv.symm;have B4:=hid (B3.out.trans (a3.mono B3.out.size));have M4:=hid (M3.out.below a3);have S4:=hid s3;clear hv a3 s3 B3 M3;go_wp21;rw[HV.out];clear k0 k1 k2 k3 k4 k5 k6 k7 k8 k9 k10 HV;refine wp_loop_rounds 3 ?_;rw[rounds_succ];obtain⟨v4,hv⟩:=zzX (v3.alloc (.cells #[.string ⟨#[48]⟩,.string ⟨#[48]⟩,.string ⟨#[48]⟩] 58));have a4:qL v3 v4:=by rw[hv];exact(zM _ v3).alloc (zN _) _
 obtain⟨t0,t1,t2⟩:=za4 (show v4.heap[v3.heap.size]? =some (.cells #[.string ⟨#[48]⟩,.string ⟨#[48]⟩,.string ⟨#[48]⟩] 58 (0,0)) by rw[hv];exact zG v3 _);obtain⟨s0,s1,s2,s3,s4,s5⟩:=zgs S4.out;have HV:=hid hv.symm;have B5:=hid (B4.out.trans (a4.mono B4.out.size));have M5:=hid (M4.out.below a4);have S5:=hid (zac a4 _ _ _ _ S4.out);rw[hv] at t0 t1 t2;clear hv a4 B4 M4 S4;go_wp21;rw[HV.out];clear t0 t1 t2 s0 s1 s2 s3 s4 s5 HV;refine zzM (V1.out v4 B5.out) λw5 hb=>?_;have B6:=hid (B5.out.trans (hb.mono B5.out.size));have M6:=hid (M5.out.below hb);have S6:=hid (zac hb _ _ _ _ S5.out);clear hb B5 M5 S5 V1;go_wp21;rw[rounds_succ];obtain⟨v6,hv⟩:=zzX (w5.alloc (.cells #[.string ⟨#[52]⟩,.string ⟨#[48]⟩,.string ⟨#[51]⟩] 58));have a6:qL w5 v6:=by rw[hv];exact(zM _ w5).alloc (zN _) _
 obtain⟨t0,t1,t2⟩:=za4 (show v6.heap[w5.heap.size]? =some (.cells #[.string ⟨#[52]⟩,.string ⟨#[48]⟩,.string ⟨#[51]⟩] 58 (0,0)) by rw[hv];exact zG w5 _);obtain⟨s0,s1,s2,s3,s4,s5⟩:=zgs S6.out;have HV:=hid hv.symm;have B7:=hid (B6.out.trans (a6.mono B6.out.size));have M7:=hid (M6.out.below a6);rw[hv] at t0 t1 t2;clear hv a6 B6 M6 S6;go_wp21;rw[HV.out];clear t0 t1 t2 s0 s1 s2 s3 s4 s5 HV;refine zzM (V2.out v6 B7.out) λw7 hb=>?_;have B8:=hid (B7.out.trans (hb.mono B7.out.size));have M8:=hid (M7.out.below hb);clear hb B7 M7 V2;go_wp21;rw[rounds_succ];obtain⟨k0,k1,k2,k3,k4,k5,k6,k7,k8,k9,k10⟩:=M8.out.cells;go_wp21;clear k0 k1 k2 k3 k4 k5 k6 k7 k8 k9 k10;refine zzM (L1.out w7 B8.out) λw8 hb=>?_;have B9:=hid (B8.out.trans (hb.mono B8.out.size));have M9:=hid (M8.out.below hb);clear hb B8 M8 L1;obtain⟨k0,k1,k2,k3,k4,k5,k6,k7,k8,k9,k10⟩:=M9.out.cells;go_wp21;clear k0 k1 k2 k3 k4 k5 k6 k7 k8 k9 k10;refine zzM (L2.out w8 B9.out) λw9 hb=>?_;have B10:=hid (B9.out.trans (hb.mono B9.out.size));have M10:=hid (M9.out.below hb);clear hb B9 M9 L2;obtain⟨k0,k1,k2,k3,k4,k5,k6,k7,k8,k9,k10⟩:=M10.out.cells;go_wp21;go_ret;exact⟨rfl,B10.out⟩
theorem zny (a0 a1 a2 b0 b1 b2 c0 c1 c2:List UInt8) (w:zA)
 (BO:Hid (∀W:zA,qL w W->qJ 356 #[.agg #[St a0,St a1,St a2],.agg #[St b0,St b1,St b2]] W (.int .i64 0)))
 (WI:Hid (∀W:zA,qL w W->qJ 292 #[.agg #[St a0,St a1,St a2],.agg #[St b0,St b1,St b2],.func (.func 10) #[] #[]] W (.tuple #[.agg #[St c0,St c1,St c2],.int .i64 0]))):
 qJ 329 #[.agg #[St a0,St a1,St a2],.agg #[St b0,St b1,St b2]] w (.tuple #[.agg #[St c0,St c1,St c2],.int .i64 0]):=by
 obtain⟨v1,hv⟩:=zzX (((w.alloc (.cells #[St a0,St a1,St a2] 58)).alloc (.cells #[St b0,St b1,St b2] 58)).alloc (.cells #[St [],St [],St []] 58));obtain⟨b1,p1,p2,p3, -⟩:=zll hv;have HC:=hid (BO.out v1 b1);have B1:=hid b1;have P1:=hid p1;have P2:=hid p2;have P3:=hid p3;have HV:=hid hv.symm;obtain⟨d0,d1,d2, -, -, -⟩:=zah p1;obtain⟨d3,d4,d5, -, -, -⟩:=zah p2;rw[hv] at d0 d1 d2 d3 d4 d5;clear hv b1 BO p1 p2 p3;go_enter Tryz.func329,Tryz.ntmps329;go_wp21;have h9:=HV.out;rw[show((w.alloc (.cells #[.string ⟨a0.toArray⟩,.string ⟨a1.toArray⟩,.string ⟨a2.toArray⟩] 58)).alloc (.cells #[.string ⟨b0.toArray⟩,.string ⟨b1.toArray⟩,.string ⟨b2.toArray⟩] 58)).alloc (.cells #[.string ⟨#[]⟩,.string ⟨#[]⟩,.string ⟨#[]⟩] 58)=v1 from h9];clear h9 HV d0 d1 d2 d3 d4 d5;refine zzM HC.out λr0 hb=>?_;have hB:=B1.out.trans (hb.mono B1.out.size);have B2:=hid hB;have HD:=hid (WI.out r0 hB);obtain⟨d0,d1,d2, -, -, -⟩:=zah (zac hb _ _ _ _ P1.out);obtain⟨d3,d4,d5, -, -, -⟩:=zah (zac hb _ _ _ _ P2.out);have P4:=hid (zac hb _ _ _ _ P3.out);clear hb hB B1 WI HC P1 P2 P3;go_wp21;clear d0 d1 d2 d3 d4 d5;refine zzM HD.out λr2 hb=>?_;have B4:=hid (B2.out.trans (hb.mono B2.out.size));obtain⟨d0,d1,d2,z0,z1,z2⟩:=zah (zac hb _ _ _ _ P4.out);clear hb HD B2 P4;go_wp21
 exact bodyPost_ret (v:=.tuple #[.agg #[St c0,St c1,St c2],.int .i64 0]) (by simp[results,Tryz.results329,go_sem,d0,d1,d2]) rfl ⟨rfl,((B4.out.setCell (p:=⟨w.heap.size+1+1,0,none⟩) (by show _<=w.heap.size+1+1;omega) _).setCell (p:=⟨w.heap.size+1+1,1,none⟩) (by show _<=w.heap.size+1+1;omega) _).setCell (p:=⟨w.heap.size+1+1,2,none⟩) (by show _<=w.heap.size+1+1;omega) _⟩
theorem zn4 (w:zA):qJ 290 #[.agg #[.string ⟨#[52]⟩,.string ⟨#[48]⟩,.string ⟨#[51]⟩]] w (.tuple #[.agg #[.string ⟨#[52]⟩,.string ⟨#[48]⟩,.string ⟨#[51]⟩],.int .i64 0]):=by
 obtain⟨v1,hv⟩:=zzX ((w.alloc (.cells #[.string ⟨#[52]⟩,.string ⟨#[48]⟩,.string ⟨#[51]⟩] 58)).alloc (.cells #[.string ⟨#[]⟩,.string ⟨#[]⟩,.string ⟨#[]⟩] 58));obtain⟨b1,p1,p2, -⟩:=zc8 hv;obtain⟨d0,d1,d2, -, -, -⟩:=zah p1;obtain⟨e0,e1,e2,z0,z1,z2⟩:=zah p2;have B1:=hid b1;have HV:=hid hv;rw[hv] at d0 d1 d2 e0 e1 e2 z0 z1 z2;clear hv b1 p1 p2;go_enter Tryz.func290,Tryz.ntmps290;go_wp21;have hB:=B1.out;rw[HV.out] at hB;refine bodyPost_ret (v:=.tuple #[.agg #[.string ⟨#[52]⟩,.string ⟨#[48]⟩,.string ⟨#[51]⟩],.int .i64 0]) (by simp[results,Tryz.results290,go_sem]) rfl ⟨rfl,?_⟩
 first
  |exact((zM _ w).alloc (zN _) _).alloc (by simp) _
  |(repeat(first|exact hB|refine Below.setCell ?_ (by simp) _))
theorem zmc (w:zA)
 (CK:Hid (∀W:zA,qL w W->qJ 146 #[za2] W (.int .i64 0)))
 (SB:Hid (∀W:zA,qL w W->qJ 329 #[.agg #[.string ⟨#[52]⟩,.string ⟨#[48]⟩,.string ⟨#[51]⟩],.agg #[.string ⟨#[48]⟩,.string ⟨#[48]⟩,.string ⟨#[48]⟩]] W (.tuple #[.agg #[.string ⟨#[52]⟩,.string ⟨#[48]⟩,.string ⟨#[51]⟩],.int .i64 0]))):
 qJ 291 #[.agg #[.func (.func 290) #[] #[]],za2] w (.tuple #[.agg #[.string ⟨#[52]⟩,.string ⟨#[48]⟩,.string ⟨#[51]⟩],.int .i64 0]):=by
 obtain⟨x0,hx0⟩:=zzX (w.alloc (.cells #[.func (.func 290) #[] #[]] 318));have s0:x0.heap.size=w.heap.size+1:=by rw[hx0];simp
 have q0:qL w x0:=by rw[hx0];exact(zM _ w).alloc (zN _) _
 have f0:x0.heap[w.heap.size]? =some (.cells #[.func (.func 290) #[] #[]] 318 (0,0)):=by rw[hx0];exact zG w _
 obtain⟨x1,hx1⟩:=zzX (x0.alloc (.cells #[.int .i64 1,.int .i64 0,.int .i64 (-1),.string ⟨#[48]⟩,.string ⟨#[48]⟩,.string ⟨#[48]⟩,.string ⟨#[52]⟩,.string ⟨#[48]⟩,.string ⟨#[51]⟩,.int .i64 60,.int .i64 180] 60));have s1:x1.heap.size=x0.heap.size+1:=by rw[hx1];simp
 have q1:qL x0 x1:=by rw[hx1];exact(zM _ x0).alloc (zN _) _
 have f1:x1.heap[x0.heap.size]? =some (.cells #[.int .i64 1,.int .i64 0,.int .i64 (-1),.string ⟨#[48]⟩,.string ⟨#[48]⟩,.string ⟨#[48]⟩,.string ⟨#[52]⟩,.string ⟨#[48]⟩,.string ⟨#[51]⟩,.int .i64 60,.int .i64 180] 60 (0,0)):=by rw[hx1];exact zG x0 _
 obtain⟨x2,hx2⟩:=zzX (x1.alloc (.cells #[.string ⟨#[]⟩,.string ⟨#[]⟩,.string ⟨#[]⟩] 58));have s2:x2.heap.size=x1.heap.size+1:=by rw[hx2];simp
 have q2:qL x1 x2:=by rw[hx2];exact(zM _ x1).alloc (zN _) _
 have f2:x2.heap[x1.heap.size]? =some (.cells #[.string ⟨#[]⟩,.string ⟨#[]⟩,.string ⟨#[]⟩] 58 (0,0)):=by rw[hx2];exact zG x1 _
 obtain⟨x3,hx3⟩:=zzX (x2.alloc (.cells #[.string ⟨#[]⟩,.string ⟨#[]⟩,.string ⟨#[]⟩] 58));have s3:x3.heap.size=x2.heap.size+1:=by rw[hx3];simp
 have q3:qL x2 x3:=by rw[hx3];exact(zM _ x2).alloc (zN _) _
 have f3:x3.heap[x2.heap.size]? =some (.cells #[.string ⟨#[]⟩,.string ⟨#[]⟩,.string ⟨#[]⟩] 58 (0,0)):=by rw[hx3];exact zG x2 _
 have q23:=q2.trans (q3.mono q2.size);have q13:=q1.trans (q23.mono q1.size);have q03:=q0.trans (q13.mono q0.size);have B0:=hid q03;have F0:=hid (zac q13 _ _ _ _ f0);have M0:=hid (⟨zac q23 _ _ _ _ f1⟩:Mb x0.heap.size x3);have R0:=hid (zac q3 _ _ _ _ f2);have Z0:=hid f3;rw[s0] at M0;rw[s1,s0] at R0;rw[s2,s1,s0] at Z0;have hall:x3=(((w.alloc (.cells #[.func (.func 290) #[] #[]] 318)).alloc (.cells #[.int .i64 1,.int .i64 0,.int .i64 (-1),.string ⟨#[48]⟩,.string ⟨#[48]⟩,.string ⟨#[48]⟩,.string ⟨#[52]⟩,.string ⟨#[48]⟩,.string ⟨#[51]⟩,.int .i64 60,.int .i64 180] 60)).alloc (.cells #[.string ⟨#[]⟩,.string ⟨#[]⟩,.string ⟨#[]⟩] 58)).alloc (.cells #[.string ⟨#[]⟩,.string ⟨#[]⟩,.string ⟨#[]⟩] 58):=by rw[hx3,hx2,hx1,hx0]
 have HV:=hid hall.symm;obtain⟨k0,k1,k2,k3,k4,k5,k6,k7,k8,k9,k10⟩:=M0.out.cells;rw[hall] at k0 k1 k2 k3 k4 k5 k6 k7 k8 k9 k10;clear hall hx0 hx1 hx2 hx3 s0 s1 s2 s3 q0 q1 q2 q3 f0 f1 f2 f3 q23 q13 q03;unfold za2 at CK⊢;go_enter Tryz.func291,Tryz.ntmps291;go_wp21;rw[HV.out];clear k0 k1 k2 k3 k4 k5 k6 k7 k8 k9 k10 HV;refine zzM (CK.out x3 B0.out) λw1 hb=>?_;have B1:=hid (B0.out.trans (hb.mono B0.out.size));have M1:=hid (M0.out.below hb);have F1:=hid (zac hb _ _ _ _ F0.out);have R1:=hid (zac hb _ _ _ _ R0.out);clear hb B0 M0 F0 R0 Z0 CK;obtain⟨k0,k1,k2,k3,k4,k5,k6,k7,k8,k9,k10⟩:=M1.out.cells;go_wp21;clear k0 k1 k2 k3 k4 k5 k6 k7 k8 k9 k10;refine zzM (SB.out w1 B1.out) λw2 hb=>?_;have B2:=hid (B1.out.trans (hb.mono B1.out.size));have F2:=hid (zac hb _ _ _ _ F1.out);have R2:=hid (zac hb _ _ _ _ R1.out);clear hb B1 M1 F1 R1 SB;obtain⟨v3,hv⟩:=zzX (w2.alloc (.cells #[.string ⟨#[52]⟩,.string ⟨#[48]⟩,.string ⟨#[51]⟩] 58));have a3:qL w2 v3:=by rw[hv];exact(zM _ w2).alloc (zN _) _
 obtain⟨t0,t1,t2⟩:=za4 (show v3.heap[w2.heap.size]? =some (.cells #[.string ⟨#[52]⟩,.string ⟨#[48]⟩,.string ⟨#[51]⟩] 58 (0,0)) by rw[hv];exact zG w2 _);have g0:v3.cell? ⟨w.heap.size,0,none⟩=some (.func (.func 290) #[] #[]):=by rw[zJ (zac a3 _ _ _ _ F2.out)];rfl
 have HV:=hid hv.symm;have B3:=hid (B2.out.trans (a3.mono B2.out.size));have R3:=hid (zac a3 _ _ _ _ R2.out);rw[hv] at t0 t1 t2 g0;clear hv a3 B2 F2 R2;go_wp21;rw[HV.out];clear t0 t1 t2 g0 HV;refine zzM (zn4 v3) λw4 hb=>?_;have B4:=hid (B3.out.trans (hb.mono B3.out.size));obtain⟨e0,e1,e2,z0,z1,z2⟩:=zah (zac hb _ _ _ _ R3.out);clear hb B3 R3;go_wp21;have hB:=B4.out;refine bodyPost_ret (v:=.tuple #[.agg #[.string ⟨#[52]⟩,.string ⟨#[48]⟩,.string ⟨#[51]⟩],.int .i64 0]) (by simp[results,Tryz.results291,go_sem,e0,e1,e2]) rfl ⟨rfl,?_⟩
 repeat(first|exact hB|refine Below.setCell ?_ (by simp<;>omega) _)
theorem zlf (w:zA)
 (QU:Hid (∀W:zA,qL w W->qJ 291 #[.agg #[.func (.func 290) #[] #[]],za2] W (.tuple #[.agg #[.string ⟨#[52]⟩,.string ⟨#[48]⟩,.string ⟨#[51]⟩],.int .i64 0]))):
 qJ 228 #[za2] w (.tuple #[.agg #[.string ⟨#[52]⟩,.string ⟨#[48]⟩,.string ⟨#[51]⟩],.int .i64 0]):=by
 obtain⟨x0,hx0⟩:=zzX (w.alloc (.cells #[.int .i64 1,.int .i64 0,.int .i64 (-1),.string ⟨#[48]⟩,.string ⟨#[48]⟩,.string ⟨#[48]⟩,.string ⟨#[52]⟩,.string ⟨#[48]⟩,.string ⟨#[51]⟩,.int .i64 60,.int .i64 180] 60));obtain⟨x1,hx1⟩:=zzX (x0.alloc (.cells #[.string ⟨#[]⟩,.string ⟨#[]⟩,.string ⟨#[]⟩] 58));have s0:x0.heap.size=w.heap.size+1:=by rw[hx0];simp
 have q0:qL w x0:=by rw[hx0];exact(zM _ w).alloc (zN _) _
 have q1:qL x0 x1:=by rw[hx1];exact(zM _ x0).alloc (zN _) _
 have m0:Mb w.heap.size x0:=⟨by rw[hx0];exact zG w _⟩;have f1:x1.heap[w.heap.size+1]? =some (.cells #[.string ⟨#[]⟩,.string ⟨#[]⟩,.string ⟨#[]⟩] 58 (0,0)):=by rw[hx1,<-s0];exact zG x0 _
 have B0:=hid (q0.trans (q1.mono q0.size));have M0:=hid (m0.below q1);have R0:=hid f1;have hall:x1=(w.alloc (.cells #[.int .i64 1,.int .i64 0,.int .i64 (-1),.string ⟨#[48]⟩,.string ⟨#[48]⟩,.string ⟨#[48]⟩,.string ⟨#[52]⟩,.string ⟨#[48]⟩,.string ⟨#[51]⟩,.int .i64 60,.int .i64 180] 60)).alloc (.cells #[.string ⟨#[]⟩,.string ⟨#[]⟩,.string ⟨#[]⟩] 58):=by rw[hx1,hx0]
 have HV:=hid hall.symm;obtain⟨k0,k1,k2,k3,k4,k5,k6,k7,k8,k9,k10⟩:=M0.out.cells;rw[hall] at k0 k1 k2 k3 k4 k5 k6 k7 k8 k9 k10;clear hall hx0 hx1 s0 q0 q1 m0 f1;unfold za2 at*
 go_enter Tryz.func228,Tryz.ntmps228;go_wp21;rw[HV.out];clear k0 k1 k2 k3 k4 k5 k6 k7 k8 k9 k10 HV;refine zzM (QU.out x1 B0.out) λw1 hb=>?_;have B9:=hid (B0.out.trans (hb.mono B0.out.size));obtain⟨e0,e1,e2,z0,z1,z2⟩:=zah (zac hb _ _ _ _ R0.out);clear hb B0 M0 R0 QU;go_wp21;have hB:=B9.out;refine bodyPost_ret (v:=.tuple #[.agg #[.string ⟨#[52]⟩,.string ⟨#[48]⟩,.string ⟨#[51]⟩],.int .i64 0]) (by simp[results,Tryz.results228,go_sem,e0,e1,e2]) rfl ⟨rfl,?_⟩
 repeat(first|exact hB|refine Below.setCell ?_ (by simp<;>omega) _)
theorem zjk (w:zA)
 (CK:Hid (∀W:zA,qL w W->qJ 146 #[za2] W (.int .i64 0)))
 (DI:Hid (∀W:zA,qL w W->qJ 228 #[za2] W (.tuple #[.agg #[.string ⟨#[52]⟩,.string ⟨#[48]⟩,.string ⟨#[51]⟩],.int .i64 0]))):
 qJ 155 #[za2] w (.tuple #[.agg #[.string ⟨#[52]⟩,.string ⟨#[48]⟩,.string ⟨#[51]⟩],.int .i64 0]):=by
 obtain⟨x0,hx0⟩:=zzX (w.alloc (.cells #[.int .i64 1,.int .i64 0,.int .i64 (-1),.string ⟨#[48]⟩,.string ⟨#[48]⟩,.string ⟨#[48]⟩,.string ⟨#[52]⟩,.string ⟨#[48]⟩,.string ⟨#[51]⟩,.int .i64 60,.int .i64 180] 60));obtain⟨x1,hx1⟩:=zzX (x0.alloc (.cells #[.string ⟨#[]⟩,.string ⟨#[]⟩,.string ⟨#[]⟩] 58));have s0:x0.heap.size=w.heap.size+1:=by rw[hx0];simp
 have q0:qL w x0:=by rw[hx0];exact(zM _ w).alloc (zN _) _
 have q1:qL x0 x1:=by rw[hx1];exact(zM _ x0).alloc (zN _) _
 have m0:Mb w.heap.size x0:=⟨by rw[hx0];exact zG w _⟩;have f1:x1.heap[w.heap.size+1]? =some (.cells #[.string ⟨#[]⟩,.string ⟨#[]⟩,.string ⟨#[]⟩] 58 (0,0)):=by rw[hx1,<-s0];exact zG x0 _
 have B0:=hid (q0.trans (q1.mono q0.size));have M0:=hid (m0.below q1);have R0:=hid f1;have hall:x1=(w.alloc (.cells #[.int .i64 1,.int .i64 0,.int .i64 (-1),.string ⟨#[48]⟩,.string ⟨#[48]⟩,.string ⟨#[48]⟩,.string ⟨#[52]⟩,.string ⟨#[48]⟩,.string ⟨#[51]⟩,.int .i64 60,.int .i64 180] 60)).alloc (.cells #[.string ⟨#[]⟩,.string ⟨#[]⟩,.string ⟨#[]⟩] 58):=by rw[hx1,hx0]
 have HV:=hid hall.symm;obtain⟨k0,k1,k2,k3,k4,k5,k6,k7,k8,k9,k10⟩:=M0.out.cells;rw[hall] at k0 k1 k2 k3 k4 k5 k6 k7 k8 k9 k10;clear hall hx0 hx1 s0 q0 q1 m0 f1;unfold za2 at*
 go_enter Tryz.func155,Tryz.ntmps155;go_wp21;rw[HV.out];clear k0 k1 k2 k3 k4 k5 k6 k7 k8 k9 k10 HV;refine zzM (CK.out x1 B0.out) λw1 hb=>?_;have B1:=hid (B0.out.trans (hb.mono B0.out.size));have M1:=hid (M0.out.below hb);have R1:=hid (zac hb _ _ _ _ R0.out);clear hb B0 M0 R0 CK;obtain⟨k0,k1,k2,k3,k4,k5,k6,k7,k8,k9,k10⟩:=M1.out.cells;go_wp21;clear k0 k1 k2 k3 k4 k5 k6 k7 k8 k9 k10;refine zzM (DI.out w1 B1.out) λw2 hb=>?_;have B9:=hid (B1.out.trans (hb.mono B1.out.size));obtain⟨e0,e1,e2,z0,z1,z2⟩:=zah (zac hb _ _ _ _ R1.out);clear hb B1 M1 R1 DI;go_wp21;have hB:=B9.out;refine bodyPost_ret (v:=.tuple #[.agg #[.string ⟨#[52]⟩,.string ⟨#[48]⟩,.string ⟨#[51]⟩],.int .i64 0]) (by simp[results,Tryz.results155,go_sem,e0,e1,e2]) rfl ⟨rfl,?_⟩
 repeat(first|exact hB|refine Below.setCell ?_ (by simp<;>omega) _)
theorem zn5 (w:zA):qJ 88 #[.agg #[.string ⟨#[52]⟩,.string ⟨#[48]⟩,.string ⟨#[51]⟩]] w (.agg #[.string ⟨#[52]⟩,.string ⟨#[48]⟩,.string ⟨#[51]⟩]):=by
 obtain⟨v1,hv⟩:=zzX ((w.alloc (.cells #[.string ⟨#[52]⟩,.string ⟨#[48]⟩,.string ⟨#[51]⟩] 58)).alloc (.cells #[.string ⟨#[]⟩,.string ⟨#[]⟩,.string ⟨#[]⟩] 58));obtain⟨b1,p1,p2, -⟩:=zc8 hv;obtain⟨d0,d1,d2, -, -, -⟩:=zah p1;obtain⟨e0,e1,e2,z0,z1,z2⟩:=zah p2;have B1:=hid b1;have HV:=hid hv;rw[hv] at d0 d1 d2 e0 e1 e2 z0 z1 z2;clear hv b1 p1 p2;go_enter Tryz.func88,Tryz.ntmps88;go_wp21;have hB:=B1.out;rw[HV.out] at hB;refine bodyPost_ret (v:=.agg #[.string ⟨#[52]⟩,.string ⟨#[48]⟩,.string ⟨#[51]⟩]) (by simp[results,Tryz.results88,go_sem]) rfl ⟨rfl,?_⟩
 first
  |exact((zM _ w).alloc (zN _) _).alloc (by simp) _
  |(repeat(first|exact hB|refine Below.setCell ?_ (by simp) _))
theorem zol (w:zA):qJ 223 #[.agg #[.string ⟨#[52]⟩,.string ⟨#[48]⟩,.string ⟨#[51]⟩]] w (.agg #[.string ⟨#[52]⟩,.string ⟨#[48]⟩,.string ⟨#[48]⟩]):=by
 obtain⟨v1,hv⟩:=zzX ((w.alloc (.cells #[.string ⟨#[52]⟩,.string ⟨#[48]⟩,.string ⟨#[51]⟩] 58)).alloc (.cells #[.string ⟨#[]⟩,.string ⟨#[]⟩,.string ⟨#[]⟩] 58));obtain⟨b1,p1,p2, -⟩:=zc8 hv;obtain⟨d0,d1,d2, -, -, -⟩:=zah p1;obtain⟨e0,e1,e2,z0,z1,z2⟩:=zah p2;have B1:=hid b1;have HV:=hid hv;rw[hv] at d0 d1 d2 e0 e1 e2 z0 z1 z2;clear hv b1 p1 p2;go_enter Tryz.func223,Tryz.ntmps223;go_wp21;have hB:=B1.out;rw[HV.out] at hB;refine bodyPost_ret (v:=.agg #[.string ⟨#[52]⟩,.string ⟨#[48]⟩,.string ⟨#[48]⟩]) (by simp[results,Tryz.results223,go_sem]) rfl ⟨rfl,?_⟩
 first
  |exact((zM _ w).alloc (zN _) _).alloc (by simp) _
  |(repeat(first|exact hB|refine Below.setCell ?_ (by simp) _))
theorem zml (x:List UInt8) (w:zA)
 (DI:Hid (∀W:zA,qL w W->qJ 155 #[za2] W (.tuple #[.agg #[.string ⟨#[52]⟩,.string ⟨#[48]⟩,.string ⟨#[51]⟩],.int .i64 0])))
 (VL:Hid (∀W:zA,qL w W->zC zF 156 #[.agg #[.string ⟨#[52]⟩,.string ⟨#[48]⟩,.string ⟨#[51]⟩]] W λe w'=>∃b c,1<=c/\e=.returned (.tuple #[.slice (some ⟨b,0,none⟩) 1 c,.int .i64 0])/\zB W.heap.size W w'/\w'.cell? ⟨b,0,none⟩=some (St x)/\w'.cell? ⟨b,1,none⟩=some (.string ⟨#[49]⟩))):
 zC zF 89 #[.agg #[.func (.func 88) #[] #[]],za2] w λe w'=>∃b c,1<=c/\e=.returned (.tuple #[.slice (some ⟨b,0,none⟩) 1 c,.int .i64 0])/\zB w.heap.size w w'/\w'.cell? ⟨b,0,none⟩=some (St x)/\w'.cell? ⟨b,1,none⟩=some (.string ⟨#[49]⟩):=by
 obtain⟨x0,hx0⟩:=zzX (w.alloc (.cells #[.func (.func 88) #[] #[]] 141));obtain⟨x1,hx1⟩:=zzX (x0.alloc (.cells #[.int .i64 1,.int .i64 0,.int .i64 (-1),.string ⟨#[48]⟩,.string ⟨#[48]⟩,.string ⟨#[48]⟩,.string ⟨#[52]⟩,.string ⟨#[48]⟩,.string ⟨#[51]⟩,.int .i64 60,.int .i64 180] 60));have q0:qL w x0:=by rw[hx0];exact(zM _ w).alloc (zN _) _
 have q1:qL x0 x1:=by rw[hx1];exact(zM _ x0).alloc (zN _) _
 have f0:x0.heap[w.heap.size]? =some (.cells #[.func (.func 88) #[] #[]] 141 (0,0)):=by rw[hx0];exact zG w _
 have s0:x0.heap.size=w.heap.size+1:=by rw[hx0];simp
 have m0:Mb (w.heap.size+1) x1:=⟨by rw[hx1,<-s0];exact zG x0 _⟩;have B0:=hid (q0.trans (q1.mono q0.size));have M0:=hid m0;have F0:=hid (zac q1 _ _ _ _ f0);have hall:x1=(w.alloc (.cells #[.func (.func 88) #[] #[]] 141)).alloc (.cells #[.int .i64 1,.int .i64 0,.int .i64 (-1),.string ⟨#[48]⟩,.string ⟨#[48]⟩,.string ⟨#[48]⟩,.string ⟨#[52]⟩,.string ⟨#[48]⟩,.string ⟨#[51]⟩,.int .i64 60,.int .i64 180] 60):=by rw[hx1,hx0]
 have HV:=hid hall.symm;obtain⟨k0,k1,k2,k3,k4,k5,k6,k7,k8,k9,k10⟩:=M0.out.cells;rw[hall] at k0 k1 k2 k3 k4 k5 k6 k7 k8 k9 k10;clear hall hx0 hx1 q0 q1 f0 s0 m0;unfold za2 at*
 go_enter Tryz.func89,Tryz.ntmps89;go_wp21;rw[HV.out];clear k0 k1 k2 k3 k4 k5 k6 k7 k8 k9 k10 HV;refine zzM (DI.out x1 B0.out) λw2 hb=>?_;have B2:=hid (B0.out.trans (hb.mono B0.out.size));have F2:=hid (zac hb _ _ _ _ F0.out);clear hb B0 M0 F0 DI;obtain⟨v3,hv⟩:=zzX (w2.alloc (.cells #[.string ⟨#[52]⟩,.string ⟨#[48]⟩,.string ⟨#[51]⟩] 58));have a3:qL w2 v3:=by rw[hv];exact(zM _ w2).alloc (zN _) _
 obtain⟨t0,t1,t2⟩:=za4 (show v3.heap[w2.heap.size]? =some (.cells #[.string ⟨#[52]⟩,.string ⟨#[48]⟩,.string ⟨#[51]⟩] 58 (0,0)) by rw[hv];exact zG w2 _);have g0:v3.cell? ⟨w.heap.size,0,none⟩=some (.func (.func 88) #[] #[]):=by rw[zJ (zac a3 _ _ _ _ F2.out)];rfl
 have HV:=hid hv.symm;have B3:=hid (B2.out.trans (a3.mono B2.out.size));rw[hv] at t0 t1 t2 g0;clear hv a3 B2 F2;go_wp21;rw[HV.out];clear t0 t1 t2 g0 HV;refine zzM (zn5 v3) λw4 hb=>?_;have B4:=hid (B3.out.trans (hb.mono B3.out.size));clear hb B3;go_wp21;refine(VL.out w4 B4.out).mono ?_;rintro e w5 ⟨b,c,hc,rfl,hb,h0,h1⟩;have B5:=hid (B4.out.trans (hb.mono B4.out.size));have H0:=hid h0;have H1:=hid h1;clear hb B4 VL h0 h1;go_wp21;go_ret2;exact⟨_,_,hc,rfl,B5.out,H0.out,H1.out⟩
theorem zjl (x:List UInt8) (w:zA)
 (OF:Hid (∀W:zA,qL w W->zC zF 89 #[.agg #[.func (.func 88) #[] #[]],za2] W λe w'=>∃b c,1<=c/\e=.returned (.tuple #[.slice (some ⟨b,0,none⟩) 1 c,.int .i64 0])/\zB W.heap.size W w'/\w'.cell? ⟨b,0,none⟩=some (St x)/\w'.cell? ⟨b,1,none⟩=some (.string ⟨#[49]⟩))):
 zC zF 30 #[za2] w λe w'=>∃b c,1<=c/\e=.returned (.tuple #[.slice (some ⟨b,0,none⟩) 1 c,.int .i64 0])/\zB w.heap.size w w'/\w'.cell? ⟨b,0,none⟩=some (St x)/\w'.cell? ⟨b,1,none⟩=some (.string ⟨#[49]⟩):=by
 obtain⟨x0,hx0⟩:=zzX (w.alloc (.cells #[.int .i64 1,.int .i64 0,.int .i64 (-1),.string ⟨#[48]⟩,.string ⟨#[48]⟩,.string ⟨#[48]⟩,.string ⟨#[52]⟩,.string ⟨#[48]⟩,.string ⟨#[51]⟩,.int .i64 60,.int .i64 180] 60));have q0:qL w x0:=by rw[hx0];exact(zM _ w).alloc (zN _) _
 have m0:Mb w.heap.size x0:=⟨by rw[hx0];exact zG w _⟩;have B0:=hid q0;have HV:=hid hx0.symm;obtain⟨k0,k1,k2,k3,k4,k5,k6,k7,k8,k9,k10⟩:=m0.cells;rw[hx0] at k0 k1 k2 k3 k4 k5 k6 k7 k8 k9 k10;clear hx0 q0 m0;unfold za2 at*
 go_enter Tryz.func30,Tryz.ntmps30;go_wp21;rw[HV.out];clear k0 k1 k2 k3 k4 k5 k6 k7 k8 k9 k10 HV;refine(OF.out x0 B0.out).mono ?_;rintro e w5 ⟨b,c,hc,rfl,hb,h0,h1⟩;have B5:=hid (B0.out.trans (hb.mono B0.out.size));have H0:=hid h0;have H1:=hid h1;clear hb B0 OF h0 h1;go_wp21;go_ret2;exact⟨_,_,hc,rfl,B5.out,H0.out,H1.out⟩
theorem zmv (x:List UInt8) (w:zA)
 (DI:Hid (∀W:zA,qL w W->qJ 155 #[za2] W (.tuple #[.agg #[.string ⟨#[52]⟩,.string ⟨#[48]⟩,.string ⟨#[51]⟩],.int .i64 0])))
 (VL:Hid (∀W:zA,qL w W->zC zF 156 #[.agg #[.string ⟨#[52]⟩,.string ⟨#[48]⟩,.string ⟨#[48]⟩]] W λe w'=>∃b c,1<=c/\e=.returned (.tuple #[.slice (some ⟨b,0,none⟩) 1 c,.int .i64 0])/\zB W.heap.size W w'/\w'.cell? ⟨b,0,none⟩=some (St x)/\w'.cell? ⟨b,1,none⟩=some (.string ⟨#[49]⟩))):
 zC zF 89 #[.agg #[.func (.func 223) #[] #[]],za2] w λe w'=>∃b c,1<=c/\e=.returned (.tuple #[.slice (some ⟨b,0,none⟩) 1 c,.int .i64 0])/\zB w.heap.size w w'/\w'.cell? ⟨b,0,none⟩=some (St x)/\w'.cell? ⟨b,1,none⟩=some (.string ⟨#[49]⟩):=by
 obtain⟨x0,hx0⟩:=zzX (w.alloc (.cells #[.func (.func 223) #[] #[]] 141));obtain⟨x1,hx1⟩:=zzX (x0.alloc (.cells #[.int .i64 1,.int .i64 0,.int .i64 (-1),.string ⟨#[48]⟩,.string ⟨#[48]⟩,.string ⟨#[48]⟩,.string ⟨#[52]⟩,.string ⟨#[48]⟩,.string ⟨#[51]⟩,.int .i64 60,.int .i64 180] 60));have q0:qL w x0:=by rw[hx0];exact(zM _ w).alloc (zN _) _
 have q1:qL x0 x1:=by rw[hx1];exact(zM _ x0).alloc (zN _) _
 have f0:x0.heap[w.heap.size]? =some (.cells #[.func (.func 223) #[] #[]] 141 (0,0)):=by rw[hx0];exact zG w _
 have s0:x0.heap.size=w.heap.size+1:=by rw[hx0];simp
 have m0:Mb (w.heap.size+1) x1:=⟨by rw[hx1,<-s0];exact zG x0 _⟩;have B0:=hid (q0.trans (q1.mono q0.size));have M0:=hid m0;have F0:=hid (zac q1 _ _ _ _ f0);have hall:x1=(w.alloc (.cells #[.func (.func 223) #[] #[]] 141)).alloc (.cells #[.int .i64 1,.int .i64 0,.int .i64 (-1),.string ⟨#[48]⟩,.string ⟨#[48]⟩,.string ⟨#[48]⟩,.string ⟨#[52]⟩,.string ⟨#[48]⟩,.string ⟨#[51]⟩,.int .i64 60,.int .i64 180] 60):=by rw[hx1,hx0]
 have HV:=hid hall.symm;obtain⟨k0,k1,k2,k3,k4,k5,k6,k7,k8,k9,k10⟩:=M0.out.cells;rw[hall] at k0 k1 k2 k3 k4 k5 k6 k7 k8 k9 k10;clear hall hx0 hx1 q0 q1 f0 s0 m0;unfold za2 at*
 go_enter Tryz.func89,Tryz.ntmps89;go_wp21;rw[HV.out];clear k0 k1 k2 k3 k4 k5 k6 k7 k8 k9 k10 HV;refine zzM (DI.out x1 B0.out) λw2 hb=>?_;have B2:=hid (B0.out.trans (hb.mono B0.out.size));have F2:=hid (zac hb _ _ _ _ F0.out);clear hb B0 M0 F0 DI;obtain⟨v3,hv⟩:=zzX (w2.alloc (.cells #[.string ⟨#[52]⟩,.string ⟨#[48]⟩,.string ⟨#[51]⟩] 58));have a3:qL w2 v3:=by rw[hv];exact(zM _ w2).alloc (zN _) _
 obtain⟨t0,t1,t2⟩:=za4 (show v3.heap[w2.heap.size]? =some (.cells #[.string ⟨#[52]⟩,.string ⟨#[48]⟩,.string ⟨#[51]⟩] 58 (0,0)) by rw[hv];exact zG w2 _);have g0:v3.cell? ⟨w.heap.size,0,none⟩=some (.func (.func 223) #[] #[]):=by rw[zJ (zac a3 _ _ _ _ F2.out)];rfl
 have HV:=hid hv.symm;have B3:=hid (B2.out.trans (a3.mono B2.out.size));rw[hv] at t0 t1 t2 g0;clear hv a3 B2 F2;go_wp21;rw[HV.out];clear t0 t1 t2 g0 HV;refine zzM (zol v3) λw4 hb=>?_;have B4:=hid (B3.out.trans (hb.mono B3.out.size));clear hb B3;go_wp21;refine(VL.out w4 B4.out).mono ?_;rintro e w5 ⟨b,c,hc,rfl,hb,h0,h1⟩;have B5:=hid (B4.out.trans (hb.mono B4.out.size));have H0:=hid h0;have H1:=hid h1;clear hb B4 VL h0 h1;go_wp21;go_ret2;exact⟨_,_,hc,rfl,B5.out,H0.out,H1.out⟩
theorem zjm (x:List UInt8) (w:zA)
 (OF:Hid (∀W:zA,qL w W->zC zF 89 #[.agg #[.func (.func 223) #[] #[]],za2] W λe w'=>∃b c,1<=c/\e=.returned (.tuple #[.slice (some ⟨b,0,none⟩) 1 c,.int .i64 0])/\zB W.heap.size W w'/\w'.cell? ⟨b,0,none⟩=some (St x)/\w'.cell? ⟨b,1,none⟩=some (.string ⟨#[49]⟩))):
 zC zF 147 #[za2] w λe w'=>∃b c,1<=c/\e=.returned (.tuple #[.slice (some ⟨b,0,none⟩) 1 c,.int .i64 0])/\zB w.heap.size w w'/\w'.cell? ⟨b,0,none⟩=some (St x)/\w'.cell? ⟨b,1,none⟩=some (.string ⟨#[49]⟩):=by
 obtain⟨x0,hx0⟩:=zzX (w.alloc (.cells #[.int .i64 1,.int .i64 0,.int .i64 (-1),.string ⟨#[48]⟩,.string ⟨#[48]⟩,.string ⟨#[48]⟩,.string ⟨#[52]⟩,.string ⟨#[48]⟩,.string ⟨#[51]⟩,.int .i64 60,.int .i64 180] 60));have q0:qL w x0:=by rw[hx0];exact(zM _ w).alloc (zN _) _
 have m0:Mb w.heap.size x0:=⟨by rw[hx0];exact zG w _⟩;have B0:=hid q0;have HV:=hid hx0.symm;obtain⟨k0,k1,k2,k3,k4,k5,k6,k7,k8,k9,k10⟩:=m0.cells;rw[hx0] at k0 k1 k2 k3 k4 k5 k6 k7 k8 k9 k10;clear hx0 q0 m0;unfold za2 at*
 go_enter Tryz.func147,Tryz.ntmps147;go_wp21;rw[HV.out];clear k0 k1 k2 k3 k4 k5 k6 k7 k8 k9 k10 HV;refine(OF.out x0 B0.out).mono ?_;rintro e w5 ⟨b,c,hc,rfl,hb,h0,h1⟩;have B5:=hid (B0.out.trans (hb.mono B0.out.size));have H0:=hid h0;have H1:=hid h1;clear hb B0 OF h0 h1;go_wp21;go_ret2;exact⟨_,_,hc,rfl,B5.out,H0.out,H1.out⟩
theorem zmw (w:zA)
 (CK:Hid (∀W:zA,qL w W->qJ 221 #[.agg #[.string ⟨#[52]⟩,.string ⟨#[48]⟩,.string ⟨#[51]⟩]] W (.int .i64 0)))
 (DO:Hid (∀W:zA,qL w W->qJ 229 #[.agg #[.string ⟨#[52]⟩,.string ⟨#[48]⟩,.string ⟨#[51]⟩],.agg #[.string ⟨#[52]⟩,.string ⟨#[48]⟩,.string ⟨#[51]⟩]] W (.tuple #[.string ⟨#[50,53]⟩,.int .i64 0])))
 (NO:Hid (∀W:zA,qL w W->qJ 120 #[.string ⟨#[50,53]⟩] W (.tuple #[.string ⟨#[53]⟩,.string ⟨#[49]⟩,.int .i64 0])))
 (SC:Hid (∀(W:zA) (b:Nat),qL w W->W.cell? ⟨b,0,none⟩=some (.string ⟨#[53]⟩)->W.cell? ⟨b,1,none⟩=some (.string ⟨#[49]⟩)->qJ 70 #[.slice (some ⟨b,0,none⟩) 1 1] W (.int .i64 0))):
 zC zF 156 #[.agg #[.string ⟨#[52]⟩,.string ⟨#[48]⟩,.string ⟨#[51]⟩]] w λe w'=>∃b c,1<=c/\e=.returned (.tuple #[.slice (some ⟨b,0,none⟩) 1 c,.int .i64 0])/\zB w.heap.size w w'/\w'.cell? ⟨b,0,none⟩=some (.string ⟨#[53]⟩)/\w'.cell? ⟨b,1,none⟩=some (.string ⟨#[49]⟩):=by
 obtain⟨x0,hx0⟩:=zzX (w.alloc (.cells #[.string ⟨#[52]⟩,.string ⟨#[48]⟩,.string ⟨#[51]⟩] 58));have q0:qL w x0:=by rw[hx0];exact(zM _ w).alloc (zN _) _
 have f0:x0.heap[w.heap.size]? =some (.cells #[.string ⟨#[52]⟩,.string ⟨#[48]⟩,.string ⟨#[51]⟩] 58 (0,0)):=by rw[hx0];exact zG w _
 have B0:=hid q0;have F0:=hid f0;have HV:=hid hx0.symm;obtain⟨k0,k1,k2⟩:=za4 f0;rw[hx0] at k0 k1 k2;clear hx0 q0 f0;go_enter Tryz.func156,Tryz.ntmps156;go_wp21;rw[HV.out];clear k0 k1 k2 HV;refine zzM (CK.out x0 B0.out) λw1 hb=>?_;have B1:=hid (B0.out.trans (hb.mono B0.out.size));obtain⟨k0,k1,k2⟩:=za4 (zac hb _ _ _ _ F0.out);clear hb B0 F0 CK;go_wp21;clear k0 k1 k2;refine zzM (DO.out w1 B1.out) λw2 hb=>?_;have B2:=hid (B1.out.trans (hb.mono B1.out.size));clear hb B1 DO;go_wp21;refine zzM (NO.out w2 B2.out) λw3 hb=>?_;have B3:=hid (B2.out.trans (hb.mono B2.out.size));clear hb B2 NO;obtain⟨v3,hv⟩:=zzX (w3.alloc (.cells #[.string ⟨#[53]⟩,.string ⟨#[49]⟩] 37));have a3:qL w3 v3:=by rw[hv];exact(zM _ w3).alloc (zN _) _
 have A3:v3.heap[w3.heap.size]? =some (.cells #[.string ⟨#[53]⟩,.string ⟨#[49]⟩] 37 (0,0)):=by rw[hv];exact zG w3 _
 have t0:v3.cell? ⟨w3.heap.size,0,none⟩=some (.string ⟨#[53]⟩):=by rw[zJ A3];rfl
 have t1:v3.cell? ⟨w3.heap.size,1,none⟩=some (.string ⟨#[49]⟩):=by rw[zJ A3];rfl
 have HV:=hid hv.symm;have E3:=B3.out.trans (a3.mono B3.out.size);have B4:=hid E3;have HS:=hid (SC.out v3 w3.heap.size E3 t0 t1);have T0:=hid t0;have T1:=hid t1;clear hv a3 A3 t0 t1 E3 B3 SC;go_wp21;rw[HV.out];clear HV;refine zzM HS.out λw4 hb=>?_;have B5:=hid (B4.out.trans (hb.mono B4.out.size));have U0:=hid (zai hb T0.out);have U1:=hid (zai hb T1.out);clear hb B4 HS T0 T1;go_wp21;go_ret2;exact⟨_,_,zN _,rfl,B5.out,U0.out,U1.out⟩
theorem zmx (w:zA)
 (CK:Hid (∀W:zA,qL w W->qJ 221 #[.agg #[.string ⟨#[52]⟩,.string ⟨#[48]⟩,.string ⟨#[48]⟩]] W (.int .i64 0)))
 (DO:Hid (∀W:zA,qL w W->qJ 229 #[.agg #[.string ⟨#[52]⟩,.string ⟨#[48]⟩,.string ⟨#[48]⟩],.agg #[.string ⟨#[52]⟩,.string ⟨#[48]⟩,.string ⟨#[48]⟩]] W (.tuple #[.string ⟨#[49,54]⟩,.int .i64 0])))
 (NO:Hid (∀W:zA,qL w W->qJ 120 #[.string ⟨#[49,54]⟩] W (.tuple #[.string ⟨#[52]⟩,.string ⟨#[49]⟩,.int .i64 0])))
 (SC:Hid (∀(W:zA) (b:Nat),qL w W->W.cell? ⟨b,0,none⟩=some (.string ⟨#[52]⟩)->W.cell? ⟨b,1,none⟩=some (.string ⟨#[49]⟩)->qJ 70 #[.slice (some ⟨b,0,none⟩) 1 1] W (.int .i64 0))):
 zC zF 156 #[.agg #[.string ⟨#[52]⟩,.string ⟨#[48]⟩,.string ⟨#[48]⟩]] w λe w'=>∃b c,1<=c/\e=.returned (.tuple #[.slice (some ⟨b,0,none⟩) 1 c,.int .i64 0])/\zB w.heap.size w w'/\w'.cell? ⟨b,0,none⟩=some (.string ⟨#[52]⟩)/\w'.cell? ⟨b,1,none⟩=some (.string ⟨#[49]⟩):=by
 obtain⟨x0,hx0⟩:=zzX (w.alloc (.cells #[.string ⟨#[52]⟩,.string ⟨#[48]⟩,.string ⟨#[48]⟩] 58));have q0:qL w x0:=by rw[hx0];exact(zM _ w).alloc (zN _) _
 have f0:x0.heap[w.heap.size]? =some (.cells #[.string ⟨#[52]⟩,.string ⟨#[48]⟩,.string ⟨#[48]⟩] 58 (0,0)):=by rw[hx0];exact zG w _
 have B0:=hid q0;have F0:=hid f0;have HV:=hid hx0.symm;obtain⟨k0,k1,k2⟩:=za4 f0;rw[hx0] at k0 k1 k2;clear hx0 q0 f0;go_enter Tryz.func156,Tryz.ntmps156;go_wp21;rw[HV.out];clear k0 k1 k2 HV;refine zzM (CK.out x0 B0.out) λw1 hb=>?_;have B1:=hid (B0.out.trans (hb.mono B0.out.size));obtain⟨k0,k1,k2⟩:=za4 (zac hb _ _ _ _ F0.out);clear hb B0 F0 CK;go_wp21;clear k0 k1 k2;refine zzM (DO.out w1 B1.out) λw2 hb=>?_;have B2:=hid (B1.out.trans (hb.mono B1.out.size));clear hb B1 DO;go_wp21;refine zzM (NO.out w2 B2.out) λw3 hb=>?_;have B3:=hid (B2.out.trans (hb.mono B2.out.size));clear hb B2 NO;obtain⟨v3,hv⟩:=zzX (w3.alloc (.cells #[.string ⟨#[52]⟩,.string ⟨#[49]⟩] 37));have a3:qL w3 v3:=by rw[hv];exact(zM _ w3).alloc (zN _) _
 have A3:v3.heap[w3.heap.size]? =some (.cells #[.string ⟨#[52]⟩,.string ⟨#[49]⟩] 37 (0,0)):=by rw[hv];exact zG w3 _
 have t0:v3.cell? ⟨w3.heap.size,0,none⟩=some (.string ⟨#[52]⟩):=by rw[zJ A3];rfl
 have t1:v3.cell? ⟨w3.heap.size,1,none⟩=some (.string ⟨#[49]⟩):=by rw[zJ A3];rfl
 have HV:=hid hv.symm;have E3:=B3.out.trans (a3.mono B3.out.size);have B4:=hid E3;have HS:=hid (SC.out v3 w3.heap.size E3 t0 t1);have T0:=hid t0;have T1:=hid t1;clear hv a3 A3 t0 t1 E3 B3 SC;go_wp21;rw[HV.out];clear HV;refine zzM HS.out λw4 hb=>?_;have B5:=hid (B4.out.trans (hb.mono B4.out.size));have U0:=hid (zai hb T0.out);have U1:=hid (zai hb T1.out);clear hb B4 HS T0 T1;go_wp21;go_ret2;exact⟨_,_,zN _,rfl,B5.out,U0.out,U1.out⟩
theorem zhm (x u v:List UInt8) (t:ByteArray) (ht:t=⟨(trimPrefix u [45]).toArray⟩) (h1:(t.size:Int)<=36) (h2:(v.length:Int)<=36) (w:zA) (HW:Hid (Wd w))
 (PA:Hid (qK 123 #[St x] (.tuple #[St u,St v,.int .i64 0]))):
 qJ 289 #[St x] w (.bool false):=by
 have ht2:∀W,zC zF 145 #[St u,.string ⟨#[45]⟩] W λe w'=>e=.returned (.string t)/\w'=W:=λW=>by
  rw[ht];exact Tryz.strings_TrimPrefix ⟨u.toArray⟩ ⟨#[45]⟩ W
 obtain⟨d,hd⟩:=zzX (⟨v.toArray⟩:ByteArray);have hds:d.size=v.length:=by rw[hd];show v.toArray.size=_;simp
 rw[<-hds] at h2;have HT:=hid ht2;have h3:decide (36<max (t.size:Int) (d.size:Int))=false:=decide_eq_false (by omega);have PA2:Hid (qK 123 #[St x] (.tuple #[St u,.string d,.int .i64 0])):=hid (by rw[hd];exact PA.out);clear ht ht2 hd hds PA h1 h2;go_enter Tryz.func289,Tryz.ntmps289;go_wp21;refine zzM (PA2.out _ HW.out) λw1 hb1=>?_;have B1:=hid hb1;clear hb1;go_wp21;refine zzM (HT.out w1) λw2 hw2=>?_;have B2:Hid (qL w w2):=hid (by rw[hw2];exact B1.out);clear hw2;go_wp21;go_ret;exact⟨rfl,B2.out⟩
theorem zho (p:Option Addr) (cap:Nat) (l:List (List UInt8)) (hl:l.length<=5000)
 (F:Hid (∀i,i<l.length->qK 289 #[St (l[i]?.getD [])] (.bool false)))
 (w:zA) (HW:Hid (Wd w)) (HP:Hid (RowSt p l w)):
 qJ 328 #[.slice p l.length cap,.func (.func 289) #[] #[]] w (.int .i64 (-1)):=by
 obtain⟨n,hn⟩:=zzX l.length;rw[<-hn] at F hl⊢;have HN:=hid hn;clear hn;go_enter Tryz.func328,Tryz.ntmps328;go_wp2;go_loopw [8] (λi wr=>∃(k:Nat),k<=n/\i=.int .i64 (k:Int)/\Hid (qL w wr))
  (λi _=>n-(RowKit.intOf i).toNat)
 case atStart=>exact⟨0,Nat.zero_le _,rfl,zM _ _⟩
 case round=>
  obtain⟨k,hk,rfl,hB⟩:=hrel;by_cases hlt:k<n
  ·obtain⟨b,off,rfl,c0⟩:=(HP.out.keep (zac hB.out)) k (by rw[<-HN.out];exact hlt)
   have HF:=hid (F.out k hlt wr (HW.out.below hB.out));generalize l[k]?.getD []=x at*
   go_wp21;refine zzM HF.out λw2 hb2=>?_;have hB2:=hid (hB.out.trans (hb2.mono hB.out.size));clear hb2 HF;go_wp21;go_roundw
   case rel=>exact⟨k+1,by omega,by go_num,hB2⟩
   case measure=>simp[RowKit.intOf];omega
  ·have hkn:k=n:=by omega
   go_wp21;go_ret;exact⟨rfl,hB.out⟩
theorem zf8 (p:Option Addr) (cap n:Nat) (w:zA)
 (F:Hid (qJ 328 #[.slice p n cap,.func (.func 289) #[] #[]] w (.int .i64 (-1)))):
 qJ 288 #[.slice p n cap,.func (.func 289) #[] #[]] w (.bool false):=by
 go_enter Tryz.func288,Tryz.ntmps288;go_wp21;refine zzM F.out λw1 hB=>?_;have B1:=hid hB;clear hB;go_wp21;go_ret;exact⟨rfl,B1.out⟩
theorem zj1 (x y z:List UInt8) (w:zA)
 (C:Hid (∀(W:zA) (b:Nat),qL w W->W.heap[b]? =some (.cells #[St x,St y,St z] 30 (0,0))->qJ 288 #[.slice (some ⟨b,0,none⟩) 3 3,.func (.func 289) #[] #[]] W (.bool false))):
 qJ 222 #[.agg #[St x,St y,St z]] w (.bool false):=by
 obtain⟨v1,hv⟩:=zzX ((w.alloc (.cells #[St x,St y,St z] 58)).alloc (.cells #[St x,St y,St z] 30));have n0:=zG w (.cells #[St x,St y,St z] 58);obtain⟨k0,k1,k2⟩:=za4 n0;have b1:qL w v1:=by rw[hv];exact((zM _ w).alloc (zN _) _).alloc (by simp) _
 have A2:v1.heap[w.heap.size+1]? =some (.cells #[St x,St y,St z] 30 (0,0)):=by
  rw[hv];have:=zG (w.alloc (.cells #[St x,St y,St z] 58)) (.cells #[St x,St y,St z] 30);rw[World.size_alloc] at this;exact this
 have HC:=hid (C.out v1 _ b1 A2);have HV:=hid hv.symm;have B1:=hid b1;clear hv n0 b1 A2 C;go_enter Tryz.func222,Tryz.ntmps222;go_wp21;have h9:=HV.out;rw[show(w.alloc (.cells #[.string ⟨x.toArray⟩,.string ⟨y.toArray⟩,.string ⟨z.toArray⟩] 58)).alloc (.cells #[.string ⟨x.toArray⟩,.string ⟨y.toArray⟩,.string ⟨z.toArray⟩] 30)=v1 from h9];clear h9 HV;refine zzM HC.out λw2 hb=>?_;have B2:=hid (B1.out.trans (hb.mono B1.out.size));clear hb;go_wp21;go_ret;exact⟨rfl,B2.out⟩
end
section
open Go.RowKit Go.Shelf Lib Str Limb Geo
attribute [local go_sem] Oper.semAt_some
theorem zom (w:zA)
 (RE:Hid (∀W:zA,qL w W->qJ 81 #[.string ⟨#[49]⟩] W (.tuple #[.agg #[.string ⟨#[49]⟩,.string ⟨#[49]⟩],.int .i64 0])))
 (AT:Hid (∀W:zA,qL w W->qJ 174 #[.string ⟨#[49]⟩] W (.tuple #[.int .i64 1,.nilIface]))):
 qJ 149 #[.string ⟨#[49]⟩] w (.tuple #[.int .i64 1,.int .i64 0]):=by
 go_enter Tryz.func149,Tryz.ntmps149;go_wp21;refine zzM (RE.out w (zM _ _)) λw1 hb1=>?_;obtain⟨v1,hv⟩:=zzX (w1.alloc (.cells #[.string ⟨#[49]⟩,.string ⟨#[49]⟩] 87));have a1:qL w1 v1:=by rw[hv];exact(zM _ w1).alloc (zN _) _
 have A1:v1.heap[w1.heap.size]? =some (.cells #[.string ⟨#[49]⟩,.string ⟨#[49]⟩] 87 (0,0)):=by rw[hv];exact zG w1 _
 have k0:v1.cell? ⟨w1.heap.size,0,none⟩=some (.string ⟨#[49]⟩):=by rw[zJ A1];rfl
 have k1:v1.cell? ⟨w1.heap.size,1,none⟩=some (.string ⟨#[49]⟩):=by rw[zJ A1];rfl
 rw[hv] at k0 k1;have HV1:=hid hv.symm;have E1:=hid (hb1.trans (a1.mono hb1.size));clear hv a1 A1 hb1 RE;go_wp21;rw[HV1.out];clear k0 k1 HV1;refine zzM (AT.out v1 E1.out) λw2 hb2=>?_;have E2:=hid (E1.out.trans (hb2.mono E1.out.size));clear hb2;go_wp21;go_ret2;exact⟨rfl,E2.out⟩
theorem zdi:St (numS 0)=.string ⟨#[48]⟩/\St (numS 1)=.string ⟨#[49]⟩/\St (numS 3)=.string ⟨#[51]⟩/\St (numS 4)=.string ⟨#[52]⟩/\St (numS 5)=.string ⟨#[53]⟩/\St (numS 9)=.string ⟨#[57]⟩/\St (zD 1)=.string ⟨#[49]⟩:=by
 have h:∀(k:Int) (l:List UInt8),itoa k=l->St (numS ((k:Int):Rat))=.string ⟨l.toArray⟩:=λk l h=>by rw[zha,h]
 refine⟨h 0 [48] (by decide+kernel),h 1 [49] (by decide+kernel),h 3 [51] (by decide+kernel),h 4 [52] (by decide+kernel),h 5 [53] (by decide+kernel),h 9 [57] (by decide+kernel),?_⟩;rw[zae (by omega)];rfl
theorem sz34:sz 0 1/\sz 1 1/\sz 3 1/\sz 4 1/\sz 5 1:=⟨⟨by decide,by decide⟩,⟨by decide,by decide⟩,⟨by decide,by decide⟩,⟨by decide,by decide⟩,⟨by decide,by decide⟩⟩
theorem zrc:∀args w,(callFunc 10 args).run zF w=.ok (.enter 10 args) w:=enters_of Tryz.func10 (by kernel_rfl) rfl
theorem zj3 (x y z:Rat) (hx:sz x 1) (hy:sz y 1) (hz:sz z 1) (w:zA) (hw:Wd w):
 qJ 222 #[.agg #[St (numS x),St (numS y),St (numS z)]] w (.bool false):=by
 have one:∀q:Rat,sz q 1->qK 289 #[St (numS q)] (.bool false):=λq hq W hW=>by
  have h1:(trimPrefix (itoa q.num) [45]).length<=1:=by
   have:=(zok (k:=1) (by omega) hq).1;unfold digs at this;rw[zbi];exact this
  have h2:(zD q.den).length<=1:=(zaf q.den 1 (by omega)).2 hq.2;exact zhm (numS q) (itoa q.num) (zD q.den) _ rfl (by show(((trimPrefix (itoa q.num) [45]).toArray.size:Nat):Int)<=36;simp;omega) (by omega) W (hid hW) (hid λZ hZ=>zk5 q (zd0 (by omega) (by omega) hq) Z hZ)
 refine zj1 (numS x) (numS y) (numS z) w (hid λW b hW hb=>zf8 _ 3 3 W (hid ?_));refine zho (some ⟨b,0,none⟩) 3 [numS x,numS y,numS z] (by simp) (hid λi hi V hV=>?_) W (hid (hw.below hW)) (hid λi hi=>?_)
 ·match i,hi with
  |0,_=>exact one x hx V hV
  |1,_=>exact one y hy V hV
  |2,_=>exact one z hz V hV
 ·refine⟨b,0,rfl,?_⟩
  rw[zJ hb]
  match i,hi with
  |0,_|1,_|2,_=>rfl
theorem zef (w:zA) (hw:Wd w):qJ 146 #[za2] w (.int .i64 0):=by
 obtain⟨n0,n1,n3,n4,n5, -, -⟩:=zdi;obtain⟨s0,s1,s3,s4,s5⟩:=sz34;refine zhi w (hid λW hW=>?_) (hid λW hW=>?_) (hid λW hW=>?_) (hid λW hW=>?_)
 ·have:=zce 0 0 0 ⟨s0.mono (by omega),s0.mono (by omega),s0.mono (by omega)⟩ W (hw.below hW)
  rw[n0] at this;exact this
 ·have:=zce 4 0 3 ⟨s4.mono (by omega),s0.mono (by omega),s3.mono (by omega)⟩ W (hw.below hW)
  rw[n0,n4,n3] at this;exact this
 ·have:=zj3 0 0 0 s0 s0 s0 W (hw.below hW)
  rw[n0] at this;exact this
 ·have:=zj3 4 0 3 s4 s0 s3 W (hw.below hW)
  rw[n0,n4,n3] at this;exact this
theorem zgv (w:zA) (hw:Wd w):qJ 155 #[za2] w (.tuple #[.agg #[.string ⟨#[52]⟩,.string ⟨#[48]⟩,.string ⟨#[51]⟩],.int .i64 0]):=by
 obtain⟨n0,n1,n3,n4,n5, -, -⟩:=zdi;obtain⟨s0,s1,s3,s4,s5⟩:=sz34;refine zjk w (hid λW hW=>zef W (hw.below hW)) (hid λW hW=>zlf W (hid λV hV=>zmc V (hid λU hU=>zef U (((hw.below hW).below hV).below hU)) (hid λU hU=>?_)));have hU':=((hw.below hW).below hV).below hU;have e0:(0:Rat)-0=0:=by decide+kernel
 have e3:(3:Rat)-0=3:=by decide+kernel
 have e4:(4:Rat)-0=4:=by decide+kernel
 have:=zny (numS 4) (numS 0) (numS 3) (numS 0) (numS 0) (numS 0) (numS (4-0)) (numS (0-0)) (numS (3-0)) U
  (hid λT hT=>zqh 4 0 3 0 0 0 ⟨s4.mono (by omega),s0.mono (by omega),s3.mono (by omega)⟩ ⟨s0.mono (by omega),s0.mono (by omega),s0.mono (by omega)⟩ T (hU'.below hT))
  (hid λT hT=>zgo _ _ _ _ _ _ _ _ _ _ zrc T (hid λS hS=>ztz 4 0 1 1 (by omega) (by omega) (by omega) s4 s0 S ((hU'.below hT).below hS)) (hid λS hS=>ztz 0 0 1 1 (by omega) (by omega) (by omega) s0 s0 S ((hU'.below hT).below hS)) (hid λS hS=>ztz 3 0 1 1 (by omega) (by omega) (by omega) s3 s0 S ((hU'.below hT).below hS)))
 rw[e0,e3,e4,n0,n4,n3] at this;exact this
theorem zet (a:Rat) (x:UInt8) (hx:St (numS a)=.string ⟨#[x]⟩) (ha:a≠0) (sa:sz a 1) (W:zA) (b:Nat) (hw:Hw W) (c0:W.cell? ⟨b,0,none⟩=some (.string ⟨#[x]⟩)) (c1:W.cell? ⟨b,1,none⟩=some (.string ⟨#[49]⟩)) (c:Nat) (hc:1<=c):
 qJ 70 #[.slice (some ⟨b,0,none⟩) 1 c] W (.int .i64 0):=by
 have n1:=zdi.2.2.2.2.2.2;refine zbh (.slice (some ⟨b,0,none⟩) 1 c) [(a,1)] (by have:=zbz (sa.mono (show 1<=60 by omega));rw[za5 ha] at this;exact this) W hw.wd hw.pw (.inr ⟨b,0,c,rfl,hc,zbe c0,λi t ht=>?_⟩)
 match i,ht with
 |0,ht=>
  injection ht with ht;subst ht;exact⟨by show W.cell? ⟨b,0,none⟩=some (St (numS a));rw[hx];exact c0,by show W.cell? ⟨b,1,none⟩=some (St (zD 1));rw[n1];exact c1⟩
theorem zqa (x y z:Rat) (hx:sz x 1) (hy:sz y 1) (hz:sz z 1) (w:zA) (hw:Wd w):qJ 229 #[.agg #[St (numS x),St (numS y),St (numS z)],.agg #[St (numS x),St (numS y),St (numS z)]] w (.tuple #[St (numS (x*x+y*y+z*z)),.int .i64 0]):=
 zpj _ _ _ _ _ _ _ _ _ (numS (x*x+y*y)) _ w (hid λV hV=>zlm x y z x y z ⟨hx.mono (by omega),hy.mono (by omega),hz.mono (by omega)⟩ ⟨hx.mono (by omega),hy.mono (by omega),hz.mono (by omega)⟩ V (hw.below hV))
  (hid λV hV=>zje (x*x) (y*y) 2 2 (by omega) (by omega) (by omega) (zca hx hx) (zca hy hy) V (hw.below hV))
  (hid λV hV=>zje (x*x+y*y) (z*z) 5 2 (by omega) (by omega) (by omega) (zk0 (zca hx hx) (zca hy hy)) (zca hz hz) V (hw.below hV))
theorem zon:zn7 25=(5,1)/\zn7 16=(4,1):=by constructor<;>decide+kernel
theorem zct:zD 25=[50,53]/\zD 16=[49,54]/\zD 5=[53]/\zD 4=[52]/\zD 1=[49]:=by refine⟨?_,?_,?_,?_,?_⟩<;>decide+kernel
theorem n25:St (numS (4*4+0*0+3*3))=.string ⟨#[50,53]⟩/\St (numS (4*4+0*0+0*0))=.string ⟨#[49,54]⟩:=by
 rw[show(4:Rat)*4+0*0+3*3=((25:Nat):Rat) by decide+kernel,show(4:Rat)*4+0*0+0*0=((16:Nat):Rat) by decide+kernel,zhe,zhe,zct.1,zct.2.1];exact⟨rfl,rfl⟩
theorem zse (w:zA) (hw:Hw w):zC zF 30 #[za2] w λe w'=>∃b c,1<=c/\e=.returned (.tuple #[.slice (some ⟨b,0,none⟩) 1 c,.int .i64 0])/\zB w.heap.size w w'/\w'.cell? ⟨b,0,none⟩=some (.string ⟨#[53]⟩)/\w'.cell? ⟨b,1,none⟩=some (.string ⟨#[49]⟩):=by
 obtain⟨n0,n1,n3,n4,n5, -, -⟩:=zdi;obtain⟨s0,s1,s3,s4,s5⟩:=sz34;refine zjl [53] w (hid λW hW=>zml [53] W (hid λV hV=>zgv V ((hw.below hW).below hV).wd) (hid λV hV=>?_));have hV':=(hw.below hW).below hV;refine zmw V (hid λU hU=>?_) (hid λU hU=>?_) (hid λU hU=>?_) (hid λU b hU c0 c1=>zet 5 53 n5 (by decide) s5 U b (hV'.below hU) c0 c1 1 (by omega))
 ·have:=zce 4 0 3 ⟨s4.mono (by omega),s0.mono (by omega),s3.mono (by omega)⟩ U (hV'.below hU).wd
  rw[n0,n4,n3] at this;exact this
 ·have:=zqa 4 0 3 s4 s0 s3 U (hV'.below hU).wd
  rw[n25.1,n0,n4,n3] at this;exact this
 ·have:=zz4 25 (by omega) (by rw[zct.1];simp) U (hV'.below hU).wd (hV'.below hU).pw
  rw[zon.1,zct.1,zct.2.2.1,zct.2.2.2.2] at this;exact this
theorem zsh (w:zA) (hw:Hw w):zC zF 147 #[za2] w λe w'=>∃b c,1<=c/\e=.returned (.tuple #[.slice (some ⟨b,0,none⟩) 1 c,.int .i64 0])/\zB w.heap.size w w'/\w'.cell? ⟨b,0,none⟩=some (.string ⟨#[52]⟩)/\w'.cell? ⟨b,1,none⟩=some (.string ⟨#[49]⟩):=by
 obtain⟨n0,n1,n3,n4,n5, -, -⟩:=zdi;obtain⟨s0,s1,s3,s4,s5⟩:=sz34;refine zjm [52] w (hid λW hW=>zmv [52] W (hid λV hV=>zgv V ((hw.below hW).below hV).wd) (hid λV hV=>?_));have hV':=(hw.below hW).below hV;refine zmx V (hid λU hU=>?_) (hid λU hU=>?_) (hid λU hU=>?_) (hid λU b hU c0 c1=>zet 4 52 n4 (by decide) s4 U b (hV'.below hU) c0 c1 1 (by omega))
 ·have:=zce 4 0 0 ⟨s4.mono (by omega),s0.mono (by omega),s0.mono (by omega)⟩ U (hV'.below hU).wd
  rw[n0,n4] at this;exact this
 ·have:=zqa 4 0 0 s4 s0 s0 U (hV'.below hU).wd
  rw[n25.2,n0,n4] at this;exact this
 ·have:=zz4 16 (by omega) (by rw[zct.2.1];simp) U (hV'.below hU).wd (hV'.below hU).pw
  rw[zon.2,zct.2.1,zct.2.2.2.1,zct.2.2.2.2] at this;exact this
theorem q34:numS (mkRat 4 3)=[52,47,51]/\flQ (mkRat 4 3)=1/\(4:Rat)/3=mkRat 4 3/\sz (mkRat 4 3) 1/\0<=mkRat 4 3:=by
 refine⟨?_,?_,?_,⟨?_,?_⟩,?_⟩<;>decide+kernel
theorem nr34:nrQ (mkRat 3 4*12) 12=9/\(0:Rat)<=mkRat 3 4/\sz (mkRat 3 4) 2/\mkRat 3 4*12*((12:Nat):Rat)+mkRat 1 2<100000/\mkRat 3 4≠0:=by
 refine⟨?_,?_,⟨?_,?_⟩,?_,?_⟩<;>decide+kernel
theorem zrd (w:zA) (hw:Hw w):qJ 84 #[za2,.string ⟨#[51]⟩] w (.tuple #[.int .i64 1,.string ⟨#[49]⟩,.int .i64 0]):=by
 obtain⟨n0,n1,n3,n4,n5,n9, -⟩:=zdi;obtain⟨s0,s1,s3,s4,s5⟩:=sz34;have st:=zly (numS (4/3)) (numS 1) (numS (1*3)) (numS (4-1*3)) w (hid λW hW=>zef W (hw.below hW).wd) (hid λW hW=>?_) (hid λW hW=>?_) (hid λW hW=>?_) (hid λW hW=>?_) (hid λW hW=>?_) (hid λW hW=>?_) (hid λW hW=>?_)
 ·rw[show(4:Rat)-1*3=1 by decide+kernel,n1] at st
  exact st
 ·have:=zfj 3 (zd0 (by omega) (by omega) s3) W (hw.below hW).wd
  rw[n3] at this;exact this
 ·refine(zsh W (hw.below hW)).mono λe w' ⟨b,c,hc,e1,hb,c0,c1⟩=>⟨b,c,e1,hb,λV hV=>?_⟩
  have hV':=((hw.below hW).below hb).below hV;have:=yab b c (numS 4) V (by rw[n4];exact zai hV c0) (zai hV c1) (hid (zet 4 52 n4 (by decide) s4 V b hV' (zai hV c0) (zai hV c1) c hc));rw[n4] at this;exact this
 ·have:=zoj 4 3 (by decide) 1 1 (by omega) (by omega) (by omega) s4 s3 W (hw.below hW).wd
  rw[n4,n3] at this;exact this
 ·have:=zgr (mkRat 4 3) q34.2.2.2.2 (q34.2.2.2.1.mono (by omega)) W (hw.below hW).wd
  rw[q34.2.1,zc9,<-q34.2.2.1] at this;exact this
 ·have hr:=λV (hV:Wd V)=>zek 1 (zd0 (by omega) (by omega) s1) V hV
  rw[n1] at*
  refine zom W (hid λV hV=>?_) (hid λV hV=>?_)
  ·have:=hr V ((hw.below hW).below hV).wd
   rw[show itoa (Rat.num 1)=[49] by decide+kernel,show zD (Rat.den 1)=[49] by decide+kernel] at this;exact this
  ·have:=znc 1 (by decide+kernel) V
   rw[show itoa 1=[49] by decide+kernel] at this;exact this
 ·have:=zjf 1 3 1 1 (by omega) (by omega) (by omega) s1 s3 W (hw.below hW).wd
  rw[n3] at this;exact this
 ·have:=ztz 4 (1*3) 1 2 (by omega) (by omega) (by omega) s4 (zca s1 s3) W (hw.below hW).wd
  rw[n4] at this;exact this
theorem zp4 (w:zA) (hw:Hw w):qJ 28 #[] w (.bool true):=by
 obtain⟨n0,n1,n3,n4,n5,n9, -⟩:=zdi;refine zlw w (hid λW hW=>(zse W (hw.below hW)).mono λe w' ⟨b,c,_,h⟩=>⟨b,c,h⟩) (hid λW v hW hv=>?_) (hid λW hW=>zrd W (hw.below hW));rw[<-za5 nr34.2.2.2.2] at hv;have:=zgk v (mkRat 3 4) 12 (by omega) (by omega) nr34.2.1 nr34.2.2.1 nr34.2.2.2.1 W (hw.below hW) hv;rw[nr34.1,n9] at this;exact this
theorem zj4 (a b:Nat) (ha:a<=48) (hb:1<=b):0<=((a:Nat):Rat)/((b:Nat):Rat)/\((a:Nat):Rat)/((b:Nat):Rat)<=48:=by
 have hb1:(1:Rat)<=(b:Rat):=by exact_mod_cast hb
 have ha1:((a:Nat):Rat)<=48:=by exact_mod_cast ha
 have ha0:(0:Rat)<=(a:Rat):=by exact_mod_cast Nat.zero_le a
 have hi:0<((b:Nat):Rat)⁻¹ :=Rat.inv_pos.2 (by grind);have e:((a:Nat):Rat)/((b:Nat):Rat)*((b:Nat):Rat)=a:=by grind
 have h0:0<=((a:Nat):Rat)/((b:Nat):Rat):=by rw[Rat.div_def];exact Rat.mul_nonneg ha0 (Rat.le_of_lt hi)
 refine⟨h0,?_⟩;have:=Rat.mul_le_mul_of_nonneg_left hb1 h0;grind
theorem zgw (P:Rat) (N:Nat) (h0:0<=P) (h:P<=48) (hN:N<=64):P*12*(N:Rat)+mkRat 1 2<100000:=by
 have hN1:((N:Nat):Rat)<=64:=by exact_mod_cast hN
 have a1:P*12*(N:Rat)<=P*12*64:=Rat.mul_le_mul_of_nonneg_left hN1 (by grind);have hh:mkRat 1 2<1:=by decide+kernel
 grind
theorem zre (a b c d n:Nat) (ha:a<256) (hb:b<256) (hc:c<256) (hd:d<256) (hn:n<256) (w:zA) (hw:Hw w):
 qJ 5 #[.int .u8 (a:Int),.int .u8 (b:Int),.int .u8 (c:Int),.int .u8 (d:Int),.int .u8 (n:Int)] w (.bool true):=by
 have m1:∀k:Nat,1<=1+k%48/\1+k%48<=48:=λk=>by have:=Nat.mod_lt k (show 0<48 by omega);omega
 have mN:1<=1+n%64/\1+n%64<=64:=by have:=Nat.mod_lt n (show 0<64 by omega);omega
 obtain⟨A,hA⟩:=zzX (1+a%48);obtain⟨B,hB⟩:=zzX (1+b%48);obtain⟨C,hC⟩:=zzX (1+c%48);obtain⟨D,hD⟩:=zzX (1+d%48);obtain⟨N,hN⟩:=zzX (1+n%64);have a1:=m1 a;have b1:=m1 b;have c1:=m1 c;have d1:=m1 d;rw[<-hA] at a1;rw[<-hB] at b1;rw[<-hC] at c1;rw[<-hD] at d1;rw[<-hN] at mN;obtain⟨P,hP⟩:=zzX (((A:Nat):Rat)/((B:Nat):Rat));obtain⟨Q,hQ⟩:=zzX (((C:Nat):Rat)/((D:Nat):Rat));obtain⟨P0,P1⟩:=zj4 A B a1.2 b1.1;obtain⟨Q0,Q1⟩:=zj4 C D c1.2 d1.1;rw[<-hP] at P0 P1;rw[<-hQ] at Q0 Q1;have sP:sz P 2:=by rw[hP];exact zfr A B 2 (by omega) (by omega) (by omega)
 have sQ:sz Q 2:=by rw[hQ];exact zfr C D 2 (by omega) (by omega) (by omega)
 have hN0:(0:Rat)<(N:Rat):=by exact_mod_cast mN.1
 have eE:((12*A:Nat):Rat)/((B:Nat):Rat)=P*12:=by rw[hP];push_cast;grind
 have fl_sz:∀R:Rat,sz R 2->sz (nrQ (R*12) N) 10:=λR sR=>by
  have sN:sz ((N:Nat):Rat) 2:=sz_k N 2 (by omega) (by omega);have sy:sz (R*12*(N:Rat)+mkRat 1 2) 8:=(zk0 (zca (zca sR (show sz 12 2 from⟨by decide,by decide⟩)) sN) (show sz (mkRat 1 2) 1 from⟨by decide+kernel,by decide+kernel⟩):);have:=zfr 1 N 2 (by omega) (by omega) (by omega);rw[zc9] at this;exact zca (zh3 (by omega) sy) this
 have sX:=fl_sz P sP;have sY:=fl_sz Q sQ;obtain⟨X,hX⟩:=zzX (nrQ (P*12) N);obtain⟨Y,hY⟩:=zzX (nrQ (Q*12) N);have sE:sz (P*12) 4:=zca sP (show sz 12 2 from⟨by decide,by decide⟩);have sH:sz (1/((2*N:Nat):Rat)) 3:=by
  have:=zfr 1 (2*N) 3 (by omega) (by omega) (by omega);rw[zc9] at this;exact this
 have nr:=zpo (v:=P*12) (n:=N) mN.1 (by grind);rw[<-hX] at nr sX;rw[<-hY] at sY;obtain⟨H,hH⟩:=zzX (1/((2*N:Nat):Rat));rw[<-hH] at nr sH;have z0:St (numS 0)=.string ⟨#[48]⟩:=by rw[nm0]<;>rfl
 have sD:=zdr sE sX;have sL:=zdr (zd2 1 (by omega)) sH;have WD:=λ(W:zA) (h:qL w W)=>(hw.below h).wd;have oF:∀(A B:Nat),1<=A/\A<=48->1<=B/\B<=48->qK 22 #[.int .i64 (A:Int),.int .i64 (B:Int)] (.tuple #[St (numS (((A:Nat):Rat)/((B:Nat):Rat))),.int .i64 0]):=λA B hA hB W hW=>
  zjh (A:Int) (B:Int) _ ⟨by omega,by omega⟩ ⟨by omega,by omega⟩ (hid λV hV=>z7l A B (by omega) (by omega) (by omega) V hV) W (hid hW)
 have o1:=oF A B a1 b1;have o2:=oF C D c1 d1;rw[<-hP] at o1;rw[<-hQ] at o2;have hm:=zaw P Q;have ho:=zaw X Y;have mono1:P<=Q->X<=Y:=λh=>by rw[hX,hY];exact zi2 mN.1 (by grind) (by grind)
 have mono2:Q<=P->Y<=X:=λh=>by rw[hX,hY];exact zi2 mN.1 (by grind) (by grind)
 refine zkd a b c d n ha hb hc hd hn (numS P) (numS Q) (numS X) (numS Y) (numS (P*12)) (numS (P*12-X)) (numS H) (numS (0-H)) (rs P) (rs Q) (cmpR P Q) (cmpR (P*12-X) (0-H)) (cmpR (P*12-X) H) (cmpR X Y) w (hid ?_);rw[<-hA,<-hB,<-hC,<-hD,<-hN];refine⟨λW hW=>o1 W (WD W hW),λW hW=>o2 W (WD W hW),λW hW=>zfu P (sP.mono (by omega)) W (hw.below hW),λW hW=>zfu Q (sQ.mono (by omega)) W (hw.below hW),λW v hW hv=>?_,λW v hW hv=>?_,λW hW=>?_,λW hW=>?_,λW hW=>?_,λW hW=>?_,λW hW=>?_,λW hW=>?_,λW hW=>?_,λW hW=>?_,λW hW=>zp4 W (hw.below hW),?_,?_,?_,?_⟩
 ·rw[hX];exact zgk v P N mN.1 mN.2 P0 sP (zgw P N P0 P1 mN.2) W (hw.below hW) hv
 ·rw[hY];exact zgk v Q N mN.1 mN.2 Q0 sQ (zgw Q N Q0 Q1 mN.2) W (hw.below hW) hv
 ·exact zfs (A:Int) (B:Int) (C:Int) (D:Int) _ (numS P) (numS Q) (hid λV hV=>o1 V hV) (hid λV hV=>o2 V hV) (hid λV hV=>zgq P Q 2 2 (by omega) (by omega) (by omega) sP sQ V hV) W (hid (WD W hW))
 ·have:=z7l (12*A) B (by omega) (by omega) (by omega) W (WD W hW)
  rw[eE] at this;exact this
 ·exact ztz _ _ 4 10 (by omega) (by omega) (by omega) sE sX W (WD W hW)
 ·have:=z7l 1 (2*N) (by omega) (by omega) (by omega) W (WD W hW)
  rw[zc9,<-hH] at this;exact this
 ·have:=ztz 0 H 1 3 (by omega) (by omega) (by omega) (zd2 1 (by omega)) sH W (WD W hW)
  rw[z0] at this;exact this
 ·exact zgq _ _ 15 5 (by omega) (by omega) (by omega) sD sL W (WD W hW)
 ·exact zgq _ _ 15 3 (by omega) (by omega) (by omega) sD sH W (WD W hW)
 ·exact zgq _ _ 10 10 (by omega) (by omega) (by omega) sX sY W (WD W hW)
 ·rcases zjj (show 0-H<=P*12-X by grind) with h|h<;>omega
 ·rw[znw nr.2];omega
 ·rcases hm with⟨h1,h2⟩|⟨h1,h2⟩|⟨h1,h2⟩
  ·right
   have:=mono1 (Rat.le_of_lt h1);rcases ho with⟨_,e⟩|⟨_,e⟩|⟨g,e⟩
   ·omega
   ·omega
   ·exfalso;grind
  ·left;omega
  ·left;omega
 ·rcases hm with⟨h1,h2⟩|⟨h1,h2⟩|⟨h1,h2⟩
  ·left;omega
  ·left;omega
  ·right
   have:=mono2 (Rat.le_of_lt h1);rcases ho with⟨g,e⟩|⟨_,e⟩|⟨_,e⟩
   ·exfalso;grind
   ·omega
   ·omega
end
section
open Go.RowKit Go.Shelf Lib Str Limb
open Go.ChangeShapes Go.WideShapes Go.ChangeAt
theorem zea {H:Type} {enc:TypeId×Value->H} {W:zA} {base:Nat} {sp:Nat->Bool} {held:Bool} {v:Value} {d:DataW H} {ps:List MemPlace} {r:Reach} {b0:Nat}
 (hval:Value.okWide zF W r b0 5 v) (hd:DataW.Trod enc zF W base sp held 5 v d ps):∃n:Nat,n<256/\v=.int .u8 (n:Int)/\ps=[]:=by
 obtain⟨n,rfl⟩:=okWide_int Tryz.underlying5 hval;obtain⟨fuel,hf⟩:=hd;obtain⟨m,e,hx,hw⟩:=DataW.trod_int Tryz.underlying5 hf;have hm:n=m:=by simpa [Value.cells] using e
 subst hm;simp[Lit.wf,IntKind.min,IntKind.max,IntKind.signed,IntKind.bits] at hw;simp only[Prod.mk.injEq] at hx;exact⟨n.toNat,by omega,by rw[show((n.toNat:Nat):Int)=n by omega],hx.2⟩
theorem zdn (os:Os) (started:os.Started) (H:Type) (enc:TypeId×Value->H):
 ReturnsInHanded {} Tryz.checked os 5 .any (λw args=>(Rows.topSquarePitchesSpec.pre enc zF Tryz.f5 [] false w args/\laidMetH zF Rows.topSquarePitchesRow.laid w)/\sizedMet enc zF Tryz.f5 (OpenSpec.ofChange Rows.topSquarePitchesSpec) false w args)
  (Rows.topSquarePitchesSpec.post enc zF Tryz.f5 false true false false):=by
 refine zf9 (C:=Tryz.checked) (X:=λw _=>laidMetH zF Rows.topSquarePitchesRow.laid w) (λ_ _ _ hh h=>h.of_heap hh) zrj started (by kernel_rfl) Tryz.func5
  (ChangeSpec.witness_shaped (enc:=enc) (C:=Tryz.checked) (os:=os) (X:=λw _=>laidMetH zF Rows.topSquarePitchesRow.laid w) false (World.laidAll zF os Rows.topSquarePitchesRow.laid)
    #[.int .u8 0,.int .u8 0,.int .u8 0,.int .u8 0,.int .u8 0] 8 (World.laidAll_os _ _ _)
    (World.shaped_of_ZipB (by kernel_rfl) (by kernel_rfl)) (by kernel_rfl) (by kernel_rfl) (by kernel_rfl)
    (by rw[MakeChecks.laidMetH_plain _ _ _ (by kernel_rfl)];exact laidMet_laidAll _ (by kernel_rfl) (by kernel_rfl))) ?_
 intro W args ds gs before base hval0 hW hL hsh;have hval:∀(j:Nat) t v,Tryz.f5.params[j]? =some t->args[j]? =some v->Value.okWide zF W .any base t v:=hval0;have hW':=hW;obtain⟨p,q,hA0,hV,rfl,_,_⟩:=hW;have hA:DataW.TrodAll enc zF W 0 (λ_=>true) true Tryz.f5.params.toList args.toList ds p:=hA0;rw[Tryz.params5] at hA hval;obtain⟨v0,vs0,d0,ds0,p0,q0,e0,rfl,rfl,h0,hA⟩:=trodAll_cons hA;obtain⟨v1,vs1,d1,ds1,p1,q1,rfl,rfl,rfl,h1,hA⟩:=trodAll_cons hA;obtain⟨v2,vs2,d2,ds2,p2,q2,rfl,rfl,rfl,h2,hA⟩:=trodAll_cons hA;obtain⟨v3,vs3,d3,ds3,p3,q3,rfl,rfl,rfl,h3,hA⟩:=trodAll_cons hA;obtain⟨v4,vs4,d4,ds4,p4,q4,rfl,rfl,rfl,h4,hA⟩:=trodAll_cons hA;obtain⟨rfl,rfl,rfl⟩:=trodAll_nil hA;obtain rfl:args= #[v0,v1,v2,v3,v4]:=by cases args;simp_all
 obtain⟨rfl,rfl⟩:=trodVars_none hV;obtain⟨n0,g0,rfl,rfl⟩:=zea (hval 0 5 v0 rfl rfl) h0;obtain⟨n1,g1,rfl,rfl⟩:=zea (hval 1 5 v1 rfl rfl) h1;obtain⟨n2,g2,rfl,rfl⟩:=zea (hval 2 5 v2 rfl rfl) h2;obtain⟨n3,g3,rfl,rfl⟩:=zea (hval 3 5 v3 rfl rfl) h3;obtain⟨n4,g4,rfl,rfl⟩:=zea (hval 4 5 v4 rfl rfl) h4;simp only[List.append_nil] at hW';have hM:laidMet zF Rows.topSquarePitchesRow.laid W:=by rw[<-MakeChecks.laidMetH_plain _ _ _ (by kernel_rfl)];exact hL
 have hwd:Wd W:=z0v hM (.tail _ (.tail _ (.head _))) hsh;have hpw:Pw W:=z0w hM (.tail _ (.tail _ (.tail _ (.tail _ (.tail _ (.tail _ (.head _)))))));have hsw:Spw W:=z80 hM (.tail _ (.tail _ (.tail _ (.tail _ (.tail _ (.tail _ (.tail _ (.head _))))))));refine(zre n0 n1 n2 n3 n4 g0 g1 g2 g3 g4 W ⟨hwd,hpw,hsw⟩).mono λe W' ⟨he,hb⟩=>?_;subst he;have k:=λ{v:Value} {d:DataW H} (h:DataW.Trod enc zF W 0 (λ_=>true) true 5 v d [])=>Below.trod zgh (by kernel_rfl) (of_decide_eq_true (by kernel_rfl)) h hb (λ_ h=>by cases h);exact⟨_,rfl,_,_,_,[],[],[],hW',trodAll_mk1 (shut_bool Tryz.underlying4 _),trodAll_cons_mk (k h0) (trodAll_mk4 (k h1) (k h2) (k h3) (k h4)),rfl,hb.frame _,λh=>by cases h⟩
theorem zrh:mapsRowed zF=true:=by kernel_rfl
theorem zr2:namedTie zF Rows.topSquarePitchesRow.named Rows.topSquarePitchesSpec.vars=true:=by kernel_rfl
theorem zp5:(Rows.topSquarePitchesRow.inPlace==Tryz.prog.inPlace 5)=true:=by kernel_rfl
theorem zr4:(Rows.topSquarePitchesRow.unfollowed==Tryz.prog.unfollowed 5)=true:=by kernel_rfl
theorem zsb:(Rows.topSquarePitchesRow.recurses==Tryz.prog.recurses 5)=true:=by kernel_rfl
theorem zp6:(Rows.topSquarePitchesRow.named==Tryz.prog.varsNamed 5)=true:=by kernel_rfl
theorem zp8:Tryz.prog.stopsHeard=true:=by kernel_rfl
theorem zp9:Tryz.prog.mayEnter=true:=by kernel_rfl
theorem zoo:(Rows.topSquarePitchesRow.lifted==Tryz.prog.liftsFinal)=true:=by kernel_rfl
theorem zrk:(Tryz.prog.make==some Rows.topSquarePitchesRow.make)=true:=by kernel_rfl
theorem zrl:(Rows.topSquarePitchesRow.plainKeys==Tryz.prog.plainKeys)=true:=by kernel_rfl
theorem zrm:Tryz.pinned.checked.prog.funcNamed Rows.topSquarePitchesRow.func=some 5:=by kernel_rfl
theorem zsd:joinedFacts zF 5 Tryz.f5 Rows.topSquarePitchesSpec Rows.topSquarePitchesRow=true:=by
 unfold joinedFacts;simp only[Bool.and_eq_true]
 repeat' apply And.intro
 all_goals first|with_reducible exact zgh|with_reducible exact zrh|with_reducible exact zr2|with_reducible exact zp5|with_reducible exact zr4|with_reducible exact zsb|with_reducible exact zp6|with_reducible exact zp8|with_reducible exact zp9|with_reducible exact zoo|with_reducible exact zrk|with_reducible exact zrl|kernel_rfl
theorem zfb:Rows.TopSquarePitchesSaid:=
 OpenClaim.holds_of_wide 5 Tryz.f5 rfl rfl rfl rfl rfl rfl rfl ⟨rfl,rfl,rfl,rfl,rfl⟩ rfl rfl rfl rfl rfl zrm Tryz.func5 zsd
  (of_decide_eq_true (by kernel_rfl)) (by unfold Func.isWrapper;first|(rw[if_pos (by decide+kernel)];kernel_rfl)|(rw[if_neg (by decide+kernel)];exact⟨rfl,rfl⟩))
  (λos started H enc _=>zdn os started H enc)
end
end Go.Proofs.YtmeekcnlacckfaaGreatDoor
