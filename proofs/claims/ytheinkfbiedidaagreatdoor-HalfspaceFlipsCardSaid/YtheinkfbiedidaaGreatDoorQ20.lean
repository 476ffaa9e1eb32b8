/- kingpostlaw37.HalfspaceFlips, by contracts. -/
import Derived.Test.YtheinkfbiedidaaGreatDoorQ18
import Derived.Test.YtheinkfbiedidaaGreatDoorQ19
import Derived.LaidByTextLater
set_option maxRecDepth 100000
set_option maxHeartbeats 8000000
open Go renaming World → zA
open Go.Proofs.Tryz renaming prog → zF
open Go.Joins renaming cell_of_block → zJ
namespace Go.Proofs.YtheinkfbiedidaaGreatDoor
section
open Go.RowKit Go.Shelf Lib Str Limb Geo
attribute [local go_sem] Oper.semAt_some
structure FlS (w:zA) (a b c:List UInt8) (d m0 m1 m2:Value) (W:zA):Prop where
 bel:qL w W
 h0:W.heap[w.heap.size]? =some (.cells #[St a,St b,St c,d] 26 (0,0))
 h1:W.heap[w.heap.size+1]? =some (.cells #[m0,m1,m2] 30 (0,0))
theorem FlS.next {w W W':zA} {a b c:List UInt8} {d m0 m1 m2:Value} (h:FlS w a b c d m0 m1 m2 W) (hb:qL W W'):FlS w a b c d m0 m1 m2 W':=
 ⟨h.bel.trans (hb.mono h.bel.size),zac hb _ _ _ _ h.h0,zac hb _ _ _ _ h.h1⟩
theorem FlS.ca {w W:zA} {a b c:List UInt8} {d m0 m1 m2:Value} (h:FlS w a b c d m0 m1 m2 W):W.cell? ⟨w.heap.size,0,none⟩=some (St a)/\W.cell? ⟨w.heap.size,1,none⟩=some (St b)/\W.cell? ⟨w.heap.size,2,none⟩=some (St c)/\W.cell? ⟨w.heap.size,3,none⟩=some d:=zfb h.h0
theorem FlS.cm {w W:zA} {a b c:List UInt8} {d m0 m1 m2:Value} (h:FlS w a b c d m0 m1 m2 W):W.cell? ⟨w.heap.size+1,0,none⟩=some m0/\W.cell? ⟨w.heap.size+1,1,none⟩=some m1/\W.cell? ⟨w.heap.size+1,2,none⟩=some m2:=
 ⟨by rw[zJ h.h1];rfl,by rw[zJ h.h1];rfl,by rw[zJ h.h1];rfl⟩
structure HfX (Q:Nat) (a b c:List UInt8) (v:Value) (l:List (Rat×Nat)) (W:zA):Prop where
 h:W.heap[Q]? =some (.cells #[St a,St b,St c,v] 26 (0,0))
 d:SdL v l W
theorem HfX.next {Q:Nat} {a b c:List UInt8} {v:Value} {l:List (Rat×Nat)} {W W':zA} (h:HfX Q a b c v l W) (hb:qL W W'):HfX Q a b c v l W':=⟨zac hb _ _ _ _ h.h,h.d.below hb⟩
theorem HfX.cells {Q:Nat} {a b c:List UInt8} {v:Value} {l:List (Rat×Nat)} {W:zA} (h:HfX Q a b c v l W):W.cell? ⟨Q,0,none⟩=some (St a)/\W.cell? ⟨Q,1,none⟩=some (St b)/\W.cell? ⟨Q,2,none⟩=some (St c)/\W.cell? ⟨Q,3,none⟩=some v:=zfb h.h
structure FlpQ (w:zA) (a b c a' b' c':List UInt8) (vd m0 m1 m2:Value) (l l':List (Rat×Nat)) (Q1 Q2:Int->Int->Prop):Prop where
 f1:∀W:zA,qL w W->Calls zF 13 #[.agg #[St a,St b,St c,vd]] W λe w'=>∃v,e=.returned (.tuple #[.agg #[St a',St b',St c',v],.int .i64 0])/\Below W.heap.size W w'/\SdL v l' w'
 f2:∀(W:zA) (v:Value),qL w W->SdL v l' W->Calls zF 13 #[.agg #[St a',St b',St c',v]] W λe w'=>∃u,e=.returned (.tuple #[.agg #[St a,St b,St c,u],.int .i64 0])/\Below W.heap.size W w'/\SdL u l w'
 s1:∀W:zA,qL w W->Calls zF 11 #[.agg #[St a,St b,St c,vd],.agg #[m0,m1,m2]] W λe w'=>∃m r,e=.returned (.tuple #[.int .i64 m,.int .i64 r])/\Below W.heap.size W w'/\Q1 m r
 s2:∀(W:zA) (v:Value),qL w W->SdL v l' W->Calls zF 11 #[.agg #[St a',St b',St c',v],.agg #[m0,m1,m2]] W λe w'=>∃m r,e=.returned (.tuple #[.int .i64 m,.int .i64 r])/\Below W.heap.size W w'/\Q2 m r
 sa:∀(W:zA) (v:Value),qL w W->SdL v l' W->qJ 14 #[.agg #[St a,St b,St c,vd],.agg #[St a',St b',St c',v]] W (.tuple #[.bool false,.int .i64 0])
 sb:∀(W:zA) (u:Value),qL w W->SdL u l W->qJ 14 #[.agg #[St a,St b,St c,vd],.agg #[St a,St b,St c,u]] W (.tuple #[.bool true,.int .i64 0])
 sh:∀(W:zA) (u:Value),qL w W->SdL u l W->qJ 15 #[.agg #[St a,St b,St c,vd],.agg #[St a,St b,St c,u]] W (.bool true)
 law:∀m r m2 r2,Q1 m r->Q2 m2 r2->r=4\/r2=4\/(r=0/\r2=0/\m= -m2/\ -2<m2/\m2<2)
theorem z1n (a b c:List UInt8) (pd p0 p1 p2:Option Addr) (nd n0 n1 n2 kd k0 k1 k2:Nat) (G1 G2:Prop) (w:zA)
 (FN:Hid (∀(W:zA) (A:Nat),qL w W->W.heap[A]? =some (.cells #[St a,St b,St c,.slice pd nd kd] 26 (0,0))->Calls zF 6 #[.slice (some ⟨A,0,none⟩) 1 1] W (YesI W G1)))
 (MK:Hid (∀W:zA,qL w W->Calls zF 12 #[.agg #[.slice p0 n0 k0,.slice p1 n1 k1,.slice p2 n2 k2]] W (YesI W G2)))
 (AW:Hid (∀W:zA,qL w W->qJ 7 #[] W (.bool true)))
 (MAIN:Hid (G1->G2->∃a' b' c' l l' Q1 Q2,FlpQ w a b c a' b' c' (.slice pd nd kd) (.slice p0 n0 k0) (.slice p1 n1 k1) (.slice p2 n2 k2) l l' Q1 Q2)):
 qJ 4 #[.agg #[St a,St b,St c,.slice pd nd kd],.agg #[.slice p0 n0 k0,.slice p1 n1 k1,.slice p2 n2 k2]] w (.bool true):=by
 obtain⟨v1,hv⟩:∃v1,v1=(w.alloc (.cells #[St a,St b,St c,.slice pd nd kd] 26)).alloc (.cells #[.slice p0 n0 k0,.slice p1 n1 k1,.slice p2 n2 k2] 30):=⟨_,rfl⟩;obtain⟨b1,A1,A2⟩:=box2 hv;have hsz:v1.heap.size=w.heap.size+1+1:=by rw[hv];simp
 obtain⟨z0,z1,z2,z3⟩:=zfb A1;obtain⟨v2,hv2⟩:∃v2,v2=v1.alloc (.cells #[St a,St b,St c,.slice pd nd kd] 26):=⟨_,rfl⟩;obtain⟨b2,A3⟩:=zu4 hv2;have HT0:Hid (FlS w a b c (.slice pd nd kd) (.slice p0 n0 k0) (.slice p1 n1 k1) (.slice p2 n2 k2) v2):=hid ⟨b1.trans (b2.mono b1.size),zac b2 _ _ _ _ A1,zac b2 _ _ _ _ A2⟩;have HF:=hid (FN.out v2 _ HT0.out.bel A3);rw[hsz] at HF;have HV:=hid hv.symm;have HV2:=hid hv2.symm;have HSZ:=hid hsz;clear hv hv2 b1 b2 A1 A2 A3 hsz FN;go_enter Tryz.func4,Tryz.ntmps4;go_wp2_with fail;have h9:=HV.out;rw[show(w.alloc (.cells #[.string ⟨a.toArray⟩,.string ⟨b.toArray⟩,.string ⟨c.toArray⟩,.slice pd nd kd] 26)).alloc (.cells #[.slice p0 n0 k0,.slice p1 n1 k1,.slice p2 n2 k2] 30)=v1 from h9];clear h9 HV;go_wp2_with fail;have h9:=HV2.out;rw[show v1.alloc (.cells #[.string ⟨a.toArray⟩,.string ⟨b.toArray⟩,.string ⟨c.toArray⟩,.slice pd nd kd] 26)=v2 from h9]
 try rw[HSZ.out]
 clear h9 HV2 HSZ z0 z1 z2 z3;refine HF.out.mono ?_;rintro e w1 ⟨t1,rfl,ht1,hb⟩;have HT1:=hid (HT0.out.next hb);have HG1:=hid ht1;clear hb ht1 HF HT0;cases t1
 ·have HA:=hid (AW.out w1 HT1.out.bel)
  clear MK AW MAIN;go_wp2_with fail;refine HA.out.mono ?_;rintro e w2 ⟨rfl,hb⟩;have HB:=hid (HT1.out.bel.trans (hb.mono HT1.out.bel.size));clear hb;go_wp2_with fail;go_ret;exact⟨rfl,HB.out⟩
 ·have HGG:=hid (HG1.out rfl)
  have HM:=hid (MK.out w1 HT1.out.bel);obtain⟨z0,z1,z2⟩:=HT1.out.cm;clear MK HG1;go_wp2_with fail;clear z0 z1 z2;refine HM.out.mono ?_;rintro e w2 ⟨t2,rfl,ht2,hb⟩;have HT2:=hid (HT1.out.next hb);have HG2:=hid ht2;clear hb ht2 HM HT1;cases t2
  ·have HA:=hid (AW.out w2 HT2.out.bel)
   clear AW MAIN;go_wp2_with fail;refine HA.out.mono ?_;rintro e w3 ⟨rfl,hb⟩;have HB:=hid (HT2.out.bel.trans (hb.mono HT2.out.bel.size));clear hb;go_wp2_with fail;go_ret;exact⟨rfl,HB.out⟩
  ·obtain⟨a',b',c',l,l',Q1,Q2,hQ⟩:=MAIN.out HGG.out (HG2.out rfl)
   have HQ:=hid hQ;clear hQ MAIN HGG HG2;obtain⟨z0,z1,z2,z3⟩:=HT2.out.ca;have HC:=hid (HQ.out.f1 w2 HT2.out.bel);go_wp2_with fail;clear z0 z1 z2 z3;refine HC.out.mono ?_;rintro e w3 ⟨v,rfl,hb,hs⟩;obtain⟨pv,nv,kv,rfl⟩:=hs.any;obtain⟨y1,hy⟩:∃y1,y1=w3.alloc (.cells #[St a',St b',St c',.slice pv nv kv] 26):=⟨_,rfl⟩;obtain⟨by1,Ay⟩:=zu4 hy;have HT3:=hid ((HT2.out.next hb).next by1);have HB1:Hid (HfX w3.heap.size a' b' c' (.slice pv nv kv) l' y1):=hid ⟨Ay,hs.below by1⟩;have HC:=hid (HQ.out.f2 y1 _ HT3.out.bel HB1.out.d);obtain⟨z0,z1,z2,z3⟩:=HB1.out.cells;rw[hy] at z0 z1 z2 z3;have HY:=hid hy.symm;clear hb hs hy by1 Ay HT2;go_wp2_with fail;have hxx:=HY.out;rw[show w3.alloc (.cells #[.string ⟨a'.toArray⟩,.string ⟨b'.toArray⟩,.string ⟨c'.toArray⟩,.slice pv nv kv] 26)=y1 from hxx];clear hxx HY z0 z1 z2 z3;generalize w3.heap.size=QB at*
   refine HC.out.mono ?_;rintro e w4 ⟨u,rfl,hb,hs⟩;obtain⟨pu,nu,ku,rfl⟩:=hs.any;obtain⟨y2,hy⟩:∃y2,y2=w4.alloc (.cells #[St a,St b,St c,.slice pu nu ku] 26):=⟨_,rfl⟩;obtain⟨by1,Ay⟩:=zu4 hy;have HT4:=hid ((HT3.out.next hb).next by1);have HB2:=hid ((HB1.out.next hb).next by1);have HC2:Hid (HfX w4.heap.size a b c (.slice pu nu ku) l y2):=hid ⟨Ay,hs.below by1⟩;have HC:=hid (HQ.out.s1 y2 HT4.out.bel);obtain⟨z0,z1,z2,z3⟩:=HT4.out.ca;obtain⟨x0,x1,x2⟩:=HT4.out.cm;rw[hy] at z0 z1 z2 z3 x0 x1 x2;have HY:=hid hy.symm;clear hb hs hy by1 Ay HT3 HB1;go_wp2_with fail;have hxx:=HY.out;rw[show w4.alloc (.cells #[.string ⟨a.toArray⟩,.string ⟨b.toArray⟩,.string ⟨c.toArray⟩,.slice pu nu ku] 26)=y2 from hxx];clear hxx HY z0 z1 z2 z3 x0 x1 x2;generalize w4.heap.size=QC at*
   refine HC.out.mono ?_;rintro e w5 ⟨m,r,rfl,hb,hq1⟩;have HT5:=hid (HT4.out.next hb);have HB3:=hid (HB2.out.next hb);have HC3:=hid (HC2.out.next hb);have HQ1:=hid hq1;clear hb hq1 HC HT4 HB2 HC2;obtain⟨z0,z1,z2,z3⟩:=HB3.out.cells;obtain⟨x0,x1,x2⟩:=HT5.out.cm;have HC:=hid (HQ.out.s2 w5 _ HT5.out.bel HB3.out.d);go_wp2_with fail;clear z0 z1 z2 z3 x0 x1 x2;refine HC.out.mono ?_;rintro e w6 ⟨m2,r2,rfl,hb,hq2⟩;have HT6:=hid (HT5.out.next hb);have HB4:=hid (HB3.out.next hb);have HC4:=hid (HC3.out.next hb);have HLAW:=hid (HQ.out.law m r m2 r2 HQ1.out hq2);clear hb hq2 HQ1 HC HT5 HB3 HC3;obtain⟨z0,z1,z2,z3⟩:=HT6.out.ca;obtain⟨x0,x1,x2,x3⟩:=HB4.out.cells;have HC:=hid (HQ.out.sa w6 _ HT6.out.bel HB4.out.d);go_wp2_with fail;clear z0 z1 z2 z3 x0 x1 x2 x3;refine HC.out.mono ?_;rintro e w7 ⟨rfl,hb⟩;have HT7:=hid (HT6.out.next hb);have HC5:=hid (HC4.out.next hb);clear hb HC HT6 HB4 HC4;obtain⟨z0,z1,z2,z3⟩:=HT7.out.ca;obtain⟨x0,x1,x2,x3⟩:=HC5.out.cells;have HC:=hid (HQ.out.sb w7 _ HT7.out.bel HC5.out.d);go_wp2_with fail;clear z0 z1 z2 z3 x0 x1 x2 x3;refine HC.out.mono ?_;rintro e w8 ⟨rfl,hb⟩;have HT8:=hid (HT7.out.next hb);have HC6:=hid (HC5.out.next hb);clear hb HC HT7 HC5;have HA:=hid (AW.out w8 HT8.out.bel);by_cases hr:r=4
   ·subst hr
    clear AW HQ HLAW;go_wp2_with fail;refine HA.out.mono ?_;rintro e w9 ⟨rfl,hb⟩;have HB:=hid (HT8.out.bel.trans (hb.mono HT8.out.bel.size));clear hb;go_wp2_with fail;go_ret;exact⟨rfl,HB.out⟩
   ·by_cases hr2:r2=4
    ·subst hr2
     have hrb:(r==4)=false:=by simpa using hr
     clear AW HQ HLAW hr;go_wp2_with fail;refine HA.out.mono ?_;rintro e w9 ⟨rfl,hb⟩;have HB:=hid (HT8.out.bel.trans (hb.mono HT8.out.bel.size));clear hb;go_wp2_with fail;go_ret;exact⟨rfl,HB.out⟩
    ·obtain⟨e1,e2,e3,l1,l2⟩:r=0/\r2=0/\m= -m2/\ -2<m2/\m2<2:=by
      rcases HLAW.out with h|h|h
      ·exact absurd h hr
      ·exact absurd h hr2
      ·exact h
     subst e1;subst e2;subst e3;have hwm:IntKind.i64.wrap (-m2)= -m2:=IntWalk.i64_in _ (by omega);obtain⟨z0,z1,z2,z3⟩:=HT8.out.ca;obtain⟨x0,x1,x2,x3⟩:=HC6.out.cells;have HC:=hid (HQ.out.sh w8 _ HT8.out.bel HC6.out.d);clear HA hr hr2 HLAW l1 l2 HQ;have mx6:∀w:zA,(Builtin.max_ #[31,31,31,31,31,31] 31 #[.int .i64 0,.int .i64 0,.int .i64 0,.int .i64 0,.int .i64 0,.int .i64 0]).run zF w=.ok (.int .i64 0) w:=λ_=>by kernel_rfl
     go_wp2_with fail;clear mx6;clear z0 z1 z2 z3 x0 x1 x2 x3;refine HC.out.mono ?_;rintro e w9 ⟨rfl,hb⟩;have hB:=HT8.out.bel.trans (hb.mono HT8.out.bel.size);have HB:=hid hB;have HA:=hid (AW.out w9 hB);clear hb hB HC AW;go_wp2_with fail;refine HA.out.mono ?_;rintro e w10 ⟨rfl,hb⟩;have HB2:=qT HB hb;clear hb;go_wp2_with fail;go_ret;exact⟨rfl,HB2.out⟩
theorem z5q {l:List (Rat×Nat)} {c:Rat} (h:c≠0):sclR l c=sclL l c:=by unfold sclR;rw[if_neg h]
theorem z6u:(-1:Rat)≠0:=by decide
theorem z6k (a b c:Rat) (ha:sz a 60) (hb:sz b 60) (hc:sz c 60) (D:List (Rat×Nat)) (hD:SdOk D) (v:Value) (w:zA) (hw:Hw w) (hv:SdL v D w):
 Calls zF 40 #[.agg #[St (numS a),St (numS b),St (numS c),v]] w λe w'=>∃u,e=.returned (.tuple #[.agg #[St (numS (-a)),St (numS (-b)),St (numS (-c)),u],.int .i64 0])/\Below w.heap.size w w'/\SdL u (sclL D (-1)) w':=by
 obtain⟨p,n,k,rfl⟩:=hv.any;refine zn5 (numS a) (numS b) (numS c) _ _ _ p n k (sclL D (-1)) w hw.d (hid λW hW=>?_) (hid λW hW=>zea a 60 (by omega) (by omega) ha W hW) (hid λW hW=>zea b 60 (by omega) (by omega) hb W hW) (hid λW hW=>zea c 60 (by omega) (by omega) hc W hW);have:=zeu (.slice p n k) D (-1) hD hD.len (zb7.2.2.2.2.1.mono (by omega)) (λt ht=>(z4v (hD.trm t ht).sc).mono (by omega)) W (hw.below hW).d (hw.below hW).p (hv.below hW);rw[z5q z6u,show St (numS (-1))=.string ⟨#[45,49]⟩ by rw[nm_1]] at this;exact this.mono λe w' h=>h.ok λc hc=>((zvn hD).trm c hc).sc
theorem z3s (a b c:Rat) (ha:sz a 60) (hb:sz b 60) (hc:sz c 60) (hz:a≠0\/b≠0\/c≠0) (D:List (Rat×Nat)) (hD:SdOk D) (v:Value) (w:zA) (hw:Hw w) (hv:SdL v D w):
 Calls zF 13 #[.agg #[St (numS a),St (numS b),St (numS c),v]] w λe w'=>∃u,e=.returned (.tuple #[.agg #[St (numS (-a)),St (numS (-b)),St (numS (-c)),u],.int .i64 0])/\Below w.heap.size w w'/\SdL u (sclL D (-1)) w':=by
 obtain⟨p,n,k,rfl⟩:=hv.any;exact z3q _ _ _ _ _ _ p n k _ w (hid λW A hW hA=>zjk a b c ha hb hc hz _ D hD A W (hw.below hW) (hv.below hW) hA) (hid λW hW=>z6k a b c ha hb hc D hD _ W (hw.below hW) (hv.below hW))
theorem zzi (a b c a' b' c':Rat) (ha:sz3 a b c 60) (ha':sz3 a' b' c' 60) (hz:a≠0\/b≠0\/c≠0) (hz':a'≠0\/b'≠0\/c'≠0) (d d':Value) (l l':List (Rat×Nat)) (hl:SdOk l) (hl':SdOk l') (B:Nat) (W:zA) (hW:Hw W) (hd:SdL d l W) (hd':SdL d' l' W) (hB:W.heap[B]? =some (.cells #[St (numS a),St (numS b),St (numS c),d,St (numS a'),St (numS b'),St (numS c'),d'] 26 (0,0))):
 qJ 27 #[.slice (some ⟨B,0,none⟩) 2 2] W (.int .i64 0):=by
 refine zef (some ⟨B,0,none⟩) 2 2 (λi=>if i=0 then numS a else numS a') (λi=>if i=0 then numS b else numS b') (λi=>if i=0 then numS c else numS c') (λi=>if i=0 then d else d') (by omega) (λi _=>by
  by_cases h:i=0
  ·rw[if_pos h];exact hd.any
  ·rw[if_neg h];exact hd'.any) W (hid λi hi V hV=>?_) (hid λi hi=>?_)
 ·match i,hi with
  |0,_=>exact zc9 a b c ha.1 ha.2.1 ha.2.2 hz d l hl V (hW.below hV) (hd.below hV)
  |1,_=>exact zc9 a' b' c' ha'.1 ha'.2.1 ha'.2.2 hz' d' l' hl' V (hW.below hV) (hd'.below hV)
 ·refine⟨B,0,rfl,?_⟩
  rw[zJ hB,zJ hB,zJ hB,zJ hB]
  match i,hi with
  |0,_|1,_=>exact⟨rfl,rfl,rfl,rfl⟩
theorem z0h (q:Rat):∃h0:0<(⟨(numS q).toArray⟩:ByteArray).size,(((((⟨(numS q).toArray⟩:ByteArray)[0]'h0).toNat:Int)==45)=decide (q<0)):=by
 have hne:numS q≠[]:=zr2 q;obtain⟨s1,s2,s3,s4⟩:=zco (numS q) hne _ rfl;have h0:0<(⟨(numS q).toArray⟩:ByteArray).size:=by
  show 0<(numS q).toArray.size;have:=List.length_pos_iff.2 hne;simpa using this
 refine⟨h0,?_⟩;rw[s4 h0];have hs:(q<0)↔q.num<0:=by
  constructor
  ·intro h
   refine Classical.byContradiction λhn=>?_;have:=Rat.num_nonneg.1 (show 0<=q.num by omega);grind
  ·intro h
   refine Classical.byContradiction λhn=>?_;have:=Rat.num_nonneg.2 (show 0<=q by grind);omega
 rw[decide_eq_decide.2 hs];unfold numS;rcases zbg q.num with⟨hx,e⟩|⟨hx,e⟩
 ·obtain⟨c,r,hd,hc1,hc2⟩:=Str.dec_head q.num.natAbs
  rw[decide_eq_false (by omega),beq_eq_false_iff_ne];simp only[e,hd,List.cons_append,List.head_cons];omega
 ·rw[decide_eq_true (by omega)]
  simp only[e,List.cons_append,List.head_cons];rfl
theorem z0j (v v':Value) (l:List (Rat×Nat)) (h:SdOk l) (hl:l.length<=6) (w:zA) (hw:Hw w) (h1:SdL v l w) (h2:SdL v' l w):
 qJ 43 #[v,v'] w (.tuple #[.int .i64 0,.int .i64 0]):=by
 have hm:mkG (l++sclL l (-1))=[]:=zt0 (ztb h.pos (zth h.pos _)) λr hr=>by rw[zo8,zpm];grind
 have hs:=z6n v v' l l h h (by omega) w hw.d hw.p h1 h2;rw[hm] at hs;refine zxb v v' 0 0 (λq d W=>SdL (.slice q 0 d) [] W) w (hid (hs.mono λe w' k=>?_)) (hid λW q d _ _=>zkl q d W);obtain⟨u,e1,hb,hu⟩:=k.ok λc hc=>by cases hc
 obtain⟨q,cap,eu, -⟩:=hu.slice;subst eu;exact⟨q,cap,e1,hb,hu⟩
theorem z3t {a b c:Rat} (sa:sz a 8) (sb:sz b 8) (sc:sz c 8) (hz:a≠0\/b≠0\/c≠0):0<a*a+b*b+c*c/\sz (a*a+b*b+c*c) 50:=by
 have nn:∀x:Rat,0<=x*x:=λx=>by
  rcases Rat.le_total (a:=0) (b:=x) with h|h
  ·exact Rat.mul_nonneg h h
  ·have:=Rat.mul_nonneg (show(0:Rat)<= -x by grind) (show(0:Rat)<= -x by grind)
   grind
 have ps:∀x:Rat,x≠0->0<x*x:=λx hx=>by
  have h1:=nn x;have h2:x*x≠0:=λe=>by
   rcases Rat.mul_eq_zero.1 e with e|e<;>exact hx e
  grind
 have ha:=nn a;have hb:=nn b;have hc:=nn c;refine⟨?_,(zk0 (zk0 (zca sa sa) (zca sb sb)) (zca sc sc)).mono (by omega)⟩;rcases hz with h|h|h
 ·have:=ps a h;grind
 ·have:=ps b h;grind
 ·have:=ps c h;grind
theorem z4u (a b c:Rat) (sa:sz a 8) (sb:sz b 8) (sc:sz c 8) (hz:a≠0\/b≠0\/c≠0) (D:List (Rat×Nat)) (hD:SdOk D) (v v':Value) (w:zA) (hw:Hw w) (hv:SdL v D w) (hv':SdL v' (sclL D (-1)) w):
 qJ 14 #[.agg #[St (numS a),St (numS b),St (numS c),v],.agg #[St (numS (-a)),St (numS (-b)),St (numS (-c)),v']] w (.tuple #[.bool false,.int .i64 0]):=by
 obtain⟨p,n,k,rfl⟩:=hv.any;obtain⟨p',n',k',rfl⟩:=hv'.any;obtain⟨hq,sq⟩:=z3t sa sb sc hz;have s3:sz3 a b c 30:=⟨sa.mono (by omega),sb.mono (by omega),sc.mono (by omega)⟩;have s3':sz3 (-a) (-b) (-c) 30:=⟨(zdq sa).mono (by omega),(zdq sb).mono (by omega),(zdq sc).mono (by omega)⟩;have hz': -a≠0\/ -b≠0\/ -c≠0:=by grind
 have ed:a* -a+b* -b+c* -c= -(a*a+b*b+c*c):=by grind
 obtain⟨h0,hb⟩:=z0h (-(a*a+b*b+c*c));rw[decide_eq_true (by grind)] at hb
 exact zzh _ _ _ _ _ _ (numS (-(a*a+b*b+c*c))) [] p p' n n' k k' true [] [] w (hid hw.wd) (zsf (by grind)) h0 hb
  (hid λW A hW hA=>zzi a b c (-a) (-b) (-c) (s3.mono (by omega)) (s3'.mono (by omega)) hz hz' _ _ D (sclL D (-1)) hD (zvn hD) A W (hw.below hW) (hv.below hW) (hv'.below hW) hA)
  (hid λW hW=>zvr _ _ _ _ _ _ (hid λV hV=>by
    have:=zgs a b c (-a) (-b) (-c) s3 s3' V hV;rw[show b* -c-c* -b=0 by grind,show c* -a-a* -c=0 by grind,show a* -b-b* -a=0 by grind,show St (numS 0)=.string ⟨#[48]⟩ by rw[nm0]] at this;exact this) W (hid hW))
  (hid λW hW=>by have:=zs6 a b c (-a) (-b) (-c) s3 s3' W hW;rw[ed] at this;exact this)
  (hid λh=>by cases h) (hid λh=>by cases h) (hid λh=>by cases h) (hid λh=>by cases h)
theorem z3v (a b c:Rat) (sa:sz a 8) (sb:sz b 8) (sc:sz c 8) (hz:a≠0\/b≠0\/c≠0) (D:List (Rat×Nat)) (hD:SdOk D) (hl:D.length<=6) (h8:∀t∈D,sz t.1 8) (v v':Value) (w:zA) (hw:Hw w) (hv:SdL v D w) (hv':SdL v' D w):
 qJ 14 #[.agg #[St (numS a),St (numS b),St (numS c),v],.agg #[St (numS a),St (numS b),St (numS c),v']] w (.tuple #[.bool true,.int .i64 0]):=by
 obtain⟨p,n,k,rfl⟩:=hv.any;obtain⟨p',n',k',rfl⟩:=hv'.any;obtain⟨hq,sq⟩:=z3t sa sb sc hz;have s3:sz3 a b c 30:=⟨sa.mono (by omega),sb.mono (by omega),sc.mono (by omega)⟩;have hs:∀t∈D,sz (t.1*(a*a+b*b+c*c)) 60:=λt ht=>(zca (h8 t ht) sq).mono (by omega);have hso:=zw6 hD (zj9 hs);obtain⟨h0,hb⟩:=z0h (a*a+b*b+c*c);rw[decide_eq_false (by grind)] at hb
 exact zzh _ _ _ _ _ _ (numS (a*a+b*b+c*c)) (numS (a*a+b*b+c*c)) p p' n n' k k' false (sclR D (a*a+b*b+c*c)) (sclR D (a*a+b*b+c*c)) w (hid hw.wd) (zsf (by grind)) h0 hb
  (hid λW A hW hA=>zzi a b c a b c (s3.mono (by omega)) (s3.mono (by omega)) hz hz _ _ D D hD hD A W (hw.below hW) (hv.below hW) (hv'.below hW) hA)
  (hid λW hW=>zvr _ _ _ _ _ _ (hid λV hV=>by
    have:=zgs a b c a b c s3 s3 V hV;rw[show b*c-c*b=0 by grind,show c*a-a*c=0 by grind,show a*b-b*a=0 by grind,show St (numS 0)=.string ⟨#[48]⟩ by rw[nm0]] at this;exact this) W (hid hW))
  (hid λW hW=>zs6 a b c a b c s3 s3 W hW)
  (hid λ_ W hW=>zs6 a b c a b c s3 s3 W hW)
  (hid λ_ W hW=>(zeu _ D _ hD hD.len (sq.mono (by omega)) (λt ht=>(hs t ht).mono (by omega)) W (hw.below hW).d (hw.below hW).p (hv.below hW)).mono λe w' k=>k.ok (zj9 hs))
  (hid λ_ W hW=>(zeu _ D _ hD hD.len (sq.mono (by omega)) (λt ht=>(hs t ht).mono (by omega)) W (hw.below hW).d (hw.below hW).p (hv'.below hW)).mono λe w' k=>k.ok (zj9 hs))
  (hid λ_ W u v hW hu hv=>z0j u v _ hso (Nat.le_trans (zxp _ _) hl) W (hw.below hW) hu hv)
theorem zzk (l:List (Rat×Nat)):sgeL l=0\/sgeL l=4:=by
 unfold sgeL errP;split
 ·exact .inl rfl
 ·split
  ·exact .inr rfl
  ·exact .inl rfl
theorem z3x (l:List (Rat×Nat)): -2<sgnL l/\sgnL l<2:=by
 unfold sgnL;split
 ·omega
 ·rcases zu6 l.length (λk=>valZ l (plN k)) with⟨h,_⟩|⟨h,_⟩|h<;>rw[h]<;>omega
theorem z3y (a b c:List UInt8) (vd u0 u1 u2:Value) (ld l0 l1 l2:List (List UInt8×List UInt8)) (w:zA) (hw:Hw w) (hd:SdT vd ld w) (h0:SdT u0 l0 w) (h1:SdT u1 l1 w) (h2:SdT u2 l2 w):
 qJ 4 #[.agg #[St a,St b,St c,vd],.agg #[u0,u1,u2]] w (.bool true):=by
 obtain⟨pd,nd,kd,rfl⟩:=hd.any;obtain⟨p0,n0,k0,rfl⟩:=h0.any;obtain⟨p1,n1,k1,rfl⟩:=h1.any;obtain⟨p2,n2,k2,rfl⟩:=h2.any;have H:=λ(W:zA) (h:qL w W)=>hw.below h;refine z1n a b c pd p0 p1 p2 nd n0 n1 n2 kd k0 k1 k2 _ _ w (hid λW A hW hA=>z5p A a b c _ ld W (H W hW).wd hA (hd.below hW)) (hid λW hW=>z3p _ _ _ l0 l1 l2 W (H W hW) (h0.below hW) (h1.below hW) (h2.below hW)) (hid λW hW=>zm6 W (H W hW)) (hid λhF hM=>?_);obtain⟨A,B,C,D,hF⟩:=hF;obtain⟨⟨X,hX⟩,⟨Y,hY⟩,⟨Z,hZ⟩⟩:=hM;obtain⟨ea,eb,ec,sa,sb,sc,hz,hGD⟩:=hF;subst ea;subst eb;subst ec;obtain⟨eD,oD,nD,zD⟩:=hGD;obtain⟨eX,oX,nX,zX⟩:=hX;obtain⟨eY,oY,nY,zY⟩:=hY;obtain⟨eZ,oZ,nZ,zZ⟩:=hZ;have vD:=hd.sd eD;have vX:=h0.sd eX;have vY:=h1.sd eY;have vZ:=h2.sd eZ;have m60:∀{q:Rat},sz q 8->sz q 60:=λh=>h.mono (by omega);have scl:∀{l:List (Rat×Nat)} {q:Rat},(∀t∈l,sz t.1 8/\t.2<10^8)->sz q 8->SclS l q:=λhl hq t ht=>(zca (hl t ht).1 hq).mono (by omega);have hzn: -A≠0\/ -B≠0\/ -C≠0:=by grind
 have oD':=zvn oD;have nD':(sclL D (-1)).length=D.length:=by simp[sclL]
 have back:sclL (sclL D (-1)) (-1)=D:=by
  rw[zya,zya,List.map_map]
  conv=>rhs;rw[<-List.map_id D]
  refine List.map_congr_left λt _=>?_;show(- -t.1,t.2)=t;rw[show- -t.1=t.1 by grind]
 have sM:=z5l D X Y Z A B C;refine⟨numS (-A),numS (-B),numS (-C),D,sclL D (-1),λm r=>(r=4/\m=0)\/(m=sgnL (sdM3 D X Y Z A B C)/\r=sgeL (sdM3 D X Y Z A B C)/\∀t∈sdM3 D X Y Z A B C,t.1≠0),λm r=>(r=4/\m=0)\/(m=sgnL ((sdM3 D X Y Z A B C).map ngT)/\r=sgeL ((sdM3 D X Y Z A B C).map ngT)),⟨?_,?_,?_,?_,?_,?_,?_,?_⟩⟩
 ·exact λW hW=>z3s A B C (m60 sa) (m60 sb) (m60 sc) hz D oD _ W (H W hW) (vD.below hW)
 ·intro W v hW hv
  have:=z3s (-A) (-B) (-C) (m60 (zdq sa)) (m60 (zdq sb)) (m60 (zdq sc)) hzn _ oD' v W (H W hW) hv;rw[back,show- -A=A by grind,show- -B=B by grind,show- -C=C by grind] at this;exact this
 ·exact λW hW=>z3g A B C (m60 sa) (m60 sb) (m60 sc) hz D X Y Z oD oX oY oZ (zo6 _ _ _ _ _ _ _ (by omega)) (scl zX sa) (scl zY sb) (scl zZ sc) _ _ _ _ W (H W hW) (vD.below hW) (vX.below hW) (vY.below hW) (vZ.below hW)
 ·intro W v hW hv
  have:=z3g (-A) (-B) (-C) (m60 (zdq sa)) (m60 (zdq sb)) (m60 (zdq sc)) hzn (sclL D (-1)) X Y Z oD' oX oY oZ (zo6 _ _ _ _ _ _ _ (by omega)) (scl zX (zdq sa)) (scl zY (zdq sb)) (scl zZ (zdq sc)) v _ _ _ W (H W hW) hv (vX.below hW) (vY.below hW) (vZ.below hW);rw[sM] at this;refine this.mono λe w' ⟨m,r,e1,hb,h⟩=>⟨m,r,e1,hb,?_⟩;rcases h with h|⟨h1,h2,_⟩
  ·exact .inl h
  ·exact .inr ⟨h1,h2⟩
 ·exact λW v hW hv=>z4u A B C sa sb sc hz D oD _ v W (H W hW) (vD.below hW) hv
 ·exact λW v hW hv=>z3v A B C sa sb sc hz D oD (by omega) (λt ht=>(zD t ht).1) _ v W (H W hW) (vD.below hW) hv
 ·intro W v hW hv
  obtain⟨pv,nv,kv,rfl⟩:=hv.any;exact zzq _ _ _ pd pv nd nv kd kv W (hid λV hV=>z3r _ _ D (by omega) V ((vD.below hW).below hV) (hv.below hV))
 ·intro m r m2 r2 q1 q2
  rcases q1 with⟨h,_⟩|⟨e1,e2,hne⟩
  ·exact .inl h
  ·rcases q2 with⟨h,_⟩|⟨e3,e4⟩
   ·exact .inr (.inl h)
   ·rcases zzk (sdM3 D X Y Z A B C) with g|g
    ·rcases zzk ((sdM3 D X Y Z A B C).map ngT) with g2|g2
     ·right;right
      have:=z3x ((sdM3 D X Y Z A B C).map ngT);exact⟨by rw[e2,g],by rw[e4,g2],by rw[e1,e3];exact z5k hne g g2,by rw[e3];exact this.1,by rw[e3];exact this.2⟩
     ·exact .inr (.inl (by rw[e4,g2]))
    ·exact .inl (by rw[e2,g])
end
section
open Go.RowKit Go.Shelf Lib Str Limb
open Go.ChangeShapes Go.WideShapes Go.ChangeAt
theorem zvp (os:Os) (started:os.Started) (H:Type) (enc:TypeId×Value->H):
 ReturnsInHanded {} Tryz.checked os 4 .any (λw args=>(Rows.halfspaceFlipsSpec.pre enc zF Tryz.f4 [] false w args/\laidMetH zF Rows.halfspaceFlipsRow.laid w)/\sizedMet enc zF Tryz.f4 (OpenSpec.ofChange Rows.halfspaceFlipsSpec) false w args)
  (Rows.halfspaceFlipsSpec.post enc zF Tryz.f4 false true false false):=by
 refine zf9 (C:=Tryz.checked) (X:=λw _=>laidMetH zF Rows.halfspaceFlipsRow.laid w) (λ_ _ _ hh h=>h.of_heap hh) zrj started (by kernel_rfl) Tryz.func4
  (ChangeSpec.witness_shaped (enc:=enc) (C:=Tryz.checked) (os:=os) (X:=λw _=>laidMetH zF Rows.halfspaceFlipsRow.laid w) false (World.laidAll zF os Rows.halfspaceFlipsRow.laid)
    #[.agg #[.string ⟨#[]⟩,.string ⟨#[]⟩,.string ⟨#[]⟩,.slice none 0 0],.agg #[.slice none 0 0,.slice none 0 0,.slice none 0 0]] 8 (World.laidAll_os _ _ _)
    (World.shaped_of_ZipB (by kernel_rfl) (by kernel_rfl)) (by kernel_rfl) (by kernel_rfl) (by kernel_rfl)
    (by rw[MakeChecks.laidMetH_plain _ _ _ (by kernel_rfl)];exact laidMet_laidAll _ (by kernel_rfl) (by kernel_rfl))) ?_
 intro W args ds gs before base hval0 hW hL hsh;have hval:∀(j:Nat) t v,Tryz.f4.params[j]? =some t->args[j]? =some v->Value.okWide zF W .any base t v:=hval0;have hW':=hW;obtain⟨p,q,hA0,hV,rfl,_,_⟩:=hW;have hA:DataW.TrodAll enc zF W 0 (λ_=>true) true Tryz.f4.params.toList args.toList ds p:=hA0;rw[Tryz.params4] at hA hval;obtain⟨v0,vs0,d0,ds0,p0,q0,e0,rfl,rfl,h0,hA⟩:=trodAll_cons hA;obtain⟨v1,vs1,d1,ds1,p1,q1,rfl,rfl,rfl,h1,hA⟩:=trodAll_cons hA;obtain⟨rfl,rfl,rfl⟩:=trodAll_nil hA;obtain rfl:args= #[v0,v1]:=by cases args;simp_all
 obtain⟨rfl,rfl⟩:=trodVars_none hV;simp only[List.append_nil] at hW';have hlt:∀x∈p0++p1,x.block<W.heap.size:=λx hx=>by simpa using hW'.lt x hx
 have k0:=h0;have k1:=h1;obtain⟨x,y,z,u,l,rfl,hu⟩:=z30 (hval 0 26 v0 rfl rfl) h0;obtain⟨u0,u1,u2,l0,l1,l2,rfl,hu0,hu1,hu2⟩:=z31 (hval 1 30 v1 rfl rfl) h1;have hM:laidMet zF Rows.halfspaceFlipsRow.laid W:=by rw[<-MakeChecks.laidMetH_plain _ _ _ (by kernel_rfl)];exact hL
 have hwd:Wd W:=z0v hM (.tail _ (.tail _ (.head _))) hsh;have hpw:Pw W:=z0w hM (.tail _ (.tail _ (.tail _ (.tail _ (.tail _ (.tail _ (.head _)))))));have hsw:Spw W:=z80 hM (.tail _ (.tail _ (.tail _ (.tail _ (.tail _ (.tail _ (.tail _ (.head _))))))));refine(z3y x y z u u0 u1 u2 l l0 l1 l2 W ⟨hwd,hpw,hsw⟩ hu hu0 hu1 hu2).mono λe W' ⟨he,hb⟩=>?_;subst he;have t0:=Below.trod zgh (by kernel_rfl) (of_decide_eq_true (by kernel_rfl)) k0 hb (λx hx=>hlt x (List.mem_append_left _ hx));have t1:=Below.trod zgh (by kernel_rfl) (of_decide_eq_true (by kernel_rfl)) k1 hb (λx hx=>hlt x (List.mem_append_right _ hx));exact⟨_,rfl,_,_,_,[],_,[],hW',trodAll_mk1 (shut_bool Tryz.underlying4 _),trodAll_mk2 t0 t1,rfl,hb.frame _,λh=>by cases h⟩
theorem zuh:mapsRowed zF=true:=by kernel_rfl
theorem zxu:namedTie zF Rows.halfspaceFlipsRow.named Rows.halfspaceFlipsSpec.vars=true:=by kernel_rfl
theorem zpn:(Rows.halfspaceFlipsRow.inPlace==Tryz.prog.inPlace 4)=true:=by kernel_rfl
theorem zxv:(Rows.halfspaceFlipsRow.unfollowed==Tryz.prog.unfollowed 4)=true:=by kernel_rfl
theorem zxw:(Rows.halfspaceFlipsRow.recurses==Tryz.prog.recurses 4)=true:=by kernel_rfl
theorem zqn:(Rows.halfspaceFlipsRow.named==Tryz.prog.varsNamed 4)=true:=by kernel_rfl
theorem ztq:Tryz.prog.stopsHeard=true:=by kernel_rfl
theorem zug:Tryz.prog.mayEnter=true:=by kernel_rfl
theorem zpi:(Rows.halfspaceFlipsRow.lifted==Tryz.prog.liftsFinal)=true:=by kernel_rfl
theorem zwv:(Tryz.prog.make==some Rows.halfspaceFlipsRow.make)=true:=by kernel_rfl
theorem zxs:(Rows.halfspaceFlipsRow.plainKeys==Tryz.prog.plainKeys)=true:=by kernel_rfl
theorem zxt:Tryz.pinned.checked.prog.funcNamed Rows.halfspaceFlipsRow.func=some 4:=by kernel_rfl
theorem zxx:joinedFacts zF 4 Tryz.f4 Rows.halfspaceFlipsSpec Rows.halfspaceFlipsRow=true:=by
 unfold joinedFacts;simp only[Bool.and_eq_true]
 repeat' apply And.intro
 all_goals first|with_reducible exact zgh|with_reducible exact zuh|with_reducible exact zxu|with_reducible exact zpn|with_reducible exact zxv|with_reducible exact zxw|with_reducible exact zqn|with_reducible exact ztq|with_reducible exact zug|with_reducible exact zpi|with_reducible exact zwv|with_reducible exact zxs|kernel_rfl
theorem zwx:Rows.HalfspaceFlipsSaid:=
 OpenClaim.holds_of_wide 4 Tryz.f4 rfl rfl rfl rfl rfl rfl rfl ⟨rfl,rfl,rfl,rfl,rfl⟩ rfl rfl rfl rfl rfl zxt Tryz.func4 zxx
  (of_decide_eq_true (by kernel_rfl)) (by unfold Func.isWrapper;first|(rw[if_pos (by decide+kernel)];kernel_rfl)|(rw[if_neg (by decide+kernel)];exact⟨rfl,rfl⟩))
  (λos started H enc _=>zvp os started H enc)
end
end Go.Proofs.YtheinkfbiedidaaGreatDoor
