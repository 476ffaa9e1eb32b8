/- vector.Parallel, halfspace.Flip, halfspace.Same; kingpostref09.SameSurd, kingpostref37.SameHalf. -/
import Derived.Test.YtgeapfaiacoajaaGreatDoorZ14
set_option maxRecDepth 100000
set_option maxHeartbeats 8000000
open Go renaming World → zA, Calls → zC
open Go.RowKit renaming Below → zB, intOf → zL
open Go.Proofs.Tryz renaming prog → zF
open Go.World renaming alloc_heap_new → zG
open Go.IntWalk renaming i64_in → zI
open Go.Joins renaming cell_of_block → zJ, block_setCell → zK
open Go.RowKit.Below renaming refl → zM, heap_setCell → yE
open Nat renaming le_refl → zN, zero_le → zR, pos_of_ne_zero → yS
open List renaming mem_cons_self → yD
namespace Go.Proofs.YtgeapfaiacoajaaGreatDoor
section
open Go.RowKit Go.Shelf Lib Str Limb Geo
attribute [local go_sem] Oper.semAt_some
theorem zdq {W:zA} {A:Nat} {t:TypeId} (h:W.heap[A]? =some (.cells zc1 t (0,0))):W.cell? ⟨A,0,none⟩=some (St [])/\W.cell? ⟨A,1,none⟩=some (St [])/\W.cell? ⟨A,2,none⟩=some (St [])/\W.cell? ⟨A,3,none⟩=some (.slice none 0 0)/\(∀i,W.frozen? ⟨A,i,none⟩=false):=
 ⟨by rw[zJ h];rfl,by rw[zJ h];rfl,by rw[zJ h];rfl,by rw[zJ h];rfl,λi=>Go.Joins.unfrozen_of_block h i⟩
theorem zm1 (a b c a' b' c' x y z:List UInt8) (bb:Bool) (HBB:Hid ((x==[48]&&y==[48]&&z==[48])=bb))
 (CR:Hid (qK 81 #[.agg #[St a,St b,St c],.agg #[St a',St b',St c']] (.tuple #[.agg #[St x,St y,St z],.int .i64 0])))
 (w:zA) (HW:Hid (Wd w)):
 qJ 45 #[.agg #[St a,St b,St c],.agg #[St a',St b',St c']] w (.tuple #[.bool bb,.int .i64 0]):=by
 obtain⟨v1,hv⟩:=zzX ((w.alloc (.cells #[St a,St b,St c] 45)).alloc (.cells #[St a',St b',St c'] 45));obtain⟨b1,A1,A2⟩:=box2 hv;obtain⟨k0,k1,k2⟩:v1.cell? ⟨w.heap.size,0,none⟩=some (St a)/\v1.cell? ⟨w.heap.size,1,none⟩=some (St b)/\v1.cell? ⟨w.heap.size,2,none⟩=some (St c):=⟨by rw[zJ A1];rfl,by rw[zJ A1];rfl,by rw[zJ A1];rfl⟩;obtain⟨j0,j1,j2⟩:v1.cell? ⟨w.heap.size+1,0,none⟩=some (St a')/\v1.cell? ⟨w.heap.size+1,1,none⟩=some (St b')/\v1.cell? ⟨w.heap.size+1,2,none⟩=some (St c'):=⟨by rw[zJ A2];rfl,by rw[zJ A2];rfl,by rw[zJ A2];rfl⟩;have B1:=hid b1;have HV:=hid hv.symm;rw[hv] at k0 k1 k2 j0 j1 j2;clear hv b1 A1 A2;go_enter Tryz.func45,Tryz.ntmps45;go_wp21;have h9:=HV.out;rw[show(w.alloc (.cells #[.string ⟨a.toArray⟩,.string ⟨b.toArray⟩,.string ⟨c.toArray⟩] 45)).alloc (.cells #[.string ⟨a'.toArray⟩,.string ⟨b'.toArray⟩,.string ⟨c'.toArray⟩] 45)=v1 from h9];clear h9 HV k0 k1 k2 j0 j1 j2;refine zzM (CR.out v1 (HW.out.below B1.out)) λw1 hb=>?_;have B2:=hid (B1.out.trans (hb.mono B1.out.size));clear hb B1;obtain⟨v2,hv⟩:=zzX (w1.alloc (.cells #[St x,St y,St z] 45));obtain⟨b2,A2⟩:=zu4 hv;obtain⟨k0,k1,k2⟩:v2.cell? ⟨w1.heap.size,0,none⟩=some (St x)/\v2.cell? ⟨w1.heap.size,1,none⟩=some (St y)/\v2.cell? ⟨w1.heap.size,2,none⟩=some (St z):=⟨by rw[zJ A2];rfl,by rw[zJ A2];rfl,by rw[zJ A2];rfl⟩;have B3:=hid (B2.out.trans (b2.mono B2.out.size));rw[hv] at k0 k1 k2 B3;clear hv b2 A2;cases bb
 ·go_wp21
  all_goals first|(go_ret2;subst_vars;exact⟨rfl,B3.out⟩)|(exfalso;subst_vars;exact absurd HBB.out (by decide))
 ·obtain⟨⟨rfl,rfl⟩,rfl⟩:(x=[48]/\y=[48])/\z=[48]:=by simpa using HBB.out
  go_wp21;go_ret2;exact⟨rfl,B3.out⟩
structure SmS (w:zA) (a b c a' b' c':List UInt8) (d d':Value) (W:zA):Prop where
 bel:qL w W
 h0:W.heap[w.heap.size]? =some (.cells #[St a,St b,St c,d] 26 (0,0))
 h1:W.heap[w.heap.size+1]? =some (.cells #[St a',St b',St c',d'] 26 (0,0))
section
variable {w W W':zA} {a b c a' b' c':List UInt8} {d d':Value}
theorem SmS.next (h:SmS w a b c a' b' c' d d' W) (hb:qL W W'):SmS w a b c a' b' c' d d' W':=
 ⟨h.bel.trans (hb.mono h.bel.size),zac hb _ _ _ _ h.h0,zac hb _ _ _ _ h.h1⟩
theorem SmS.ca (h:SmS w a b c a' b' c' d d' W):W.cell? ⟨w.heap.size,0,none⟩=some (St a)/\W.cell? ⟨w.heap.size,1,none⟩=some (St b)/\W.cell? ⟨w.heap.size,2,none⟩=some (St c)/\W.cell? ⟨w.heap.size,3,none⟩=some d:=zfb h.h0
theorem SmS.cb (h:SmS w a b c a' b' c' d d' W):W.cell? ⟨w.heap.size+1,0,none⟩=some (St a')/\W.cell? ⟨w.heap.size+1,1,none⟩=some (St b')/\W.cell? ⟨w.heap.size+1,2,none⟩=some (St c')/\W.cell? ⟨w.heap.size+1,3,none⟩=some d':=zfb h.h1
end
def zud (is neg:Bool) (Ea Eb F:Prop) (G:Int->Int->Prop) (bb:Bool) (r:Int):Prop:=
 (bb=false/\r=0/\(is=false\/neg=true))\/(is=true/\neg=false/\((bb=false/\r=4/\F)\/∃m,G m r/\bb=(decide (r=0)&&decide (m=0))/\Ea/\Eb))
theorem zta (a b c a' b' c' dp dq:List UInt8) (p p':Option Addr) (n n' k k':Nat) (is neg:Bool) (l l':List (Rat×Nat)) (Ea Eb F:Prop) (G:Int->Int->Prop) (w:zA) (HW:Hid (Wd w))
 (hz:is=true->(dp==[48])=false) (hne:0<(⟨dp.toArray⟩:ByteArray).size) (hd:((((⟨dp.toArray⟩:ByteArray)[0]'hne).toNat:Int)==45)=neg)
 (CK:Hid (∀(W:zA) (A:Nat),qL w W->W.heap[A]? =some (.cells #[St a,St b,St c,.slice p n k,St a',St b',St c',.slice p' n' k'] 26 (0,0))->qJ 44 #[.slice (some ⟨A,0,none⟩) 2 2] W (.int .i64 0)))
 (PA:Hid (qK 45 #[.agg #[St a,St b,St c],.agg #[St a',St b',St c']] (.tuple #[.bool is,.int .i64 0])))
 (D1:Hid (is=true->qK 47 #[.agg #[St a,St b,St c],.agg #[St a',St b',St c']] (.tuple #[St dp,.int .i64 0])))
 (D2:Hid (is=true->neg=false->qK 47 #[.agg #[St a',St b',St c'],.agg #[St a',St b',St c']] (.tuple #[St dq,.int .i64 0])))
 (S1:Hid (is=true->neg=false->∀W:zA,qL w W->zC zF 11 #[.slice p n k,St dq] W λe w'=>∃q n c r,e=.returned (.tuple #[.slice q n c,.int .i64 r])/\zB W.heap.size W w'/\OutR l Ea F (.slice q n c) r w'))
 (S2:Hid (is=true->neg=false->∀W:zA,qL w W->zC zF 11 #[.slice p' n' k',St dp] W λe w'=>∃q n c r,e=.returned (.tuple #[.slice q n c,.int .i64 r])/\zB W.heap.size W w'/\OutR l' Eb F (.slice q n c) r w'))
 (CM:Hid (is=true->neg=false->∀(W:zA) (u v:Value),Ea->Eb->qL w W->SdL u l W->SdL v l' W->zC zF 48 #[u,v] W λe w'=>∃m r,e=.returned (.tuple #[.int .i64 m,.int .i64 r])/\zB W.heap.size W w'/\G m r)):
 zC zF 12 #[.agg #[St a,St b,St c,.slice p n k],.agg #[St a',St b',St c',.slice p' n' k']] w λe w'=>∃bb r,e=.returned (.tuple #[.bool bb,.int .i64 r])/\zB w.heap.size w w'/\zud is neg Ea Eb F G bb r:=by
 obtain⟨v1,hv⟩:=zzX ((w.alloc (.cells #[St a,St b,St c,.slice p n k] 26)).alloc (.cells #[St a',St b',St c',.slice p' n' k'] 26));obtain⟨b1,A1,A2⟩:=box2 hv;have hsz:v1.heap.size=w.heap.size+1+1:=by rw[hv];simp
 obtain⟨k0,k1,k2,k3⟩:=zfb A1;obtain⟨j0,j1,j2,j3⟩:=zfb A2;obtain⟨v2,hv2⟩:=zzX (v1.alloc (.cells #[St a,St b,St c,.slice p n k,St a',St b',St c',.slice p' n' k'] 26));obtain⟨b2,A3⟩:=zu4 hv2;have hB:=b1.trans (b2.mono b1.size);have HT2:Hid (SmS w a b c a' b' c' (.slice p n k) (.slice p' n' k') v2):=hid ⟨hB,zac b2 _ _ _ _ A1,zac b2 _ _ _ _ A2⟩;have HC:=hid (CK.out v2 _ hB A3);rw[hsz] at HC;have HV:=hid hv.symm;have HV2:=hid hv2.symm;have HSZ:=hid hsz;obtain⟨s,hs⟩:=zzX (⟨dp.toArray⟩:ByteArray);have es:s.toList=dp:=by rw[hs,ByteArray.toList_eq]
 rw[show St dp=.string s by rw[hs]] at*
 replace hz:is=true->(s.toList==[48])=false:=λk=>by rw[es];exact hz k
 have hne2:0<s.size:=by rw[hs];exact hne
 have hd2:(((s[0]'hne2).toNat:Int)==45)=neg:=by subst hs;exact hd
 clear hv hv2 b1 b2 A1 A2 A3 hB CK hsz hd hne es hs;go_enter Tryz.func12,Tryz.ntmps12;go_wp21;have h9:=HV.out;rw[show(w.alloc (.cells #[.string ⟨a.toArray⟩,.string ⟨b.toArray⟩,.string ⟨c.toArray⟩,.slice p n k] 26)).alloc (.cells #[.string ⟨a'.toArray⟩,.string ⟨b'.toArray⟩,.string ⟨c'.toArray⟩,.slice p' n' k'] 26)=v1 from h9];clear h9 HV;go_wp21;have h9:=HV2.out;rw[show v1.alloc (.cells #[.string ⟨a.toArray⟩,.string ⟨b.toArray⟩,.string ⟨c.toArray⟩,.slice p n k,.string ⟨a'.toArray⟩,.string ⟨b'.toArray⟩,.string ⟨c'.toArray⟩,.slice p' n' k'] 26)=v2 from h9]
 try rw[HSZ.out]
 clear h9 HV2 HSZ k0 k1 k2 k3 j0 j1 j2 j3;refine zzM HC.out λw1 hb=>?_;have HT3:=hid (HT2.out.next hb);clear hb HC HT2;go_wp21;refine zbl (λ_ W=>SmS w a b c a' b' c' (.slice p n k) (.slice p' n' k') W) (by kernel_rfl) (by kernel_rfl) (HT3.out.next (zM _ _).drew) ?_;refine qR (.agg #[St a,St b,St c,.slice p n k]) ?_ (hy:=λf W' hf h=>by obtain⟨q0,q1,q2,q3⟩:=h.ca;go_simp);simp only[zzQ]
 refine zar (.agg #[St a,St b,St c]) (by rfl) (λf W' hf h C' hC'=>by
  have hg:=zcl a b c p n k W';go_simp;refine zzM hg λw' hb=>?_;exact⟨rfl,hC' _ (h.next hb)⟩) ?_
 refine qR (.agg #[St a',St b',St c',.slice p' n' k']) ?_ (hy:=λf W' hf h=>by obtain⟨q0,q1,q2,q3⟩:=h.cb;go_simp);simp only[zzQ]
 refine zar (.agg #[St a',St b',St c']) (by rfl) (λf W' hf h C' hC'=>by
  have hg:=zcl a' b' c' p' n' k' W';go_simp;refine zzM hg λw' hb=>?_;exact⟨rfl,hC' _ (h.next hb)⟩) ?_
 try simp only[zzQ]
 refine zar (.tuple #[.bool is,.int .i64 0]) (by rfl) (λf W' hf h C' hC'=>by
  have hg:=PA.out W' (HW.out.below h.bel);go_simp;refine zzM hg λw' hb=>?_;exact⟨rfl,hC' _ (h.next hb)⟩) ?_
 refine qR (.tuple #[.bool is,.int .i64 0]) ?_;refine qR (.bool is) ?_;simp only[zzQ];refine qR (.int .i64 0) ?_;refine qR (.bool is) ?_;refine qR (.int .i64 0) ?_;simp only[zzQ];refine zck λf X hf h=>?_;have HT4:=hid h;clear h hf HT3 PA;cases is
 ·clear D1 D2 S1 S2 CM hz
  go_wp21;go_ret2;exact⟨_,_,rfl,HT4.out.bel,.inl ⟨rfl,rfl,.inl rfl⟩⟩
 replace hz:=hz rfl;replace D1:=hid (D1.out rfl);replace D2:=hid (D2.out rfl);replace S1:=hid (S1.out rfl);replace S2:=hid (S2.out rfl);replace CM:=hid (CM.out rfl);go_wp21;refine zbl (λ_ W=>SmS w a b c a' b' c' (.slice p n k) (.slice p' n' k') W) (by kernel_rfl) (by kernel_rfl) (HT4.out.next (zM _ _).drew) ?_;refine qR (.agg #[St a,St b,St c,.slice p n k]) ?_ (hy:=λf W' hf h=>by obtain⟨q0,q1,q2,q3⟩:=h.ca;go_simp);simp only[zzQ]
 refine zar (.agg #[St a,St b,St c]) (by rfl) (λf W' hf h C' hC'=>by
  have hg:=zcl a b c p n k W';go_simp;refine zzM hg λw' hb=>?_;exact⟨rfl,hC' _ (h.next hb)⟩) ?_
 refine qR (.agg #[St a',St b',St c',.slice p' n' k']) ?_ (hy:=λf W' hf h=>by obtain⟨q0,q1,q2,q3⟩:=h.cb;go_simp);simp only[zzQ]
 refine zar (.agg #[St a',St b',St c']) (by rfl) (λf W' hf h C' hC'=>by
  have hg:=zcl a' b' c' p' n' k' W';go_simp;refine zzM hg λw' hb=>?_;exact⟨rfl,hC' _ (h.next hb)⟩) ?_
 try simp only[zzQ]
 refine zar (.tuple #[.string s,.int .i64 0]) (by rfl) (λf W' hf h C' hC'=>by
  have hg:=D1.out W' (HW.out.below h.bel);go_simp;refine zzM hg λw' hb=>?_;exact⟨rfl,hC' _ (h.next hb)⟩) ?_
 refine qR (.tuple #[.string s,.int .i64 0]) ?_;refine qR (.string s) ?_;simp only[zzQ];refine qR (.int .i64 0) ?_;refine qR (.string s) ?_;refine qR (.int .i64 0) ?_;simp only[zzQ];refine zck λf X hf h=>?_;have HT5:=hid h;clear h hf HT4 D1;cases neg
 ·have HD2:=hid (D2.out rfl);have HS1:=hid (S1.out rfl);have HS2:=hid (S2.out rfl);have HCM:=hid (CM.out rfl)
  clear D2 S1 S2 CM;go_wp21;refine zbl (λ_ W=>SmS w a b c a' b' c' (.slice p n k) (.slice p' n' k') W) (by kernel_rfl) (by kernel_rfl) (HT5.out.next (zM _ _).drew) ?_;refine qR (.agg #[St a',St b',St c',.slice p' n' k']) ?_ (hy:=λf W' hf h=>by obtain⟨q0,q1,q2,q3⟩:=h.cb;go_simp);simp only[zzQ]
  refine zar (.agg #[St a',St b',St c']) (by rfl) (λf W' hf h C' hC'=>by
   have hg:=zcl a' b' c' p' n' k' W';go_simp;refine zzM hg λw' hb=>?_;exact⟨rfl,hC' _ (h.next hb)⟩) ?_
  refine qR (.agg #[St a',St b',St c',.slice p' n' k']) ?_ (hy:=λf W' hf h=>by obtain⟨q0,q1,q2,q3⟩:=h.cb;go_simp);simp only[zzQ]
  refine zar (.agg #[St a',St b',St c']) (by rfl) (λf W' hf h C' hC'=>by
   have hg:=zcl a' b' c' p' n' k' W';go_simp;refine zzM hg λw' hb=>?_;exact⟨rfl,hC' _ (h.next hb)⟩) ?_
  try simp only[zzQ]
  refine zar (.tuple #[St dq,.int .i64 0]) (by rfl) (λf W' hf h C' hC'=>by
   have hg:=HD2.out W' (HW.out.below h.bel);go_simp;refine zzM hg λw' hb=>?_;exact⟨rfl,hC' _ (h.next hb)⟩) ?_
  refine qR (.tuple #[St dq,.int .i64 0]) ?_;refine qR (St dq) ?_;simp only[zzQ];refine qR (.int .i64 0) ?_;refine qR (St dq) ?_;refine qR (.int .i64 0) ?_;simp only[zzQ];refine zck λf X hf h=>?_;have HT6:=hid h;clear h hf HT5 HD2;obtain⟨k0,k1,k2,k3⟩:=HT6.out.ca;have HS:=hid (HS1.out X HT6.out.bel);clear HS1;go_wp21;clear k0 k1 k2 k3;refine HS.out.mono ?_;rintro e w2 ⟨u1,u2,u3,er,rfl,hb,hu⟩;have HT7:=hid (HT6.out.next hb);rcases hu with⟨rfl,hu,hE⟩|⟨rfl,hu,hF⟩
  rotate_left
  ·have HF:=hid hF
   clear hb hu HS HT6 hF HS2 HCM;go_wp21;go_ret2;exact⟨_,_,rfl,HT7.out.bel,.inr ⟨rfl,rfl,.inl ⟨rfl,rfl,HF.out⟩⟩⟩
  have HU:=hid hu;have HE1:=hid hE;clear hb hu HS HT6 hE;obtain⟨k0,k1,k2,k3⟩:=HT7.out.cb;have HS:=hid (HS2.out w2 HT7.out.bel);clear HS2;go_wp21;clear k0 k1 k2 k3;refine HS.out.mono ?_;rintro e w3 ⟨v1',v2',v3',er,rfl,hb,hv⟩;have HT8:=hid (HT7.out.next hb);rcases hv with⟨rfl,hv,hE⟩|⟨rfl,hv,hF⟩
  rotate_left
  ·have HF:=hid hF
   clear hb hv HS HT7 hF HU HE1 HCM;go_wp21;go_ret2;exact⟨_,_,rfl,HT8.out.bel,.inr ⟨rfl,rfl,.inl ⟨rfl,rfl,HF.out⟩⟩⟩
  have HC:=hid (HCM.out w3 _ _ HE1.out hE HT8.out.bel (HU.out.below hb) hv);have HE2:=hid hE;clear hb hv HS HT7 HU HCM hE;go_wp21;refine HC.out.mono ?_;rintro e w4 ⟨m,r,rfl,hb,hG⟩;have HB:=hid (HT8.out.bel.trans (hb.mono HT8.out.bel.size));have HG:=hid hG;clear hb HC hG;have hr:decide (r=0)=true\/decide (r=0)=false:=by cases decide (r=0)<;>simp
  rcases hr with hr|hr
  ·obtain rfl:r=0:=of_decide_eq_true hr
   clear hr;go_wp21;go_ret2;exact⟨_,_,rfl,HB.out,.inr ⟨rfl,rfl,.inr ⟨m,HG.out,by simp;rfl,HE1.out,HE2.out⟩⟩⟩
  ·have hr:¬r=0:=of_decide_eq_false hr
   go_wp21;go_ret2;exact⟨_,_,rfl,HB.out,.inr ⟨rfl,rfl,.inr ⟨m,HG.out,by simp[hr],HE1.out,HE2.out⟩⟩⟩
 ·clear D2 S1 S2 CM
  go_wp21;go_ret2;exact⟨_,_,rfl,HT5.out.bel,.inl ⟨rfl,rfl,.inr rfl⟩⟩
end
section
open Go.RowKit Go.Shelf Lib Str Limb
attribute [local go_sem] Oper.semAt_some
theorem zs4 {w W:zA} {A:Nat} (hA:w.heap.size<=A) (h:W.heap[A]? =some (.cells zc1 26 (0,0))) (hb:qL w W) (a b c d:Value):
 ((W.setCell ⟨A,0,none⟩ a).frozen? ⟨A,1,none⟩=false/\((W.setCell ⟨A,0,none⟩ a).setCell ⟨A,1,none⟩ b).frozen? ⟨A,2,none⟩=false/\(((W.setCell ⟨A,0,none⟩ a).setCell ⟨A,1,none⟩ b).setCell ⟨A,2,none⟩ c).frozen? ⟨A,3,none⟩=false)/\
 ∃W',W'=(((W.setCell ⟨A,0,none⟩ a).setCell ⟨A,1,none⟩ b).setCell ⟨A,2,none⟩ c).setCell ⟨A,3,none⟩ d/\zB w.heap.size w W'/\(W'.cell? ⟨A,0,none⟩=some a/\W'.cell? ⟨A,1,none⟩=some b/\W'.cell? ⟨A,2,none⟩=some c/\W'.cell? ⟨A,3,none⟩=some d)/\∀u L,SdL u L W->SdL u L W':=by
 obtain⟨-, -, -, -,fz⟩:=zdq h;refine⟨⟨by rw[World.frozen?_setCell];exact fz 1,by rw[World.frozen?_setCell,World.frozen?_setCell];exact fz 2,by rw[World.frozen?_setCell,World.frozen?_setCell,World.frozen?_setCell];exact fz 3⟩,_,rfl,?_,zfb (zK (i:=3) (zK (i:=2) (zK (i:=1) (zK (i:=0) h a) b) c) d),λu L hu=>?_⟩
 ·exact(((hb.setCell (by exact hA) _).setCell (by exact hA) _).setCell (by exact hA) _).setCell (by exact hA) _
 ·refine hu.other (k:=A) (λb' hb'=>?_) (by simp[World.setCell]) (zk8 h)
  rw[yE _ _ _ _ (by exact hb'),yE _ _ _ _ (by exact hb'),yE _ _ _ _ (by exact hb'),yE _ _ _ _ (by exact hb')]
theorem zya (a b c:List UInt8) (p:Option Addr) (n k:Nat) (L:List (Rat×Nat)) (w:zA) (hs:SdL (.slice p n k) L w):
 zC zF 54 #[.agg #[St a,St b,St c],.slice p n k] w λe w'=>e=.returned (.agg #[St a,St b,St c,.slice p n k])/\zB w.heap.size w w'/\SdL (.slice p n k) L w':=by
 go_enter Tryz.func54,Tryz.ntmps54;go_wp21;have hB:∀cs ds:Array Value,qL w ((w.alloc (.cells cs 45)).alloc (.cells ds 26)):=λcs ds=>((zM _ w).alloc (zN _) _).alloc (by simp) _;exact bodyPost_ret (v:=.agg #[St a,St b,St c,.slice p n k]) (by simp[results,Tryz.results54,go_sem]) rfl ⟨rfl,hB _ _,hs.below (hB _ _)⟩
structure ShfS (w:zA) (a b c x y z:List UInt8) (d:Value) (W:zA):Prop where
 bel:qL w W
 h0:W.heap[w.heap.size]? =some (.cells #[St a,St b,St c,d] 26 (0,0))
 h1:W.heap[w.heap.size+1]? =some (.cells #[St x,St y,St z] 45 (0,0))
 h2:W.heap[w.heap.size+1+1]? =some (.cells zc1 26 (0,0))
theorem ShfS.next {w W W':zA} {a b c x y z:List UInt8} {d:Value} (h:ShfS w a b c x y z d W) (hb:qL W W'):ShfS w a b c x y z d W':=
 have hc:=zac hb
 ⟨h.bel.trans (hb.mono h.bel.size),hc _ _ _ _ h.h0,hc _ _ _ _ h.h1,hc _ _ _ _ h.h2⟩
def ShfR (w:zA) (a b c:List UInt8) (L:List (Rat×Nat)) (E F:Prop) (G:Int->Prop) (e:Ending) (w':zA):Prop:=
 ∃o0 o1 o2 q n k r,e=.returned (.tuple #[.agg #[St o0,St o1,St o2,.slice q n k],.int .i64 r])/\zB w.heap.size w w'/\((r=0/\o0=a/\o1=b/\o2=c/\SdL (.slice q n k) L w'/\E)\/(G r/\o0=[]/\o1=[]/\o2=[]/\q=none/\n=0/\k=0/\F))
theorem zxv {w v1:zA} {a b c x y z:List UInt8} {d:Value} (hv:v1=((w.alloc (.cells #[St a,St b,St c,d] 26)).alloc (.cells #[St x,St y,St z] 45)).alloc (.cells zc1 26)):ShfS w a b c x y z d v1/\v1.heap.size=w.heap.size+1+1+1:=by
 obtain⟨x1,hx1⟩:=zzX (w.alloc (.cells #[St a,St b,St c,d] 26));obtain⟨b1,f1⟩:=zu4 hx1;have s1:x1.heap.size=w.heap.size+1:=by rw[hx1];simp
 rw[<-hx1] at hv;obtain⟨b2,f2,f3⟩:=box2 hv;rw[s1] at f2 f3;exact⟨⟨b1.trans (b2.mono b1.size),zac b2 _ _ _ _ f1,f2,f3⟩,by rw[hv];simp[s1]⟩
theorem z1w (a b c x y z s:List UInt8) (p:Option Addr) (n k:Nat) (L1 L2:List (Rat×Nat)) (E F:Prop) (w:zA)
 (CK:Hid (∀(W:zA) (A:Nat),qL w W->W.heap[A]? =some (.cells #[St a,St b,St c,.slice p n k] 26 (0,0))->qJ 44 #[.slice (some ⟨A,0,none⟩) 1 1] W (.int .i64 0)))
 (VC:Hid (∀W:zA,qL w W->qJ 52 #[.agg #[St x,St y,St z]] W (.int .i64 0)))
 (DT:Hid (∀W:zA,qL w W->qJ 47 #[.agg #[St a,St b,St c],.agg #[St x,St y,St z]] W (.tuple #[St s,.int .i64 0])))
 (NU:Hid (∀W:zA,qL w W->zC zF 53 #[St s] W λe w'=>∃v,e=.returned (.tuple #[v,.int .i64 0])/\zB W.heap.size W w'/\SdL v L1 w'))
 (AD:Hid (∀(W:zA) (q:Option Addr) (m c:Nat),qL w W->SdL (.slice q m c) L1 W->zC zF 17 #[.slice p n k,.slice q m c] W λe w'=>∃q n c r,e=.returned (.tuple #[.slice q n c,.int .i64 r])/\zB W.heap.size W w'/\OutR L2 E F (.slice q n c) r w')):
 zC zF 14 #[.agg #[St a,St b,St c,.slice p n k],.agg #[St x,St y,St z]] w (ShfR w a b c L2 E F (· =4)):=by
 obtain⟨v1,hv⟩:=zzX (((w.alloc (.cells #[.string ⟨a.toArray⟩,.string ⟨b.toArray⟩,.string ⟨c.toArray⟩,.slice p n k] 26)).alloc (.cells #[.string ⟨x.toArray⟩,.string ⟨y.toArray⟩,.string ⟨z.toArray⟩] 45)).alloc (.cells #[.string ⟨#[]⟩,.string ⟨#[]⟩,.string ⟨#[]⟩,.slice none 0 0] 26));obtain⟨hs,hsz⟩:=zxv hv;obtain⟨k0,k1,k2,k3⟩:=zfb hs.h0;obtain⟨v2,hv2⟩:=zzX (v1.alloc (.cells #[.string ⟨a.toArray⟩,.string ⟨b.toArray⟩,.string ⟨c.toArray⟩,.slice p n k] 26));obtain⟨b2,A3⟩:=zu4 hv2;have HT:=hid (hs.next b2);have HC:=hid (CK.out v2 _ HT.out.bel A3);rw[hsz] at HC;have HV:=hid hv.symm;have HV2:=hid hv2.symm;have HSZ:=hid hsz;clear hv hv2 hs b2 A3 CK hsz;go_enter Tryz.func14,Tryz.ntmps14;go_wp21;have h9:=HV.out;rw[h9];clear h9 HV;go_wp21;have h9:=HV2.out;rw[h9]
 try rw[HSZ.out]
 clear h9 HV2 HSZ k0 k1 k2 k3;refine zzM HC.out λw1 hb=>?_;have HT1:=hid (HT.out.next hb);clear hb HC HT;obtain⟨j0,j1,j2, -⟩:=zah HT1.out.h1;have HC:=hid (VC.out w1 HT1.out.bel);go_wp21;clear j0 j1 j2;refine zzM HC.out λw2 hb=>?_;have HT2:=hid (HT1.out.next hb);clear hb HC HT1 VC;go_wp21;refine zc4 (λ(_:Unit) i=>([.agg #[St a,St b,St c,.slice p n k],.agg #[St a,St b,St c],.agg #[St x,St y,St z],.tuple #[St s,.int .i64 0],.tuple #[St s,.int .i64 0],St s,.int .i64 0,St s,.int .i64 0]:List Value).getD i undef) (λ_ _ V=>ShfS w a b c x y z (.slice p n k) V) (by kernel_rfl) (by kernel_rfl) () (HT2.out.next (zM _ w2).drew) λ_=>?_;refine qB (.agg #[St a,St b,St c,.slice p n k]) (λf W' h=>h) ?_ (hy:=λf W' hf h=>by obtain⟨d0,d1,d2,d3⟩:=zfb h.h0;go_simp);simp only[zzQ]
 refine zbv (.agg #[St a,St b,St c]) (by rfl) (by rfl) (λf W' hf h C' hC'=>by
  go_simp;refine zzM (zcl a b c p n k W') λw' hb=>?_;exact⟨_,rfl,hC' _ (h.next hb)⟩) ?_
 refine qB (.agg #[St x,St y,St z]) (λf W' h=>h) ?_ (hy:=λf W' hf h=>by obtain⟨d0,d1,d2, -⟩:=zah h.h1;go_simp);simp only[zzQ]
 refine zbv (.tuple #[St s,.int .i64 0]) (by rfl) (by rfl) (λf W' hf h C' hC'=>by
  have hq:=DT.out W' h.bel;go_simp;refine zzM (hq) λw' hb=>?_;exact⟨_,rfl,hC' _ (h.next hb)⟩) ?_
 refine qB (.tuple #[St s,.int .i64 0]) (λf W' h=>h) ?_;refine qB (St s) (λf W' h=>h) ?_;simp only[zzQ];refine qB (.int .i64 0) (λf W' h=>h) ?_;refine qB (St s) (λf W' h=>h) ?_;refine qB (.int .i64 0) (λf W' h=>h) ?_;simp only[zzQ];refine ze1 λf W3 hf h=>?_;have HT3:=hid h;clear h hf HT2 DT;have HC:=hid (NU.out W3 HT3.out.bel);go_wp21;refine HC.out.mono ?_;rintro e w4 ⟨v,rfl,hb,hv⟩;obtain⟨q,m,c',rfl⟩:=hv.any;have HT4:=hid (HT3.out.next hb);have HC:=hid (AD.out w4 q m c' HT4.out.bel hv);clear hb hv NU AD HT3;obtain⟨k0,k1,k2,k3⟩:=zfb HT4.out.h0;go_wp21;clear k0 k1 k2 k3;refine HC.out.mono ?_;rintro e w5 ⟨q',m',c2,r,rfl,hb,hr⟩;have HT5:=hid (HT4.out.next hb);clear hb HC HT4;rcases hr with⟨rfl,hv,hE⟩|⟨rfl,hv,hF⟩
 ·obtain⟨k0,k1,k2,k3⟩:=zfb HT5.out.h0
  have HV:=hid hv;have HE:=hid hE;clear hv hE;go_wp21;clear k0 k1 k2 k3;refine zzM (zcl a b c p n k w5) λw6 hb=>?_;have HT6:=hid (HT5.out.next hb);have HV6:=hid (HV.out.below hb);clear hb HT5 HV;have HC:=hid (zya a b c q' m' c2 L2 w6 HV6.out);go_wp21;refine HC.out.mono ?_;rintro e w7 ⟨rfl,hb,hv⟩;have HT7:=HT6.out.next hb;clear hb HC HV6;obtain⟨d0,d1,d2,d3,fz⟩:=zdq HT7.h2;have e0:=fz 0;have e1:=fz 1;have e2:=fz 2;have e3:=fz 3;obtain⟨⟨f1,f2,f3⟩,W',hW',hB,⟨c0,c1,c2',c3⟩,hk⟩:=zs4 (show w.heap.size<=w.heap.size+1+1 by omega) HT7.h2 HT7.bel (St a) (St b) (St c) (.slice q' m' c2);have HQ:=hid (⟨hB,hk _ _ hv⟩:_/\_);rw[hW'] at c0 c1 c2' c3 HQ;clear hB hk hW' fz hv HT7 HT6;clear W';go_wp21;exact bodyPost_ret (v:=.tuple #[.agg #[St a,St b,St c,.slice q' m' c2],.int .i64 0]) (by simp[results,Tryz.results14,go_sem,c0,c1,c2',c3]) rfl ⟨a,b,c,_,_,_,0,rfl,HQ.out.1,.inl ⟨rfl,rfl,rfl,rfl,HQ.out.2,HE.out⟩⟩
 ·have HF:=hid hF
  clear hv hF;obtain⟨d0,d1,d2,d3,fz⟩:=zdq HT5.out.h2;have e0:=fz 0;have e1:=fz 1;have e2:=fz 2;have e3:=fz 3;obtain⟨⟨f1,f2,f3⟩,W',hW',hB,⟨c0,c1,c2',c3⟩, -⟩:=zs4 (show w.heap.size<=w.heap.size+1+1 by omega) HT5.out.h2 HT5.out.bel (.string ⟨#[]⟩) (.string ⟨#[]⟩) (.string ⟨#[]⟩) (.slice none 0 0);have HQ:=hid hB;rw[hW'] at c0 c1 c2' c3 HQ;clear hB hW' fz HT5;clear W';go_wp21;exact bodyPost_ret (v:=.tuple #[.agg #[St [],St [],St [],.slice none 0 0],.int .i64 4]) (by simp[results,Tryz.results14,go_sem,c0,c1,c2',c3]) rfl ⟨[],[],[],none,0,0,4,rfl,HQ.out,.inr ⟨rfl,rfl,rfl,rfl,rfl,rfl,rfl,HF.out⟩⟩
theorem zyk (a b c x y z:List UInt8) (p:Option Addr) (n k:Nat) (rr:Int) (hr:(rr==0)=false) (w:zA)
 (CK:Hid (∀(W:zA) (A:Nat),qL w W->W.heap[A]? =some (.cells #[St a,St b,St c,.slice p n k] 26 (0,0))->qJ 44 #[.slice (some ⟨A,0,none⟩) 1 1] W (.int .i64 rr))):
 zC zF 14 #[.agg #[St a,St b,St c,.slice p n k],.agg #[St x,St y,St z]] w (ShfR w a b c [] False True (· =rr)):=by
 obtain⟨v1,hv⟩:=zzX (((w.alloc (.cells #[.string ⟨a.toArray⟩,.string ⟨b.toArray⟩,.string ⟨c.toArray⟩,.slice p n k] 26)).alloc (.cells #[.string ⟨x.toArray⟩,.string ⟨y.toArray⟩,.string ⟨z.toArray⟩] 45)).alloc (.cells #[.string ⟨#[]⟩,.string ⟨#[]⟩,.string ⟨#[]⟩,.slice none 0 0] 26));obtain⟨hs,hsz⟩:=zxv hv;obtain⟨k0,k1,k2,k3⟩:=zfb hs.h0;obtain⟨v2,hv2⟩:=zzX (v1.alloc (.cells #[.string ⟨a.toArray⟩,.string ⟨b.toArray⟩,.string ⟨c.toArray⟩,.slice p n k] 26));obtain⟨b2,A3⟩:=zu4 hv2;have HT:=hid (hs.next b2);have HC:=hid (CK.out v2 _ HT.out.bel A3);rw[hsz] at HC;have HV:=hid hv.symm;have HV2:=hid hv2.symm;have HSZ:=hid hsz;clear hv hv2 hs b2 A3 CK hsz;go_enter Tryz.func14,Tryz.ntmps14;go_wp21;have h9:=HV.out;rw[h9];clear h9 HV;go_wp21;have h9:=HV2.out;rw[h9]
 try rw[HSZ.out]
 clear h9 HV2 HSZ k0 k1 k2 k3;refine zzM HC.out λw5 hb=>?_;have HT5:=hid (HT.out.next hb);clear hb HC HT;obtain⟨d0,d1,d2,d3,fz⟩:=zdq HT5.out.h2;have e0:=fz 0;have e1:=fz 1;have e2:=fz 2;have e3:=fz 3;obtain⟨⟨f1,f2,f3⟩,W',hW',hB,⟨c0,c1,c2',c3⟩, -⟩:=zs4 (show w.heap.size<=w.heap.size+1+1 by omega) HT5.out.h2 HT5.out.bel (.string ⟨#[]⟩) (.string ⟨#[]⟩) (.string ⟨#[]⟩) (.slice none 0 0);have HQ:=hid hB;rw[hW'] at c0 c1 c2' c3 HQ;clear hB hW' fz HT5;clear W';go_wp21;exact bodyPost_ret (v:=.tuple #[.agg #[St [],St [],St [],.slice none 0 0],.int .i64 rr]) (by simp[results,Tryz.results14,go_sem,c0,c1,c2',c3]) rfl ⟨[],[],[],none,0,0,rr,rfl,HQ.out,.inr ⟨rfl,rfl,rfl,rfl,rfl,rfl,rfl,trivial⟩⟩
theorem zz4 (b n:Nat) (E:Nat->Int) (hn:n<=5000) (w:zA) (HC:Hid (∀j,j<n->w.cell? ⟨b,j,none⟩=some (.int .i64 (E j)))):
 zC zF 58 #[.slice (some ⟨b,0,none⟩) n n,.int .i64 4] w λe w'=>∃z:Int,e=.returned (.int .i64 z)/\zB w.heap.size w w'/\((z= -1/\∀j,j<n->E j≠4)\/((0<=z)/\∃j,j<n/\E j=4)):=by
 go_enter Tryz.func58,Tryz.ntmps58;go_wp2;go_loopw [8] (λi wr=>∃(k:Nat),k<=n/\i=.int .i64 (k:Int)/\Hid (qL w wr)/\Hid (∀j,j<k->E j≠4))
  (λi _=>n-(zL i).toNat)
 case atStart=>exact⟨0,zR _,rfl,zM _ _,λj h=>by omega⟩
 case round=>
  obtain⟨k,hk,rfl,hB,hE⟩:=hrel;by_cases hlt:k<n
  ·have c0:=(zac hB.out).cell (HC.out k hlt)
   have HEK:=hid (rfl:E k=E k);obtain⟨ek,hek⟩:=zzX (E k);rw[<-hek] at c0;have HK:=hid hek;clear hek HEK;by_cases h4:ek=4
   ·have HF:=hid (show E k=4 by rw[<-HK.out];exact h4)
    subst h4;go_wp21;go_ret;exact⟨_,rfl,hB.out,.inr ⟨by omega,k,hlt,HF.out⟩⟩
   ·have hb4:(ek==4)=false:=by simpa using h4
    have HF:Hid (∀j,j<k+1->E j≠4):=hid λj hj=>by
     rcases Nat.lt_or_ge j k with h|h
     ·exact hE.out j h
     ·obtain rfl:j=k:=by omega
      rw[<-HK.out];exact h4
    clear HK hE;go_wp21;go_roundw
    case rel=>exact⟨k+1,by omega,by go_num,hB,HF⟩
    case measure=>simp[zL];omega
  ·have hkn:k=n:=by omega
   subst hkn;go_wp21;go_ret;exact⟨_,rfl,hB.out,.inl ⟨rfl,hE.out⟩⟩
theorem z7u (b n:Nat) (E:Nat->Int) (hn:n<=5000) (w:zA) (HC:Hid (∀j,j<n->w.cell? ⟨b,j,none⟩=some (.int .i64 (E j)))):
 zC zF 18 #[.slice (some ⟨b,0,none⟩) n n,.int .i64 4] w λe w'=>∃bb,e=.returned (.bool bb)/\zB w.heap.size w w'/\(bb=false->∀j,j<n->E j≠4):=by
 have HI:=hid (zz4 b n E hn w HC);clear HC;go_enter Tryz.func18,Tryz.ntmps18;go_wp21;refine HI.out.mono ?_;rintro e w1 ⟨z,rfl,hB,hz⟩;have HB:=hid hB;clear hB;rcases hz with⟨rfl,hz⟩|⟨hz,hz2⟩
 ·have HZ:=hid hz;clear hz
  go_wp21;go_ret;exact⟨_,rfl,HB.out,λ_=>HZ.out⟩
 ·have HZ:=hid hz2;clear hz2
  have hd:decide (z<0)=false:=decide_eq_false (by omega);have hd2:decide (0<=z)=true:=decide_eq_true hz;go_wp21;go_ret;exact⟨_,rfl,HB.out,λh=>by simp[] at h⟩
def ShfP (a b c:List UInt8) (L:List (Rat×Nat)) (E F:Prop) (G:Int->Prop) (o0 o1 o2:List UInt8) (q:Option Addr) (n k:Nat) (r:Int) (W:zA):Prop:=
 (r=0/\o0=a/\o1=b/\o2=c/\SdL (.slice q n k) L W/\E)\/(G r/\o0=[]/\o1=[]/\o2=[]/\q=none/\n=0/\k=0/\F)
theorem ShfP.imp {a b c:List UInt8} {L:List (Rat×Nat)} {E F:Prop} {G:Int->Prop} {o0 o1 o2:List UInt8} {q:Option Addr} {n k:Nat} {r:Int} {W W':zA} (h:ShfP a b c L E F G o0 o1 o2 q n k r W) (hk:∀u L,SdL u L W->SdL u L W'):ShfP a b c L E F G o0 o1 o2 q n k r W':=
 Or.imp (λ⟨h1,h2,h3,h4,h5,h6⟩=>⟨h1,h2,h3,h4,hk _ _ h5,h6⟩) id h
theorem ShfP.below {a b c:List UInt8} {L:List (Rat×Nat)} {E F:Prop} {G:Int->Prop} {o0 o1 o2:List UInt8} {q:Option Addr} {n k:Nat} {r:Int} {W W':zA} (h:ShfP a b c L E F G o0 o1 o2 q n k r W) (hb:qL W W'):ShfP a b c L E F G o0 o1 o2 q n k r W':=h.imp λ_ _ hu=>hu.below hb
structure Gh where
 A:Nat
 o0:List UInt8
 o1:List UInt8
 o2:List UInt8
 p:Option Addr
 n:Nat
 k:Nat
 r:Int
structure RgS (W0:zA) (B:Gh->zA->Prop) (q:Gh) (f:Nat->Bool) (W:zA):Prop where
 bel:qL W0 W
 r:f 11=true->B q W
 n:f 15=true->W0.heap.size<=q.A/\W.heap[q.A]? =some (.cells (if f 16=true then #[St q.o0,St q.o1,St q.o2,.slice q.p q.n q.k] else zc1) 26 (0,0))
section
variable {W0 W W':zA} {B:Gh->zA->Prop} {q:Gh} {f f':Nat->Bool}
theorem RgS.congr (h:RgS W0 B q f W) (e1:f' 11=f 11) (e2:f' 15=f 15) (e3:f' 16=f 16):RgS W0 B q f' W:=⟨h.bel,by rw[e1];exact h.r,by rw[e2,e3];exact h.n⟩
theorem RgS.next (hB:∀q W W',B q W->qL W W'->B q W') (h:RgS W0 B q f W) (hb:qL W W'):RgS W0 B q f W':=
 ⟨h.bel.trans (hb.mono h.bel.size),λk=>hB _ _ _ (h.r k) hb,λk=>⟨(h.n k).1,zac hb _ _ _ _ (h.n k).2⟩⟩
theorem RgS.res (h:RgS W0 B q f W) (hb:qL W W') (q':Gh) (hA:q'.A=q.A) (hr:B q' W') (h16:f 16=false) (e2:f' 15=f 15) (e3:f' 16=f 16):RgS W0 B q' f' W':=
 ⟨h.bel.trans (hb.mono h.bel.size),λ_=>hr,λk=>by
   rw[e2] at k;obtain⟨h1,h2⟩:=h.n k;rw[e3,h16,hA];rw[h16] at h2;exact⟨h1,zac hb _ _ _ _ h2⟩⟩
theorem RgS.new (hB:∀q W W',B q W->qL W W'->B q W') (hA:∀q A W,B q W->B {q with A:=A} W) (h:RgS W0 B q f W) (h16:f 16=false) (e1:f' 11=f 11) (e3:f' 16=f 16):RgS W0 B {q with A:=W.heap.size} f' (W.alloc (.cells zc1 26)):=
 have hb:qL W (W.alloc (.cells zc1 26)):=(zM _ W).alloc (zN _) _
 ⟨h.bel.trans (hb.mono h.bel.size),λk=>hB _ _ _ (hA _ _ _ (h.r (by rw[<-e1];exact k))) hb,λ_=>⟨h.bel.size,by rw[e3,h16];exact zG W _⟩⟩
theorem RgS.put (hI:∀q W W',B q W->(∀u L,SdL u L W->SdL u L W')->B q W') (h:RgS W0 B q f W) (h15:f 15=true) (h16:f 16=false) (e1:f' 11=f 11) (e3:f' 16=true):RgS W0 B q f' ((((W.setCell ⟨q.A,0,none⟩ (St q.o0)).setCell ⟨q.A,1,none⟩ (St q.o1)).setCell ⟨q.A,2,none⟩ (St q.o2)).setCell ⟨q.A,3,none⟩ (.slice q.p q.n q.k)):=by
 obtain⟨h1,h2⟩:=h.n h15;rw[h16] at h2;obtain⟨-,W',hW',hB, -,hk⟩:=zs4 h1 h2 h.bel (St q.o0) (St q.o1) (St q.o2) (.slice q.p q.n q.k);rw[<-hW'];refine⟨hB,λk=>hI _ _ _ (h.r (by rw[<-e1];exact k)) hk,λ_=>⟨h1,?_⟩⟩;rw[e3,hW'];exact zK (i:=3) (zK (i:=2) (zK (i:=1) (zK (i:=0) h2 _) _) _) _
theorem RgS.open (h:RgS W0 B q f W) (h15:f 15=true) (h16:f 16=false):W.cell? ⟨q.A,0,none⟩=some (St [])/\W.cell? ⟨q.A,1,none⟩=some (St [])/\W.cell? ⟨q.A,2,none⟩=some (St [])/\W.cell? ⟨q.A,3,none⟩=some (.slice none 0 0)/\(∀i,W.frozen? ⟨q.A,i,none⟩=false):=by
 obtain⟨h1,h2⟩:=h.n h15;rw[h16] at h2;exact zdq h2
end
def rgV (S:Nat) (o0 o1 o2 x y z x' y' z':List UInt8) (b:Option Addr) (n k:Nat) (q:Gh) (i:Nat):Value:=
 ([.agg #[St o0,St o1,St o2,.slice b n k],.pointer (some ⟨S,0,none⟩),St x,St x',.pointer (some ⟨S,1,none⟩),St y,St y',.pointer (some ⟨S,2,none⟩),St z,St z',.agg #[St x',St y',St z'],
   .tuple #[.agg #[St q.o0,St q.o1,St q.o2,.slice q.p q.n q.k],.int .i64 q.r],.tuple #[.agg #[St q.o0,St q.o1,St q.o2,.slice q.p q.n q.k],.int .i64 q.r],.agg #[St q.o0,St q.o1,St q.o2,.slice q.p q.n q.k],.int .i64 q.r,.pointer (some ⟨q.A,0,none⟩),undef,.int .i64 q.r]:List Value).getD i undef
structure LwS (w:zA) (a b c x y z:List UInt8) (d m0 m1 m2:Value) (W:zA):Prop where
 bel:qL w W
 h0:W.heap[w.heap.size]? =some (.cells #[St a,St b,St c,d] 26 (0,0))
 h1:W.heap[w.heap.size+1]? =some (.cells #[m0,m1,m2] 28 (0,0))
 h2:W.heap[w.heap.size+1+1]? =some (.cells #[St x,St y,St z] 45 (0,0))
theorem LwS.next {w W W':zA} {a b c x y z:List UInt8} {d m0 m1 m2:Value} (h:LwS w a b c x y z d m0 m1 m2 W) (hb:qL W W'):LwS w a b c x y z d m0 m1 m2 W':=
 have hc:=zac hb
 ⟨h.bel.trans (hb.mono h.bel.size),hc _ _ _ _ h.h0,hc _ _ _ _ h.h1,hc _ _ _ _ h.h2⟩
structure ShfQ (w:zA) (a b c x y z x' y' z':List UInt8) (vd m0 m1 m2:Value) (L1 L2:List (Rat×Nat)) (E1 E2:Prop) (M N:Nat->List (Rat×Nat)) (F:Nat->Prop) (P1 P2:Int->Int->Prop):Prop where
 s1:∀W:zA,qL w W->zC zF 14 #[.agg #[St a,St b,St c,vd],.agg #[St x,St y,St z]] W (ShfR W a b c L1 E1 True (· =4))
 n0:∀W:zA,qL w W->qJ 15 #[St x] W (St x')
 n1:∀W:zA,qL w W->qJ 15 #[St y] W (St y')
 n2:∀W:zA,qL w W->qJ 15 #[St z] W (St z')
 s2:∀(W:zA) (o0 o1 o2:List UInt8) (q:Option Addr) (n k:Nat) (r:Int),qL w W->ShfP a b c L1 E1 True (· =4) o0 o1 o2 q n k r W->zC zF 14 #[.agg #[St o0,St o1,St o2,.slice q n k],.agg #[St x',St y',St z']] W (ShfR W a b c L2 E2 True (λr'=>r'≠0/\(r=0->r'=4)))
 sm:∀(W:zA) (o0 o1 o2:List UInt8) (q:Option Addr) (n k:Nat) (r r1:Int),qL w W->ShfP a b c L2 E2 True (λr'=>r'≠0/\(r1=0->r'=4)) o0 o1 o2 q n k r W->zC zF 12 #[.agg #[St a,St b,St c,vd],.agg #[St o0,St o1,St o2,.slice q n k]] W λe w'=>∃bb r3,e=.returned (.tuple #[.bool bb,.int .i64 r3])/\zB W.heap.size W w'/\(r=0->r3=4\/(r3=0/\bb=true))
 km:∀W:zA,qL w W->zC zF 16 #[.agg #[St x,St y,St z]] W λe w'=>∃u0 u1 u2,e=.returned (.tuple #[.agg #[u0,u1,u2],.int .i64 0])/\zB W.heap.size W w'/\SdL u0 (M 0) w'/\SdL u1 (M 1) w'/\SdL u2 (M 2) w'
 a0:∀(W:zA) (u:Value),qL w W->SdL u (M 0) W->zC zF 17 #[m0,u] W λe w'=>∃q n c r,e=.returned (.tuple #[.slice q n c,.int .i64 r])/\zB W.heap.size W w'/\OutR (N 0) (F 0) True (.slice q n c) r w'
 a1:∀(W:zA) (u:Value),qL w W->SdL u (M 1) W->zC zF 17 #[m1,u] W λe w'=>∃q n c r,e=.returned (.tuple #[.slice q n c,.int .i64 r])/\zB W.heap.size W w'/\OutR (N 1) (F 1) True (.slice q n c) r w'
 a2:∀(W:zA) (u:Value),qL w W->SdL u (M 2) W->zC zF 17 #[m2,u] W λe w'=>∃q n c r,e=.returned (.tuple #[.slice q n c,.int .i64 r])/\zB W.heap.size W w'/\OutR (N 2) (F 2) True (.slice q n c) r w'
 t1:∀W:zA,qL w W->zC zF 13 #[.agg #[St a,St b,St c,vd],.agg #[m0,m1,m2]] W λe w'=>∃m r,e=.returned (.tuple #[.int .i64 m,.int .i64 r])/\zB W.heap.size W w'/\P1 m r
 t2:∀(W:zA) (o0 o1 o2:List UInt8) (q:Option Addr) (n k:Nat) (r1:Int) (u0 u1 u2:Value) (r4 r5 r6:Int),qL w W->ShfP a b c L1 E1 True (· =4) o0 o1 o2 q n k r1 W->OutR (N 0) (F 0) True u0 r4 W->OutR (N 1) (F 1) True u1 r5 W->OutR (N 2) (F 2) True u2 r6 W->zC zF 13 #[.agg #[St o0,St o1,St o2,.slice q n k],.agg #[u0,u1,u2]] W λe w'=>∃m r,e=.returned (.tuple #[.int .i64 m,.int .i64 r])/\zB W.heap.size W w'/\(r1=0->r4=0->r5=0->r6=0->P2 m r)
 law:∀m r n r',P1 m r->P2 n r'->r=4\/r'=4\/(r=0/\r'=0/\m=n)
theorem z0c (a b c x y z:List UInt8) (pd p0 p1 p2:Option Addr) (nd n0 n1 n2 kd k0 k1 k2:Nat) (G1 G2 G3:Prop) (w:zA)
 (FN:Hid (∀(W:zA) (A:Nat),qL w W->W.heap[A]? =some (.cells #[St a,St b,St c,.slice pd nd kd] 26 (0,0))->zC zF 5 #[.slice (some ⟨A,0,none⟩) 1 1] W (YesI W G1)))
 (MK:Hid (∀W:zA,qL w W->zC zF 7 #[.agg #[.slice p0 n0 k0,.slice p1 n1 k1,.slice p2 n2 k2]] W (YesI W G2)))
 (SH:Hid (∀(W:zA) (A:Nat),qL w W->W.heap[A]? =some (.cells #[St x,St y,St z] 22 (0,0))->zC zF 6 #[.slice (some ⟨A,0,none⟩) 3 3] W (YesI W G3)))
 (AW:Hid (∀W:zA,qL w W->qJ 8 #[] W (.bool true)))
 (MAIN:Hid (G1->G2->G3->∃x' y' z' L1 L2 E1 E2 M N F P1 P2,ShfQ w a b c x y z x' y' z' (.slice pd nd kd) (.slice p0 n0 k0) (.slice p1 n1 k1) (.slice p2 n2 k2) L1 L2 E1 E2 M N F P1 P2)):
 qJ 4 #[.agg #[St a,St b,St c,.slice pd nd kd],.agg #[.slice p0 n0 k0,.slice p1 n1 k1,.slice p2 n2 k2],.agg #[St x,St y,St z]] w (.bool true):=by
 obtain⟨v1,hv⟩:=zzX (((w.alloc (.cells #[.string ⟨a.toArray⟩,.string ⟨b.toArray⟩,.string ⟨c.toArray⟩,.slice pd nd kd] 26)).alloc (.cells #[.slice p0 n0 k0,.slice p1 n1 k1,.slice p2 n2 k2] 28)).alloc (.cells #[.string ⟨x.toArray⟩,.string ⟨y.toArray⟩,.string ⟨z.toArray⟩] 45));have hs:LwS w a b c x y z (.slice pd nd kd) (.slice p0 n0 k0) (.slice p1 n1 k1) (.slice p2 n2 k2) v1/\v1.heap.size=w.heap.size+1+1+1:=by
  obtain⟨x1,hx1⟩:=zzX (w.alloc (.cells #[.string ⟨a.toArray⟩,.string ⟨b.toArray⟩,.string ⟨c.toArray⟩,.slice pd nd kd] 26));obtain⟨b1,f1⟩:=zu4 hx1;have s1:x1.heap.size=w.heap.size+1:=by rw[hx1];simp
  rw[<-hx1] at hv;obtain⟨b2,f2,f3⟩:=box2 hv;rw[s1] at f2 f3;exact⟨⟨b1.trans (b2.mono b1.size),zac b2 _ _ _ _ f1,f2,f3⟩,by rw[hv];simp[s1]⟩
 have hsz:=hs.2;obtain⟨z0,z1,z2,z3⟩:=zfb hs.1.h0;obtain⟨v2,hv2⟩:=zzX (v1.alloc (.cells #[.string ⟨a.toArray⟩,.string ⟨b.toArray⟩,.string ⟨c.toArray⟩,.slice pd nd kd] 26));obtain⟨b2,A3⟩:=zu4 hv2;have HT0:=hid (hs.1.next b2);have HF:=hid (FN.out v2 _ HT0.out.bel A3);rw[hsz] at HF;have HV:=hid hv.symm;have HV2:=hid hv2.symm;have HSZ:=hid hsz;clear hv hv2 hs b2 A3 hsz FN;go_enter Tryz.func4,Tryz.ntmps4;go_wp21;have h9:=HV.out;rw[h9];clear h9 HV;go_wp21;have h9:=HV2.out;rw[h9]
 try rw[HSZ.out]
 clear h9 HV2 HSZ z0 z1 z2 z3;refine HF.out.mono ?_;rintro e w1 ⟨t1,rfl,ht1,hb⟩;have HT1:=hid (HT0.out.next hb);have HG1:=hid ht1;clear hb ht1 HF HT0;cases t1
 ·have HA:=hid (AW.out w1 HT1.out.bel)
  clear MK SH AW MAIN;go_wp21;refine zzM HA.out λw2 hb=>?_;have HB:=hid (HT1.out.bel.trans (hb.mono HT1.out.bel.size));clear hb;go_wp21;go_ret;exact⟨rfl,HB.out⟩
 have HM:=hid (MK.out w1 HT1.out.bel);obtain⟨z0,z1,z2, -⟩:=zah HT1.out.h1;clear MK;go_wp21;clear z0 z1 z2;refine HM.out.mono ?_;rintro e w2 ⟨t2,rfl,ht2,hb⟩;have HT2:=hid (HT1.out.next hb);have HG2:=hid ht2;clear hb ht2 HM HT1;cases t2
 ·have HA:=hid (AW.out w2 HT2.out.bel)
  clear SH AW MAIN;go_wp21;refine zzM HA.out λw3 hb=>?_;have HB:=hid (HT2.out.bel.trans (hb.mono HT2.out.bel.size));clear hb;go_wp21;go_ret;exact⟨rfl,HB.out⟩
 obtain⟨v3,hv3⟩:=zzX (w2.alloc (.cells #[.string ⟨x.toArray⟩,.string ⟨y.toArray⟩,.string ⟨z.toArray⟩] 22));obtain⟨b3,A3⟩:=zu4 hv3;have HM:=hid (SH.out v3 _ (HT2.out.next b3).bel A3);have HT2':=hid (HT2.out.next b3);obtain⟨z0,z1,z2, -⟩:=zah HT2.out.h2;have HV:=hid hv3.symm;clear SH hv3 b3 A3 HT2;go_wp21;have h9:=HV.out;rw[h9];clear h9 HV z0 z1 z2;refine HM.out.mono ?_;rintro e w3 ⟨t3,rfl,ht3,hb⟩;have HT3:=hid (HT2'.out.next hb);have HG3:=hid ht3;clear hb ht3 HM HT2';cases t3
 ·have HA:=hid (AW.out w3 HT3.out.bel)
  clear AW MAIN;go_wp21;refine zzM HA.out λw4 hb=>?_;have HB:=hid (HT3.out.bel.trans (hb.mono HT3.out.bel.size));clear hb;go_wp21;go_ret;exact⟨rfl,HB.out⟩
 obtain⟨x',y',z',L1,L2,E1,E2,M,N,F,P1,P2,hQ⟩:=MAIN.out (HG1.out (by trivial)) (HG2.out (by trivial)) (HG3.out (by trivial));have HQ:=hid hQ;clear hQ MAIN HG1 HG2 HG3;obtain⟨z0,z1,z2,z3⟩:=zfb HT3.out.h0;obtain⟨j0,j1,j2, -⟩:=zah HT3.out.h2;have HC:=hid (HQ.out.s1 w3 HT3.out.bel);go_wp21;clear z0 z1 z2 z3 j0 j1 j2;refine HC.out.mono ?_;rintro e w4 ⟨o0,o1,o2,qb,nb,kb,r1,rfl,hb,hr⟩;obtain⟨y1,hy⟩:=zzX (w4.alloc (.cells #[.string ⟨o0.toArray⟩,.string ⟨o1.toArray⟩,.string ⟨o2.toArray⟩,.slice qb nb kb] 26));obtain⟨by1,Ay⟩:=zu4 hy;obtain⟨QB,hQe⟩:=zzX w4.heap.size;rw[<-hQe] at Ay;have HT4:=hid ((HT3.out.next hb).next by1);have HBX:=hid Ay;have HBP:Hid (ShfP a b c L1 E1 True (· =4) o0 o1 o2 qb nb kb r1 y1):=hid (ShfP.below hr by1);have HY:=hid hy.symm;have HQE:=hid hQe.symm;clear hb hr hy by1 Ay hQe HC HT3;go_wp21;have h9:=HY.out;rw[h9]
 try rw[HQE.out]
 clear h9 HY HQE;refine zc4 (rgV (w.heap.size+1+1) o0 o1 o2 x y z x' y' z' qb nb kb) (RgS y1 λq W=>ShfP a b c L2 E2 True (λr'=>r'≠0/\(r1=0->r'=4)) q.o0 q.o1 q.o2 q.p q.n q.k q.r W) (by kernel_rfl) (by kernel_rfl) ⟨0,[],[],[],none,0,0,0⟩ ⟨(zM _ y1).drew,λh=>(by cases h),λh=>(by cases h)⟩ λq=>?_;have nx:∀(q:Gh) (f:Nat->Bool) (W W':zA),RgS y1 (λq W=>ShfP a b c L2 E2 True (λr'=>r'≠0/\(r1=0->r'=4)) q.o0 q.o1 q.o2 q.p q.n q.k q.r W) q f W->qL W W'->RgS y1 (λq W=>ShfP a b c L2 E2 True (λr'=>r'≠0/\(r1=0->r'=4)) q.o0 q.o1 q.o2 q.p q.n q.k q.r W) q f W':=λ_ _ _ _ h hb=>RgS.next (λ_ _ _ h hb=>h.below hb) h hb;have NX:=hid nx;clear nx;refine qB (.agg #[St o0,St o1,St o2,.slice qb nb kb]) (λf W' h=>h.congr rfl rfl rfl) ?_ (hy:=λf W' hf h=>by obtain⟨d0,d1,d2,d3⟩:=zfb (zac h.bel _ _ _ _ HBX.out);go_simp);refine qB (.pointer (some ⟨w.heap.size+1+1,0,none⟩)) (λf W' h=>h.congr rfl rfl rfl) ?_;refine qB (St x) (λf W' h=>h.congr rfl rfl rfl) ?_ (hy:=λf W' hf h=>by obtain⟨d0,d1,d2, -⟩:=zah (HT4.out.next h.bel).h2;go_simp);simp only[zzQ]
 refine zbv (St x') (by rfl) (by rfl) (λf W' hf h C' hC'=>by
  have hq:=HQ.out.n0 W' (HT4.out.next h.bel).bel;go_simp;refine zzM (hq) λw' hb=>?_;exact⟨_,rfl,hC' _ ((NX.out _ _ _ _ h hb).congr rfl rfl rfl)⟩) ?_
 refine qB (.pointer (some ⟨w.heap.size+1+1,1,none⟩)) (λf W' h=>h.congr rfl rfl rfl) ?_;refine qB (St y) (λf W' h=>h.congr rfl rfl rfl) ?_ (hy:=λf W' hf h=>by obtain⟨d0,d1,d2, -⟩:=zah (HT4.out.next h.bel).h2;go_simp);simp only[zzQ]
 refine zbv (St y') (by rfl) (by rfl) (λf W' hf h C' hC'=>by
  have hq:=HQ.out.n1 W' (HT4.out.next h.bel).bel;go_simp;refine zzM (hq) λw' hb=>?_;exact⟨_,rfl,hC' _ ((NX.out _ _ _ _ h hb).congr rfl rfl rfl)⟩) ?_
 refine qB (.pointer (some ⟨w.heap.size+1+1,2,none⟩)) (λf W' h=>h.congr rfl rfl rfl) ?_;refine qB (St z) (λf W' h=>h.congr rfl rfl rfl) ?_ (hy:=λf W' hf h=>by obtain⟨d0,d1,d2, -⟩:=zah (HT4.out.next h.bel).h2;go_simp);simp only[zzQ]
 refine zbv (St z') (by rfl) (by rfl) (λf W' hf h C' hC'=>by
  have hq:=HQ.out.n2 W' (HT4.out.next h.bel).bel;go_simp;refine zzM (hq) λw' hb=>?_;exact⟨_,rfl,hC' _ ((NX.out _ _ _ _ h hb).congr rfl rfl rfl)⟩) ?_
 refine qB (.agg #[St x',St y',St z']) (λf W' h=>h.congr rfl rfl rfl) ?_;simp only[zzQ]
 refine zdc (.tuple #[.agg #[St q.o0,St q.o1,St q.o2,.slice q.p q.n q.k],.int .i64 q.r]) (by rfl) (by rfl) (λf W' hf h C' hC'=>by
  have hq:=HQ.out.s2 W' o0 o1 o2 qb nb kb r1 (HT4.out.next h.bel).bel (HBP.out.below h.bel);have g11:=hf.self;have g12:=hf.no (j:=12) hf.self (by kernel_rfl);have g13:=hf.no (j:=13) g12 (by kernel_rfl);have g14:=hf.no (j:=14) g12 (by kernel_rfl);have g16:=hf.no (j:=16) g13 (by kernel_rfl);have g17:=hf.no (j:=17) g14 (by kernel_rfl);go_simp;refine(hq).mono ?_;rintro e w' ⟨o0',o1',o2',q',n',k',r',rfl,hb,hr⟩;have hj:∀j,f j=true->rgV (w.heap.size+1+1) o0 o1 o2 x y z x' y' z' qb nb kb ⟨q.A,o0',o1',o2',q',n',k',r'⟩ j=rgV (w.heap.size+1+1) o0 o1 o2 x y z x' y' z' qb nb kb q j:=by
   intro j hj
   match j,hj with
   |0,_|1,_|2,_|3,_|4,_|5,_|6,_|7,_|8,_|9,_|10,_|15,_|16,_=>rfl
   |11,hj=>rw[g11] at hj;cases hj
   |12,hj=>rw[g12] at hj;cases hj
   |13,hj=>rw[g13] at hj;cases hj
   |14,hj=>rw[g14] at hj;cases hj
   |17,hj=>rw[g17] at hj;cases hj
   |_+18,_=>rfl
  exact⟨_,rfl,hC' ⟨q.A,o0',o1',o2',q',n',k',r'⟩ _ hj (h.res hb ⟨q.A,o0',o1',o2',q',n',k',r'⟩ rfl hr g16 rfl rfl)⟩) ?_
 refine qB (.tuple #[.agg #[St q.o0,St q.o1,St q.o2,.slice q.p q.n q.k],.int .i64 q.r]) (λf W' h=>h.congr rfl rfl rfl) ?_;refine qB (.agg #[St q.o0,St q.o1,St q.o2,.slice q.p q.n q.k]) (λf W' h=>h.congr rfl rfl rfl) ?_;simp only[zzQ];refine qB (.int .i64 q.r) (λf W' h=>h.congr rfl rfl rfl) ?_;simp only[zzQ]
 refine zdc (.pointer (some ⟨q.A,0,none⟩)) (by rfl) (by rfl) (λf W' hf h C' hC'=>by
  have g15:=hf.self;have g16:=hf.no (j:=16) hf.self (by kernel_rfl);have hj:∀j,f j=true->rgV (w.heap.size+1+1) o0 o1 o2 x y z x' y' z' qb nb kb {q with A:=W'.heap.size} j=rgV (w.heap.size+1+1) o0 o1 o2 x y z x' y' z' qb nb kb q j:=by
   intro j hj
   match j,hj with
   |0,_|1,_|2,_|3,_|4,_|5,_|6,_|7,_|8,_|9,_|10,_|11,_|12,_|13,_|14,_|16,_|17,_=>rfl
   |15,hj=>rw[g15] at hj;cases hj
   |_+18,_=>rfl
  have hc:=hC' {q with A:=W'.heap.size} _ hj (RgS.new (λ_ _ _ h hb=>h.below hb) (λ_ _ _ h=>h) h g16 rfl rfl);clear h hC';go_simp;exact hc) ?_
 try simp only[zzQ]
 refine zbv undef (by rfl) (by rfl) (λf W' hf h C' hC'=>by
  have g15:=hf.done 15 (by kernel_rfl);have g16:=hf.self;obtain⟨d0,d1,d2,d3,fz⟩:=h.open g15 g16;have e0:=fz 0;have e1:=fz 1;have e2:=fz 2;have e3:=fz 3;have hc:=hC' _ (RgS.put (λ_ _ _ h hk=>h.imp hk) h g15 g16 rfl rfl);clear h hC' fz;go_simp;exact hc) ?_
 refine qB (.int .i64 q.r) (λf W' h=>h.congr rfl rfl rfl) ?_;simp only[zzQ];refine ze1 λf X2 hf h=>?_;have hr:=h.r (hf 11 (by decide));have hn:=(h.n (hf 15 (by decide))).2;rw[if_pos (hf 16 (by decide))] at hn;have HT5:=hid (HT4.out.next h.bel);have HBX5:=hid (zac h.bel _ _ _ _ HBX.out);have HBP5:=hid (HBP.out.below h.bel);clear h hf NX HT4 HBX HBP;obtain⟨QC,g0,g1,g2,qc,nc,kc,r2⟩:=q;dsimp only at hr hn⊢;have HCP:=hid hr;have HC:=hid (HQ.out.sm X2 g0 g1 g2 qc nc kc r2 r1 HT5.out.bel hr);obtain⟨z0,z1,z2,z3⟩:=zfb HT5.out.h0;obtain⟨j0,j1,j2,j3⟩:=zfb hn;clear hr hn;go_wp21;clear z0 z1 z2 z3 j0 j1 j2 j3;refine HC.out.mono ?_;rintro e w5 ⟨is,r3,rfl,hb,h3⟩;have HT6:=hid (HT5.out.next hb);have HBX6:=hid (zac hb _ _ _ _ HBX5.out);have HBP6:=hid (HBP5.out.below hb);have H3:=hid h3;clear hb h3 HC HT5 HBX5 HBP5;obtain⟨j0,j1,j2, -⟩:=zah HT6.out.h2;have HC:=hid (HQ.out.km w5 HT6.out.bel);go_wp21;clear j0 j1 j2;refine HC.out.mono ?_;rintro e w6 ⟨u0,u1,u2,rfl,hb,s0,s1,s2⟩;obtain⟨ua,na,ka,rfl⟩:=s0.any;obtain⟨ub,nb',kb',rfl⟩:=s1.any;obtain⟨uc,nc',kc',rfl⟩:=s2.any;obtain⟨y2,hy⟩:=zzX (w6.alloc (.cells #[.slice ua na ka,.slice ub nb' kb',.slice uc nc' kc'] 28));obtain⟨by1,Ay⟩:=zu4 hy;obtain⟨QM,hQe⟩:=zzX w6.heap.size;rw[<-hQe] at Ay;have hbb:=hb.trans (by1.mono hb.size);have HT7:=hid (HT6.out.next hbb);have HBX7:=hid (zac hbb _ _ _ _ HBX6.out);have HBP7:=hid (HBP6.out.below hbb);have HMX:=hid Ay;have HU:=hid (⟨s0.below by1,s1.below by1,s2.below by1⟩:_/\_/\_)
 have HY:=hid hy.symm;have HQE:=hid hQe.symm;clear hb hbb hy by1 Ay hQe s0 s1 s2 HC HT6 HBX6 HBP6;obtain⟨z0,z1,z2, -⟩:=zah HT7.out.h1;obtain⟨j0,j1,j2, -⟩:=zah HMX.out;have HC:=hid (HQ.out.a0 y2 _ HT7.out.bel HU.out.1);rw[<-HY.out] at z0 z1 z2 j0 j1 j2;rw[<-HQE.out] at j0 j1 j2;go_wp21;have h9:=HY.out;rw[h9]
 try rw[HQE.out]
 clear h9 HY HQE z0 z1 z2 j0 j1 j2;refine HC.out.mono ?_;rintro e w7 ⟨xa,ma,ca,r4,rfl,hb,h4⟩;have HT8:=hid (HT7.out.next hb);have HBX8:=hid (zac hb _ _ _ _ HBX7.out);have HBP8:=hid (HBP7.out.below hb);have HMX8:=hid (zac hb _ _ _ _ HMX.out);have HU8:=hid (⟨HU.out.2.1.below hb,HU.out.2.2.below hb⟩:_/\_);have H4:=hid h4;clear hb h4 HC HT7 HBX7 HBP7 HMX HU;obtain⟨z0,z1,z2, -⟩:=zah HT8.out.h1;obtain⟨j0,j1,j2, -⟩:=zah HMX8.out;have HC:=hid (HQ.out.a1 w7 _ HT8.out.bel HU8.out.1);go_wp21;clear z0 z1 z2 j0 j1 j2;refine HC.out.mono ?_;rintro e w8 ⟨xb,mb,cb,r5,rfl,hb,h5⟩;have HT9:=hid (HT8.out.next hb);have HBX9:=hid (zac hb _ _ _ _ HBX8.out);have HBP9:=hid (HBP8.out.below hb);have HMX9:=hid (zac hb _ _ _ _ HMX8.out);have HU9:=hid (HU8.out.2.below hb);have H49:=hid (H4.out.below hb);have H5:=hid h5;clear hb h5 HC HT8 HBX8 HBP8 HMX8 HU8 H4;obtain⟨z0,z1,z2, -⟩:=zah HT9.out.h1;obtain⟨j0,j1,j2, -⟩:=zah HMX9.out;have HC:=hid (HQ.out.a2 w8 _ HT9.out.bel HU9.out);go_wp21;clear z0 z1 z2 j0 j1 j2;refine HC.out.mono ?_;rintro e w9 ⟨xc,mc,cc,r6,rfl,hb,h6⟩;have HTa:=hid (HT9.out.next hb);have HBXa:=hid (zac hb _ _ _ _ HBX9.out);have HBPa:=hid (HBP9.out.below hb);have H4a:=hid (H49.out.below hb);have H5a:=hid (H5.out.below hb);have H6:=hid h6;clear hb h6 HC HT9 HBX9 HBP9 HMX9 HU9 H49 H5;obtain⟨z0,z1,z2,z3⟩:=zfb HTa.out.h0;obtain⟨j0,j1,j2, -⟩:=zah HTa.out.h1;have HC:=hid (HQ.out.t1 w9 HTa.out.bel);go_wp21;clear z0 z1 z2 z3 j0 j1 j2;refine HC.out.mono ?_;rintro e wa ⟨m,r7,rfl,hb,h7⟩
 have HTb:=hid (HTa.out.next hb);have HBXb:=hid (zac hb _ _ _ _ HBXa.out);have HC:=hid (HQ.out.t2 wa o0 o1 o2 qb nb kb r1 _ _ _ r4 r5 r6 HTb.out.bel (HBPa.out.below hb) (H4a.out.below hb) (H5a.out.below hb) (H6.out.below hb));have H7:=hid h7;clear hb h7 HTa HBXa;obtain⟨z0,z1,z2,z3⟩:=zfb HBXb.out;go_wp21;clear z0 z1 z2 z3;refine HC.out.mono ?_;rintro e wb ⟨n,r8,rfl,hb,h8⟩;have HTc:=hid (HTb.out.next hb);have H8:=hid h8;clear hb h8 HC HTb HBXb;obtain⟨yz,hz⟩:=zzX (wb.alloc (.cells #[.int .i64 r1,.int .i64 r2,.int .i64 r3,.int .i64 r4,.int .i64 r5,.int .i64 r6,.int .i64 r7,.int .i64 r8] 33));obtain⟨b2,hh⟩:=zu4 hz
 have hcn:=z7u wb.heap.size 8 (λi=>if i=0 then r1 else if i=1 then r2 else if i=2 then r3 else if i=3 then r4 else if i=4 then r5 else if i=5 then r6 else if i=6 then r7 else r8) (by omega) yz (hid λj hj=>by
  rw[zJ hh]
  match j,hj with
  |0,_|1,_|2,_|3,_|4,_|5,_|6,_|7,_=>rfl)
 have HCN:=hid hcn;have HTd:=hid (HTc.out.next b2);have HZ:=hid hz.symm;clear hz b2 hh hcn HTc;go_wp21;have h9:=HZ.out;rw[h9];clear h9 HZ;refine HCN.out.mono ?_;rintro e wc ⟨bc,rfl,hb,hne⟩;have HTe:=hid (HTd.out.next hb);have HNE:=hid hne;have HA:=hid (AW.out wc HTe.out.bel);clear hb hne HCN HTd AW;cases bc
 rotate_left
 ·clear HQ HNE H3 H4a H5a H6 H7 H8 HBPa HCP
  go_wp21;refine zzM HA.out λwd hb=>?_;have HB:=hid (HTe.out.bel.trans (hb.mono HTe.out.bel.size));clear hb;go_wp21;go_ret;exact⟨rfl,HB.out⟩
 ·have e1:r1=0:=by
   rcases HBPa.out with h|h
   ·exact h.1
   ·exact absurd h.1 (HNE.out rfl 0 (by omega))
  have e2:r2=0:=by
   rcases HCP.out with h|h
   ·exact h.1
   ·exact absurd (h.1.2 e1) (HNE.out rfl 1 (by omega))
  have e3:r3=0/\is=true:=(H3.out e2).resolve_left (HNE.out rfl 2 (by omega));have out0:∀{l:List (Rat×Nat)} {E:Prop} {v:Value} {r:Int} {W:zA},OutR l E True v r W->r≠4->r=0:=λh hr=>by
   rcases h with h|h
   ·exact h.1
   ·exact absurd h.1 hr
  have e4:=out0 H4a.out (HNE.out rfl 3 (by omega));have e5:=out0 H5a.out (HNE.out rfl 4 (by omega));have e6:=out0 H6.out (HNE.out rfl 5 (by omega));obtain⟨e7,e8,e9⟩:r7=0/\r8=0/\m=n:=by
   rcases HQ.out.law m r7 n r8 H7.out (H8.out e1 e4 e5 e6) with h|h|h
   ·exact absurd h (HNE.out rfl 6 (by omega))
   ·exact absurd h (HNE.out rfl 7 (by omega))
   ·exact h
  obtain⟨e3,e3'⟩:=e3;clear HNE H3 H4a H5a H6 H7 H8 HBPa HCP HQ out0;subst e1;subst e2;subst e3;subst e3';subst e4;subst e5;subst e6;subst e7;subst e8;subst e9;have mx9:∀w:zA,(Builtin.max_ #[33,33,33,33,33,33,33,33,33] 33 #[.int .i64 0,.int .i64 0,.int .i64 0,.int .i64 0,.int .i64 0,.int .i64 0,.int .i64 0,.int .i64 0,.int .i64 0]).run zF w=.ok (.int .i64 0) w:=λ_=>by kernel_rfl
  go_wp21;clear mx9;refine zzM HA.out λwd hb=>?_;have HB:=hid (HTe.out.bel.trans (hb.mono HTe.out.bel.size));clear hb;go_wp21;go_ret;exact⟨rfl,HB.out⟩
theorem zwx (l:List UInt8) (hl:l.length<=1000000) (w:zA):
 zC zF 140 #[St l] w λe w'=>∃r:Nat,e=.returned (.int .i64 (r:Int))/\(r<=l.length/\((r≠0/\r=l.length)↔zds l))/\w'=w:=by
 rw[ztc];obtain⟨s,hs⟩:=zzX (⟨l.toArray⟩:ByteArray);obtain⟨b1,b2⟩:=zdd l s hs;show zC _ _ #[.string ⟨l.toArray⟩] _ _;rw[<-hs];have hh:∀hb:0<s.size,l.head? =some 48↔(s[0]'hb).toNat=48:=λhb=>by
  have h0:0<l.length:=by omega
  rw[b2 0 h0 hb,List.head?_eq_getElem?,List.getElem?_eq_getElem h0];constructor
  ·intro h;injection h with h;rw[h];rfl
  ·intro h;congr 1;exact UInt8.toNat_inj.1 (by rw[h];rfl)
 obtain⟨Q,hQ⟩:∃Q:Prop,Q=(l.length≠0/\¬(1<l.length/\l.head? =some 48)/\∀k (hk:k<l.length),48<=(l[k]'hk).toNat/\(l[k]'hk).toNat<=57):=⟨_,rfl⟩;rw[<-hQ];have q1:s.size=0->¬Q:=λh=>by rw[hQ];exact λk=>k.1 (by omega)
 have q2:∀hb:0<s.size,1<s.size->(s[0]'hb).toNat=48->¬Q:=λhb h h'=>by rw[hQ];exact λk=>k.2.1 ⟨by omega,(hh hb).2 h'⟩
 have q3:∀k (hb:k<s.size),((s[k]'hb).toNat<48\/57<(s[k]'hb).toNat)->¬Q:=λk hb h=>by
  rw[hQ];intro k';have:=k'.2.2 k (by omega);rw[b2 k (by omega) hb] at h;omega
 have q4:∀hb:0<s.size,¬(1<s.size/\(s[0]'hb).toNat=48)->(∀k (hb:k<s.size),48<=(s[k]'hb).toNat/\(s[k]'hb).toNat<=57)->Q:=λhb h h'=>by
  rw[hQ];exact⟨by omega,λ⟨k1,k2⟩=>h ⟨by omega,(hh hb).1 k2⟩,λk hk=>by have:=h' k (by omega);rwa [b2 k hk (by omega)] at this⟩
 have hsz:s.size<=1000000:=by omega
 rw[<-b1];have Q1:=hid q1;have Q2:=hid q2;have Q3:=hid q3;have Q4:=hid q4;clear q1 q2 q3 q4 hh hQ b1 b2 hs hl;go_enter Tryz.func140,Tryz.ntmps140;go_wp2;go_loop [3] (λi=>∃k:Nat,k<=s.size/\i=.int .i64 k/\Hid (∀j (hb:j<s.size),j<k->48<=(s[j]'hb).toNat/\(s[j]'hb).toNat<=57)) (λi=>s.size-(zL i).toNat)
 case atStart=>exact⟨0,zR _,rfl,λj _ h=>by omega⟩
 case round=>
  obtain⟨k,hk,rfl,hP⟩:=hrel;have hend:(k<s.size->¬Q)->∀b:Bool,(∀hb:0<s.size,1<k->(b=true↔(s[0]'hb).toNat=48))->∀z:Nat,z=(if 1<k/\b=true then 0 else k)->z<=s.size/\((z≠0/\z=s.size)↔Q):=λh1 b hb z hz=>by
   by_cases c:1<k/\b=true
   ·rw[if_pos c] at hz
    subst hz;refine⟨zR _,λh=>absurd rfl h.1,λh=>absurd h (Q2.out (by omega) (by omega) ((hb (by omega) c.1).1 c.2))⟩
   ·rw[if_neg c] at hz
    subst hz;refine⟨hk,λ⟨h2,h3⟩=>Q4.out (by omega) (λ⟨e1,e2⟩=>c ⟨by omega,(hb (by omega) (by omega)).2 e2⟩) (λj hj=>hP.out j hj (by omega)),λh=>?_⟩;by_cases e:z<s.size
    ·exact absurd h (h1 e)
    ·refine⟨λe0=>?_,by omega⟩
     exact Q1.out (by omega) h
  by_cases hgo:∃hlt:k<s.size,48<=(s[k]'hlt).toNat/\(s[k]'hlt).toNat<=57
  ·obtain⟨hlt,d1,d2⟩:=hgo
   have e1:(48:Int)<=(s[k]'hlt).toNat:=by omega
   have e2:((s[k]'hlt).toNat:Int)<=57:=by omega
   have hnext:∀j (hb:j<s.size),j<k+1->48<=(s[j]'hb).toNat/\(s[j]'hb).toNat<=57:=λj hb h=>by
    by_cases e:j=k
    ·subst e;omega
    ·exact hP.out j hb (by omega)
   have HN:=hid hnext;clear hnext d1 d2 hend;go_wp2;go_round
   case rel=>exact⟨k+1,by omega,by go_num,HN⟩
   case measure=>simp[zL];omega
  ·have hstop:k<s.size->¬Q:=λhlt=>Q3.out k hlt (by
    by_cases c:(s[k]'hlt).toNat<48
    ·exact .inl c
    ·refine .inr (Nat.lt_of_not_le λd=>hgo ⟨hlt,Nat.le_of_not_lt c,d⟩))
   have HE:=hid (hend hstop);clear hend hstop;have hz:(∃hlt:k<s.size,(((s[k]'hlt).toNat:Int)<48\/((48:Int)<=(s[k]'hlt).toNat/\(57:Int)<(s[k]'hlt).toNat)))\/k=s.size:=by
    by_cases hlt:k<s.size
    ·refine .inl ⟨hlt,?_⟩
     by_cases c:(s[k]'hlt).toNat<48
     ·exact .inl (by omega)
     ·have d:57<(s[k]'hlt).toNat:=Nat.lt_of_not_le λd=>hgo ⟨hlt,Nat.le_of_not_lt c,d⟩
      exact .inr ⟨by omega,by omega⟩
    ·exact .inr (by omega)
   clear hgo hP;by_cases h1:1<k
   ·have h1':(1:Int)<k:=by omega
    have h0:0<s.size:=by omega
    by_cases h2:(s[0]'h0).toNat=48
    ·have h2':(((s[0]'h0).toNat:Int)==48)=true:=by rw[h2];rfl
     have HR:=hid (HE.out true (λhb _=>⟨λ_=>h2,λ_=>rfl⟩) 0 (by rw[if_pos ⟨h1,rfl⟩]));clear h2 HE;rcases hz with⟨hlt,hz|⟨hz,hz'⟩⟩|hz
     ·go_wp2
      go_ret;exact⟨0,rfl,HR.out,rfl⟩
     ·go_wp2
      go_ret;exact⟨0,rfl,HR.out,rfl⟩
     ·have hz2:¬((k:Int)<s.size):=by omega
      have hz3:=hid hz;clear hz;go_wp2;go_ret;exact⟨0,rfl,HR.out,rfl⟩
    ·have h2':(((s[0]'h0).toNat:Int)==48)=false:=by rw[beq_eq_false_iff_ne];omega
     have HR:=hid (HE.out false (λhb _=>⟨λh=>(by cases h),λh=>absurd h h2⟩) k (by rw[if_neg (by simp)]));clear h2 HE;rcases hz with⟨hlt,hz|⟨hz,hz'⟩⟩|hz
     ·go_wp2
      go_ret;exact⟨k,rfl,HR.out,rfl⟩
     ·go_wp2
      go_ret;exact⟨k,rfl,HR.out,rfl⟩
     ·have hz2:¬((k:Int)<s.size):=by omega
      have hz3:=hid hz;clear hz;go_wp2;go_ret;exact⟨k,rfl,HR.out,rfl⟩
   ·have h1':¬(1:Int)<k:=by omega
    have HR:=hid (HE.out false (λhb h=>absurd h h1) k (by rw[if_neg (by simp)]));clear HE;rcases hz with⟨hlt,hz|⟨hz,hz'⟩⟩|hz
    ·go_wp2
     go_ret;exact⟨k,rfl,HR.out,rfl⟩
    ·go_wp2
     go_ret;exact⟨k,rfl,HR.out,rfl⟩
    ·have hz2:¬((k:Int)<s.size):=by omega
     have hz3:=hid hz;clear hz;go_wp2;go_ret;exact⟨k,rfl,HR.out,rfl⟩
structure CutQ (s sn sd own:ByteArray) (is neg:Bool):Prop where
 CUT:Hid (∀W:zA,Wd W->zC zF 138 #[.string s,.string ⟨#[47]⟩] W λe w'=>e=.returned (.tuple #[.string sn,.string sd,.bool is])/\∃n,w'=W.drewN n)
 CP:Hid (∀W:zA,zC zF 139 #[.string sn,.string ⟨#[45]⟩] W λe w'=>e=.returned (.tuple #[.string own,.bool neg])/\w'=W)
def DigY (t:ByteArray):Prop:=((t.size:Int)==0)=false/\∀W:zA,zC zF 140 #[.string t] W λe w'=>e=.returned (.int .i64 (t.size:Int))/\w'=W
def DigN (t:ByteArray):Prop:=∀W:zA,zC zF 140 #[.string t] W λe w'=>∃r:Nat,e=.returned (.int .i64 (r:Int))/\(((r:Int)==0)=true\/(((r:Int)==0)=false/\(r:Int)<(t.size:Int)))/\w'=W
theorem z8e (t:ByteArray) (ht:t.data.toList.length<=1000000):(zds t.data.toList/\DigY t)\/(¬zds t.data.toList/\DigN t):=by
 have hsz:t.size=t.data.toList.length:=by simp
 have hst:(.string t:Value)=St t.data.toList:=rfl;by_cases h:zds t.data.toList
 ·refine .inl ⟨h,?_,λW=>?_⟩
  ·rw[beq_eq_false_iff_ne,hsz]
   have:=List.length_pos_iff.2 h.1;omega
  ·rw[hst]
   refine(zwx _ ht W).mono ?_;rintro e w' ⟨r,rfl,⟨_,h2⟩,h3⟩;have:=(h2.2 h).2;exact⟨by rw[hsz,this],h3⟩
 ·refine .inr ⟨h,λW=>?_⟩
  rw[hst];refine(zwx _ ht W).mono ?_;rintro e w' ⟨r,rfl,⟨h1,h2⟩,h3⟩;refine⟨r,rfl,?_,h3⟩;by_cases h0:r=0
  ·exact .inl (by simp[h0])
  ·refine .inr ⟨by rw[beq_eq_false_iff_ne];omega,?_⟩
   have:r≠t.data.toList.length:=λe=>h (h2.1 ⟨h0,e⟩);rw[hsz];omega
theorem z6k (s sn sd own:ByteArray) (is:Bool) (neg:Bool) (q:CutQ s sn sd own is neg) (H1:Hid (DigN own)) (w:zA) (HW:Hid (Wd w)):
 qJ 87 #[.string s] w (.tuple #[.agg #[St [],St []],.bool false]):=by
 obtain⟨CUT,CP⟩:=q
 all_goals
  go_enter Tryz.func87,Tryz.ntmps87;go_wp21;refine(CUT.out _ (HW.out.below ((zM _ w).alloc (zN _) _))).mono ?_;rintro e w1 ⟨rfl,nd,rfl⟩;go_wp21;refine(CP.out _).mono ?_;rintro e w1 ⟨rfl,rfl⟩;go_wp21;refine(H1.out _).mono ?_;rintro e w1 ⟨r,rfl,hz,rfl⟩;rcases hz with h1|⟨h1,h2⟩
  all_goals
   go_wp21;refine bodyPost_ret (v:=.tuple #[.agg #[St [],St []],.bool false]) (by simp[results,Tryz.results87,go_sem]) rfl ⟨rfl,?_⟩
   repeat(first|exact zM _ _|refine Below.alloc ?_ (by simp) _|refine zao ?_ _|refine Below.setCell ?_ (by simp) _)
end
section
open Go.RowKit Go.Shelf Lib Str Limb
end
section
open Go.RowKit Go.Shelf Lib Str Limb
attribute [local go_sem] Oper.semAt_some
theorem z0i (s:ByteArray) (HC:Hid (qK 87 #[.string s] (.tuple #[.agg #[St [],St []],.bool false]))) (w:zA) (HW:Hid (Wd w)):
 qJ 32 #[.string s] w (.tuple #[.agg #[St [],St []],.int .i64 11]):=by
 go_enter Tryz.func32,Tryz.ntmps32;go_wp21;refine zzM (HC.out _ (HW.out.below ((zM _ w).alloc (zN _) _))) λw1 hb1=>?_;have hB1:qL w w1:=((zM _ w).alloc (zN _) _).trans (hb1.mono (by simp));have z1:w.heap.size<w1.heap.size:=by have:=hb1.size;simp at this;omega
 have R1:w1.heap[w.heap.size]? =some (.cells #[St [],St []] 79 (0,0)):=(hb1.block _ (by simp)).trans (zG w _);clear hb1;have R20:w1.cell? ⟨w.heap.size,0,none⟩=some (St []):=by simp[World.cell?,R1]
 have R21:w1.cell? ⟨w.heap.size,1,none⟩=some (St []):=by simp[World.cell?,R1]
 have F20:w1.frozen? ⟨w.heap.size,0,none⟩=false:=by simp[World.frozen?,R1]
 have F21:w1.frozen? ⟨w.heap.size,1,none⟩=false:=by simp[World.frozen?,R1]
 clear R1;go_wp21;refine bodyPost_ret (v:=.tuple #[.agg #[St [],St []],.int .i64 11]) (by simp[results,Tryz.results32,go_sem,R20,R21,z1]) rfl ⟨rfl,?_⟩
 repeat(first|exact hB1|exact zM _ _|refine Below.alloc ?_ (by simp[World.setCell]<;>omega) _|refine zao ?_ _|refine Below.setCell ?_ (by simp) _)
theorem z6u (s:ByteArray) (P:Int->Prop) (w:zA) (HC:Hid (zC zF 32 #[.string s] w λe w'=>∃a b r,e=.returned (.tuple #[.agg #[St a,St b],.int .i64 r])/\P r/\zB w.heap.size w w')):
 zC zF 41 #[.string s] w λe w'=>∃r:Int,e=.returned (.int .i64 r)/\P r/\zB w.heap.size w w':=by
 go_enter Tryz.func41,Tryz.ntmps41;go_wp21;refine HC.out.mono ?_;rintro e w1 ⟨a,b,r,rfl,hr,hb1⟩;have HR:=hid hr;clear hr HC;go_wp21;go_ret;exact⟨r,rfl,HR.out,hb1.alloc hb1.size _⟩
theorem z1x (w:zA) (hw:Wd w):
 qJ 41 #[.string ⟨#[]⟩] w (.int .i64 11):=by
 have hq:CutQ ⟨#[]⟩ ⟨#[]⟩ ⟨#[]⟩ ⟨#[]⟩ false false:=by
  refine⟨hid λW hW=>?_,hid λW=>?_⟩
  ·obtain⟨m,hm⟩:=hW.maxl
   exact Tryz.strings_Cut ⟨#[]⟩ ⟨#[47]⟩ m W (by decide) hm
  ·exact Tryz.strings_CutPrefix ⟨#[]⟩ ⟨#[45]⟩ W
 have hn:DigN ⟨#[]⟩:=by
  rcases z8e ⟨#[]⟩ (by simp) with⟨_,h⟩|⟨_,h⟩
  ·exact absurd h.1 (by decide)
  ·exact h
 refine(z6u ⟨#[]⟩ (· =11) w (hid ?_)).mono λe w' ⟨r,e1,h,hb⟩=>⟨by rw[e1,h],hb⟩;exact(z0i ⟨#[]⟩ (hid λW hW=>z6k _ _ _ _ _ _ hq (hid hn) W (hid hW)) w (hid hw)).mono λe w' ⟨e1,hb⟩=>⟨_,_,_,e1,rfl,hb⟩
theorem zy2 (A:Nat) (w:zA) (HW:Hid (Wd w)) (HA:Hid (w.cell? ⟨A,0,none⟩=some (.string ⟨#[]⟩))):
 qJ 77 #[.slice (some ⟨A,0,none⟩) 3 3] w (.int .i64 11):=by
 have k0:=HA.out;have HC:=hid (z1x w HW.out);go_enter Tryz.func77,Tryz.ntmps77;go_wp21;refine wp_loop_rounds 1 ?_;rw[rounds_succ];go_wp21;refine zzM HC.out λw1 hb=>?_;have HB:=hid hb;clear hb;go_wp21;go_ret;exact⟨rfl,HB.out⟩
theorem zvp (w:zA) (HW:Hid (Wd w)):
 qJ 106 #[.agg #[.string ⟨#[]⟩,.string ⟨#[]⟩,.string ⟨#[]⟩,.slice none 0 0]] w (.int .i64 11):=by
 obtain⟨v1,hv⟩:=zzX ((w.alloc (.cells #[.string ⟨#[]⟩,.string ⟨#[]⟩,.string ⟨#[]⟩,.slice none 0 0] 26)).alloc (.cells #[.string ⟨#[]⟩,.string ⟨#[]⟩,.string ⟨#[]⟩] 22));obtain⟨b1, -,A2⟩:=box2 hv;have HF:=hid (zy2 (w.heap.size+1) v1 (hid (HW.out.below b1)) (hid (zah A2).1));have B1:=hid b1;have HV:=hid hv.symm;clear hv b1 A2;go_enter Tryz.func106,Tryz.ntmps106;go_wp21;have h9:=HV.out;rw[h9];clear h9 HV;refine zzM HF.out λr1 hb=>?_;have B2:=hid (B1.out.trans (hb.mono B1.out.size));clear hb;go_wp21;go_ret;exact⟨rfl,B2.out⟩
theorem z7i (p:Option Addr) (cap n j:Nat) (rr:Int) (hrr:(rr==0)=false) (X Y Z:Nat->List UInt8) (D:Nat->Value) (hn:n<=5000) (hj:j<n) (hD:∀i,i<n->∃q m c,D i=.slice q m c) (w:zA)
 (CK:Hid (∀i,i<=j->∀W:zA,qL w W->qJ 106 #[.agg #[St (X i),St (Y i),St (Z i),D i]] W (.int .i64 (if i=j then rr else 0)))) (HP:Hid (RowHf p n X Y Z D w)):
 qJ 44 #[.slice p n cap] w (.int .i64 1):=by
 have D0:=hid (zM w.heap.size w);go_enter Tryz.func44,Tryz.ntmps44;go_wp21;go_loopw [7] (λi wr=>∃(k:Nat),k<=j/\i=.int .i64 (k:Int)/\Hid (qL w wr))
  (λi _=>n-(zL i).toNat)
 case atStart=>exact⟨0,zR _,rfl,D0⟩
 case round=>
  clear D0;obtain⟨k,hk,rfl,hB⟩:=hrel;have hlt:k<n:=by omega
  obtain⟨b,off,rfl,c0,c1,c2,c3⟩:=(HP.out.keep (zac hB.out)) k hlt;have hc:=CK.out k hk;obtain⟨q,m,c,hd⟩:=hD k hlt;rw[hd] at c3 hc;generalize X k=x at*
  generalize Y k=y at*
  generalize Z k=z at*
  obtain⟨v1,hv⟩:=zzX (wr.alloc (.cells #[.string ⟨x.toArray⟩,.string ⟨y.toArray⟩,.string ⟨z.toArray⟩,.slice q m c] 26));obtain⟨a1, -⟩:=zu4 hv;have hE:=hB.out.trans (a1.mono hB.out.size);have HE:=hid hE;have HK:=hid (hc v1 hE);have HV:=hid hv.symm;clear hv a1 hE hd hc;go_wp21;have h9:=HV.out;rw[h9];clear h9 HV c0 c1 c2 c3;refine zzM HK.out λw2 hb2=>?_;have hB2:=qT HE hb2;clear hb2 HK HE;by_cases hkj:k=j
  ·rw[if_pos hkj]
   go_wp21;go_ret;exact⟨rfl,hB2.out⟩
  ·rw[if_neg hkj]
   go_wp21;go_roundw
   case rel=>exact⟨k+1,by omega,by go_num,hB2⟩
   case measure=>simp[zL];omega
theorem z8r (a b c a' b' c':List UInt8) (p p':Option Addr) (n n' k k':Nat) (w:zA)
 (CK:Hid (∀(W:zA) (A:Nat),qL w W->W.heap[A]? =some (.cells #[St a,St b,St c,.slice p n k,St a',St b',St c',.slice p' n' k'] 26 (0,0))->qJ 44 #[.slice (some ⟨A,0,none⟩) 2 2] W (.int .i64 1))):
 qJ 12 #[.agg #[St a,St b,St c,.slice p n k],.agg #[St a',St b',St c',.slice p' n' k']] w (.tuple #[.bool false,.int .i64 1]):=by
 obtain⟨v1,hv⟩:=zzX ((w.alloc (.cells #[.string ⟨a.toArray⟩,.string ⟨b.toArray⟩,.string ⟨c.toArray⟩,.slice p n k] 26)).alloc (.cells #[.string ⟨a'.toArray⟩,.string ⟨b'.toArray⟩,.string ⟨c'.toArray⟩,.slice p' n' k'] 26));obtain⟨b1,A1,A2⟩:=box2 hv;have hsz:v1.heap.size=w.heap.size+1+1:=by rw[hv];simp
 obtain⟨k0,k1,k2,k3⟩:=zfb A1;obtain⟨j0,j1,j2,j3⟩:=zfb A2;obtain⟨v2,hv2⟩:=zzX (v1.alloc (.cells #[.string ⟨a.toArray⟩,.string ⟨b.toArray⟩,.string ⟨c.toArray⟩,.slice p n k,.string ⟨a'.toArray⟩,.string ⟨b'.toArray⟩,.string ⟨c'.toArray⟩,.slice p' n' k'] 26));obtain⟨b2,A3⟩:=zu4 hv2;have hB:=b1.trans (b2.mono b1.size);have HB:=hid hB;have HC:=hid (CK.out v2 _ hB A3);rw[hsz] at HC;have HV:=hid hv.symm;have HV2:=hid hv2.symm;have HSZ:=hid hsz;clear hv hv2 b1 b2 A1 A2 A3 hB CK hsz;go_enter Tryz.func12,Tryz.ntmps12;go_wp21;have h9:=HV.out;rw[h9];clear h9 HV;go_wp21;have h9:=HV2.out;rw[h9]
 try rw[HSZ.out]
 clear h9 HV2 HSZ k0 k1 k2 k3 j0 j1 j2 j3;refine zzM HC.out λw1 hb=>?_;have HE:=qT HB hb;clear hb;go_wp21;go_ret2;exact⟨rfl,HE.out⟩
theorem zza (a b c:List UInt8) (qd q0 q1 q2:Option Addr) (nd kd n0 n1 n2 k0 k1 k2:Nat) (w:zA)
 (CK:Hid (∀(W:zA) (A:Nat),qL w W->W.heap[A]? =some (.cells #[St a,St b,St c,.slice qd nd kd] 26 (0,0))->qJ 44 #[.slice (some ⟨A,0,none⟩) 1 1] W (.int .i64 1))):
 qJ 13 #[.agg #[St a,St b,St c,.slice qd nd kd],.agg #[.slice q0 n0 k0,.slice q1 n1 k1,.slice q2 n2 k2]] w (.tuple #[.int .i64 0,.int .i64 1]):=by
 obtain⟨v1,hv⟩:=zzX ((w.alloc (.cells #[.string ⟨a.toArray⟩,.string ⟨b.toArray⟩,.string ⟨c.toArray⟩,.slice qd nd kd] 26)).alloc (.cells #[.slice q0 n0 k0,.slice q1 n1 k1,.slice q2 n2 k2] 28));obtain⟨b1,A1,A2⟩:=box2 hv;have hsz:v1.heap.size=w.heap.size+1+1:=by rw[hv];simp
 obtain⟨z0,z1,z2,z3⟩:=zfb A1;obtain⟨v2,hv2⟩:=zzX (v1.alloc (.cells #[.string ⟨a.toArray⟩,.string ⟨b.toArray⟩,.string ⟨c.toArray⟩,.slice qd nd kd] 26));obtain⟨b2,A3⟩:=zu4 hv2;have hB:=b1.trans (b2.mono b1.size);have HB:=hid hB;have HC:=hid (CK.out v2 _ hB A3);rw[hsz] at HC;have HV:=hid hv.symm;have HV2:=hid hv2.symm;have HSZ:=hid hsz;clear hv hv2 b1 b2 A1 A2 A3 hB CK hsz;go_enter Tryz.func13,Tryz.ntmps13;go_wp21;have h9:=HV.out;rw[h9];clear h9 HV;go_wp21;have h9:=HV2.out;rw[h9]
 try rw[HSZ.out]
 clear h9 HV2 HSZ z0 z1 z2 z3;refine zzM HC.out λw1 hb=>?_;have HE:=qT HB hb;clear hb;go_wp21;go_ret2;exact⟨rfl,HE.out⟩
theorem z19 (a b:List UInt8) (w:zA)
 (SB:Hid (qJ 55 #[.string ⟨#[48]⟩,St a] w (.tuple #[St b,.int .i64 0]))):
 qJ 15 #[St a] w (St b):=by
 go_enter Tryz.func15,Tryz.ntmps15;go_wp21;refine zzM SB.out λw1 hb=>?_;have HB:=hid hb;clear hb;go_wp21;go_ret;exact⟨rfl,HB.out⟩
end
section
open Go.RowKit Go.Shelf Lib Str Limb
theorem zb0 (x:Rat):(x.num:Rat)=x*(x.den:Rat):=by
 have h:=Rat.num_divInt_den x;rw[Rat.divInt_eq_div] at h;have h0:((x.den:Int):Rat)≠0:=by
  have:=x.den_nz;exact_mod_cast this
 have h1:(x.num:Rat)=x*((x.den:Int):Rat):=by
  conv=>rhs;rw[<-h]
  grind
 exact_mod_cast h1
theorem zlx (q:Rat):0<=rt q:=by
 unfold rt;have h1:(0:Rat)<=((isq q.num.natAbs:Nat):Rat):=by exact_mod_cast zR _
 rcases Nat.eq_zero_or_pos (isq q.den) with h|h
 ·rw[h,show(((0:Nat)):Rat)=0 from rfl,Rat.div_def,Rat.inv_zero,Rat.mul_zero];exact Rat.le_refl
 ·rw[Rat.div_def]
  exact Rat.mul_nonneg h1 (Rat.le_of_lt (Rat.inv_pos.2 (by exact_mod_cast h)))
theorem zr7 {x y:Rat} (hx:0<=x) (h:x<y):x*x<y*y:=by
 have h1:=Rat.mul_lt_mul_of_pos_left h (show 0<y by grind);have h2:=Rat.mul_le_mul_of_nonneg_right (Rat.le_of_lt h) hx;grind
theorem zo7 {x y:Rat} (hx:0<=x) (hy:0<=y) (h:x*x=y*y):x=y:=by
 have h3:x<y\/x=y\/y<x:=by grind
 rcases h3 with k|k|k
 ·have:=zr7 hx k;grind
 ·exact k
 ·have:=zr7 hy k;grind
theorem ztk {p:Rat} (hp:0<p):rt (p/p)=1:=
 zo7 (zlx _) (by decide) (by rw[zxd (div_pos hp hp) (zx1 hp)];grind)
theorem zsa {p q r:Rat} (hp:0<p) (hq:0<q) (hr:0<r) (h:z5c p q=true) (k:z5c q r=true):rt (p/q)*rt (q/r)=rt (p/r):=by
 refine zo7 (Rat.mul_nonneg (zlx _) (zlx _)) (zlx _) ?_;have h1:=zxd (div_pos hp hq) h;have h2:=zxd (div_pos hq hr) k;rw[zxd (div_pos hp hr) (zw8 hp hq hr h k)];generalize rt (p/q)=x at h1⊢;generalize rt (q/r)=y at h2⊢;grind
def ph1 (r:Nat) (t:Rat×Nat):Rat:=if z5c (t.2:Rat) (r:Rat)=true then t.1*rt ((t.2:Rat)/(r:Rat)) else 0
def phi (r:Nat):List (Rat×Nat)->Rat
 |[]=>0
 |t::l=>ph1 r t+phi r l
theorem zo8 (r:Nat):∀l m:List (Rat×Nat),phi r (l++m)=phi r l+phi r m
 |[],m=>by rw[List.nil_append,show phi r []=0 from rfl,Rat.zero_add]
 |t::l,m=>by rw[List.cons_append,show phi r (t::(l++m))=ph1 r t+phi r (l++m) from rfl,zo8 r l m,show phi r (t::l)=ph1 r t+phi r l from rfl,Rat.add_assoc]
theorem ztl (r:Nat) (t:Rat×Nat) (c:Rat):ph1 r (t.1*c,t.2)=ph1 r t*c:=by
 unfold ph1;dsimp only;split
 ·grind
 ·rw[Rat.zero_mul]
theorem zpm (r:Nat) (c:Rat):∀l:List (Rat×Nat),phi r (sclL l c)=phi r l*c
 |[]=>by rw[show phi r []=0 from rfl,Rat.zero_mul];rfl
 |t::l=>by
  rw[show phi r (sclL (t::l) c)=ph1 r (t.1*c,t.2)+phi r (sclL l c) from rfl,zpm r c l,ztl,show phi r (t::l)=ph1 r t+phi r l from rfl,Rat.add_mul]
theorem zfq (r:Nat) (c:Rat) (l:List (Rat×Nat)):phi r (sclR l c)=phi r l*c:=by
 unfold sclR;split
 ·rename_i h;rw[h,Rat.mul_zero];rfl
 ·exact zpm r c l
theorem zt5 {r:Nat} (hr:0<r) {c t:Rat×Nat} (hc:(0:Rat)<(c.2:Rat)) (ht:(0:Rat)<(t.2:Rat)) (h:z5c (t.2:Rat) (c.2:Rat)=true):ph1 r (plG c t)=ph1 r c+ph1 r t:=by
 have hr':(0:Rat)<(r:Rat):=by exact_mod_cast hr
 have h':=zu5 ht hc h;unfold plG;split
 ·unfold ph1
  dsimp only;by_cases k:z5c (t.2:Rat) (r:Rat)=true
  ·rw[if_pos k,if_pos k,if_pos (zw8 hc ht hr' h' k),<-zsa hc ht hr' h' k]
   grind
  ·rw[if_neg k,if_neg k,if_neg (λe=>k (zw8 ht hc hr' h e)),Rat.add_zero]
 ·unfold ph1
  dsimp only;by_cases k:z5c (c.2:Rat) (r:Rat)=true
  ·rw[if_pos k,if_pos k,if_pos (zw8 ht hc hr' h k),<-zsa ht hc hr' h k]
   grind
  ·rw[if_neg k,if_neg k,if_neg (λe=>k (zw8 hc ht hr' h' e)),Rat.add_zero]
theorem zsg {r:Nat} (hr:0<r) {t:Rat×Nat} (ht:(0:Rat)<(t.2:Rat)):∀{l:List (Rat×Nat)},PosR l->phi r (gaG l t)=phi r l+ph1 r t
 |[],_=>by show ph1 r t+0=0+ph1 r t;rw[Rat.add_zero,Rat.zero_add]
 |c::l,h=>by
  have hc:=h c (yD ..);unfold gaG;split
  ·rename_i k
   show ph1 r (plG c t)+phi r l=ph1 r c+phi r l+ph1 r t;rw[zt5 hr hc ht k];grind
  ·show ph1 r c+phi r (gaG l t)=ph1 r c+phi r l+ph1 r t
   rw[zsg hr ht λd hd=>h d (List.mem_cons_of_mem _ hd)];grind
theorem zs8 {r:Nat} (hr:0<r):∀{T A:List (Rat×Nat)},PosR A->PosR T->phi r (T.foldl gaG A)=phi r A+phi r T
 |[],A,_,_=>by rw[List.foldl_nil,show phi r []=0 from rfl,Rat.add_zero]
 |t::T,A,hA,hT=>by
  have ht:=hT t (yD ..);have hA':PosR (gaG A t):=λc hc=>by
   rcases z44 hc with⟨d,hd,e⟩|e
   ·rw[<-e];exact hA d hd
   ·rw[<-e];exact ht
  rw[List.foldl_cons,zs8 hr hA' λc hc=>hT c (List.mem_cons_of_mem _ hc),zsg hr ht hA];show _=phi r A+(ph1 r t+phi r T);grind
theorem ze2 (r:Nat):∀l:List (Rat×Nat),phi r (l.filter λc=>!decide (c.1=0))=phi r l
 |[]=>rfl
 |t::l=>by
  rw[List.filter_cons];by_cases h:t.1=0
  ·rw[if_neg (by simp[h]),ze2 r l]
   show _=ph1 r t+phi r l;have:ph1 r t=0:=by unfold ph1;rw[h,Rat.zero_mul,ite_self]
   rw[this,Rat.zero_add]
  ·rw[if_pos (by simp[h])]
   show ph1 r t+phi r _=ph1 r t+phi r l;rw[ze2 r l]
theorem zpq (r:Nat) (t:Rat×Nat):∀l:List (Rat×Nat),phi r (insS t l)=ph1 r t+phi r l
 |[]=>rfl
 |c::l=>by
  unfold insS;split
  ·rfl
  ·show ph1 r c+phi r (insS t l)=ph1 r t+(ph1 r c+phi r l)
   rw[zpq r t l];grind
theorem zqg (r:Nat):∀l:List (Rat×Nat),phi r (srtS l)=phi r l
 |[]=>rfl
 |t::l=>by rw[show srtS (t::l)=insS t (srtS l) from rfl,zpq,zqg r l];rfl
theorem zuc {r:Nat} (hr:0<r) {T:List (Rat×Nat)} (hT:PosR T):phi r (mkG T)=phi r T:=by
 unfold mkG keG;rw[zqg,ze2,zs8 hr (λ_ h=>by cases h) hT,show phi r []=0 from rfl,Rat.zero_add]
theorem znu (r:Nat):∀{l:List (Rat×Nat)},(∀t∈l,z5c (t.2:Rat) (r:Rat)=false)->phi r l=0
 |[],_=>rfl
 |t::l,h=>by
  show ph1 r t+phi r l=0;rw[znu r λc hc=>h c (List.mem_cons_of_mem _ hc)];unfold ph1;rw[h t (yD ..),if_neg (by decide),Rat.add_zero]
theorem zqk:∀{l:List (Rat×Nat)},ULs l->PosR l->∀c∈l,phi c.2 l=c.1
 |[],_,_,c,h=>by cases h
 |t::l,hu,hp,c,h=>by
  show ph1 c.2 t+phi c.2 l=c.1;have hu':ULs l:=λi k a b hik ha hb=>hu (i+1) (k+1) a b (by omega) (by simpa using ha) (by simpa using hb);have hp':PosR l:=λa ha=>hp a (List.mem_cons_of_mem _ ha);have at_:∀{a:Rat×Nat},a∈l->∃i,l[i]? =some a:=λha=>List.mem_iff_getElem?.1 ha;rcases List.mem_cons.1 h with rfl|hc
  ·rw[znu c.2 λa ha=>by
    obtain⟨i,hi⟩:=at_ ha;exact hu 0 (i+1) c a (by omega) rfl (by simpa using hi)]
   have:=hp c (yD ..);unfold ph1;rw[zx1 this,if_pos rfl,ztk this];grind
  ·rw[zqk hu' hp' c hc]
   obtain⟨i,hi⟩:=at_ hc;have:=hu (i+1) 0 c t (by omega) (by simpa using hi) rfl;unfold ph1;rw[this];simp;exact Rat.zero_add _
theorem zn6 {T:List (Rat×Nat)} (hT:PosR T):PosR (mkG T):=λc hc=>(zw2 hT T.length).2 c (zx8 hc).1
theorem ztn {T:List (Rat×Nat)} (hT:PosR T):ULs (mkG T):=λi k t u hik ht hu=>by
 have hi:IncS (mkG T):=zxo (z1u hT);refine z5s (zw2 hT T.length).1 t (zx8 (List.mem_of_getElem? ht)).1 u (zx8 (List.mem_of_getElem? hu)).1 λe=>?_;subst e;rcases Nat.lt_or_ge i k with h|h
 ·have:=zz3 hi h ht hu;omega
 ·have:=zz3 hi (by omega:k<i) hu ht;omega
theorem zt0 {T:List (Rat×Nat)} (hT:PosR T) (h:∀r,0<r->phi r T=0):mkG T=[]:=by
 rcases hm:mkG T with _|⟨c,l⟩
 ·rfl
 ·have hc:c∈mkG T:=by rw[hm];exact yD ..
  have hp:=zn6 hT c hc;have hr:0<c.2:=by exact_mod_cast hp
  have:=zqk (ztn hT) (zn6 hT) c hc;rw[zuc hr hT,h _ hr] at this;exact absurd this.symm (zx8 hc).2
theorem ztb {l m:List (Rat×Nat)} (hl:PosR l) (hm:PosR m):PosR (l++m):=λt ht=>(List.mem_append.1 ht).elim (hl t) (hm t)
theorem zth {l:List (Rat×Nat)} (h:PosR l) (c:Rat):PosR (sclL l c):=λt ht=>by
 obtain⟨u,hu,rfl⟩:=List.mem_map.1 ht;exact h u hu
def Bd (f:Nat->Rat):Prop:=∃K:Rat,∀q, -K<=f q/\f q<=K
theorem Bd.add {f g:Nat->Rat} (hf:Bd f) (hg:Bd g):Bd λq=>f q+g q:=by
 obtain⟨K,h⟩:=hf;obtain⟨L,k⟩:=hg;exact⟨K+L,λq=>by have:=h q;have:=k q;constructor<;>grind⟩
theorem Bd.neg {f:Nat->Rat} (hf:Bd f):Bd λq=> -f q:=by
 obtain⟨K,h⟩:=hf;exact⟨K,λq=>by have:=h q;constructor<;>grind⟩
theorem Bd.zero:Bd λ_=>0:=⟨0,λ_=>by constructor<;>grind⟩
theorem Bd.congr {f g:Nat->Rat} (hf:Bd f) (h:∀q,g q=f q):Bd g:=by
 obtain⟨K,k⟩:=hf;exact⟨K,λq=>by rw[h];exact k q⟩
theorem Bd.smul {f:Nat->Rat} (hf:Bd f) (c:Rat):Bd λq=>c*f q:=by
 obtain⟨K,h⟩:=hf;rcases(show 0<=c\/0<= -c by grind) with hc|hc
 ·refine⟨c*K,λq=>?_⟩
  have h1:=Rat.mul_le_mul_of_nonneg_left (h q).1 hc;have h2:=Rat.mul_le_mul_of_nonneg_left (h q).2 hc;constructor<;>grind
 ·refine⟨-c*K,λq=>?_⟩
  have h1:=Rat.mul_le_mul_of_nonneg_left (h q).1 hc;have h2:=Rat.mul_le_mul_of_nonneg_left (h q).2 hc;constructor<;>grind
def rtF (r q:Nat):Nat:=isq (r*10^(2*q))
theorem z8h {a b r s:Nat} (h:b*b*r=a*a*s) (q:Nat):a*rtF s q<=b*rtF r q+b/\b*rtF r q<=a*rtF s q+a:=by
 obtain⟨r1,r2⟩:=zv0 (r*10^(2*q));obtain⟨s1,s2⟩:=zv0 (s*10^(2*q));unfold rtF;generalize isq (r*10^(2*q))=x at*
 generalize isq (s*10^(2*q))=y at*
 generalize 10^(2*q)=M at*
 have e:b*b*(r*M)=a*a*(s*M):=by rw[<-Nat.mul_assoc,h,Nat.mul_assoc]
 constructor
 ·refine z41 ?_
  calc a*y*(a*y)=a*a*(y*y):=by ac_rfl
   _<=a*a*(s*M):=Nat.mul_le_mul_left _ s1
   _=b*b*(r*M):=e.symm
   _<=b*b*((x+1)*(x+1)):=Nat.mul_le_mul_left _ (Nat.le_of_lt r2)
   _=(b*x+b)*(b*x+b):=by rw[show b*x+b=b*(x+1) by rw[Nat.mul_add,Nat.mul_one]];ac_rfl
 ·refine z41 ?_
  calc b*x*(b*x)=b*b*(x*x):=by ac_rfl
   _<=b*b*(r*M):=Nat.mul_le_mul_left _ r1
   _=a*a*(s*M):=e
   _<=a*a*((y+1)*(y+1)):=Nat.mul_le_mul_left _ (Nat.le_of_lt s2)
   _=(a*y+a)*(a*y+a):=by rw[show a*y+a=a*(y+1) by rw[Nat.mul_add,Nat.mul_one]];ac_rfl
theorem z9o (n r q:Nat):n*rtF r q<=isq (n*n*r*10^(2*q))+1/\isq (n*n*r*10^(2*q))<=n*rtF r q+n:=by
 have h:=z8h (a:=n) (b:=1) (r:=n*n*r) (s:=r) (by simp) q;rw[Nat.one_mul] at h;exact h
theorem z64 {x m d:Rat} (hd:1<=d) (hm:0<=m) (h:x*d<=m):x<=m:=by
 rcases(show x<=m\/m<x by grind) with k|k
 ·exact k
 ·have:=Rat.mul_le_mul_of_nonneg_left hd (show 0<=x by grind)
  grind
theorem z82 {c:Rat} {m d s z y:Nat} (hd:0<d) (hc:c*(d:Rat)=(m:Rat)) (h1:m*y<=s+1) (h2:s<=m*y+m) (a1:z*d<=s) (a2:s<(z+1)*d): -2<=(z:Rat)-c*(y:Rat)/\(z:Rat)-c*(y:Rat)<=(m:Rat):=by
 have hd1:(1:Rat)<=(d:Rat):=by exact_mod_cast hd
 have b1:(m:Rat)*(y:Rat)<=(s:Rat)+1:=by exact_mod_cast h1
 have b2:(s:Rat)<=(m:Rat)*(y:Rat)+(m:Rat):=by exact_mod_cast h2
 have b3:(z:Rat)*(d:Rat)<=(s:Rat):=by exact_mod_cast a1
 have b4:(s:Rat)<((z:Rat)+1)*(d:Rat):=by exact_mod_cast a2
 have b5:(0:Rat)<=(m:Rat):=by exact_mod_cast zR m
 have e:c*(y:Rat)*(d:Rat)=(m:Rat)*(y:Rat):=by rw[<-hc];grind
 generalize (m:Rat)=M at*
 generalize (d:Rat)=D at*
 generalize (s:Rat)=S at*
 generalize (z:Rat)=Z at*
 generalize (y:Rat)=Y at*
 constructor
 ·have:=z64 (x:= -(Z-c*Y+1)) (m:=1) hd1 (by decide) (by grind)
  grind
 ·exact z64 hd1 b5 (by grind)
theorem z63 (t:Rat×Nat):Bd λq=>((flT t q:Int):Rat)-t.1*((rtF t.2 q:Nat):Rat):=by
 obtain⟨c,r⟩:=t;have hd:0<c.den:=c.den_pos;have nd:=zb0 c;refine⟨((c.num.natAbs:Nat):Rat)+3,λq=>?_⟩;obtain⟨h1,h2⟩:=z9o c.num.natAbs r q;have h3:c.num.natAbs*c.num.natAbs*r*10^(2*q)=trN (c,r) q:=rfl;rw[h3] at h1 h2;have b5:(0:Rat)<=((c.num.natAbs:Nat):Rat):=by exact_mod_cast zR _
 show-_<=((floT c (isq (trN (c,r) q)) (trN (c,r) q):Int):Rat)-c*((rtF r q:Nat):Rat)/\((floT c (isq (trN (c,r) q)) (trN (c,r) q):Int):Rat)-c*((rtF r q:Nat):Rat)<=_;unfold floT;have a1:isq (trN (c,r) q)/c.den*c.den<=isq (trN (c,r) q):=Nat.div_mul_le_self _ _;have a2:isq (trN (c,r) q)<(isq (trN (c,r) q)/c.den+1)*c.den:=by
  have:=Nat.lt_div_mul_add hd (a:=isq (trN (c,r) q));rw[Nat.add_mul,Nat.one_mul];exact this
 by_cases hn:c.num<0
 ·rw[if_pos hn]
  have e: -c*(c.den:Rat)=((c.num.natAbs:Nat):Rat):=by
   have e1:((c.num.natAbs:Nat):Int)= -c.num:=by omega
   have e2:((c.num.natAbs:Nat):Rat)=((-c.num:Int):Rat):=by rw[<-e1];rfl
   rw[e2,Rat.intCast_neg,nd];grind
  have k:=z82 (c:= -c) hd e h1 h2 a1 a2;generalize isq (trN (c,r) q)/c.den=z at*
  have h01:∃ε:Nat,ε<=1/\(if isq (trN (c,r) q)*isq (trN (c,r) q)=trN (c,r) q/\isq (trN (c,r) q)%c.den=0 then 0 else 1)=ε:=by split;exact⟨0,by omega,rfl⟩;exact⟨1,by omega,rfl⟩
  obtain⟨ε,he,hε⟩:=h01;rw[hε,Rat.intCast_neg,Rat.intCast_natCast,Rat.natCast_add];have he1:(ε:Rat)<=1:=by exact_mod_cast he
  have he0:(0:Rat)<=(ε:Rat):=by exact_mod_cast zR ε
  generalize (ε:Rat)=E at*
  constructor<;>grind
 ·rw[if_neg hn]
  have e:c*(c.den:Rat)=((c.num.natAbs:Nat):Rat):=by
   have e1:((c.num.natAbs:Nat):Int)=c.num:=by omega
   have e2:((c.num.natAbs:Nat):Rat)=((c.num:Int):Rat):=by rw[<-e1];rfl
   rw[e2,nd]
  have k:=z82 hd e h1 h2 a1 a2;rw[Rat.intCast_natCast];constructor<;>grind
def vZ (l:List (Rat×Nat)) (q:Nat):Rat:=((valZ l q:Int):Rat)
theorem z68 (q:Nat):vZ [] q=0:=rfl
theorem z60 (t:Rat×Nat) (l:List (Rat×Nat)) (q:Nat):vZ (t::l) q=((flT t q:Int):Rat)+vZ l q:=by
 show(((flT t q+valZ l q:Int)):Rat)=_;rw[Rat.intCast_add];rfl
theorem z71 (l m:List (Rat×Nat)) (q:Nat):vZ (l++m) q=vZ l q+vZ m q:=by
 unfold vZ;rw[z0a,Rat.intCast_add]
theorem z83 {r s:Nat} (hr:0<r) (hs:0<s) (h:z5c (r:Rat) (s:Rat)=true):Bd λq=>((rtF r q:Nat):Rat)-rt ((r:Rat)/(s:Rat))*((rtF s q:Nat):Rat):=by
 have hr':(0:Rat)<(r:Rat):=by exact_mod_cast hr
 have hs':(0:Rat)<(s:Rat):=by exact_mod_cast hs
 have e:=zxd (div_pos hr' hs') h;have hk:=zlx ((r:Rat)/(s:Rat));generalize rt ((r:Rat)/(s:Rat))=k at*
 have hd:0<k.den:=k.den_pos;have nd:=zb0 k;have hn:0<=k.num:=Rat.num_nonneg.2 hk;have e2:((k.num.natAbs:Nat):Rat)=k*(k.den:Rat):=by
  rw[<-nd];have:((k.num.natAbs:Nat):Int)=k.num:=Int.natAbs_of_nonneg hn;exact_mod_cast congrArg (Int.cast (R:=Rat)) this
 have hb:k.den*k.den*r=k.num.natAbs*k.num.natAbs*s:=by
  have:(k.den:Rat)*(k.den:Rat)*(r:Rat)=((k.num.natAbs:Nat):Rat)*((k.num.natAbs:Nat):Rat)*(s:Rat):=by
   rw[e2];have e3:k*k*(s:Rat)=(r:Rat):=by rw[e];grind
   rw[<-e3];grind
  exact_mod_cast this
 refine⟨1+((k.num.natAbs:Nat):Rat),λq=>?_⟩;dsimp only;obtain⟨h1,h2⟩:=z8h hb q;have hd1:(1:Rat)<=(k.den:Rat):=by exact_mod_cast hd
 have b1:((k.num.natAbs:Nat):Rat)*((rtF s q:Nat):Rat)<=(k.den:Rat)*((rtF r q:Nat):Rat)+(k.den:Rat):=by exact_mod_cast h1
 have b2:(k.den:Rat)*((rtF r q:Nat):Rat)<=((k.num.natAbs:Nat):Rat)*((rtF s q:Nat):Rat)+((k.num.natAbs:Nat):Rat):=by exact_mod_cast h2
 have b3:(0:Rat)<=((k.num.natAbs:Nat):Rat):=by exact_mod_cast zR _
 generalize ((rtF r q:Nat):Rat)=x at*
 generalize ((rtF s q:Nat):Rat)=y at*
 generalize ((k.num.natAbs:Nat):Rat)=m at*
 generalize (k.den:Rat)=d at*
 constructor
 ·have:=z64 (x:= -(x-k*y+1)) (m:=0) hd1 (by decide) (by rw[e2] at b1;grind)
  grind
 ·have:=z64 (x:=x-k*y) hd1 b3 (by rw[e2] at b2⊢;grind)
  grind
theorem yaj {c t:Rat×Nat} (hc:0<c.2) (ht:0<t.2) (h:z5c (t.2:Rat) (c.2:Rat)=true):Bd λq=>((flT (plG c t) q:Int):Rat)-(((flT c q:Int):Rat)+((flT t q:Int):Rat)):=by
 have hc':(0:Rat)<(c.2:Rat):=by exact_mod_cast hc
 have ht':(0:Rat)<(t.2:Rat):=by exact_mod_cast ht
 unfold plG;split
 ·refine((z63 (t.1+c.1*rt ((c.2:Rat)/(t.2:Rat)),t.2)).add (((z63 c).add (z63 t)).neg.add ((z83 hc ht (zu5 ht' hc' h)).smul c.1).neg)).congr λq=>?_
  dsimp only;grind
 ·refine((z63 (c.1+t.1*rt ((t.2:Rat)/(c.2:Rat)),c.2)).add (((z63 c).add (z63 t)).neg.add ((z83 ht hc h).smul t.1).neg)).congr λq=>?_
  dsimp only;grind
theorem z84 {t:Rat×Nat} (ht:(0:Rat)<(t.2:Rat)):∀{l:List (Rat×Nat)},PosR l->Bd λq=>vZ (gaG l t) q-(vZ l q+((flT t q:Int):Rat))
 |[],_=>Bd.zero.congr λq=>by show vZ [t] q-_=0;rw[z60,z68];grind
 |c::l,h=>by
  have hc:=h c (yD ..);unfold gaG;split
  ·rename_i k
   exact(yaj (by exact_mod_cast hc) (by exact_mod_cast ht) k).congr λq=>by rw[z60,z60];grind
  ·exact(z84 ht λd hd=>h d (List.mem_cons_of_mem _ hd)).congr λq=>by rw[z60,z60];grind
theorem z86:∀{T A:List (Rat×Nat)},PosR A->PosR T->Bd λq=>vZ (T.foldl gaG A) q-(vZ A q+vZ T q)
 |[],A,_,_=>Bd.zero.congr λq=>by rw[List.foldl_nil,z68];grind
 |t::T,A,hA,hT=>by
  have ht:=hT t (yD ..);have hA':PosR (gaG A t):=λc hc=>by
   rcases z44 hc with⟨d,hd,e⟩|e
   ·rw[<-e];exact hA d hd
   ·rw[<-e];exact ht
  rw[List.foldl_cons];exact((z86 hA' λc hc=>hT c (List.mem_cons_of_mem _ hc)).add (z84 ht hA)).congr λq=>by rw[z60];grind
theorem yak (r q:Nat):flT (0,r) q=0:=by
 unfold flT floT trN;simp[isq];rfl
theorem z7q (q:Nat):∀l:List (Rat×Nat),vZ (l.filter λc=>!decide (c.1=0)) q=vZ l q
 |[]=>rfl
 |t::l=>by
  rw[List.filter_cons];by_cases h:t.1=0
  ·rw[if_neg (by simp[h]),z7q q l,z60]
   have:flT t q=0:=by
    have:=yak t.2 q;rw[<-h] at this;exact this
   rw[this];grind
  ·rw[if_pos (by simp[h]),z60,z60,z7q q l]
theorem z9p (q:Nat) (t:Rat×Nat):∀l:List (Rat×Nat),vZ (insS t l) q=((flT t q:Int):Rat)+vZ l q
 |[]=>z60 t [] q
 |c::l=>by
  unfold insS;split
  ·exact z60 t (c::l) q
  ·rw[z60,z60,z9p q t l];grind
theorem z9q (q:Nat):∀l:List (Rat×Nat),vZ (srtS l) q=vZ l q
 |[]=>rfl
 |t::l=>by rw[show srtS (t::l)=insS t (srtS l) from rfl,z9p,z9q q l,z60]
theorem z7t {T:List (Rat×Nat)} (hT:PosR T):Bd λq=>vZ (mkG T) q-vZ T q:=
 (z86 (A:=[]) (λ_ h=>by cases h) hT).congr λq=>by
   unfold mkG keG;rw[z9q,z7q,z68];grind
theorem z7x (c:Rat):∀l:List (Rat×Nat),Bd λq=>vZ (sclL l c) q-c*vZ l q
 |[]=>Bd.zero.congr λq=>by rw[z68];show vZ [] q-_=0;rw[z68];grind
 |t::l=>by
  refine((z7x c l).add ((z63 (t.1*c,t.2)).add ((z63 t).smul c).neg)).congr λq=>?_;rw[z60,show sclL (t::l) c=(t.1*c,t.2)::sclL l c from rfl,z60];grind
theorem z66 (c:Rat) (l:List (Rat×Nat)):Bd λq=>vZ (sclR l c) q-c*vZ l q:=by
 unfold sclR;split
 ·rename_i h
  exact Bd.zero.congr λq=>by rw[z68,h];grind
 ·exact z7x c l
theorem yal {t:Rat×Nat} (hne:t.1≠0) (p q:Nat):flT t p*(10^q:Nat)<=(flT t q+1)*(10^p:Nat):=by
 have h1:=(z57 t hne p q).1;have h2:=(z57 t hne q q).2;have hP:(0:Int)<((10^p:Nat):Int):=by exact_mod_cast yS (by simp)
 have hQ:(0:Int)<((10^q:Nat):Int):=by exact_mod_cast yS (by simp)
 generalize ((10^p:Nat):Int)=P at*
 generalize ((10^q:Nat):Int)=Q at*
 generalize flT t p=a at*
 generalize flT t q=b at*
 generalize flT (ngT t) q=g at*
 rw[<-Int.add_mul] at h2;have h3:0<b+1+(g+1):=by
  rcases(show 0<b+1+(g+1)\/b+1+(g+1)<=0 by omega) with k|k
  ·exact k
  ·have:=Int.mul_le_mul_of_nonneg_right k (Int.le_of_lt hQ)
   omega
 have h4:=Int.mul_le_mul_of_nonneg_right (show-(b+1)<=g by omega) (Int.le_of_lt hP);rw[Int.neg_mul] at h4;omega
theorem z7y (p q:Nat):∀l:List (Rat×Nat),(∀t∈l,t.1≠0)->valZ l p*(10^q:Nat)<=(valZ l q+l.length)*(10^p:Nat)
 |[],_=>by show(0:Int)*_<=(0+((0:Nat):Int))*_;simp
 |t::l,h=>by
  have h1:=yal (h t (yD ..)) p q;have h2:=z7y p q l λc hc=>h c (List.mem_cons_of_mem _ hc);show(flT t p+valZ l p)*_<=(flT t q+valZ l q+((l.length+1:Nat):Int))*_;generalize ((10^p:Nat):Int)=P at*
  generalize ((10^q:Nat):Int)=Q at*
  have e:(flT t q+valZ l q+((l.length+1:Nat):Int))*P=(flT t q+1)*P+(valZ l q+(l.length:Int))*P:=by
   rw[<-Int.add_mul];congr 1;omega
  rw[e,Int.add_mul];omega
theorem yam (C:Rat):∃q:Nat,C<((10^q:Nat):Rat):=by
 refine⟨C.num.natAbs,?_⟩;have h1:C.num.natAbs<10^C.num.natAbs:=Nat.lt_pow_self (by omega);have h2:((C.num.natAbs:Nat):Rat)<((10^C.num.natAbs:Nat):Rat):=by exact_mod_cast h1
 have nd:=zb0 C;have hd:(1:Rat)<=(C.den:Rat):=by exact_mod_cast C.den_pos
 have h3:((C.num:Int):Rat)<=((C.num.natAbs:Nat):Rat):=by
  have:C.num<=((C.num.natAbs:Nat):Int):=by omega
  exact_mod_cast this
 have h4:(0:Rat)<=((C.num.natAbs:Nat):Rat):=by exact_mod_cast zR _
 have:=z64 hd h4 (x:=C) (by rw[<-nd];exact h3);grind
theorem z87 {l l':List (Rat×Nat)} (h:∀t∈l,t.1≠0) (h':∀t∈l',t.1≠0) {p p':Nat} (hp:0<valZ l p) (hn:valZ l' p'+l'.length<=0) {C c:Rat} (hc:0<=c) (hC:∀q,vZ l q<=C+c*vZ l' q):False:=by
 obtain⟨q,hq⟩:=yam ((C+(l.length:Rat))*((10^p:Nat):Rat));have h1:=z7y p q l h;have h2:=z7y q p' l' h';have P0:(0:Int)<((10^p':Nat):Int):=by exact_mod_cast yS (by simp)
 have Q0:(0:Int)<=((10^q:Nat):Int):=Int.natCast_nonneg _;have h3:valZ l' q<=0:=by
  rcases(show valZ l' q<=0\/0<valZ l' q by omega) with k|k
  ·exact k
  ·have a:=Int.mul_pos k P0
   have b:=Int.mul_le_mul_of_nonneg_right hn Q0;omega
 have h4:vZ l' q<=0:=by
  unfold vZ;exact_mod_cast h3
 have h5:=hC q;have h6:vZ l q<=C:=by
  have:=Rat.mul_le_mul_of_nonneg_left h4 hc;grind
 have h7:((10^q:Nat):Rat)<=(vZ l q+(l.length:Rat))*((10^p:Nat):Rat):=by
  have a:=Int.mul_le_mul_of_nonneg_right (show 1<=valZ l p by omega) Q0;rw[Int.one_mul] at a;have b:((10^q:Nat):Int)<=(valZ l q+(l.length:Int))*((10^p:Nat):Int):=by omega
  have c:((((10^q:Nat):Int)):Rat)<=(((valZ l q+(l.length:Int))*((10^p:Nat):Int):Int):Rat):=by exact_mod_cast b
  rw[Rat.intCast_mul,Rat.intCast_add] at c;exact c
 have P1:(0:Rat)<=((10^p:Nat):Rat):=by exact_mod_cast zR _
 have h8:=Rat.mul_le_mul_of_nonneg_right (show vZ l q+(l.length:Rat)<=C+(l.length:Rat) by grind) P1;grind
theorem z99 {l l':List (Rat×Nat)} (h:∀t∈l,t.1≠0) (h':∀t∈l',t.1≠0) (hl:l≠[]) (hl':l'≠[]) {k:Rat} (hk:0<k) (hb:Bd λq=>vZ l' q-k*vZ l q) (e:sgeL l=0) (e':sgeL l'=0):sgnL l'=sgnL l:=by
 obtain⟨K,hK⟩:=hb;dsimp only at hK;have s1:sgnL l=sgnP l.length λk=>valZ l (plN k):=if_neg hl;have s2:sgnL l'=sgnP l'.length λk=>valZ l' (plN k):=if_neg hl';have n1:sgnL l≠0:=λz=>by
  rw[show sgeL l=errP (sgnL l) from if_neg hl,z] at e;cases e
 have n2:sgnL l'≠0:=λz=>by
  rw[show sgeL l'=errP (sgnL l') from if_neg hl',z] at e';cases e'
 rw[s1] at n1⊢;rw[s2] at n2⊢;have ki:0<1/k:=div_pos (by decide) hk;have kk:1/k*k=1:=by grind
 rcases zu6 l.length λk=>valZ l (plN k) with⟨a,p,hp⟩|⟨a,p,hp⟩|a
 ·rcases zu6 l'.length λk=>valZ l' (plN k) with⟨b,p',hp'⟩|⟨b,p',hp'⟩|b
  ·rw[a,b]
  ·refine(z87 h h' hp hp' (C:=1/k*K) (c:=1/k) (Rat.le_of_lt ki) λq=>?_).elim
   have h1:=Rat.mul_le_mul_of_nonneg_left (show k*vZ l q<=K+vZ l' q by have:=(hK q).1;grind) (Rat.le_of_lt ki);rw[<-Rat.mul_assoc,kk,Rat.one_mul] at h1;grind
  ·exact(n2 b).elim
 ·rcases zu6 l'.length λk=>valZ l' (plN k) with⟨b,p',hp'⟩|⟨b,p',hp'⟩|b
  ·exact(z87 h' h hp' hp (C:=K) (c:=k) (Rat.le_of_lt hk) λq=>by have:=(hK q).2;grind).elim
  ·rw[a,b]
  ·exact(n2 b).elim
 ·exact(n1 a).elim
end
section
open Go.RowKit Go.Shelf Lib Str Limb Geo
attribute [local go_sem] Oper.semAt_some
end
section
open Go.RowKit Go.Shelf Lib Str Limb
attribute [local go_sem] Oper.semAt_some
def h12 (X Y Z:Nat->List UInt8) (D:Nat->Value):Array Value:= #[St (X 0),St (Y 0),St (Z 0),D 0,St (X 1),St (Y 1),St (Z 1),D 1,St (X 2),St (Y 2),St (Z 2),D 2]
theorem zh8 (v:Array Value) (w:zA) (h:∃a b c d e f g h i j k l,v= #[a,b,c,d,e,f,g,h,i,j,k,l]):
 zC zF 80 #[.agg v] w λe w'=>e=.returned (.func (.func 133) #[] #[.pointer (some ⟨w.heap.size,0,none⟩)])/\w.alloc (.cells v 127)=w':=by
 obtain⟨a,b,c,d,e,f,g,h,i,j,k,l,rfl⟩:=h;go_enter Tryz.func80,Tryz.ntmps80;go_wp2;go_ret;exact⟨rfl,rfl⟩
theorem zfr {W:zA} {Bs:Nat} {t:TypeId} {X Y Z:Nat->List UInt8} {D:Nat->Value} (h:W.heap[Bs]? =some (.cells (h12 X Y Z D) t (0,0))) (j:Nat) (hj:j<3):
 W.cell? ⟨Bs,j*4,none⟩=some (St (X j))/\W.cell? ⟨Bs,j*4+1,none⟩=some (St (Y j))/\W.cell? ⟨Bs,j*4+2,none⟩=some (St (Z j))/\W.cell? ⟨Bs,j*4+3,none⟩=some (D j):=by
 refine⟨?_,?_,?_,?_⟩<;>(rw[zJ h];match j,hj with|0,_|1,_|2,_=>rfl)
def twoH (X Y Z:Nat->List UInt8) (D:Nat->Value) (i j:Nat):Value:=.agg #[St (X i),St (Y i),St (Z i),D i,St (X j),St (Y j),St (Z j),D j]
theorem zom (n:Nat) (hn:1<=n) (Bs:Nat) (X Y Z:Nat->List UInt8) (D:Nat->Value) (hD:∀i,∃q m c,D i=.slice q m c) (t:TypeId) (Rd:zA->Prop) (hRd:∀W,Rd W->W.heap[Bs]? =some (.cells (h12 X Y Z D) t (0,0))):
 IterC Fence.wide n zF 133 #[.pointer (some ⟨Bs,0,none⟩)] Rd (λk args=>args= #[I k,twoH X Y Z D ((k+1)%3) ((k+2)%3)]) 3:=by
 intro lp J Jx W hJr hJb hY h0;refine callsIn_of_wp Tryz.func133 rfl trivial ?_ rfl;simp only[Tryz.ntmps133,List.size_toArray,List.length_cons,List.length_nil,Nat.reduceAdd,Nat.reduceSub,Array.replicate_succ,Array.replicate_zero,List.push_toArray,List.append_toArray,List.nil_append,List.cons_append];have HRd:=hid λk W h=>hRd W (hJr k W h);clear hRd hJr;have HY:=hid hY;clear hY;have HJB:=hid hJb;clear hJb;gi_wp2;gi_loopw [4] (λi wr=>∃(k:Nat),k<=3/\i=.int .i64 (k:Int)/\Hid (J k wr))
  (λi _=>3-(zL i).toNat)
 case atStart=>exact⟨0,zR _,rfl,h0⟩
 case round=>
  obtain⟨k,hk,rfl,hJ⟩:=hrel;by_cases hlt:k<3
  ·have HC:=HRd.out k wr hJ.out
   have hk1:(k+1)%3<3:=Nat.mod_lt _ (by omega);have hk2:(k+2)%3<3:=Nat.mod_lt _ (by omega);obtain⟨c0,c1',c2',c3⟩:=zfr HC _ hk1;obtain⟨d0,d1,d2,d3⟩:=zfr HC _ hk2;have HY1:=hid λW h=>HY.out k #[I k,twoH X Y Z D ((k+1)%3) ((k+2)%3)] W h hlt rfl;unfold twoH at HY1;have hm1:Int.tmod ((k:Int)+1) 3=((k+1)%3:Nat):=by
    rw[show((k:Int)+1)=((k+1:Nat):Int) by omega];rfl
   have hm2:Int.tmod ((k:Int)+2) 3=((k+2)%3:Nat):=by
    rw[show((k:Int)+2)=((k+2:Nat):Int) by omega];rfl
   clear HY HRd HC;generalize (k+1)%3=j1 at*
   generalize (k+2)%3=j2 at*
   obtain⟨p1,m1,c1,e1⟩:=hD j1;obtain⟨p2,m2,c2,e2⟩:=hD j2;rw[e1] at c3 HY1;rw[e2] at d3 HY1;generalize X j1=x1 at*
   generalize Y j1=y1 at*
   generalize Z j1=z1 at*
   generalize X j2=x2 at*
   generalize Y j2=y2 at*
   generalize Z j2=z2 at*
   clear hD e1 e2;have hw1:IntKind.i64.wrap ((k:Int)+1)=(k:Int)+1:=zI _ ⟨by omega,by omega⟩;have hw2:IntKind.i64.wrap ((k:Int)+2)=(k:Int)+2:=zI _ ⟨by omega,by omega⟩;have hw3:IntKind.i64.wrap (j1:Int)=(j1:Int):=zI _ ⟨by omega,by omega⟩;have hw4:IntKind.i64.wrap (j2:Int)=(j2:Int):=zI _ ⟨by omega,by omega⟩;have hJ4:=HJB.out k wr wr.drew hJ.out (zM _ wr).drew;obtain⟨fn,tmps,assign,body,hy,hR⟩:=HY1.out wr.drew hJ4;clear HY1;gi_wp2;refine zgw (λ_=>trivial) rfl (λ(g:Bool) i=>([.func (.yield lp) #[] #[],.int .i64 (k:Int),.int .i64 (k:Int),.int .i64 ((k:Int)+1),.int .i64 (j1:Int),.pointer (some ⟨Bs,j1*4,none⟩),.agg #[St x1,St y1,St z1,.slice p1 m1 c1],.int .i64 (k:Int),.int .i64 ((k:Int)+2),.int .i64 (j2:Int),.pointer (some ⟨Bs,j2*4,none⟩),.agg #[St x2,St y2,St z2,.slice p2 m2 c2],.agg #[St x1,St y1,St z1,.slice p1 m1 c1,St x2,St y2,St z2,.slice p2 m2 c2],.bool g,.bool !g]:List Value).getD i undef)
    (λg f W'=>(f 13=false->W'=wr.drew)/\(f 13=true->(g=true/\J (k+1) W')\/(g=false/\Jx W'))) (by kernel_rfl) (by kernel_rfl) true ⟨λ_=>rfl,λh=>by cases h⟩ λg=>?_
   refine za4 (.func (.yield lp) #[] #[]) (by rfl) (by rfl) (λf W' h=>⟨h.1,h.2⟩) (λf W' hf h=>by
    obtain rfl:=h.1 (hf.no (j:=13) hf.self (by kernel_rfl));go_simp) ?_
   try simp only[zzQ]
   refine za4 (.int .i64 (k:Int)) (by rfl) (by rfl) (λf W' h=>⟨h.1,h.2⟩) (λf W' hf h=>by
    obtain rfl:=h.1 (hf.no (j:=13) hf.self (by kernel_rfl));go_simp) ?_
   try simp only[zzQ]
   refine za4 (.int .i64 (k:Int)) (by rfl) (by rfl) (λf W' h=>⟨h.1,h.2⟩) (λf W' hf h=>by
    obtain rfl:=h.1 (hf.no (j:=13) (hf.no (j:=12) (hf.no (j:=6) (hf.no (j:=5) (hf.no (j:=4) (hf.no (j:=3) hf.self (by kernel_rfl)) (by kernel_rfl)) (by kernel_rfl)) (by kernel_rfl)) (by kernel_rfl)) (by kernel_rfl));go_simp) ?_
   try simp only[zzQ]
   refine za4 (.int .i64 ((k:Int)+1)) (by rfl) (by rfl) (λf W' h=>⟨h.1,h.2⟩) (λf W' hf h=>by
    obtain rfl:=h.1 (hf.no (j:=13) (hf.no (j:=12) (hf.no (j:=6) (hf.no (j:=5) (hf.no (j:=4) hf.self (by kernel_rfl)) (by kernel_rfl)) (by kernel_rfl)) (by kernel_rfl)) (by kernel_rfl));go_simp) ?_
   try simp only[zzQ]
   refine za4 (.int .i64 (j1:Int)) (by rfl) (by rfl) (λf W' h=>⟨h.1,h.2⟩) (λf W' hf h=>by
    obtain rfl:=h.1 (hf.no (j:=13) (hf.no (j:=12) (hf.no (j:=6) (hf.no (j:=5) hf.self (by kernel_rfl)) (by kernel_rfl)) (by kernel_rfl)) (by kernel_rfl));go_simp) ?_
   try simp only[zzQ]
   refine za4 (.pointer (some ⟨Bs,j1*4,none⟩)) (by rfl) (by rfl) (λf W' h=>⟨h.1,h.2⟩) (λf W' hf h=>by
    obtain rfl:=h.1 (hf.no (j:=13) (hf.no (j:=12) (hf.no (j:=6) hf.self (by kernel_rfl)) (by kernel_rfl)) (by kernel_rfl));go_simp;intro h;omega) ?_
   try simp only[zzQ]
   refine za4 (.agg #[St x1,St y1,St z1,.slice p1 m1 c1]) (by rfl) (by rfl) (λf W' h=>⟨h.1,h.2⟩) (λf W' hf h=>by
    obtain rfl:=h.1 (hf.no (j:=13) (hf.no (j:=12) hf.self (by kernel_rfl)) (by kernel_rfl));have c0:wr.drew.cell? _=_:=c0;have c1':wr.drew.cell? _=_:=c1';have c2':wr.drew.cell? _=_:=c2';have c3:wr.drew.cell? _=_:=c3;go_simp) ?_
   try simp only[zzQ]
   refine za4 (.int .i64 (k:Int)) (by rfl) (by rfl) (λf W' h=>⟨h.1,h.2⟩) (λf W' hf h=>by
    obtain rfl:=h.1 (hf.no (j:=13) (hf.no (j:=12) (hf.no (j:=11) (hf.no (j:=10) (hf.no (j:=9) (hf.no (j:=8) hf.self (by kernel_rfl)) (by kernel_rfl)) (by kernel_rfl)) (by kernel_rfl)) (by kernel_rfl)) (by kernel_rfl));go_simp) ?_
   try simp only[zzQ]
   refine za4 (.int .i64 ((k:Int)+2)) (by rfl) (by rfl) (λf W' h=>⟨h.1,h.2⟩) (λf W' hf h=>by
    obtain rfl:=h.1 (hf.no (j:=13) (hf.no (j:=12) (hf.no (j:=11) (hf.no (j:=10) (hf.no (j:=9) hf.self (by kernel_rfl)) (by kernel_rfl)) (by kernel_rfl)) (by kernel_rfl)) (by kernel_rfl));go_simp) ?_
   try simp only[zzQ]
   refine za4 (.int .i64 (j2:Int)) (by rfl) (by rfl) (λf W' h=>⟨h.1,h.2⟩) (λf W' hf h=>by
    obtain rfl:=h.1 (hf.no (j:=13) (hf.no (j:=12) (hf.no (j:=11) (hf.no (j:=10) hf.self (by kernel_rfl)) (by kernel_rfl)) (by kernel_rfl)) (by kernel_rfl));go_simp) ?_
   try simp only[zzQ]
   refine za4 (.pointer (some ⟨Bs,j2*4,none⟩)) (by rfl) (by rfl) (λf W' h=>⟨h.1,h.2⟩) (λf W' hf h=>by
    obtain rfl:=h.1 (hf.no (j:=13) (hf.no (j:=12) (hf.no (j:=11) hf.self (by kernel_rfl)) (by kernel_rfl)) (by kernel_rfl));go_simp;intro h;omega) ?_
   try simp only[zzQ]
   refine za4 (.agg #[St x2,St y2,St z2,.slice p2 m2 c2]) (by rfl) (by rfl) (λf W' h=>⟨h.1,h.2⟩) (λf W' hf h=>by
    obtain rfl:=h.1 (hf.no (j:=13) (hf.no (j:=12) hf.self (by kernel_rfl)) (by kernel_rfl));have d0:wr.drew.cell? _=_:=d0;have d1:wr.drew.cell? _=_:=d1;have d2:wr.drew.cell? _=_:=d2;have d3:wr.drew.cell? _=_:=d3;go_simp) ?_
   try simp only[zzQ]
   refine za4 (.agg #[St x1,St y1,St z1,.slice p1 m1 c1,St x2,St y2,St z2,.slice p2 m2 c2]) (by rfl) (by rfl) (λf W' h=>⟨h.1,h.2⟩) (λf W' hf h=>by
    obtain rfl:=h.1 (hf.no (j:=13) hf.self (by kernel_rfl));go_simp) ?_
   try simp only[zzQ]
   refine zqj (.bool g) (by rfl) (by rfl) (λf W' hf h C' hC'=>by
    obtain rfl:=h.1 hf.self;go_simp;refine⟨λ_=>by omega,hR.mono ?_⟩;rintro e W3 (⟨rfl,hJ3⟩|⟨rfl,hJx3⟩)
    ·refine⟨_,rfl,hC' true W3 (λi hi=>?_) ⟨λh=>(by cases h),λ_=>.inl ⟨rfl,hJ3⟩⟩⟩
     match i,hi with
     |0,_|1,_|2,_|3,_|4,_|5,_|6,_|7,_|8,_|9,_|10,_|11,_|12,_=>rfl
     |13,hi=>rw[hf.self] at hi;cases hi
     |14,hi=>rw[hf.no (j:=14) hf.self (by kernel_rfl)] at hi;cases hi
     |_+15,_=>rfl
    ·refine⟨_,rfl,hC' false W3 (λi hi=>?_) ⟨λh=>(by cases h),λ_=>.inr ⟨rfl,hJx3⟩⟩⟩
     match i,hi with
     |0,_|1,_|2,_|3,_|4,_|5,_|6,_|7,_|8,_|9,_|10,_|11,_|12,_=>rfl
     |13,hi=>rw[hf.self] at hi;cases hi
     |14,hi=>rw[hf.no (j:=14) hf.self (by kernel_rfl)] at hi;cases hi
     |_+15,_=>rfl) ?_
   try simp only[zzQ]
   refine za4 (.bool !g) (by rfl) (by rfl) (λf W' h=>⟨h.1,h.2⟩) (λf W' hf h=>by go_simp) ?_
   try simp only[zzQ]
   refine zqi λf W5 hf h=>?_;rcases h.2 (hf 13 (by decide)) with⟨rfl,hJ5⟩|⟨rfl,hJx5⟩
   ·have HJ5:=hid hJ5;clear hJ5 hf h
    gi_wp2;go_roundw
    case rel=>exact⟨k+1,by omega,by go_num,HJ5.out⟩
    case measure=>simp[zL];omega
   ·have HJx5:=hid hJx5;clear hJx5 hf h
    gi_wp2;refine bodyPost_ret (results_none rfl _ _ _) rfl ?_;exact⟨⟨_,rfl⟩,.inr HJx5.out⟩
  ·obtain rfl:k=3:=by omega
   gi_wp2;go_end0;exact⟨⟨_,rfl⟩,.inl hJ.out⟩
end
end Go.Proofs.YtgeapfaiacoajaaGreatDoor
