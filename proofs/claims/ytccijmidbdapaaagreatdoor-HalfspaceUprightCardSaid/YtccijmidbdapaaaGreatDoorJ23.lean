/- halfspace.Upright. -/
import Derived.Test.YtccijmidbdapaaaGreatDoorJ21
import Derived.Test.YtccijmidbdapaaaGreatDoorJ22
set_option maxRecDepth 100000
set_option maxHeartbeats 8000000
open Go renaming World → zA, Calls → zC
open Go.RowKit renaming Below → zB
open Go.Proofs.Tryz renaming prog → zF
open Go.World renaming alloc_heap_new → zG, size_alloc → zH
open Go.Joins renaming cell_of_block → zJ
open Go.RowKit.Below renaming refl → zM, heap_setCell → yE
open Nat renaming le_refl → zN
namespace Go.Proofs.YtccijmidbdapaaaGreatDoor
section
open Go.RowKit Go.Shelf Lib Str Limb
attribute [local go_sem] Oper.semAt_some
structure UpS (w:zA) (a0 a1 b0 b1:List UInt8) (W:zA):Prop where
 bel:qL w W
 h0:W.heap[w.heap.size]? =some (.cells #[St a0,St a1] 26 (0,0))
 h1:W.heap[w.heap.size+1]? =some (.cells #[St b0,St b1] 26 (0,0))
 h2:W.heap[w.heap.size+1+1]? =some (.cells zc1 45 (0,0))
theorem UpS.next {w W W':zA} {a0 a1 b0 b1:List UInt8} (h:UpS w a0 a1 b0 b1 W) (hb:qL W W'):UpS w a0 a1 b0 b1 W':=
 have hc:=zac hb
 ⟨h.bel.trans (hb.mono h.bel.size),hc _ _ _ _ h.h0,hc _ _ _ _ h.h1,hc _ _ _ _ h.h2⟩
theorem UpS.cells {w W:zA} {a0 a1 b0 b1:List UInt8} (h:UpS w a0 a1 b0 b1 W):W.cell? ⟨w.heap.size,0,none⟩=some (St a0)/\W.cell? ⟨w.heap.size,1,none⟩=some (St a1)/\W.cell? ⟨w.heap.size+1,0,none⟩=some (St b0)/\W.cell? ⟨w.heap.size+1,1,none⟩=some (St b1):=
 ⟨by rw[zJ h.h0];rfl,by rw[zJ h.h0];rfl,by rw[zJ h.h1];rfl,by rw[zJ h.h1];rfl⟩
theorem zl0 {W:zA} {A:Nat} {t:TypeId} (h:W.heap[A]? =some (.cells zc1 t (0,0))):W.cell? ⟨A,0,none⟩=some (St [])/\W.cell? ⟨A,1,none⟩=some (St [])/\W.cell? ⟨A,2,none⟩=some (St [])/\W.cell? ⟨A,3,none⟩=some (.slice none 0 0)/\(∀i,W.frozen? ⟨A,i,none⟩=false):=
 ⟨by rw[zJ h];rfl,by rw[zJ h];rfl,by rw[zJ h];rfl,by rw[zJ h];rfl,λi=>Go.Joins.unfrozen_of_block h i⟩
theorem zpq (w v1:zA) (a0 a1 b0 b1:List UInt8) (hv:v1=(((w.alloc (.cells #[St a0,St a1] 26)).alloc (.cells #[St b0,St b1] 26)).alloc (.cells zc1 45)).alloc (.cells #[St a0,St a1,St b0,St b1] 22)):
 UpS w a0 a1 b0 b1 v1/\v1.heap[w.heap.size+1+1+1]? =some (.cells #[St a0,St a1,St b0,St b1] 22 (0,0)):=by
 obtain⟨x1,hx1⟩:∃x,x=w.alloc (.cells #[St a0,St a1] 26):=⟨_,rfl⟩
 obtain⟨x2,hx2⟩:∃x,x=x1.alloc (.cells #[St b0,St b1] 26):=⟨_,rfl⟩
 obtain⟨x3,hx3⟩:∃x,x=x2.alloc (.cells zc1 45):=⟨_,rfl⟩
 have hv4:v1=x3.alloc (.cells #[St a0,St a1,St b0,St b1] 22):=by rw[hv,hx3,hx2,hx1]
 have s1:x1.heap.size=w.heap.size+1:=by rw[hx1,zH]
 have s2:x2.heap.size=w.heap.size+1+1:=by rw[hx2,zH,s1]
 have s3:x3.heap.size=w.heap.size+1+1+1:=by rw[hx3,zH,s2]
 have q1:qL w x1:=by rw[hx1];exact(zM _ w).alloc (zN _) _
 have q2:qL x1 x2:=by rw[hx2];exact(zM _ x1).alloc (zN _) _
 have q3:qL x2 x3:=by rw[hx3];exact(zM _ x2).alloc (zN _) _
 have q4:qL x3 v1:=by rw[hv4];exact(zM _ x3).alloc (zN _) _
 have q34:=q3.trans (q4.mono q3.size)
 have q24:=q2.trans (q34.mono q2.size)
 have f1:x1.heap[w.heap.size]? =some (.cells #[St a0,St a1] 26 (0,0)):=by rw[hx1];exact zG w _
 have f2:x2.heap[w.heap.size+1]? =some (.cells #[St b0,St b1] 26 (0,0)):=by rw[hx2,<-s1];exact zG x1 _
 have f3:x3.heap[w.heap.size+1+1]? =some (.cells zc1 45 (0,0)):=by rw[hx3,<-s2];exact zG x2 _
 exact⟨⟨q1.trans (q24.mono q1.size),zac q24 _ _ _ _ f1,zac q34 _ _ _ _ f2,zac q4 _ _ _ _ f3⟩,by rw[hv4,<-s3];exact zG x3 _⟩
theorem zmz (a0 a1 b0 b1 x y p q s a2 b2 c2:List UInt8) (left:Bool) (g:FuncId) (eg:∀args w,(callFunc g args).run zF w=.ok (.enter g args) w) (l l2:List (Rat×Nat)) (hne:a0≠b0\/a0=b0/\a1≠b1) (w:zA)
 (FI:Hid (∀W:zA,qL w W->∀A,W.heap[A]? =some (.cells #[St a0,St a1,St b0,St b1] 22 (0,0))->qJ 36 #[.slice (some ⟨A,0,none⟩) 4 4] W (.int .i64 0)))
 (SX:Hid (∀W:zA,qL w W->qJ 14 #[St b1,St a1] W (.tuple #[St x,.int .i64 0])))
 (SY:Hid (∀W:zA,qL w W->qJ 14 #[St a0,St b0] W (.tuple #[St y,.int .i64 0])))
 (MP:Hid (∀W:zA,qL w W->qJ 7 #[St x,St a0] W (.tuple #[St p,.int .i64 0])))
 (MQ:Hid (∀W:zA,qL w W->qJ 7 #[St y,St a1] W (.tuple #[St q,.int .i64 0])))
 (AD:Hid (∀W:zA,qL w W->qJ 45 #[St p,St q] W (.tuple #[St s,.int .i64 0])))
 (NU:Hid (∀W:zA,qL w W->zC zF 35 #[St s] W λe w'=>∃v,e=.returned (.tuple #[v,.int .i64 0])/\zB W.heap.size W w'/\SdL v l w'))
 (CH:Hid (∀W:zA,zC zF 37 #[.bool left] W λe w'=>e=.returned (.func (.func g) #[] #[])/\w'=W))
 (GO:Hid (∀(W:zA) (p:Option Addr) (n k:Nat),qL w W->SdL (.slice p n k) l W->zC zF g #[.agg #[St x,St y,.string ⟨#[48]⟩,.slice p n k]] W λe w'=>∃v,e=.returned (.tuple #[.agg #[St a2,St b2,St c2,v],.int .i64 0])/\zB W.heap.size W w'/\SdL v l2 w')):
 zC zF 13 #[.agg #[St a0,St a1],.agg #[St b0,St b1],.bool left] w λe w'=>∃v,e=.returned (.tuple #[.agg #[St a2,St b2,St c2,v],.int .i64 0])/\zB w.heap.size w w'/\SdL v l2 w':=by
 have EG:=hid eg;clear eg
 have HNE:=hid hne;clear hne
 obtain⟨v1,hv⟩:∃v1,v1=(((w.alloc (.cells #[St a0,St a1] 26)).alloc (.cells #[St b0,St b1] 26)).alloc (.cells zc1 45)).alloc (.cells #[St a0,St a1,St b0,St b1] 22):=⟨_,rfl⟩
 obtain⟨hs,hq⟩:=zpq w v1 a0 a1 b0 b1 hv
 have HF:=hid (FI.out v1 hs.bel _ hq)
 have HS0:=hid hs
 have HV:=hid hv.symm
 clear hv hs hq FI
 go_enter Tryz.func13,Tryz.ntmps13
 go_wp2_with fail
 have h9:=HV.out
 rw[show(((w.alloc (.cells #[.string ⟨a0.toArray⟩,.string ⟨a1.toArray⟩] 26)).alloc (.cells #[.string ⟨b0.toArray⟩,.string ⟨b1.toArray⟩] 26)).alloc (.cells #[.string ⟨#[]⟩,.string ⟨#[]⟩,.string ⟨#[]⟩,.slice none 0 0] 45)).alloc (.cells #[.string ⟨a0.toArray⟩,.string ⟨a1.toArray⟩,.string ⟨b0.toArray⟩,.string ⟨b1.toArray⟩] 22)=v1 from h9]
 clear h9 HV
 refine HF.out.mono ?_
 rintro e r0 ⟨rfl,hb⟩
 have HS1:=hid (HS0.out.next hb)
 clear hb HS0 HF
 obtain⟨c0,c1,d0,d1⟩:=HS1.out.cells
 go_wp2_with fail
 clear c0 c1 d0 d1
 refine(SX.out r0 HS1.out.bel).mono ?_
 rintro e r1 ⟨rfl,hb⟩
 have HS2:=hid (HS1.out.next hb)
 clear hb HS1
 obtain⟨c0,c1,d0,d1⟩:=HS2.out.cells
 go_wp2_with fail
 clear c0 c1 d0 d1
 refine(SY.out r1 HS2.out.bel).mono ?_
 rintro e r2 ⟨rfl,hb⟩
 have HS3:=hid (HS2.out.next hb)
 clear hb HS2
 rcases HNE.out with hne|⟨he,hne⟩
 ·obtain⟨c0,c1,d0,d1⟩:=HS3.out.cells
  go_wp2_with fail
  clear c0 c1 d0 d1
  refine(MP.out r2 HS3.out.bel).mono ?_
  rintro e r3 ⟨rfl,hb⟩
  have HS4:=hid (HS3.out.next hb)
  clear hb HS3
  obtain⟨c0,c1,d0,d1⟩:=HS4.out.cells
  go_wp2_with fail
  clear c0 c1 d0 d1
  refine(MQ.out r3 HS4.out.bel).mono ?_
  rintro e r4 ⟨rfl,hb⟩
  have HS5:=hid (HS4.out.next hb)
  clear hb HS4
  go_wp2_with fail
  refine(AD.out r4 HS5.out.bel).mono ?_
  rintro e r5 ⟨rfl,hb⟩
  have HS6:=hid (HS5.out.next hb)
  clear hb HS5
  go_wp2_with fail
  refine(NU.out r5 HS6.out.bel).mono ?_
  rintro e r6 ⟨v,rfl,hb,hs⟩
  obtain⟨vp,vn,vk,rfl⟩:=hs.any
  have HS7:=hid (HS6.out.next hb)
  have HG:=hid (GO.out r6 vp vn vk HS7.out.bel hs)
  clear hb hs HS6
  go_wp2_with fail
  refine(CH.out r6).mono ?_
  rintro e r7 ⟨rfl,rfl⟩
  have heg:=EG.out
  go_wp2_with fail
  clear heg
  refine HG.out.mono ?_
  rintro e r8 ⟨u,rfl,hb,hs⟩
  obtain⟨up,un,uk,rfl⟩:=hs.any
  have hn:=HS7.out.next hb
  obtain⟨d0,d1,d2,d3,dz⟩:=zl0 hn.h2
  have z0:=dz 0;have z1:=dz 1;have z2:=dz 2;have z3:=dz 3
  have HF:=hid hn;have HS:=hid hs
  have HNO:=hid (zk8 hn.h2)
  clear dz hn hb hs HG HS7 HNE
  go_wp2_with fail
  obtain⟨W9,hW9⟩:∃W,W=((((r8.setCell ⟨w.heap.size+1+1,0,none⟩ (St a2)).setCell ⟨w.heap.size+1+1,1,none⟩ (St b2)).setCell ⟨w.heap.size+1+1,2,none⟩ (St c2)).setCell ⟨w.heap.size+1+1,3,none⟩ (.slice up un uk)):=⟨_,rfl⟩
  have hne:∀b,b≠w.heap.size+1+1->W9.heap[b]? =r8.heap[b]? :=λb hb=>by
   rw[hW9,yE _ _ _ _ (by exact hb),yE _ _ _ _ (by exact hb),yE _ _ _ _ (by exact hb),yE _ _ _ _ (by exact hb)]
  have hsd:=HS.out.other hne (by rw[hW9];simp[World.setCell]) HNO.out
  have hbel:qL w W9:=by
   rw[hW9]
   exact(((HF.out.bel.setCell (p:=⟨w.heap.size+1+1,0,none⟩) (by show _<=w.heap.size+1+1;omega) _).setCell (p:=⟨w.heap.size+1+1,1,none⟩) (by show _<=w.heap.size+1+1;omega) _).setCell (p:=⟨w.heap.size+1+1,2,none⟩) (by show _<=w.heap.size+1+1;omega) _).setCell (p:=⟨w.heap.size+1+1,3,none⟩) (by show _<=w.heap.size+1+1;omega) _
  refine bodyPost_ret (v:=.tuple #[.agg #[St a2,St b2,St c2,.slice up un uk],.int .i64 0]) (by simp[results,Tryz.results13,go_sem,d0,d1,d2,d3]) rfl ⟨_,rfl,?_,?_⟩
  ·rw[<-hW9];exact hbel
  ·rw[<-hW9];exact hsd
 ·subst he
  obtain⟨c0,c1,d0,d1⟩:=HS3.out.cells
  go_wp2_with fail
  clear c0 c1 d0 d1
  refine(MP.out r2 HS3.out.bel).mono ?_
  rintro e r3 ⟨rfl,hb⟩
  have HS4:=hid (HS3.out.next hb)
  clear hb HS3
  obtain⟨c0,c1,d0,d1⟩:=HS4.out.cells
  go_wp2_with fail
  clear c0 c1 d0 d1
  refine(MQ.out r3 HS4.out.bel).mono ?_
  rintro e r4 ⟨rfl,hb⟩
  have HS5:=hid (HS4.out.next hb)
  clear hb HS4
  go_wp2_with fail
  refine(AD.out r4 HS5.out.bel).mono ?_
  rintro e r5 ⟨rfl,hb⟩
  have HS6:=hid (HS5.out.next hb)
  clear hb HS5
  go_wp2_with fail
  refine(NU.out r5 HS6.out.bel).mono ?_
  rintro e r6 ⟨v,rfl,hb,hs⟩
  obtain⟨vp,vn,vk,rfl⟩:=hs.any
  have HS7:=hid (HS6.out.next hb)
  have HG:=hid (GO.out r6 vp vn vk HS7.out.bel hs)
  clear hb hs HS6
  go_wp2_with fail
  refine(CH.out r6).mono ?_
  rintro e r7 ⟨rfl,rfl⟩
  have heg:=EG.out
  go_wp2_with fail
  clear heg
  refine HG.out.mono ?_
  rintro e r8 ⟨u,rfl,hb,hs⟩
  obtain⟨up,un,uk,rfl⟩:=hs.any
  have hn:=HS7.out.next hb
  obtain⟨d0,d1,d2,d3,dz⟩:=zl0 hn.h2
  have z0:=dz 0;have z1:=dz 1;have z2:=dz 2;have z3:=dz 3
  have HF:=hid hn;have HS:=hid hs
  have HNO:=hid (zk8 hn.h2)
  clear dz hn hb hs HG HS7 HNE
  go_wp2_with fail
  obtain⟨W9,hW9⟩:∃W,W=((((r8.setCell ⟨w.heap.size+1+1,0,none⟩ (St a2)).setCell ⟨w.heap.size+1+1,1,none⟩ (St b2)).setCell ⟨w.heap.size+1+1,2,none⟩ (St c2)).setCell ⟨w.heap.size+1+1,3,none⟩ (.slice up un uk)):=⟨_,rfl⟩
  have hne:∀b,b≠w.heap.size+1+1->W9.heap[b]? =r8.heap[b]? :=λb hb=>by
   rw[hW9,yE _ _ _ _ (by exact hb),yE _ _ _ _ (by exact hb),yE _ _ _ _ (by exact hb),yE _ _ _ _ (by exact hb)]
  have hsd:=HS.out.other hne (by rw[hW9];simp[World.setCell]) HNO.out
  have hbel:qL w W9:=by
   rw[hW9]
   exact(((HF.out.bel.setCell (p:=⟨w.heap.size+1+1,0,none⟩) (by show _<=w.heap.size+1+1;omega) _).setCell (p:=⟨w.heap.size+1+1,1,none⟩) (by show _<=w.heap.size+1+1;omega) _).setCell (p:=⟨w.heap.size+1+1,2,none⟩) (by show _<=w.heap.size+1+1;omega) _).setCell (p:=⟨w.heap.size+1+1,3,none⟩) (by show _<=w.heap.size+1+1;omega) _
  refine bodyPost_ret (v:=.tuple #[.agg #[St a2,St b2,St c2,.slice up un uk],.int .i64 0]) (by simp[results,Tryz.results13,go_sem,d0,d1,d2,d3]) rfl ⟨_,rfl,?_,?_⟩
  ·rw[<-hW9];exact hbel
  ·rw[<-hW9];exact hsd
theorem znu (a0 a1 b0 b1 x y:List UInt8) (left:Bool) (h0:a0=b0) (h1:a1=b1) (w:zA)
 (FI:Hid (∀W:zA,qL w W->∀A,W.heap[A]? =some (.cells #[St a0,St a1,St b0,St b1] 22 (0,0))->qJ 36 #[.slice (some ⟨A,0,none⟩) 4 4] W (.int .i64 0)))
 (SX:Hid (∀W:zA,qL w W->qJ 14 #[St b1,St a1] W (.tuple #[St x,.int .i64 0])))
 (SY:Hid (∀W:zA,qL w W->qJ 14 #[St a0,St b0] W (.tuple #[St y,.int .i64 0]))):
 qJ 13 #[.agg #[St a0,St a1],.agg #[St b0,St b1],.bool left] w (.tuple #[.agg #[St [],St [],St [],.slice none 0 0],.int .i64 12]):=by
 subst h0;subst h1
 obtain⟨v1,hv⟩:∃v1,v1=(((w.alloc (.cells #[St a0,St a1] 26)).alloc (.cells #[St a0,St a1] 26)).alloc (.cells zc1 45)).alloc (.cells #[St a0,St a1,St a0,St a1] 22):=⟨_,rfl⟩
 obtain⟨hs,hq⟩:=zpq w v1 a0 a1 a0 a1 hv
 have HF:=hid (FI.out v1 hs.bel _ hq)
 have HS0:=hid hs
 have HV:=hid hv.symm
 clear hv hs hq FI
 go_enter Tryz.func13,Tryz.ntmps13
 go_wp2_with fail
 have h9:=HV.out
 rw[show(((w.alloc (.cells #[.string ⟨a0.toArray⟩,.string ⟨a1.toArray⟩] 26)).alloc (.cells #[.string ⟨a0.toArray⟩,.string ⟨a1.toArray⟩] 26)).alloc (.cells #[.string ⟨#[]⟩,.string ⟨#[]⟩,.string ⟨#[]⟩,.slice none 0 0] 45)).alloc (.cells #[.string ⟨a0.toArray⟩,.string ⟨a1.toArray⟩,.string ⟨a0.toArray⟩,.string ⟨a1.toArray⟩] 22)=v1 from h9]
 clear h9 HV
 refine HF.out.mono ?_
 rintro e r0 ⟨rfl,hb⟩
 have HS1:=hid (HS0.out.next hb)
 clear hb HS0 HF
 obtain⟨c0,c1,d0,d1⟩:=HS1.out.cells
 go_wp2_with fail
 clear c0 c1 d0 d1
 refine(SX.out r0 HS1.out.bel).mono ?_
 rintro e r1 ⟨rfl,hb⟩
 have HS2:=hid (HS1.out.next hb)
 clear hb HS1
 obtain⟨c0,c1,d0,d1⟩:=HS2.out.cells
 go_wp2_with fail
 clear c0 c1 d0 d1
 refine(SY.out r1 HS2.out.bel).mono ?_
 rintro e r2 ⟨rfl,hb⟩
 have HS3:=hid (HS2.out.next hb)
 clear hb HS2
 obtain⟨c0,c1,d0,d1⟩:=HS3.out.cells
 obtain⟨k0,k1,k2,k3,kz⟩:=zl0 HS3.out.h2
 have z0:=kz 0;have z1:=kz 1;have z2:=kz 2;have z3:=kz 3
 clear kz
 go_wp2_with fail
 have hf:=HS3.out.bel
 exact bodyPost_ret (v:=.tuple #[.agg #[St [],St [],St [],.slice none 0 0],.int .i64 12]) (by simp[results,Tryz.results13,go_sem,k0,k1,k2,k3]) rfl ⟨rfl,(((hf.setCell (p:=⟨w.heap.size+1+1,0,none⟩) (by show _<=w.heap.size+1+1;omega) _).setCell (p:=⟨w.heap.size+1+1,1,none⟩) (by show _<=w.heap.size+1+1;omega) _).setCell (p:=⟨w.heap.size+1+1,2,none⟩) (by show _<=w.heap.size+1+1;omega) _).setCell (p:=⟨w.heap.size+1+1,3,none⟩) (by show _<=w.heap.size+1+1;omega) _⟩
theorem zqk (b n:Nat) (hn:n<=5000) (w:zA) (HC:Hid (∀j,j<n->w.cell? ⟨b,j,none⟩=some (.int .i64 0))):
 qJ 49 #[.slice (some ⟨b,0,none⟩) n n,.int .i64 4] w (.int .i64 (-1)):=by
 go_enter Tryz.func49,Tryz.ntmps49
 go_wp2
 go_loopw [8] (λi wr=>∃(k:Nat),k<=n/\i=.int .i64 (k:Int)/\Hid (qL w wr))
  (λi _=>n-(RowKit.intOf i).toNat)
 case atStart=>exact⟨0,Nat.zero_le _,rfl,zM _ _⟩
 case round=>
  obtain⟨k,hk,rfl,hB⟩:=hrel
  by_cases hlt:k<n
  ·have c0:=(zac hB.out).cell (HC.out k hlt)
   go_wp2_with fail
   go_roundw
   case rel=>exact⟨k+1,by omega,by go_num,hB⟩
   case measure=>simp[RowKit.intOf];omega
  ·go_wp2_with fail
   go_ret
   exact⟨rfl,hB.out⟩
theorem ztb (b n:Nat) (w:zA)
 (F:Hid (qJ 49 #[.slice (some ⟨b,0,none⟩) n n,.int .i64 4] w (.int .i64 (-1)))):
 qJ 15 #[.slice (some ⟨b,0,none⟩) n n,.int .i64 4] w (.bool false):=by
 go_enter Tryz.func15,Tryz.ntmps15
 go_wp2_with fail
 refine F.out.mono ?_
 rintro e w1 ⟨rfl,hB⟩
 have HB:=hid hB;clear hB
 go_wp2_with fail
 go_ret
 exact⟨rfl,HB.out⟩
theorem zo8 (w:zA) (A:Nat) (t:TypeId) (h:w.heap[A]? =some (.cells #[.int .i64 0,.int .i64 0,.int .i64 0,.int .i64 0] t (0,0))):
 qJ 15 #[.slice (some ⟨A,0,none⟩) 4 4,.int .i64 4] w (.bool false):=
 ztb A 4 w (hid (zqk A 4 (by omega) w (hid λj hj=>by
  rw[zJ h]
  match j,hj with
  |0,_|1,_|2,_|3,_=>rfl)))
structure UprQ (w:zA) (a0 a1 b0 b1 z al si:List UInt8) (va1 vb1 vc1 va2 vb2 vc2 dx dy ax ay bx by' x1 y1 x2:List UInt8) (n:Int) (D1 D2 K0 K1 M0 M1 N0 N1 LZ:List (Rat×Nat)):Prop where
 u1:∀W:zA,qL w W->zC zF 13 #[.agg #[St a0,St a1],.agg #[St b0,St b1],.bool true] W λe w'=>∃v,e=.returned (.tuple #[.agg #[St va1,St vb1,St vc1,v],.int .i64 0])/\zB W.heap.size W w'/\SdL v D1 w'
 u2:∀W:zA,qL w W->zC zF 13 #[.agg #[St a0,St a1],.agg #[St b0,St b1],.bool false] W λe w'=>∃v,e=.returned (.tuple #[.agg #[St va2,St vb2,St vc2,v],.int .i64 0])/\zB W.heap.size W w'/\SdL v D2 w'
 sx:∀W:zA,qL w W->qJ 14 #[St b0,St a0] W (.tuple #[St dx,.int .i64 0])
 sy:∀W:zA,qL w W->qJ 14 #[St b1,St a1] W (.tuple #[St dy,.int .i64 0])
 m1:∀W:zA,qL w W->qJ 7 #[St dx,St al] W (.tuple #[St ax,.int .i64 0])
 m2:∀W:zA,qL w W->qJ 7 #[St dy,St al] W (.tuple #[St ay,.int .i64 0])
 m3:∀W:zA,qL w W->qJ 7 #[St dy,St si] W (.tuple #[St bx,.int .i64 0])
 m4:∀W:zA,qL w W->qJ 7 #[St dx,St si] W (.tuple #[St by',.int .i64 0])
 t1:∀W:zA,qL w W->∀A,W.heap[A]? =some (.cells #[St a0,St ax] 22 (0,0))->qJ 8 #[.slice (some ⟨A,0,none⟩) 2 2] W (.tuple #[St x1,.int .i64 0])
 t2:∀W:zA,qL w W->∀A,W.heap[A]? =some (.cells #[St a1,St ay,St by'] 22 (0,0))->qJ 8 #[.slice (some ⟨A,0,none⟩) 3 3] W (.tuple #[St y1,.int .i64 0])
 t3:∀W:zA,qL w W->qJ 14 #[St x1,St bx] W (.tuple #[St x2,.int .i64 0])
 cp:∀W:zA,qL w W->qJ 9 #[St si,.string ⟨#[48]⟩] W (.tuple #[.int .i64 n,.int .i64 0])
 nn: -2<n/\n<2
 k1:∀W:zA,qL w W->zC zF 10 #[.agg #[St x2,St y1,St z]] W λe w'=>∃u0 u1 u2,e=.returned (.tuple #[.agg #[u0,u1,u2],.int .i64 0])/\zB W.heap.size W w'/\SdL u0 K0 w'/\SdL u1 K1 w'/\SdL u2 LZ w'
 k2:∀W:zA,qL w W->zC zF 10 #[.agg #[St a0,St a1,St z]] W λe w'=>∃u0 u1 u2,e=.returned (.tuple #[.agg #[u0,u1,u2],.int .i64 0])/\zB W.heap.size W w'/\SdL u0 M0 w'/\SdL u1 M1 w'/\SdL u2 LZ w'
 k3:∀W:zA,qL w W->zC zF 10 #[.agg #[St b0,St b1,St z]] W λe w'=>∃u0 u1 u2,e=.returned (.tuple #[.agg #[u0,u1,u2],.int .i64 0])/\zB W.heap.size W w'/\SdL u0 N0 w'/\SdL u1 N1 w'/\SdL u2 LZ w'
 s1:∀(W:zA) (v u0 u1 u2:Value),qL w W->SdL v D1 W->SdL u0 K0 W->SdL u1 K1 W->SdL u2 LZ W->qJ 12 #[.agg #[St va1,St vb1,St vc1,v],.agg #[u0,u1,u2]] W (.tuple #[.int .i64 (-n),.int .i64 0])
 s2:∀(W:zA) (v u0 u1 u2:Value),qL w W->SdL v D2 W->SdL u0 K0 W->SdL u1 K1 W->SdL u2 LZ W->qJ 12 #[.agg #[St va2,St vb2,St vc2,v],.agg #[u0,u1,u2]] W (.tuple #[.int .i64 (n),.int .i64 0])
 s3:∀(W:zA) (v u0 u1 u2:Value),qL w W->SdL v D1 W->SdL u0 M0 W->SdL u1 M1 W->SdL u2 LZ W->qJ 12 #[.agg #[St va1,St vb1,St vc1,v],.agg #[u0,u1,u2]] W (.tuple #[.int .i64 (0),.int .i64 0])
 s4:∀(W:zA) (v u0 u1 u2:Value),qL w W->SdL v D2 W->SdL u0 N0 W->SdL u1 N1 W->SdL u2 LZ W->qJ 12 #[.agg #[St va2,St vb2,St vc2,v],.agg #[u0,u1,u2]] W (.tuple #[.int .i64 (0),.int .i64 0])
def UprZ (w:zA) (a0 a1 b0 b1:List UInt8):Prop:=∀(W:zA) (left:Bool),qL w W->qJ 13 #[.agg #[St a0,St a1],.agg #[St b0,St b1],.bool left] W (.tuple #[.agg #[St [],St [],St [],.slice none 0 0],.int .i64 12])
structure PtU (w:zA) (a0 a1 b0 b1:List UInt8) (W:zA):Prop where
 bel:qL w W
 h0:W.heap[w.heap.size]? =some (.cells #[St a0,St a1] 26 (0,0))
 h1:W.heap[w.heap.size+1]? =some (.cells #[St b0,St b1] 26 (0,0))
theorem PtU.next {w W W':zA} {a0 a1 b0 b1:List UInt8} (h:PtU w a0 a1 b0 b1 W) (hb:qL W W'):PtU w a0 a1 b0 b1 W':=
 have hc:=zac hb
 ⟨h.bel.trans (hb.mono h.bel.size),hc _ _ _ _ h.h0,hc _ _ _ _ h.h1⟩
theorem PtU.cells {w W:zA} {a0 a1 b0 b1:List UInt8} (h:PtU w a0 a1 b0 b1 W):W.cell? ⟨w.heap.size,0,none⟩=some (St a0)/\W.cell? ⟨w.heap.size,1,none⟩=some (St a1)/\W.cell? ⟨w.heap.size+1,0,none⟩=some (St b0)/\W.cell? ⟨w.heap.size+1,1,none⟩=some (St b1):=
 ⟨by rw[zJ h.h0];rfl,by rw[zJ h.h0];rfl,by rw[zJ h.h1];rfl,by rw[zJ h.h1];rfl⟩
theorem ztn {w v1:zA} {a b d e:Value} {s t:TypeId} (hv:v1=(w.alloc (.cells #[a,b] s)).alloc (.cells #[d,e] t)):
 qL w v1/\v1.heap[w.heap.size]? =some (.cells #[a,b] s (0,0))/\v1.heap[w.heap.size+1]? =some (.cells #[d,e] t (0,0))/\v1.heap.size=w.heap.size+1+1:=by
 refine⟨by rw[hv];exact((zM _ w).alloc (zN _) _).alloc (by simp) _,by rw[hv];exact(Below.heap_alloc _ _ _ (by simp)).trans (zG w _),?_,by rw[hv];simp⟩
 rw[hv]
 have:=zG (w.alloc (.cells #[a,b] s)) (.cells #[d,e] t)
 rw[zH] at this
 exact this
theorem zeu {w:zA} {a b c:List UInt8} {p:Option Addr} {n k:Nat} {y:zA} (hy:y=w.alloc (.cells #[St a,St b,St c,.slice p n k] 45)):qL w y/\y.heap[w.heap.size]? =some (.cells #[St a,St b,St c,.slice p n k] 45 (0,0)):=
 ⟨by rw[hy];exact(zM _ w).alloc (zN _) _,by rw[hy];exact zG w _⟩
theorem ze2 {w:zA} {a b c:Value} {y:zA} (hy:y=w.alloc (.cells #[a,b,c] 39)):qL w y/\y.heap[w.heap.size]? =some (.cells #[a,b,c] 39 (0,0)):=
 ⟨by rw[hy];exact(zM _ w).alloc (zN _) _,by rw[hy];exact zG w _⟩
theorem zs8 {W:zA} {A:Nat} {a b c d:Value} {t:TypeId} (h:W.heap[A]? =some (.cells #[a,b,c,d] t (0,0))):W.cell? ⟨A,0,none⟩=some a/\W.cell? ⟨A,1,none⟩=some b/\W.cell? ⟨A,2,none⟩=some c/\W.cell? ⟨A,3,none⟩=some d:=
 ⟨by rw[zJ h];rfl,by rw[zJ h];rfl,by rw[zJ h];rfl,by rw[zJ h];rfl⟩
structure HfK (Q:Nat) (a b c:List UInt8) (v:Value) (l:List (Rat×Nat)) (W:zA):Prop where
 h:W.heap[Q]? =some (.cells #[St a,St b,St c,v] 45 (0,0))
 d:SdL v l W
theorem HfK.next {Q:Nat} {a b c:List UInt8} {v:Value} {l:List (Rat×Nat)} {W W':zA} (h:HfK Q a b c v l W) (hb:qL W W'):HfK Q a b c v l W':=⟨zac hb _ _ _ _ h.h,h.d.below hb⟩
theorem HfK.cells {Q:Nat} {a b c:List UInt8} {v:Value} {l:List (Rat×Nat)} {W:zA} (h:HfK Q a b c v l W):W.cell? ⟨Q,0,none⟩=some (St a)/\W.cell? ⟨Q,1,none⟩=some (St b)/\W.cell? ⟨Q,2,none⟩=some (St c)/\W.cell? ⟨Q,3,none⟩=some v:=zs8 h.h
structure MkK (Q:Nat) (a b c:Value) (l0 l1 l2:List (Rat×Nat)) (W:zA):Prop where
 h:W.heap[Q]? =some (.cells #[a,b,c] 39 (0,0))
 s0:SdL a l0 W
 s1:SdL b l1 W
 s2:SdL c l2 W
theorem MkK.next {Q:Nat} {a b c:Value} {l0 l1 l2:List (Rat×Nat)} {W W':zA} (h:MkK Q a b c l0 l1 l2 W) (hb:qL W W'):MkK Q a b c l0 l1 l2 W':=⟨zac hb _ _ _ _ h.h,h.s0.below hb,h.s1.below hb,h.s2.below hb⟩
theorem MkK.cells {Q:Nat} {a b c:Value} {l0 l1 l2:List (Rat×Nat)} {W:zA} (h:MkK Q a b c l0 l1 l2 W):W.cell? ⟨Q,0,none⟩=some a/\W.cell? ⟨Q,1,none⟩=some b/\W.cell? ⟨Q,2,none⟩=some c:=⟨(zah h.h).1,(zah h.h).2.1,(zah h.h).2.2.1⟩
theorem zs9 (a0 a1 b0 b1 z al si:List UInt8) (G:Prop) (w:zA)
 (SH:Hid (∀W:zA,qL w W->∀A,W.heap[A]? =some (.cells #[St a0,St a1,St b0,St b1,St z,St al,St si] 22 (0,0))->zC zF 5 #[.slice (some ⟨A,0,none⟩) 7 7] W λe w'=>∃r:Bool,e=.returned (.bool r)/\(r=true↔G)/\zB W.heap.size W w'))
 (AW:Hid (∀W:zA,qL w W->qJ 6 #[] W (.bool true)))
 (K:Hid (G->(a0=b0/\a1=b1/\UprZ w a0 a1 b0 b1)\/((a0≠b0\/a0=b0/\a1≠b1)/\∃va1 vb1 vc1 va2 vb2 vc2 dx dy ax ay bx by' x1 y1 x2 n D1 D2 K0 K1 M0 M1 N0 N1 LZ,UprQ w a0 a1 b0 b1 z al si va1 vb1 vc1 va2 vb2 vc2 dx dy ax ay bx by' x1 y1 x2 n D1 D2 K0 K1 M0 M1 N0 N1 LZ))):
 qJ 4 #[.agg #[St a0,St a1],.agg #[St b0,St b1],St z,St al,St si] w (.bool true):=by
 have mx4:∀w:zA,(Builtin.max_ #[29,29,29,29] 29 #[.int .i64 0,.int .i64 0,.int .i64 0,.int .i64 0]).run zF w=.ok (.int .i64 0) w:=λ_=>by kernel_rfl
 have mx7:∀w:zA,(Builtin.max_ #[29,29,29,29,29,29,29] 29 #[.int .i64 0,.int .i64 0,.int .i64 0,.int .i64 0,.int .i64 0,.int .i64 0,.int .i64 0]).run zF w=.ok (.int .i64 0) w:=λ_=>by kernel_rfl
 obtain⟨v0,hv0⟩:∃v,v=(w.alloc (.cells #[St a0,St a1] 26)).alloc (.cells #[St b0,St b1] 26):=⟨_,rfl⟩
 obtain⟨q0,f1,f2,s0⟩:=ztn hv0
 obtain⟨v1,hv1⟩:∃v,v=v0.alloc (.cells #[St a0,St a1,St b0,St b1,St z,St al,St si] 22):=⟨_,rfl⟩
 have q1:qL v0 v1:=by rw[hv1];exact(zM _ v0).alloc (zN _) _
 have f3:v1.heap[w.heap.size+1+1]? =some (.cells #[St a0,St a1,St b0,St b1,St z,St al,St si] 22 (0,0)):=by rw[hv1,<-s0];exact zG v0 _
 have q01:=q0.trans (q1.mono q0.size)
 have HF:=hid (SH.out v1 q01 _ f3)
 have B0:=hid (⟨q01,zac q1 _ _ _ _ f1,zac q1 _ _ _ _ f2⟩:PtU w a0 a1 b0 b1 v1)
 have HV:=hid (show(((w.alloc (.cells #[St a0,St a1] 26)).alloc (.cells #[St b0,St b1] 26)).alloc (.cells #[St a0,St a1,St b0,St b1,St z,St al,St si] 22))=v1 by rw[hv1,hv0])
 clear hv0 hv1 q0 q1 q01 f1 f2 f3 s0 SH
 go_enter Tryz.func4,Tryz.ntmps4
 go_wp2_with fail
 have h9:=HV.out
 rw[show((w.alloc (.cells #[.string ⟨a0.toArray⟩,.string ⟨a1.toArray⟩] 26)).alloc (.cells #[.string ⟨b0.toArray⟩,.string ⟨b1.toArray⟩] 26)).alloc (.cells #[.string ⟨a0.toArray⟩,.string ⟨a1.toArray⟩,.string ⟨b0.toArray⟩,.string ⟨b1.toArray⟩,.string ⟨z.toArray⟩,.string ⟨al.toArray⟩,.string ⟨si.toArray⟩] 22)=v1 from h9]
 clear h9 HV
 refine HF.out.mono ?_
 rintro e w0 ⟨r,rfl,hr,hb⟩
 have B1:=hid (B0.out.next hb)
 clear hb HF B0
 cases r with
 |false=>
  clear hr K
  go_wp2_with fail
  refine(AW.out w0 B1.out.bel).mono ?_
  rintro e w1 ⟨rfl,hb⟩
  have B2:=hid (B1.out.bel.trans (hb.mono B1.out.bel.size))
  clear hb
  go_wp2_with fail
  go_ret
  exact⟨rfl,B2.out⟩
 |true=>
  rcases K.out (hr.1 rfl) with⟨rfl,rfl,hz⟩|⟨hne,va1,vb1,vc1,va2,vb2,vc2,dx,dy,ax,ay,bx,by',x1,y1,x2,n,D1,D2,K0,K1,M0,M1,N0,N1,LZ,hq⟩
  ·have HZ:=hid hz
   clear hr hz K mx7
   obtain⟨c0,c1,d0,d1⟩:=B1.out.cells
   go_wp2_with fail
   clear c0 c1 d0 d1
   refine(HZ.out w0 true B1.out.bel).mono ?_
   rintro e w1 ⟨rfl,hb⟩
   obtain⟨y1',hy⟩:∃y,y=w1.alloc (.cells #[St [],St [],St [],.slice none 0 0] 45):=⟨_,rfl⟩
   obtain⟨hb2, -⟩:=zeu hy
   have B2:=hid ((B1.out.next hb).next hb2)
   have HY:=hid hy.symm
   obtain⟨c0,c1,d0,d1⟩:=B2.out.cells
   rw[hy] at c0 c1 d0 d1
   clear hb hb2 hy B1
   go_wp2_with fail
   have h9:=HY.out
   rw[show w1.alloc (.cells #[.string ⟨#[]⟩,.string ⟨#[]⟩,.string ⟨#[]⟩,.slice none 0 0] 45)=y1' from h9]
   clear h9 HY c0 c1 d0 d1
   refine(HZ.out y1' false B2.out.bel).mono ?_
   rintro e w2 ⟨rfl,hb⟩
   obtain⟨y2',hy⟩:∃y,y=w2.alloc (.cells #[St [],St [],St [],.slice none 0 0] 45):=⟨_,rfl⟩
   obtain⟨hb2, -⟩:=zeu hy
   have B3:=hid ((B2.out.next hb).next hb2)
   have HY:=hid hy.symm
   obtain⟨c0,c1,d0,d1⟩:=B3.out.cells
   rw[hy] at c0 c1 d0 d1
   clear hb hb2 hy B2
   go_wp2_with fail
   have h9:=HY.out
   rw[show w2.alloc (.cells #[.string ⟨#[]⟩,.string ⟨#[]⟩,.string ⟨#[]⟩,.slice none 0 0] 45)=y2' from h9]
   clear h9 HY c0 c1 d0 d1
   refine(AW.out y2' B3.out.bel).mono ?_
   rintro e w3 ⟨rfl,hb⟩
   have B4:=hid (B3.out.bel.trans (hb.mono B3.out.bel.size))
   clear hb
   go_wp2_with fail
   go_ret
   exact⟨rfl,B4.out⟩
  ·have HQ:=hid hq
   clear hr hq K
   rcases hne with hne|⟨rfl,hne⟩
   ·have hn:=HQ.out.nn
    have hwr:IntKind.i64.wrap (-n)= -n:=IntWalk.i64_in _ ⟨by omega,by omega⟩
    obtain⟨c0,c1,d0,d1⟩:=B1.out.cells
    go_wp2_with fail
    clear c0 c1 d0 d1
    refine(HQ.out.u1 w0 B1.out.bel).mono ?_
    rintro e u1' ⟨v,rfl,hb,hs⟩
    obtain⟨e1p,e1n,e1k,rfl⟩:=hs.any
    obtain⟨h1',hy⟩:∃y,y=u1'.alloc (.cells #[St va1,St vb1,St vc1,.slice e1p e1n e1k] 45):=⟨_,rfl⟩
    obtain⟨hb2,hh⟩:=zeu hy
    obtain⟨Q1,hQ⟩:∃Q,Q=u1'.heap.size:=⟨_,rfl⟩
    rw[<-hQ] at hh
    have hbb:=hb.trans (hb2.mono hb.size)
    have HH1:=hid (⟨hh,hs.below hb2⟩:HfK Q1 va1 vb1 vc1 (.slice e1p e1n e1k) D1 h1')
    have B2:=hid (B1.out.next hbb)
    have HY:=hid hy.symm;have HQe:=hid hQ.symm
    obtain⟨c0,c1,d0,d1⟩:=B2.out.cells
    rw[<-HY.out] at c0 c1 d0 d1
    clear hb hb2 hbb hs hh hQ hy B1
    go_wp2_with fail
    have h9:=HY.out
    rw[show u1'.alloc (.cells #[.string ⟨va1.toArray⟩,.string ⟨vb1.toArray⟩,.string ⟨vc1.toArray⟩,.slice e1p e1n e1k] 45)=h1' from h9]
    try rw[HQe.out]
    clear h9 HY HQe c0 c1 d0 d1
    refine(HQ.out.u2 h1' B2.out.bel).mono ?_
    rintro e u2' ⟨v,rfl,hb,hs⟩
    obtain⟨e2p,e2n,e2k,rfl⟩:=hs.any
    obtain⟨h2',hy⟩:∃y,y=u2'.alloc (.cells #[St va2,St vb2,St vc2,.slice e2p e2n e2k] 45):=⟨_,rfl⟩
    obtain⟨hb2,hh⟩:=zeu hy
    obtain⟨Q2,hQ⟩:∃Q,Q=u2'.heap.size:=⟨_,rfl⟩
    rw[<-hQ] at hh
    have hbb:=hb.trans (hb2.mono hb.size)
    have HH2:=hid (⟨hh,hs.below hb2⟩:HfK Q2 va2 vb2 vc2 (.slice e2p e2n e2k) D2 h2')
    have HH1':=hid (HH1.out.next hbb)
    clear HH1
    have HH1:=HH1'
    clear HH1'
    have B3:=hid (B2.out.next hbb)
    have HY:=hid hy.symm;have HQe:=hid hQ.symm
    obtain⟨c0,c1,d0,d1⟩:=B3.out.cells
    rw[<-HY.out] at c0 c1 d0 d1
    clear hb hb2 hbb hs hh hQ hy B2
    go_wp2_with fail
    have h9:=HY.out
    rw[show u2'.alloc (.cells #[.string ⟨va2.toArray⟩,.string ⟨vb2.toArray⟩,.string ⟨vc2.toArray⟩,.slice e2p e2n e2k] 45)=h2' from h9]
    try rw[HQe.out]
    clear h9 HY HQe c0 c1 d0 d1
    refine(HQ.out.sx h2' B3.out.bel).mono ?_
    rintro e p1 ⟨rfl,hb⟩
    have HH1':=hid (HH1.out.next hb)
    clear HH1
    have HH1:=HH1'
    clear HH1'
    have HH2':=hid (HH2.out.next hb)
    clear HH2
    have HH2:=HH2'
    clear HH2'
    have B4:=hid (B3.out.next hb)
    clear hb B3
    obtain⟨c0,c1,d0,d1⟩:=B4.out.cells
    go_wp2_with fail
    clear c0 c1 d0 d1
    refine(HQ.out.sy p1 B4.out.bel).mono ?_
    rintro e p2 ⟨rfl,hb⟩
    have HH1':=hid (HH1.out.next hb)
    clear HH1
    have HH1:=HH1'
    clear HH1'
    have HH2':=hid (HH2.out.next hb)
    clear HH2
    have HH2:=HH2'
    clear HH2'
    have B5:=hid (B4.out.next hb)
    clear hb B4
    go_wp2_with fail
    refine(HQ.out.m1 p2 B5.out.bel).mono ?_
    rintro e p3 ⟨rfl,hb⟩
    have HH1':=hid (HH1.out.next hb)
    clear HH1
    have HH1:=HH1'
    clear HH1'
    have HH2':=hid (HH2.out.next hb)
    clear HH2
    have HH2:=HH2'
    clear HH2'
    have B6:=hid (B5.out.next hb)
    clear hb B5
    go_wp2_with fail
    refine(HQ.out.m2 p3 B6.out.bel).mono ?_
    rintro e p4 ⟨rfl,hb⟩
    have HH1':=hid (HH1.out.next hb)
    clear HH1
    have HH1:=HH1'
    clear HH1'
    have HH2':=hid (HH2.out.next hb)
    clear HH2
    have HH2:=HH2'
    clear HH2'
    have B7:=hid (B6.out.next hb)
    clear hb B6
    go_wp2_with fail
    refine(HQ.out.m3 p4 B7.out.bel).mono ?_
    rintro e p5 ⟨rfl,hb⟩
    have HH1':=hid (HH1.out.next hb)
    clear HH1
    have HH1:=HH1'
    clear HH1'
    have HH2':=hid (HH2.out.next hb)
    clear HH2
    have HH2:=HH2'
    clear HH2'
    have B8:=hid (B7.out.next hb)
    clear hb B7
    go_wp2_with fail
    refine(HQ.out.m4 p5 B8.out.bel).mono ?_
    rintro e p6 ⟨rfl,hb⟩
    obtain⟨p6s,hy⟩:∃y,y=p6.alloc (.cells #[St a0,St ax] 22):=⟨_,rfl⟩
    have hb2:qL p6 p6s:=by rw[hy];exact(zM _ p6).alloc (zN _) _
    have hh:p6s.heap[p6.heap.size]? =some (.cells #[St a0,St ax] 22 (0,0)):=by rw[hy];exact zG p6 _
    have hbb:=hb.trans (hb2.mono hb.size)
    obtain⟨c0,c1,d0,d1⟩:=(B8.out.next hb).cells
    have HH1':=hid (HH1.out.next hbb)
    clear HH1
    have HH1:=HH1'
    clear HH1'
    have HH2':=hid (HH2.out.next hbb)
    clear HH2
    have HH2:=HH2'
    clear HH2'
    have B9:=hid (B8.out.next hbb)
    have HT:=hid (HQ.out.t1 p6s B9.out.bel _ hh)
    have HY:=hid hy.symm
    clear hb hb2 hbb hh hy B8
    go_wp2_with fail
    have h9:=HY.out
    rw[show p6.alloc (.cells #[.string ⟨a0.toArray⟩,.string ⟨ax.toArray⟩] 22)=p6s from h9]
    clear h9 HY c0 c1 d0 d1
    refine HT.out.mono ?_
    rintro e p7 ⟨rfl,hb⟩
    obtain⟨p7s,hy⟩:∃y,y=p7.alloc (.cells #[St a1,St ay,St by'] 22):=⟨_,rfl⟩
    have hb2:qL p7 p7s:=by rw[hy];exact(zM _ p7).alloc (zN _) _
    have hh:p7s.heap[p7.heap.size]? =some (.cells #[St a1,St ay,St by'] 22 (0,0)):=by rw[hy];exact zG p7 _
    have hbb:=hb.trans (hb2.mono hb.size)
    obtain⟨c0,c1,d0,d1⟩:=(B9.out.next hb).cells
    have HH1':=hid (HH1.out.next hbb)
    clear HH1
    have HH1:=HH1'
    clear HH1'
    have HH2':=hid (HH2.out.next hbb)
    clear HH2
    have HH2:=HH2'
    clear HH2'
    have B10:=hid (B9.out.next hbb)
    have HT2:=hid (HQ.out.t2 p7s B10.out.bel _ hh)
    have HY:=hid hy.symm
    clear hb hb2 hbb hh hy HT B9
    go_wp2_with fail
    have h9:=HY.out
    rw[show p7.alloc (.cells #[.string ⟨a1.toArray⟩,.string ⟨ay.toArray⟩,.string ⟨by'.toArray⟩] 22)=p7s from h9]
    clear h9 HY c0 c1 d0 d1
    refine HT2.out.mono ?_
    rintro e p8 ⟨rfl,hb⟩
    have HH1':=hid (HH1.out.next hb)
    clear HH1
    have HH1:=HH1'
    clear HH1'
    have HH2':=hid (HH2.out.next hb)
    clear HH2
    have HH2:=HH2'
    clear HH2'
    have B11:=hid (B10.out.next hb)
    clear hb B10 HT2
    go_wp2_with fail
    refine(HQ.out.t3 p8 B11.out.bel).mono ?_
    rintro e p9 ⟨rfl,hb⟩
    have HH1':=hid (HH1.out.next hb)
    clear HH1
    have HH1:=HH1'
    clear HH1'
    have HH2':=hid (HH2.out.next hb)
    clear HH2
    have HH2:=HH2'
    clear HH2'
    have B12:=hid (B11.out.next hb)
    clear hb B11
    go_wp2_with fail
    refine(HQ.out.cp p9 B12.out.bel).mono ?_
    rintro e p10 ⟨rfl,hb⟩
    have HH1':=hid (HH1.out.next hb)
    clear HH1
    have HH1:=HH1'
    clear HH1'
    have HH2':=hid (HH2.out.next hb)
    clear HH2
    have HH2:=HH2'
    clear HH2'
    have B13:=hid (B12.out.next hb)
    clear hb B12
    go_wp2_with fail
    refine(HQ.out.k1 p10 B13.out.bel).mono ?_
    rintro e g1 ⟨m0,m1,m2,rfl,hb,hs0,hs1,hs2⟩
    obtain⟨x1p,x1n,x1k,rfl⟩:=hs0.any
    obtain⟨y1p,y1n,y1k,rfl⟩:=hs1.any
    obtain⟨z1p,z1n,z1k,rfl⟩:=hs2.any
    obtain⟨j1,hy⟩:∃y,y=g1.alloc (.cells #[.slice x1p x1n x1k,.slice y1p y1n y1k,.slice z1p z1n z1k] 39):=⟨_,rfl⟩
    obtain⟨hb2,hh⟩:=ze2 hy
    obtain⟨R1,hQ⟩:∃Q,Q=g1.heap.size:=⟨_,rfl⟩
    rw[<-hQ] at hh
    have hbb:=hb.trans (hb2.mono hb.size)
    have HM1:=hid (⟨hh,hs0.below hb2,hs1.below hb2,hs2.below hb2⟩:MkK R1 (.slice x1p x1n x1k) (.slice y1p y1n y1k) (.slice z1p z1n z1k) K0 K1 LZ j1)
    have HH1':=hid (HH1.out.next hbb)
    clear HH1
    have HH1:=HH1'
    clear HH1'
    have HH2':=hid (HH2.out.next hbb)
    clear HH2
    have HH2:=HH2'
    clear HH2'
    have B14:=hid (B13.out.next hbb)
    have HY:=hid hy.symm;have HQe:=hid hQ.symm
    obtain⟨c0,c1,d0,d1⟩:=B14.out.cells
    rw[<-HY.out] at c0 c1 d0 d1
    clear hb hb2 hbb hs0 hs1 hs2 hh hQ hy B13
    go_wp2_with fail
    have h9:=HY.out
    rw[h9]
    try rw[HQe.out]
    clear h9 HY HQe c0 c1 d0 d1
    refine(HQ.out.k2 j1 B14.out.bel).mono ?_
    rintro e g2 ⟨m0,m1,m2,rfl,hb,hs0,hs1,hs2⟩
    obtain⟨x2p,x2n,x2k,rfl⟩:=hs0.any
    obtain⟨y2p,y2n,y2k,rfl⟩:=hs1.any
    obtain⟨z2p,z2n,z2k,rfl⟩:=hs2.any
    obtain⟨j2,hy⟩:∃y,y=g2.alloc (.cells #[.slice x2p x2n x2k,.slice y2p y2n y2k,.slice z2p z2n z2k] 39):=⟨_,rfl⟩
    obtain⟨hb2,hh⟩:=ze2 hy
    obtain⟨R2,hQ⟩:∃Q,Q=g2.heap.size:=⟨_,rfl⟩
    rw[<-hQ] at hh
    have hbb:=hb.trans (hb2.mono hb.size)
    have HM2:=hid (⟨hh,hs0.below hb2,hs1.below hb2,hs2.below hb2⟩:MkK R2 (.slice x2p x2n x2k) (.slice y2p y2n y2k) (.slice z2p z2n z2k) M0 M1 LZ j2)
    have HH1':=hid (HH1.out.next hbb)
    clear HH1
    have HH1:=HH1'
    clear HH1'
    have HH2':=hid (HH2.out.next hbb)
    clear HH2
    have HH2:=HH2'
    clear HH2'
    have HM1':=hid (HM1.out.next hbb)
    clear HM1
    have HM1:=HM1'
    clear HM1'
    have B15:=hid (B14.out.next hbb)
    have HY:=hid hy.symm;have HQe:=hid hQ.symm
    obtain⟨c0,c1,d0,d1⟩:=B15.out.cells
    rw[<-HY.out] at c0 c1 d0 d1
    clear hb hb2 hbb hs0 hs1 hs2 hh hQ hy B14
    go_wp2_with fail
    have h9:=HY.out
    rw[h9]
    try rw[HQe.out]
    clear h9 HY HQe c0 c1 d0 d1
    refine(HQ.out.k3 j2 B15.out.bel).mono ?_
    rintro e g3 ⟨m0,m1,m2,rfl,hb,hs0,hs1,hs2⟩
    obtain⟨x3p,x3n,x3k,rfl⟩:=hs0.any
    obtain⟨y3p,y3n,y3k,rfl⟩:=hs1.any
    obtain⟨z3p,z3n,z3k,rfl⟩:=hs2.any
    obtain⟨j3,hy⟩:∃y,y=g3.alloc (.cells #[.slice x3p x3n x3k,.slice y3p y3n y3k,.slice z3p z3n z3k] 39):=⟨_,rfl⟩
    obtain⟨hb2,hh⟩:=ze2 hy
    obtain⟨R3,hQ⟩:∃Q,Q=g3.heap.size:=⟨_,rfl⟩
    rw[<-hQ] at hh
    have hbb:=hb.trans (hb2.mono hb.size)
    have HM3:=hid (⟨hh,hs0.below hb2,hs1.below hb2,hs2.below hb2⟩:MkK R3 (.slice x3p x3n x3k) (.slice y3p y3n y3k) (.slice z3p z3n z3k) N0 N1 LZ j3)
    have HH1':=hid (HH1.out.next hbb)
    clear HH1
    have HH1:=HH1'
    clear HH1'
    have HH2':=hid (HH2.out.next hbb)
    clear HH2
    have HH2:=HH2'
    clear HH2'
    have HM1':=hid (HM1.out.next hbb)
    clear HM1
    have HM1:=HM1'
    clear HM1'
    have HM2':=hid (HM2.out.next hbb)
    clear HM2
    have HM2:=HM2'
    clear HM2'
    have B16:=hid (B15.out.next hbb)
    have HY:=hid hy.symm;have HQe:=hid hQ.symm
    obtain⟨c0,c1,c2,c3⟩:=HH1.out.cells
    obtain⟨d0,d1,d2⟩:=HM1.out.cells
    rw[<-HY.out] at c0 c1 c2 c3 d0 d1 d2
    clear hb hb2 hbb hs0 hs1 hs2 hh hQ hy B15
    go_wp2_with fail
    have h9:=HY.out
    rw[h9]
    try rw[HQe.out]
    clear h9 HY HQe c0 c1 c2 c3 d0 d1 d2
    refine(HQ.out.s1 j3 _ _ _ _ B16.out.bel HH1.out.d HM1.out.s0 HM1.out.s1 HM1.out.s2).mono ?_
    rintro e t1 ⟨rfl,hb⟩
    have HH1':=hid (HH1.out.next hb)
    clear HH1
    have HH1:=HH1'
    clear HH1'
    have HH2':=hid (HH2.out.next hb)
    clear HH2
    have HH2:=HH2'
    clear HH2'
    have HM1':=hid (HM1.out.next hb)
    clear HM1
    have HM1:=HM1'
    clear HM1'
    have HM2':=hid (HM2.out.next hb)
    clear HM2
    have HM2:=HM2'
    clear HM2'
    have HM3':=hid (HM3.out.next hb)
    clear HM3
    have HM3:=HM3'
    clear HM3'
    have B17:=hid (B16.out.next hb)
    clear hb B16
    obtain⟨c0,c1,c2,c3⟩:=HH2.out.cells
    obtain⟨d0,d1,d2⟩:=HM1.out.cells
    go_wp2_with fail
    clear c0 c1 c2 c3 d0 d1 d2
    refine(HQ.out.s2 t1 _ _ _ _ B17.out.bel HH2.out.d HM1.out.s0 HM1.out.s1 HM1.out.s2).mono ?_
    rintro e t2 ⟨rfl,hb⟩
    have HH1':=hid (HH1.out.next hb)
    clear HH1
    have HH1:=HH1'
    clear HH1'
    have HH2':=hid (HH2.out.next hb)
    clear HH2
    have HH2:=HH2'
    clear HH2'
    have HM1':=hid (HM1.out.next hb)
    clear HM1
    have HM1:=HM1'
    clear HM1'
    have HM2':=hid (HM2.out.next hb)
    clear HM2
    have HM2:=HM2'
    clear HM2'
    have HM3':=hid (HM3.out.next hb)
    clear HM3
    have HM3:=HM3'
    clear HM3'
    have B18:=hid (B17.out.next hb)
    clear hb B17
    obtain⟨c0,c1,c2,c3⟩:=HH1.out.cells
    obtain⟨d0,d1,d2⟩:=HM2.out.cells
    go_wp2_with fail
    clear c0 c1 c2 c3 d0 d1 d2
    refine(HQ.out.s3 t2 _ _ _ _ B18.out.bel HH1.out.d HM2.out.s0 HM2.out.s1 HM2.out.s2).mono ?_
    rintro e t3 ⟨rfl,hb⟩
    have HH1':=hid (HH1.out.next hb)
    clear HH1
    have HH1:=HH1'
    clear HH1'
    have HH2':=hid (HH2.out.next hb)
    clear HH2
    have HH2:=HH2'
    clear HH2'
    have HM1':=hid (HM1.out.next hb)
    clear HM1
    have HM1:=HM1'
    clear HM1'
    have HM2':=hid (HM2.out.next hb)
    clear HM2
    have HM2:=HM2'
    clear HM2'
    have HM3':=hid (HM3.out.next hb)
    clear HM3
    have HM3:=HM3'
    clear HM3'
    have B19:=hid (B18.out.next hb)
    clear hb B18
    obtain⟨c0,c1,c2,c3⟩:=HH2.out.cells
    obtain⟨d0,d1,d2⟩:=HM3.out.cells
    go_wp2_with fail
    clear c0 c1 c2 c3 d0 d1 d2
    refine(HQ.out.s4 t3 _ _ _ _ B19.out.bel HH2.out.d HM3.out.s0 HM3.out.s1 HM3.out.s2).mono ?_
    rintro e t4 ⟨rfl,hb⟩
    have HH1':=hid (HH1.out.next hb)
    clear HH1
    have HH1:=HH1'
    clear HH1'
    have HH2':=hid (HH2.out.next hb)
    clear HH2
    have HH2:=HH2'
    clear HH2'
    have HM1':=hid (HM1.out.next hb)
    clear HM1
    have HM1:=HM1'
    clear HM1'
    have HM2':=hid (HM2.out.next hb)
    clear HM2
    have HM2:=HM2'
    clear HM2'
    have HM3':=hid (HM3.out.next hb)
    clear HM3
    have HM3:=HM3'
    clear HM3'
    have B20:=hid (B19.out.next hb)
    clear hb B19
    obtain⟨t5,hy⟩:∃y,y=t4.alloc (.cells #[.int .i64 0,.int .i64 0,.int .i64 0,.int .i64 0] 29):=⟨_,rfl⟩
    have hb2:qL t4 t5:=by rw[hy];exact(zM _ t4).alloc (zN _) _
    have hh:t5.heap[t4.heap.size]? =some (.cells #[.int .i64 0,.int .i64 0,.int .i64 0,.int .i64 0] 29 (0,0)):=by rw[hy];exact zG t4 _
    have HCN:=hid (zo8 t5 _ _ hh)
    have HY:=hid hy.symm
    have B99:=hid (B20.out.bel.trans (hb2.mono B20.out.bel.size))
    clear hb2 hh hy B20 HH1 HH2 HM1 HM2 HM3 HQ
    go_wp2_with fail
    rw[HY.out]
    clear HY
    refine HCN.out.mono ?_
    rintro e t6 ⟨rfl,hb⟩
    have hb7:=B99.out.trans (hb.mono B99.out.size)
    have B100:=hid hb7
    have HA:=hid (AW.out t6 hb7)
    clear hb hb7 B99 HCN
    go_wp2_with fail
    refine HA.out.mono ?_
    rintro e t7 ⟨rfl,hb⟩
    have B101:=hid (B100.out.trans (hb.mono B100.out.size))
    clear hb
    go_wp2_with fail
    go_ret
    exact⟨rfl,B101.out⟩
   ·have hn:=HQ.out.nn
    have hwr:IntKind.i64.wrap (-n)= -n:=IntWalk.i64_in _ ⟨by omega,by omega⟩
    obtain⟨c0,c1,d0,d1⟩:=B1.out.cells
    go_wp2_with fail
    clear c0 c1 d0 d1
    refine(HQ.out.u1 w0 B1.out.bel).mono ?_
    rintro e u1' ⟨v,rfl,hb,hs⟩
    obtain⟨e1p,e1n,e1k,rfl⟩:=hs.any
    obtain⟨h1',hy⟩:∃y,y=u1'.alloc (.cells #[St va1,St vb1,St vc1,.slice e1p e1n e1k] 45):=⟨_,rfl⟩
    obtain⟨hb2,hh⟩:=zeu hy
    obtain⟨Q1,hQ⟩:∃Q,Q=u1'.heap.size:=⟨_,rfl⟩
    rw[<-hQ] at hh
    have hbb:=hb.trans (hb2.mono hb.size)
    have HH1:=hid (⟨hh,hs.below hb2⟩:HfK Q1 va1 vb1 vc1 (.slice e1p e1n e1k) D1 h1')
    have B2:=hid (B1.out.next hbb)
    have HY:=hid hy.symm;have HQe:=hid hQ.symm
    obtain⟨c0,c1,d0,d1⟩:=B2.out.cells
    rw[<-HY.out] at c0 c1 d0 d1
    clear hb hb2 hbb hs hh hQ hy B1
    go_wp2_with fail
    have h9:=HY.out
    rw[show u1'.alloc (.cells #[.string ⟨va1.toArray⟩,.string ⟨vb1.toArray⟩,.string ⟨vc1.toArray⟩,.slice e1p e1n e1k] 45)=h1' from h9]
    try rw[HQe.out]
    clear h9 HY HQe c0 c1 d0 d1
    refine(HQ.out.u2 h1' B2.out.bel).mono ?_
    rintro e u2' ⟨v,rfl,hb,hs⟩
    obtain⟨e2p,e2n,e2k,rfl⟩:=hs.any
    obtain⟨h2',hy⟩:∃y,y=u2'.alloc (.cells #[St va2,St vb2,St vc2,.slice e2p e2n e2k] 45):=⟨_,rfl⟩
    obtain⟨hb2,hh⟩:=zeu hy
    obtain⟨Q2,hQ⟩:∃Q,Q=u2'.heap.size:=⟨_,rfl⟩
    rw[<-hQ] at hh
    have hbb:=hb.trans (hb2.mono hb.size)
    have HH2:=hid (⟨hh,hs.below hb2⟩:HfK Q2 va2 vb2 vc2 (.slice e2p e2n e2k) D2 h2')
    have HH1':=hid (HH1.out.next hbb)
    clear HH1
    have HH1:=HH1'
    clear HH1'
    have B3:=hid (B2.out.next hbb)
    have HY:=hid hy.symm;have HQe:=hid hQ.symm
    obtain⟨c0,c1,d0,d1⟩:=B3.out.cells
    rw[<-HY.out] at c0 c1 d0 d1
    clear hb hb2 hbb hs hh hQ hy B2
    go_wp2_with fail
    have h9:=HY.out
    rw[show u2'.alloc (.cells #[.string ⟨va2.toArray⟩,.string ⟨vb2.toArray⟩,.string ⟨vc2.toArray⟩,.slice e2p e2n e2k] 45)=h2' from h9]
    try rw[HQe.out]
    clear h9 HY HQe c0 c1 d0 d1
    refine(HQ.out.sx h2' B3.out.bel).mono ?_
    rintro e p1 ⟨rfl,hb⟩
    have HH1':=hid (HH1.out.next hb)
    clear HH1
    have HH1:=HH1'
    clear HH1'
    have HH2':=hid (HH2.out.next hb)
    clear HH2
    have HH2:=HH2'
    clear HH2'
    have B4:=hid (B3.out.next hb)
    clear hb B3
    obtain⟨c0,c1,d0,d1⟩:=B4.out.cells
    go_wp2_with fail
    clear c0 c1 d0 d1
    refine(HQ.out.sy p1 B4.out.bel).mono ?_
    rintro e p2 ⟨rfl,hb⟩
    have HH1':=hid (HH1.out.next hb)
    clear HH1
    have HH1:=HH1'
    clear HH1'
    have HH2':=hid (HH2.out.next hb)
    clear HH2
    have HH2:=HH2'
    clear HH2'
    have B5:=hid (B4.out.next hb)
    clear hb B4
    go_wp2_with fail
    refine(HQ.out.m1 p2 B5.out.bel).mono ?_
    rintro e p3 ⟨rfl,hb⟩
    have HH1':=hid (HH1.out.next hb)
    clear HH1
    have HH1:=HH1'
    clear HH1'
    have HH2':=hid (HH2.out.next hb)
    clear HH2
    have HH2:=HH2'
    clear HH2'
    have B6:=hid (B5.out.next hb)
    clear hb B5
    go_wp2_with fail
    refine(HQ.out.m2 p3 B6.out.bel).mono ?_
    rintro e p4 ⟨rfl,hb⟩
    have HH1':=hid (HH1.out.next hb)
    clear HH1
    have HH1:=HH1'
    clear HH1'
    have HH2':=hid (HH2.out.next hb)
    clear HH2
    have HH2:=HH2'
    clear HH2'
    have B7:=hid (B6.out.next hb)
    clear hb B6
    go_wp2_with fail
    refine(HQ.out.m3 p4 B7.out.bel).mono ?_
    rintro e p5 ⟨rfl,hb⟩
    have HH1':=hid (HH1.out.next hb)
    clear HH1
    have HH1:=HH1'
    clear HH1'
    have HH2':=hid (HH2.out.next hb)
    clear HH2
    have HH2:=HH2'
    clear HH2'
    have B8:=hid (B7.out.next hb)
    clear hb B7
    go_wp2_with fail
    refine(HQ.out.m4 p5 B8.out.bel).mono ?_
    rintro e p6 ⟨rfl,hb⟩
    obtain⟨p6s,hy⟩:∃y,y=p6.alloc (.cells #[St a0,St ax] 22):=⟨_,rfl⟩
    have hb2:qL p6 p6s:=by rw[hy];exact(zM _ p6).alloc (zN _) _
    have hh:p6s.heap[p6.heap.size]? =some (.cells #[St a0,St ax] 22 (0,0)):=by rw[hy];exact zG p6 _
    have hbb:=hb.trans (hb2.mono hb.size)
    obtain⟨c0,c1,d0,d1⟩:=(B8.out.next hb).cells
    have HH1':=hid (HH1.out.next hbb)
    clear HH1
    have HH1:=HH1'
    clear HH1'
    have HH2':=hid (HH2.out.next hbb)
    clear HH2
    have HH2:=HH2'
    clear HH2'
    have B9:=hid (B8.out.next hbb)
    have HT:=hid (HQ.out.t1 p6s B9.out.bel _ hh)
    have HY:=hid hy.symm
    clear hb hb2 hbb hh hy B8
    go_wp2_with fail
    have h9:=HY.out
    rw[show p6.alloc (.cells #[.string ⟨a0.toArray⟩,.string ⟨ax.toArray⟩] 22)=p6s from h9]
    clear h9 HY c0 c1 d0 d1
    refine HT.out.mono ?_
    rintro e p7 ⟨rfl,hb⟩
    obtain⟨p7s,hy⟩:∃y,y=p7.alloc (.cells #[St a1,St ay,St by'] 22):=⟨_,rfl⟩
    have hb2:qL p7 p7s:=by rw[hy];exact(zM _ p7).alloc (zN _) _
    have hh:p7s.heap[p7.heap.size]? =some (.cells #[St a1,St ay,St by'] 22 (0,0)):=by rw[hy];exact zG p7 _
    have hbb:=hb.trans (hb2.mono hb.size)
    obtain⟨c0,c1,d0,d1⟩:=(B9.out.next hb).cells
    have HH1':=hid (HH1.out.next hbb)
    clear HH1
    have HH1:=HH1'
    clear HH1'
    have HH2':=hid (HH2.out.next hbb)
    clear HH2
    have HH2:=HH2'
    clear HH2'
    have B10:=hid (B9.out.next hbb)
    have HT2:=hid (HQ.out.t2 p7s B10.out.bel _ hh)
    have HY:=hid hy.symm
    clear hb hb2 hbb hh hy HT B9
    go_wp2_with fail
    have h9:=HY.out
    rw[show p7.alloc (.cells #[.string ⟨a1.toArray⟩,.string ⟨ay.toArray⟩,.string ⟨by'.toArray⟩] 22)=p7s from h9]
    clear h9 HY c0 c1 d0 d1
    refine HT2.out.mono ?_
    rintro e p8 ⟨rfl,hb⟩
    have HH1':=hid (HH1.out.next hb)
    clear HH1
    have HH1:=HH1'
    clear HH1'
    have HH2':=hid (HH2.out.next hb)
    clear HH2
    have HH2:=HH2'
    clear HH2'
    have B11:=hid (B10.out.next hb)
    clear hb B10 HT2
    go_wp2_with fail
    refine(HQ.out.t3 p8 B11.out.bel).mono ?_
    rintro e p9 ⟨rfl,hb⟩
    have HH1':=hid (HH1.out.next hb)
    clear HH1
    have HH1:=HH1'
    clear HH1'
    have HH2':=hid (HH2.out.next hb)
    clear HH2
    have HH2:=HH2'
    clear HH2'
    have B12:=hid (B11.out.next hb)
    clear hb B11
    go_wp2_with fail
    refine(HQ.out.cp p9 B12.out.bel).mono ?_
    rintro e p10 ⟨rfl,hb⟩
    have HH1':=hid (HH1.out.next hb)
    clear HH1
    have HH1:=HH1'
    clear HH1'
    have HH2':=hid (HH2.out.next hb)
    clear HH2
    have HH2:=HH2'
    clear HH2'
    have B13:=hid (B12.out.next hb)
    clear hb B12
    go_wp2_with fail
    refine(HQ.out.k1 p10 B13.out.bel).mono ?_
    rintro e g1 ⟨m0,m1,m2,rfl,hb,hs0,hs1,hs2⟩
    obtain⟨x1p,x1n,x1k,rfl⟩:=hs0.any
    obtain⟨y1p,y1n,y1k,rfl⟩:=hs1.any
    obtain⟨z1p,z1n,z1k,rfl⟩:=hs2.any
    obtain⟨j1,hy⟩:∃y,y=g1.alloc (.cells #[.slice x1p x1n x1k,.slice y1p y1n y1k,.slice z1p z1n z1k] 39):=⟨_,rfl⟩
    obtain⟨hb2,hh⟩:=ze2 hy
    obtain⟨R1,hQ⟩:∃Q,Q=g1.heap.size:=⟨_,rfl⟩
    rw[<-hQ] at hh
    have hbb:=hb.trans (hb2.mono hb.size)
    have HM1:=hid (⟨hh,hs0.below hb2,hs1.below hb2,hs2.below hb2⟩:MkK R1 (.slice x1p x1n x1k) (.slice y1p y1n y1k) (.slice z1p z1n z1k) K0 K1 LZ j1)
    have HH1':=hid (HH1.out.next hbb)
    clear HH1
    have HH1:=HH1'
    clear HH1'
    have HH2':=hid (HH2.out.next hbb)
    clear HH2
    have HH2:=HH2'
    clear HH2'
    have B14:=hid (B13.out.next hbb)
    have HY:=hid hy.symm;have HQe:=hid hQ.symm
    obtain⟨c0,c1,d0,d1⟩:=B14.out.cells
    rw[<-HY.out] at c0 c1 d0 d1
    clear hb hb2 hbb hs0 hs1 hs2 hh hQ hy B13
    go_wp2_with fail
    have h9:=HY.out
    rw[h9]
    try rw[HQe.out]
    clear h9 HY HQe c0 c1 d0 d1
    refine(HQ.out.k2 j1 B14.out.bel).mono ?_
    rintro e g2 ⟨m0,m1,m2,rfl,hb,hs0,hs1,hs2⟩
    obtain⟨x2p,x2n,x2k,rfl⟩:=hs0.any
    obtain⟨y2p,y2n,y2k,rfl⟩:=hs1.any
    obtain⟨z2p,z2n,z2k,rfl⟩:=hs2.any
    obtain⟨j2,hy⟩:∃y,y=g2.alloc (.cells #[.slice x2p x2n x2k,.slice y2p y2n y2k,.slice z2p z2n z2k] 39):=⟨_,rfl⟩
    obtain⟨hb2,hh⟩:=ze2 hy
    obtain⟨R2,hQ⟩:∃Q,Q=g2.heap.size:=⟨_,rfl⟩
    rw[<-hQ] at hh
    have hbb:=hb.trans (hb2.mono hb.size)
    have HM2:=hid (⟨hh,hs0.below hb2,hs1.below hb2,hs2.below hb2⟩:MkK R2 (.slice x2p x2n x2k) (.slice y2p y2n y2k) (.slice z2p z2n z2k) M0 M1 LZ j2)
    have HH1':=hid (HH1.out.next hbb)
    clear HH1
    have HH1:=HH1'
    clear HH1'
    have HH2':=hid (HH2.out.next hbb)
    clear HH2
    have HH2:=HH2'
    clear HH2'
    have HM1':=hid (HM1.out.next hbb)
    clear HM1
    have HM1:=HM1'
    clear HM1'
    have B15:=hid (B14.out.next hbb)
    have HY:=hid hy.symm;have HQe:=hid hQ.symm
    obtain⟨c0,c1,d0,d1⟩:=B15.out.cells
    rw[<-HY.out] at c0 c1 d0 d1
    clear hb hb2 hbb hs0 hs1 hs2 hh hQ hy B14
    go_wp2_with fail
    have h9:=HY.out
    rw[h9]
    try rw[HQe.out]
    clear h9 HY HQe c0 c1 d0 d1
    refine(HQ.out.k3 j2 B15.out.bel).mono ?_
    rintro e g3 ⟨m0,m1,m2,rfl,hb,hs0,hs1,hs2⟩
    obtain⟨x3p,x3n,x3k,rfl⟩:=hs0.any
    obtain⟨y3p,y3n,y3k,rfl⟩:=hs1.any
    obtain⟨z3p,z3n,z3k,rfl⟩:=hs2.any
    obtain⟨j3,hy⟩:∃y,y=g3.alloc (.cells #[.slice x3p x3n x3k,.slice y3p y3n y3k,.slice z3p z3n z3k] 39):=⟨_,rfl⟩
    obtain⟨hb2,hh⟩:=ze2 hy
    obtain⟨R3,hQ⟩:∃Q,Q=g3.heap.size:=⟨_,rfl⟩
    rw[<-hQ] at hh
    have hbb:=hb.trans (hb2.mono hb.size)
    have HM3:=hid (⟨hh,hs0.below hb2,hs1.below hb2,hs2.below hb2⟩:MkK R3 (.slice x3p x3n x3k) (.slice y3p y3n y3k) (.slice z3p z3n z3k) N0 N1 LZ j3)
    have HH1':=hid (HH1.out.next hbb)
    clear HH1
    have HH1:=HH1'
    clear HH1'
    have HH2':=hid (HH2.out.next hbb)
    clear HH2
    have HH2:=HH2'
    clear HH2'
    have HM1':=hid (HM1.out.next hbb)
    clear HM1
    have HM1:=HM1'
    clear HM1'
    have HM2':=hid (HM2.out.next hbb)
    clear HM2
    have HM2:=HM2'
    clear HM2'
    have B16:=hid (B15.out.next hbb)
    have HY:=hid hy.symm;have HQe:=hid hQ.symm
    obtain⟨c0,c1,c2,c3⟩:=HH1.out.cells
    obtain⟨d0,d1,d2⟩:=HM1.out.cells
    rw[<-HY.out] at c0 c1 c2 c3 d0 d1 d2
    clear hb hb2 hbb hs0 hs1 hs2 hh hQ hy B15
    go_wp2_with fail
    have h9:=HY.out
    rw[h9]
    try rw[HQe.out]
    clear h9 HY HQe c0 c1 c2 c3 d0 d1 d2
    refine(HQ.out.s1 j3 _ _ _ _ B16.out.bel HH1.out.d HM1.out.s0 HM1.out.s1 HM1.out.s2).mono ?_
    rintro e t1 ⟨rfl,hb⟩
    have HH1':=hid (HH1.out.next hb)
    clear HH1
    have HH1:=HH1'
    clear HH1'
    have HH2':=hid (HH2.out.next hb)
    clear HH2
    have HH2:=HH2'
    clear HH2'
    have HM1':=hid (HM1.out.next hb)
    clear HM1
    have HM1:=HM1'
    clear HM1'
    have HM2':=hid (HM2.out.next hb)
    clear HM2
    have HM2:=HM2'
    clear HM2'
    have HM3':=hid (HM3.out.next hb)
    clear HM3
    have HM3:=HM3'
    clear HM3'
    have B17:=hid (B16.out.next hb)
    clear hb B16
    obtain⟨c0,c1,c2,c3⟩:=HH2.out.cells
    obtain⟨d0,d1,d2⟩:=HM1.out.cells
    go_wp2_with fail
    clear c0 c1 c2 c3 d0 d1 d2
    refine(HQ.out.s2 t1 _ _ _ _ B17.out.bel HH2.out.d HM1.out.s0 HM1.out.s1 HM1.out.s2).mono ?_
    rintro e t2 ⟨rfl,hb⟩
    have HH1':=hid (HH1.out.next hb)
    clear HH1
    have HH1:=HH1'
    clear HH1'
    have HH2':=hid (HH2.out.next hb)
    clear HH2
    have HH2:=HH2'
    clear HH2'
    have HM1':=hid (HM1.out.next hb)
    clear HM1
    have HM1:=HM1'
    clear HM1'
    have HM2':=hid (HM2.out.next hb)
    clear HM2
    have HM2:=HM2'
    clear HM2'
    have HM3':=hid (HM3.out.next hb)
    clear HM3
    have HM3:=HM3'
    clear HM3'
    have B18:=hid (B17.out.next hb)
    clear hb B17
    obtain⟨c0,c1,c2,c3⟩:=HH1.out.cells
    obtain⟨d0,d1,d2⟩:=HM2.out.cells
    go_wp2_with fail
    clear c0 c1 c2 c3 d0 d1 d2
    refine(HQ.out.s3 t2 _ _ _ _ B18.out.bel HH1.out.d HM2.out.s0 HM2.out.s1 HM2.out.s2).mono ?_
    rintro e t3 ⟨rfl,hb⟩
    have HH1':=hid (HH1.out.next hb)
    clear HH1
    have HH1:=HH1'
    clear HH1'
    have HH2':=hid (HH2.out.next hb)
    clear HH2
    have HH2:=HH2'
    clear HH2'
    have HM1':=hid (HM1.out.next hb)
    clear HM1
    have HM1:=HM1'
    clear HM1'
    have HM2':=hid (HM2.out.next hb)
    clear HM2
    have HM2:=HM2'
    clear HM2'
    have HM3':=hid (HM3.out.next hb)
    clear HM3
    have HM3:=HM3'
    clear HM3'
    have B19:=hid (B18.out.next hb)
    clear hb B18
    obtain⟨c0,c1,c2,c3⟩:=HH2.out.cells
    obtain⟨d0,d1,d2⟩:=HM3.out.cells
    go_wp2_with fail
    clear c0 c1 c2 c3 d0 d1 d2
    refine(HQ.out.s4 t3 _ _ _ _ B19.out.bel HH2.out.d HM3.out.s0 HM3.out.s1 HM3.out.s2).mono ?_
    rintro e t4 ⟨rfl,hb⟩
    have HH1':=hid (HH1.out.next hb)
    clear HH1
    have HH1:=HH1'
    clear HH1'
    have HH2':=hid (HH2.out.next hb)
    clear HH2
    have HH2:=HH2'
    clear HH2'
    have HM1':=hid (HM1.out.next hb)
    clear HM1
    have HM1:=HM1'
    clear HM1'
    have HM2':=hid (HM2.out.next hb)
    clear HM2
    have HM2:=HM2'
    clear HM2'
    have HM3':=hid (HM3.out.next hb)
    clear HM3
    have HM3:=HM3'
    clear HM3'
    have B20:=hid (B19.out.next hb)
    clear hb B19
    obtain⟨t5,hy⟩:∃y,y=t4.alloc (.cells #[.int .i64 0,.int .i64 0,.int .i64 0,.int .i64 0] 29):=⟨_,rfl⟩
    have hb2:qL t4 t5:=by rw[hy];exact(zM _ t4).alloc (zN _) _
    have hh:t5.heap[t4.heap.size]? =some (.cells #[.int .i64 0,.int .i64 0,.int .i64 0,.int .i64 0] 29 (0,0)):=by rw[hy];exact zG t4 _
    have HCN:=hid (zo8 t5 _ _ hh)
    have HY:=hid hy.symm
    have B99:=hid (B20.out.bel.trans (hb2.mono B20.out.bel.size))
    clear hb2 hh hy B20 HH1 HH2 HM1 HM2 HM3 HQ
    go_wp2_with fail
    rw[HY.out]
    clear HY
    refine HCN.out.mono ?_
    rintro e t6 ⟨rfl,hb⟩
    have hb7:=B99.out.trans (hb.mono B99.out.size)
    have B100:=hid hb7
    have HA:=hid (AW.out t6 hb7)
    clear hb hb7 B99 HCN
    go_wp2_with fail
    refine HA.out.mono ?_
    rintro e t7 ⟨rfl,hb⟩
    have B101:=hid (B100.out.trans (hb.mono B100.out.size))
    clear hb
    go_wp2_with fail
    go_ret
    exact⟨rfl,B101.out⟩
end
section
open Go.RowKit Go.Shelf Lib Str Limb Geo
def q4 (a b c d:Rat) (i:Nat):Rat:=if i=0 then a else if i=1 then b else if i=2 then c else d
theorem zlb (A:Nat) (t:TypeId) (a b c d:Rat) (W:zA) (h:W.heap[A]? =some (.cells #[St (numS a),St (numS b),St (numS c),St (numS d)] t (0,0))):RowNums (some ⟨A,0,none⟩) 4 (q4 a b c d) W:=λi hi=>by
 refine⟨_,_,rfl,?_⟩
 rw[zJ h]
 match i,hi with
 |0,_|1,_|2,_|3,_=>rfl
theorem zsa (u:Rat):cmpR (-u) 0= -cmpR u 0:=by
 have h1:=zaw u 0
 have h2:=zaw (-u) 0
 grind
end
end Go.Proofs.YtccijmidbdapaaaGreatDoor
