/- vector: of, both, (spot).with. -/
import Derived.Test.YtccijmidbdapaaaGreatDoorJ19
set_option maxRecDepth 100000
set_option maxHeartbeats 8000000
open Go renaming World → zA
open Go.Proofs.Tryz renaming prog → zF
open Go.World renaming alloc_heap_new → zG, size_alloc → zH
open Go.Joins renaming cell_of_block → zJ, block_setCell → zK
open Go.RowKit.Below renaming refl → zM, heap_setCell → yE
open Nat renaming le_refl → zN
namespace Go.Proofs.YtccijmidbdapaaaGreatDoor
open Go.RowKit Go.Shelf Lib Str Limb
attribute [local go_sem] Oper.semAt_some
theorem zlf (a b c:List UInt8) (w:zA):
 qJ 147 #[.agg #[St a,St b,St c]] w (.agg #[St a,St b,St c]):=by
 go_enter Tryz.func147,Tryz.ntmps147
 go_wp2_with fail
 exact bodyPost_ret (v:=.agg #[St a,St b,St c]) (by simp[results,Tryz.results147,go_sem]) rfl ⟨rfl,((zM _ w).alloc (zN _) _).alloc (by simp) _⟩
theorem zon (a b c d e f:List UInt8) (w:zA)
 (C0:Hid (∀W:zA,qL w W->qJ 34 #[.agg #[St a,St b,St c]] W (.int .i64 0)))
 (C1:Hid (∀W:zA,qL w W->qJ 34 #[.agg #[St d,St e,St f]] W (.int .i64 0))):
 qJ 103 #[.agg #[St a,St b,St c],.agg #[St d,St e,St f]] w (.int .i64 0):=by
 obtain⟨v1,hv⟩:∃v1,v1=(w.alloc (.cells #[St a,St b,St c] 43)).alloc (.cells #[St d,St e,St f] 43):=⟨_,rfl⟩
 have b1:qL w v1:=by rw[hv];exact((zM _ w).alloc (zN _) _).alloc (by simp) _
 have A2:v1.heap[w.heap.size+1]? =some (.cells #[St d,St e,St f] 43 (0,0)):=by
  rw[hv]
  have:=zG (w.alloc (.cells #[St a,St b,St c] 43)) (.cells #[St d,St e,St f] 43)
  rw[zH] at this
  exact this
 have B1:=hid b1;have P1:=hid A2
 have HV:=hid hv.symm
 have HC:=hid (C0.out v1 b1)
 clear hv b1 A2 C0
 go_enter Tryz.func103,Tryz.ntmps103
 go_wp2_with fail
 have h9:=HV.out
 rw[show(w.alloc (.cells #[.string ⟨a.toArray⟩,.string ⟨b.toArray⟩,.string ⟨c.toArray⟩] 43)).alloc (.cells #[.string ⟨d.toArray⟩,.string ⟨e.toArray⟩,.string ⟨f.toArray⟩] 43)=v1 from h9]
 clear h9 HV
 refine HC.out.mono ?_
 rintro e r1 ⟨rfl,hb⟩
 have hbb:=B1.out.trans (hb.mono B1.out.size)
 have B2:=hid hbb
 have hp:=zac hb _ _ _ _ P1.out
 have k0:r1.cell? ⟨w.heap.size+1,0,none⟩=some (St d):=by rw[zJ hp];rfl
 have k1:r1.cell? ⟨w.heap.size+1,1,none⟩=some (St e):=by rw[zJ hp];rfl
 have k2:r1.cell? ⟨w.heap.size+1,2,none⟩=some (St f):=by rw[zJ hp];rfl
 have HS:=hid (C1.out r1 hbb)
 clear hb hbb hp B1 P1 HC C1
 go_wp2_with fail
 refine HS.out.mono ?_
 rintro e r2 ⟨rfl,hb⟩
 have B3:=hid (B2.out.trans (hb.mono B2.out.size))
 clear hb
 go_wp2_with fail
 go_ret
 exact⟨rfl,B3.out⟩
structure WtS (w:zA) (a0 a1 a2 b0 b1 b2 o0 o1 o2:List UInt8) (Y:Nat) (W:zA):Prop where
 bel:qL w W
 h0:W.heap[w.heap.size]? =some (.cells #[St a0,St a1,St a2] 141 (0,0))
 h1:W.heap[w.heap.size+1]? =some (.cells #[St b0,St b1,St b2] 141 (0,0))
 h2:W.heap[w.heap.size+1+1]? =some (.cells #[St [],St [],St []] 43 (0,0))
 h3:W.heap[w.heap.size+1+1+1]? =some (.cells #[St o0,St o1,St o2] 140 (0,0))
 lo:w.heap.size+1+1+1<Y
 h4:W.heap[Y]? =some (.cells #[St b0,St b1,St b2] 140 (0,0))
section
variable {w W W':zA} {a0 a1 a2 b0 b1 b2 o0 o1 o2:List UInt8} {Y:Nat}
theorem WtS.next (h:WtS w a0 a1 a2 b0 b1 b2 o0 o1 o2 Y W) (hb:qL W W'):WtS w a0 a1 a2 b0 b1 b2 o0 o1 o2 Y W':=
 have hc:=zac hb
 ⟨h.bel.trans (hb.mono h.bel.size),hc _ _ _ _ h.h0,hc _ _ _ _ h.h1,hc _ _ _ _ h.h2,hc _ _ _ _ h.h3,h.lo,hc _ _ _ _ h.h4⟩
theorem zah {W:zA} {A:Nat} {x y z:Value} {t:TypeId} (h:W.heap[A]? =some (.cells #[x,y,z] t (0,0))):W.cell? ⟨A,0,none⟩=some x/\W.cell? ⟨A,1,none⟩=some y/\W.cell? ⟨A,2,none⟩=some z/\W.frozen? ⟨A,0,none⟩=false/\W.frozen? ⟨A,1,none⟩=false/\W.frozen? ⟨A,2,none⟩=false:=
 ⟨by rw[zJ h];rfl,by rw[zJ h];rfl,by rw[zJ h];rfl,Go.Joins.unfrozen_of_block h 0,Go.Joins.unfrozen_of_block h 1,Go.Joins.unfrozen_of_block h 2⟩
theorem WtS.ne (h:WtS w a0 a1 a2 b0 b1 b2 o0 o1 o2 Y W) (i:Nat) (u:Value):qL w (W.setCell ⟨w.heap.size+1+1+1,i,none⟩ u)/\(∀b,b≠w.heap.size+1+1+1->(W.setCell ⟨w.heap.size+1+1+1,i,none⟩ u).heap[b]? =W.heap[b]?):=
 ⟨h.bel.setCell (p:=⟨w.heap.size+1+1+1,i,none⟩) (by show _<=w.heap.size+1+1+1;omega) _,λb hb=>yE _ _ _ _ (by exact hb)⟩
theorem WtS.put0 (h:WtS w a0 a1 a2 b0 b1 b2 o0 o1 o2 Y W) (u:List UInt8):WtS w a0 a1 a2 b0 b1 b2 u o1 o2 Y (W.setCell ⟨w.heap.size+1+1+1,0,none⟩ (St u)):=by
 obtain⟨k1,k2⟩:=h.ne 0 (St u)
 have:=h.lo
 exact⟨k1,(k2 _ (by omega)).trans h.h0,(k2 _ (by omega)).trans h.h1,(k2 _ (by omega)).trans h.h2,zK (i:=0) h.h3 (St u),h.lo,(k2 _ (by omega)).trans h.h4⟩
theorem WtS.put1 (h:WtS w a0 a1 a2 b0 b1 b2 o0 o1 o2 Y W) (u:List UInt8):WtS w a0 a1 a2 b0 b1 b2 o0 u o2 Y (W.setCell ⟨w.heap.size+1+1+1,1,none⟩ (St u)):=by
 obtain⟨k1,k2⟩:=h.ne 1 (St u)
 have:=h.lo
 exact⟨k1,(k2 _ (by omega)).trans h.h0,(k2 _ (by omega)).trans h.h1,(k2 _ (by omega)).trans h.h2,zK (i:=1) h.h3 (St u),h.lo,(k2 _ (by omega)).trans h.h4⟩
theorem WtS.put2 (h:WtS w a0 a1 a2 b0 b1 b2 o0 o1 o2 Y W) (u:List UInt8):WtS w a0 a1 a2 b0 b1 b2 o0 o1 u Y (W.setCell ⟨w.heap.size+1+1+1,2,none⟩ (St u)):=by
 obtain⟨k1,k2⟩:=h.ne 2 (St u)
 have:=h.lo
 exact⟨k1,(k2 _ (by omega)).trans h.h0,(k2 _ (by omega)).trans h.h1,(k2 _ (by omega)).trans h.h2,zK (i:=2) h.h3 (St u),h.lo,(k2 _ (by omega)).trans h.h4⟩
end
theorem zoo (a0 a1 a2 b0 b1 b2 c0 c1 c2:List UInt8) (g:FuncId) (eg:∀args w,(callFunc g args).run zF w=.ok (.enter g args) w) (w:zA)
 (F0:Hid (∀W:zA,qL w W->Calls zF g #[St a0,St b0] W λe w'=>e=.returned (.tuple #[St c0,.int .i64 0])/\Below W.heap.size W w'))
 (F1:Hid (∀W:zA,qL w W->Calls zF g #[St a1,St b1] W λe w'=>e=.returned (.tuple #[St c1,.int .i64 0])/\Below W.heap.size W w'))
 (F2:Hid (∀W:zA,qL w W->Calls zF g #[St a2,St b2] W λe w'=>e=.returned (.tuple #[St c2,.int .i64 0])/\Below W.heap.size W w')):
 qJ 108 #[.agg #[St a0,St a1,St a2],.agg #[St b0,St b1,St b2],.func (.func g) #[] #[]] w (.tuple #[.agg #[St c0,St c1,St c2],.int .i64 0]):=by
 have n0:=λw=>(zdr a0 a1 a2 w).1
 have n1:=λw=>(zdr a0 a1 a2 w).2.1
 have n2:=λw=>(zdr a0 a1 a2 w).2.2
 obtain⟨x1,hx1⟩:∃x1,x1=w.alloc (.cells #[St a0,St a1,St a2] 141):=⟨_,rfl⟩
 obtain⟨x2,hx2⟩:∃x2,x2=x1.alloc (.cells #[St b0,St b1,St b2] 141):=⟨_,rfl⟩
 obtain⟨x3,hx3⟩:∃x3,x3=x2.alloc (.cells #[St [],St [],St []] 43):=⟨_,rfl⟩
 obtain⟨x4,hx4⟩:∃x4,x4=x3.alloc (.cells #[St [],St [],St []] 140):=⟨_,rfl⟩
 have s1:x1.heap.size=w.heap.size+1:=by rw[hx1];simp
 have s2:x2.heap.size=w.heap.size+1+1:=by rw[hx2,zH,s1]
 have s3:x3.heap.size=w.heap.size+1+1+1:=by rw[hx3,zH,s2]
 have s4:x4.heap.size=w.heap.size+1+1+1+1:=by rw[hx4,zH,s3]
 have q1:qL w x1:=by rw[hx1];exact(zM _ w).alloc (zN _) _
 have q2:qL x1 x2:=by rw[hx2];exact(zM _ x1).alloc (zN _) _
 have q3:qL x2 x3:=by rw[hx3];exact(zM _ x2).alloc (zN _) _
 have q4:qL x3 x4:=by rw[hx4];exact(zM _ x3).alloc (zN _) _
 have f1:x1.heap[w.heap.size]? =some (.cells #[St a0,St a1,St a2] 141 (0,0)):=by rw[hx1];exact zG w _
 have f2:x2.heap[w.heap.size+1]? =some (.cells #[St b0,St b1,St b2] 141 (0,0)):=by rw[hx2,<-s1];exact zG x1 _
 have f3:x3.heap[w.heap.size+1+1]? =some (.cells #[St [],St [],St []] 43 (0,0)):=by rw[hx3,<-s2];exact zG x2 _
 have f4:x4.heap[w.heap.size+1+1+1]? =some (.cells #[St [],St [],St []] 140 (0,0)):=by rw[hx4,<-s3];exact zG x3 _
 have q24:=(q2.trans (q3.mono q2.size)).trans (q4.mono (q2.trans (q3.mono q2.size)).size)
 have q34:=q3.trans (q4.mono q3.size)
 have q14:=q1.trans (q24.mono q1.size)
 have F:=hid (⟨q14,zac q24 _ _ _ _ f1,zac q34 _ _ _ _ f2,zac q4 _ _ _ _ f3,f4,s4⟩:
  qL w x4/\x4.heap[w.heap.size]? =some (.cells #[St a0,St a1,St a2] 141 (0,0))/\x4.heap[w.heap.size+1]? =some (.cells #[St b0,St b1,St b2] 141 (0,0))/\x4.heap[w.heap.size+1+1]? =some (.cells #[St [],St [],St []] 43 (0,0))/\x4.heap[w.heap.size+1+1+1]? =some (.cells #[St [],St [],St []] 140 (0,0))/\x4.heap.size=w.heap.size+1+1+1+1)
 have hall:x4=(((w.alloc (.cells #[St a0,St a1,St a2] 141)).alloc (.cells #[St b0,St b1,St b2] 141)).alloc (.cells #[St [],St [],St []] 43)).alloc (.cells #[St [],St [],St []] 140):=by rw[hx4,hx3,hx2,hx1]
 have HV:=hid hall.symm
 have EG:=hid eg
 clear hall hx1 hx2 hx3 hx4 s1 s2 s3 s4 q1 q2 q3 q4 f1 f2 f3 f4 q24 q34 q14 eg
 clear x1 x2 x3
 go_enter Tryz.func108,Tryz.ntmps108
 go_wp2_with fail
 have h9:=HV.out
 rw[show(((w.alloc (.cells #[.string ⟨a0.toArray⟩,.string ⟨a1.toArray⟩,.string ⟨a2.toArray⟩] 141)).alloc (.cells #[.string ⟨b0.toArray⟩,.string ⟨b1.toArray⟩,.string ⟨b2.toArray⟩] 141)).alloc (.cells #[.string ⟨#[]⟩,.string ⟨#[]⟩,.string ⟨#[]⟩] 43)).alloc (.cells #[.string ⟨#[]⟩,.string ⟨#[]⟩,.string ⟨#[]⟩] 140)=x4 from h9]
 clear h9 HV
 refine(zda b0 b1 b2 x4).mono ?_
 rintro e r0 ⟨rfl,hb⟩
 obtain⟨y4,hy⟩:∃y4,y4=r0.alloc (.cells #[St b0,St b1,St b2] 140):=⟨_,rfl⟩
 have by4:qL r0 y4:=by rw[hy];exact(zM _ r0).alloc (zN _) _
 obtain⟨Y,hY⟩:∃Y,Y=r0.heap.size:=⟨_,rfl⟩
 have hYb:y4.heap[Y]? =some (.cells #[St b0,St b1,St b2] 140 (0,0)):=by rw[hy,hY];exact zG r0 _
 have hx:=hb.trans (by4.mono hb.size)
 have hck:=zac hx
 have HS0:Hid (WtS w a0 a1 a2 b0 b1 b2 [] [] [] Y y4):=hid ⟨F.out.1.trans (hx.mono F.out.1.size),hck _ _ _ _ F.out.2.1,hck _ _ _ _ F.out.2.2.1,hck _ _ _ _ F.out.2.2.2.1,hck _ _ _ _ F.out.2.2.2.2.1,by have:=hb.size;have:=F.out.2.2.2.2.2;omega,hYb⟩
 have y0:y4.cell? ⟨w.heap.size,0,none⟩=some (St a0):=(zah HS0.out.h0).1
 have y1:y4.cell? ⟨w.heap.size,1,none⟩=some (St a1):=(zah HS0.out.h0).2.1
 have y2:y4.cell? ⟨w.heap.size,2,none⟩=some (St a2):=(zah HS0.out.h0).2.2.1
 have HY:=hid hy.symm;have HYe:=hid hY.symm
 clear hb hx hck hy hY by4 hYb F
 rw[<-HY.out] at y0 y1 y2
 go_wp2_with fail
 have h9:=HY.out
 rw[show r0.alloc (.cells #[.string ⟨b0.toArray⟩,.string ⟨b1.toArray⟩,.string ⟨b2.toArray⟩] 140)=y4 from h9,HYe.out]
 clear h9 HY HYe y0 y1 y2
 refine(zda a0 a1 a2 y4).mono ?_
 rintro e t3 ⟨rfl,hb⟩
 have HP3:=hid (HS0.out.next hb)
 clear hb HS0
 go_wp2_with fail
 refine wp_loop_rounds 4 ?_
 rw[rounds_succ]
 obtain⟨d0,d1,d2, -, -, -⟩:=zah HP3.out.h4
 have heg:=EG.out
 have HC:=hid (F0.out t3 HP3.out.bel)
 go_wp2_with fail
 clear d0 d1 d2 heg
 refine HC.out.mono ?_
 rintro e r0 ⟨rfl,hb⟩
 have HR0:=hid (HP3.out.next hb)
 clear hb HC HP3
 obtain⟨d0,d1,d2,z0,z1,z2⟩:=zah HR0.out.h3
 obtain⟨t0,ht0⟩:∃t0,t0=r0.setCell ⟨w.heap.size+1+1+1,0,none⟩ (St c0):=⟨_,rfl⟩
 have hp:=HR0.out.put0 c0
 rw[<-ht0] at hp
 have HQ0:=hid hp
 have HT:=hid ht0.symm
 clear hp ht0
 go_wp2_with fail
 have h9:=HT.out
 rw[show r0.setCell ⟨w.heap.size+1+1+1,0,none⟩ (.string ⟨c0.toArray⟩)=t0 from h9]
 clear h9 HT d0 d1 d2 z0 z1 z2 HR0
 rw[rounds_succ]
 obtain⟨d0,d1,d2, -, -, -⟩:=zah HQ0.out.h4
 have heg:=EG.out
 have HC:=hid (F1.out t0 HQ0.out.bel)
 go_wp2_with fail
 clear d0 d1 d2 heg
 refine HC.out.mono ?_
 rintro e r1 ⟨rfl,hb⟩
 have HR1:=hid (HQ0.out.next hb)
 clear hb HC HQ0
 obtain⟨d0,d1,d2,z0,z1,z2⟩:=zah HR1.out.h3
 obtain⟨t1,ht1⟩:∃t1,t1=r1.setCell ⟨w.heap.size+1+1+1,1,none⟩ (St c1):=⟨_,rfl⟩
 have hp:=HR1.out.put1 c1
 rw[<-ht1] at hp
 have HQ1:=hid hp
 have HT:=hid ht1.symm
 clear hp ht1
 go_wp2_with fail
 have h9:=HT.out
 rw[show r1.setCell ⟨w.heap.size+1+1+1,1,none⟩ (.string ⟨c1.toArray⟩)=t1 from h9]
 clear h9 HT d0 d1 d2 z0 z1 z2 HR1
 rw[rounds_succ]
 obtain⟨d0,d1,d2, -, -, -⟩:=zah HQ1.out.h4
 have heg:=EG.out
 have HC:=hid (F2.out t1 HQ1.out.bel)
 go_wp2_with fail
 clear d0 d1 d2 heg
 refine HC.out.mono ?_
 rintro e r2 ⟨rfl,hb⟩
 have HR2:=hid (HQ1.out.next hb)
 clear hb HC HQ1
 obtain⟨d0,d1,d2,z0,z1,z2⟩:=zah HR2.out.h3
 obtain⟨t2,ht2⟩:∃t2,t2=r2.setCell ⟨w.heap.size+1+1+1,2,none⟩ (St c2):=⟨_,rfl⟩
 have hp:=HR2.out.put2 c2
 rw[<-ht2] at hp
 have HQ2:=hid hp
 have HT:=hid ht2.symm
 clear hp ht2
 go_wp2_with fail
 have h9:=HT.out
 rw[show r2.setCell ⟨w.heap.size+1+1+1,2,none⟩ (.string ⟨c2.toArray⟩)=t2 from h9]
 clear h9 HT d0 d1 d2 z0 z1 z2 HR2
 rw[rounds_succ]
 obtain⟨d0,d1,d2, -, -, -⟩:=zah HQ2.out.h3
 go_wp2_with fail
 clear d0 d1 d2
 refine(zlf c0 c1 c2 t2).mono ?_
 rintro e r3 ⟨rfl,hb⟩
 have hn:=HQ2.out.next hb
 obtain⟨d0,d1,d2,z0,z1,z2⟩:=zah hn.h2
 have HF:=hid hn
 clear hn hb HQ2
 go_wp2_with fail
 have hf:=HF.out.bel
 exact bodyPost_ret (v:=.tuple #[.agg #[St c0,St c1,St c2],.int .i64 0]) (by simp[results,Tryz.results108,go_sem,d0,d1,d2]) rfl ⟨rfl,((hf.setCell (p:=⟨w.heap.size+1+1,0,none⟩) (by show _<=w.heap.size+1+1;omega) _).setCell (p:=⟨w.heap.size+1+1,1,none⟩) (by show _<=w.heap.size+1+1;omega) _).setCell (p:=⟨w.heap.size+1+1,2,none⟩) (by show _<=w.heap.size+1+1;omega) _⟩
theorem zfs {w v1:zA} {a b c d e f:Value} {s t:TypeId} (hv:v1=(w.alloc (.cells #[a,b,c] s)).alloc (.cells #[d,e,f] t)):
 qL w v1/\v1.heap[w.heap.size]? =some (.cells #[a,b,c] s (0,0))/\v1.heap[w.heap.size+1]? =some (.cells #[d,e,f] t (0,0))/\v1.heap.size=w.heap.size+1+1:=by
 refine⟨by rw[hv];exact((zM _ w).alloc (zN _) _).alloc (by simp) _,by rw[hv];exact(Below.heap_alloc _ _ _ (by simp)).trans (zG w _),?_,by rw[hv];simp⟩
 rw[hv]
 have:=zG (w.alloc (.cells #[a,b,c] s)) (.cells #[d,e,f] t)
 rw[zH] at this
 exact this
theorem zqa (a0 a1 a2 b0 b1 b2 c0 c1 c2 s r:List UInt8) (w:zA)
 (WI:Hid (∀W:zA,qL w W->qJ 108 #[.agg #[St a0,St a1,St a2],.agg #[St b0,St b1,St b2],.func (.func 7) #[] #[]] W (.tuple #[.agg #[St c0,St c1,St c2],.int .i64 0])))
 (D1:Hid (∀W:zA,qL w W->qJ 45 #[St c0,St c1] W (.tuple #[St s,.int .i64 0])))
 (D2:Hid (∀W:zA,qL w W->qJ 45 #[St s,St c2] W (.tuple #[St r,.int .i64 0]))):
 qJ 105 #[.agg #[St a0,St a1,St a2],.agg #[St b0,St b1,St b2]] w (.tuple #[St r,.int .i64 0]):=by
 obtain⟨v1,hv⟩:∃v1,v1=(w.alloc (.cells #[St a0,St a1,St a2] 141)).alloc (.cells #[St b0,St b1,St b2] 141):=⟨_,rfl⟩
 have b1:=(zfs hv).1
 have HC:=hid (WI.out v1 b1)
 have B1:=hid b1
 have HV:=hid hv.symm
 clear hv b1 WI
 go_enter Tryz.func105,Tryz.ntmps105
 go_wp2_with fail
 have h9:=HV.out
 rw[show(w.alloc (.cells #[.string ⟨a0.toArray⟩,.string ⟨a1.toArray⟩,.string ⟨a2.toArray⟩] 141)).alloc (.cells #[.string ⟨b0.toArray⟩,.string ⟨b1.toArray⟩,.string ⟨b2.toArray⟩] 141)=v1 from h9]
 clear h9 HV
 refine HC.out.mono ?_
 rintro e r0 ⟨rfl,hb⟩
 obtain⟨y4,hy⟩:∃y4,y4=r0.alloc (.cells #[St c0,St c1,St c2] 43):=⟨_,rfl⟩
 have by4:qL r0 y4:=by rw[hy];exact(zM _ r0).alloc (zN _) _
 obtain⟨Y,hY⟩:∃Y,Y=r0.heap.size:=⟨_,rfl⟩
 have hYb:y4.heap[Y]? =some (.cells #[St c0,St c1,St c2] 43 (0,0)):=by rw[hy,hY];exact zG r0 _
 have hx:=hb.trans (by4.mono hb.size)
 have hB:=B1.out.trans (hx.mono B1.out.size)
 have B2:=hid hB
 have HD:=hid (D1.out y4 hB)
 have P2:=hid hYb
 obtain⟨d0,d1,d2, -, -, -⟩:=zah hYb
 have HY:=hid hy.symm;have HYe:=hid hY.symm
 clear hb hx hy hY by4 hYb hB B1 D1 HC
 rw[<-HY.out] at d0 d1 d2
 go_wp2_with fail
 have h9:=HY.out
 rw[show r0.alloc (.cells #[.string ⟨c0.toArray⟩,.string ⟨c1.toArray⟩,.string ⟨c2.toArray⟩] 43)=y4 from h9]
 try rw[HYe.out]
 clear h9 HY HYe d0 d1 d2
 refine HD.out.mono ?_
 rintro e r1 ⟨rfl,hb⟩
 have hB:=B2.out.trans (hb.mono B2.out.size)
 have B3:=hid hB
 have HD2:=hid (D2.out r1 hB)
 obtain⟨d0,d1,d2, -, -, -⟩:=zah (zac hb _ _ _ _ P2.out)
 clear hb hB HD D2 B2 P2
 go_wp2_with fail
 clear d0 d1 d2
 refine HD2.out.mono ?_
 rintro e r2 ⟨rfl,hb⟩
 have B4:=hid (B3.out.trans (hb.mono B3.out.size))
 clear hb HD2 B3
 go_wp2_with fail
 go_ret2
 exact⟨rfl,B4.out⟩
theorem zll (a0 a1 a2 b0 b1 b2 r:List UInt8) (w:zA)
 (BO:Hid (∀W:zA,qL w W->qJ 103 #[.agg #[St a0,St a1,St a2],.agg #[St b0,St b1,St b2]] W (.int .i64 0)))
 (DO:Hid (∀W:zA,qL w W->qJ 105 #[.agg #[St a0,St a1,St a2],.agg #[St b0,St b1,St b2]] W (.tuple #[St r,.int .i64 0]))):
 qJ 58 #[.agg #[St a0,St a1,St a2],.agg #[St b0,St b1,St b2]] w (.tuple #[St r,.int .i64 0]):=by
 obtain⟨v1,hv⟩:∃v1,v1=(w.alloc (.cells #[St a0,St a1,St a2] 43)).alloc (.cells #[St b0,St b1,St b2] 43):=⟨_,rfl⟩
 obtain⟨b1,p1,p2, -⟩:=zfs hv
 have HC:=hid (BO.out v1 b1)
 have B1:=hid b1;have P1:=hid p1;have P2:=hid p2
 have HV:=hid hv.symm
 clear hv b1 BO p1 p2
 go_enter Tryz.func58,Tryz.ntmps58
 go_wp2_with fail
 have h9:=HV.out
 rw[show(w.alloc (.cells #[.string ⟨a0.toArray⟩,.string ⟨a1.toArray⟩,.string ⟨a2.toArray⟩] 43)).alloc (.cells #[.string ⟨b0.toArray⟩,.string ⟨b1.toArray⟩,.string ⟨b2.toArray⟩] 43)=v1 from h9]
 clear h9 HV
 refine HC.out.mono ?_
 rintro e r0 ⟨rfl,hb⟩
 have hB:=B1.out.trans (hb.mono B1.out.size)
 have B2:=hid hB
 have HD:=hid (DO.out r0 hB)
 obtain⟨d0,d1,d2, -, -, -⟩:=zah (zac hb _ _ _ _ P1.out)
 obtain⟨d3,d4,d5, -, -, -⟩:=zah (zac hb _ _ _ _ P2.out)
 clear hb hB B1 DO HC P1 P2
 go_wp2_with fail
 clear d0 d1 d2 d3 d4 d5
 refine HD.out.mono ?_
 rintro e r2 ⟨rfl,hb⟩
 have B4:=hid (B2.out.trans (hb.mono B2.out.size))
 clear hb HD B2
 go_wp2_with fail
 go_ret2
 exact⟨rfl,B4.out⟩
theorem zhm {w v1:zA} {a b c d e f x y z:Value} {s t u:TypeId} (hv:v1=((w.alloc (.cells #[a,b,c] s)).alloc (.cells #[d,e,f] t)).alloc (.cells #[x,y,z] u)):
 qL w v1/\v1.heap[w.heap.size]? =some (.cells #[a,b,c] s (0,0))/\v1.heap[w.heap.size+1]? =some (.cells #[d,e,f] t (0,0))/\v1.heap[w.heap.size+1+1]? =some (.cells #[x,y,z] u (0,0))/\v1.heap.size=w.heap.size+1+1+1:=by
 obtain⟨v0,h0⟩:∃v0,v0=(w.alloc (.cells #[a,b,c] s)).alloc (.cells #[d,e,f] t):=⟨_,rfl⟩
 obtain⟨h1,h2,h3,h4⟩:=zfs h0
 rw[<-h0] at hv
 have hb:qL v0 v1:=by rw[hv];exact(zM _ v0).alloc (zN _) _
 have hc:=zac hb
 exact⟨h1.trans (hb.mono h1.size),hc _ _ _ _ h2,hc _ _ _ _ h3,by rw[hv,<-h4];exact zG v0 _,by rw[hv,zH,h4]⟩
theorem zjm (a0 a1 a2 b0 b1 b2 c0 c1 c2:List UInt8) (w:zA)
 (BO:Hid (∀W:zA,qL w W->qJ 103 #[.agg #[St a0,St a1,St a2],.agg #[St b0,St b1,St b2]] W (.int .i64 0)))
 (DO:Hid (∀W:zA,qL w W->qJ 104 #[.agg #[St a0,St a1,St a2],.agg #[St b0,St b1,St b2]] W (.tuple #[.agg #[St c0,St c1,St c2],.int .i64 0]))):
 qJ 57 #[.agg #[St a0,St a1,St a2],.agg #[St b0,St b1,St b2]] w (.tuple #[.agg #[St c0,St c1,St c2],.int .i64 0]):=by
 obtain⟨v1,hv⟩:∃v1,v1=((w.alloc (.cells #[St a0,St a1,St a2] 43)).alloc (.cells #[St b0,St b1,St b2] 43)).alloc (.cells #[St [],St [],St []] 43):=⟨_,rfl⟩
 obtain⟨b1,p1,p2,p3, -⟩:=zhm hv
 have HC:=hid (BO.out v1 b1)
 have B1:=hid b1;have P1:=hid p1;have P2:=hid p2;have P3:=hid p3
 have HV:=hid hv.symm
 clear hv b1 BO p1 p2 p3
 go_enter Tryz.func57,Tryz.ntmps57
 go_wp2_with fail
 have h9:=HV.out
 rw[show((w.alloc (.cells #[.string ⟨a0.toArray⟩,.string ⟨a1.toArray⟩,.string ⟨a2.toArray⟩] 43)).alloc (.cells #[.string ⟨b0.toArray⟩,.string ⟨b1.toArray⟩,.string ⟨b2.toArray⟩] 43)).alloc (.cells #[.string ⟨#[]⟩,.string ⟨#[]⟩,.string ⟨#[]⟩] 43)=v1 from h9]
 clear h9 HV
 refine HC.out.mono ?_
 rintro e r0 ⟨rfl,hb⟩
 have hB:=B1.out.trans (hb.mono B1.out.size)
 have B2:=hid hB
 have HD:=hid (DO.out r0 hB)
 obtain⟨d0,d1,d2, -, -, -⟩:=zah (zac hb _ _ _ _ P1.out)
 obtain⟨d3,d4,d5, -, -, -⟩:=zah (zac hb _ _ _ _ P2.out)
 have P4:=hid (zac hb _ _ _ _ P3.out)
 clear hb hB B1 DO HC P1 P2 P3
 go_wp2_with fail
 clear d0 d1 d2 d3 d4 d5
 refine HD.out.mono ?_
 rintro e r2 ⟨rfl,hb⟩
 have hf:=B2.out.trans (hb.mono B2.out.size)
 have B4:=hid hf
 obtain⟨d0,d1,d2,z0,z1,z2⟩:=zah (zac hb _ _ _ _ P4.out)
 clear hb HD B2 P4 hf
 go_wp2_with fail
 exact bodyPost_ret (v:=.tuple #[.agg #[St c0,St c1,St c2],.int .i64 0]) (by simp[results,Tryz.results57,go_sem,d0,d1,d2]) rfl ⟨rfl,((B4.out.setCell (p:=⟨w.heap.size+1+1,0,none⟩) (by show _<=w.heap.size+1+1;omega) _).setCell (p:=⟨w.heap.size+1+1,1,none⟩) (by show _<=w.heap.size+1+1;omega) _).setCell (p:=⟨w.heap.size+1+1,2,none⟩) (by show _<=w.heap.size+1+1;omega) _⟩
theorem zj3 (a0 a1 a2 x c0 c1 c2:List UInt8) (w:zA)
 (CK:Hid (∀W:zA,qL w W->qJ 34 #[.agg #[St a0,St a1,St a2]] W (.int .i64 0)))
 (CX:Hid (∀W:zA,qL w W->qJ 27 #[St x] W (.int .i64 0)))
 (WI:Hid (∀W:zA,qL w W->qJ 108 #[.agg #[St a0,St a1,St a2],.agg #[St x,St x,St x],.func (.func 7) #[] #[]] W (.tuple #[.agg #[St c0,St c1,St c2],.int .i64 0]))):
 qJ 60 #[.agg #[St a0,St a1,St a2],St x] w (.tuple #[.agg #[St c0,St c1,St c2],.int .i64 0]):=by
 obtain⟨v1,hv⟩:∃v1,v1=(w.alloc (.cells #[St a0,St a1,St a2] 43)).alloc (.cells #[St [],St [],St []] 43):=⟨_,rfl⟩
 obtain⟨b1,p1,p2, -⟩:=zfs hv
 have HC:=hid (CK.out v1 b1)
 have B1:=hid b1;have P1:=hid p1;have P2:=hid p2
 have HV:=hid hv.symm
 clear hv b1 CK p1 p2
 go_enter Tryz.func60,Tryz.ntmps60
 go_wp2_with fail
 have h9:=HV.out
 rw[show(w.alloc (.cells #[.string ⟨a0.toArray⟩,.string ⟨a1.toArray⟩,.string ⟨a2.toArray⟩] 43)).alloc (.cells #[.string ⟨#[]⟩,.string ⟨#[]⟩,.string ⟨#[]⟩] 43)=v1 from h9]
 clear h9 HV
 refine HC.out.mono ?_
 rintro e r0 ⟨rfl,hb⟩
 have hB:=B1.out.trans (hb.mono B1.out.size)
 have B2:=hid hB
 have HD:=hid (CX.out r0 hB)
 have P3:=hid (zac hb _ _ _ _ P1.out)
 have P4:=hid (zac hb _ _ _ _ P2.out)
 clear hb hB B1 CX HC P1 P2
 go_wp2_with fail
 refine HD.out.mono ?_
 rintro e r1 ⟨rfl,hb⟩
 have hB:=B2.out.trans (hb.mono B2.out.size)
 have B3:=hid hB
 have HW:=hid (WI.out r1 hB)
 obtain⟨d0,d1,d2, -, -, -⟩:=zah (zac hb _ _ _ _ P3.out)
 have P5:=hid (zac hb _ _ _ _ P4.out)
 clear hb hB B2 WI HD P3 P4
 go_wp2_with fail
 clear d0 d1 d2
 refine HW.out.mono ?_
 rintro e r2 ⟨rfl,hb⟩
 have B4:=hid (B3.out.trans (hb.mono B3.out.size))
 obtain⟨d0,d1,d2,z0,z1,z2⟩:=zah (zac hb _ _ _ _ P5.out)
 clear hb HW B3 P5
 go_wp2_with fail
 exact bodyPost_ret (v:=.tuple #[.agg #[St c0,St c1,St c2],.int .i64 0]) (by simp[results,Tryz.results60,go_sem,d0,d1,d2]) rfl ⟨rfl,((B4.out.setCell (p:=⟨w.heap.size+1,0,none⟩) (by show _<=w.heap.size+1;omega) _).setCell (p:=⟨w.heap.size+1,1,none⟩) (by show _<=w.heap.size+1;omega) _).setCell (p:=⟨w.heap.size+1,2,none⟩) (by show _<=w.heap.size+1;omega) _⟩
structure BoxS (n X0 Y0:Nat) (z:Array Value) (c:Nat->Array Value) (t:TypeId) (w:zA) (q:Nat->Nat) (f:Nat->Bool) (W:zA):Prop where
 bel:qL w W
 lo:∀i,i<n->f (X0+i)=true->w.heap.size<=q i
 ne:∀i j,i<n->j<n->i≠j->f (X0+i)=true->f (X0+j)=true->q i≠q j
 blk:∀i,i<n->f (X0+i)=true->W.heap[q i]? =some (.cells (if f (Y0+i)=true then c i else z) t (0,0))
section
variable {n X0 Y0:Nat} {z:Array Value} {c:Nat->Array Value} {t:TypeId} {w W W':zA} {q:Nat->Nat} {f:Nat->Bool}
theorem BoxS.start (hb:qL w W):BoxS n X0 Y0 z c t w q (λ_=>false) W:=⟨hb,λ_ _ k=>(by cases k),λ_ _ _ _ _ k=>(by cases k),λ_ _ k=>(by cases k)⟩
theorem BoxS.step (h:BoxS n X0 Y0 z c t w q f W) (k:Nat) (h1:k<X0\/X0+n<=k) (h2:k<Y0\/Y0+n<=k):BoxS n X0 Y0 z c t w q (λj=>if k=j then true else f j) W:=by
 have e1:∀i,i<n->(if k=X0+i then true else f (X0+i))=f (X0+i):=λi hi=>if_neg (by omega)
 have e2:∀i,i<n->(if k=Y0+i then true else f (Y0+i))=f (Y0+i):=λi hi=>if_neg (by omega)
 exact⟨h.bel,λi hi=>by simp only[e1 i hi];exact h.lo i hi,λi j hi hj=>by simp only[e1 i hi,e1 j hj];exact h.ne i j hi hj,λi hi=>by simp only[e1 i hi,e2 i hi];exact h.blk i hi⟩
theorem BoxS.next (h:BoxS n X0 Y0 z c t w q f W) (hb:qL W W'):BoxS n X0 Y0 z c t w q f W':=
 ⟨h.bel.trans (hb.mono h.bel.size),h.lo,h.ne,λi hi k=>zac hb _ _ _ _ (h.blk i hi k)⟩
theorem BoxS.new (h:BoxS n X0 Y0 z c t w q f W) (i:Nat) (hi:i<n) (h0:f (Y0+i)=false) (hX:X0+n<=Y0):BoxS n X0 Y0 z c t w (λj=>if j=i then W.heap.size else q j) (λj=>if X0+i=j then true else f j) (W.alloc (.cells z t)):=by
 have hb:qL W (W.alloc (.cells z t)):=(zM _ W).alloc (zN _) _
 have e2:∀k,k<n->(if X0+i=Y0+k then true else f (Y0+k))=f (Y0+k):=λk hk=>if_neg (by omega)
 have e1:∀k,k≠i->(if X0+i=X0+k then true else f (X0+k))=f (X0+k):=λk hk=>if_neg (by omega)
 have lt:∀k,k<n->f (X0+k)=true->q k<W.heap.size:=λk hk hf=>(Array.getElem?_eq_some_iff.1 (h.blk k hk hf)).1
 refine⟨h.bel.trans (hb.mono h.bel.size),λk hk=>?_,λa b ha hb' hab=>?_,λk hk=>?_⟩
 ·by_cases e:k=i
  ·simp only[if_pos e];exact λ_=>h.bel.size
  ·simp only[if_neg e,e1 k e];exact h.lo k hk
 ·by_cases ea:a=i
  ·have eb:b≠i:=λeb=>hab (ea.trans eb.symm)
   simp only[if_pos ea,if_neg eb,e1 b eb]
   intro _ hf
   have:=lt b hb' hf;omega
  ·by_cases eb:b=i
   ·simp only[if_neg ea,if_pos eb,e1 a ea]
    intro hf _
    have:=lt a ha hf;omega
   ·simp only[if_neg ea,if_neg eb,e1 a ea,e1 b eb];exact h.ne a b ha hb' hab
 ·simp only[e2 k hk]
  by_cases e:k=i
  ·simp only[if_pos e]
   intro _
   rw[show f (Y0+k)=false by rw[e];exact h0]
   exact zG _ _
  ·simp only[if_neg e,e1 k e]
   intro hf
   exact zac hb _ _ _ _ (h.blk k hk hf)
theorem BoxS.put (h:BoxS n X0 Y0 z c t w q f W) (i:Nat) (hi:i<n) (k:f (X0+i)=true) (hX:X0+n<=Y0) (u0 u1 u2:Value) (hc:c i= #[u0,u1,u2]) (hz:z.size=3):BoxS n X0 Y0 z c t w q (λj=>if Y0+i=j then true else f j) (((W.setCell ⟨q i,0,none⟩ u0).setCell ⟨q i,1,none⟩ u1).setCell ⟨q i,2,none⟩ u2):=by
 have hl:=h.lo i hi k
 have e1:∀k,k<n->(if Y0+i=X0+k then true else f (X0+k))=f (X0+k):=λk hk=>if_neg (by omega)
 refine⟨((h.bel.setCell (p:=⟨q i,0,none⟩) (by exact hl) _).setCell (p:=⟨q i,1,none⟩) (by exact hl) _).setCell (p:=⟨q i,2,none⟩) (by exact hl) _,λj hj=>by simp only[e1 j hj];exact h.lo j hj,λa b ha hb=>by simp only[e1 a ha,e1 b hb];exact h.ne a b ha hb,λj hj=>?_⟩
 simp only[e1 j hj]
 intro hf
 by_cases e:j=i
 ·subst e
  rw[if_pos (show(if Y0+j=Y0+j then true else f (Y0+j))=true from if_pos rfl),hc]
  have hb:=h.blk j hj hf
  have hs:(if f (Y0+j)=true then c j else z).size=3:=by split;rw[hc];rfl;exact hz
  rw[zK (i:=2) (zK (i:=1) (zK (i:=0) hb u0) u1) u2]
  generalize (if f (Y0+j)=true then c j else z)=m at hs
  obtain⟨l⟩:=m
  match l,hs with
  |[a,b,c],_=>rfl
 ·have hn:=h.ne j i hj hi e hf k
  rw[if_neg (show Y0+i≠Y0+j by omega),yE _ _ _ _ (by exact hn),yE _ _ _ _ (by exact hn),yE _ _ _ _ (by exact hn)]
  exact h.blk j hj hf
theorem BoxS.open (h:BoxS n X0 Y0 z c t w q f W) (i:Nat) (hi:i<n) (k:f (X0+i)=true) (hz:z.size=3) (hc:(c i).size=3):(∃s,W.cell? ⟨q i,0,none⟩=some s)/\(∃s,W.cell? ⟨q i,1,none⟩=some s)/\(∃s,W.cell? ⟨q i,2,none⟩=some s)/\W.frozen? ⟨q i,0,none⟩=false/\W.frozen? ⟨q i,1,none⟩=false/\W.frozen? ⟨q i,2,none⟩=false:=by
 have hb:=h.blk i hi k
 have hs:(if f (Y0+i)=true then c i else z).size=3:=by split;exact hc;exact hz
 generalize (if f (Y0+i)=true then c i else z)=m at hb hs
 obtain⟨l⟩:=m
 match l,hs with
 |[a,b,c],_=>exact⟨⟨a,(zah hb).1⟩,⟨b,(zah hb).2.1⟩,⟨c,(zah hb).2.2.1⟩,(zah hb).2.2.2.1,(zah hb).2.2.2.2.1,(zah hb).2.2.2.2.2⟩
end
structure CrS (w:zA) (x0 x1 x2 y0 y1 y2 o0 o1 o2:List UInt8) (Y1 Y2:Nat) (W:zA):Prop where
 bel:qL w W
 h2:W.heap[w.heap.size+1+1]? =some (.cells #[St [],St [],St []] 43 (0,0))
 h3:W.heap[w.heap.size+1+1+1]? =some (.cells #[St o0,St o1,St o2] 140 (0,0))
 lo1:w.heap.size+1+1+1<Y1
 lo2:w.heap.size+1+1+1<Y2
 h4:W.heap[Y1]? =some (.cells #[St x0,St x1,St x2] 140 (0,0))
 h5:W.heap[Y2]? =some (.cells #[St y0,St y1,St y2] 140 (0,0))
section
variable {w W W':zA} {x0 x1 x2 y0 y1 y2 o0 o1 o2:List UInt8} {Y1 Y2:Nat}
theorem CrS.next (h:CrS w x0 x1 x2 y0 y1 y2 o0 o1 o2 Y1 Y2 W) (hb:qL W W'):CrS w x0 x1 x2 y0 y1 y2 o0 o1 o2 Y1 Y2 W':=
 have hc:=zac hb
 ⟨h.bel.trans (hb.mono h.bel.size),hc _ _ _ _ h.h2,hc _ _ _ _ h.h3,h.lo1,h.lo2,hc _ _ _ _ h.h4,hc _ _ _ _ h.h5⟩
theorem CrS.ne (h:CrS w x0 x1 x2 y0 y1 y2 o0 o1 o2 Y1 Y2 W) (i:Nat) (u:Value):qL w (W.setCell ⟨w.heap.size+1+1+1,i,none⟩ u)/\(∀b,b≠w.heap.size+1+1+1->(W.setCell ⟨w.heap.size+1+1+1,i,none⟩ u).heap[b]? =W.heap[b]?):=
 ⟨h.bel.setCell (p:=⟨w.heap.size+1+1+1,i,none⟩) (by show _<=w.heap.size+1+1+1;omega) _,λb hb=>yE _ _ _ _ (by exact hb)⟩
theorem CrS.put0 (h:CrS w x0 x1 x2 y0 y1 y2 o0 o1 o2 Y1 Y2 W) (u:List UInt8):CrS w x0 x1 x2 y0 y1 y2 u o1 o2 Y1 Y2 (W.setCell ⟨w.heap.size+1+1+1,0,none⟩ (St u)):=by
 obtain⟨k1,k2⟩:=h.ne 0 (St u)
 have:=h.lo1;have:=h.lo2
 exact⟨k1,(k2 _ (by omega)).trans h.h2,zK (i:=0) h.h3 (St u),h.lo1,h.lo2,(k2 _ (by omega)).trans h.h4,(k2 _ (by omega)).trans h.h5⟩
theorem CrS.put1 (h:CrS w x0 x1 x2 y0 y1 y2 o0 o1 o2 Y1 Y2 W) (u:List UInt8):CrS w x0 x1 x2 y0 y1 y2 o0 u o2 Y1 Y2 (W.setCell ⟨w.heap.size+1+1+1,1,none⟩ (St u)):=by
 obtain⟨k1,k2⟩:=h.ne 1 (St u)
 have:=h.lo1;have:=h.lo2
 exact⟨k1,(k2 _ (by omega)).trans h.h2,zK (i:=1) h.h3 (St u),h.lo1,h.lo2,(k2 _ (by omega)).trans h.h4,(k2 _ (by omega)).trans h.h5⟩
theorem CrS.put2 (h:CrS w x0 x1 x2 y0 y1 y2 o0 o1 o2 Y1 Y2 W) (u:List UInt8):CrS w x0 x1 x2 y0 y1 y2 o0 o1 u Y1 Y2 (W.setCell ⟨w.heap.size+1+1+1,2,none⟩ (St u)):=by
 obtain⟨k1,k2⟩:=h.ne 2 (St u)
 have:=h.lo1;have:=h.lo2
 exact⟨k1,(k2 _ (by omega)).trans h.h2,zK (i:=2) h.h3 (St u),h.lo1,h.lo2,(k2 _ (by omega)).trans h.h4,(k2 _ (by omega)).trans h.h5⟩
end
theorem zm3 (x0 x1 x2 y0 y1 y2 p0 p1 p2 q0 q1 q2 c0 c1 c2:List UInt8) (w:zA)
 (P0:Hid (∀W:zA,qL w W->qJ 7 #[St x1,St y2] W (.tuple #[St p0,.int .i64 0])))
 (Q0:Hid (∀W:zA,qL w W->qJ 7 #[St x2,St y1] W (.tuple #[St q0,.int .i64 0])))
 (S0:Hid (∀W:zA,qL w W->qJ 14 #[St p0,St q0] W (.tuple #[St c0,.int .i64 0])))
 (P1:Hid (∀W:zA,qL w W->qJ 7 #[St x2,St y0] W (.tuple #[St p1,.int .i64 0])))
 (Q1:Hid (∀W:zA,qL w W->qJ 7 #[St x0,St y2] W (.tuple #[St q1,.int .i64 0])))
 (S1:Hid (∀W:zA,qL w W->qJ 14 #[St p1,St q1] W (.tuple #[St c1,.int .i64 0])))
 (P2:Hid (∀W:zA,qL w W->qJ 7 #[St x0,St y1] W (.tuple #[St p2,.int .i64 0])))
 (Q2:Hid (∀W:zA,qL w W->qJ 7 #[St x1,St y0] W (.tuple #[St q2,.int .i64 0])))
 (S2:Hid (∀W:zA,qL w W->qJ 14 #[St p2,St q2] W (.tuple #[St c2,.int .i64 0]))):
 qJ 104 #[.agg #[St x0,St x1,St x2],.agg #[St y0,St y1,St y2]] w (.tuple #[.agg #[St c0,St c1,St c2],.int .i64 0]):=by
 obtain⟨z3,hz3⟩:∃z3,z3=((w.alloc (.cells #[St x0,St x1,St x2] 141)).alloc (.cells #[St y0,St y1,St y2] 141)).alloc (.cells #[St [],St [],St []] 43):=⟨_,rfl⟩
 obtain⟨g1,g2,g3,g4,g5⟩:=zhm hz3
 obtain⟨z4,hz4⟩:∃z4,z4=z3.alloc (.cells #[St [],St [],St []] 140):=⟨_,rfl⟩
 have b4:qL z3 z4:=by rw[hz4];exact(zM _ z3).alloc (zN _) _
 have hck:=zac b4
 have F:=hid (⟨g1.trans (b4.mono g1.size),hck _ _ _ _ g2,hck _ _ _ _ g3,hck _ _ _ _ g4,by rw[hz4,<-g5];exact zG z3 _,by rw[hz4,zH,g5]⟩:
  qL w z4/\z4.heap[w.heap.size]? =some (.cells #[St x0,St x1,St x2] 141 (0,0))/\z4.heap[w.heap.size+1]? =some (.cells #[St y0,St y1,St y2] 141 (0,0))/\z4.heap[w.heap.size+1+1]? =some (.cells #[St [],St [],St []] 43 (0,0))/\z4.heap[w.heap.size+1+1+1]? =some (.cells #[St [],St [],St []] 140 (0,0))/\z4.heap.size=w.heap.size+1+1+1+1)
 have hall:z4=(((w.alloc (.cells #[St x0,St x1,St x2] 141)).alloc (.cells #[St y0,St y1,St y2] 141)).alloc (.cells #[St [],St [],St []] 43)).alloc (.cells #[St [],St [],St []] 140):=by rw[hz4,hz3]
 have HV:=hid hall.symm
 clear hall hz3 hz4 g1 g2 g3 g4 g5 b4 hck
 clear z3
 go_enter Tryz.func104,Tryz.ntmps104
 go_wp2_with fail
 have h9:=HV.out
 rw[show(((w.alloc (.cells #[.string ⟨x0.toArray⟩,.string ⟨x1.toArray⟩,.string ⟨x2.toArray⟩] 141)).alloc (.cells #[.string ⟨y0.toArray⟩,.string ⟨y1.toArray⟩,.string ⟨y2.toArray⟩] 141)).alloc (.cells #[.string ⟨#[]⟩,.string ⟨#[]⟩,.string ⟨#[]⟩] 43)).alloc (.cells #[.string ⟨#[]⟩,.string ⟨#[]⟩,.string ⟨#[]⟩] 140)=z4 from h9]
 clear h9 HV
 have KA:=hid (λW (h:qL z4 W)=>(⟨zah (zac h _ _ _ _ F.out.2.1),zah (zac h _ _ _ _ F.out.2.2.1)⟩:(_/\_/\_/\_/\_/\_)/\_/\_/\_/\_/\_/\_))
 refine zc4 (λ(q:Nat->Nat) i=>([.agg #[St x0,St x1,St x2],.agg #[St x0,St x1,St x2],.agg #[St y0,St y1,St y2],.agg #[St y0,St y1,St y2],.pointer (some ⟨q 0,0,none⟩),.pointer (some ⟨q 1,0,none⟩),undef,undef]:List Value).getD i undef)
  (BoxS 2 4 6 #[St [],St [],St []] (λi=>if i=0 then #[St x0,St x1,St x2] else #[St y0,St y1,St y2]) 140 z4) (by kernel_rfl) (by kernel_rfl) (λ_=>0) (BoxS.start (zM _ z4).drew) λq=>?_
 refine qB (.agg #[St x0,St x1,St x2]) (λf W' h=>h.step 0 (by decide) (by decide)) ?_ (hy:=λf W' hf h=>by obtain⟨⟨d0,d1,d2, -⟩, -⟩:=KA.out W' h.bel;go_simp)
 simp only[zzQ]
 refine zbv (.agg #[St x0,St x1,St x2]) (by rfl) (by rfl) (λf W' hf h C' hC'=>by
  go_simp
  refine(zda x0 x1 x2 W').mono ?_
  rintro e w' ⟨rfl,hb⟩
  exact⟨_,rfl,hC' _ ((h.next hb).step 1 (by decide) (by decide))⟩) ?_
 try simp only[zzQ]
 refine qB (.agg #[St y0,St y1,St y2]) (λf W' h=>h.step 2 (by decide) (by decide)) ?_ (hy:=λf W' hf h=>by obtain⟨-,d0,d1,d2, -⟩:=KA.out W' h.bel;go_simp)
 simp only[zzQ]
 refine zbv (.agg #[St y0,St y1,St y2]) (by rfl) (by rfl) (λf W' hf h C' hC'=>by
  go_simp
  refine(zda y0 y1 y2 W').mono ?_
  rintro e w' ⟨rfl,hb⟩
  exact⟨_,rfl,hC' _ ((h.next hb).step 3 (by decide) (by decide))⟩) ?_
 try simp only[zzQ]
 refine zdc (.pointer (some ⟨q 0,0,none⟩)) (by rfl) (by rfl) (λf W' hf h C' hC'=>by
  have h0:=hf.self
  have h1:=hf.no (j:=6) hf.self (by kernel_rfl)
  have hc:=hC' (λj=>if j=0 then W'.heap.size else q j) _ (λj hj=>by
   match j,hj with
   |0,_|1,_|2,_|3,_|5,_|6,_|7,_=>rfl
   |4,hj=>rw[h0] at hj;cases hj
   |_+8,_=>rfl) (h.new 0 (by decide) h1 (by decide))
  clear h hC'
  go_simp
  exact hc) ?_
 try simp only[zzQ]
 refine zdc (.pointer (some ⟨q 1,0,none⟩)) (by rfl) (by rfl) (λf W' hf h C' hC'=>by
  have h0:=hf.self
  have h1:=hf.no (j:=7) hf.self (by kernel_rfl)
  have hc:=hC' (λj=>if j=1 then W'.heap.size else q j) _ (λj hj=>by
   match j,hj with
   |0,_|1,_|2,_|3,_|4,_|6,_|7,_=>rfl
   |5,hj=>rw[h0] at hj;cases hj
   |_+8,_=>rfl) (h.new 1 (by decide) h1 (by decide))
  clear h hC'
  go_simp
  exact hc) ?_
 try simp only[zzQ]
 refine zbv undef (by rfl) (by rfl) (λf W' hf h C' hC'=>by
  have h0:=hf.done 4 (by kernel_rfl)
  obtain⟨⟨s0,d0⟩,⟨s1,d1⟩,⟨s2,d2⟩,z0,z1,z2⟩:=h.open 0 (by decide) h0 rfl rfl
  have hc:=hC' _ (h.put 0 (by decide) h0 (by decide) (St x0) (St x1) (St x2) rfl rfl)
  clear h hC'
  go_simp
  exact hc) ?_
 try simp only[zzQ]
 refine zbv undef (by rfl) (by rfl) (λf W' hf h C' hC'=>by
  have h0:=hf.done 5 (by kernel_rfl)
  obtain⟨⟨s0,d0⟩,⟨s1,d1⟩,⟨s2,d2⟩,z0,z1,z2⟩:=h.open 1 (by decide) h0 rfl rfl
  have hc:=hC' _ (h.put 1 (by decide) h0 (by decide) (St y0) (St y1) (St y2) rfl rfl)
  clear h hC'
  go_simp
  exact hc) ?_
 try simp only[zzQ]
 refine ze1 λf X hf h=>?_
 obtain⟨Y1,hY1⟩:∃Y1,Y1=q 0:=⟨_,rfl⟩
 obtain⟨Y2,hY2⟩:∃Y2,Y2=q 1:=⟨_,rfl⟩
 have hA:=h.blk 0 (by decide) (hf 4 (by decide))
 have hB:=h.blk 1 (by decide) (hf 5 (by decide))
 have l1:=h.lo 0 (by decide) (hf 4 (by decide))
 have l2:=h.lo 1 (by decide) (hf 5 (by decide))
 rw[if_pos (hf 6 (by decide))] at hA
 rw[if_pos (hf 7 (by decide))] at hB
 rw[<-hY1] at hA l1
 rw[<-hY2] at hB l2
 have hck:=zac h.bel
 have HS0:Hid (CrS w x0 x1 x2 y0 y1 y2 [] [] [] Y1 Y2 X):=hid ⟨F.out.1.trans (h.bel.mono F.out.1.size),hck _ _ _ _ F.out.2.2.2.1,hck _ _ _ _ F.out.2.2.2.2.1,by have:=F.out.2.2.2.2.2;omega,by have:=F.out.2.2.2.2.2;omega,hA,hB⟩
 rw[<-hY1,<-hY2]
 clear hY1 hY2 hA hB l1 l2 hck h hf F KA
 go_wp2_with fail
 refine wp_loop_rounds 4 ?_
 rw[rounds_succ]
 go_wp2_with fail
 refine zc4 (λ(_:Unit) i=>([.int .i64 1,.pointer (some ⟨Y1,1,none⟩),St x1,.int .i64 2,.pointer (some ⟨Y2,2,none⟩),St y2,.tuple #[St p0,.int .i64 0],.tuple #[St p0,.int .i64 0],St p0,.int .i64 0,St p0,.int .i64 0]:List Value).getD i undef) (λ_ _ V=>qL X V) (by kernel_rfl) (by kernel_rfl) () ((zM _ X).drew) λ_=>?_
 refine qB (.int .i64 1) (λf W' h=>h) ?_
 simp only[zzQ]
 refine qB (.pointer (some ⟨Y1,1,none⟩)) (λf W' h=>h) ?_
 simp only[zzQ]
 refine qB (St x1) (λf W' h=>h) ?_ (hy:=λf W' hf h=>by obtain⟨d0,d1,d2, -⟩:=zah (zac h _ _ _ _ HS0.out.h4);go_simp)
 simp only[zzQ]
 refine qB (.int .i64 2) (λf W' h=>h) ?_
 simp only[zzQ]
 refine qB (.pointer (some ⟨Y2,2,none⟩)) (λf W' h=>h) ?_
 simp only[zzQ]
 refine qB (St y2) (λf W' h=>h) ?_ (hy:=λf W' hf h=>by obtain⟨d0,d1,d2, -⟩:=zah (zac h _ _ _ _ HS0.out.h5);go_simp)
 simp only[zzQ]
 refine zbv (.tuple #[St p0,.int .i64 0]) (by rfl) (by rfl) (λf W' hf h C' hC'=>by
  have hq:=P0.out W' (HS0.out.bel.trans (h.mono HS0.out.bel.size))
  go_simp
  refine hq.mono ?_
  rintro e w' ⟨rfl,hb⟩
  exact⟨_,rfl,hC' _ (h.trans (hb.mono h.size))⟩) ?_
 try simp only[zzQ]
 refine qB (.tuple #[St p0,.int .i64 0]) (λf W' h=>h) ?_
 simp only[zzQ]
 refine qB (St p0) (λf W' h=>h) ?_
 simp only[zzQ]
 refine qB (.int .i64 0) (λf W' h=>h) ?_
 simp only[zzQ]
 refine qB (St p0) (λf W' h=>h) ?_
 simp only[zzQ]
 refine qB (.int .i64 0) (λf W' h=>h) ?_
 simp only[zzQ]
 refine ze1 λf r0 hf h=>?_
 have HR0:=hid (HS0.out.next h)
 clear h hf HS0
 go_wp2_with fail
 refine zc4 (λ(_:Unit) i=>([.int .i64 2,.pointer (some ⟨Y1,2,none⟩),St x2,.int .i64 1,.pointer (some ⟨Y2,1,none⟩),St y1,.tuple #[St q0,.int .i64 0],.tuple #[St q0,.int .i64 0],St q0,.int .i64 0,St q0,.int .i64 0]:List Value).getD i undef) (λ_ _ V=>qL r0 V) (by kernel_rfl) (by kernel_rfl) () ((zM _ r0).drew) λ_=>?_
 refine qB (.int .i64 2) (λf W' h=>h) ?_
 simp only[zzQ]
 refine qB (.pointer (some ⟨Y1,2,none⟩)) (λf W' h=>h) ?_
 simp only[zzQ]
 refine qB (St x2) (λf W' h=>h) ?_ (hy:=λf W' hf h=>by obtain⟨d0,d1,d2, -⟩:=zah (zac h _ _ _ _ HR0.out.h4);go_simp)
 simp only[zzQ]
 refine qB (.int .i64 1) (λf W' h=>h) ?_
 simp only[zzQ]
 refine qB (.pointer (some ⟨Y2,1,none⟩)) (λf W' h=>h) ?_
 simp only[zzQ]
 refine qB (St y1) (λf W' h=>h) ?_ (hy:=λf W' hf h=>by obtain⟨d0,d1,d2, -⟩:=zah (zac h _ _ _ _ HR0.out.h5);go_simp)
 simp only[zzQ]
 refine zbv (.tuple #[St q0,.int .i64 0]) (by rfl) (by rfl) (λf W' hf h C' hC'=>by
  have hq:=Q0.out W' (HR0.out.bel.trans (h.mono HR0.out.bel.size))
  go_simp
  refine hq.mono ?_
  rintro e w' ⟨rfl,hb⟩
  exact⟨_,rfl,hC' _ (h.trans (hb.mono h.size))⟩) ?_
 try simp only[zzQ]
 refine qB (.tuple #[St q0,.int .i64 0]) (λf W' h=>h) ?_
 simp only[zzQ]
 refine qB (St q0) (λf W' h=>h) ?_
 simp only[zzQ]
 refine qB (.int .i64 0) (λf W' h=>h) ?_
 simp only[zzQ]
 refine qB (St q0) (λf W' h=>h) ?_
 simp only[zzQ]
 refine qB (.int .i64 0) (λf W' h=>h) ?_
 simp only[zzQ]
 refine ze1 λf s0 hf h=>?_
 have HU0:=hid (HR0.out.next h)
 clear h hf HR0
 have HC:=hid (S0.out s0 HU0.out.bel)
 go_wp2_with fail
 refine HC.out.mono ?_
 rintro e v0 ⟨rfl,hb⟩
 have HW0:=hid (HU0.out.next hb)
 clear hb HC HU0
 obtain⟨d0,d1,d2,z0,z1,z2⟩:=zah HW0.out.h3
 obtain⟨t0,ht0⟩:∃t0,t0=v0.setCell ⟨w.heap.size+1+1+1,0,none⟩ (St c0):=⟨_,rfl⟩
 have hp:=HW0.out.put0 c0
 rw[<-ht0] at hp
 have HQ0:=hid hp
 have HT:=hid ht0.symm
 clear hp ht0
 go_wp2_with fail
 have h9:=HT.out
 rw[show v0.setCell ⟨w.heap.size+1+1+1,0,none⟩ (.string ⟨c0.toArray⟩)=t0 from h9]
 clear h9 HT d0 d1 d2 z0 z1 z2 HW0
 rw[rounds_succ]
 go_wp2_with fail
 refine zc4 (λ(_:Unit) i=>([.int .i64 2,.pointer (some ⟨Y1,2,none⟩),St x2,.int .i64 0,.pointer (some ⟨Y2,0,none⟩),St y0,.tuple #[St p1,.int .i64 0],.tuple #[St p1,.int .i64 0],St p1,.int .i64 0,St p1,.int .i64 0]:List Value).getD i undef) (λ_ _ V=>qL t0 V) (by kernel_rfl) (by kernel_rfl) () ((zM _ t0).drew) λ_=>?_
 refine qB (.int .i64 2) (λf W' h=>h) ?_
 simp only[zzQ]
 refine qB (.pointer (some ⟨Y1,2,none⟩)) (λf W' h=>h) ?_
 simp only[zzQ]
 refine qB (St x2) (λf W' h=>h) ?_ (hy:=λf W' hf h=>by obtain⟨d0,d1,d2, -⟩:=zah (zac h _ _ _ _ HQ0.out.h4);go_simp)
 simp only[zzQ]
 refine qB (.int .i64 0) (λf W' h=>h) ?_
 simp only[zzQ]
 refine qB (.pointer (some ⟨Y2,0,none⟩)) (λf W' h=>h) ?_
 simp only[zzQ]
 refine qB (St y0) (λf W' h=>h) ?_ (hy:=λf W' hf h=>by obtain⟨d0,d1,d2, -⟩:=zah (zac h _ _ _ _ HQ0.out.h5);go_simp)
 simp only[zzQ]
 refine zbv (.tuple #[St p1,.int .i64 0]) (by rfl) (by rfl) (λf W' hf h C' hC'=>by
  have hq:=P1.out W' (HQ0.out.bel.trans (h.mono HQ0.out.bel.size))
  go_simp
  refine hq.mono ?_
  rintro e w' ⟨rfl,hb⟩
  exact⟨_,rfl,hC' _ (h.trans (hb.mono h.size))⟩) ?_
 try simp only[zzQ]
 refine qB (.tuple #[St p1,.int .i64 0]) (λf W' h=>h) ?_
 simp only[zzQ]
 refine qB (St p1) (λf W' h=>h) ?_
 simp only[zzQ]
 refine qB (.int .i64 0) (λf W' h=>h) ?_
 simp only[zzQ]
 refine qB (St p1) (λf W' h=>h) ?_
 simp only[zzQ]
 refine qB (.int .i64 0) (λf W' h=>h) ?_
 simp only[zzQ]
 refine ze1 λf r1 hf h=>?_
 have HR1:=hid (HQ0.out.next h)
 clear h hf HQ0
 go_wp2_with fail
 refine zc4 (λ(_:Unit) i=>([.int .i64 0,.pointer (some ⟨Y1,0,none⟩),St x0,.int .i64 2,.pointer (some ⟨Y2,2,none⟩),St y2,.tuple #[St q1,.int .i64 0],.tuple #[St q1,.int .i64 0],St q1,.int .i64 0,St q1,.int .i64 0]:List Value).getD i undef) (λ_ _ V=>qL r1 V) (by kernel_rfl) (by kernel_rfl) () ((zM _ r1).drew) λ_=>?_
 refine qB (.int .i64 0) (λf W' h=>h) ?_
 simp only[zzQ]
 refine qB (.pointer (some ⟨Y1,0,none⟩)) (λf W' h=>h) ?_
 simp only[zzQ]
 refine qB (St x0) (λf W' h=>h) ?_ (hy:=λf W' hf h=>by obtain⟨d0,d1,d2, -⟩:=zah (zac h _ _ _ _ HR1.out.h4);go_simp)
 simp only[zzQ]
 refine qB (.int .i64 2) (λf W' h=>h) ?_
 simp only[zzQ]
 refine qB (.pointer (some ⟨Y2,2,none⟩)) (λf W' h=>h) ?_
 simp only[zzQ]
 refine qB (St y2) (λf W' h=>h) ?_ (hy:=λf W' hf h=>by obtain⟨d0,d1,d2, -⟩:=zah (zac h _ _ _ _ HR1.out.h5);go_simp)
 simp only[zzQ]
 refine zbv (.tuple #[St q1,.int .i64 0]) (by rfl) (by rfl) (λf W' hf h C' hC'=>by
  have hq:=Q1.out W' (HR1.out.bel.trans (h.mono HR1.out.bel.size))
  go_simp
  refine hq.mono ?_
  rintro e w' ⟨rfl,hb⟩
  exact⟨_,rfl,hC' _ (h.trans (hb.mono h.size))⟩) ?_
 try simp only[zzQ]
 refine qB (.tuple #[St q1,.int .i64 0]) (λf W' h=>h) ?_
 simp only[zzQ]
 refine qB (St q1) (λf W' h=>h) ?_
 simp only[zzQ]
 refine qB (.int .i64 0) (λf W' h=>h) ?_
 simp only[zzQ]
 refine qB (St q1) (λf W' h=>h) ?_
 simp only[zzQ]
 refine qB (.int .i64 0) (λf W' h=>h) ?_
 simp only[zzQ]
 refine ze1 λf s1 hf h=>?_
 have HU1:=hid (HR1.out.next h)
 clear h hf HR1
 have HC:=hid (S1.out s1 HU1.out.bel)
 go_wp2_with fail
 refine HC.out.mono ?_
 rintro e v1 ⟨rfl,hb⟩
 have HW1:=hid (HU1.out.next hb)
 clear hb HC HU1
 obtain⟨d0,d1,d2,z0,z1,z2⟩:=zah HW1.out.h3
 obtain⟨t1,ht1⟩:∃t1,t1=v1.setCell ⟨w.heap.size+1+1+1,1,none⟩ (St c1):=⟨_,rfl⟩
 have hp:=HW1.out.put1 c1
 rw[<-ht1] at hp
 have HQ1:=hid hp
 have HT:=hid ht1.symm
 clear hp ht1
 go_wp2_with fail
 have h9:=HT.out
 rw[show v1.setCell ⟨w.heap.size+1+1+1,1,none⟩ (.string ⟨c1.toArray⟩)=t1 from h9]
 clear h9 HT d0 d1 d2 z0 z1 z2 HW1
 rw[rounds_succ]
 go_wp2_with fail
 refine zc4 (λ(_:Unit) i=>([.int .i64 0,.pointer (some ⟨Y1,0,none⟩),St x0,.int .i64 1,.pointer (some ⟨Y2,1,none⟩),St y1,.tuple #[St p2,.int .i64 0],.tuple #[St p2,.int .i64 0],St p2,.int .i64 0,St p2,.int .i64 0]:List Value).getD i undef) (λ_ _ V=>qL t1 V) (by kernel_rfl) (by kernel_rfl) () ((zM _ t1).drew) λ_=>?_
 refine qB (.int .i64 0) (λf W' h=>h) ?_
 simp only[zzQ]
 refine qB (.pointer (some ⟨Y1,0,none⟩)) (λf W' h=>h) ?_
 simp only[zzQ]
 refine qB (St x0) (λf W' h=>h) ?_ (hy:=λf W' hf h=>by obtain⟨d0,d1,d2, -⟩:=zah (zac h _ _ _ _ HQ1.out.h4);go_simp)
 simp only[zzQ]
 refine qB (.int .i64 1) (λf W' h=>h) ?_
 simp only[zzQ]
 refine qB (.pointer (some ⟨Y2,1,none⟩)) (λf W' h=>h) ?_
 simp only[zzQ]
 refine qB (St y1) (λf W' h=>h) ?_ (hy:=λf W' hf h=>by obtain⟨d0,d1,d2, -⟩:=zah (zac h _ _ _ _ HQ1.out.h5);go_simp)
 simp only[zzQ]
 refine zbv (.tuple #[St p2,.int .i64 0]) (by rfl) (by rfl) (λf W' hf h C' hC'=>by
  have hq:=P2.out W' (HQ1.out.bel.trans (h.mono HQ1.out.bel.size))
  go_simp
  refine hq.mono ?_
  rintro e w' ⟨rfl,hb⟩
  exact⟨_,rfl,hC' _ (h.trans (hb.mono h.size))⟩) ?_
 try simp only[zzQ]
 refine qB (.tuple #[St p2,.int .i64 0]) (λf W' h=>h) ?_
 simp only[zzQ]
 refine qB (St p2) (λf W' h=>h) ?_
 simp only[zzQ]
 refine qB (.int .i64 0) (λf W' h=>h) ?_
 simp only[zzQ]
 refine qB (St p2) (λf W' h=>h) ?_
 simp only[zzQ]
 refine qB (.int .i64 0) (λf W' h=>h) ?_
 simp only[zzQ]
 refine ze1 λf r2 hf h=>?_
 have HR2:=hid (HQ1.out.next h)
 clear h hf HQ1
 go_wp2_with fail
 refine zc4 (λ(_:Unit) i=>([.int .i64 1,.pointer (some ⟨Y1,1,none⟩),St x1,.int .i64 0,.pointer (some ⟨Y2,0,none⟩),St y0,.tuple #[St q2,.int .i64 0],.tuple #[St q2,.int .i64 0],St q2,.int .i64 0,St q2,.int .i64 0]:List Value).getD i undef) (λ_ _ V=>qL r2 V) (by kernel_rfl) (by kernel_rfl) () ((zM _ r2).drew) λ_=>?_
 refine qB (.int .i64 1) (λf W' h=>h) ?_
 simp only[zzQ]
 refine qB (.pointer (some ⟨Y1,1,none⟩)) (λf W' h=>h) ?_
 simp only[zzQ]
 refine qB (St x1) (λf W' h=>h) ?_ (hy:=λf W' hf h=>by obtain⟨d0,d1,d2, -⟩:=zah (zac h _ _ _ _ HR2.out.h4);go_simp)
 simp only[zzQ]
 refine qB (.int .i64 0) (λf W' h=>h) ?_
 simp only[zzQ]
 refine qB (.pointer (some ⟨Y2,0,none⟩)) (λf W' h=>h) ?_
 simp only[zzQ]
 refine qB (St y0) (λf W' h=>h) ?_ (hy:=λf W' hf h=>by obtain⟨d0,d1,d2, -⟩:=zah (zac h _ _ _ _ HR2.out.h5);go_simp)
 simp only[zzQ]
 refine zbv (.tuple #[St q2,.int .i64 0]) (by rfl) (by rfl) (λf W' hf h C' hC'=>by
  have hq:=Q2.out W' (HR2.out.bel.trans (h.mono HR2.out.bel.size))
  go_simp
  refine hq.mono ?_
  rintro e w' ⟨rfl,hb⟩
  exact⟨_,rfl,hC' _ (h.trans (hb.mono h.size))⟩) ?_
 try simp only[zzQ]
 refine qB (.tuple #[St q2,.int .i64 0]) (λf W' h=>h) ?_
 simp only[zzQ]
 refine qB (St q2) (λf W' h=>h) ?_
 simp only[zzQ]
 refine qB (.int .i64 0) (λf W' h=>h) ?_
 simp only[zzQ]
 refine qB (St q2) (λf W' h=>h) ?_
 simp only[zzQ]
 refine qB (.int .i64 0) (λf W' h=>h) ?_
 simp only[zzQ]
 refine ze1 λf s2 hf h=>?_
 have HU2:=hid (HR2.out.next h)
 clear h hf HR2
 have HC:=hid (S2.out s2 HU2.out.bel)
 go_wp2_with fail
 refine HC.out.mono ?_
 rintro e v2 ⟨rfl,hb⟩
 have HW2:=hid (HU2.out.next hb)
 clear hb HC HU2
 obtain⟨d0,d1,d2,z0,z1,z2⟩:=zah HW2.out.h3
 obtain⟨t2,ht2⟩:∃t2,t2=v2.setCell ⟨w.heap.size+1+1+1,2,none⟩ (St c2):=⟨_,rfl⟩
 have hp:=HW2.out.put2 c2
 rw[<-ht2] at hp
 have HQ2:=hid hp
 have HT:=hid ht2.symm
 clear hp ht2
 go_wp2_with fail
 have h9:=HT.out
 rw[show v2.setCell ⟨w.heap.size+1+1+1,2,none⟩ (.string ⟨c2.toArray⟩)=t2 from h9]
 clear h9 HT d0 d1 d2 z0 z1 z2 HW2
 rw[rounds_succ]
 obtain⟨d0,d1,d2, -, -, -⟩:=zah HQ2.out.h3
 go_wp2_with fail
 clear d0 d1 d2
 refine(zlf c0 c1 c2 t2).mono ?_
 rintro e r3 ⟨rfl,hb⟩
 have hn:=HQ2.out.next hb
 obtain⟨d0,d1,d2,z0,z1,z2⟩:=zah hn.h2
 have HF:=hid hn
 clear hn hb HQ2
 go_wp2_with fail
 have hf:=HF.out.bel
 exact bodyPost_ret (v:=.tuple #[.agg #[St c0,St c1,St c2],.int .i64 0]) (by simp[results,Tryz.results104,go_sem,d0,d1,d2]) rfl ⟨rfl,((hf.setCell (p:=⟨w.heap.size+1+1,0,none⟩) (by show _<=w.heap.size+1+1;omega) _).setCell (p:=⟨w.heap.size+1+1,1,none⟩) (by show _<=w.heap.size+1+1;omega) _).setCell (p:=⟨w.heap.size+1+1,2,none⟩) (by show _<=w.heap.size+1+1;omega) _⟩
end Go.Proofs.YtccijmidbdapaaaGreatDoor
