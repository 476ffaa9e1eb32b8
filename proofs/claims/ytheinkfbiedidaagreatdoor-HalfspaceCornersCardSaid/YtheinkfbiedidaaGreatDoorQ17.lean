/- vector: of, both, (spot).with. -/
import Derived.Test.YtheinkfbiedidaaGreatDoorQ16
set_option maxRecDepth 100000
set_option maxHeartbeats 8000000
open Go renaming World → zA, Calls → zC
open Go.RowKit renaming Below → zB, intOf → zL
open Go.Proofs.Tryz renaming prog → zF
open Go.World renaming alloc_heap_new → zG, size_alloc → zH
open Go.IntWalk renaming i64_in → zI
open Go.Joins renaming cell_of_block → zJ, block_setCell → zK
open Go.RowKit.Below renaming refl → zM, heap_setCell → yE
open Nat renaming le_refl → zN
namespace Go.Proofs.YtheinkfbiedidaaGreatDoor
section
open Go.RowKit Go.Shelf Lib Str Limb
attribute [local go_sem] Oper.semAt_some
theorem zlf (a b c:List UInt8) (w:zA):
 qJ 110 #[.agg #[St a,St b,St c]] w (.agg #[St a,St b,St c]):=by
 go_enter Tryz.func110,Tryz.ntmps110;go_wp2_with fail;exact bodyPost_ret (v:=.agg #[St a,St b,St c]) (by simp[results,Tryz.results110,go_sem]) rfl ⟨rfl,((zM _ w).alloc (zN _) _).alloc (by simp) _⟩
theorem zon (a b c d e f:List UInt8) (w:zA)
 (C0:Hid (∀W:zA,qL w W->qJ 47 #[.agg #[St a,St b,St c]] W (.int .i64 0)))
 (C1:Hid (∀W:zA,qL w W->qJ 47 #[.agg #[St d,St e,St f]] W (.int .i64 0))):
 qJ 68 #[.agg #[St a,St b,St c],.agg #[St d,St e,St f]] w (.int .i64 0):=by
 obtain⟨v1,hv⟩:∃v1,v1=(w.alloc (.cells #[St a,St b,St c] 49)).alloc (.cells #[St d,St e,St f] 49):=⟨_,rfl⟩;have b1:qL w v1:=by rw[hv];exact((zM _ w).alloc (zN _) _).alloc (by simp) _
 have A2:v1.heap[w.heap.size+1]? =some (.cells #[St d,St e,St f] 49 (0,0)):=by
  rw[hv];have:=zG (w.alloc (.cells #[St a,St b,St c] 49)) (.cells #[St d,St e,St f] 49);rw[zH] at this;exact this
 have B1:=hid b1;have P1:=hid A2;have HV:=hid hv.symm;have HC:=hid (C0.out v1 b1);clear hv b1 A2 C0;go_enter Tryz.func68,Tryz.ntmps68;go_wp2_with fail;have h9:=HV.out;rw[show(w.alloc (.cells #[.string ⟨a.toArray⟩,.string ⟨b.toArray⟩,.string ⟨c.toArray⟩] 49)).alloc (.cells #[.string ⟨d.toArray⟩,.string ⟨e.toArray⟩,.string ⟨f.toArray⟩] 49)=v1 from h9];clear h9 HV;refine HC.out.mono ?_;rintro e r1 ⟨rfl,hb⟩;have hbb:=B1.out.trans (hb.mono B1.out.size);have B2:=hid hbb;have hp:=zac hb _ _ _ _ P1.out;have k0:r1.cell? ⟨w.heap.size+1,0,none⟩=some (St d):=by rw[zJ hp];rfl
 have k1:r1.cell? ⟨w.heap.size+1,1,none⟩=some (St e):=by rw[zJ hp];rfl
 have k2:r1.cell? ⟨w.heap.size+1,2,none⟩=some (St f):=by rw[zJ hp];rfl
 have HS:=hid (C1.out r1 hbb);clear hb hbb hp B1 P1 HC C1;go_wp2_with fail;refine HS.out.mono ?_;rintro e r2 ⟨rfl,hb⟩;have B3:=hid (B2.out.trans (hb.mono B2.out.size));clear hb;go_wp2_with fail;go_ret;exact⟨rfl,B3.out⟩
structure WtS (w:zA) (a0 a1 a2 b0 b1 b2 o0 o1 o2:List UInt8) (Y:Nat) (W:zA):Prop where
 bel:qL w W
 h0:W.heap[w.heap.size]? =some (.cells #[St a0,St a1,St a2] 112 (0,0))
 h1:W.heap[w.heap.size+1]? =some (.cells #[St b0,St b1,St b2] 112 (0,0))
 h2:W.heap[w.heap.size+1+1]? =some (.cells #[St [],St [],St []] 49 (0,0))
 h3:W.heap[w.heap.size+1+1+1]? =some (.cells #[St o0,St o1,St o2] 141 (0,0))
 lo:w.heap.size+1+1+1<Y
 h4:W.heap[Y]? =some (.cells #[St b0,St b1,St b2] 141 (0,0))
section
variable {w W W':zA} {a0 a1 a2 b0 b1 b2 o0 o1 o2:List UInt8} {Y:Nat}
theorem WtS.next (h:WtS w a0 a1 a2 b0 b1 b2 o0 o1 o2 Y W) (hb:qL W W'):WtS w a0 a1 a2 b0 b1 b2 o0 o1 o2 Y W':=
 have hc:=zac hb
 ⟨h.bel.trans (hb.mono h.bel.size),hc _ _ _ _ h.h0,hc _ _ _ _ h.h1,hc _ _ _ _ h.h2,hc _ _ _ _ h.h3,h.lo,hc _ _ _ _ h.h4⟩
theorem zah {W:zA} {A:Nat} {x y z:Value} {t:TypeId} (h:W.heap[A]? =some (.cells #[x,y,z] t (0,0))):W.cell? ⟨A,0,none⟩=some x/\W.cell? ⟨A,1,none⟩=some y/\W.cell? ⟨A,2,none⟩=some z/\W.frozen? ⟨A,0,none⟩=false/\W.frozen? ⟨A,1,none⟩=false/\W.frozen? ⟨A,2,none⟩=false:=
 ⟨by rw[zJ h];rfl,by rw[zJ h];rfl,by rw[zJ h];rfl,Go.Joins.unfrozen_of_block h 0,Go.Joins.unfrozen_of_block h 1,Go.Joins.unfrozen_of_block h 2⟩
theorem WtS.ne (h:WtS w a0 a1 a2 b0 b1 b2 o0 o1 o2 Y W) (i:Nat) (u:Value):qL w (W.setCell ⟨w.heap.size+1+1+1,i,none⟩ u)/\(∀b,b≠w.heap.size+1+1+1->(W.setCell ⟨w.heap.size+1+1+1,i,none⟩ u).heap[b]? =W.heap[b]?):=
 ⟨h.bel.setCell (p:=⟨w.heap.size+1+1+1,i,none⟩) (by show _<=w.heap.size+1+1+1;omega) _,λb hb=>yE _ _ _ _ (by exact hb)⟩
theorem WtS.put0 (h:WtS w a0 a1 a2 b0 b1 b2 o0 o1 o2 Y W) (u:List UInt8):WtS w a0 a1 a2 b0 b1 b2 u o1 o2 Y (W.setCell ⟨w.heap.size+1+1+1,0,none⟩ (St u)):=by
 obtain⟨k1,k2⟩:=h.ne 0 (St u);have:=h.lo;exact⟨k1,(k2 _ (by omega)).trans h.h0,(k2 _ (by omega)).trans h.h1,(k2 _ (by omega)).trans h.h2,zK (i:=0) h.h3 (St u),h.lo,(k2 _ (by omega)).trans h.h4⟩
theorem WtS.put1 (h:WtS w a0 a1 a2 b0 b1 b2 o0 o1 o2 Y W) (u:List UInt8):WtS w a0 a1 a2 b0 b1 b2 o0 u o2 Y (W.setCell ⟨w.heap.size+1+1+1,1,none⟩ (St u)):=by
 obtain⟨k1,k2⟩:=h.ne 1 (St u);have:=h.lo;exact⟨k1,(k2 _ (by omega)).trans h.h0,(k2 _ (by omega)).trans h.h1,(k2 _ (by omega)).trans h.h2,zK (i:=1) h.h3 (St u),h.lo,(k2 _ (by omega)).trans h.h4⟩
theorem WtS.put2 (h:WtS w a0 a1 a2 b0 b1 b2 o0 o1 o2 Y W) (u:List UInt8):WtS w a0 a1 a2 b0 b1 b2 o0 o1 u Y (W.setCell ⟨w.heap.size+1+1+1,2,none⟩ (St u)):=by
 obtain⟨k1,k2⟩:=h.ne 2 (St u);have:=h.lo;exact⟨k1,(k2 _ (by omega)).trans h.h0,(k2 _ (by omega)).trans h.h1,(k2 _ (by omega)).trans h.h2,zK (i:=2) h.h3 (St u),h.lo,(k2 _ (by omega)).trans h.h4⟩
end
theorem zoo (a0 a1 a2 b0 b1 b2 c0 c1 c2:List UInt8) (g:FuncId) (eg:∀args w,(callFunc g args).run zF w=.ok (.enter g args) w) (w:zA)
 (F0:Hid (∀W:zA,qL w W->zC zF g #[St a0,St b0] W λe w'=>e=.returned (.tuple #[St c0,.int .i64 0])/\zB W.heap.size W w'))
 (F1:Hid (∀W:zA,qL w W->zC zF g #[St a1,St b1] W λe w'=>e=.returned (.tuple #[St c1,.int .i64 0])/\zB W.heap.size W w'))
 (F2:Hid (∀W:zA,qL w W->zC zF g #[St a2,St b2] W λe w'=>e=.returned (.tuple #[St c2,.int .i64 0])/\zB W.heap.size W w')):
 qJ 78 #[.agg #[St a0,St a1,St a2],.agg #[St b0,St b1,St b2],.func (.func g) #[] #[]] w (.tuple #[.agg #[St c0,St c1,St c2],.int .i64 0]):=by
 have n0:=λw=>(zdr a0 a1 a2 w).1;have n1:=λw=>(zdr a0 a1 a2 w).2.1;have n2:=λw=>(zdr a0 a1 a2 w).2.2;obtain⟨x1,hx1⟩:∃x1,x1=w.alloc (.cells #[St a0,St a1,St a2] 112):=⟨_,rfl⟩;obtain⟨x2,hx2⟩:∃x2,x2=x1.alloc (.cells #[St b0,St b1,St b2] 112):=⟨_,rfl⟩;obtain⟨x3,hx3⟩:∃x3,x3=x2.alloc (.cells #[St [],St [],St []] 49):=⟨_,rfl⟩;obtain⟨x4,hx4⟩:∃x4,x4=x3.alloc (.cells #[St [],St [],St []] 141):=⟨_,rfl⟩;have s1:x1.heap.size=w.heap.size+1:=by rw[hx1];simp
 have s2:x2.heap.size=w.heap.size+1+1:=by rw[hx2,zH,s1]
 have s3:x3.heap.size=w.heap.size+1+1+1:=by rw[hx3,zH,s2]
 have s4:x4.heap.size=w.heap.size+1+1+1+1:=by rw[hx4,zH,s3]
 have q1:qL w x1:=by rw[hx1];exact(zM _ w).alloc (zN _) _
 have q2:qL x1 x2:=by rw[hx2];exact(zM _ x1).alloc (zN _) _
 have q3:qL x2 x3:=by rw[hx3];exact(zM _ x2).alloc (zN _) _
 have q4:qL x3 x4:=by rw[hx4];exact(zM _ x3).alloc (zN _) _
 have f1:x1.heap[w.heap.size]? =some (.cells #[St a0,St a1,St a2] 112 (0,0)):=by rw[hx1];exact zG w _
 have f2:x2.heap[w.heap.size+1]? =some (.cells #[St b0,St b1,St b2] 112 (0,0)):=by rw[hx2,<-s1];exact zG x1 _
 have f3:x3.heap[w.heap.size+1+1]? =some (.cells #[St [],St [],St []] 49 (0,0)):=by rw[hx3,<-s2];exact zG x2 _
 have f4:x4.heap[w.heap.size+1+1+1]? =some (.cells #[St [],St [],St []] 141 (0,0)):=by rw[hx4,<-s3];exact zG x3 _
 have q24:=(q2.trans (q3.mono q2.size)).trans (q4.mono (q2.trans (q3.mono q2.size)).size);have q34:=q3.trans (q4.mono q3.size);have q14:=q1.trans (q24.mono q1.size);have F:=hid (⟨q14,zac q24 _ _ _ _ f1,zac q34 _ _ _ _ f2,zac q4 _ _ _ _ f3,f4,s4⟩:
  qL w x4/\x4.heap[w.heap.size]? =some (.cells #[St a0,St a1,St a2] 112 (0,0))/\x4.heap[w.heap.size+1]? =some (.cells #[St b0,St b1,St b2] 112 (0,0))/\x4.heap[w.heap.size+1+1]? =some (.cells #[St [],St [],St []] 49 (0,0))/\x4.heap[w.heap.size+1+1+1]? =some (.cells #[St [],St [],St []] 141 (0,0))/\x4.heap.size=w.heap.size+1+1+1+1)
 have hall:x4=(((w.alloc (.cells #[St a0,St a1,St a2] 112)).alloc (.cells #[St b0,St b1,St b2] 112)).alloc (.cells #[St [],St [],St []] 49)).alloc (.cells #[St [],St [],St []] 141):=by rw[hx4,hx3,hx2,hx1]
 have HV:=hid hall.symm;have EG:=hid eg;clear hall hx1 hx2 hx3 hx4 s1 s2 s3 s4 q1 q2 q3 q4 f1 f2 f3 f4 q24 q34 q14 eg;clear x1 x2 x3;go_enter Tryz.func78,Tryz.ntmps78;go_wp2_with fail;have h9:=HV.out;rw[show(((w.alloc (.cells #[.string ⟨a0.toArray⟩,.string ⟨a1.toArray⟩,.string ⟨a2.toArray⟩] 112)).alloc (.cells #[.string ⟨b0.toArray⟩,.string ⟨b1.toArray⟩,.string ⟨b2.toArray⟩] 112)).alloc (.cells #[.string ⟨#[]⟩,.string ⟨#[]⟩,.string ⟨#[]⟩] 49)).alloc (.cells #[.string ⟨#[]⟩,.string ⟨#[]⟩,.string ⟨#[]⟩] 141)=x4 from h9];clear h9 HV;refine(zda b0 b1 b2 x4).mono ?_;rintro e r0 ⟨rfl,hb⟩;obtain⟨y4,hy⟩:∃y4,y4=r0.alloc (.cells #[St b0,St b1,St b2] 141):=⟨_,rfl⟩;have by4:qL r0 y4:=by rw[hy];exact(zM _ r0).alloc (zN _) _
 obtain⟨Y,hY⟩:∃Y,Y=r0.heap.size:=⟨_,rfl⟩;have hYb:y4.heap[Y]? =some (.cells #[St b0,St b1,St b2] 141 (0,0)):=by rw[hy,hY];exact zG r0 _
 have hx:=hb.trans (by4.mono hb.size);have hck:=zac hx;have HS0:Hid (WtS w a0 a1 a2 b0 b1 b2 [] [] [] Y y4):=hid ⟨F.out.1.trans (hx.mono F.out.1.size),hck _ _ _ _ F.out.2.1,hck _ _ _ _ F.out.2.2.1,hck _ _ _ _ F.out.2.2.2.1,hck _ _ _ _ F.out.2.2.2.2.1,by have:=hb.size;have:=F.out.2.2.2.2.2;omega,hYb⟩;have y0:y4.cell? ⟨w.heap.size,0,none⟩=some (St a0):=(zah HS0.out.h0).1;have y1:y4.cell? ⟨w.heap.size,1,none⟩=some (St a1):=(zah HS0.out.h0).2.1;have y2:y4.cell? ⟨w.heap.size,2,none⟩=some (St a2):=(zah HS0.out.h0).2.2.1;have HY:=hid hy.symm;have HYe:=hid hY.symm;clear hb hx hck hy hY by4 hYb F;rw[<-HY.out] at y0 y1 y2;go_wp2_with fail;have h9:=HY.out;rw[show r0.alloc (.cells #[.string ⟨b0.toArray⟩,.string ⟨b1.toArray⟩,.string ⟨b2.toArray⟩] 141)=y4 from h9,HYe.out];clear h9 HY HYe y0 y1 y2;refine(zda a0 a1 a2 y4).mono ?_;rintro e t3 ⟨rfl,hb⟩;have HP3:=hid (HS0.out.next hb);clear hb HS0;go_wp2_with fail;refine wp_loop_rounds 4 ?_;rw[rounds_succ];obtain⟨d0,d1,d2, -, -, -⟩:=zah HP3.out.h4;have heg:=EG.out;have HC:=hid (F0.out t3 HP3.out.bel);go_wp2_with fail;clear d0 d1 d2 heg;refine HC.out.mono ?_;rintro e r0 ⟨rfl,hb⟩;have HR0:=hid (HP3.out.next hb);clear hb HC HP3;obtain⟨d0,d1,d2,z0,z1,z2⟩:=zah HR0.out.h3;obtain⟨t0,ht0⟩:∃t0,t0=r0.setCell ⟨w.heap.size+1+1+1,0,none⟩ (St c0):=⟨_,rfl⟩;have hp:=HR0.out.put0 c0;rw[<-ht0] at hp;have HQ0:=hid hp;have HT:=hid ht0.symm;clear hp ht0;go_wp2_with fail;have h9:=HT.out;rw[show r0.setCell ⟨w.heap.size+1+1+1,0,none⟩ (.string ⟨c0.toArray⟩)=t0 from h9]
 clear h9 HT d0 d1 d2 z0 z1 z2 HR0;rw[rounds_succ];obtain⟨d0,d1,d2, -, -, -⟩:=zah HQ0.out.h4;have heg:=EG.out;have HC:=hid (F1.out t0 HQ0.out.bel);go_wp2_with fail;clear d0 d1 d2 heg;refine HC.out.mono ?_;rintro e r1 ⟨rfl,hb⟩;have HR1:=hid (HQ0.out.next hb);clear hb HC HQ0;obtain⟨d0,d1,d2,z0,z1,z2⟩:=zah HR1.out.h3;obtain⟨t1,ht1⟩:∃t1,t1=r1.setCell ⟨w.heap.size+1+1+1,1,none⟩ (St c1):=⟨_,rfl⟩;have hp:=HR1.out.put1 c1;rw[<-ht1] at hp;have HQ1:=hid hp;have HT:=hid ht1.symm;clear hp ht1;go_wp2_with fail;have h9:=HT.out;rw[show r1.setCell ⟨w.heap.size+1+1+1,1,none⟩ (.string ⟨c1.toArray⟩)=t1 from h9];clear h9 HT d0 d1 d2 z0 z1 z2 HR1;rw[rounds_succ];obtain⟨d0,d1,d2, -, -, -⟩:=zah HQ1.out.h4;have heg:=EG.out;have HC:=hid (F2.out t1 HQ1.out.bel);go_wp2_with fail;clear d0 d1 d2 heg;refine HC.out.mono ?_;rintro e r2 ⟨rfl,hb⟩;have HR2:=hid (HQ1.out.next hb);clear hb HC HQ1;obtain⟨d0,d1,d2,z0,z1,z2⟩:=zah HR2.out.h3;obtain⟨t2,ht2⟩:∃t2,t2=r2.setCell ⟨w.heap.size+1+1+1,2,none⟩ (St c2):=⟨_,rfl⟩;have hp:=HR2.out.put2 c2;rw[<-ht2] at hp;have HQ2:=hid hp;have HT:=hid ht2.symm;clear hp ht2;go_wp2_with fail;have h9:=HT.out;rw[show r2.setCell ⟨w.heap.size+1+1+1,2,none⟩ (.string ⟨c2.toArray⟩)=t2 from h9];clear h9 HT d0 d1 d2 z0 z1 z2 HR2;rw[rounds_succ];obtain⟨d0,d1,d2, -, -, -⟩:=zah HQ2.out.h3;go_wp2_with fail;clear d0 d1 d2;refine(zlf c0 c1 c2 t2).mono ?_;rintro e r3 ⟨rfl,hb⟩;have hn:=HQ2.out.next hb;obtain⟨d0,d1,d2,z0,z1,z2⟩:=zah hn.h2;have HF:=hid hn;clear hn hb HQ2;go_wp2_with fail
 have hf:=HF.out.bel;exact bodyPost_ret (v:=.tuple #[.agg #[St c0,St c1,St c2],.int .i64 0]) (by simp[results,Tryz.results78,go_sem,d0,d1,d2]) rfl ⟨rfl,((hf.setCell (p:=⟨w.heap.size+1+1,0,none⟩) (by show _<=w.heap.size+1+1;omega) _).setCell (p:=⟨w.heap.size+1+1,1,none⟩) (by show _<=w.heap.size+1+1;omega) _).setCell (p:=⟨w.heap.size+1+1,2,none⟩) (by show _<=w.heap.size+1+1;omega) _⟩
theorem zfs {w v1:zA} {a b c d e f:Value} {s t:TypeId} (hv:v1=(w.alloc (.cells #[a,b,c] s)).alloc (.cells #[d,e,f] t)):
 qL w v1/\v1.heap[w.heap.size]? =some (.cells #[a,b,c] s (0,0))/\v1.heap[w.heap.size+1]? =some (.cells #[d,e,f] t (0,0))/\v1.heap.size=w.heap.size+1+1:=by
 refine⟨by rw[hv];exact((zM _ w).alloc (zN _) _).alloc (by simp) _,by rw[hv];exact(Below.heap_alloc _ _ _ (by simp)).trans (zG w _),?_,by rw[hv];simp⟩;rw[hv];have:=zG (w.alloc (.cells #[a,b,c] s)) (.cells #[d,e,f] t);rw[zH] at this;exact this
theorem zqa (a0 a1 a2 b0 b1 b2 c0 c1 c2 s r:List UInt8) (w:zA)
 (WI:Hid (∀W:zA,qL w W->qJ 78 #[.agg #[St a0,St a1,St a2],.agg #[St b0,St b1,St b2],.func (.func 79) #[] #[]] W (.tuple #[.agg #[St c0,St c1,St c2],.int .i64 0])))
 (D1:Hid (∀W:zA,qL w W->qJ 111 #[St c0,St c1] W (.tuple #[St s,.int .i64 0])))
 (D2:Hid (∀W:zA,qL w W->qJ 111 #[St s,St c2] W (.tuple #[St r,.int .i64 0]))):
 qJ 70 #[.agg #[St a0,St a1,St a2],.agg #[St b0,St b1,St b2]] w (.tuple #[St r,.int .i64 0]):=by
 obtain⟨v1,hv⟩:∃v1,v1=(w.alloc (.cells #[St a0,St a1,St a2] 112)).alloc (.cells #[St b0,St b1,St b2] 112):=⟨_,rfl⟩;have b1:=(zfs hv).1;have HC:=hid (WI.out v1 b1);have B1:=hid b1;have HV:=hid hv.symm;clear hv b1 WI;go_enter Tryz.func70,Tryz.ntmps70;go_wp2_with fail;have h9:=HV.out;rw[show(w.alloc (.cells #[.string ⟨a0.toArray⟩,.string ⟨a1.toArray⟩,.string ⟨a2.toArray⟩] 112)).alloc (.cells #[.string ⟨b0.toArray⟩,.string ⟨b1.toArray⟩,.string ⟨b2.toArray⟩] 112)=v1 from h9];clear h9 HV;refine HC.out.mono ?_;rintro e r0 ⟨rfl,hb⟩;obtain⟨y4,hy⟩:∃y4,y4=r0.alloc (.cells #[St c0,St c1,St c2] 49):=⟨_,rfl⟩;have by4:qL r0 y4:=by rw[hy];exact(zM _ r0).alloc (zN _) _
 obtain⟨Y,hY⟩:∃Y,Y=r0.heap.size:=⟨_,rfl⟩;have hYb:y4.heap[Y]? =some (.cells #[St c0,St c1,St c2] 49 (0,0)):=by rw[hy,hY];exact zG r0 _
 have hx:=hb.trans (by4.mono hb.size);have hB:=B1.out.trans (hx.mono B1.out.size);have B2:=hid hB;have HD:=hid (D1.out y4 hB);have P2:=hid hYb;obtain⟨d0,d1,d2, -, -, -⟩:=zah hYb;have HY:=hid hy.symm;have HYe:=hid hY.symm;clear hb hx hy hY by4 hYb hB B1 D1 HC;rw[<-HY.out] at d0 d1 d2;go_wp2_with fail;have h9:=HY.out;rw[show r0.alloc (.cells #[.string ⟨c0.toArray⟩,.string ⟨c1.toArray⟩,.string ⟨c2.toArray⟩] 49)=y4 from h9]
 try rw[HYe.out]
 clear h9 HY HYe d0 d1 d2;refine HD.out.mono ?_;rintro e r1 ⟨rfl,hb⟩;have hB:=B2.out.trans (hb.mono B2.out.size);have B3:=hid hB;have HD2:=hid (D2.out r1 hB);obtain⟨d0,d1,d2, -, -, -⟩:=zah (zac hb _ _ _ _ P2.out);clear hb hB HD D2 B2 P2;go_wp2_with fail;clear d0 d1 d2;refine HD2.out.mono ?_;rintro e r2 ⟨rfl,hb⟩;have B4:=hid (B3.out.trans (hb.mono B3.out.size));clear hb HD2 B3;go_wp2_with fail;go_ret2;exact⟨rfl,B4.out⟩
theorem zll (a0 a1 a2 b0 b1 b2 r:List UInt8) (w:zA)
 (BO:Hid (∀W:zA,qL w W->qJ 68 #[.agg #[St a0,St a1,St a2],.agg #[St b0,St b1,St b2]] W (.int .i64 0)))
 (DO:Hid (∀W:zA,qL w W->qJ 70 #[.agg #[St a0,St a1,St a2],.agg #[St b0,St b1,St b2]] W (.tuple #[St r,.int .i64 0]))):
 qJ 31 #[.agg #[St a0,St a1,St a2],.agg #[St b0,St b1,St b2]] w (.tuple #[St r,.int .i64 0]):=by
 obtain⟨v1,hv⟩:∃v1,v1=(w.alloc (.cells #[St a0,St a1,St a2] 49)).alloc (.cells #[St b0,St b1,St b2] 49):=⟨_,rfl⟩;obtain⟨b1,p1,p2, -⟩:=zfs hv;have HC:=hid (BO.out v1 b1);have B1:=hid b1;have P1:=hid p1;have P2:=hid p2;have HV:=hid hv.symm;clear hv b1 BO p1 p2;go_enter Tryz.func31,Tryz.ntmps31;go_wp2_with fail;have h9:=HV.out;rw[show(w.alloc (.cells #[.string ⟨a0.toArray⟩,.string ⟨a1.toArray⟩,.string ⟨a2.toArray⟩] 49)).alloc (.cells #[.string ⟨b0.toArray⟩,.string ⟨b1.toArray⟩,.string ⟨b2.toArray⟩] 49)=v1 from h9];clear h9 HV;refine HC.out.mono ?_;rintro e r0 ⟨rfl,hb⟩;have hB:=B1.out.trans (hb.mono B1.out.size);have B2:=hid hB;have HD:=hid (DO.out r0 hB);obtain⟨d0,d1,d2, -, -, -⟩:=zah (zac hb _ _ _ _ P1.out);obtain⟨d3,d4,d5, -, -, -⟩:=zah (zac hb _ _ _ _ P2.out);clear hb hB B1 DO HC P1 P2;go_wp2_with fail;clear d0 d1 d2 d3 d4 d5;refine HD.out.mono ?_;rintro e r2 ⟨rfl,hb⟩;have B4:=hid (B2.out.trans (hb.mono B2.out.size));clear hb HD B2;go_wp2_with fail;go_ret2;exact⟨rfl,B4.out⟩
theorem zhm {w v1:zA} {a b c d e f x y z:Value} {s t u:TypeId} (hv:v1=((w.alloc (.cells #[a,b,c] s)).alloc (.cells #[d,e,f] t)).alloc (.cells #[x,y,z] u)):
 qL w v1/\v1.heap[w.heap.size]? =some (.cells #[a,b,c] s (0,0))/\v1.heap[w.heap.size+1]? =some (.cells #[d,e,f] t (0,0))/\v1.heap[w.heap.size+1+1]? =some (.cells #[x,y,z] u (0,0))/\v1.heap.size=w.heap.size+1+1+1:=by
 obtain⟨v0,h0⟩:∃v0,v0=(w.alloc (.cells #[a,b,c] s)).alloc (.cells #[d,e,f] t):=⟨_,rfl⟩;obtain⟨h1,h2,h3,h4⟩:=zfs h0;rw[<-h0] at hv;have hb:qL v0 v1:=by rw[hv];exact(zM _ v0).alloc (zN _) _
 have hc:=zac hb;exact⟨h1.trans (hb.mono h1.size),hc _ _ _ _ h2,hc _ _ _ _ h3,by rw[hv,<-h4];exact zG v0 _,by rw[hv,zH,h4]⟩
theorem zjm (a0 a1 a2 b0 b1 b2 c0 c1 c2:List UInt8) (w:zA)
 (BO:Hid (∀W:zA,qL w W->qJ 68 #[.agg #[St a0,St a1,St a2],.agg #[St b0,St b1,St b2]] W (.int .i64 0)))
 (DO:Hid (∀W:zA,qL w W->qJ 69 #[.agg #[St a0,St a1,St a2],.agg #[St b0,St b1,St b2]] W (.tuple #[.agg #[St c0,St c1,St c2],.int .i64 0]))):
 qJ 29 #[.agg #[St a0,St a1,St a2],.agg #[St b0,St b1,St b2]] w (.tuple #[.agg #[St c0,St c1,St c2],.int .i64 0]):=by
 obtain⟨v1,hv⟩:∃v1,v1=((w.alloc (.cells #[St a0,St a1,St a2] 49)).alloc (.cells #[St b0,St b1,St b2] 49)).alloc (.cells #[St [],St [],St []] 49):=⟨_,rfl⟩;obtain⟨b1,p1,p2,p3, -⟩:=zhm hv;have HC:=hid (BO.out v1 b1);have B1:=hid b1;have P1:=hid p1;have P2:=hid p2;have P3:=hid p3;have HV:=hid hv.symm;clear hv b1 BO p1 p2 p3;go_enter Tryz.func29,Tryz.ntmps29;go_wp2_with fail;have h9:=HV.out;rw[show((w.alloc (.cells #[.string ⟨a0.toArray⟩,.string ⟨a1.toArray⟩,.string ⟨a2.toArray⟩] 49)).alloc (.cells #[.string ⟨b0.toArray⟩,.string ⟨b1.toArray⟩,.string ⟨b2.toArray⟩] 49)).alloc (.cells #[.string ⟨#[]⟩,.string ⟨#[]⟩,.string ⟨#[]⟩] 49)=v1 from h9];clear h9 HV;refine HC.out.mono ?_;rintro e r0 ⟨rfl,hb⟩;have hB:=B1.out.trans (hb.mono B1.out.size);have B2:=hid hB;have HD:=hid (DO.out r0 hB);obtain⟨d0,d1,d2, -, -, -⟩:=zah (zac hb _ _ _ _ P1.out);obtain⟨d3,d4,d5, -, -, -⟩:=zah (zac hb _ _ _ _ P2.out);have P4:=hid (zac hb _ _ _ _ P3.out);clear hb hB B1 DO HC P1 P2 P3;go_wp2_with fail;clear d0 d1 d2 d3 d4 d5;refine HD.out.mono ?_;rintro e r2 ⟨rfl,hb⟩;have hf:=B2.out.trans (hb.mono B2.out.size);have B4:=hid hf;obtain⟨d0,d1,d2,z0,z1,z2⟩:=zah (zac hb _ _ _ _ P4.out);clear hb HD B2 P4 hf;go_wp2_with fail
 exact bodyPost_ret (v:=.tuple #[.agg #[St c0,St c1,St c2],.int .i64 0]) (by simp[results,Tryz.results29,go_sem,d0,d1,d2]) rfl ⟨rfl,((B4.out.setCell (p:=⟨w.heap.size+1+1,0,none⟩) (by show _<=w.heap.size+1+1;omega) _).setCell (p:=⟨w.heap.size+1+1,1,none⟩) (by show _<=w.heap.size+1+1;omega) _).setCell (p:=⟨w.heap.size+1+1,2,none⟩) (by show _<=w.heap.size+1+1;omega) _⟩
theorem zj3 (a0 a1 a2 x c0 c1 c2:List UInt8) (w:zA)
 (CK:Hid (∀W:zA,qL w W->qJ 47 #[.agg #[St a0,St a1,St a2]] W (.int .i64 0)))
 (CX:Hid (∀W:zA,qL w W->qJ 77 #[St x] W (.int .i64 0)))
 (WI:Hid (∀W:zA,qL w W->qJ 78 #[.agg #[St a0,St a1,St a2],.agg #[St x,St x,St x],.func (.func 79) #[] #[]] W (.tuple #[.agg #[St c0,St c1,St c2],.int .i64 0]))):
 qJ 33 #[.agg #[St a0,St a1,St a2],St x] w (.tuple #[.agg #[St c0,St c1,St c2],.int .i64 0]):=by
 obtain⟨v1,hv⟩:∃v1,v1=(w.alloc (.cells #[St a0,St a1,St a2] 49)).alloc (.cells #[St [],St [],St []] 49):=⟨_,rfl⟩;obtain⟨b1,p1,p2, -⟩:=zfs hv;have HC:=hid (CK.out v1 b1);have B1:=hid b1;have P1:=hid p1;have P2:=hid p2;have HV:=hid hv.symm;clear hv b1 CK p1 p2;go_enter Tryz.func33,Tryz.ntmps33;go_wp2_with fail;have h9:=HV.out;rw[show(w.alloc (.cells #[.string ⟨a0.toArray⟩,.string ⟨a1.toArray⟩,.string ⟨a2.toArray⟩] 49)).alloc (.cells #[.string ⟨#[]⟩,.string ⟨#[]⟩,.string ⟨#[]⟩] 49)=v1 from h9];clear h9 HV;refine HC.out.mono ?_;rintro e r0 ⟨rfl,hb⟩;have hB:=B1.out.trans (hb.mono B1.out.size);have B2:=hid hB;have HD:=hid (CX.out r0 hB);have P3:=hid (zac hb _ _ _ _ P1.out);have P4:=hid (zac hb _ _ _ _ P2.out);clear hb hB B1 CX HC P1 P2;go_wp2_with fail;refine HD.out.mono ?_;rintro e r1 ⟨rfl,hb⟩;have hB:=B2.out.trans (hb.mono B2.out.size);have B3:=hid hB;have HW:=hid (WI.out r1 hB);obtain⟨d0,d1,d2, -, -, -⟩:=zah (zac hb _ _ _ _ P3.out);have P5:=hid (zac hb _ _ _ _ P4.out);clear hb hB B2 WI HD P3 P4;go_wp2_with fail;clear d0 d1 d2;refine HW.out.mono ?_;rintro e r2 ⟨rfl,hb⟩;have B4:=hid (B3.out.trans (hb.mono B3.out.size));obtain⟨d0,d1,d2,z0,z1,z2⟩:=zah (zac hb _ _ _ _ P5.out);clear hb HW B3 P5;go_wp2_with fail
 exact bodyPost_ret (v:=.tuple #[.agg #[St c0,St c1,St c2],.int .i64 0]) (by simp[results,Tryz.results33,go_sem,d0,d1,d2]) rfl ⟨rfl,((B4.out.setCell (p:=⟨w.heap.size+1,0,none⟩) (by show _<=w.heap.size+1;omega) _).setCell (p:=⟨w.heap.size+1,1,none⟩) (by show _<=w.heap.size+1;omega) _).setCell (p:=⟨w.heap.size+1,2,none⟩) (by show _<=w.heap.size+1;omega) _⟩
structure BoxS (n X0 Y0:Nat) (z:Array Value) (c:Nat->Array Value) (t:TypeId) (w:zA) (q:Nat->Nat) (f:Nat->Bool) (W:zA):Prop where
 bel:qL w W
 lo:∀i,i<n->f (X0+i)=true->w.heap.size<=q i
 ne:∀i j,i<n->j<n->i≠j->f (X0+i)=true->f (X0+j)=true->q i≠q j
 blk:∀i,i<n->f (X0+i)=true->W.heap[q i]? =some (.cells (if f (Y0+i)=true then c i else z) t (0,0))
section
variable {n X0 Y0:Nat} {z:Array Value} {c:Nat->Array Value} {t:TypeId} {w W W':zA} {q:Nat->Nat} {f:Nat->Bool}
theorem BoxS.start (hb:qL w W):BoxS n X0 Y0 z c t w q (λ_=>false) W:=⟨hb,λ_ _ k=>(by cases k),λ_ _ _ _ _ k=>(by cases k),λ_ _ k=>(by cases k)⟩
theorem BoxS.step (h:BoxS n X0 Y0 z c t w q f W) (k:Nat) (h1:k<X0\/X0+n<=k) (h2:k<Y0\/Y0+n<=k):BoxS n X0 Y0 z c t w q (λj=>if k=j then true else f j) W:=by
 have e1:∀i,i<n->(if k=X0+i then true else f (X0+i))=f (X0+i):=λi hi=>if_neg (by omega);have e2:∀i,i<n->(if k=Y0+i then true else f (Y0+i))=f (Y0+i):=λi hi=>if_neg (by omega);exact⟨h.bel,λi hi=>by simp only[e1 i hi];exact h.lo i hi,λi j hi hj=>by simp only[e1 i hi,e1 j hj];exact h.ne i j hi hj,λi hi=>by simp only[e1 i hi,e2 i hi];exact h.blk i hi⟩
theorem BoxS.next (h:BoxS n X0 Y0 z c t w q f W) (hb:qL W W'):BoxS n X0 Y0 z c t w q f W':=
 ⟨h.bel.trans (hb.mono h.bel.size),h.lo,h.ne,λi hi k=>zac hb _ _ _ _ (h.blk i hi k)⟩
theorem BoxS.new (h:BoxS n X0 Y0 z c t w q f W) (i:Nat) (hi:i<n) (h0:f (Y0+i)=false) (hX:X0+n<=Y0):BoxS n X0 Y0 z c t w (λj=>if j=i then W.heap.size else q j) (λj=>if X0+i=j then true else f j) (W.alloc (.cells z t)):=by
 have hb:qL W (W.alloc (.cells z t)):=(zM _ W).alloc (zN _) _;have e2:∀k,k<n->(if X0+i=Y0+k then true else f (Y0+k))=f (Y0+k):=λk hk=>if_neg (by omega);have e1:∀k,k≠i->(if X0+i=X0+k then true else f (X0+k))=f (X0+k):=λk hk=>if_neg (by omega);have lt:∀k,k<n->f (X0+k)=true->q k<W.heap.size:=λk hk hf=>(Array.getElem?_eq_some_iff.1 (h.blk k hk hf)).1;refine⟨h.bel.trans (hb.mono h.bel.size),λk hk=>?_,λa b ha hb' hab=>?_,λk hk=>?_⟩
 ·by_cases e:k=i
  ·simp only[if_pos e];exact λ_=>h.bel.size
  ·simp only[if_neg e,e1 k e];exact h.lo k hk
 ·by_cases ea:a=i
  ·have eb:b≠i:=λeb=>hab (ea.trans eb.symm)
   simp only[if_pos ea,if_neg eb,e1 b eb];intro _ hf;have:=lt b hb' hf;omega
  ·by_cases eb:b=i
   ·simp only[if_neg ea,if_pos eb,e1 a ea]
    intro hf _;have:=lt a ha hf;omega
   ·simp only[if_neg ea,if_neg eb,e1 a ea,e1 b eb];exact h.ne a b ha hb' hab
 ·simp only[e2 k hk]
  by_cases e:k=i
  ·simp only[if_pos e]
   intro _;rw[show f (Y0+k)=false by rw[e];exact h0];exact zG _ _
  ·simp only[if_neg e,e1 k e]
   intro hf;exact zac hb _ _ _ _ (h.blk k hk hf)
theorem BoxS.put (h:BoxS n X0 Y0 z c t w q f W) (i:Nat) (hi:i<n) (k:f (X0+i)=true) (hX:X0+n<=Y0) (u0 u1 u2:Value) (hc:c i= #[u0,u1,u2]) (hz:z.size=3):BoxS n X0 Y0 z c t w q (λj=>if Y0+i=j then true else f j) (((W.setCell ⟨q i,0,none⟩ u0).setCell ⟨q i,1,none⟩ u1).setCell ⟨q i,2,none⟩ u2):=by
 have hl:=h.lo i hi k;have e1:∀k,k<n->(if Y0+i=X0+k then true else f (X0+k))=f (X0+k):=λk hk=>if_neg (by omega);refine⟨((h.bel.setCell (p:=⟨q i,0,none⟩) (by exact hl) _).setCell (p:=⟨q i,1,none⟩) (by exact hl) _).setCell (p:=⟨q i,2,none⟩) (by exact hl) _,λj hj=>by simp only[e1 j hj];exact h.lo j hj,λa b ha hb=>by simp only[e1 a ha,e1 b hb];exact h.ne a b ha hb,λj hj=>?_⟩;simp only[e1 j hj];intro hf;by_cases e:j=i
 ·subst e
  rw[if_pos (show(if Y0+j=Y0+j then true else f (Y0+j))=true from if_pos rfl),hc];have hb:=h.blk j hj hf;have hs:(if f (Y0+j)=true then c j else z).size=3:=by split;rw[hc];rfl;exact hz
  rw[zK (i:=2) (zK (i:=1) (zK (i:=0) hb u0) u1) u2];generalize (if f (Y0+j)=true then c j else z)=m at hs;obtain⟨l⟩:=m
  match l,hs with
  |[a,b,c],_=>rfl
 ·have hn:=h.ne j i hj hi e hf k
  rw[if_neg (show Y0+i≠Y0+j by omega),yE _ _ _ _ (by exact hn),yE _ _ _ _ (by exact hn),yE _ _ _ _ (by exact hn)];exact h.blk j hj hf
theorem BoxS.open (h:BoxS n X0 Y0 z c t w q f W) (i:Nat) (hi:i<n) (k:f (X0+i)=true) (hz:z.size=3) (hc:(c i).size=3):(∃s,W.cell? ⟨q i,0,none⟩=some s)/\(∃s,W.cell? ⟨q i,1,none⟩=some s)/\(∃s,W.cell? ⟨q i,2,none⟩=some s)/\W.frozen? ⟨q i,0,none⟩=false/\W.frozen? ⟨q i,1,none⟩=false/\W.frozen? ⟨q i,2,none⟩=false:=by
 have hb:=h.blk i hi k;have hs:(if f (Y0+i)=true then c i else z).size=3:=by split;exact hc;exact hz
 generalize (if f (Y0+i)=true then c i else z)=m at hb hs;obtain⟨l⟩:=m
 match l,hs with
 |[a,b,c],_=>exact⟨⟨a,(zah hb).1⟩,⟨b,(zah hb).2.1⟩,⟨c,(zah hb).2.2.1⟩,(zah hb).2.2.2.1,(zah hb).2.2.2.2.1,(zah hb).2.2.2.2.2⟩
end
structure CrS (w:zA) (x0 x1 x2 y0 y1 y2 o0 o1 o2:List UInt8) (Y1 Y2:Nat) (W:zA):Prop where
 bel:qL w W
 h2:W.heap[w.heap.size+1+1]? =some (.cells #[St [],St [],St []] 49 (0,0))
 h3:W.heap[w.heap.size+1+1+1]? =some (.cells #[St o0,St o1,St o2] 141 (0,0))
 lo1:w.heap.size+1+1+1<Y1
 lo2:w.heap.size+1+1+1<Y2
 h4:W.heap[Y1]? =some (.cells #[St x0,St x1,St x2] 141 (0,0))
 h5:W.heap[Y2]? =some (.cells #[St y0,St y1,St y2] 141 (0,0))
section
variable {w W W':zA} {x0 x1 x2 y0 y1 y2 o0 o1 o2:List UInt8} {Y1 Y2:Nat}
theorem CrS.next (h:CrS w x0 x1 x2 y0 y1 y2 o0 o1 o2 Y1 Y2 W) (hb:qL W W'):CrS w x0 x1 x2 y0 y1 y2 o0 o1 o2 Y1 Y2 W':=
 have hc:=zac hb
 ⟨h.bel.trans (hb.mono h.bel.size),hc _ _ _ _ h.h2,hc _ _ _ _ h.h3,h.lo1,h.lo2,hc _ _ _ _ h.h4,hc _ _ _ _ h.h5⟩
theorem CrS.ne (h:CrS w x0 x1 x2 y0 y1 y2 o0 o1 o2 Y1 Y2 W) (i:Nat) (u:Value):qL w (W.setCell ⟨w.heap.size+1+1+1,i,none⟩ u)/\(∀b,b≠w.heap.size+1+1+1->(W.setCell ⟨w.heap.size+1+1+1,i,none⟩ u).heap[b]? =W.heap[b]?):=
 ⟨h.bel.setCell (p:=⟨w.heap.size+1+1+1,i,none⟩) (by show _<=w.heap.size+1+1+1;omega) _,λb hb=>yE _ _ _ _ (by exact hb)⟩
theorem CrS.put0 (h:CrS w x0 x1 x2 y0 y1 y2 o0 o1 o2 Y1 Y2 W) (u:List UInt8):CrS w x0 x1 x2 y0 y1 y2 u o1 o2 Y1 Y2 (W.setCell ⟨w.heap.size+1+1+1,0,none⟩ (St u)):=by
 obtain⟨k1,k2⟩:=h.ne 0 (St u);have:=h.lo1;have:=h.lo2;exact⟨k1,(k2 _ (by omega)).trans h.h2,zK (i:=0) h.h3 (St u),h.lo1,h.lo2,(k2 _ (by omega)).trans h.h4,(k2 _ (by omega)).trans h.h5⟩
theorem CrS.put1 (h:CrS w x0 x1 x2 y0 y1 y2 o0 o1 o2 Y1 Y2 W) (u:List UInt8):CrS w x0 x1 x2 y0 y1 y2 o0 u o2 Y1 Y2 (W.setCell ⟨w.heap.size+1+1+1,1,none⟩ (St u)):=by
 obtain⟨k1,k2⟩:=h.ne 1 (St u);have:=h.lo1;have:=h.lo2;exact⟨k1,(k2 _ (by omega)).trans h.h2,zK (i:=1) h.h3 (St u),h.lo1,h.lo2,(k2 _ (by omega)).trans h.h4,(k2 _ (by omega)).trans h.h5⟩
theorem CrS.put2 (h:CrS w x0 x1 x2 y0 y1 y2 o0 o1 o2 Y1 Y2 W) (u:List UInt8):CrS w x0 x1 x2 y0 y1 y2 o0 o1 u Y1 Y2 (W.setCell ⟨w.heap.size+1+1+1,2,none⟩ (St u)):=by
 obtain⟨k1,k2⟩:=h.ne 2 (St u);have:=h.lo1;have:=h.lo2;exact⟨k1,(k2 _ (by omega)).trans h.h2,zK (i:=2) h.h3 (St u),h.lo1,h.lo2,(k2 _ (by omega)).trans h.h4,(k2 _ (by omega)).trans h.h5⟩
end
theorem zm3 (x0 x1 x2 y0 y1 y2 p0 p1 p2 q0 q1 q2 c0 c1 c2:List UInt8) (w:zA)
 (P0:Hid (∀W:zA,qL w W->qJ 79 #[St x1,St y2] W (.tuple #[St p0,.int .i64 0])))
 (Q0:Hid (∀W:zA,qL w W->qJ 79 #[St x2,St y1] W (.tuple #[St q0,.int .i64 0])))
 (S0:Hid (∀W:zA,qL w W->qJ 109 #[St p0,St q0] W (.tuple #[St c0,.int .i64 0])))
 (P1:Hid (∀W:zA,qL w W->qJ 79 #[St x2,St y0] W (.tuple #[St p1,.int .i64 0])))
 (Q1:Hid (∀W:zA,qL w W->qJ 79 #[St x0,St y2] W (.tuple #[St q1,.int .i64 0])))
 (S1:Hid (∀W:zA,qL w W->qJ 109 #[St p1,St q1] W (.tuple #[St c1,.int .i64 0])))
 (P2:Hid (∀W:zA,qL w W->qJ 79 #[St x0,St y1] W (.tuple #[St p2,.int .i64 0])))
 (Q2:Hid (∀W:zA,qL w W->qJ 79 #[St x1,St y0] W (.tuple #[St q2,.int .i64 0])))
 (S2:Hid (∀W:zA,qL w W->qJ 109 #[St p2,St q2] W (.tuple #[St c2,.int .i64 0]))):
 qJ 69 #[.agg #[St x0,St x1,St x2],.agg #[St y0,St y1,St y2]] w (.tuple #[.agg #[St c0,St c1,St c2],.int .i64 0]):=by
 obtain⟨z3,hz3⟩:∃z3,z3=((w.alloc (.cells #[St x0,St x1,St x2] 112)).alloc (.cells #[St y0,St y1,St y2] 112)).alloc (.cells #[St [],St [],St []] 49):=⟨_,rfl⟩;obtain⟨g1,g2,g3,g4,g5⟩:=zhm hz3;obtain⟨z4,hz4⟩:∃z4,z4=z3.alloc (.cells #[St [],St [],St []] 141):=⟨_,rfl⟩;have b4:qL z3 z4:=by rw[hz4];exact(zM _ z3).alloc (zN _) _
 have hck:=zac b4
 have F:=hid (⟨g1.trans (b4.mono g1.size),hck _ _ _ _ g2,hck _ _ _ _ g3,hck _ _ _ _ g4,by rw[hz4,<-g5];exact zG z3 _,by rw[hz4,zH,g5]⟩:
  qL w z4/\z4.heap[w.heap.size]? =some (.cells #[St x0,St x1,St x2] 112 (0,0))/\z4.heap[w.heap.size+1]? =some (.cells #[St y0,St y1,St y2] 112 (0,0))/\z4.heap[w.heap.size+1+1]? =some (.cells #[St [],St [],St []] 49 (0,0))/\z4.heap[w.heap.size+1+1+1]? =some (.cells #[St [],St [],St []] 141 (0,0))/\z4.heap.size=w.heap.size+1+1+1+1)
 have hall:z4=(((w.alloc (.cells #[St x0,St x1,St x2] 112)).alloc (.cells #[St y0,St y1,St y2] 112)).alloc (.cells #[St [],St [],St []] 49)).alloc (.cells #[St [],St [],St []] 141):=by rw[hz4,hz3]
 have HV:=hid hall.symm;clear hall hz3 hz4 g1 g2 g3 g4 g5 b4 hck;clear z3;go_enter Tryz.func69,Tryz.ntmps69;go_wp2_with fail;have h9:=HV.out;rw[show(((w.alloc (.cells #[.string ⟨x0.toArray⟩,.string ⟨x1.toArray⟩,.string ⟨x2.toArray⟩] 112)).alloc (.cells #[.string ⟨y0.toArray⟩,.string ⟨y1.toArray⟩,.string ⟨y2.toArray⟩] 112)).alloc (.cells #[.string ⟨#[]⟩,.string ⟨#[]⟩,.string ⟨#[]⟩] 49)).alloc (.cells #[.string ⟨#[]⟩,.string ⟨#[]⟩,.string ⟨#[]⟩] 141)=z4 from h9];clear h9 HV;have KA:=hid (λW (h:qL z4 W)=>(⟨zah (zac h _ _ _ _ F.out.2.1),zah (zac h _ _ _ _ F.out.2.2.1)⟩:(_/\_/\_/\_/\_/\_)/\_/\_/\_/\_/\_/\_));refine zc4 (λ(q:Nat->Nat) i=>([.agg #[St x0,St x1,St x2],.agg #[St x0,St x1,St x2],.agg #[St y0,St y1,St y2],.agg #[St y0,St y1,St y2],.pointer (some ⟨q 0,0,none⟩),.pointer (some ⟨q 1,0,none⟩),undef,undef]:List Value).getD i undef)
  (BoxS 2 4 6 #[St [],St [],St []] (λi=>if i=0 then #[St x0,St x1,St x2] else #[St y0,St y1,St y2]) 141 z4) (by kernel_rfl) (by kernel_rfl) (λ_=>0) (BoxS.start (zM _ z4).drew) λq=>?_
 refine qB (.agg #[St x0,St x1,St x2]) (λf W' h=>h.step 0 (by decide) (by decide)) ?_ (hy:=λf W' hf h=>by obtain⟨⟨d0,d1,d2, -⟩, -⟩:=KA.out W' h.bel;go_simp);simp only[zzQ]
 refine zbv (.agg #[St x0,St x1,St x2]) (by rfl) (by rfl) (λf W' hf h C' hC'=>by
  go_simp;refine(zda x0 x1 x2 W').mono ?_;rintro e w' ⟨rfl,hb⟩;exact⟨_,rfl,hC' _ ((h.next hb).step 1 (by decide) (by decide))⟩) ?_
 try simp only[zzQ]
 refine qB (.agg #[St y0,St y1,St y2]) (λf W' h=>h.step 2 (by decide) (by decide)) ?_ (hy:=λf W' hf h=>by obtain⟨-,d0,d1,d2, -⟩:=KA.out W' h.bel;go_simp);simp only[zzQ]
 refine zbv (.agg #[St y0,St y1,St y2]) (by rfl) (by rfl) (λf W' hf h C' hC'=>by
  go_simp;refine(zda y0 y1 y2 W').mono ?_;rintro e w' ⟨rfl,hb⟩;exact⟨_,rfl,hC' _ ((h.next hb).step 3 (by decide) (by decide))⟩) ?_
 try simp only[zzQ]
 refine zdc (.pointer (some ⟨q 0,0,none⟩)) (by rfl) (by rfl) (λf W' hf h C' hC'=>by
  have h0:=hf.self;have h1:=hf.no (j:=6) hf.self (by kernel_rfl);have hc:=hC' (λj=>if j=0 then W'.heap.size else q j) _ (λj hj=>by
   match j,hj with
   |0,_|1,_|2,_|3,_|5,_|6,_|7,_=>rfl
   |4,hj=>rw[h0] at hj;cases hj
   |_+8,_=>rfl) (h.new 0 (by decide) h1 (by decide))
  clear h hC';go_simp;exact hc) ?_
 try simp only[zzQ]
 refine zdc (.pointer (some ⟨q 1,0,none⟩)) (by rfl) (by rfl) (λf W' hf h C' hC'=>by
  have h0:=hf.self;have h1:=hf.no (j:=7) hf.self (by kernel_rfl);have hc:=hC' (λj=>if j=1 then W'.heap.size else q j) _ (λj hj=>by
   match j,hj with
   |0,_|1,_|2,_|3,_|4,_|6,_|7,_=>rfl
   |5,hj=>rw[h0] at hj;cases hj
   |_+8,_=>rfl) (h.new 1 (by decide) h1 (by decide))
  clear h hC';go_simp;exact hc) ?_
 try simp only[zzQ]
 refine zbv undef (by rfl) (by rfl) (λf W' hf h C' hC'=>by
  have h0:=hf.done 4 (by kernel_rfl);obtain⟨⟨s0,d0⟩,⟨s1,d1⟩,⟨s2,d2⟩,z0,z1,z2⟩:=h.open 0 (by decide) h0 rfl rfl;have hc:=hC' _ (h.put 0 (by decide) h0 (by decide) (St x0) (St x1) (St x2) rfl rfl);clear h hC';go_simp;exact hc) ?_
 try simp only[zzQ]
 refine zbv undef (by rfl) (by rfl) (λf W' hf h C' hC'=>by
  have h0:=hf.done 5 (by kernel_rfl);obtain⟨⟨s0,d0⟩,⟨s1,d1⟩,⟨s2,d2⟩,z0,z1,z2⟩:=h.open 1 (by decide) h0 rfl rfl;have hc:=hC' _ (h.put 1 (by decide) h0 (by decide) (St y0) (St y1) (St y2) rfl rfl);clear h hC';go_simp;exact hc) ?_
 try simp only[zzQ]
 refine ze1 λf X hf h=>?_;obtain⟨Y1,hY1⟩:∃Y1,Y1=q 0:=⟨_,rfl⟩;obtain⟨Y2,hY2⟩:∃Y2,Y2=q 1:=⟨_,rfl⟩;have hA:=h.blk 0 (by decide) (hf 4 (by decide));have hB:=h.blk 1 (by decide) (hf 5 (by decide));have l1:=h.lo 0 (by decide) (hf 4 (by decide));have l2:=h.lo 1 (by decide) (hf 5 (by decide));rw[if_pos (hf 6 (by decide))] at hA;rw[if_pos (hf 7 (by decide))] at hB;rw[<-hY1] at hA l1;rw[<-hY2] at hB l2;have hck:=zac h.bel;have HS0:Hid (CrS w x0 x1 x2 y0 y1 y2 [] [] [] Y1 Y2 X):=hid ⟨F.out.1.trans (h.bel.mono F.out.1.size),hck _ _ _ _ F.out.2.2.2.1,hck _ _ _ _ F.out.2.2.2.2.1,by have:=F.out.2.2.2.2.2;omega,by have:=F.out.2.2.2.2.2;omega,hA,hB⟩;rw[<-hY1,<-hY2];clear hY1 hY2 hA hB l1 l2 hck h hf F KA;go_wp2_with fail;refine wp_loop_rounds 4 ?_;rw[rounds_succ];go_wp2_with fail;refine zc4 (λ(_:Unit) i=>([.int .i64 1,.pointer (some ⟨Y1,1,none⟩),St x1,.int .i64 2,.pointer (some ⟨Y2,2,none⟩),St y2,.tuple #[St p0,.int .i64 0],.tuple #[St p0,.int .i64 0],St p0,.int .i64 0,St p0,.int .i64 0]:List Value).getD i undef) (λ_ _ V=>qL X V) (by kernel_rfl) (by kernel_rfl) () ((zM _ X).drew) λ_=>?_;refine qB (.int .i64 1) (λf W' h=>h) ?_;simp only[zzQ];refine qB (.pointer (some ⟨Y1,1,none⟩)) (λf W' h=>h) ?_;simp only[zzQ];refine qB (St x1) (λf W' h=>h) ?_ (hy:=λf W' hf h=>by obtain⟨d0,d1,d2, -⟩:=zah (zac h _ _ _ _ HS0.out.h4);go_simp);simp only[zzQ];refine qB (.int .i64 2) (λf W' h=>h) ?_;simp only[zzQ];refine qB (.pointer (some ⟨Y2,2,none⟩)) (λf W' h=>h) ?_;simp only[zzQ]
 refine qB (St y2) (λf W' h=>h) ?_ (hy:=λf W' hf h=>by obtain⟨d0,d1,d2, -⟩:=zah (zac h _ _ _ _ HS0.out.h5);go_simp);simp only[zzQ]
 refine zbv (.tuple #[St p0,.int .i64 0]) (by rfl) (by rfl) (λf W' hf h C' hC'=>by
  have hq:=P0.out W' (HS0.out.bel.trans (h.mono HS0.out.bel.size));go_simp;refine hq.mono ?_;rintro e w' ⟨rfl,hb⟩;exact⟨_,rfl,hC' _ (h.trans (hb.mono h.size))⟩) ?_
 try simp only[zzQ]
 refine qB (.tuple #[St p0,.int .i64 0]) (λf W' h=>h) ?_;simp only[zzQ];refine qB (St p0) (λf W' h=>h) ?_;simp only[zzQ];refine qB (.int .i64 0) (λf W' h=>h) ?_;simp only[zzQ];refine qB (St p0) (λf W' h=>h) ?_;simp only[zzQ];refine qB (.int .i64 0) (λf W' h=>h) ?_;simp only[zzQ];refine ze1 λf r0 hf h=>?_;have HR0:=hid (HS0.out.next h);clear h hf HS0;go_wp2_with fail;refine zc4 (λ(_:Unit) i=>([.int .i64 2,.pointer (some ⟨Y1,2,none⟩),St x2,.int .i64 1,.pointer (some ⟨Y2,1,none⟩),St y1,.tuple #[St q0,.int .i64 0],.tuple #[St q0,.int .i64 0],St q0,.int .i64 0,St q0,.int .i64 0]:List Value).getD i undef) (λ_ _ V=>qL r0 V) (by kernel_rfl) (by kernel_rfl) () ((zM _ r0).drew) λ_=>?_;refine qB (.int .i64 2) (λf W' h=>h) ?_;simp only[zzQ];refine qB (.pointer (some ⟨Y1,2,none⟩)) (λf W' h=>h) ?_;simp only[zzQ];refine qB (St x2) (λf W' h=>h) ?_ (hy:=λf W' hf h=>by obtain⟨d0,d1,d2, -⟩:=zah (zac h _ _ _ _ HR0.out.h4);go_simp);simp only[zzQ];refine qB (.int .i64 1) (λf W' h=>h) ?_;simp only[zzQ];refine qB (.pointer (some ⟨Y2,1,none⟩)) (λf W' h=>h) ?_;simp only[zzQ];refine qB (St y1) (λf W' h=>h) ?_ (hy:=λf W' hf h=>by obtain⟨d0,d1,d2, -⟩:=zah (zac h _ _ _ _ HR0.out.h5);go_simp);simp only[zzQ]
 refine zbv (.tuple #[St q0,.int .i64 0]) (by rfl) (by rfl) (λf W' hf h C' hC'=>by
  have hq:=Q0.out W' (HR0.out.bel.trans (h.mono HR0.out.bel.size));go_simp;refine hq.mono ?_;rintro e w' ⟨rfl,hb⟩;exact⟨_,rfl,hC' _ (h.trans (hb.mono h.size))⟩) ?_
 try simp only[zzQ]
 refine qB (.tuple #[St q0,.int .i64 0]) (λf W' h=>h) ?_;simp only[zzQ];refine qB (St q0) (λf W' h=>h) ?_;simp only[zzQ];refine qB (.int .i64 0) (λf W' h=>h) ?_;simp only[zzQ];refine qB (St q0) (λf W' h=>h) ?_;simp only[zzQ];refine qB (.int .i64 0) (λf W' h=>h) ?_;simp only[zzQ];refine ze1 λf s0 hf h=>?_;have HU0:=hid (HR0.out.next h);clear h hf HR0;have HC:=hid (S0.out s0 HU0.out.bel);go_wp2_with fail;refine HC.out.mono ?_;rintro e v0 ⟨rfl,hb⟩;have HW0:=hid (HU0.out.next hb);clear hb HC HU0;obtain⟨d0,d1,d2,z0,z1,z2⟩:=zah HW0.out.h3;obtain⟨t0,ht0⟩:∃t0,t0=v0.setCell ⟨w.heap.size+1+1+1,0,none⟩ (St c0):=⟨_,rfl⟩;have hp:=HW0.out.put0 c0;rw[<-ht0] at hp;have HQ0:=hid hp;have HT:=hid ht0.symm;clear hp ht0;go_wp2_with fail;have h9:=HT.out;rw[show v0.setCell ⟨w.heap.size+1+1+1,0,none⟩ (.string ⟨c0.toArray⟩)=t0 from h9];clear h9 HT d0 d1 d2 z0 z1 z2 HW0;rw[rounds_succ];go_wp2_with fail;refine zc4 (λ(_:Unit) i=>([.int .i64 2,.pointer (some ⟨Y1,2,none⟩),St x2,.int .i64 0,.pointer (some ⟨Y2,0,none⟩),St y0,.tuple #[St p1,.int .i64 0],.tuple #[St p1,.int .i64 0],St p1,.int .i64 0,St p1,.int .i64 0]:List Value).getD i undef) (λ_ _ V=>qL t0 V) (by kernel_rfl) (by kernel_rfl) () ((zM _ t0).drew) λ_=>?_;refine qB (.int .i64 2) (λf W' h=>h) ?_;simp only[zzQ];refine qB (.pointer (some ⟨Y1,2,none⟩)) (λf W' h=>h) ?_;simp only[zzQ];refine qB (St x2) (λf W' h=>h) ?_ (hy:=λf W' hf h=>by obtain⟨d0,d1,d2, -⟩:=zah (zac h _ _ _ _ HQ0.out.h4);go_simp);simp only[zzQ];refine qB (.int .i64 0) (λf W' h=>h) ?_
 simp only[zzQ];refine qB (.pointer (some ⟨Y2,0,none⟩)) (λf W' h=>h) ?_;simp only[zzQ];refine qB (St y0) (λf W' h=>h) ?_ (hy:=λf W' hf h=>by obtain⟨d0,d1,d2, -⟩:=zah (zac h _ _ _ _ HQ0.out.h5);go_simp);simp only[zzQ]
 refine zbv (.tuple #[St p1,.int .i64 0]) (by rfl) (by rfl) (λf W' hf h C' hC'=>by
  have hq:=P1.out W' (HQ0.out.bel.trans (h.mono HQ0.out.bel.size));go_simp;refine hq.mono ?_;rintro e w' ⟨rfl,hb⟩;exact⟨_,rfl,hC' _ (h.trans (hb.mono h.size))⟩) ?_
 try simp only[zzQ]
 refine qB (.tuple #[St p1,.int .i64 0]) (λf W' h=>h) ?_;simp only[zzQ];refine qB (St p1) (λf W' h=>h) ?_;simp only[zzQ];refine qB (.int .i64 0) (λf W' h=>h) ?_;simp only[zzQ];refine qB (St p1) (λf W' h=>h) ?_;simp only[zzQ];refine qB (.int .i64 0) (λf W' h=>h) ?_;simp only[zzQ];refine ze1 λf r1 hf h=>?_;have HR1:=hid (HQ0.out.next h);clear h hf HQ0;go_wp2_with fail;refine zc4 (λ(_:Unit) i=>([.int .i64 0,.pointer (some ⟨Y1,0,none⟩),St x0,.int .i64 2,.pointer (some ⟨Y2,2,none⟩),St y2,.tuple #[St q1,.int .i64 0],.tuple #[St q1,.int .i64 0],St q1,.int .i64 0,St q1,.int .i64 0]:List Value).getD i undef) (λ_ _ V=>qL r1 V) (by kernel_rfl) (by kernel_rfl) () ((zM _ r1).drew) λ_=>?_;refine qB (.int .i64 0) (λf W' h=>h) ?_;simp only[zzQ];refine qB (.pointer (some ⟨Y1,0,none⟩)) (λf W' h=>h) ?_;simp only[zzQ];refine qB (St x0) (λf W' h=>h) ?_ (hy:=λf W' hf h=>by obtain⟨d0,d1,d2, -⟩:=zah (zac h _ _ _ _ HR1.out.h4);go_simp);simp only[zzQ];refine qB (.int .i64 2) (λf W' h=>h) ?_;simp only[zzQ];refine qB (.pointer (some ⟨Y2,2,none⟩)) (λf W' h=>h) ?_;simp only[zzQ];refine qB (St y2) (λf W' h=>h) ?_ (hy:=λf W' hf h=>by obtain⟨d0,d1,d2, -⟩:=zah (zac h _ _ _ _ HR1.out.h5);go_simp);simp only[zzQ]
 refine zbv (.tuple #[St q1,.int .i64 0]) (by rfl) (by rfl) (λf W' hf h C' hC'=>by
  have hq:=Q1.out W' (HR1.out.bel.trans (h.mono HR1.out.bel.size));go_simp;refine hq.mono ?_;rintro e w' ⟨rfl,hb⟩;exact⟨_,rfl,hC' _ (h.trans (hb.mono h.size))⟩) ?_
 try simp only[zzQ]
 refine qB (.tuple #[St q1,.int .i64 0]) (λf W' h=>h) ?_;simp only[zzQ];refine qB (St q1) (λf W' h=>h) ?_;simp only[zzQ];refine qB (.int .i64 0) (λf W' h=>h) ?_;simp only[zzQ];refine qB (St q1) (λf W' h=>h) ?_;simp only[zzQ];refine qB (.int .i64 0) (λf W' h=>h) ?_;simp only[zzQ];refine ze1 λf s1 hf h=>?_;have HU1:=hid (HR1.out.next h);clear h hf HR1;have HC:=hid (S1.out s1 HU1.out.bel);go_wp2_with fail;refine HC.out.mono ?_;rintro e v1 ⟨rfl,hb⟩;have HW1:=hid (HU1.out.next hb);clear hb HC HU1;obtain⟨d0,d1,d2,z0,z1,z2⟩:=zah HW1.out.h3;obtain⟨t1,ht1⟩:∃t1,t1=v1.setCell ⟨w.heap.size+1+1+1,1,none⟩ (St c1):=⟨_,rfl⟩;have hp:=HW1.out.put1 c1;rw[<-ht1] at hp;have HQ1:=hid hp;have HT:=hid ht1.symm;clear hp ht1;go_wp2_with fail;have h9:=HT.out;rw[show v1.setCell ⟨w.heap.size+1+1+1,1,none⟩ (.string ⟨c1.toArray⟩)=t1 from h9];clear h9 HT d0 d1 d2 z0 z1 z2 HW1;rw[rounds_succ];go_wp2_with fail;refine zc4 (λ(_:Unit) i=>([.int .i64 0,.pointer (some ⟨Y1,0,none⟩),St x0,.int .i64 1,.pointer (some ⟨Y2,1,none⟩),St y1,.tuple #[St p2,.int .i64 0],.tuple #[St p2,.int .i64 0],St p2,.int .i64 0,St p2,.int .i64 0]:List Value).getD i undef) (λ_ _ V=>qL t1 V) (by kernel_rfl) (by kernel_rfl) () ((zM _ t1).drew) λ_=>?_;refine qB (.int .i64 0) (λf W' h=>h) ?_;simp only[zzQ];refine qB (.pointer (some ⟨Y1,0,none⟩)) (λf W' h=>h) ?_;simp only[zzQ];refine qB (St x0) (λf W' h=>h) ?_ (hy:=λf W' hf h=>by obtain⟨d0,d1,d2, -⟩:=zah (zac h _ _ _ _ HQ1.out.h4);go_simp);simp only[zzQ];refine qB (.int .i64 1) (λf W' h=>h) ?_
 simp only[zzQ];refine qB (.pointer (some ⟨Y2,1,none⟩)) (λf W' h=>h) ?_;simp only[zzQ];refine qB (St y1) (λf W' h=>h) ?_ (hy:=λf W' hf h=>by obtain⟨d0,d1,d2, -⟩:=zah (zac h _ _ _ _ HQ1.out.h5);go_simp);simp only[zzQ]
 refine zbv (.tuple #[St p2,.int .i64 0]) (by rfl) (by rfl) (λf W' hf h C' hC'=>by
  have hq:=P2.out W' (HQ1.out.bel.trans (h.mono HQ1.out.bel.size));go_simp;refine hq.mono ?_;rintro e w' ⟨rfl,hb⟩;exact⟨_,rfl,hC' _ (h.trans (hb.mono h.size))⟩) ?_
 try simp only[zzQ]
 refine qB (.tuple #[St p2,.int .i64 0]) (λf W' h=>h) ?_;simp only[zzQ];refine qB (St p2) (λf W' h=>h) ?_;simp only[zzQ];refine qB (.int .i64 0) (λf W' h=>h) ?_;simp only[zzQ];refine qB (St p2) (λf W' h=>h) ?_;simp only[zzQ];refine qB (.int .i64 0) (λf W' h=>h) ?_;simp only[zzQ];refine ze1 λf r2 hf h=>?_;have HR2:=hid (HQ1.out.next h);clear h hf HQ1;go_wp2_with fail;refine zc4 (λ(_:Unit) i=>([.int .i64 1,.pointer (some ⟨Y1,1,none⟩),St x1,.int .i64 0,.pointer (some ⟨Y2,0,none⟩),St y0,.tuple #[St q2,.int .i64 0],.tuple #[St q2,.int .i64 0],St q2,.int .i64 0,St q2,.int .i64 0]:List Value).getD i undef) (λ_ _ V=>qL r2 V) (by kernel_rfl) (by kernel_rfl) () ((zM _ r2).drew) λ_=>?_;refine qB (.int .i64 1) (λf W' h=>h) ?_;simp only[zzQ];refine qB (.pointer (some ⟨Y1,1,none⟩)) (λf W' h=>h) ?_;simp only[zzQ];refine qB (St x1) (λf W' h=>h) ?_ (hy:=λf W' hf h=>by obtain⟨d0,d1,d2, -⟩:=zah (zac h _ _ _ _ HR2.out.h4);go_simp);simp only[zzQ];refine qB (.int .i64 0) (λf W' h=>h) ?_;simp only[zzQ];refine qB (.pointer (some ⟨Y2,0,none⟩)) (λf W' h=>h) ?_;simp only[zzQ];refine qB (St y0) (λf W' h=>h) ?_ (hy:=λf W' hf h=>by obtain⟨d0,d1,d2, -⟩:=zah (zac h _ _ _ _ HR2.out.h5);go_simp);simp only[zzQ]
 refine zbv (.tuple #[St q2,.int .i64 0]) (by rfl) (by rfl) (λf W' hf h C' hC'=>by
  have hq:=Q2.out W' (HR2.out.bel.trans (h.mono HR2.out.bel.size));go_simp;refine hq.mono ?_;rintro e w' ⟨rfl,hb⟩;exact⟨_,rfl,hC' _ (h.trans (hb.mono h.size))⟩) ?_
 try simp only[zzQ]
 refine qB (.tuple #[St q2,.int .i64 0]) (λf W' h=>h) ?_;simp only[zzQ];refine qB (St q2) (λf W' h=>h) ?_;simp only[zzQ];refine qB (.int .i64 0) (λf W' h=>h) ?_;simp only[zzQ];refine qB (St q2) (λf W' h=>h) ?_;simp only[zzQ];refine qB (.int .i64 0) (λf W' h=>h) ?_;simp only[zzQ];refine ze1 λf s2 hf h=>?_;have HU2:=hid (HR2.out.next h);clear h hf HR2;have HC:=hid (S2.out s2 HU2.out.bel);go_wp2_with fail;refine HC.out.mono ?_;rintro e v2 ⟨rfl,hb⟩;have HW2:=hid (HU2.out.next hb);clear hb HC HU2;obtain⟨d0,d1,d2,z0,z1,z2⟩:=zah HW2.out.h3;obtain⟨t2,ht2⟩:∃t2,t2=v2.setCell ⟨w.heap.size+1+1+1,2,none⟩ (St c2):=⟨_,rfl⟩;have hp:=HW2.out.put2 c2;rw[<-ht2] at hp;have HQ2:=hid hp;have HT:=hid ht2.symm;clear hp ht2;go_wp2_with fail;have h9:=HT.out;rw[show v2.setCell ⟨w.heap.size+1+1+1,2,none⟩ (.string ⟨c2.toArray⟩)=t2 from h9];clear h9 HT d0 d1 d2 z0 z1 z2 HW2;rw[rounds_succ];obtain⟨d0,d1,d2, -, -, -⟩:=zah HQ2.out.h3;go_wp2_with fail;clear d0 d1 d2;refine(zlf c0 c1 c2 t2).mono ?_;rintro e r3 ⟨rfl,hb⟩;have hn:=HQ2.out.next hb;obtain⟨d0,d1,d2,z0,z1,z2⟩:=zah hn.h2;have HF:=hid hn;clear hn hb HQ2;go_wp2_with fail;have hf:=HF.out.bel;exact bodyPost_ret (v:=.tuple #[.agg #[St c0,St c1,St c2],.int .i64 0]) (by simp[results,Tryz.results69,go_sem,d0,d1,d2]) rfl ⟨rfl,((hf.setCell (p:=⟨w.heap.size+1+1,0,none⟩) (by show _<=w.heap.size+1+1;omega) _).setCell (p:=⟨w.heap.size+1+1,1,none⟩) (by show _<=w.heap.size+1+1;omega) _).setCell (p:=⟨w.heap.size+1+1,2,none⟩) (by show _<=w.heap.size+1+1;omega) _⟩
end
section
open Go.RowKit Go.Shelf Lib Str Limb
theorem zsb:∀args w,(callFunc 79 args).run zF w=.ok (.enter 79 args) w:=enters_of Tryz.func79 (by kernel_rfl) rfl
def sz3 (a b c:Rat) (k:Nat):Prop:=sz a k/\sz b k/\sz c k
theorem sz3.mono {a b c:Rat} {i j:Nat} (h:sz3 a b c i) (hij:i<=j):sz3 a b c j:=⟨h.1.mono hij,h.2.1.mono hij,h.2.2.mono hij⟩
theorem zf7 (a b c:Rat) (h:sz3 a b c 140) (w:zA) (hw:Wd w):qJ 47 #[.agg #[St (numS a),St (numS b),St (numS c)]] w (.int .i64 0):=
 zgk _ _ _ (hid λV hV=>zfj a (zd0 (by omega) (by omega) h.1) V hV) (hid λV hV=>zfj b (zd0 (by omega) (by omega) h.2.1) V hV) (hid λV hV=>zfj c (zd0 (by omega) (by omega) h.2.2) V hV) w (hid hw)
theorem zlv (a b c d e f:Rat) (h:sz3 a b c 60) (h':sz3 d e f 60) (w:zA) (hw:Wd w):qJ 68 #[.agg #[St (numS a),St (numS b),St (numS c)],.agg #[St (numS d),St (numS e),St (numS f)]] w (.int .i64 0):=
 zon _ _ _ _ _ _ w (hid λW hW=>zf7 a b c (h.mono (by omega)) W (hw.below hW)) (hid λW hW=>zf7 d e f (h'.mono (by omega)) W (hw.below hW))
theorem zho (a b c d e f:Rat) (h:sz3 a b c 140) (h':sz3 d e f 140) (w:zA) (hw:Wd w):zC zF 78 #[.agg #[St (numS a),St (numS b),St (numS c)],.agg #[St (numS d),St (numS e),St (numS f)],.func (.func 79) #[] #[]] w λe' w'=>e'=.returned (.tuple #[.agg #[St (numS (a*d)),St (numS (b*e)),St (numS (c*f))],.int .i64 0])/\zB w.heap.size w w':=
 zoo _ _ _ _ _ _ _ _ _ _ zsb w (hid λW hW=>zjf a d 140 140 (by omega) (by omega) (by omega) h.1 h'.1 W (hw.below hW)) (hid λW hW=>zjf b e 140 140 (by omega) (by omega) (by omega) h.2.1 h'.2.1 W (hw.below hW)) (hid λW hW=>zjf c f 140 140 (by omega) (by omega) (by omega) h.2.2 h'.2.2 W (hw.below hW))
theorem zt4 (a b c d e f:Rat) (h:sz3 a b c 40) (h':sz3 d e f 40) (w:zA) (hw:Wd w):zC zF 31 #[.agg #[St (numS a),St (numS b),St (numS c)],.agg #[St (numS d),St (numS e),St (numS f)]] w λe' w'=>e'=.returned (.tuple #[St (numS (a*d+b*e+c*f)),.int .i64 0])/\zB w.heap.size w w':=
 zll _ _ _ _ _ _ _ w (hid λW hW=>zlv a b c d e f (h.mono (by omega)) (h'.mono (by omega)) W (hw.below hW))
  (hid λW hW=>zqa _ _ _ _ _ _ _ _ _ (numS (a*d+b*e)) _ W (hid λV hV=>zho a b c d e f (h.mono (by omega)) (h'.mono (by omega)) V ((hw.below hW).below hV))
    (hid λV hV=>zje (a*d) (b*e) 80 80 (by omega) (by omega) (by omega) (zca h.1 h'.1) (zca h.2.1 h'.2.1) V ((hw.below hW).below hV))
    (hid λV hV=>zje (a*d+b*e) (c*f) 161 80 (by omega) (by omega) (by omega) (zk0 (zca h.1 h'.1) (zca h.2.1 h'.2.1)) (zca h.2.2 h'.2.2) V ((hw.below hW).below hV)))
theorem zs6 (a b c d e f:Rat) (h:sz3 a b c 30) (h':sz3 d e f 30) (w:zA) (hw:Wd w):zC zF 31 #[.agg #[St (numS a),St (numS b),St (numS c)],.agg #[St (numS d),St (numS e),St (numS f)]] w λe' w'=>e'=.returned (.tuple #[St (numS (a*d+b*e+c*f)),.int .i64 0])/\zB w.heap.size w w':=zt4 a b c d e f (h.mono (by omega)) (h'.mono (by omega)) w hw
theorem zgs (a b c d e f:Rat) (h:sz3 a b c 30) (h':sz3 d e f 30) (w:zA) (hw:Wd w):zC zF 29 #[.agg #[St (numS a),St (numS b),St (numS c)],.agg #[St (numS d),St (numS e),St (numS f)]] w λe' w'=>e'=.returned (.tuple #[.agg #[St (numS (b*f-c*e)),St (numS (c*d-a*f)),St (numS (a*e-b*d))],.int .i64 0])/\zB w.heap.size w w':=
 zjm _ _ _ _ _ _ _ _ _ w (hid λW hW=>zlv a b c d e f (h.mono (by omega)) (h'.mono (by omega)) W (hw.below hW))
  (hid λW hW=>by
    have M:∀(x y:Rat),sz x 30->sz y 30->Hid (∀V:zA,qL W V->qJ 79 #[St (numS x),St (numS y)] V (.tuple #[St (numS (x*y)),.int .i64 0])):=λx y hx hy=>hid λV hV=>zjf x y 30 30 (by omega) (by omega) (by omega) hx hy V ((hw.below hW).below hV);have S:∀(x y z t:Rat),sz x 30->sz y 30->sz z 30->sz t 30->Hid (∀V:zA,qL W V->qJ 109 #[St (numS (x*y)),St (numS (z*t))] V (.tuple #[St (numS (x*y-z*t)),.int .i64 0])):=λx y z t hx hy hz ht=>hid λV hV=>ztz (x*y) (z*t) 60 60 (by omega) (by omega) (by omega) (zca hx hy) (zca hz ht) V ((hw.below hW).below hV);exact zm3 _ _ _ _ _ _ _ _ _ _ _ _ _ _ _ W (M b f h.2.1 h'.2.2) (M c e h.2.2 h'.2.1) (S b f c e h.2.1 h'.2.2 h.2.2 h'.2.1) (M c d h.2.2 h'.1) (M a f h.1 h'.2.2) (S c d a f h.2.2 h'.1 h.1 h'.2.2) (M a e h.1 h'.2.1) (M b d h.2.1 h'.1) (S a e b d h.1 h'.2.1 h.2.1 h'.1))
theorem zf8 (a b c x:Rat) (h:sz3 a b c 140) (hx:sz x 140) (w:zA) (hw:Wd w):zC zF 33 #[.agg #[St (numS a),St (numS b),St (numS c)],St (numS x)] w λe' w'=>e'=.returned (.tuple #[.agg #[St (numS (a*x)),St (numS (b*x)),St (numS (c*x))],.int .i64 0])/\zB w.heap.size w w':=
 zj3 _ _ _ _ _ _ _ w (hid λW hW=>zf7 a b c h W (hw.below hW)) (hid λW hW=>zfj x (zd0 (by omega) (by omega) hx) W (hw.below hW)) (hid λW hW=>zho a b c x x x h ⟨hx,hx,hx⟩ W (hw.below hW))
end
section
open Go.RowKit Go.Shelf Lib Str Limb Geo
attribute [local go_sem] Oper.semAt_some
theorem z4t {W:zA} {A:Nat} {t:TypeId} (h:W.heap[A]? =some (.cells zc1 t (0,0))):W.cell? ⟨A,0,none⟩=some (St [])/\W.cell? ⟨A,1,none⟩=some (St [])/\W.cell? ⟨A,2,none⟩=some (St [])/\W.cell? ⟨A,3,none⟩=some (.slice none 0 0)/\(∀i,W.frozen? ⟨A,i,none⟩=false):=
 ⟨by rw[zJ h];rfl,by rw[zJ h];rfl,by rw[zJ h];rfl,by rw[zJ h];rfl,λi=>Go.Joins.unfrozen_of_block h i⟩
theorem zm1 (a b c a' b' c' x y z:List UInt8) (bb:Bool) (HBB:Hid ((x==[48]&&y==[48]&&z==[48])=bb))
 (CR:Hid (qK 29 #[.agg #[St a,St b,St c],.agg #[St a',St b',St c']] (.tuple #[.agg #[St x,St y,St z],.int .i64 0])))
 (w:zA) (HW:Hid (Wd w)):
 qJ 41 #[.agg #[St a,St b,St c],.agg #[St a',St b',St c']] w (.tuple #[.bool bb,.int .i64 0]):=by
 obtain⟨v1,hv⟩:∃v1,v1=(w.alloc (.cells #[St a,St b,St c] 49)).alloc (.cells #[St a',St b',St c'] 49):=⟨_,rfl⟩;obtain⟨b1,A1,A2⟩:=box2 hv;obtain⟨k0,k1,k2⟩:v1.cell? ⟨w.heap.size,0,none⟩=some (St a)/\v1.cell? ⟨w.heap.size,1,none⟩=some (St b)/\v1.cell? ⟨w.heap.size,2,none⟩=some (St c):=⟨by rw[zJ A1];rfl,by rw[zJ A1];rfl,by rw[zJ A1];rfl⟩;obtain⟨j0,j1,j2⟩:v1.cell? ⟨w.heap.size+1,0,none⟩=some (St a')/\v1.cell? ⟨w.heap.size+1,1,none⟩=some (St b')/\v1.cell? ⟨w.heap.size+1,2,none⟩=some (St c'):=⟨by rw[zJ A2];rfl,by rw[zJ A2];rfl,by rw[zJ A2];rfl⟩;have B1:=hid b1;have HV:=hid hv.symm;rw[hv] at k0 k1 k2 j0 j1 j2;clear hv b1 A1 A2;go_enter Tryz.func41,Tryz.ntmps41;go_wp2_with fail;have h9:=HV.out;rw[show(w.alloc (.cells #[.string ⟨a.toArray⟩,.string ⟨b.toArray⟩,.string ⟨c.toArray⟩] 49)).alloc (.cells #[.string ⟨a'.toArray⟩,.string ⟨b'.toArray⟩,.string ⟨c'.toArray⟩] 49)=v1 from h9];clear h9 HV k0 k1 k2 j0 j1 j2;refine(CR.out v1 (HW.out.below B1.out)).mono ?_;rintro e w1 ⟨rfl,hb⟩;have B2:=hid (B1.out.trans (hb.mono B1.out.size));clear hb B1;obtain⟨v2,hv⟩:∃v2,v2=w1.alloc (.cells #[St x,St y,St z] 49):=⟨_,rfl⟩;obtain⟨b2,A2⟩:=zu4 hv;obtain⟨k0,k1,k2⟩:v2.cell? ⟨w1.heap.size,0,none⟩=some (St x)/\v2.cell? ⟨w1.heap.size,1,none⟩=some (St y)/\v2.cell? ⟨w1.heap.size,2,none⟩=some (St z):=⟨by rw[zJ A2];rfl,by rw[zJ A2];rfl,by rw[zJ A2];rfl⟩;have B3:=hid (B2.out.trans (b2.mono B2.out.size));rw[hv] at k0 k1 k2 B3;clear hv b2 A2;cases bb
 ·go_wp2_with fail
  all_goals first|(go_ret2;subst_vars;exact⟨rfl,B3.out⟩)|(exfalso;subst_vars;exact absurd HBB.out (by decide))
 ·obtain⟨⟨rfl,rfl⟩,rfl⟩:(x=[48]/\y=[48])/\z=[48]:=by simpa using HBB.out
  go_wp2_with fail;go_ret2;exact⟨rfl,B3.out⟩
theorem zvr (a b c a' b' c':List UInt8)
 (CR:Hid (qK 29 #[.agg #[St a,St b,St c],.agg #[St a',St b',St c']] (.tuple #[.agg #[.string ⟨#[48]⟩,.string ⟨#[48]⟩,.string ⟨#[48]⟩],.int .i64 0])))
 (w:zA) (HW:Hid (Wd w)):
 qJ 41 #[.agg #[St a,St b,St c],.agg #[St a',St b',St c']] w (.tuple #[.bool true,.int .i64 0]):=zm1 a b c a' b' c' [48] [48] [48] true (hid rfl) CR w HW
theorem z3q (a b c a' b' c':List UInt8) (p:Option Addr) (n k:Nat) (l:List (Rat×Nat)) (w:zA)
 (CK:Hid (∀(W:zA) (A:Nat),qL w W->W.heap[A]? =some (.cells #[St a,St b,St c,.slice p n k] 26 (0,0))->qJ 27 #[.slice (some ⟨A,0,none⟩) 1 1] W (.int .i64 0)))
 (TN:Hid (∀W:zA,qL w W->zC zF 40 #[.agg #[St a,St b,St c,.slice p n k]] W λe w'=>∃v,e=.returned (.tuple #[.agg #[St a',St b',St c',v],.int .i64 0])/\zB W.heap.size W w'/\SdL v l w')):
 zC zF 13 #[.agg #[St a,St b,St c,.slice p n k]] w λe w'=>∃v,e=.returned (.tuple #[.agg #[St a',St b',St c',v],.int .i64 0])/\zB w.heap.size w w'/\SdL v l w':=by
 obtain⟨v1,hv⟩:∃v1,v1=(w.alloc (.cells #[St a,St b,St c,.slice p n k] 26)).alloc (.cells zc1 26):=⟨_,rfl⟩;obtain⟨b1,A1,A2⟩:=box2 hv;have hsz:v1.heap.size=w.heap.size+1+1:=by rw[hv];simp
 obtain⟨k0,k1,k2,k3⟩:=zfb A1;obtain⟨v2,hv2⟩:∃v2,v2=v1.alloc (.cells #[St a,St b,St c,.slice p n k] 26):=⟨_,rfl⟩;obtain⟨b2,A3⟩:=zu4 hv2;have hB:=b1.trans (b2.mono b1.size);have B2:=hid hB;have P2:=hid (zac b2 _ _ _ _ A1);have Q2:=hid (zac b2 _ _ _ _ A2);have HC:=hid (CK.out v2 _ hB A3);rw[hsz] at HC;have HV:=hid hv.symm;have HV2:=hid hv2.symm;have HSZ:=hid hsz;clear hv hv2 b1 b2 A1 A2 A3 hB CK hsz;go_enter Tryz.func13,Tryz.ntmps13;go_wp2_with fail;have h9:=HV.out;rw[show(w.alloc (.cells #[.string ⟨a.toArray⟩,.string ⟨b.toArray⟩,.string ⟨c.toArray⟩,.slice p n k] 26)).alloc (.cells #[.string ⟨#[]⟩,.string ⟨#[]⟩,.string ⟨#[]⟩,.slice none 0 0] 26)=v1 from h9];clear h9 HV;go_wp2_with fail;have h9:=HV2.out;rw[show v1.alloc (.cells #[.string ⟨a.toArray⟩,.string ⟨b.toArray⟩,.string ⟨c.toArray⟩,.slice p n k] 26)=v2 from h9]
 try rw[HSZ.out]
 clear h9 HV2 HSZ k0 k1 k2 k3;refine HC.out.mono ?_;rintro e w1 ⟨rfl,hb⟩;have hB:=B2.out.trans (hb.mono B2.out.size);have B3:=hid hB;have P3:=hid (zac hb _ _ _ _ P2.out);have Q3:=hid (zac hb _ _ _ _ Q2.out);have HT:=hid (TN.out w1 hB);clear hb hB HC B2 P2 Q2 TN;obtain⟨k0,k1,k2,k3⟩:=zfb P3.out;go_wp2_with fail;clear k0 k1 k2 k3;refine HT.out.mono ?_;rintro e w2 ⟨v,rfl,hb,hs⟩;obtain⟨p',n',k',rfl⟩:=hs.any;have B4:=hid (B3.out.trans (hb.mono B3.out.size));have Q4:=zac hb _ _ _ _ Q3.out;clear hb HT B3 P3 Q3;obtain⟨d0,d1,d2,d3,fz⟩:=z4t Q4;have hno:=zk8 Q4;obtain⟨w3,hw3⟩:∃w3,w3=(((w2.setCell ⟨w.heap.size+1,0,none⟩ (St a')).setCell ⟨w.heap.size+1,1,none⟩ (St b')).setCell ⟨w.heap.size+1,2,none⟩ (St c')).setCell ⟨w.heap.size+1,3,none⟩ (.slice p' n' k'):=⟨_,rfl⟩;have R1:w3.heap[w.heap.size+1]? =some (.cells #[St a',St b',St c',.slice p' n' k'] 26 (0,0)):=by
  rw[hw3];exact zK (i:=3) (zK (i:=2) (zK (i:=1) (zK (i:=0) Q4 (St a')) (St b')) (St c')) (.slice p' n' k')
 have ne:∀b,b≠w.heap.size+1->w3.heap[b]? =w2.heap[b]? :=λb hb=>by
  rw[hw3,yE _ _ _ _ (by exact hb),yE _ _ _ _ (by exact hb),yE _ _ _ _ (by exact hb),yE _ _ _ _ (by exact hb)]
 have sz:w2.heap.size<=w3.heap.size:=by rw[hw3];simp[World.setCell]
 have B5:qL w w3:=by
  rw[hw3];exact(((B4.out.setCell (by show _<=w.heap.size+1;omega) _).setCell (by show _<=w.heap.size+1;omega) _).setCell (by show _<=w.heap.size+1;omega) _).setCell (by show _<=w.heap.size+1;omega) _
 have HE:=hid (⟨B5,hs.other ne sz hno⟩:qL w w3/\SdL (.slice p' n' k') l w3);obtain⟨c0,c1,c2,c3⟩:=zfb R1;have f0:=fz 0;have f1:(w2.setCell ⟨w.heap.size+1,0,none⟩ (St a')).frozen? ⟨w.heap.size+1,1,none⟩=false:=by rw[World.frozen?_setCell];exact fz 1
 have f2:((w2.setCell ⟨w.heap.size+1,0,none⟩ (St a')).setCell ⟨w.heap.size+1,1,none⟩ (St b')).frozen? ⟨w.heap.size+1,2,none⟩=false:=by rw[World.frozen?_setCell,World.frozen?_setCell];exact fz 2
 have f3:(((w2.setCell ⟨w.heap.size+1,0,none⟩ (St a')).setCell ⟨w.heap.size+1,1,none⟩ (St b')).setCell ⟨w.heap.size+1,2,none⟩ (St c')).frozen? ⟨w.heap.size+1,3,none⟩=false:=by rw[World.frozen?_setCell,World.frozen?_setCell,World.frozen?_setCell];exact fz 3
 have e1:=fz 1;have e2:=fz 2;have e3:=fz 3;rw[hw3] at c0 c1 c2 c3 HE;clear hw3 R1 ne sz B5 Q4 fz hno hs B4;go_wp2_with fail;exact bodyPost_ret (v:=.tuple #[.agg #[St a',St b',St c',.slice p' n' k'],.int .i64 0]) (by simp[results,Tryz.results13,go_sem,c0,c1,c2,c3]) rfl ⟨_,rfl,HE.out.1,HE.out.2⟩
structure SmS (w:zA) (a b c a' b' c':List UInt8) (d d':Value) (W:zA):Prop where
 bel:qL w W
 h0:W.heap[w.heap.size]? =some (.cells #[St a,St b,St c,d] 26 (0,0))
 h1:W.heap[w.heap.size+1]? =some (.cells #[St a',St b',St c',d'] 26 (0,0))
section
variable {w W W':zA} {a b c a' b' c':List UInt8} {d d':Value}
theorem SmS.next (h:SmS w a b c a' b' c' d d' W) (hb:qL W W'):SmS w a b c a' b' c' d d' W':=
 ⟨h.bel.trans (hb.mono h.bel.size),zac hb _ _ _ _ h.h0,zac hb _ _ _ _ h.h1⟩
theorem SmS.ca (h:SmS w a b c a' b' c' d d' W):W.cell? ⟨w.heap.size,0,none⟩=some (St a)/\W.cell? ⟨w.heap.size,1,none⟩=some (St b)/\W.cell? ⟨w.heap.size,2,none⟩=some (St c)/\W.cell? ⟨w.heap.size,3,none⟩=some d:=zfb h.h0
theorem SmS.cb (h:SmS w a b c a' b' c' d d' W):W.cell? ⟨w.heap.size+1,0,none⟩=some (St a')/\W.cell? ⟨w.heap.size+1,1,none⟩=some (St b')/\W.cell? ⟨w.heap.size+1,2,none⟩=some (St c')/\W.cell? ⟨w.heap.size+1,3,none⟩=some d':=zfb h.h1
end
def zud (is neg:Bool) (Ea Eb F:Prop) (G:Int->Int->Prop) (bb:Bool) (r:Int):Prop:=
 (bb=false/\r=0/\(is=false\/neg=true))\/(is=true/\neg=false/\((bb=false/\r=4/\F)\/∃m,G m r/\bb=(decide (r=0)&&decide (m=0))/\Ea/\Eb))
theorem zta (a b c a' b' c' dp dq:List UInt8) (p p':Option Addr) (n n' k k':Nat) (is neg:Bool) (l l':List (Rat×Nat)) (Ea Eb F:Prop) (G:Int->Int->Prop) (w:zA) (HW:Hid (Wd w))
 (hz:is=true->(dp==[48])=false) (hne:0<(⟨dp.toArray⟩:ByteArray).size) (hd:((((⟨dp.toArray⟩:ByteArray)[0]'hne).toNat:Int)==45)=neg)
 (CK:Hid (∀(W:zA) (A:Nat),qL w W->W.heap[A]? =some (.cells #[St a,St b,St c,.slice p n k,St a',St b',St c',.slice p' n' k'] 26 (0,0))->qJ 27 #[.slice (some ⟨A,0,none⟩) 2 2] W (.int .i64 0)))
 (PA:Hid (qK 41 #[.agg #[St a,St b,St c],.agg #[St a',St b',St c']] (.tuple #[.bool is,.int .i64 0])))
 (D1:Hid (is=true->qK 31 #[.agg #[St a,St b,St c],.agg #[St a',St b',St c']] (.tuple #[St dp,.int .i64 0])))
 (D2:Hid (is=true->neg=false->qK 31 #[.agg #[St a',St b',St c'],.agg #[St a',St b',St c']] (.tuple #[St dq,.int .i64 0])))
 (S1:Hid (is=true->neg=false->∀W:zA,qL w W->zC zF 42 #[.slice p n k,St dq] W λe w'=>∃q n c r,e=.returned (.tuple #[.slice q n c,.int .i64 r])/\zB W.heap.size W w'/\OutR l Ea F (.slice q n c) r w'))
 (S2:Hid (is=true->neg=false->∀W:zA,qL w W->zC zF 42 #[.slice p' n' k',St dp] W λe w'=>∃q n c r,e=.returned (.tuple #[.slice q n c,.int .i64 r])/\zB W.heap.size W w'/\OutR l' Eb F (.slice q n c) r w'))
 (CM:Hid (is=true->neg=false->∀(W:zA) (u v:Value),Ea->Eb->qL w W->SdL u l W->SdL v l' W->zC zF 43 #[u,v] W λe w'=>∃m r,e=.returned (.tuple #[.int .i64 m,.int .i64 r])/\zB W.heap.size W w'/\G m r)):
 zC zF 14 #[.agg #[St a,St b,St c,.slice p n k],.agg #[St a',St b',St c',.slice p' n' k']] w λe w'=>∃bb r,e=.returned (.tuple #[.bool bb,.int .i64 r])/\zB w.heap.size w w'/\zud is neg Ea Eb F G bb r:=by
 obtain⟨v1,hv⟩:∃v1,v1=(w.alloc (.cells #[St a,St b,St c,.slice p n k] 26)).alloc (.cells #[St a',St b',St c',.slice p' n' k'] 26):=⟨_,rfl⟩;obtain⟨b1,A1,A2⟩:=box2 hv;have hsz:v1.heap.size=w.heap.size+1+1:=by rw[hv];simp
 obtain⟨k0,k1,k2,k3⟩:=zfb A1;obtain⟨j0,j1,j2,j3⟩:=zfb A2;obtain⟨v2,hv2⟩:∃v2,v2=v1.alloc (.cells #[St a,St b,St c,.slice p n k,St a',St b',St c',.slice p' n' k'] 26):=⟨_,rfl⟩;obtain⟨b2,A3⟩:=zu4 hv2;have hB:=b1.trans (b2.mono b1.size);have HT2:Hid (SmS w a b c a' b' c' (.slice p n k) (.slice p' n' k') v2):=hid ⟨hB,zac b2 _ _ _ _ A1,zac b2 _ _ _ _ A2⟩;have HC:=hid (CK.out v2 _ hB A3);rw[hsz] at HC;have HV:=hid hv.symm;have HV2:=hid hv2.symm;have HSZ:=hid hsz;obtain⟨s,hs⟩:∃s:ByteArray,s=⟨dp.toArray⟩:=⟨_,rfl⟩;have es:s.toList=dp:=by rw[hs,ByteArray.toList_eq]
 rw[show St dp=.string s by rw[hs]] at*
 replace hz:is=true->(s.toList==[48])=false:=λk=>by rw[es];exact hz k
 have hne2:0<s.size:=by rw[hs];exact hne
 have hd2:(((s[0]'hne2).toNat:Int)==45)=neg:=by subst hs;exact hd
 clear hv hv2 b1 b2 A1 A2 A3 hB CK hsz hd hne es hs;go_enter Tryz.func14,Tryz.ntmps14;go_wp2_with fail;have h9:=HV.out;rw[show(w.alloc (.cells #[.string ⟨a.toArray⟩,.string ⟨b.toArray⟩,.string ⟨c.toArray⟩,.slice p n k] 26)).alloc (.cells #[.string ⟨a'.toArray⟩,.string ⟨b'.toArray⟩,.string ⟨c'.toArray⟩,.slice p' n' k'] 26)=v1 from h9];clear h9 HV;go_wp2_with fail;have h9:=HV2.out;rw[show v1.alloc (.cells #[.string ⟨a.toArray⟩,.string ⟨b.toArray⟩,.string ⟨c.toArray⟩,.slice p n k,.string ⟨a'.toArray⟩,.string ⟨b'.toArray⟩,.string ⟨c'.toArray⟩,.slice p' n' k'] 26)=v2 from h9]
 try rw[HSZ.out]
 clear h9 HV2 HSZ k0 k1 k2 k3 j0 j1 j2 j3;refine HC.out.mono ?_;rintro e w1 ⟨rfl,hb⟩;have HT3:=hid (HT2.out.next hb);clear hb HC HT2;go_wp2_with fail;refine zbl (λ_ W=>SmS w a b c a' b' c' (.slice p n k) (.slice p' n' k') W) (by kernel_rfl) (by kernel_rfl) (HT3.out.next (zM _ _).drew) ?_;refine qR (.agg #[St a,St b,St c,.slice p n k]) ?_ (hy:=λf W' hf h=>by obtain⟨q0,q1,q2,q3⟩:=h.ca;go_simp);simp only[zzQ]
 refine zar (.agg #[St a,St b,St c]) (by rfl) (λf W' hf h C' hC'=>by
  have hg:=zcl a b c p n k W';go_simp;refine hg.mono ?_;rintro e w' ⟨rfl,hb⟩;exact⟨rfl,hC' _ (h.next hb)⟩) ?_
 try simp only[zzQ]
 refine qR (.agg #[St a',St b',St c',.slice p' n' k']) ?_ (hy:=λf W' hf h=>by obtain⟨q0,q1,q2,q3⟩:=h.cb;go_simp);simp only[zzQ]
 refine zar (.agg #[St a',St b',St c']) (by rfl) (λf W' hf h C' hC'=>by
  have hg:=zcl a' b' c' p' n' k' W';go_simp;refine hg.mono ?_;rintro e w' ⟨rfl,hb⟩;exact⟨rfl,hC' _ (h.next hb)⟩) ?_
 try simp only[zzQ]
 refine zar (.tuple #[.bool is,.int .i64 0]) (by rfl) (λf W' hf h C' hC'=>by
  have hg:=PA.out W' (HW.out.below h.bel);go_simp;refine hg.mono ?_;rintro e w' ⟨rfl,hb⟩;exact⟨rfl,hC' _ (h.next hb)⟩) ?_
 try simp only[zzQ]
 refine qR (.tuple #[.bool is,.int .i64 0]) ?_;simp only[zzQ];refine qR (.bool is) ?_;simp only[zzQ];refine qR (.int .i64 0) ?_;simp only[zzQ];refine qR (.bool is) ?_;simp only[zzQ];refine qR (.int .i64 0) ?_;simp only[zzQ];refine zck λf X hf h=>?_;have HT4:=hid h;clear h hf HT3 PA;cases is
 ·clear D1 D2 S1 S2 CM hz
  go_wp2_with fail;go_ret2;exact⟨_,_,rfl,HT4.out.bel,.inl ⟨rfl,rfl,.inl rfl⟩⟩
 replace hz:=hz rfl;replace D1:=hid (D1.out rfl);replace D2:=hid (D2.out rfl);replace S1:=hid (S1.out rfl);replace S2:=hid (S2.out rfl);replace CM:=hid (CM.out rfl);go_wp2_with fail;refine zbl (λ_ W=>SmS w a b c a' b' c' (.slice p n k) (.slice p' n' k') W) (by kernel_rfl) (by kernel_rfl) (HT4.out.next (zM _ _).drew) ?_;refine qR (.agg #[St a,St b,St c,.slice p n k]) ?_ (hy:=λf W' hf h=>by obtain⟨q0,q1,q2,q3⟩:=h.ca;go_simp);simp only[zzQ]
 refine zar (.agg #[St a,St b,St c]) (by rfl) (λf W' hf h C' hC'=>by
  have hg:=zcl a b c p n k W';go_simp;refine hg.mono ?_;rintro e w' ⟨rfl,hb⟩;exact⟨rfl,hC' _ (h.next hb)⟩) ?_
 try simp only[zzQ]
 refine qR (.agg #[St a',St b',St c',.slice p' n' k']) ?_ (hy:=λf W' hf h=>by obtain⟨q0,q1,q2,q3⟩:=h.cb;go_simp);simp only[zzQ]
 refine zar (.agg #[St a',St b',St c']) (by rfl) (λf W' hf h C' hC'=>by
  have hg:=zcl a' b' c' p' n' k' W';go_simp;refine hg.mono ?_;rintro e w' ⟨rfl,hb⟩;exact⟨rfl,hC' _ (h.next hb)⟩) ?_
 try simp only[zzQ]
 refine zar (.tuple #[.string s,.int .i64 0]) (by rfl) (λf W' hf h C' hC'=>by
  have hg:=D1.out W' (HW.out.below h.bel);go_simp;refine hg.mono ?_;rintro e w' ⟨rfl,hb⟩;exact⟨rfl,hC' _ (h.next hb)⟩) ?_
 try simp only[zzQ]
 refine qR (.tuple #[.string s,.int .i64 0]) ?_;simp only[zzQ];refine qR (.string s) ?_;simp only[zzQ];refine qR (.int .i64 0) ?_;simp only[zzQ];refine qR (.string s) ?_;simp only[zzQ];refine qR (.int .i64 0) ?_;simp only[zzQ];refine zck λf X hf h=>?_;have HT5:=hid h;clear h hf HT4 D1;cases neg
 ·have HD2:=hid (D2.out rfl);have HS1:=hid (S1.out rfl);have HS2:=hid (S2.out rfl);have HCM:=hid (CM.out rfl)
  clear D2 S1 S2 CM;go_wp2_with fail;refine zbl (λ_ W=>SmS w a b c a' b' c' (.slice p n k) (.slice p' n' k') W) (by kernel_rfl) (by kernel_rfl) (HT5.out.next (zM _ _).drew) ?_;refine qR (.agg #[St a',St b',St c',.slice p' n' k']) ?_ (hy:=λf W' hf h=>by obtain⟨q0,q1,q2,q3⟩:=h.cb;go_simp);simp only[zzQ]
  refine zar (.agg #[St a',St b',St c']) (by rfl) (λf W' hf h C' hC'=>by
   have hg:=zcl a' b' c' p' n' k' W';go_simp;refine hg.mono ?_;rintro e w' ⟨rfl,hb⟩;exact⟨rfl,hC' _ (h.next hb)⟩) ?_
  try simp only[zzQ]
  refine qR (.agg #[St a',St b',St c',.slice p' n' k']) ?_ (hy:=λf W' hf h=>by obtain⟨q0,q1,q2,q3⟩:=h.cb;go_simp);simp only[zzQ]
  refine zar (.agg #[St a',St b',St c']) (by rfl) (λf W' hf h C' hC'=>by
   have hg:=zcl a' b' c' p' n' k' W';go_simp;refine hg.mono ?_;rintro e w' ⟨rfl,hb⟩;exact⟨rfl,hC' _ (h.next hb)⟩) ?_
  try simp only[zzQ]
  refine zar (.tuple #[St dq,.int .i64 0]) (by rfl) (λf W' hf h C' hC'=>by
   have hg:=HD2.out W' (HW.out.below h.bel);go_simp;refine hg.mono ?_;rintro e w' ⟨rfl,hb⟩;exact⟨rfl,hC' _ (h.next hb)⟩) ?_
  try simp only[zzQ]
  refine qR (.tuple #[St dq,.int .i64 0]) ?_;simp only[zzQ];refine qR (St dq) ?_;simp only[zzQ];refine qR (.int .i64 0) ?_;simp only[zzQ];refine qR (St dq) ?_;simp only[zzQ];refine qR (.int .i64 0) ?_;simp only[zzQ];refine zck λf X hf h=>?_;have HT6:=hid h;clear h hf HT5 HD2;obtain⟨k0,k1,k2,k3⟩:=HT6.out.ca;have HS:=hid (HS1.out X HT6.out.bel);clear HS1;go_wp2_with fail;clear k0 k1 k2 k3;refine HS.out.mono ?_;rintro e w2 ⟨u1,u2,u3,er,rfl,hb,hu⟩;have HT7:=hid (HT6.out.next hb);rcases hu with⟨rfl,hu,hE⟩|⟨rfl,hu,hF⟩
  rotate_left
  ·have HF:=hid hF
   clear hb hu HS HT6 hF HS2 HCM;go_wp2_with fail;go_ret2;exact⟨_,_,rfl,HT7.out.bel,.inr ⟨rfl,rfl,.inl ⟨rfl,rfl,HF.out⟩⟩⟩
  have HU:=hid hu;have HE1:=hid hE;clear hb hu HS HT6 hE;obtain⟨k0,k1,k2,k3⟩:=HT7.out.cb;have HS:=hid (HS2.out w2 HT7.out.bel);clear HS2;go_wp2_with fail;clear k0 k1 k2 k3;refine HS.out.mono ?_;rintro e w3 ⟨v1',v2',v3',er,rfl,hb,hv⟩;have HT8:=hid (HT7.out.next hb);rcases hv with⟨rfl,hv,hE⟩|⟨rfl,hv,hF⟩
  rotate_left
  ·have HF:=hid hF
   clear hb hv HS HT7 hF HU HE1 HCM;go_wp2_with fail;go_ret2;exact⟨_,_,rfl,HT8.out.bel,.inr ⟨rfl,rfl,.inl ⟨rfl,rfl,HF.out⟩⟩⟩
  have HC:=hid (HCM.out w3 _ _ HE1.out hE HT8.out.bel (HU.out.below hb) hv);have HE2:=hid hE;clear hb hv HS HT7 HU HCM hE;go_wp2_with fail;refine HC.out.mono ?_;rintro e w4 ⟨m,r,rfl,hb,hG⟩;have HB:=hid (HT8.out.bel.trans (hb.mono HT8.out.bel.size));have HG:=hid hG;clear hb HC hG;have hr:decide (r=0)=true\/decide (r=0)=false:=by cases decide (r=0)<;>simp
  rcases hr with hr|hr
  ·obtain rfl:r=0:=of_decide_eq_true hr
   clear hr;go_wp2_with fail;go_ret2;exact⟨_,_,rfl,HB.out,.inr ⟨rfl,rfl,.inr ⟨m,HG.out,by simp;rfl,HE1.out,HE2.out⟩⟩⟩
  ·have hr:¬r=0:=of_decide_eq_false hr
   go_wp2_with fail;go_ret2;exact⟨_,_,rfl,HB.out,.inr ⟨rfl,rfl,.inr ⟨m,HG.out,by simp[hr],HE1.out,HE2.out⟩⟩⟩
 ·clear D2 S1 S2 CM
  go_wp2_with fail;go_ret2;exact⟨_,_,rfl,HT5.out.bel,.inl ⟨rfl,rfl,.inr rfl⟩⟩
theorem zzh (a b c a' b' c' dp dq:List UInt8) (p p':Option Addr) (n n' k k':Nat) (neg:Bool) (l l':List (Rat×Nat)) (w:zA) (HW:Hid (Wd w))
 (hz:(dp==[48])=false) (hne:0<(⟨dp.toArray⟩:ByteArray).size) (hd:((((⟨dp.toArray⟩:ByteArray)[0]'hne).toNat:Int)==45)=neg)
 (CK:Hid (∀(W:zA) (A:Nat),qL w W->W.heap[A]? =some (.cells #[St a,St b,St c,.slice p n k,St a',St b',St c',.slice p' n' k'] 26 (0,0))->qJ 27 #[.slice (some ⟨A,0,none⟩) 2 2] W (.int .i64 0)))
 (PA:Hid (qK 41 #[.agg #[St a,St b,St c],.agg #[St a',St b',St c']] (.tuple #[.bool true,.int .i64 0])))
 (D1:Hid (qK 31 #[.agg #[St a,St b,St c],.agg #[St a',St b',St c']] (.tuple #[St dp,.int .i64 0])))
 (D2:Hid (neg=false->qK 31 #[.agg #[St a',St b',St c'],.agg #[St a',St b',St c']] (.tuple #[St dq,.int .i64 0])))
 (S1:Hid (neg=false->∀W:zA,qL w W->zC zF 42 #[.slice p n k,St dq] W λe w'=>∃v,e=.returned (.tuple #[v,.int .i64 0])/\zB W.heap.size W w'/\SdL v l w'))
 (S2:Hid (neg=false->∀W:zA,qL w W->zC zF 42 #[.slice p' n' k',St dp] W λe w'=>∃v,e=.returned (.tuple #[v,.int .i64 0])/\zB W.heap.size W w'/\SdL v l' w'))
 (CM:Hid (neg=false->∀(W:zA) (u v:Value),qL w W->SdL u l W->SdL v l' W->qJ 43 #[u,v] W (.tuple #[.int .i64 0,.int .i64 0]))):
 qJ 14 #[.agg #[St a,St b,St c,.slice p n k],.agg #[St a',St b',St c',.slice p' n' k']] w (.tuple #[.bool (!neg),.int .i64 0]):=by
 refine(zta a b c a' b' c' dp dq p p' n n' k k' true neg l l' True True False (λm r=>m=0/\r=0) w HW (λ_=>hz) hne hd CK PA (hid λ_=>D1.out) (hid λ_=>D2.out) (hid λ_ k W h=>zce (S1.out k W h)) (hid λ_ k W h=>zce (S2.out k W h)) (hid λ_ k W u v _ _ h1 h2 h3=>(CM.out k W u v h1 h2 h3).mono λe w' ⟨h1,h2⟩=>⟨0,0,h1,h2,rfl,rfl⟩)).mono λe w' ⟨bb,r,h1,h2,h3⟩=>?_;rcases h3 with⟨rfl,rfl,h|rfl⟩|⟨-,rfl,⟨_,_,h⟩|⟨m,⟨rfl,rfl⟩,rfl, -⟩⟩
 ·cases h
 ·exact⟨h1,h2⟩
 ·exact h.elim
 ·exact⟨h1,h2⟩
theorem z3r (v v':Value) (l:List (Rat×Nat)) (hl:l.length<=5000) (w:zA) (h:SdL v l w) (h':SdL v' l w):
 qJ 36 #[v,v'] w (.bool true):=by
 obtain⟨p,cap,rfl,hc,hx⟩:=h.slice;obtain⟨p',cap',rfl,hc',hx'⟩:=h'.slice;have HX:=hid hx;have HX':=hid hx';have D0:=hid (zM w.heap.size w);obtain⟨n,hn⟩:∃n,n=l.length:=⟨_,rfl⟩;rw[<-hn] at hl hc hc'⊢;have HN:=hid hn;clear hx hx' h h' hn;go_enter Tryz.func36,Tryz.ntmps36;go_wp2_with fail;go_loopw [5] (λi wr=>∃(k:Nat),k<=n/\i=.int .i64 (k:Int)/\Hid (qL w wr))
  (λi _=>n-(zL i).toNat)
 case atStart=>exact⟨0,Nat.zero_le _,rfl,D0⟩
 case round=>
  clear D0;obtain⟨k,hk,rfl,hB⟩:=hrel;by_cases hlt:k<n
  ·obtain⟨t,ht⟩:∃t,l[k]? =some t:=⟨_,List.getElem?_eq_getElem (by rw[<-HN.out];exact hlt)⟩
   obtain⟨b,off,rfl,hb,c0,c1⟩:=HX.out k t ht;obtain⟨b',off',rfl,hb',e0,e1⟩:=HX'.out k t ht;have c0:=zai hB.out c0;have c1:=zai hB.out c1;have e0:=zai hB.out e0;have e1:=zai hB.out e1;generalize numS t.1=x at*
   generalize decDigits t.2=y at*
   clear ht hb hb';go_wp2_with fail
   (refine wp_region_quiet_lit (by kernel_rfl) (by kernel_rfl) (WQ.out ?_);(repeat(first|(apply WQ.read (by rfl);(focus(rintro W ⟨n,rfl⟩;go_simp;try with_reducible rfl));try simp only[zzQ])|(apply WQ.skip (by rfl);try simp only[zzQ])));refine WQ.nil ?_;rintro _ ⟨nq,rfl⟩)
   go_wp2_with fail;go_roundw
   case rel=>exact⟨k+1,by omega,by go_num,hid (zao hB.out _)⟩
   case measure=>simp[zL];omega
  ·go_wp2_with fail
   go_ret;exact⟨rfl,hB.out⟩
theorem zzq (a b c:List UInt8) (p p':Option Addr) (n n' k k':Nat) (w:zA)
 (SS:Hid (∀W:zA,qL w W->qJ 36 #[.slice p n k,.slice p' n' k'] W (.bool true))):
 qJ 15 #[.agg #[St a,St b,St c,.slice p n k],.agg #[St a,St b,St c,.slice p' n' k']] w (.bool true):=by
 obtain⟨v1,hv⟩:∃v1,v1=(w.alloc (.cells #[St a,St b,St c,.slice p n k] 26)).alloc (.cells #[St a,St b,St c,.slice p' n' k'] 26):=⟨_,rfl⟩;obtain⟨b1,A1,A2⟩:=box2 hv;obtain⟨k0,k1,k2,k3⟩:=zfb A1;obtain⟨j0,j1,j2,j3⟩:=zfb A2;have B1:=hid b1;have HS:=hid (SS.out v1 b1);have HV:=hid hv.symm;rw[hv] at k0 k1 k2 k3 j0 j1 j2 j3;clear hv b1 A1 A2 SS;go_enter Tryz.func15,Tryz.ntmps15;go_wp2_with fail;have h9:=HV.out;rw[show(w.alloc (.cells #[.string ⟨a.toArray⟩,.string ⟨b.toArray⟩,.string ⟨c.toArray⟩,.slice p n k] 26)).alloc (.cells #[.string ⟨a.toArray⟩,.string ⟨b.toArray⟩,.string ⟨c.toArray⟩,.slice p' n' k'] 26)=v1 from h9];clear h9 HV k0 k1 k2 k3 j0 j1 j2 j3;refine HS.out.mono ?_;rintro e w1 ⟨rfl,hb⟩;have B2:=hid (B1.out.trans (hb.mono B1.out.size));clear hb;go_wp2_with fail;go_ret;exact⟨rfl,B2.out⟩
end
section
open Go.RowKit Go.Shelf Lib Str Limb
attribute [local go_sem] Oper.semAt_some
def h12 (X Y Z:Nat->List UInt8) (D:Nat->Value):Array Value:= #[St (X 0),St (Y 0),St (Z 0),D 0,St (X 1),St (Y 1),St (Z 1),D 1,St (X 2),St (Y 2),St (Z 2),D 2]
theorem zh8 (v:Array Value) (w:zA) (h:∃a b c d e f g h i j k l,v= #[a,b,c,d,e,f,g,h,i,j,k,l]):
 zC zF 28 #[.agg v] w λe w'=>e=.returned (.func (.func 67) #[] #[.pointer (some ⟨w.heap.size,0,none⟩)])/\w.alloc (.cells v 69)=w':=by
 obtain⟨a,b,c,d,e,f,g,h,i,j,k,l,rfl⟩:=h;go_enter Tryz.func28,Tryz.ntmps28;go_wp2;go_ret;exact⟨rfl,rfl⟩
theorem zfr {W:zA} {Bs:Nat} {t:TypeId} {X Y Z:Nat->List UInt8} {D:Nat->Value} (h:W.heap[Bs]? =some (.cells (h12 X Y Z D) t (0,0))) (j:Nat) (hj:j<3):
 W.cell? ⟨Bs,j*4,none⟩=some (St (X j))/\W.cell? ⟨Bs,j*4+1,none⟩=some (St (Y j))/\W.cell? ⟨Bs,j*4+2,none⟩=some (St (Z j))/\W.cell? ⟨Bs,j*4+3,none⟩=some (D j):=by
 refine⟨?_,?_,?_,?_⟩<;>(rw[zJ h];match j,hj with|0,_|1,_|2,_=>rfl)
def twoH (X Y Z:Nat->List UInt8) (D:Nat->Value) (i j:Nat):Value:=.agg #[St (X i),St (Y i),St (Z i),D i,St (X j),St (Y j),St (Z j),D j]
theorem zom (n:Nat) (hn:1<=n) (Bs:Nat) (X Y Z:Nat->List UInt8) (D:Nat->Value) (hD:∀i,∃q m c,D i=.slice q m c) (t:TypeId) (Rd:zA->Prop) (hRd:∀W,Rd W->W.heap[Bs]? =some (.cells (h12 X Y Z D) t (0,0))):
 IterC Fence.wide n zF 67 #[.pointer (some ⟨Bs,0,none⟩)] Rd (λk args=>args= #[I k,twoH X Y Z D ((k+1)%3) ((k+2)%3)]) 3:=by
 intro lp J Jx W hJr hJb hY h0;refine callsIn_of_wp Tryz.func67 rfl trivial ?_ rfl;simp only[Tryz.ntmps67,List.size_toArray,List.length_cons,List.length_nil,Nat.reduceAdd,Nat.reduceSub,Array.replicate_succ,Array.replicate_zero,List.push_toArray,List.append_toArray,List.nil_append,List.cons_append];have HRd:=hid λk W h=>hRd W (hJr k W h);clear hRd hJr;have HY:=hid hY;clear hY;have HJB:=hid hJb;clear hJb;gi_wp2;gi_loopw [4] (λi wr=>∃(k:Nat),k<=3/\i=.int .i64 (k:Int)/\Hid (J k wr))
  (λi _=>3-(zL i).toNat)
 case atStart=>exact⟨0,Nat.zero_le _,rfl,h0⟩
 case round=>
  obtain⟨k,hk,rfl,hJ⟩:=hrel;by_cases hlt:k<3
  ·have HC:=HRd.out k wr hJ.out
   have hk1:(k+1)%3<3:=Nat.mod_lt _ (by omega);have hk2:(k+2)%3<3:=Nat.mod_lt _ (by omega);obtain⟨c0,c1',c2',c3⟩:=zfr HC _ hk1;obtain⟨d0,d1,d2,d3⟩:=zfr HC _ hk2;have HY1:=hid λW h=>HY.out k #[I k,twoH X Y Z D ((k+1)%3) ((k+2)%3)] W h hlt rfl;unfold twoH at HY1;have hm1:Int.tmod ((k:Int)+1) 3=((k+1)%3:Nat):=by
    rw[show((k:Int)+1)=((k+1:Nat):Int) by omega];rfl
   have hm2:Int.tmod ((k:Int)+2) 3=((k+2)%3:Nat):=by
    rw[show((k:Int)+2)=((k+2:Nat):Int) by omega];rfl
   clear HY HRd HC;generalize (k+1)%3=j1 at*
   generalize (k+2)%3=j2 at*
   obtain⟨p1,m1,c1,e1⟩:=hD j1;obtain⟨p2,m2,c2,e2⟩:=hD j2;rw[e1] at c3 HY1;rw[e2] at d3 HY1;generalize X j1=x1 at*
   generalize Y j1=y1 at*
   generalize Z j1=z1 at*
   generalize X j2=x2 at*
   generalize Y j2=y2 at*
   generalize Z j2=z2 at*
   clear hD e1 e2;have hw1:IntKind.i64.wrap ((k:Int)+1)=(k:Int)+1:=zI _ ⟨by omega,by omega⟩;have hw2:IntKind.i64.wrap ((k:Int)+2)=(k:Int)+2:=zI _ ⟨by omega,by omega⟩;have hw3:IntKind.i64.wrap (j1:Int)=(j1:Int):=zI _ ⟨by omega,by omega⟩;have hw4:IntKind.i64.wrap (j2:Int)=(j2:Int):=zI _ ⟨by omega,by omega⟩;have hJ4:=HJB.out k wr wr.drew hJ.out (zM _ wr).drew;obtain⟨fn,tmps,assign,body,hy,hR⟩:=HY1.out wr.drew hJ4;clear HY1;gi_wp2;refine zgw (λ_=>trivial) rfl (λ(g:Bool) i=>([.func (.yield lp) #[] #[],.int .i64 (k:Int),.int .i64 (k:Int),.int .i64 ((k:Int)+1),.int .i64 (j1:Int),.pointer (some ⟨Bs,j1*4,none⟩),.agg #[St x1,St y1,St z1,.slice p1 m1 c1],.int .i64 (k:Int),.int .i64 ((k:Int)+2),.int .i64 (j2:Int),.pointer (some ⟨Bs,j2*4,none⟩),.agg #[St x2,St y2,St z2,.slice p2 m2 c2],.agg #[St x1,St y1,St z1,.slice p1 m1 c1,St x2,St y2,St z2,.slice p2 m2 c2],.bool g,.bool !g]:List Value).getD i undef)
    (λg f W'=>(f 13=false->W'=wr.drew)/\(f 13=true->(g=true/\J (k+1) W')\/(g=false/\Jx W'))) (by kernel_rfl) (by kernel_rfl) true ⟨λ_=>rfl,λh=>by cases h⟩ λg=>?_
   refine za4 (.func (.yield lp) #[] #[]) (by rfl) (by rfl) (λf W' h=>⟨h.1,h.2⟩) (λf W' hf h=>by
    obtain rfl:=h.1 (hf.no (j:=13) hf.self (by kernel_rfl));go_simp) ?_
   try simp only[zzQ]
   refine za4 (.int .i64 (k:Int)) (by rfl) (by rfl) (λf W' h=>⟨h.1,h.2⟩) (λf W' hf h=>by
    obtain rfl:=h.1 (hf.no (j:=13) hf.self (by kernel_rfl));go_simp) ?_
   try simp only[zzQ]
   refine za4 (.int .i64 (k:Int)) (by rfl) (by rfl) (λf W' h=>⟨h.1,h.2⟩) (λf W' hf h=>by
    obtain rfl:=h.1 (hf.no (j:=13) (hf.no (j:=12) (hf.no (j:=6) (hf.no (j:=5) (hf.no (j:=4) (hf.no (j:=3) hf.self (by kernel_rfl)) (by kernel_rfl)) (by kernel_rfl)) (by kernel_rfl)) (by kernel_rfl)) (by kernel_rfl));go_simp) ?_
   try simp only[zzQ]
   refine za4 (.int .i64 ((k:Int)+1)) (by rfl) (by rfl) (λf W' h=>⟨h.1,h.2⟩) (λf W' hf h=>by
    obtain rfl:=h.1 (hf.no (j:=13) (hf.no (j:=12) (hf.no (j:=6) (hf.no (j:=5) (hf.no (j:=4) hf.self (by kernel_rfl)) (by kernel_rfl)) (by kernel_rfl)) (by kernel_rfl)) (by kernel_rfl));go_simp) ?_
   try simp only[zzQ]
   refine za4 (.int .i64 (j1:Int)) (by rfl) (by rfl) (λf W' h=>⟨h.1,h.2⟩) (λf W' hf h=>by
    obtain rfl:=h.1 (hf.no (j:=13) (hf.no (j:=12) (hf.no (j:=6) (hf.no (j:=5) hf.self (by kernel_rfl)) (by kernel_rfl)) (by kernel_rfl)) (by kernel_rfl));go_simp) ?_
   try simp only[zzQ]
   refine za4 (.pointer (some ⟨Bs,j1*4,none⟩)) (by rfl) (by rfl) (λf W' h=>⟨h.1,h.2⟩) (λf W' hf h=>by
    obtain rfl:=h.1 (hf.no (j:=13) (hf.no (j:=12) (hf.no (j:=6) hf.self (by kernel_rfl)) (by kernel_rfl)) (by kernel_rfl));go_simp;intro h;omega) ?_
   try simp only[zzQ]
   refine za4 (.agg #[St x1,St y1,St z1,.slice p1 m1 c1]) (by rfl) (by rfl) (λf W' h=>⟨h.1,h.2⟩) (λf W' hf h=>by
    obtain rfl:=h.1 (hf.no (j:=13) (hf.no (j:=12) hf.self (by kernel_rfl)) (by kernel_rfl));have c0:wr.drew.cell? _=_:=c0;have c1':wr.drew.cell? _=_:=c1';have c2':wr.drew.cell? _=_:=c2';have c3:wr.drew.cell? _=_:=c3;go_simp) ?_
   try simp only[zzQ]
   refine za4 (.int .i64 (k:Int)) (by rfl) (by rfl) (λf W' h=>⟨h.1,h.2⟩) (λf W' hf h=>by
    obtain rfl:=h.1 (hf.no (j:=13) (hf.no (j:=12) (hf.no (j:=11) (hf.no (j:=10) (hf.no (j:=9) (hf.no (j:=8) hf.self (by kernel_rfl)) (by kernel_rfl)) (by kernel_rfl)) (by kernel_rfl)) (by kernel_rfl)) (by kernel_rfl));go_simp) ?_
   try simp only[zzQ]
   refine za4 (.int .i64 ((k:Int)+2)) (by rfl) (by rfl) (λf W' h=>⟨h.1,h.2⟩) (λf W' hf h=>by
    obtain rfl:=h.1 (hf.no (j:=13) (hf.no (j:=12) (hf.no (j:=11) (hf.no (j:=10) (hf.no (j:=9) hf.self (by kernel_rfl)) (by kernel_rfl)) (by kernel_rfl)) (by kernel_rfl)) (by kernel_rfl));go_simp) ?_
   try simp only[zzQ]
   refine za4 (.int .i64 (j2:Int)) (by rfl) (by rfl) (λf W' h=>⟨h.1,h.2⟩) (λf W' hf h=>by
    obtain rfl:=h.1 (hf.no (j:=13) (hf.no (j:=12) (hf.no (j:=11) (hf.no (j:=10) hf.self (by kernel_rfl)) (by kernel_rfl)) (by kernel_rfl)) (by kernel_rfl));go_simp) ?_
   try simp only[zzQ]
   refine za4 (.pointer (some ⟨Bs,j2*4,none⟩)) (by rfl) (by rfl) (λf W' h=>⟨h.1,h.2⟩) (λf W' hf h=>by
    obtain rfl:=h.1 (hf.no (j:=13) (hf.no (j:=12) (hf.no (j:=11) hf.self (by kernel_rfl)) (by kernel_rfl)) (by kernel_rfl));go_simp;intro h;omega) ?_
   try simp only[zzQ]
   refine za4 (.agg #[St x2,St y2,St z2,.slice p2 m2 c2]) (by rfl) (by rfl) (λf W' h=>⟨h.1,h.2⟩) (λf W' hf h=>by
    obtain rfl:=h.1 (hf.no (j:=13) (hf.no (j:=12) hf.self (by kernel_rfl)) (by kernel_rfl));have d0:wr.drew.cell? _=_:=d0;have d1:wr.drew.cell? _=_:=d1;have d2:wr.drew.cell? _=_:=d2;have d3:wr.drew.cell? _=_:=d3;go_simp) ?_
   try simp only[zzQ]
   refine za4 (.agg #[St x1,St y1,St z1,.slice p1 m1 c1,St x2,St y2,St z2,.slice p2 m2 c2]) (by rfl) (by rfl) (λf W' h=>⟨h.1,h.2⟩) (λf W' hf h=>by
    obtain rfl:=h.1 (hf.no (j:=13) hf.self (by kernel_rfl));go_simp) ?_
   try simp only[zzQ]
   refine zqj (.bool g) (by rfl) (by rfl) (λf W' hf h C' hC'=>by
    obtain rfl:=h.1 hf.self;go_simp;refine⟨λ_=>by omega,hR.mono ?_⟩;rintro e W3 (⟨rfl,hJ3⟩|⟨rfl,hJx3⟩)
    ·refine⟨_,rfl,hC' true W3 (λi hi=>?_) ⟨λh=>(by cases h),λ_=>.inl ⟨rfl,hJ3⟩⟩⟩
     match i,hi with
     |0,_|1,_|2,_|3,_|4,_|5,_|6,_|7,_|8,_|9,_|10,_|11,_|12,_=>rfl
     |13,hi=>rw[hf.self] at hi;cases hi
     |14,hi=>rw[hf.no (j:=14) hf.self (by kernel_rfl)] at hi;cases hi
     |_+15,_=>rfl
    ·refine⟨_,rfl,hC' false W3 (λi hi=>?_) ⟨λh=>(by cases h),λ_=>.inr ⟨rfl,hJx3⟩⟩⟩
     match i,hi with
     |0,_|1,_|2,_|3,_|4,_|5,_|6,_|7,_|8,_|9,_|10,_|11,_|12,_=>rfl
     |13,hi=>rw[hf.self] at hi;cases hi
     |14,hi=>rw[hf.no (j:=14) hf.self (by kernel_rfl)] at hi;cases hi
     |_+15,_=>rfl) ?_
   try simp only[zzQ]
   refine za4 (.bool !g) (by rfl) (by rfl) (λf W' h=>⟨h.1,h.2⟩) (λf W' hf h=>by go_simp) ?_
   try simp only[zzQ]
   refine zqi λf W5 hf h=>?_;rcases h.2 (hf 13 (by decide)) with⟨rfl,hJ5⟩|⟨rfl,hJx5⟩
   ·have HJ5:=hid hJ5;clear hJ5 hf h
    gi_wp2;go_roundw
    case rel=>exact⟨k+1,by omega,by go_num,HJ5.out⟩
    case measure=>simp[zL];omega
   ·have HJx5:=hid hJx5;clear hJx5 hf h
    gi_wp2;refine bodyPost_ret (results_none rfl _ _ _) rfl ?_;exact⟨⟨_,rfl⟩,.inr HJx5.out⟩
  ·obtain rfl:k=3:=by omega
   gi_wp2;go_end0;exact⟨⟨_,rfl⟩,.inl hJ.out⟩
end
end Go.Proofs.YtheinkfbiedidaaGreatDoor
