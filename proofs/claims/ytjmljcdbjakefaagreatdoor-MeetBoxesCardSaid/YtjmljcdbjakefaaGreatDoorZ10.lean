/- vector: (spot).cross; boxes of -/
import Derived.Test.YtjmljcdbjakefaaGreatDoorZ09
import Derived.Deep.Quiet
import Derived.Laws.IdiomStrings
set_option maxRecDepth 100000
set_option maxHeartbeats 8000000
open Go.Value renaming slice → z7, string → z8, tuple → ze, pointer → zf, bool → zg, agg → zh, int → zj
open Go.IntKind renaming i64 → zm
open Go.Obj renaming cells → zn
open Go.Ending renaming returned → zo
open Option renaming none → zp, some → zq
open Bool renaming true → zt, false → zu
open Go renaming undef → zv
open Go renaming World → zA, Calls → zC
open Go.RowKit renaming Below → zB, intOf → zL
open Go.Lib renaming decDigits → zD, itoa → zE
open Go.Proofs.Tryz renaming prog → zF
open Go.World renaming alloc_heap_new → zG, size_alloc → zH
open Go.IntWalk renaming i64_in → zI
open Go.Joins renaming block_setCell → zK
open Go.RowKit.Below renaming refl → zM, heap_setCell → yE
open Nat renaming le_refl → zN, zero_le → zR, pow_succ → yO, mul_comm → yP, eq_zero_or_pos → xD
open List renaming length_map → zV, getElem?_eq_getElem → yB, take_of_length_le → xC
open Int renaming natCast_mul → xE
namespace Go.Proofs.YtjmljcdbjakefaaGreatDoor
section
open Go.RowKit Go.Shelf Lib Str Limb
attribute [local go_sem] Oper.semAt_some
structure BoxS (n X0 Y0:Nat) (z:Array Value) (c:Nat->Array Value) (t:TypeId) (w:zA) (q:Nat->Nat) (f:Nat->Bool) (W:zA):Prop where
 bel:qL w W
 lo:∀i,i<n->f (X0+i)=zt->w.heap.size<=q i
 ne:∀i j,i<n->j<n->i≠j->f (X0+i)=zt->f (X0+j)=zt->q i≠q j
 blk:∀i,i<n->f (X0+i)=zt->W.heap[q i]? =zq (zn (if f (Y0+i)=zt then c i else z) t (0,0))
section
variable {n X0 Y0:Nat} {z:Array Value} {c:Nat->Array Value} {t:TypeId} {w W W':zA} {q:Nat->Nat} {f:Nat->Bool}
theorem BoxS.start (b:qL w W):BoxS n X0 Y0 z c t w q (λ_=>zu) W:=⟨b,λ_ _ a=>(by cases a),λ_ _ _ _ _ a=>(by cases a),λ_ _ a=>(by cases a)⟩
theorem BoxS.step (h:BoxS n X0 Y0 z c t w q f W) (k:Nat) (i:k<X0\/X0+n<=k) (l:k<Y0\/Y0+n<=k):BoxS n X0 Y0 z c t w q (λj=>if k=j then zt else f j) W:=by
 have d:∀a,a<n->(if k=X0+a then zt else f (X0+a))=f (X0+a):=λa b=>if_neg (by omega);have g:∀a,a<n->(if k=Y0+a then zt else f (Y0+a))=f (Y0+a):=λa b=>if_neg (by omega);exact⟨h.bel,λa b=>by simp only[d a b];exact h.lo a b,λa j b e=>by simp only[d a b,d j e];exact h.ne a j b e,λa b=>by simp only[d a b,g a b];exact h.blk a b⟩
theorem BoxS.next (h:BoxS n X0 Y0 z c t w q f W) (a:qL W W'):BoxS n X0 Y0 z c t w q f W':=
 ⟨h.bel.trans (a.mono h.bel.size),h.lo,h.ne,λd b e=>zac a _ _ _ _ (h.blk d b e)⟩
theorem BoxS.new (h:BoxS n X0 Y0 z c t w q f W) (i:Nat) (y:i<n) (v:f (Y0+i)=zu) (x:X0+n<=Y0):BoxS n X0 Y0 z c t w (λj=>if j=i then W.heap.size else q j) (λj=>if X0+i=j then zt else f j) (W.alloc (zn z t)):=by
 have p:qL W (W.alloc (zn z t)):=(zM _ W).alloc (zN _) _;have u:∀a,a<n->(if X0+i=Y0+a then zt else f (Y0+a))=f (Y0+a):=λa d=>if_neg (by omega);have l:∀a,a≠i->(if X0+i=X0+a then zt else f (X0+a))=f (X0+a):=λa d=>if_neg (by omega);have s:∀a,a<n->f (X0+a)=zt->q a<W.heap.size:=λa d g=>(Array.getElem?_eq_some_iff.1 (h.blk a d g)).1;refine⟨h.bel.trans (p.mono h.bel.size),λa d=>?_,λm k ha r o=>?_,λa d=>?_⟩
 ·by_cases e:a=i
  ·simp only[if_pos e];exact λ_=>h.bel.size
  ·simp only[if_neg e,l a e];exact h.lo a d
 ·by_cases ea:m=i
  ·have b:k≠i:=λb=>o (ea.trans b.symm)
   simp only[if_pos ea,if_neg b,l k b];intro _ g;have:=s k r g;omega
  ·by_cases b:k=i
   ·simp only[if_neg ea,if_pos b,l m ea]
    intro g _;have:=s m ha g;omega
   ·simp only[if_neg ea,if_neg b,l m ea,l k b];exact h.ne m k ha r o
 ·simp only[u a d]
  by_cases e:a=i
  ·simp only[if_pos e]
   intro _;rw[show f (Y0+a)=zu by rw[e];exact v];exact zG _ _
  ·simp only[if_neg e,l a e]
   intro g;exact zac p _ _ _ _ (h.blk a d g)
theorem BoxS.put (h:BoxS n X0 Y0 z c t w q f W) (i:Nat) (y:i<n) (k:f (X0+i)=zt) (E:X0+n<=Y0) (s u v:Value) (x:c i= #[s,u,v]) (B:z.size=3):BoxS n X0 Y0 z c t w q (λj=>if Y0+i=j then zt else f j) (((W.setCell ⟨q i,0,zp⟩ s).setCell ⟨q i,1,zp⟩ u).setCell ⟨q i,2,zp⟩ v):=by
 have o:=h.lo i y k;have b:∀k,k<n->(if Y0+i=X0+k then zt else f (X0+k))=f (X0+k):=λk F=>if_neg (by omega);refine⟨((h.bel.setCell (p:=⟨q i,0,zp⟩) (by exact o) _).setCell (p:=⟨q i,1,zp⟩) (by exact o) _).setCell (p:=⟨q i,2,zp⟩) (by exact o) _,λj a=>by simp only[b j a];exact h.lo j a,λg l ha d=>by simp only[b g ha,b l d];exact h.ne g l ha d,λj a=>?_⟩;simp only[b j a];intro m;by_cases e:j=i
 ·subst e
  rw[if_pos (show(if Y0+j=Y0+j then zt else f (Y0+j))=zt from if_pos rfl),x];have d:=h.blk j a m;have A:(if f (Y0+j)=zt then c j else z).size=3:=by split;rw[x];rfl;exact B
  rw[zK (i:=2) (zK (i:=1) (zK (i:=0) d s) u) v];generalize (if f (Y0+j)=zt then c j else z)=D at A;obtain⟨C⟩:=D
  match C,A with
  |[g,l,c],_=>rfl
 ·have r:=h.ne j i a y e m k
  rw[if_neg (show Y0+i≠Y0+j by omega),yE _ _ _ _ (by exact r),yE _ _ _ _ (by exact r),yE _ _ _ _ (by exact r)];exact h.blk j a m
theorem BoxS.open (h:BoxS n X0 Y0 z c t w q f W) (i:Nat) (l:i<n) (k:f (X0+i)=zt) (m:z.size=3) (j:(c i).size=3):(∃b,W.cell? ⟨q i,0,zp⟩=zq b)/\(∃b,W.cell? ⟨q i,1,zp⟩=zq b)/\(∃b,W.cell? ⟨q i,2,zp⟩=zq b)/\W.frozen? ⟨q i,0,zp⟩=zu/\W.frozen? ⟨q i,1,zp⟩=zu/\W.frozen? ⟨q i,2,zp⟩=zu:=by
 have a:=h.blk i l k;have d:(if f (Y0+i)=zt then c i else z).size=3:=by split;exact j;exact m
 generalize (if f (Y0+i)=zt then c i else z)=p at a d;obtain⟨o⟩:=p
 match o,d with
 |[e,g,c],_=>exact⟨⟨e,(zah a).1⟩,⟨g,(zah a).2.1⟩,⟨c,(zah a).2.2.1⟩,(zah a).2.2.2.1,(zah a).2.2.2.2.1,(zah a).2.2.2.2.2⟩
end
structure CrS (w:zA) (x0 x1 x2 y0 y1 y2 o0 o1 o2:List UInt8) (Y1 Y2:Nat) (W:zA):Prop where
 bel:qL w W
 h2:W.heap[w.heap.size+1+1]? =zq (zn #[St [],St [],St []] 137 (0,0))
 h3:W.heap[w.heap.size+1+1+1]? =zq (zn #[St o0,St o1,St o2] 61 (0,0))
 lo1:w.heap.size+1+1+1<Y1
 lo2:w.heap.size+1+1+1<Y2
 h4:W.heap[Y1]? =zq (zn #[St x0,St x1,St x2] 61 (0,0))
 h5:W.heap[Y2]? =zq (zn #[St y0,St y1,St y2] 61 (0,0))
section
variable {w W W':zA} {x0 x1 x2 y0 y1 y2 o0 o1 o2:List UInt8} {Y1 Y2:Nat}
theorem CrS.next (h:CrS w x0 x1 x2 y0 y1 y2 o0 o1 o2 Y1 Y2 W) (b:qL W W'):CrS w x0 x1 x2 y0 y1 y2 o0 o1 o2 Y1 Y2 W':=
 have a:=zac b
 ⟨h.bel.trans (b.mono h.bel.size),a _ _ _ _ h.h2,a _ _ _ _ h.h3,h.lo1,h.lo2,a _ _ _ _ h.h4,a _ _ _ _ h.h5⟩
theorem CrS.ne (h:CrS w x0 x1 x2 y0 y1 y2 o0 o1 o2 Y1 Y2 W) (i:Nat) (u:Value):qL w (W.setCell ⟨w.heap.size+1+1+1,i,zp⟩ u)/\(∀b,b≠w.heap.size+1+1+1->(W.setCell ⟨w.heap.size+1+1+1,i,zp⟩ u).heap[b]? =W.heap[b]?):=
 ⟨h.bel.setCell (p:=⟨w.heap.size+1+1+1,i,zp⟩) (by show _<=w.heap.size+1+1+1;omega) _,λb a=>yE _ _ _ _ (by exact a)⟩
theorem CrS.put0 (h:CrS w x0 x1 x2 y0 y1 y2 o0 o1 o2 Y1 Y2 W) (u:List UInt8):CrS w x0 x1 x2 y0 y1 y2 u o1 o2 Y1 Y2 (W.setCell ⟨w.heap.size+1+1+1,0,zp⟩ (St u)):=by
 obtain⟨b,a⟩:=h.ne 0 (St u);have:=h.lo1;have:=h.lo2;exact⟨b,(a _ (by omega)).trans h.h2,zK (i:=0) h.h3 (St u),h.lo1,h.lo2,(a _ (by omega)).trans h.h4,(a _ (by omega)).trans h.h5⟩
theorem CrS.put1 (h:CrS w x0 x1 x2 y0 y1 y2 o0 o1 o2 Y1 Y2 W) (u:List UInt8):CrS w x0 x1 x2 y0 y1 y2 o0 u o2 Y1 Y2 (W.setCell ⟨w.heap.size+1+1+1,1,zp⟩ (St u)):=by
 obtain⟨b,a⟩:=h.ne 1 (St u);have:=h.lo1;have:=h.lo2;exact⟨b,(a _ (by omega)).trans h.h2,zK (i:=1) h.h3 (St u),h.lo1,h.lo2,(a _ (by omega)).trans h.h4,(a _ (by omega)).trans h.h5⟩
theorem CrS.put2 (h:CrS w x0 x1 x2 y0 y1 y2 o0 o1 o2 Y1 Y2 W) (u:List UInt8):CrS w x0 x1 x2 y0 y1 y2 o0 o1 u Y1 Y2 (W.setCell ⟨w.heap.size+1+1+1,2,zp⟩ (St u)):=by
 obtain⟨b,a⟩:=h.ne 2 (St u);have:=h.lo1;have:=h.lo2;exact⟨b,(a _ (by omega)).trans h.h2,zK (i:=2) h.h3 (St u),h.lo1,h.lo2,(a _ (by omega)).trans h.h4,(a _ (by omega)).trans h.h5⟩
end
theorem yfw (k l m n o q C D E F G H P c1 c2:List UInt8) (w:zA)
 (b6:Hid (∀e:zA,qL w e->qJ 106 #[St l,St q] e (ze #[St C,zj zm 0])))
 (b9:Hid (∀e:zA,qL w e->qJ 106 #[St m,St o] e (ze #[St F,zj zm 0])))
 (bc:Hid (∀e:zA,qL w e->qJ 138 #[St C,St F] e (ze #[St P,zj zm 0])))
 (b7:Hid (∀e:zA,qL w e->qJ 106 #[St m,St n] e (ze #[St D,zj zm 0])))
 (ba:Hid (∀e:zA,qL w e->qJ 106 #[St k,St q] e (ze #[St G,zj zm 0])))
 (bd:Hid (∀e:zA,qL w e->qJ 138 #[St D,St G] e (ze #[St c1,zj zm 0])))
 (b8:Hid (∀e:zA,qL w e->qJ 106 #[St k,St o] e (ze #[St E,zj zm 0])))
 (bb:Hid (∀e:zA,qL w e->qJ 106 #[St l,St n] e (ze #[St H,zj zm 0])))
 (be:Hid (∀e:zA,qL w e->qJ 138 #[St E,St H] e (ze #[St c2,zj zm 0]))):
 qJ 102 #[zh #[St k,St l,St m],zh #[St n,St o,St q]] w (ze #[zh #[St P,St c1,St c2],zj zm 0]):=by
 obtain⟨z3,ak⟩:=zzX (((w.alloc (zn #[St k,St l,St m] 170)).alloc (zn #[St n,St o,St q] 170)).alloc (zn #[St [],St [],St []] 137));obtain⟨ab,ar,au,av,ac⟩:=zjg ak;obtain⟨z4,Y⟩:=zzX (z3.alloc (zn #[St [],St [],St []] 61));have aa:qL z3 z4:=by rw[Y];exact(zM _ z3).alloc (zN _) _
 have O:=zac aa
 have I:=hid (⟨ab.trans (aa.mono ab.size),O _ _ _ _ ar,O _ _ _ _ au,O _ _ _ _ av,by rw[Y,<-ac];exact zG z3 _,by rw[Y,zH,ac]⟩:
  qL w z4/\z4.heap[w.heap.size]? =zq (zn #[St k,St l,St m] 170 (0,0))/\z4.heap[w.heap.size+1]? =zq (zn #[St n,St o,St q] 170 (0,0))/\z4.heap[w.heap.size+1+1]? =zq (zn #[St [],St [],St []] 137 (0,0))/\z4.heap[w.heap.size+1+1+1]? =zq (zn #[St [],St [],St []] 61 (0,0))/\z4.heap.size=w.heap.size+1+1+1+1)
 have aw:z4=(((w.alloc (zn #[St k,St l,St m] 170)).alloc (zn #[St n,St o,St q] 170)).alloc (zn #[St [],St [],St []] 137)).alloc (zn #[St [],St [],St []] 61):=by rw[Y,ak]
 have aq:=hid aw.symm;clear aw ak Y ab ar au av ac aa O;clear z3;go_enter Tryz.func102,Tryz.ntmps102;go_wp21;have y:=aq.out;rw[show(((w.alloc (zn #[z8 ⟨k.toArray⟩,z8 ⟨l.toArray⟩,z8 ⟨m.toArray⟩] 170)).alloc (zn #[z8 ⟨n.toArray⟩,z8 ⟨o.toArray⟩,z8 ⟨q.toArray⟩] 170)).alloc (zn #[z8 ⟨#[]⟩,z8 ⟨#[]⟩,z8 ⟨#[]⟩] 137)).alloc (zn #[z8 ⟨#[]⟩,z8 ⟨#[]⟩,z8 ⟨#[]⟩] 61)=z4 from y];clear y aq;have a8:=hid (λe (a:qL z4 e)=>(⟨zah (zac a _ _ _ _ I.2.1),zah (zac a _ _ _ _ I.2.2.1)⟩:(_/\_/\_/\_/\_/\_)/\_/\_/\_/\_/\_/\_));refine zc4 (λ(L:Nat->Nat) r=>([zh #[St k,St l,St m],zh #[St k,St l,St m],zh #[St n,St o,St q],zh #[St n,St o,St q],zf (zq ⟨L 0,0,zp⟩),zf (zq ⟨L 1,0,zp⟩),zv,zv]:List Value).getD r zv)
  (BoxS 2 4 6 #[St [],St [],St []] (λr=>if r=0 then #[St k,St l,St m] else #[St n,St o,St q]) 61 z4) (by kernel_rfl) (by kernel_rfl) (λ_=>0) (BoxS.start (zM _ z4).drew) λL=>?_
 refine qB (zh #[St k,St l,St m]) (λc b a=>a.step 0 (by decide) (by decide)) ?_ (hy:=λc b d a=>by obtain⟨⟨h,i,j, -⟩, -⟩:=a8 b a.bel;go_simp);simp only[zzQ]
 refine zbv (zh #[St k,St l,St m]) (by rfl) (by rfl) (λc b d a u f=>by
  go_simp;refine zzM (zln k l m b) λR g=>?_;exact⟨_,rfl,f _ ((a.next g).step 1 (by decide) (by decide))⟩) ?_
 refine qB (zh #[St n,St o,St q]) (λc b a=>a.step 2 (by decide) (by decide)) ?_ (hy:=λc b d a=>by obtain⟨-,h,i,j, -⟩:=a8 b a.bel;go_simp);simp only[zzQ]
 refine zbv (zh #[St n,St o,St q]) (by rfl) (by rfl) (λc b d a u f=>by
  go_simp;refine zzM (zln n o q b) λR g=>?_;exact⟨_,rfl,f _ ((a.next g).step 3 (by decide) (by decide))⟩) ?_
 try simp only[zzQ]
 refine zdc (zf (zq ⟨L 0,0,zp⟩)) (by rfl) (by rfl) (λc b d a u f=>by
  have J:=d.self;have ad:=d.no (j:=6) d.self (by kernel_rfl);have Q:=f (λB=>if B=0 then b.heap.size else L B) _ (λB K=>by
   match B,K with
   |0,_|1,_|2,_|3,_|5,_|6,_|7,_=>rfl
   |4,K=>rw[J] at K;cases K
   |_+8,_=>rfl) (a.new 0 (by decide) ad (by decide))
  clear a f;go_simp;exact Q) ?_
 try simp only[zzQ]
 refine zdc (zf (zq ⟨L 1,0,zp⟩)) (by rfl) (by rfl) (λc b d a u f=>by
  have J:=d.self;have ad:=d.no (j:=7) d.self (by kernel_rfl);have Q:=f (λB=>if B=1 then b.heap.size else L B) _ (λB K=>by
   match B,K with
   |0,_|1,_|2,_|3,_|4,_|6,_|7,_=>rfl
   |5,K=>rw[J] at K;cases K
   |_+8,_=>rfl) (a.new 1 (by decide) ad (by decide))
  clear a f;go_simp;exact Q) ?_
 try simp only[zzQ]
 refine zbv zv (by rfl) (by rfl) (λc b d a u f=>by
  have J:=d.done 4 (by kernel_rfl);obtain⟨⟨al,h⟩,⟨am,i⟩,⟨an,j⟩,z0,z1,z2⟩:=a.open 0 (by decide) J rfl rfl;have Q:=f _ (a.put 0 (by decide) J (by decide) (St k) (St l) (St m) rfl rfl);clear a f;go_simp;exact Q) ?_
 try simp only[zzQ]
 refine zbv zv (by rfl) (by rfl) (λc b d a u f=>by
  have J:=d.done 5 (by kernel_rfl);obtain⟨⟨al,h⟩,⟨am,i⟩,⟨an,j⟩,z0,z1,z2⟩:=a.open 1 (by decide) J rfl rfl;have Q:=f _ (a.put 1 (by decide) J (by decide) (St n) (St o) (St q) rfl rfl);clear a f;go_simp;exact Q) ?_
 try simp only[zzQ]
 refine ze1 λc a9 d a=>?_;obtain⟨s,ae⟩:=zzX (L 0);obtain⟨t,af⟩:=zzX (L 1);have Z:=a.blk 0 (by decide) (d 4 (by decide));have a0:=a.blk 1 (by decide) (d 5 (by decide));have ax:=a.lo 0 (by decide) (d 4 (by decide));have ay:=a.lo 1 (by decide) (d 5 (by decide));rw[if_pos (d 6 (by decide))] at Z;rw[if_pos (d 7 (by decide))] at a0;rw[<-ae] at Z ax;rw[<-af] at a0 ay;have O:=zac a.bel;have X:Hid (CrS w k l m n o q [] [] [] s t a9):=hid ⟨I.1.trans (a.bel.mono I.1.size),O _ _ _ _ I.2.2.2.1,O _ _ _ _ I.2.2.2.2.1,by have:=I.2.2.2.2.2;omega,by have:=I.2.2.2.2.2;omega,Z,a0⟩;rw[<-ae,<-af];clear ae af Z a0 ax ay O a d I a8;go_wp21;refine wp_loop_rounds 4 ?_;rw[rounds_succ];go_wp21;refine zc4 (λ(_:Unit) r=>([zj zm 1,zf (zq ⟨s,1,zp⟩),St l,zj zm 2,zf (zq ⟨t,2,zp⟩),St q,ze #[St C,zj zm 0],ze #[St C,zj zm 0],St C,zj zm 0,St C,zj zm 0]:List Value).getD r zv) (λ_ _ x=>qL a9 x) (by kernel_rfl) (by kernel_rfl) () ((zM _ a9).drew) λ_=>?_;refine qB (zj zm 1) (λc b a=>a) ?_;refine qB (zf (zq ⟨s,1,zp⟩)) (λc b a=>a) ?_;refine qB (St l) (λc b a=>a) ?_ (hy:=λc b d a=>by obtain⟨h,i,j, -⟩:=zah (zac a _ _ _ _ X.h4);go_simp);simp only[zzQ];refine qB (zj zm 2) (λc b a=>a) ?_;refine qB (zf (zq ⟨t,2,zp⟩)) (λc b a=>a) ?_;refine qB (St q) (λc b a=>a) ?_ (hy:=λc b d a=>by obtain⟨h,i,j, -⟩:=zah (zac a _ _ _ _ X.h5);go_simp);simp only[zzQ]
 refine zbv (ze #[St C,zj zm 0]) (by rfl) (by rfl) (λc b d a u f=>by
  have A:=b6 b (X.bel.trans (a.mono X.bel.size));go_simp;refine zzM A λR g=>?_;exact⟨_,rfl,f _ (a.trans (g.mono a.size))⟩) ?_
 refine qB (ze #[St C,zj zm 0]) (λc b a=>a) ?_;refine qB (St C) (λc b a=>a) ?_;simp only[zzQ];refine qB (zj zm 0) (λc b a=>a) ?_;refine qB (St C) (λc b a=>a) ?_;refine qB (zj zm 0) (λc b a=>a) ?_;simp only[zzQ];refine ze1 λc az d a=>?_;have U:=hid (X.next a);clear a d X;go_wp21;refine zc4 (λ(_:Unit) r=>([zj zm 2,zf (zq ⟨s,2,zp⟩),St m,zj zm 1,zf (zq ⟨t,1,zp⟩),St o,ze #[St F,zj zm 0],ze #[St F,zj zm 0],St F,zj zm 0,St F,zj zm 0]:List Value).getD r zv) (λ_ _ x=>qL az x) (by kernel_rfl) (by kernel_rfl) () ((zM _ az).drew) λ_=>?_;refine qB (zj zm 2) (λc b a=>a) ?_;refine qB (zf (zq ⟨s,2,zp⟩)) (λc b a=>a) ?_;refine qB (St m) (λc b a=>a) ?_ (hy:=λc b d a=>by obtain⟨h,i,j, -⟩:=zah (zac a _ _ _ _ U.h4);go_simp);simp only[zzQ];refine qB (zj zm 1) (λc b a=>a) ?_;refine qB (zf (zq ⟨t,1,zp⟩)) (λc b a=>a) ?_;refine qB (St o) (λc b a=>a) ?_ (hy:=λc b d a=>by obtain⟨h,i,j, -⟩:=zah (zac a _ _ _ _ U.h5);go_simp);simp only[zzQ]
 refine zbv (ze #[St F,zj zm 0]) (by rfl) (by rfl) (λc b d a u f=>by
  have A:=b9 b (U.bel.trans (a.mono U.bel.size));go_simp;refine zzM A λR g=>?_;exact⟨_,rfl,f _ (a.trans (g.mono a.size))⟩) ?_
 refine qB (ze #[St F,zj zm 0]) (λc b a=>a) ?_;refine qB (St F) (λc b a=>a) ?_;simp only[zzQ];refine qB (zj zm 0) (λc b a=>a) ?_;refine qB (St F) (λc b a=>a) ?_;refine qB (zj zm 0) (λc b a=>a) ?_;simp only[zzQ];refine ze1 λc al d a=>?_;have a2:=hid (U.next a);clear a d U;have M:=hid (bc al a2.bel);go_wp21;refine zzM M.out λb2 g=>?_;have a5:=hid (a2.next g);clear g M a2;obtain⟨h,i,j,z0,z1,z2⟩:=zah a5.h3;obtain⟨ao,ah⟩:=zzX (b2.setCell ⟨w.heap.size+1+1+1,0,zp⟩ (St P));have z:=a5.put0 P;rw[<-ah] at z;have S:=hid z;have N:=hid ah.symm;clear z ah;go_wp21;have y:=N.out;rw[show b2.setCell ⟨w.heap.size+1+1+1,0,zp⟩ (z8 ⟨P.toArray⟩)=ao from y];clear y N h i j z0 z1 z2 a5;rw[rounds_succ];go_wp21;refine zc4 (λ(_:Unit) r=>([zj zm 2,zf (zq ⟨s,2,zp⟩),St m,zj zm 0,zf (zq ⟨t,0,zp⟩),St n,ze #[St D,zj zm 0],ze #[St D,zj zm 0],St D,zj zm 0,St D,zj zm 0]:List Value).getD r zv) (λ_ _ x=>qL ao x) (by kernel_rfl) (by kernel_rfl) () ((zM _ ao).drew) λ_=>?_;refine qB (zj zm 2) (λc b a=>a) ?_;refine qB (zf (zq ⟨s,2,zp⟩)) (λc b a=>a) ?_;refine qB (St m) (λc b a=>a) ?_ (hy:=λc b d a=>by obtain⟨h,i,j, -⟩:=zah (zac a _ _ _ _ S.h4);go_simp);simp only[zzQ];refine qB (zj zm 0) (λc b a=>a) ?_;refine qB (zf (zq ⟨t,0,zp⟩)) (λc b a=>a) ?_
 refine qB (St n) (λc b a=>a) ?_ (hy:=λc b d a=>by obtain⟨h,i,j, -⟩:=zah (zac a _ _ _ _ S.h5);go_simp);simp only[zzQ]
 refine zbv (ze #[St D,zj zm 0]) (by rfl) (by rfl) (λc b d a u f=>by
  have A:=b7 b (S.bel.trans (a.mono S.bel.size));go_simp;refine zzM A λR g=>?_;exact⟨_,rfl,f _ (a.trans (g.mono a.size))⟩) ?_
 refine qB (ze #[St D,zj zm 0]) (λc b a=>a) ?_;refine qB (St D) (λc b a=>a) ?_;simp only[zzQ];refine qB (zj zm 0) (λc b a=>a) ?_;refine qB (St D) (λc b a=>a) ?_;refine qB (zj zm 0) (λc b a=>a) ?_;simp only[zzQ];refine ze1 λc a' d a=>?_;have V:=hid (S.next a);clear a d S;go_wp21;refine zc4 (λ(_:Unit) r=>([zj zm 0,zf (zq ⟨s,0,zp⟩),St k,zj zm 2,zf (zq ⟨t,2,zp⟩),St q,ze #[St G,zj zm 0],ze #[St G,zj zm 0],St G,zj zm 0,St G,zj zm 0]:List Value).getD r zv) (λ_ _ x=>qL a' x) (by kernel_rfl) (by kernel_rfl) () ((zM _ a').drew) λ_=>?_;refine qB (zj zm 0) (λc b a=>a) ?_;refine qB (zf (zq ⟨s,0,zp⟩)) (λc b a=>a) ?_;refine qB (St k) (λc b a=>a) ?_ (hy:=λc b d a=>by obtain⟨h,i,j, -⟩:=zah (zac a _ _ _ _ V.h4);go_simp);simp only[zzQ];refine qB (zj zm 2) (λc b a=>a) ?_;refine qB (zf (zq ⟨t,2,zp⟩)) (λc b a=>a) ?_;refine qB (St q) (λc b a=>a) ?_ (hy:=λc b d a=>by obtain⟨h,i,j, -⟩:=zah (zac a _ _ _ _ V.h5);go_simp);simp only[zzQ]
 refine zbv (ze #[St G,zj zm 0]) (by rfl) (by rfl) (λc b d a u f=>by
  have A:=ba b (V.bel.trans (a.mono V.bel.size));go_simp;refine zzM A λR g=>?_;exact⟨_,rfl,f _ (a.trans (g.mono a.size))⟩) ?_
 refine qB (ze #[St G,zj zm 0]) (λc b a=>a) ?_;refine qB (St G) (λc b a=>a) ?_;simp only[zzQ];refine qB (zj zm 0) (λc b a=>a) ?_;refine qB (St G) (λc b a=>a) ?_;refine qB (zj zm 0) (λc b a=>a) ?_;simp only[zzQ];refine ze1 λc am d a=>?_;have a3:=hid (V.next a);clear a d V;have M:=hid (bd am a3.bel);go_wp21;refine zzM M.out λb3 g=>?_;have a6:=hid (a3.next g);clear g M a3;obtain⟨h,i,j,z0,z1,z2⟩:=zah a6.h3;obtain⟨ap,ai⟩:=zzX (b3.setCell ⟨w.heap.size+1+1+1,1,zp⟩ (St c1));have z:=a6.put1 c1;rw[<-ai] at z;have T:=hid z;have N:=hid ai.symm;clear z ai;go_wp21;have y:=N.out;rw[show b3.setCell ⟨w.heap.size+1+1+1,1,zp⟩ (z8 ⟨c1.toArray⟩)=ap from y];clear y N h i j z0 z1 z2 a6;rw[rounds_succ];go_wp21;refine zc4 (λ(_:Unit) r=>([zj zm 0,zf (zq ⟨s,0,zp⟩),St k,zj zm 1,zf (zq ⟨t,1,zp⟩),St o,ze #[St E,zj zm 0],ze #[St E,zj zm 0],St E,zj zm 0,St E,zj zm 0]:List Value).getD r zv) (λ_ _ x=>qL ap x) (by kernel_rfl) (by kernel_rfl) () ((zM _ ap).drew) λ_=>?_;refine qB (zj zm 0) (λc b a=>a) ?_;refine qB (zf (zq ⟨s,0,zp⟩)) (λc b a=>a) ?_;refine qB (St k) (λc b a=>a) ?_ (hy:=λc b d a=>by obtain⟨h,i,j, -⟩:=zah (zac a _ _ _ _ T.h4);go_simp);simp only[zzQ];refine qB (zj zm 1) (λc b a=>a) ?_;refine qB (zf (zq ⟨t,1,zp⟩)) (λc b a=>a) ?_
 refine qB (St o) (λc b a=>a) ?_ (hy:=λc b d a=>by obtain⟨h,i,j, -⟩:=zah (zac a _ _ _ _ T.h5);go_simp);simp only[zzQ]
 refine zbv (ze #[St E,zj zm 0]) (by rfl) (by rfl) (λc b d a u f=>by
  have A:=b8 b (T.bel.trans (a.mono T.bel.size));go_simp;refine zzM A λR g=>?_;exact⟨_,rfl,f _ (a.trans (g.mono a.size))⟩) ?_
 refine qB (ze #[St E,zj zm 0]) (λc b a=>a) ?_;refine qB (St E) (λc b a=>a) ?_;simp only[zzQ];refine qB (zj zm 0) (λc b a=>a) ?_;refine qB (St E) (λc b a=>a) ?_;refine qB (zj zm 0) (λc b a=>a) ?_;simp only[zzQ];refine ze1 λc b0 d a=>?_;have W:=hid (T.next a);clear a d T;go_wp21;refine zc4 (λ(_:Unit) r=>([zj zm 1,zf (zq ⟨s,1,zp⟩),St l,zj zm 0,zf (zq ⟨t,0,zp⟩),St n,ze #[St H,zj zm 0],ze #[St H,zj zm 0],St H,zj zm 0,St H,zj zm 0]:List Value).getD r zv) (λ_ _ x=>qL b0 x) (by kernel_rfl) (by kernel_rfl) () ((zM _ b0).drew) λ_=>?_;refine qB (zj zm 1) (λc b a=>a) ?_;refine qB (zf (zq ⟨s,1,zp⟩)) (λc b a=>a) ?_;refine qB (St l) (λc b a=>a) ?_ (hy:=λc b d a=>by obtain⟨h,i,j, -⟩:=zah (zac a _ _ _ _ W.h4);go_simp);simp only[zzQ];refine qB (zj zm 0) (λc b a=>a) ?_;refine qB (zf (zq ⟨t,0,zp⟩)) (λc b a=>a) ?_;refine qB (St n) (λc b a=>a) ?_ (hy:=λc b d a=>by obtain⟨h,i,j, -⟩:=zah (zac a _ _ _ _ W.h5);go_simp);simp only[zzQ]
 refine zbv (ze #[St H,zj zm 0]) (by rfl) (by rfl) (λc b d a u f=>by
  have A:=bb b (W.bel.trans (a.mono W.bel.size));go_simp;refine zzM A λR g=>?_;exact⟨_,rfl,f _ (a.trans (g.mono a.size))⟩) ?_
 refine qB (ze #[St H,zj zm 0]) (λc b a=>a) ?_;refine qB (St H) (λc b a=>a) ?_;simp only[zzQ];refine qB (zj zm 0) (λc b a=>a) ?_;refine qB (St H) (λc b a=>a) ?_;refine qB (zj zm 0) (λc b a=>a) ?_;simp only[zzQ];refine ze1 λc an d a=>?_;have a4:=hid (W.next a);clear a d W;have M:=hid (be an a4.bel);go_wp21;refine zzM M.out λb4 g=>?_;have a7:=hid (a4.next g);clear g M a4;obtain⟨h,i,j,z0,z1,z2⟩:=zah a7.h3;obtain⟨b1,aj⟩:=zzX (b4.setCell ⟨w.heap.size+1+1+1,2,zp⟩ (St c2));have z:=a7.put2 c2;rw[<-aj] at z;have a1:=hid z;have N:=hid aj.symm;clear z aj;go_wp21;have y:=N.out;rw[show b4.setCell ⟨w.heap.size+1+1+1,2,zp⟩ (z8 ⟨c2.toArray⟩)=b1 from y];clear y N h i j z0 z1 z2 a7;rw[rounds_succ];obtain⟨h,i,j, -, -, -⟩:=zah a1.h3;go_wp21;clear h i j;refine zzM (z8w P c1 c2 b1) λbf g=>?_;have ag:=a1.next g;obtain⟨h,i,j,z0,z1,z2⟩:=zah ag.h2;have b5:=hid ag;clear ag g a1;go_wp21;have d:=b5.bel;exact bodyPost_ret (v:=ze #[zh #[St P,St c1,St c2],zj zm 0]) (by simp[results,Tryz.results102,go_sem,h,i,j]) rfl ⟨rfl,((d.setCell (p:=⟨w.heap.size+1+1,0,zp⟩) (by show _<=w.heap.size+1+1;omega) _).setCell (p:=⟨w.heap.size+1+1,1,zp⟩) (by show _<=w.heap.size+1+1;omega) _).setCell (p:=⟨w.heap.size+1+1,2,zp⟩) (by show _<=w.heap.size+1+1;omega) _⟩
end
section
open Go.RowKit Lib Str Limb
theorem zdq (p:Option Addr) (n cap:Nat) (l:List Nat) (w:zA) (h:Sl w (z7 p n cap) (l.map I)) (y:l.length<=3000):
 zC zF 55 #[z7 p n cap] w λe w'=>e=zo (z7 p (zat l).length cap)/\w=w':=by
 rcases h.cases with⟨j,C,r,e⟩|⟨j,u,B,r,e,s,v,k⟩
 ·have:l=[]:=by simpa using j
  subst this;simp only[Value.slice.injEq] at e;obtain⟨rfl,rfl,rfl⟩:=e;go_enter Tryz.func55,Tryz.ntmps55;go_wp2;go_loop [3] (λf=>f=zj zm 0) (λ_=>0)
  case atStart=>rfl
  case round=>
   subst hrel;go_wp2;go_ret;exact⟨rfl,rfl⟩
 ·rw[zV] at s e
  simp only[Value.slice.injEq] at e;obtain⟨rfl,rfl,rfl⟩:=e;have q:=hid k;clear k h;go_enter Tryz.func55,Tryz.ntmps55;go_wp2;go_loop [3] (λf=>∃b:Nat,b<=l.length/\f=zj zm b/\Hid (zat (l.take b)=zat l)) (λf=>(zL f).toNat)
  case atStart=>exact⟨l.length,zN _,rfl,by show zat (l.take l.length)=_;rw[List.take_length]⟩
  case round=>
   obtain⟨b,x,rfl,d⟩:=hrel;rcases xD b with rfl|z
   ·have e:(zat l).length=0:=by rw[<-d.out];simp[zou]
    have o:=hid e;clear e;go_wp2;go_ret;exact⟨by rw[o.out];rfl,rfl⟩
   ·obtain⟨a,rfl⟩:∃a,b=a+1:=⟨b-1,by omega⟩
    have i:a<l.length:=by omega
    have m:l[a]? =zq l[a]:=by simp[i]
    have t:=q a (I l[a]) (by simp[i]);have c:zat (l.take (a+1))=zat (l.take a++[l[a]]):=by rw[List.take_succ_eq_append_getElem i]
    by_cases hz:l[a]=0
    ·rw[hz] at t c
     have g:Hid (zat (l.take a)=zat l):=by rw[<-d.out,c,zew];rfl
     clear c m hz d;go_wp2;go_round
     case rel=>exact⟨a,by omega,by go_num,g⟩
     case measure=>simp[zL]
    ·have g:Hid ((zat l).length=a+1):=by
      rw[<-d.out,c,zhs _ hz];show(l.take a++[l[a]]).length=a+1;simp;omega
     have A:(((l[a]:Nat):Int)==0)=zu:=by rw[beq_eq_false_iff_ne];omega
     clear c m d;go_wp2;go_ret;exact⟨by rw[g.out];rfl,rfl⟩
theorem zh4 (v:Value) (l:List Nat) (i:Nat) (w:zA) (h:Sl w v (l.map I)) (m:l.length<=3000):
 zC zF 87 #[v,I i] w λe w'=>e=zo (I (l[i]?.getD 0))/\w=w':=by
 by_cases hi:i<l.length
 ·rcases h.cases with⟨b,f,a,rfl⟩|⟨b,g,n,a,rfl,d,j,c⟩
  ·have:l=[]:=by simpa using b
   subst this;simp at hi
  ·have k:=c i (I (l[i]?.getD 0)) (by simp[hi])
   clear c h;rw[zV];generalize l[i]?.getD 0=o at*
   go_enter Tryz.func87,Tryz.ntmps87;go_wp2;go_ret;exact⟨rfl,rfl⟩
 ·have:l[i]?.getD 0=0:=by rw[List.getElem?_eq_none (by omega)];rfl
  rw[this];obtain⟨f,a,rfl,d,_⟩:=h;rw[zV];go_enter Tryz.func87,Tryz.ntmps87;go_wp2;go_ret;exact⟨rfl,rfl⟩
def B6:Nat:=1000000
theorem zgz {w:zA} {base k:Nat} {p:Option Addr} {n c:Nat} {o:List Nat} (h:w.ownsRow base 3 1 (z7 p n c) k (o.map I)) (a:o.length=k):
 w.ownsRow base 3 1 (z7 p (zat o).length c) (zat o).length ((zat o).map I):=zeq (v:=z7 p n c) h a
theorem ze4 {w:zA} {base:Nat} {t:TypeId} {b:Nat} {v:Value} {n:Nat} {xs:List Value} (h:w.ownsRow base t b v n xs):∃p m c,v=z7 p m c:=by
 rcases h.2 with⟨a,_⟩|⟨f,d,e,a,_⟩<;>exact⟨_,_,_,a⟩
theorem yd9 (c:Nat) (h:c<=1):(0+0+c)/B6=0:=by unfold B6;omega
theorem z91 (Y Z:Value) (a b:List Nat) (w:zA) (ha:Sl w Y (a.map I)) (N:Sl w Z (b.map I)) (z:zal B6 a) (A:zal B6 b) (av:a.length<=1000) (aw:b.length<=1000):
 zC zF 52 #[Y,Z] w (zht w (zaa B6 (valL B6 a+valL B6 b))):=by
 rw[<-zov (B:=B6) (by decide) z A];obtain⟨aj,ae,ag,ah,ai⟩:=info_parts zdv;have M:=ha;have O:=N;obtain⟨ax,am,rfl,aa,ac⟩:=ha;obtain⟨ay,an,rfl,ab,ad⟩:=N;have a0:=hid M;clear M ac aa;have a1:=hid O;clear O ad ab;have F:=hid z;clear z;have G:=hid A;clear A;simp only[zV] at*
 obtain⟨e,K⟩:=zzX (max a.length b.length);rw[<-K];have ap:e<=1000:=by omega
 have L:∀c:Nat,(c<e↔(c<a.length\/c<b.length)):=λc=>by omega
 have k:=hid L;clear K L;go_enter Tryz.func52,Tryz.ntmps52;go_wp2;go_loopw [5,6,7] (λal h y wr=>∃c:Nat,c<=e+1/\y=zj zm c/\h=I (zaq (za6 B6) a b c).2/\wr.ownsRow w.heap.size 3 1 al c ((zaq (za6 B6) a b c).1.map I)/\zB w.heap.size w wr/\(c=e+1->(zaq (za6 B6) a b c).2=0))
  (λ_ _ y _=>e+1-(zL y).toNat)
 case atStart=>exact⟨0,zR _,rfl,rfl,World.ownsRow_made w #[] 0 (zN _) (by unfold maxLen;omega) rfl,(zM _ w).alloc (zN _) _,λd=>by omega⟩
 case round=>
  obtain⟨c,aq,rfl,rfl,j,f,t⟩:=hrel;obtain⟨V,W,X⟩:=zna (B:=B6) (by decide) F G c;by_cases hlt:c<a.length\/c<b.length\/0<(zaq (za6 B6) a b c).2
  ·have af:c<e+1:=by
    rcases hlt with d|d|d
    ·have:=(k c).2 (.inl d);omega
    ·have:=(k c).2 (.inr d);omega
    ·rcases Nat.lt_or_ge c (e+1) with H|H
     ·exact H
     ·rw[t (by omega)] at d;omega
   have R:=zaj F (by decide) c;have S:=zaj G (by decide) c;have x:zaq (za6 B6) a b (c+1)=((zaq (za6 B6) a b c).1++[(za6 B6 (a[c]?.getD 0) (b[c]?.getD 0) (zaq (za6 B6) a b c).2).1],(za6 B6 (a[c]?.getD 0) (b[c]?.getD 0) (zaq (za6 B6) a b c).2).2):=rfl;have T:c=e->(zaq (za6 B6) a b (c+1)).2=0:=λi=>by
    have a8:a[c]?.getD 0=0:=by rw[List.getElem?_eq_none (by have:=k c;omega)];rfl
    have a9:b[c]?.getD 0=0:=by rw[List.getElem?_eq_none (by have:=k c;omega)];rfl
    rw[x,a8,a9];exact yd9 _ W
   have E:=hid x;clear x V X t;have a3:=hid T;clear T;generalize (zaq (za6 B6) a b c).1=U at*
   generalize (zaq (za6 B6) a b c).2=h at*
   have ar:a[c]?.getD 0<1000000:=R;have au:b[c]?.getD 0<1000000:=S;clear R S;have C:∀n o:Nat,(zj zm (((n:Int)+o+h)%1000000))=I (za6 B6 n o h).1:=λn o=>by simp[I,za6,B6]
   have a7:=hid C;clear C;have g:=hid j;clear j;have a4:=hid λ(l:zA) (d:qL w l)=>zh4 _ a c l (a0.below d) (by omega);have a5:=hid λ(l:zA) (d:qL w l)=>zh4 _ b c l (a1.below d) (by omega);generalize a[c]?.getD 0=n at*
   generalize b[c]?.getD 0=o at*
   have p:c<a.length\/(¬c<a.length/\c<b.length)\/(¬c<a.length/\¬c<b.length/\0<h):=by omega
   clear hlt;rcases p with s|⟨s,J⟩|⟨s,J,ao⟩<;>(
    go_wp21;refine(a4 wr f).mono ?_;rintro i q ⟨rfl,rfl⟩;go_wp21;refine(a5 wr f).mono ?_;rintro i q ⟨rfl,rfl⟩;go_wp2_with (at_builtin;refine wpList_append_own _ rfl _ _ 74 rfl w.heap.size 3 aj (zj zm 0) 1 8 Tryz.underlying74 ae ag ah ai rfl (by decide) _ _ _ rfl (g.alloc _) ⟨wr.heap.size,0,zp⟩ 1 1 [zj zm (((n:Int)+o+h)%1000000)] rfl rfl (zep _ _ _) (zfn _) (by unfold maxLen;omega) (by omega) (by have:=f.size;simp;omega) ?_);intro az q m P _;have a6:qL w q:=(f.alloc f.size _).grown P (by have:=f.size;simp;omega) (λak i=>(g.lt ak i).1);rw[a7.out] at m;clear P f g;go_wp2;go_roundw
    case rel=>exact⟨c+1,by omega,by go_num,by rw[E.out];simp[I,za6,B6],by rw[E.out];simpa using m,a6,λi=>a3 (by omega)⟩
    case measure=>simp[zL];omega)
  ·have s:¬c<a.length:=λd=>hlt (.inl d)
   have J:¬c<b.length:=λd=>hlt (.inr (.inl d));have p:(zaq (za6 B6) a b c).2=0:=by have:=λd=>hlt (.inr (.inr d));omega
   have u:(zaq (za6 B6) a b c).1.length=c:=zdk _ _ _ _;have Q:zat (zaq (za6 B6) a b c).1=zat (zaq (za6 B6) a b (e+1)).1:=by
    have af:e<=c:=by have:=k c;omega
    rcases Nat.lt_or_ge c (e+1) with d|d
    ·obtain rfl:c=e:=by omega
     show _=zat ((zaq (za6 B6) a b c).1++[(za6 B6 (a[c]?.getD 0) (b[c]?.getD 0) (zaq (za6 B6) a b c).2).1]);rw[List.getElem?_eq_none (by omega),List.getElem?_eq_none (by omega),p];exact(zew _).symm
    ·obtain rfl:c=e+1:=by omega
     rfl
   have r:=hid Q;clear Q;obtain⟨U,v⟩:=zzX ((zaq (za6 B6) a b c).1);rw[<-v] at j u;have a2:=hid v;clear v;have D:=hid u;clear u V W X t hlt;rw[p] at*
   obtain⟨b1,b0,a',rfl⟩:=ze4 j;have g:=hid j;clear j;go_wp21;refine(zdq _ _ _ U wr (Sl.of_own g.out) (by rw[D.out];omega)).mono ?_;rintro i q ⟨rfl,rfl⟩;go_wp21;go_ret;have m:=zgz g D.out;rw[<-a2.out] at r;rw[r.out] at m;exact⟨_,rfl,by rw[r.out];exact m,f⟩
end
section
theorem zzD {B:Nat} {a w:zA} (h:RowKit.Below B a w) (n:Nat):RowKit.Below B a (w.drewN n):=⟨h.os,h.tape,h.output,h.size,h.block⟩
open Go.RowKit Lib Str Limb
def ztb (w:zA) (l:List Nat) (e:Ending) (w':zA):Prop:=
 ∃g c,e=zo (z7 (zq ⟨g,0,zp⟩) l.length c)/\w'.ownsRow w.heap.size 3 1 (z7 (zq ⟨g,0,zp⟩) l.length c) l.length (l.map I)/\zB w.heap.size w w'
theorem zqe {w:zA} {base:Nat} {t:TypeId} {d:Nat} {v:Value} {n:Nat} {xs:List Value} (h:w.ownsRow base t d v n xs) (b:v≠ z7 zp 0 0):∃g c,v=z7 (zq ⟨g,0,zp⟩) n c:=by
 rcases h.2 with⟨a,_⟩|⟨g,e,f,a,_⟩
 ·exact absurd a b
 ·exact⟨_,_,a⟩
theorem zj6 (a5 a6:Value) (a b:List Nat) (w:zA) (ha:Sl w a5 (a.map I)) (O:Sl w a6 (b.map I)) (E:zal B6 a) (F:zal B6 b) (au:a.length<=1000) (ad:b.length<=a.length) (T:valL B6 b<=valL B6 a):
 zC zF 54 #[a5,a6] w (ztb w (zaa B6 (valL B6 a-valL B6 b))):=by
 rw[<-znb (B:=B6) (by decide) E F T a.length (zN _) ad];obtain⟨a1,S,Y,Z,a0⟩:=info_parts zdv;have N:=ha;have P:=O;obtain⟨aw,am,rfl,ae,ag⟩:=ha;obtain⟨ax,an,rfl,af,ah⟩:=O;have a7:=hid N;clear N ag ae;have a8:=hid P;clear P ah af T;have J:=hid E;clear E;have K:=hid F;clear F;simp only[zV] at*
 go_enter Tryz.func54,Tryz.ntmps54;go_wp2;go_loopw [5,6,7] (λa4 d C wr=>∃c:Nat,c<=a.length/\C=zj zm c/\d=I (zaq (za1 B6) a b c).2/\wr.ownsRow w.heap.size 3 1 a4 c ((zaq (za1 B6) a b c).1.map I)/\zB w.heap.size w wr/\a4≠ z7 zp 0 0)
  (λ_ _ C _=>a.length-(zL C).toNat)
 case atStart=>exact⟨0,zR _,rfl,rfl,World.ownsRow_made w #[] 0 (zN _) (by unfold maxLen;omega) rfl,(zM _ w).alloc (zN _) _,λx=>by cases x⟩
 case round=>
  obtain⟨c,ap,rfl,rfl,l,i,U⟩:=hrel;have a9:=hid U;clear U;obtain⟨a2,aj,a3⟩:=zlo (B:=B6) (by decide) J K c;by_cases hlt:c<a.length
  ·obtain⟨al,av,rfl,Q,ao,R⟩:=(a7.below i).at hlt
   have W:=zaj J (by decide) c;have X:=zaj K (by decide) c;have V:zaq (za1 B6) a b (c+1)=((zaq (za1 B6) a b c).1++[(za1 B6 (a[c]?.getD 0) (b[c]?.getD 0) (zaq (za1 B6) a b c).2).1],(za1 B6 (a[c]?.getD 0) (b[c]?.getD 0) (zaq (za1 B6) a b c).2).2):=rfl;have u:=hid V;clear V a2 a3;generalize (zaq (za1 B6) a b c).1=r at*
   generalize (zaq (za1 B6) a b c).2=d at*
   have aq:a[c]?.getD 0<1000000:=W;have ar:b[c]?.getD 0<1000000:=X;clear W X;have j:=hid l;clear l;have H:=hid λ(m:zA) (x:qL w m)=>zh4 _ b c m (a8.below x) (by omega);generalize a[c]?.getD 0=e at*
   generalize b[c]?.getD 0=f at*
   have L:zm.wrap ((e:Int)-f)=(e:Int)-f:=zI _ (by omega);have M:zm.wrap ((e:Int)-f-d)=(e:Int)-f-d:=zI _ (by omega);have ac:∀(s:Value) (t:zA) (ak:Int) (m:zA),qL w m->m.ownsRow w.heap.size 3 1 s (c+1) (r.map I++[zj zm ak])->True:=λ_ _ _ _ _ _=>trivial;clear ac;by_cases hge:f+d<=e
   ·have n:Hid (zj zm ((e:Int)-f-d)=I (za1 B6 e f d).1/\(za1 B6 e f d).2=0):=hid (by
     have h:za1 B6 e f d=(e-f-d,0):=by unfold za1;rw[if_pos hge]
     rw[h];exact⟨by show zj zm _=zj zm _;congr 1;omega,rfl⟩)
    have ai:¬(e:Int)-f-d<0:=by omega
    go_wp2;go_quiet ((go_at_call 87;exact Calls.quiet_of_same (zi5 (H _ (i.trans (zzD (zM _ _) _))))));clear L M;have g:qL w (wr.drewN nq):=zzD i _;have k:=hid (show(wr.drewN nq).ownsRow w.heap.size 3 1 _ c (r.map I) from j.out);clear j R i Q;go_wp2_with (at_builtin;refine wpList_append_own _ rfl _ _ 74 rfl w.heap.size 3 a1 (zj zm 0) 1 8 Tryz.underlying74 S Y Z a0 rfl (by decide) _ _ _ rfl (k.alloc _) ⟨wr.heap.size,0,zp⟩ 1 1 [zj zm ((e:Int)-f-d)] rfl rfl (zep _ _ _) (zfn _) (by unfold maxLen;omega) (by omega) (by have:=g.size;simp at this⊢;omega) ?_);intro s t q o p;have v:=hid (show s≠ z7 zp 0 0 from p);clear p;have y:qL w t:=(g.alloc g.size _).grown o (by have:=g.size;simp at this⊢;omega) (λD h=>(k.lt D h).1);rw[n.1] at q;clear o g k;go_wp2;go_roundw
    case rel=>exact⟨c+1,by omega,by go_num,by rw[u.out,n.2];rfl,by rw[u.out];simpa using q,y,v.out⟩
    case measure=>simp[zL];omega
   ·have n:Hid (zj zm ((e:Int)-f-d+1000000)=I (za1 B6 e f d).1/\(za1 B6 e f d).2=1):=hid (by
     have h:za1 B6 e f d=(e+B6-f-d,1):=by unfold za1;rw[if_neg hge]
     rw[h];exact⟨by show zj zm _=zj zm _;congr 1;unfold B6;omega,rfl⟩)
    have ai:(e:Int)-f-d<0:=by omega
    have ab:zm.wrap ((e:Int)-f-d+1000000)=(e:Int)-f-d+1000000:=zI _ (by omega);go_wp2;go_quiet ((go_at_call 87;exact Calls.quiet_of_same (zi5 (H _ (i.trans (zzD (zM _ _) _))))));clear L M;have g:qL w (wr.drewN nq):=zzD i _;have k:=hid (show(wr.drewN nq).ownsRow w.heap.size 3 1 _ c (r.map I) from j.out);clear j R i Q;go_wp2_with (at_builtin;refine wpList_append_own _ rfl _ _ 74 rfl w.heap.size 3 a1 (zj zm 0) 1 8 Tryz.underlying74 S Y Z a0 rfl (by decide) _ _ _ rfl (k.alloc _) ⟨wr.heap.size,0,zp⟩ 1 1 [zj zm ((e:Int)-f-d+1000000)] rfl rfl (zep _ _ _) (zfn _) (by unfold maxLen;omega) (by omega) (by have:=g.size;simp at this⊢;omega) ?_);intro s t q o p;have v:=hid (show s≠ z7 zp 0 0 from p);clear p;have y:qL w t:=(g.alloc g.size _).grown o (by have:=g.size;simp at this⊢;omega) (λD h=>(k.lt D h).1);rw[n.1] at q;clear o g k ab;go_wp2;go_roundw
    case rel=>exact⟨c+1,by omega,by go_num,by rw[u.out,n.2];rfl,by rw[u.out];simpa using q,y,v.out⟩
    case measure=>simp[zL];omega
  ·obtain rfl:c=a.length:=by omega
   have z:(zaq (za1 B6) a b a.length).1.length=a.length:=zdk _ _ _ _;obtain⟨r,A⟩:=zzX ((zaq (za1 B6) a b a.length).1);rw[<-A] at l z;have aa:=hid A;have G:=hid z;clear z a2 aj a3;obtain⟨az,ay,rfl⟩:=zqe l a9.out;have j:=hid l;clear l A;go_wp21;refine(zdq _ _ _ r wr (Sl.of_own j.out) (by rw[G.out];omega)).mono ?_;rintro h t ⟨rfl,rfl⟩;go_wp21;go_ret;rw[<-aa.out];exact⟨_,_,rfl,zgz j G.out,i⟩
theorem z3e (c d:Value) (a b:List Nat) (w:zA) (ha:Sl w c (a.map I)) (h:Sl w d (b.map I)) (l:zal B6 a) (m:zal B6 b) (k:a.length<=1000) (i:b.length<=a.length) (j:valL B6 b<=valL B6 a):
 zC zF 54 #[c,d] w (zht w (zaa B6 (valL B6 a-valL B6 b))):=
 (zj6 c d a b w ha h l m k i j).mono λ_ _ ⟨_,_,e,f,g⟩=>⟨_,e,f,g⟩
theorem zuj (m n:Nat) (b:(zaa B6 m).length=(zaa B6 n).length) (k:Nat) (g:k<(zaa B6 m).length) (h:∀i,k<i->i<(zaa B6 m).length->(zaa B6 m)[i]?.getD 0=(zaa B6 n)[i]?.getD 0):
 ((zaa B6 m)[k]?.getD 0<(zaa B6 n)[k]?.getD 0->m<n)/\((zaa B6 n)[k]?.getD 0<(zaa B6 m)[k]?.getD 0->n<m):=by
 have a:2<=B6:=by decide
 have d:=zak a m;have e:=zak a n;have c:=ztr b k h;constructor
 ·intro j
  have:=zem d e b k g c j;rwa [zam a,zam a] at this
 ·intro f
  have:=zem e d b.symm k (by omega) c.symm f;rwa [zam a,zam a] at this
theorem zzw (m n:Nat) (b:(zaa B6 m).length=(zaa B6 n).length) (h:∀i,i<(zaa B6 m).length->(zaa B6 m)[i]?.getD 0=(zaa B6 n)[i]?.getD 0):m=n:=by
 have a:2<=B6:=by decide
 rw[<-zam a m,zoa b h,zam a]
def ordN (m n:Nat):Int:=if m<n then-1 else if m=n then 0 else 1
theorem zu4 (H J:Value) (m n:Nat) (w:zA) (ha:Sl w H ((zaa B6 m).map I)) (z:Sl w J ((zaa B6 n).map I)) (af:(zaa B6 m).length<=1000) (_:(zaa B6 n).length<=1000):
 qJ 53 #[H,J] w (zj zm (ordN m n)):=by
 have y:=ha;have A:=z;obtain⟨ai,a1,rfl,S,U⟩:=ha;obtain⟨aj,a2,rfl,T,V⟩:=z;have M:=hid y;clear y U S;have N:=hid A;clear A V T;simp only[zV] at*
 have q:=zc2 (B:=B6) (by decide) (m:=m) (n:=n);have p:=zc2 (B:=B6) (by decide) (m:=n) (n:=m);have P:=hid (zak (B:=B6) (by decide) m);have Q:=hid (zak (B:=B6) (by decide) n);by_cases hl:(zaa B6 m).length=(zaa B6 n).length
 ·have L:=hid (zuj m n hl)
  have K:=hid (zzw m n hl);rw[<-hl];clear q p;have x:=hid hl;clear hl;generalize zaa B6 m=c at*
  generalize zaa B6 n=e at*
  go_enter Tryz.func53,Tryz.ntmps53;go_wp2;go_loopw [5] (λa wr=>∃f:Nat,f<=c.length/\a=zj zm ((f:Int)-1)/\(∀b,f<=b->b<c.length->c[b]?.getD 0=e[b]?.getD 0)/\zB w.heap.size w wr)
   (λa _=>(zL a+1).toNat)
  case atStart=>exact⟨c.length,zN _,rfl,λb v i=>by omega,zM _ _⟩
  case round=>
   obtain⟨f,aa,rfl,k,o⟩:=hrel;rcases xD f with rfl|ac
   ·obtain rfl:m=n:=K.out λa W=>k a (zR _) W
    clear k;go_wp2;go_ret;exact⟨by unfold ordN;simp,o⟩
   ·obtain⟨a,rfl⟩:∃a,f=a+1:=⟨f-1,by omega⟩
    have C:((a+1:Nat):Int)-1=(a:Int):=by omega
    rw[C];have D:a<c.length:=by omega
    have X:a<e.length:=by have:=x.out;omega
    obtain⟨Z,ag,rfl,a3,a6,a8⟩:=(M.below o).at D;obtain⟨a0,ah,rfl,a4,a7,a9⟩:=(N.below o).at X;have j:=L a D (λb v i=>k b v i);have E:c[a]?.getD 0=e[a]?.getD 0->∀b,a<=b->b<c.length->c[b]?.getD 0=e[b]?.getD 0:=λR b v i=>by
     rcases Nat.lt_or_ge a b with g|g
     ·exact k b g i
     ·obtain rfl:b=a:=by omega
      exact R
    have l:=hid E;clear E k C;have F:=zaj P (by decide) a;have G:=zaj Q (by decide) a;have ad:c[a]?.getD 0<1000000:=F;have ae:e[a]?.getD 0<1000000:=G;clear F G;have Y:(c.length:Int)=e.length:=by have:=x.out;omega
    have t:=hid o;generalize c[a]?.getD 0=r at*
    generalize e[a]?.getD 0=s at*
    rcases Nat.lt_trichotomy r s with h|h|h
    ·have d:ordN m n= -1:=by unfold ordN;rw[if_pos (j.1 h)]
     have u:=hid d;clear j l d;go_wp2;go_quiet (fail);go_wp2;go_ret;exact⟨by rw[u.out];rfl,zzD t _⟩
    ·have O:=hid (l h)
     subst h;clear j l;go_wp2;go_quiet (fail);go_wp2;go_quiet (fail);go_wp2;go_roundw
     case rel=>exact⟨a,by omega,rfl,O.out,zzD t _⟩
     case measure=>simp[zL]
    ·have d:ordN m n=1:=by unfold ordN;have:=j.2 h;rw[if_neg (by omega),if_neg (by omega)]
     have a5:¬r<s:=by omega
     have u:=hid d;clear j l d;go_wp2;go_quiet (fail);go_wp2;go_quiet (fail);go_wp2;go_ret;exact⟨by rw[u.out];rfl,zzD (zzD t _) _⟩
 ·have ab:¬(((zaa B6 m).length:Int)=(zaa B6 n).length):=by omega
  rcases Nat.lt_or_gt_of_ne hl with g|g
  ·have d:ordN m n= -1:=by unfold ordN;rw[if_pos (q g)]
   rw[d];clear d q p hl;generalize (zaa B6 m).length=r at*
   generalize (zaa B6 n).length=s at*
   go_enter Tryz.func53,Tryz.ntmps53;go_wp2;go_ret;exact⟨rfl,zM _ _⟩
  ·have d:ordN m n=1:=by unfold ordN;have:=p g;rw[if_neg (by omega),if_neg (by omega)]
   rw[d];have i:¬(zaa B6 m).length<(zaa B6 n).length:=by omega
   clear d q p hl;generalize (zaa B6 m).length=r at*
   generalize (zaa B6 n).length=s at*
   go_enter Tryz.func53,Tryz.ntmps53;go_wp2;go_ret;exact⟨rfl,zM _ _⟩
end
section
open Go.RowKit Lib Str Limb
theorem zy5 {a b:List Nat} (d:zal B6 a) (e:zal B6 b) (i:Nat) (l:i<a.length):
 (zay B6 (a[i]?.getD 0) b i (zbp B6 a b i) (b.length+1)).2=0:=by
 have g:2<=B6:=by decide
 obtain⟨n,o,t3⟩:=zdf g d e i (Nat.le_of_lt l);obtain⟨p,q,r,h⟩:=zfw g (zaj d (by decide) i) e i o (b.length+1) (by rw[n];omega);rw[xC (by omega),t3] at h;have m:valL B6 (a.take i)*valL B6 b+B6^i*(a[i]?.getD 0*valL B6 b)=valL B6 (a.take (i+1))*valL B6 b:=by
  rw[zbo,Nat.add_mul,Nat.mul_assoc]
 rw[m] at h;have f:=zb6 (zcu d (i+1));rw[List.length_take,Nat.min_eq_left (by omega)] at f;have j:=zb6 e;have k:valL B6 (a.take (i+1))*valL B6 b<B6^(i+1)*B6^b.length:=Nat.mul_lt_mul'' f j;rw[<-Nat.pow_add,show i+1+b.length=i+(b.length+1) by omega] at k;rcases xD (zay B6 (a[i]?.getD 0) b i (zbp B6 a b i) (b.length+1)).2 with c|c
 ·exact c
 ·have:=Nat.mul_le_mul_left (B6^(i+(b.length+1))) c
  omega
theorem zxi {x:Nat} {b a:List Nat} (i:Nat) (d:zal B6 (zay B6 x b i a b.length).1) (c:i+b.length<(zay B6 x b i a b.length).1.length) (h:(zay B6 x b i a b.length).2=0):
 (zay B6 x b i a (b.length+1)).1=(zay B6 x b i a b.length).1:=by
 show(zay B6 x b i a b.length).1.set (i+b.length) (((zay B6 x b i a b.length).1[i+b.length]?.getD 0+x*b[b.length]?.getD 0+(zay B6 x b i a b.length).2)%B6)=_;rw[h,List.getElem?_eq_none (l:=b) (zN _)];have:=zaj d (by decide) (i+b.length);simp only[Option.getD_none,Nat.mul_zero,Nat.add_zero];rw[Nat.mod_eq_of_lt this,yB c];simp
theorem ztg (ai aj:Value) (a b:List Nat) (w:zA) (ha:Sl w ai (a.map I)) (a5:Sl w aj (b.map I)) (Q:zal B6 a) (R:zal B6 b) (bt:a.length<=1000) (bu:b.length<=1000):
 zC zF 86 #[ai,aj] w (zht w (zaa B6 (valL B6 a*valL B6 b))):=by
 rw[<-zjp (B:=B6) (by decide) Q R];obtain⟨b6,b2,b3,b4,b5⟩:=info_parts zdv;have a4:=ha;have a6:=a5;obtain⟨bx,be,rfl,ay,b0⟩:=ha;obtain⟨bz,bf,rfl,a',b1⟩:=a5;have S:=hid a4;clear a4 b0 ay;have ak:=hid a6;clear a6 b1 a';have s:=hid Q;clear Q;have q:=hid R;clear R;simp only[zV] at*
 go_enter Tryz.func86,Tryz.ntmps86;go_wp2_with (at_make;refine wpList_make_full _ rfl _ _ 74 rfl w.heap.size 3 b6 (zj zm 0) 1 Tryz.underlying74 b2 b3 b4 zm zm _ _ (a.length+b.length+1) rfl rfl (by omega) (by omega) (by rw[b5];omega) (by unfold maxLen;omega) (zN _) ?_);intro b8 o a7;rw[toList_madeCells_one,<-show(List.replicate (a.length+b.length+1) 0).map I=List.replicate (a.length+b.length+1) (zj zm 0) by simp] at o;obtain⟨f, -⟩:=Row.of_own o;have a2:qL w b8:=(zM _ _).grown a7 (zN _) (λ_ t=>by cases t);clear o a7;obtain⟨m,G⟩:=zzX (a.length+b.length+1);have aw:(a.length:Int)+b.length+1=m:=by omega
 rw[<-G] at f⊢;have p:=hid G;clear G;obtain⟨E,J⟩:=zzX w.heap.size;rw[<-J] at f⊢;have T:=hid J;clear J;clear aw;go_wp2;go_loopw [6] (λd wr=>∃c:Nat,c<=a.length/\d=zj zm c/\Row wr E m (zbp B6 a b c)/\zB w.heap.size w wr)
  (λd _=>a.length-(zL d).toNat)
 case atStart=>exact⟨0,zR _,rfl,by rw[zbp,<-p.out];exact f,a2⟩
 case round=>
  clear f a2;obtain⟨d,a8,rfl,f,k⟩:=hrel;by_cases hlt:d<a.length
  ·obtain⟨bc,bv,rfl,ax,az,H⟩:=(S.below k).at hlt
   have ae:=zaj s (by decide) d;obtain⟨l,y, -⟩:=zdf (B:=B6) (by decide) s q d a8;have r:zbp B6 a b (d+1)=(zay B6 (a[d]?.getD 0) b d (zbp B6 a b d) (b.length+1)).1:=rfl;have aa:=zy5 s q d hlt;rw[<-p.out] at l;have W:=hid r;clear r;have V:=hid aa;clear aa;generalize zbp B6 a b d=g at*
   have D:=hid l;clear l;have ap:=hid y;clear y;have ad:a[d]?.getD 0<1000000:=ae;clear ae H;have C:=hid ad;clear ad;obtain⟨e,N⟩:=zzX (a[d]?.getD 0);rw[<-N] at W V C;have an:=hid N;clear N;go_wp2;obtain⟨c0,ac⟩:=zzX (wr:zA);have ba:=hid ac;clear ac;go_loopw [7,8] (λj O wr=>∃c:Nat,c<=b.length+1/\O=zj zm c/\j=I (zay B6 e b d g c).2/\Row wr E m (zay B6 e b d g c).1/\zB w.heap.size w wr)
    (λ_ O _=>b.length+1-(zL O).toNat)
   case atStart=>exact⟨0,zR _,rfl,rfl,f,k⟩
   case round=>
    clear f k;obtain⟨c,bo,rfl,rfl,f,k⟩:=hrel;have al:m=a.length+b.length+1:=p.out;obtain⟨v,x,P, -⟩:=zfw (B:=B6) (by decide) (show e<B6 from C.out) q d ap c (by rw[D.out];omega);by_cases hgo:c<b.length\/0<(zay B6 e b d g c).2
    ·have bp:c<b.length+1:=by
      rcases hgo with i|i
      ·omega
      ·rcases Nat.lt_or_ge c (b.length+1) with a0|a0
       ·exact a0
       ·obtain rfl:c=b.length+1:=by omega
        rw[V.out] at i;omega
     have af:=zaj q (by decide) c;have r:zay B6 e b d g (c+1)=((zay B6 e b d g c).1.set (d+c) (((zay B6 e b d g c).1[d+c]?.getD 0+e*b[c]?.getD 0+(zay B6 e b d g c).2)%B6),((zay B6 e b d g c).1[d+c]?.getD 0+e*b[c]?.getD 0+(zay B6 e b d g c).2)/B6):=rfl;have X:=hid r;clear r;generalize zay B6 e b d g c=b7 at*
     obtain⟨u,j⟩:=b7;dsimp only at*
     have a9:d+c<u.length:=by rw[v,D.out];omega
     have bk:=f.cell (getD_some a9);have bl:=f.frozen (d+c);have ag:=zaj x (by decide) (d+c);have bj:j<1000000:=P;have bs:u[d+c]?.getD 0<1000000:=ag;have br:b[c]?.getD 0<1000000:=af;have bq:e<1000000:=C.out;have bi:d+c<m:=by omega
     have bm:(0:Int)<=(d:Int)+c:=by omega
     have bn:(d:Int)+c<m:=by omega
     have ao:=hid λ(Y:zA) (i:qL w Y)=>zh4 _ b c Y (ak.below i) (by omega);obtain⟨bd,bw,Z,ax,az,H⟩:=(S.below k).at hlt;simp only[Option.some.injEq,Addr.mk.injEq,and_true] at Z;obtain⟨rfl,rfl⟩:=Z;rw[<-an.out] at H;have A:=hid f;clear v x P ag af f a9 al;generalize ah:u[d+c]?.getD 0=n at*
     have bb:=hid ah;clear ah;generalize b[c]?.getD 0=h at*
     have K:(0:Int)<=(e:Int)*h:=by rw[<-xE];omega
     have L:(e:Int)*h<=999998000001:=by
      have:=Nat.mul_le_mul (show e<=999999 by omega) (show h<=999999 by omega);rw[<-xE];omega
     have aq:zm.wrap ((e:Int)*h)=(e:Int)*h:=zI _ (by omega);have ar:zm.wrap ((n:Int)+(e:Int)*h)=(n:Int)+(e:Int)*h:=zI _ (by omega);have au:zm.wrap ((n:Int)+(e:Int)*h+j)=(n:Int)+(e:Int)*h+j:=zI _ (by omega);have bg:zm.wrap ((d:Int)+c)=(d:Int)+c:=zI _ (by omega);have bh:((d:Int)+c).toNat=d+c:=by omega
     have U:=hid (⟨K,L⟩:_/\_);clear K L;have av:c<b.length\/(¬c<b.length/\0<j):=by omega
     clear hgo;rcases av with a1|⟨a1,F⟩<;>(
      go_wp2;go_quiet ((go_at_call 87;exact Calls.quiet_of_same (zi5 (ao _ (k.trans (zzD (zM _ _) _))))));clear aq ar au;have K:=U.1;have L:=U.2;go_wp2;go_roundw
      case rel=>
       refine⟨c+1,by omega,by go_num,?_,?_,?_⟩
       ·rw[X.out];simp[B6]
       ·rw[X.out]
        have:=Row.set (w:=wr.drewN nq) (show Row (wr.drewN nq) E m u from A.out) (d+c) ((n+e*h+j)%B6);have t:I ((n+e*h+j)%B6)=zj zm (((n:Int)+e*h+j)%1000000):=by simp[I,B6]
        rw[t] at this;exact this
       ·exact(zzD k _).setCell (by rw[T.out];exact zN _) _
      case measure=>simp[zL];omega)
    ·have a1:¬c<b.length:=λi=>hgo (.inl i)
     have F:(zay B6 e b d g c).2=0:=by have:=λi=>hgo (.inr i);omega
     have ab:(zay B6 e b d g c).1=zbp B6 a b (d+1):=by
      rw[W.out];rcases Nat.lt_or_ge c (b.length+1) with i|i
      ·obtain rfl:c=b.length:=by omega
       exact(zxi d x (by rw[v,D.out];omega) F).symm
      ·obtain rfl:c=b.length+1:=by omega
       rfl
     rw[F] at*
     rw[ab] at f;have A:=hid f;clear f ab v x P hgo;go_wp2;go_roundw
     case rel=>exact⟨d+1,by omega,by go_num,A.out,k⟩
     case measure=>simp[zL];omega
  ·obtain rfl:d=a.length:=by omega
   obtain⟨l,y, -⟩:=zdf (B:=B6) (by decide) s q a.length a8;rw[<-p.out] at l;have M:=f.sl;have o:=f.own (base:=w.heap.size) (by rw[T.out];exact zN _);rw[l] at M;have z:=hid (⟨l,o⟩:_/\_);generalize a3:zbp B6 a b a.length=g at*
   have am:=hid M;clear M o f l y;have b9:=hid a3;clear a3;go_wp21;refine(zdq _ _ _ g wr am (by rw[z.1,p.out];omega)).mono ?_;rintro t b' ⟨rfl,rfl⟩;go_wp21;go_ret;have:=zeq z.2 rfl;rw[z.1] at this;exact⟨_,rfl,this,k⟩
end
section
open Go.RowKit Go.Shelf Lib Str Limb
attribute [local go_sem] Oper.semAt_some
def zsb (w:zA) (z:Int) (e:Ending) (w':zA):Prop:=
 ∃m v n,e=zo (zh #[zg m,v])/\sgn m n=z/\Sl w' v ((zaa B6 n).map I)/\zB w.heap.size w w'
theorem z3f {w:zA} {n:Nat} {e:Ending} {w':zA} (h:zht w (zaa B6 n) e w'):∃p c,e=zo (z7 p (zaa B6 n).length c)/\Sl w' (z7 p (zaa B6 n).length c) ((zaa B6 n).map I)/\zB w.heap.size w w':=by
 obtain⟨f,rfl,d,b⟩:=h;have a:=Sl.of_own d;obtain⟨p,c,e, -⟩:=id a;rw[zV] at e;subst e;exact⟨p,c,rfl,a,b⟩
structure BigS (W:zA) (mm:Bool) (n ic ia st:Nat) (b:Nat×Value) (f:Nat->Bool) (X:zA):Prop where
 pre:qL W X
 cv:f ic=zt->∃p c,b.2=z7 p (zaa B6 n).length c/\Sl X b.2 ((zaa B6 n).map I)
 al:f ia=zt->W.heap.size<=b.1/\(f st=zu->X.heap[b.1]? =zq (zn #[zg zu,z7 zp 0 0] 76 (0,0)))
 fin:f st=zt->X.heap[b.1]? =zq (zn #[zg mm,b.2] 76 (0,0))
theorem BigS.congr {e:zA} {j:Bool} {n c a d:Nat} {b:Nat×Value} {f g:Nat->Bool} {X:zA} (h:BigS e j n c a d b f X) (k:g c=f c) (l:g a=f a) (i:g d=f d):BigS e j n c a d b g X:=
 ⟨h.pre,by rw[k];exact h.cv,by rw[l,i];exact h.al,by rw[i];exact h.fin⟩
theorem BigS.call {k:zA} {o:Bool} {n i e d:Nat} {b:Nat×Value} {f g:Nat->Bool} {X j:zA} {p:Option Addr} {c:Nat} (h:BigS k o n i e d b f X) (_:f i=zu) (r:f d=zu) (_:g i=zt) (q:g e=f e) (l:g d=f d)
 (m:qL X j) (s:Sl j (z7 p (zaa B6 n).length c) ((zaa B6 n).map I)):BigS k o n i e d (b.1,z7 p (zaa B6 n).length c) g j:=
 ⟨h.pre.trans (m.mono h.pre.size),λ_=>⟨p,c,rfl,s⟩,λa=>by
   rw[q] at a;obtain⟨t,u⟩:=h.al a;refine⟨t,λv=>?_⟩;have:=u (by rw[<-l];exact v);exact(m.block _ (Array.getElem?_eq_some_iff.1 this).1).trans this,λa=>by rw[l,r] at a;cases a⟩
theorem BigS.new {e:zA} {j:Bool} {n d i c:Nat} {b:Nat×Value} {f g:Nat->Bool} {X:zA} (h:BigS e j n d i c b f X) (p:f c=zu) (m:g d=f d) (o:g c=f c):
 BigS e j n d i c (X.heap.size,b.2) g (X.alloc (zn #[zg zu,z7 zp 0 0] 76)):=by
 have ha:qL X (X.alloc (zn #[zg zu,z7 zp 0 0] 76)):=(zM _ X).alloc (zN _) _;refine⟨h.pre.trans (ha.mono h.pre.size),λa=>?_,λ_=>⟨h.pre.size,λ_=>heap_alloc_new X _⟩,λa=>by rw[o,p] at a;cases a⟩;rw[m] at a;obtain⟨r,k,l,q⟩:=h.cv a;exact⟨r,k,l,q.below ha⟩
theorem BigS.put {m:zA} {a:Bool} {n j i d:Nat} {b:Nat×Value} {f g:Nat->Bool} {X:zA} (h:BigS m a n j i d b f X) (t:f j=zt) (u:f i=zt) (v:f d=zu) (s:g d=zt):
 BigS m a n j i d b g ((X.setCell ⟨b.1,0,zp⟩ (zg a)).setCell ⟨b.1,1,zp⟩ b.2):=by
 obtain⟨k,y⟩:=h.al u;have e:=y v;obtain⟨l,p,r,x⟩:=h.cv t;have q:X.cell? ⟨b.1,0,zp⟩=zq (zg zu):=by simp[World.cell?,e]
 have c1:(X.setCell ⟨b.1,0,zp⟩ (zg a)).cell? ⟨b.1,1,zp⟩=zq (z7 zp 0 0):=(World.cell?_setCell_other _ _ _ (zg a) (show(⟨b.1,0,zp⟩:Addr)≠⟨b.1,1,zp⟩ by simp)).trans (by simp[World.cell?,e]);refine⟨(h.pre.setCell (p:=⟨b.1,0,zp⟩) k _).setCell (p:=⟨b.1,1,zp⟩) k _,λ_=>⟨l,p,r,?_⟩,λ_=>⟨k,λo=>by rw[s] at o;cases o⟩,λ_=>?_⟩
 ·exact(x.set q (λz=>by simp[I]) _).set c1 (λz=>by simp[I]) _
 ·exact(λ(c:zA) (w:c.heap[b.1]? =zq (zn #[zg zu,z7 zp 0 0] 76 (0,0)))=>by simp[World.setCell,Array.getElem?_modify,w]:∀c:zA,c.heap[b.1]? =zq (zn #[zg zu,z7 zp 0 0] 76 (0,0))->((c.setCell ⟨b.1,0,zp⟩ (zg a)).setCell ⟨b.1,1,zp⟩ b.2).heap[b.1]? =zq (zn #[zg a,b.2] 76 (0,0))) X e
theorem z02 (w:zA) (m b:Bool) (c d:Value):∃a,a=((w.alloc (zn #[zg m,c] 76)).alloc (zn #[zg b,d] 76)).alloc (zn #[zg zu,z7 zp 0 0] 76)/\
 qL w a/\a.heap.size=w.heap.size+3/\a.heap[w.heap.size]? =zq (zn #[zg m,c] 76 (0,0))/\a.heap[w.heap.size+1]? =zq (zn #[zg b,d] 76 (0,0))/\a.heap[w.heap.size+1+1]? =zq (zn #[zg zu,z7 zp 0 0] 76 (0,0)):=by
 refine⟨_,rfl,(((zM _ w).alloc (zN _) _).alloc (by simp) _).alloc (by simp;omega) _,by simp,?_,?_,?_⟩
 ·exact(Below.heap_alloc _ _ _ (by simp only[zH];omega)).trans ((Below.heap_alloc _ _ _ (by simp only[zH];omega)).trans (heap_alloc_new w _))
 ·refine(Below.heap_alloc _ _ _ (by simp only[zH];omega)).trans ?_
  have:=heap_alloc_new (w.alloc (zn #[zg m,c] 76)) (zn #[zg b,d] 76);rwa [zH] at this
 ·have:=heap_alloc_new ((w.alloc (zn #[zg m,c] 76)).alloc (zn #[zg b,d] 76)) (zn #[zg zu,z7 zp 0 0] 76)
  rwa [zH,zH] at this
theorem zr2 {X:zA} {R:Nat} (c:X.cell? ⟨R,0,zp⟩=zq (zg zu)) (h:X.cell? ⟨R,1,zp⟩=zq (z7 zp 0 0)) (q:Bool) (v d:Value) (l:List Nat) (g:Sl X d (l.map I)) {B:Nat} {w:zA} (f:zB B w X) (b:B<=R):
 ((X.setCell ⟨R,0,zp⟩ (zg q)).setCell ⟨R,1,zp⟩ v).cell? ⟨R,0,zp⟩=zq (zg q)/\((X.setCell ⟨R,0,zp⟩ (zg q)).setCell ⟨R,1,zp⟩ v).cell? ⟨R,1,zp⟩=zq v/\Sl ((X.setCell ⟨R,0,zp⟩ (zg q)).setCell ⟨R,1,zp⟩ v) d (l.map I)/\zB B w ((X.setCell ⟨R,0,zp⟩ (zg q)).setCell ⟨R,1,zp⟩ v):=by
 have a:=(World.cell?_setCell_other _ _ _ (zg q) (show(⟨R,0,zp⟩:Addr)≠⟨R,1,zp⟩ by simp)).trans h;have e:=za9 (u:=zg q) c
 exact⟨(World.cell?_setCell_other _ _ _ v (show(⟨R,1,zp⟩:Addr)≠⟨R,0,zp⟩ by simp)).trans e,za9 (u:=v) a,(g.set c (λi=>by simp[I]) _).set a (λi=>by simp[I]) _,
  (f.setCell (p:=⟨R,0,zp⟩) b _).setCell (p:=⟨R,1,zp⟩) b _⟩
theorem ybe (m c:Bool) (a b:Nat):sgn (m !=c) (a*b)=sgn m a*sgn c b:=by
 cases m<;>cases c<;>simp[sgn,Int.mul_neg,Int.neg_mul]
theorem z5f (m g:Bool) (an ao:Value) (k l:Nat) (w:zA) (q:Sl w an ((zaa B6 k).map I)) (hy:Sl w ao ((zaa B6 l).map I)) (aj:(zaa B6 k).length<=1000) (ak:(zaa B6 l).length<=1000):
 zC zF 49 #[zh #[zg m,an],zh #[zg g,ao]] w (zsb w (sgn m k*sgn g l)):=by
 obtain⟨G,y,rfl, -⟩:=id q;obtain⟨H,z,rfl, -⟩:=id hy;simp only[zV] at*
 have V:=λar ay az=>ztg (z7 G (zaa B6 k).length y) (z7 H (zaa B6 l).length z) (zaa B6 k) (zaa B6 l) ar ay az (zak (by decide) _) (zak (by decide) _) aj ak;rw[zam (B:=B6) (by decide),zam (B:=B6) (by decide)] at V;generalize (zaa B6 k).length=K at*
 generalize (zaa B6 l).length=L at*
 have a4:=hid V;clear V;obtain⟨O,ae,J,ah,b2,aa,ab⟩:=z02 w m g (z7 G K y) (z7 H L z);have a7:=hid (q.below J);clear q;have a8:=hid (hy.below J);clear hy;have a6:=hid ae;have ac:∀f:zA,qL O f->f.cell? ⟨w.heap.size,0,zp⟩=zq (zg m)/\f.cell? ⟨w.heap.size,1,zp⟩=zq (z7 G K y)/\f.cell? ⟨w.heap.size+1,0,zp⟩=zq (zg g)/\f.cell? ⟨w.heap.size+1,1,zp⟩=zq (z7 H L z):=λf a=>by
  have av:=(a.block w.heap.size (by omega)).trans b2;have aw:=(a.block (w.heap.size+1) (by omega)).trans aa;refine⟨?_,?_,?_,?_⟩<;>simp[World.cell?,av,aw]
 have x:=hid ac;have t:=hid (⟨J,ah,ab⟩:_/\_/\_);clear ac J ah b2 aa ab ae aj ak;go_enter Tryz.func49,Tryz.ntmps49;go_wp2;rw[<-a6.out];refine zc4 (λ(e:Nat×Value) E=>([zf (zq ⟨w.heap.size,0,zp⟩),zg m,zf (zq ⟨w.heap.size+1,0,zp⟩),zg g,zg (m !=g),zf (zq ⟨w.heap.size,1,zp⟩),z7 G K y,zf (zq ⟨w.heap.size+1,1,zp⟩),z7 H L z,e.2,zh #[zg (m !=g),e.2],zf (zq ⟨e.1,0,zp⟩),zv]:List Value)[E]?.getD zv)
  (BigS O (m !=g) (k*l) 9 11 12) (by kernel_rfl) (by kernel_rfl) (0,z7 zp 0 0) ⟨(zM _ O).drew,λF=>(by cases F),λF=>(by cases F),λF=>(by cases F)⟩ λe=>?_
 refine qB (zf (zq ⟨w.heap.size,0,zp⟩)) (λd c a=>a.congr rfl rfl rfl) ?_;refine qB (zg m) (λd c a=>a.congr rfl rfl rfl) ?_ (hy:=λd c b a=>by have s:=x _ a.pre;obtain⟨X,Y,Z,a0⟩:=s;go_simp);refine qB (zf (zq ⟨w.heap.size+1,0,zp⟩)) (λd c a=>a.congr rfl rfl rfl) ?_;simp only[zzQ];refine qB (zg g) (λd c a=>a.congr rfl rfl rfl) ?_ (hy:=λd c b a=>by have s:=x _ a.pre;obtain⟨X,Y,Z,a0⟩:=s;go_simp);refine qB (zg (m !=g)) (λd c a=>a.congr rfl rfl rfl) ?_ (hy:=λd c b a=>by cases m<;>cases g<;>go_simp);refine qB (zf (zq ⟨w.heap.size,1,zp⟩)) (λd c a=>a.congr rfl rfl rfl) ?_;simp only[zzQ];refine qB (z7 G K y) (λd c a=>a.congr rfl rfl rfl) ?_ (hy:=λd c b a=>by have s:=x _ a.pre;obtain⟨X,Y,Z,a0⟩:=s;go_simp);refine qB (zf (zq ⟨w.heap.size+1,1,zp⟩)) (λd c a=>a.congr rfl rfl rfl) ?_;refine qB (z7 H L z) (λd c a=>a.congr rfl rfl rfl) ?_ (hy:=λd c b a=>by have s:=x _ a.pre;obtain⟨X,Y,Z,a0⟩:=s;go_simp);simp only[zzQ]
 refine zdc e.2 (by rfl) (by rfl) (λd c b a a2 u=>by
  have A:=b.self;have h12:=(b.no (j:=12) (b.no (j:=10) b.self (by kernel_rfl)) (by kernel_rfl));go_simp;refine(a4 c (a7.below a.pre) (a8.below a.pre)).mono ?_;intro p b4 b3;obtain⟨n,o,rfl,D,a'⟩:=z3f b3;refine⟨_,rfl,u (e.1,z7 n (zaa B6 (k*l)).length o) b4 (λE h=>?_) (a.call A h12 rfl rfl rfl a' D)⟩
  match E,h with
  |0,_|1,_|2,_|3,_|4,_|5,_|6,_|7,_|8,_|11,_|12,_=>rfl
  |9,h=>rw[A] at h;cases h
  |10,h=>rw[b.no (j:=10) b.self (by kernel_rfl)] at h;cases h
  |_+13,_=>rfl) ?_
 refine qB (zh #[zg (m !=g),e.2]) (λd c a=>a.congr rfl rfl rfl) ?_ (hy:=λd c b a=>by
  obtain⟨n,o,p, -⟩:=a.cv (b.done 9 (by kernel_rfl));obtain⟨i,a1⟩:=e;dsimp only at p;subst p;go_simp)
 try simp only[zzQ]
 refine zdc (zf (zq ⟨e.1,0,zp⟩)) (by rfl) (by rfl) (λd c b a a2 u=>by
  have h12:=(b.no (j:=12) b.self (by kernel_rfl));have:=u (c.heap.size,e.2) (c.alloc (zn #[zg zu,z7 zp 0 0] 76)) (λE h=>?_) (a.new h12 rfl rfl)
  ·go_simp
   exact this
  ·match E,h with
   |0,_|1,_|2,_|3,_|4,_|5,_|6,_|7,_|8,_|9,_|10,_|12,_=>rfl
   |11,h=>rw[b.self] at h;cases h
   |_+13,_=>rfl) ?_
 try simp only[zzQ]
 refine zbv zv (by rfl) (by rfl) (λd c b a a2 u=>by
  have A:=b.done 9 (by kernel_rfl);have ad:=b.done 11 (by kernel_rfl);have h12:=b.self;obtain⟨W,ai⟩:=a.al ad;have q:=ai h12;have P:c.cell? ⟨e.1,0,zp⟩=zq (zg zu):=by simp[World.cell?,q]
  have Q:c.cell? ⟨e.1,1,zp⟩=zq (z7 zp 0 0):=by simp[World.cell?,q]
  have ax:c.frozen? ⟨e.1,0,zp⟩=zu:=by simp[World.frozen?,q]
  have b6:c.frozen? ⟨e.1,1,zp⟩=zu:=by simp[World.frozen?,q]
  have:=u _ (a.put A ad h12 rfl);obtain⟨n,o,p, -⟩:=a.cv A;rw[p] at this⊢;clear u a ai q p;go_simp;exact this) ?_
 try simp only[Act.put]
 refine ze1 λd f b a=>?_;obtain⟨n,o,p,D⟩:=a.cv (b 9 (by decide));have C:=a.fin (b 12 (by decide));obtain⟨W, -⟩:=a.al (b 11 (by decide));obtain⟨i,a1⟩:=e;dsimp only at p C W D;subst p;have v:=(a.pre.block (w.heap.size+1+1) (by have:=t.2.1;omega)).trans t.2.2;have a5:=hid D;have a3:=hid (t.1.trans (a.pre.mono (by have:=t.2.1;omega)));have b9:w.heap.size+1+1<i:=by have:=t.2.1;omega
 clear a b D W;have a9:=hid (ybe m g k l);have b5:=hid v;have au:f.cell? ⟨i,0,zp⟩=zq (zg (m !=g)):=by simp[World.cell?,C]
 have c1:f.cell? ⟨i,1,zp⟩=zq (z7 n (zaa B6 (k*l)).length o):=by simp[World.cell?,C]
 have ax:f.frozen? ⟨i,0,zp⟩=zu:=by simp[World.frozen?,C]
 have al:f.cell? ⟨w.heap.size+1+1,0,zp⟩=zq (zg zu):=by simp[World.cell?,v]
 have am:f.cell? ⟨w.heap.size+1+1,1,zp⟩=zq (z7 zp 0 0):=by simp[World.cell?,v]
 have b7:f.frozen? ⟨w.heap.size+1+1,0,zp⟩=zu:=by simp[World.frozen?,v]
 have b8:f.frozen? ⟨w.heap.size+1+1,1,zp⟩=zu:=by simp[World.frozen?,v]
 have af:w.heap.size+1+1≠i:=by omega
 have bc:i≠w.heap.size+1+1:=by omega
 generalize b0:(m !=g)=M at*
 generalize b1:k*l=r at*
 clear v C a4 a7 a8 a6 x t b0 b1;by_cases h0:r=0
 ·subst h0
  rw[zaz] at*
  have P:=(zau f (b:=w.heap.size+1+1) (b':=i) 0 0 (zg zu) af).trans al;have Q:=(zau f (b:=w.heap.size+1+1) (b':=i) 1 0 (zg zu) af).trans am;have ag:=a5.set au (λbd=>by simp[I]) (zg zu);have N:=hid (zr2 P Q zu (z7 n 0 o) _ [] ag (a3.setCell (p:=⟨i,0,zp⟩) (by show w.heap.size<=i;omega) _) (show w.heap.size<=w.heap.size+1+1 by omega));have ap:=hid a9.out;clear P Q ag;simp only[List.length_nil] at*
  go_wp2;obtain⟨R,S,T,U⟩:=N.out;exact bodyPost_ret (v:=zh #[zg zu,z7 n 0 o]) (by simp[results,Tryz.results49,go_sem,R,S]) rfl ⟨zu,_,0,rfl,by rw[<-ap.out];cases M<;>simp[sgn],by rw[zaz];exact T,U⟩
 ·have ba:¬(zaa B6 r).length=0:=λa=>h0 ((zbd (B:=B6) (by decide) r).1 (List.length_eq_zero_iff.1 a))
  have bb:(((zaa B6 r).length:Int)==0)=zu:=by rw[beq_eq_false_iff_ne];omega
  have N:=hid (zr2 al am M (z7 n (zaa B6 r).length o) _ (zaa B6 r) a5 a3 (show w.heap.size<=w.heap.size+1+1 by omega));clear h0;generalize (zaa B6 r).length=aq at*
  go_wp2;obtain⟨R,S,T,U⟩:=N.out;exact bodyPost_ret (v:=zh #[zg M,z7 n aq o]) (by simp[results,Tryz.results49,go_sem,R,S]) rfl ⟨M,_,r,rfl,a9.out,T,U⟩
theorem zzE {n:Nat} (h:0<n):∀c r,zD n=c::r->c.toNat≠48:=by
 intro c r b e;obtain⟨j,d⟩:=zzX (⟨(zD n++[]).toArray⟩:ByteArray);have i:=zjz n [] j d;have f:c=48:=by apply UInt8.toNat_inj.1;rw[e];rfl
 rcases i with a|a
 ·rw[b] at a
  have g:r=[]:=by cases r with|nil=>rfl|cons _ _=>simp at a
  have:=zb2 n;rw[b,g,f] at this;simp[val] at this;omega
 ·rw[b] at d
  subst d;have:=a (by simp[ByteArray.size]);exact this (by show c.toNat=48;exact e)
theorem zsy (n:Nat) (o:0<n) (s:(zD n).length<=300) (w:zA):
 zC zF 50 #[St (45::zD n)] w λe w'=>e=zo (zj zm 0)/\w'=w:=by
 have f:=zan n;have g:=zzE o;have h:1<=(zD n).length:=by have:=zbn (n:Int);unfold digs at this;simpa using this
 obtain⟨c,t⟩:=zzX (zD n);rw[<-t] at f s h g⊢;obtain⟨a,i⟩:=zzX (⟨(45::c).toArray⟩:ByteArray);obtain⟨l,b2⟩:=zds (45::c) a i;have F:a.size=c.length+1:=by rw[l];simp
 have p:0<a.size:=by omega
 have q:1<a.size:=by omega
 have B:(((a[0]'p).toNat:Int)==45)=zt:=by rw[b2 0 (by simp) p];rfl
 have r:∀b (d:b<a.size),1<=b->48<=(a[b]'d).toNat/\(a[b]'d).toNat<=57:=λb d v=>by
  obtain⟨k,rfl⟩:∃k,b=k+1:=⟨b-1,by omega⟩;rw[b2 (k+1) (by simp;omega) d];exact f _ (by simp)
 have C:(((a[1]'q).toNat:Int)==48)=zu:=by
  rw[beq_eq_false_iff_ne,b2 1 (by simp;omega) q]
  cases c with
  |nil=>simp at h
  |cons m y=>have:=g m y rfl;show((m.toNat:Int))≠48;omega
 show zC _ _ #[z8 ⟨(45::c).toArray⟩] _ _;rw[<-i];have u:=hid r;have G:zm.wrap ((a.size:Int)-1)=(a.size:Int)-1:=zI _ ⟨by omega,by omega⟩;have E:¬(300:Int)<(a.size:Int)-1:=by omega
 have D:(0:Int)<a.size:=by omega
 have H:((1:Int)==a.size)=zu:=by rw[beq_eq_false_iff_ne];omega
 clear r l b2 i f g t h s o;go_enter Tryz.func50,Tryz.ntmps50;go_wp2;go_loop [4] (λj=>∃b:Nat,1<=b/\b<=a.size/\j=zj zm b) (λj=>a.size-(zL j).toNat)
 case atStart=>exact⟨1,zN _,by omega,rfl⟩
 case round=>
  obtain⟨b,x,v,rfl⟩:=hrel;by_cases hlt:b<a.size
  ·obtain⟨c1,c2⟩:=u b hlt x
   have z:(48:Int)<=(a[b].toNat:Int):=by omega
   have A:(a[b].toNat:Int)<=57:=by omega
   go_wp2;go_round
   case rel=>exact⟨b+1,by omega,by omega,by go_num⟩
   case measure=>simp[zL];omega
  ·go_wp2
   go_ret
   first|exact⟨rfl,rfl⟩|exact rfl|trivial
theorem zh6 (z:Int) (a:digs z<=300) (w:zA):
 zC zF 50 #[St (zE z)] w λe w'=>e=zo (zj zm 0)/\w'=w:=by
 rcases zbg z with⟨b,e⟩|⟨b,e⟩<;>rw[e]
 ·exact zsj _ a w
 ·exact zsy _ (by omega) a w
theorem zj7 (x y:Int) (a:digs x<=300) (hy:digs y<=300) (w:zA):
 zC zF 28 #[St (zE x),St (zE y)] w λe w'=>e=zo (zj zm 0)/\w'=w:=by
 have c1:=zh6 x a w;have c2:=zh6 y hy w;generalize zE x=d at*
 generalize zE y=f at*
 have b:=hid c1;have c:=hid c2;clear c1 c2 a hy;go_enter Tryz.func28,Tryz.ntmps28;go_wp21;refine b.mono ?_;rintro e w' ⟨rfl,rfl⟩;go_wp21;refine c.mono ?_;rintro e g ⟨rfl,rfl⟩;go_wp21;go_ret;exact⟨rfl,rfl⟩
theorem zsz (n:Nat) (S:0<n) (x:(zD n).length<=16) (w:zA):
 zC zF 51 #[St (45::zD n)] w λe w'=>e=zo (ze #[zj zm (-(n:Int)),zg zt])/\w'=w:=by
 obtain⟨d,y⟩:=zzX (zD n);have h:=zan n;have o:=zb2 n;rw[<-y] at h o x⊢;obtain⟨b,l⟩:=zzX (⟨(45::d).toArray⟩:ByteArray);obtain⟨r,b2⟩:=zds (45::d) b l;have B:b.size=d.length+1:=by rw[r];simp
 have E:=λa j=>zhb (l:=d) h (k:=a) j;have k:0<b.size:=by omega
 have P:(((b[0]'k).toNat:Int)==45)=zt:=by rw[b2 0 (by simp) k];rfl
 have Q:(((b[0]'k).toNat:Int) !=45)=zu:=by rw[b2 0 (by simp) k];rfl
 have z:∀a (f:a+1<b.size),48<=(b[a+1]'f).toNat/\(b[a+1]'f).toNat<=57/\val (d.take (a+1))=10*val (d.take a)+((b[a+1]'f).toNat-48):=λa f=>by
  have j:a<d.length:=by omega
  rw[b2 (a+1) (by simp;omega) f,List.take_succ_eq_append_getElem j,zde];exact⟨(h _ (by simp)).1,(h _ (by simp)).2,rfl⟩
 have t:val (d.take (b.size-1))=n:=by rw[B,Nat.add_sub_cancel,List.take_length];exact o
 show zC _ _ #[z8 ⟨(45::d).toArray⟩] _ _;rw[<-l];have U:b.size<=17:=by omega
 generalize i:(λa=>val (d.take a))=g at*
 have F:∀a,a<=17->g a<100000000000000000:=by rw[<-i];exact E
 have A:∀a (f:a+1<b.size),48<=(b[a+1]'f).toNat/\(b[a+1]'f).toNat<=57/\g (a+1)=10*g a+((b[a+1]'f).toNat-48):=by rw[<-i];exact z
 have u:g (b.size-1)=n:=by rw[<-i];exact t
 have D:g 0=0:=by rw[<-i];rfl
 have q:=hid F;have J:=hid A;have H:=hid u;have K:=hid D;clear F A u D E z t i r b2 l h x y o B;go_enter Tryz.func51,Tryz.ntmps51;go_wp2;go_loop [4,5] (λL p=>∃a:Nat,a<=b.size/\p=zj zm a/\L=zj zm (g (a-1):Nat)) (λ_ p=>b.size-(zL p).toNat)
 case atStart=>exact⟨0,zR _,rfl,by rw[K.out];rfl⟩
 case round=>
  obtain⟨a,j,rfl,rfl⟩:=hrel;by_cases hlt:a<b.size
  ·rcases xD a with rfl|T
   ·go_wp2
    go_round
    case rel=>exact⟨1,by omega,by go_num,rfl⟩
    case measure=>simp[zL];omega
   ·obtain⟨c,rfl⟩:∃c,a=c+1:=⟨a-1,by omega⟩
    obtain⟨c1,c2,s⟩:=J c hlt;have C:=q c (by omega);rw[Nat.add_sub_cancel];generalize g c=V at*
    have G:=hid s;clear s;have M:(48:Int)<=(b[c+1].toNat:Int):=by omega
    have N:(b[c+1].toNat:Int)<=57:=by omega
    have O:((b[c+1].toNat:Int) !=45)=zt:=by simp;omega
    go_wp2;go_round
    case rel=>exact⟨c+2,by omega,by go_num,by rw[show c+2-1=c+1 from rfl,G.out];show zj zm _=zj zm _;congr 1;omega⟩
    case measure=>simp[zL];omega
  ·have v:a=b.size:=by omega
   have I:=hid v;clear v;have m:g (a-1)=n:=by rw[I.out];exact H.out
   have C:n<100000000000000000:=by rw[<-m];exact q (a-1) (by omega)
   rw[m];have R:zm.wrap (-(n:Int))= -(n:Int):=zI _ (by omega);clear m C;go_wp2;go_ret2;exact⟨rfl,rfl⟩
theorem zev (z:Int) (a:(zE z).length<=17) (w:zA):
 zC zF 51 #[St (zE z)] w λe w'=>e=zo (ze #[zj zm z,zg zt])/\w'=w:=by
 rcases zbg z with⟨b,e⟩|⟨b,e⟩<;>rw[e] at a⊢
 ·have:=zsk z.natAbs a w
  rwa [show I z.natAbs=zj zm z by show zj zm _=zj zm _;congr 1;omega] at this
 ·have:=zsz z.natAbs (by omega) (by simp at a;omega) w
  rwa [show-(z.natAbs:Int)=z by omega] at this
theorem zh7 (z:Int) (d:17<(zE z).length) (c:(zE z).length<=1000) (w:zA):
 zC zF 51 #[St (zE z)] w λe w'=>e=zo (ze #[zj zm 0,zg zu])/\w'=w:=by
 obtain⟨b,a⟩:=zzX (⟨(zE z).toArray⟩:ByteArray);have f:b.size=(zE z).length:=by rw[a];rfl
 show zC _ _ #[z8 ⟨(zE z).toArray⟩] _ _;rw[<-a];have g:(17:Int)<b.size:=by omega
 have h:(b.size:Int)<=1000:=by omega
 clear a f d c;go_enter Tryz.func51,Tryz.ntmps51;go_wp2;go_ret2;exact⟨rfl,rfl⟩
theorem zth (x y:Int) (a:(zE x).length<=17) (hy:(zE y).length<=17) (w:zA):
 zC zF 29 #[St (zE x),St (zE y)] w λe w'=>e=zo (ze #[zj zm x,zj zm y,zg zt])/\w'=w:=by
 have c1:=zev x a w;have c2:=zev y hy w;generalize zE x=d at*
 generalize zE y=f at*
 have b:=hid c1;have c:=hid c2;clear c1 c2 a hy;go_enter Tryz.func29,Tryz.ntmps29;go_wp21;refine b.mono ?_;rintro e w' ⟨rfl,rfl⟩;go_wp21;refine c.mono ?_;rintro e g ⟨rfl,rfl⟩;go_wp21;go_ret3;exact⟨rfl,rfl⟩
theorem ztj (x y:Int) (h:17<(zE x).length\/17<(zE y).length) (d:(zE x).length<=1000) (hy:(zE y).length<=1000) (w:zA):
 zC zF 29 #[St (zE x),St (zE y)] w λe w'=>(∃a b,e=zo (ze #[zj zm a,zj zm b,zg zu]))/\w'=w:=by
 by_cases h1:17<(zE x).length
 ·have c1:=zh7 x h1 d w
  generalize zE x=g at*
  generalize zE y=i at*
  have c:=hid c1;clear c1 d hy h h1;go_enter Tryz.func29,Tryz.ntmps29;go_wp21;refine c.mono ?_;rintro e w' ⟨rfl,rfl⟩;go_wp21;go_ret3;exact⟨⟨_,_,rfl⟩,rfl⟩
 ·have c1:=zev x (by omega) w
  have c2:=zh7 y (by omega) hy w;generalize zE x=g at*
  generalize zE y=i at*
  have c:=hid c1;have f:=hid c2;clear c1 c2 d hy h h1;go_enter Tryz.func29,Tryz.ntmps29;go_wp21;refine c.mono ?_;rintro e w' ⟨rfl,rfl⟩;go_wp21;refine f.mono ?_;rintro e j ⟨rfl,rfl⟩;go_wp21;go_ret3;exact⟨⟨_,_,rfl⟩,rfl⟩
end
namespace Limb
theorem zcp {B:Nat} (a:2<=B):∀(i n:Nat),(zaa B n)[i]?.getD 0=n/B^i%B
 |0,n=>by
  by_cases h:n=0
  ·subst h;rw[zaz];simp
  ·rw[zfl a h];simp
 |i+1,n=>by
  by_cases h:n=0
  ·subst h;rw[zaz];simp
  ·rw[zfl a h,List.getElem?_cons_succ,zcp a i,Nat.div_div_eq_div_mul,yO,yP]
theorem znm {B n V:Nat} (e:2<=B) (a:V<B^(n+2)):V/B^(n+1)%B*B+V/B^n%B=V/B^n:=by
 have b:V/B^(n+1)=V/B^n/B:=by rw[yO,Nat.div_div_eq_div_mul]
 have c:V/B^n<B*B:=by
  rw[Nat.div_lt_iff_lt_mul (Nat.pow_pos (by omega))];rw[yO,yO,Nat.mul_assoc,yP] at a;exact a
 have d:V/B^n/B<B:=Nat.div_lt_of_lt_mul c;rw[b,Nat.mod_eq_of_lt d,yP];exact Nat.div_add_mod _ _
theorem zy6 {B n V R:Nat} (c:2<=B) (e:V<B^(n+2)) (_:0<V) (d:R<B*V):
 ((R/B^(n+2)%B*B+R/B^(n+1)%B)*B+R/B^n%B)/(V/B^(n+1)%B*B+V/B^n%B+1)*V<=R/\
 ((R/B^(n+2)%B*B+R/B^(n+1)%B)*B+R/B^n%B)/(V/B^(n+1)%B*B+V/B^n%B+1)<B:=by
 rw[znm c e];have i:0<B^n:=Nat.pow_pos (by omega);have g:R<B^(n+3):=by
  rw[show n+3=(n+2)+1 from rfl,yO,yP];exact Nat.lt_trans d (Nat.mul_lt_mul_of_pos_left e (by omega))
 have h:(R/B^(n+2)%B*B+R/B^(n+1)%B)*B+R/B^n%B=R/B^n:=by
  have a:=znm (n:=n+1) c g;rw[show n+1+1=n+2 from rfl] at a;rw[a];have f:R/B^(n+1)=R/B^n/B:=by rw[yO,Nat.div_div_eq_div_mul]
  rw[f,yP];exact Nat.div_add_mod _ _
 rw[h];have j:V<(V/B^n+1)*B^n:=by rw[yP];exact Nat.lt_mul_div_succ V i
 have k:R/B^n/(V/B^n+1)*(V/B^n+1)<=R/B^n:=Nat.div_mul_le_self _ _;have m:R/B^n*B^n<=R:=Nat.div_mul_le_self _ _;have b:R/B^n/(V/B^n+1)*V<=R:=by
  have a1:=Nat.mul_le_mul_left (R/B^n/(V/B^n+1)) (Nat.le_of_lt j);rw[<-Nat.mul_assoc] at a1;have l:=Nat.mul_le_mul_right (B^n) k;omega
 refine⟨b,?_⟩;exact Nat.lt_of_mul_lt_mul_right (Nat.lt_of_le_of_lt b d)
end Limb
section
open Go.RowKit Go.Shelf Lib Str Limb
attribute [local go_sem] Oper.semAt_some
def outL (N n t:Nat):List Nat:=(List.range N).map λp=>if N-1-p<t then 48+n/10^(N-1-p)%10 else 0
theorem zc0 (N n t:Nat):(outL N n t).length=N:=by simp[outL]
theorem zeh (a n t p:Nat) (b:p<a):(outL a n t)[p]? =zq (if a-1-p<t then 48+n/10^(a-1-p)%10 else 0):=by
 simp[outL,b]
theorem zu6 (N n:Nat):outL N n 0=List.replicate N 0:=by
 apply List.ext_getElem?;intro p;by_cases hp:p<N
 ·rw[zeh N n 0 p hp];simp[hp]
 ·rw[List.getElem?_eq_none (by rw[zc0];omega),List.getElem?_eq_none (by simp;omega)]
theorem zu7 (a n t:Nat) (c:t<a):(outL a n t).set (a-1-t) (48+n/10^t%10)=outL a n (t+1):=by
 apply List.ext_getElem?;intro b;by_cases hp:b<a
 ·rw[zeh a n (t+1) b hp,List.getElem?_set]
  by_cases he:a-1-t=b
  ·rw[if_pos he,if_pos (by rw[zc0];omega)]
   have:a-1-b=t:=by omega
   rw[this,if_pos (by omega)]
  ·rw[if_neg he,zeh a n t b hp]
   congr 1;by_cases h1:a-1-b<t
   ·rw[if_pos h1,if_pos (by omega)]
   ·rw[if_neg h1,if_neg (by omega)]
 ·rw[List.getElem?_eq_none (by simp[zc0];omega),List.getElem?_eq_none (by rw[zc0];omega)]
theorem znt:∀N n,outL N n N=(padD N n).map UInt8.toNat
 |0,_=>rfl
 |N+1,n=>by
  rw[padD,List.map_append,<-znt N (n/10)];apply List.ext_getElem?;intro p;by_cases hp:p<N+1
  ·rw[zeh (N+1) n (N+1) p hp,if_pos (by omega)]
   by_cases h:p<N
   ·rw[List.getElem?_append_left (by rw[zc0];exact h),zeh N (n/10) N p h,if_pos (by omega),Nat.div_div_eq_div_mul,show N+1-1-p=(N-1-p)+1 by omega,yO,yP (10^_) 10]
   ·have:p=N:=by omega
    subst this;rw[List.getElem?_append_right (by rw[zc0];omega),zc0];simp;omega
  ·rw[List.getElem?_eq_none (by rw[zc0];omega),List.getElem?_eq_none (by simp[zc0];omega)]
theorem ztk (n i j:Nat) (d:j<6):n/B6^i%B6/10^j%10=n/10^(6*i+j)%10:=by
 have a:(10:Nat)^(6*i+j)=B6^i*10^j:=by rw[Nat.pow_add,Nat.pow_mul];rfl
 rw[a,<-Nat.div_div_eq_div_mul];generalize n/B6^i=c;have b:B6=10^j*(10*10^(5-j)):=by
  rw[show 10*10^(5-j)=10^(6-j) by rw[show 6-j=(5-j)+1 by omega,yO,yP],<-Nat.pow_add,show j+(6-j)=6 by omega];rfl
 rw[b,Nat.mod_mul_right_div_self,Nat.mod_mul_right_mod]
def RowB (W:zA) (g:Nat) (l:List Nat):Prop:=∃cur:Array Value,W.heap[g]? =zq (zn cur 5 (0,0))/\cur.toList=l.map λx:Nat=>zj .u8 (x:Int)
theorem RowB.cell {a:zA} {g:Nat} {l:List Nat} (h:RowB a g l) {j x:Nat} (d:l[j]? =zq x):a.cell? ⟨g,j,zp⟩=zq (zj .u8 (x:Int)):=by
 obtain⟨e,b,c⟩:=h;rw[cell_of_row _ _ _ _ _ _ b,<-Array.getElem?_toList,c,List.getElem?_map,d];rfl
theorem RowB.frozen {a:zA} {g:Nat} {l:List Nat} (h:RowB a g l) (j:Nat):a.frozen? ⟨g,j,zp⟩=zu:=by
 obtain⟨c,b,_⟩:=h;simp[World.frozen?,b]
theorem RowB.set {a:zA} {g:Nat} {l:List Nat} (h:RowB a g l) (j x:Nat):RowB (a.setCell ⟨g,j,zp⟩ (zj .u8 (x:Int))) g (l.set j x):=by
 obtain⟨b,c,d⟩:=h;refine⟨b.setIfInBounds j (zj .u8 (x:Int)),by simp[World.setCell,Array.getElem?_modify,c],?_⟩;rw[Array.toList_setIfInBounds,d,List.map_set]
theorem infoByte:(Tryz.prog.info? 5).map (λi=>(i.zero,i.size,i.bytes))=zq (zq (zj .u8 0),1,1):=by kernel_rfl
theorem zxj {c:zA} {g a base:Nat} (h:c.ownsRow base 5 1 (z7 (zq ⟨g,0,zp⟩) a a) a ((List.replicate a 0).map λx=>zj .u8 ((x:Nat):Int))):RowB c g (List.replicate a 0):=by
 rcases h.2 with⟨b,_⟩|⟨j,i,d,b,k,f,l,m,n,e⟩
 ·cases b
 ·simp only[Value.slice.injEq,Option.some.injEq,Addr.mk.injEq,and_true,true_and] at b
  obtain⟨rfl,rfl⟩:=b;refine⟨d,f,?_⟩;rw[<-e,xC (by simp;omega)]
theorem ztl (a:List UInt8):((⟨#[45]⟩:ByteArray)++(⟨a.toArray⟩:ByteArray))=⟨(45::a).toArray⟩:=by
 apply ByteArray.ext;rw[ByteArray.data_append];apply Array.toList_inj.1;simp
theorem ztn (m:Bool) (ay:Value) (n:Nat) (a2:0<n) (w:zA) (k:Sl w ay ((zaa B6 n).map I)) (bl:(zaa B6 n).length<=200):
 qJ 84 #[zh #[zg m,ay]] w (St (zE (sgn m n))):=by
 obtain⟨bk,bc,bh,bi,bj⟩:=info_parts infoByte;have bg:=k;obtain⟨G,C,rfl,y, -⟩:=bg;simp only[zV] at*
 have bd:¬(zaa B6 n).length=0:=λY=>(Nat.ne_of_gt a2) ((zbd (B:=B6) (by decide) n).1 (List.length_eq_zero_iff.1 Y));have ap:(((zaa B6 n).length:Int)==0)=zu:=by rw[beq_eq_false_iff_ne];omega
 have F:=zgb (B:=B6) (by decide) n;obtain⟨p,Z⟩:=zzX ((zaa B6 n).length);have M:qL w (w.alloc (zn #[zg m,z7 G (zaa B6 n).length C] 76)):=(zM _ w).alloc (zN _) _;have A:=heap_alloc_new w (zn #[zg m,z7 G (zaa B6 n).length C] 76);obtain⟨f,D⟩:=zzX (w.alloc (zn #[zg m,z7 G (zaa B6 n).length C] 76));rw[<-D] at M A;have aq:f.heap.size=w.heap.size+1:=by rw[D];simp
 have a6:=k.below M;rw[<-Z] at ap bd bl F y A D a6⊢;obtain⟨b,a0⟩:=zzX (6*p);have bt:(6:Int)*(p:Int)=(b:Int):=by omega
 have bs:b<=1200:=by omega
 have ar:n<10^b:=by rw[a0,Nat.pow_mul];exact F
 have V:=hid a0;have U:=hid Z;have ab:=hid ar;have ag:=hid D;have b3:f.cell? ⟨w.heap.size,1,zp⟩=zq (z7 G p C):=by simp[World.cell?,A]
 have ah:∀L:zA,qL f L->L.cell? ⟨w.heap.size,0,zp⟩=zq (zg m)/\L.cell? ⟨w.heap.size,1,zp⟩=zq (z7 G p C):=λL Y=>by
  have b5:=(Y.block w.heap.size (by omega)).trans A;refine⟨?_,?_⟩<;>simp[World.cell?,b5]
 have a9:=hid ah;have J:=hid (⟨M,aq,a6⟩:_/\_/\_);clear a0 Z ar F D ah M aq a6 k y A;go_enter Tryz.func84,Tryz.ntmps84;go_wp2_with (at_make;rw[<-ag.out];refine wpList_make_full _ rfl _ _ 200 rfl f.heap.size 5 bk (zj .u8 0) 1 Tryz.underlying200 bc bh bi zm zm _ _ b rfl rfl (by omega) (by omega) (by rw[bj];omega) (by unfold maxLen;omega) (zN _) ?_);intro bn a3 ao;rw[toList_madeCells_one,<-show(List.replicate b 0).map (λr:Nat=>zj .u8 (r:Int))=List.replicate b (zj .u8 0) by simp] at a3;have c:=zxj a3;rw[<-zu6 b n] at c;have aj:qL f bn:=(zM _ _).grown ao (zN _) (λ_ x=>by cases x);have bb:=(Array.getElem?_eq_some_iff.1 c.choose_spec.1).1;clear a3 ao b3;obtain⟨h,a1⟩:=zzX f.heap.size;rw[<-a1] at c⊢;have a':=hid a1;clear a1 bb;go_wp2;go_loopw [4] (λo wr=>∃d:Nat,d<=p/\o=zj zm d/\RowB wr h (outL b n (6*d))/\zB f.heap.size f wr) (λo _=>p-(zL o).toNat)
 case atStart=>exact⟨0,zR _,rfl,c,aj⟩
 case round=>
  clear c aj;obtain⟨d,b',rfl,c,i⟩:=hrel;obtain⟨b2,c1⟩:=a9 _ i;by_cases F:d<p
  ·have a5:=J.2.2.below i
   rw[U.out] at a5;obtain⟨bo,c6,rfl, -, -,y⟩:=a5.at (i:=d) (by rw[<-U.out];exact F);rw[zcp (B:=B6) (by decide)] at y;obtain⟨H,Q⟩:=zzX (n/B6^d%B6);rw[<-Q] at y;have av:H<1000000:=by rw[Q];exact Nat.mod_lt _ (by decide)
   have b0:=hid Q;have K:=hid c;have ac:=hid i;clear a5 Q c i;go_wp2;go_loopw [5,6] (λb1 o az=>∃a:Nat,a<=6/\o=zj zm ((a:Int)+1)/\b1=zj zm ((H/10^a:Nat):Int)/\RowB az h (outL b n (6*d+a))/\zB f.heap.size f az) (λ_ o _=>7-(zL o).toNat)
   case atStart=>exact⟨0,by omega,rfl,by simp,K.out,ac.out⟩
   case round=>
    clear K ac b2 c1 y;obtain⟨a,E,rfl,rfl,c,i⟩:=hrel;by_cases hj6:a<6
    ·obtain⟨t,O⟩:=zzX (6*d+a)
     have bf:t<b:=by have:=V.out;omega
     obtain⟨q,a4⟩:=zzX (b-1-t);have c0:(b:Int)-6*d-((a:Int)+1)=(q:Int):=by omega
     have be:q<b:=by omega
     rw[<-O] at c;have an:=c.cell (zeh b n t q be);rw[if_neg (show ¬b-1-q<t by omega)] at an;have bz:=c.frozen q;have N:=c.set q (48+n/10^t%10);rw[a4,zu7 b n t bf,<-a4] at N;obtain⟨r,k⟩:=zzX (H/10^a);have c2:r<1000000:=Nat.lt_of_le_of_lt (by rw[k];exact Nat.div_le_self _ _) av;obtain⟨R,aw⟩:=zzX (48+r%10);have ax:48+n/10^t%10=R:=by rw[aw,k,b0.out,ztk n d a hj6,O]
     rw[ax] at N;have c4:(48:Int)+(r:Int)%10=(R:Int):=by omega
     have c3:R<=57:=by omega
     have au:r/10=H/10^(a+1):=by rw[k,Nat.div_div_eq_div_mul,yO]
     have W:=hid (⟨N,au,O⟩:_/\_/\_);have T:=hid (i.setCell (p:=⟨h,q,zp⟩) (by show f.heap.size<=h;rw[a'.out];exact zN _) (zj .u8 (R:Int)));rw[<-k];clear N au aw ax k a4 O c i av;go_wp2;go_roundw
     case rel=>exact⟨a+1,by omega,by go_num,by rw[<-W.2.1];show zj zm _=zj zm _;congr 1,by rw[show 6*d+(a+1)=6*d+a+1 by omega,<-W.2.2];exact W.1,T.out⟩
     case measure=>simp[zL];omega
    ·obtain rfl:a=6:=by omega
     have K:=hid c;have T:=hid i;clear c i;generalize H/10^6=c7 at*
     go_wp2;go_roundw
     case rel=>exact⟨d+1,by omega,by go_num,by rw[show 6*(d+1)=6*d+6 by omega];exact K.out,T.out⟩
     case measure=>simp[zL];omega
  ·obtain rfl:d=p:=by omega
   have b8:6*d=b:=V.symm;rw[b8,znt] at c;have b7:=zan n;obtain⟨u,s⟩:=zzX ((zD n).length);have z:=zjv b n (by omega) ab.out;rw[<-s] at z;have br:u<=b:=by
    have b6:=zph b n;rw[z,List.length_append,List.length_replicate,<-s] at b6;omega
   have ak:1<=u:=by have:=zbn (n:Int);unfold digs at this;rw[s];simpa using this
   obtain⟨g,al⟩:=zzX (b-u);rw[<-al] at z;have ai:∀e,e<g->wr.cell? ⟨h,e,zp⟩=zq (zj .u8 48):=λe a7=>by
    have:=c.cell (j:=e) (x:=48) (by rw[z,List.getElem?_map,List.getElem?_append_left (by simp;exact a7)];simp[a7]);exact this
   have X:∀a (E:a<(zD n).length),wr.cell? ⟨h,g+a,zp⟩=zq (zj .u8 ((zD n)[a].toNat:Int)):=λa E=>by
    have:=c.cell (j:=g+a) (x:=(zD n)[a].toNat) (by rw[z,List.getElem?_map,List.getElem?_append_right (by simp)];simp[E]);exact this
   have ba:∃j,(zD n)[0]? =zq j/\j.toNat≠48:=by
    cases hdd:zD n with
    |nil=>rw[s,hdd] at ak;simp at ak
    |cons j bm=>exact⟨j,rfl,zzE a2 j bm hdd⟩
   obtain⟨j,am,b9⟩:=ba;have bp:wr.cell? ⟨h,g,zp⟩=zq (zj .u8 (j.toNat:Int)):=by
    have:=X 0 (by omega);rw[Nat.add_zero] at this;rw[this]
    have x:(zD n)[0]'(by omega)=j:=by
     have:=yB (l:=zD n) (i:=0) (by omega);rw[am] at this;exact(Option.some.inj this).symm
    rw[x]
   have aa:=hid ai;have S:=hid (run_convert_bytes_back (P:=zF) wr 200 9 5 ⟨h,g,zp⟩ u (zD n) Tryz.underlying200 Tryz.underlying5 Tryz.underlying9 (λa E=>by
    have:((⟨h,g,zp⟩:Addr).add a)=⟨h,g+a,zp⟩:=by simp only[Addr.add];split<;>simp_all
    rw[this];exact X a E))
   rw[<-s] at S;have ad:=hid (J.1.trans (i.mono (by have:=J.2.1;omega)));have bv:(((j.toNat:Nat):Int)==48)=zu:=by rw[beq_eq_false_iff_ne];omega
   have bu:g+u=b:=by omega
   have ae:=hid s;clear c ai X z am s al b9 b7 ab;go_wp2;go_loop [3] (λa8=>∃e v:Nat,e<=g/\e+v=b/\a8=z7 (zq ⟨h,e,zp⟩) v v) (λa8=>zqm a8)
   case atStart=>exact⟨0,b,zR _,by omega,rfl⟩
   case round=>
    obtain⟨e,v,a7,c5,rfl⟩:=hrel;by_cases hzZ:e<g
    ·have an:=aa e hzZ
     go_wp2;go_round
     case rel=>exact⟨e+1,v-1,by omega,by omega,rfl⟩
     case measure=>simp[zqm];omega
    ·obtain rfl:e=g:=by omega
     obtain rfl:v=u:=by omega
     have bq:=S.out;have af:=hid (show zE (sgn m n)=if m then 45::zD n else zD n by
      cases m
      ·rw[zkw];exact Str.zad n
      ·rw[zxb];exact Str.zga n a2)
     have bw:(zD n).length<=1200:=by rw[<-ae.out];omega
     clear S aa a9 J ag V U ae ap;generalize zD n=b4 at*
     have bx:¬(9223372036854775807<1+b4.length):=by omega
     cases m
     ·go_wp2
      go_ret;exact⟨by rw[af.out];rfl,ad.out⟩
     ·go_wp2
      go_ret;refine⟨?_,ad.out⟩;have x:=af.out;simp only[if_true] at x;rw[x];show Ending.returned (z8 (_++_))=_;rw[ztl]
theorem z92 (a n t j:Nat) (e:t<=a) (c:j<t):(outL a n t)[a-t+j]? =zq (((padD t n)[j]'(by rw[zph];exact c)).toNat):=by
 rw[zeh a n t (a-t+j) (by omega),if_pos (by omega)];have d:=znt t n;have b:=zeh t n t j c;rw[if_pos (by omega),d,List.getElem?_map,yB (by rw[zph];exact c)] at b;rw[show a-1-(a-t+j)=t-1-j by omega];simp only[Option.map_some,Option.some.injEq] at b;rw[b]
theorem z94 {n t:Nat} (h:n/10^t=0) (g:0<t) (b:t=1\/n/10^(t-1)≠0):padD t n=zD n:=by
 have f:n<10^t:=by
  rcases Nat.lt_or_ge n (10^t) with a|a
  ·exact a
  ·have:=Nat.div_pos a (Nat.pow_pos (show 0<10 by omega));omega
 rw[zjv t n g f];have e:t-(zD n).length=0:=by
  rcases b with rfl|b
  ·have:=zbn (n:Int);unfold digs at this;simp at this;omega
  ·have i:10^(t-1)<=n:=by
    rcases Nat.lt_or_ge n (10^(t-1)) with a|a
    ·exact absurd (Nat.div_eq_of_lt a) b
    ·exact a
   rcases Nat.lt_or_ge (zD n).length t with d|d
   ·rcases xD (t-1) with c|c
    ·have:=zbn (n:Int);unfold digs at this;simp at this;omega
    ·have:=(zaf n (t-1) c).1 (by omega)
     omega
   ·omega
 rw[e];rfl
theorem z16 (n:Nat) (i:n<9000000000000000000) (w:zA):
 qJ 148 #[I n] w (St (zD n)):=by
 obtain⟨a2,V,Z,a0,a1⟩:=info_parts infoByte;have K:n/10^19=0:=Nat.div_eq_of_lt (Nat.lt_trans i (by decide));go_enter Tryz.func148,Tryz.ntmps148;go_wp2_with (at_make;refine wpList_make_full _ rfl _ _ 200 rfl w.heap.size 5 a2 (zj .u8 0) 1 Tryz.underlying200 V Z a0 zm zm _ _ 20 rfl rfl (by omega) (by omega) (by rw[a1];omega) (by unfold maxLen;omega) (zN _) ?_);intro a3 y L;rw[toList_madeCells_one,<-show(List.replicate 20 0).map (λd:Nat=>zj .u8 (d:Int))=List.replicate 20 (zj .u8 0) by simp] at y;have c:=zxj y;rw[<-zu6 20 n] at c;have F:qL w a3:=(zM _ _).grown L (zN _) (λ_ u=>by cases u);clear y L;obtain⟨e,x⟩:=zzX w.heap.size;rw[<-x] at c⊢;have R:=hid x;clear x;have s:=hid K;clear K;have D:=hid i;go_wp2;go_loopw [0,4] (λS C wr=>∃a:Nat,a<=18/\S=zj zm ((n/10^a:Nat):Int)/\C=zj zm ((20:Int)-a)/\RowB wr e (outL 20 n a)/\zB w.heap.size w wr/\(a=0\/n/10^a≠0)) (λ_ C _=>(zL C).toNat)
 case atStart=>exact⟨0,by omega,by simp,rfl,c,F,.inl rfl⟩
 case round=>
  clear c F;obtain⟨a,ab,rfl,rfl,c,v,o⟩:=hrel;obtain⟨b,p⟩:=zzX (20-1-a);have aa:(20:Int)-a-1=(b:Int):=by omega
  have W:b<20:=by omega
  have U:=c.cell (zeh 20 n a b W);rw[if_neg (show ¬20-1-b<a by omega)] at U;have a7:=c.frozen b;have g:=c.set b (48+n/10^a%10);rw[p,zu7 20 n a (by omega),<-p] at g;obtain⟨d,h⟩:=zzX (n/10^a);rw[<-h] at g o⊢;have ad:d<9000000000000000000:=Nat.lt_of_le_of_lt (by rw[h];exact Nat.div_le_self _ _) i;obtain⟨r,B⟩:=zzX (48+d%10);rw[<-B] at g;have ag:(48:Int)+(d:Int)%10=(r:Int):=by omega
  have af:r<=57:=by omega
  have f:d/10=n/10^(a+1):=by rw[h,Nat.div_div_eq_div_mul,yO]
  have m:=v.setCell (p:=⟨e,b,zp⟩) (by show w.heap.size<=e;rw[R.out];exact zN _) (zj .u8 (r:Int));obtain⟨q,A⟩:=zzX (d/10);have ae:(d:Int)/10=(q:Int):=by omega
  have Y:q<9000000000000000000:=by omega
  rw[<-A] at f;by_cases h0:q=0
  ·have z:padD (a+1) n=zD n:=z94 (by rw[<-f];exact h0) (by omega) (by
    rcases o with l|l
    ·exact .inl (by omega)
    ·exact .inr (by rw[Nat.add_sub_cancel,<-h];exact l))
   have M:(zD n).length=a+1:=by rw[<-z,zph]
   have H:=run_convert_bytes_back (P:=zF) (wr.setCell ⟨e,b,zp⟩ (zj .u8 (r:Int))) 200 9 5 ⟨e,b,zp⟩ (a+1) (zD n) Tryz.underlying200 Tryz.underlying5 Tryz.underlying9 (λj a8=>by
    have u:((⟨e,b,zp⟩:Addr).add j)=⟨e,b+j,zp⟩:=by simp only[Addr.add];split<;>simp_all
    have E:=z92 20 n (a+1) j (by omega) (by omega);rw[show 20-(a+1)+j=b+j by omega] at E;have T:=g.cell E;rw[u,T];simp only[z])
   rw[M] at H;obtain⟨t,G⟩:=zzX (a+1);rw[<-G] at H;have a5:(20:Int)-b=(t:Int):=by omega
   have a6:20-b=t:=by omega
   have a9:b+t=20:=by omega
   subst h0;have O:=hid m;clear g f B h p c v m z M o G A i D s Y;generalize J:zD n=a4 at*
   have Q:=hid J;clear J;go_wp2;go_ret;exact⟨by rw[Q.out];rfl,O.out⟩
  ·have ac:((q:Int)==0)=zu:=by rw[beq_eq_false_iff_ne];omega
   have X:a+1<=18:=by
    rcases Nat.lt_or_ge a 18 with l|l
    ·omega
    ·have:a=18:=by omega
     rw[this] at f;rw[f] at h0;exact absurd s h0
   have k:=hid (⟨g,f,m⟩:_/\_/\_);have N:=hid h0;clear g f B h p c v m o h0 A i D s;go_wp2;go_roundw
   case rel=>exact⟨a+1,X,by rw[<-k.2.1],by show zj zm _=zj zm _;congr 1;omega,k.1,k.2.2,.inr (by rw[<-k.2.1];exact N.out)⟩
   case measure=>simp[zL];omega
theorem ycm (n:Int) (D:Nat) (g:0<D):zE (n/(Int.gcd n (D:Int):Int))=(if n<0 then[45] else[])++zD (n.natAbs/Nat.gcd n.natAbs D):=by
 have i:Int.gcd n (D:Int)=Nat.gcd n.natAbs D:=by rw[Int.gcd,Int.natAbs_natCast]
 rw[i];obtain⟨b,d⟩:=zzX (Nat.gcd n.natAbs D);rw[<-d];have j:0<b:=by rw[d];exact Nat.gcd_pos_of_pos_right _ g
 obtain⟨a,e⟩:∃a,n.natAbs=b*a:=by have:=Nat.gcd_dvd_left n.natAbs D;rw[<-d] at this;exact this
 rw[e,Nat.mul_div_cancel_left _ j];by_cases h:n<0
 ·have c:n= -((b*a:Nat):Int):=by omega
  have k:0<a:=by
   rcases xD a with rfl|f
   ·simp at e;omega
   ·exact f
  rw[if_pos h,c,show-((b*a:Nat):Int)=(b:Int)*(-(a:Int)) by rw[xE,Int.mul_neg],Int.mul_ediv_cancel_left _ (by omega),Str.zga a k];rfl
 ·have c:n=((b*a:Nat):Int):=by omega
  rw[if_neg h,c,xE,Int.mul_ediv_cancel_left _ (by omega),Str.zad];rfl
theorem z89 (n:Int) (D:Nat) (a:0<D):numS (Rat.divInt n (D:Int))=(if n<0 then[45] else[])++zD (n.natAbs/Nat.gcd n.natAbs D)++(if D/Nat.gcd n.natAbs D=1 then[] else 47::zD (D/Nat.gcd n.natAbs D)):=by
 rw[zif n D (by omega),ycm n D a];have b:Int.gcd n (D:Int)=Nat.gcd n.natAbs D:=by rw[Int.gcd,Int.natAbs_natCast]
 rw[b,<-Int.natCast_ediv,Str.zad];congr 1;by_cases h:D/Nat.gcd n.natAbs D=1
 ·rw[if_pos (by omega),if_pos h]
 ·rw[if_neg (by omega),if_neg h]
theorem yci {n:Nat} (h:n<9000000000000000000):(zD n).length<=19:=(zaf n 19 (by omega)).2 (Nat.lt_trans h (by decide))
theorem ybf (a b:Nat) (ha:a<9000000000000000000) (n:b<9000000000000000000) (w:zA):
 zC zF 45 #[I a,I b] w λe w'=>∃g,e=zo (I (Nat.gcd a b))/\w'=w.drewN g:=by
 obtain⟨m,j⟩:=zzX (Nat.gcd a b);rw[<-j];have r:=hid j;clear j;go_enter Tryz.func45,Tryz.ntmps45;go_wp2;go_loopw [0,1] (λv l wr=>∃d c:Nat,v=I d/\l=I c/\Hid (Nat.gcd d c=m)/\d<9000000000000000000/\c<9000000000000000000/\∃g,wr=w.drewN g)
  (λ_ l _=>(zL l).toNat)
 case atStart=>exact⟨a,b,rfl,rfl,r.symm,ha,n,0,rfl⟩
 case round=>
  clear ha n;obtain⟨d,c,rfl,rfl,o,B,u,g,rfl⟩:=hrel;by_cases h0:c=0
  ·subst h0
   have p:d=m:=by have:=o.out;rw[Nat.gcd_zero_right] at this;exact this
   have t:=hid p;clear p;go_wp2;go_ret;exact⟨g,by rw[t.out];rfl,rfl⟩
  ·have y:((c:Int) !=0)=zt:=by simp;omega
   obtain⟨h,f⟩:=zzX (d%c);have z:h<c:=by rw[f];exact Nat.mod_lt _ (by omega)
   have k:=zh1 d c;rw[<-f] at k;have A:zm.wrap ((d:Int).tmod c)=(h:Int):=by
    rw[Int.tmod_eq_emod_of_nonneg (by omega),<-Int.natCast_emod,<-f];exact zI _ (by omega)
   have q:((d:Int).tmod c)=(h:Int):=by rw[Int.tmod_eq_emod_of_nonneg (by omega),<-Int.natCast_emod,<-f]
   have s:=hid k;have i:=hid q;clear k f q;go_wp2
   (refine wp_region_quiet_lit (by kernel_rfl) (by kernel_rfl) (WQ.out ?_);(repeat(first|(apply WQ.read (by rfl);(focus(rintro x ⟨c,rfl⟩;go_simp;try with_reducible rfl));try simp only[zzQ])|(apply WQ.skip (by rfl);try simp only[zzQ])));refine WQ.nil ?_;rintro _ ⟨C,rfl⟩)
   go_wp2;go_roundw
   case rel=>exact⟨c,h,rfl,by first|rfl|(rw[i.out])|(show zj zm _=zj zm _;congr 1;have:=i.out;rw[<-this,Int.tmod_eq_emod_of_nonneg (by omega)]),s.trans o.out,u,by omega,_,World.drewN_drewN _ _ _⟩
   case measure=>first|(show((d:Int).tmod c).toNat<(c:Int).toNat;rw[i.out];omega)|(simp[zL];omega)
theorem z1w (n:Int) (D:Nat) (F:n.natAbs<9000000000000000000) (q:0<D) (M:D<9000000000000000000) (w:zA):
 qJ 109 #[zj zm n,I D] w (St (numS (Rat.divInt n (D:Int)))):=by
 rw[z89 n D q];have l:=λe=>ybf n.natAbs D F M e;obtain⟨a,m⟩:=zzX (Nat.gcd n.natAbs D);rw[<-m] at l⊢;have P:0<a:=by rw[m];exact Nat.gcd_pos_of_pos_right _ q
 have Q:a<=D:=by rw[m];exact Nat.gcd_le_right _ q
 have u:n.natAbs/a<=n.natAbs:=Nat.div_le_self _ _;have G:D/a<=D:=Nat.div_le_self _ _;have r:=λe=>z16 (n.natAbs/a) (by omega) e;have s:=λe=>z16 (D/a) (by omega) e;have S:=yci (n:=n.natAbs/a) (by omega);have T:=yci (n:=D/a) (by omega);obtain⟨f,ha⟩:=zzX n.natAbs;obtain⟨y,v⟩:=zzX (n.natAbs/a);obtain⟨b,x⟩:=zzX (D/a);have a0:(f:Int)/(a:Int)=(y:Int):=by rw[<-Int.natCast_ediv,v,ha]
 have a1:(D:Int)/(a:Int)=(b:Int):=by rw[<-Int.natCast_ediv,x]
 rw[<-v] at r S u⊢;rw[<-x] at s T G⊢;rw[<-ha] at l u F;have W:¬(a:Int)=0:=by omega
 have Y:y<9000000000000000000:=by omega
 have Z:b<9000000000000000000:=by omega
 have C:=hid l;have A:=hid r;have B:=hid s;clear l r s m Q u G v x P;generalize N:zD y=c at*
 generalize O:zD b=E at*
 clear N O;by_cases hneg:n<0
 ·have t:zm.wrap (-n)=(f:Int):=by rw[show-n=(f:Int) by omega];exact zI _ (by omega)
  rw[if_pos hneg];clear ha;go_enter Tryz.func109,Tryz.ntmps109;go_wp21;refine(C w).mono ?_;rintro H k ⟨U,rfl,j⟩;have g:qL w k:=by rw[j];exact zzD (zM _ w) _
  have o:=hid g;clear g j;go_wp21;refine zzM (A k) λz h=>?_;have d:=qT o h;clear h;have J:¬(9223372036854775807<1+c.length):=by omega
  by_cases hr1:b=1
  ·subst hr1
   go_wp21;go_ret;refine⟨?_,d.out⟩;show Ending.returned (z8 _)=Ending.returned (z8 _);congr 2
   try(apply ByteArray.ext;apply Array.toList_inj.1;simp[ByteArray.data_append])
  ·have R:((b:Int)==1)=zu:=by rw[beq_eq_false_iff_ne];omega
   have K:¬(9223372036854775807<1+c.length+1):=by omega
   have L:¬(9223372036854775807<1+c.length+1+E.length):=by omega
   go_wp21;refine zzM (B z) λV i=>?_;have p:=qT d i;clear i;go_wp21;go_ret;refine⟨?_,p.out⟩;show Ending.returned (z8 _)=Ending.returned (z8 _);congr 2;apply ByteArray.ext;apply Array.toList_inj.1;simp[ByteArray.data_append]
 ·have t:n=(f:Int):=by omega
  have X:¬(f:Int)<0:=by omega
  rw[if_neg hneg,t];clear ha t hneg;go_enter Tryz.func109,Tryz.ntmps109;go_wp21;refine(C w).mono ?_;rintro H k ⟨U,rfl,j⟩;have g:qL w k:=by rw[j];exact zzD (zM _ w) _
  have o:=hid g;clear g j;go_wp21;refine zzM (A k) λz h=>?_;have d:=qT o h;clear h;have J:¬(9223372036854775807<c.length):=by omega
  by_cases hr1:b=1
  ·subst hr1
   go_wp21;go_ret;refine⟨?_,d.out⟩;show Ending.returned (z8 _)=Ending.returned (z8 _);congr 2
   try(apply ByteArray.ext;apply Array.toList_inj.1;simp[ByteArray.data_append])
  ·have R:((b:Int)==1)=zu:=by rw[beq_eq_false_iff_ne];omega
   have K:¬(9223372036854775807<c.length+1):=by omega
   have L:¬(9223372036854775807<c.length+1+E.length):=by omega
   go_wp21;refine zzM (B z) λV i=>?_;have p:=qT d i;clear i;go_wp21;go_ret;refine⟨?_,p.out⟩;show Ending.returned (z8 _)=Ending.returned (z8 _);congr 2;apply ByteArray.ext;apply Array.toList_inj.1;simp[ByteArray.data_append]
end
section
open Go.RowKit Lib Str Limb
theorem zto (a7:Value) (a:List Nat) (d:Nat) (w:zA) (ha:Sl w a7 (a.map I)) (au:a.length<=1000) (a4:zal B6 a) (A:0<d) (S:d<B6):
 zC zF 127 #[a7,I d] w (λe w'=>∃a5 a6,e=zo (ze #[a5,a6])/\Sl w' a5 ((zaa B6 (valL B6 a/d)).map I)/\Sl w' a6 ((zaa B6 (valL B6 a%d)).map I)/\zB w.heap.size w w'):=by
 obtain⟨ar,ag,ao,ap,aq⟩:=info_parts zdv;have R:=ha;obtain⟨bh,a',rfl,ae,af⟩:=ha;have a9:=hid R;clear R af ae;have v:=hid a4;clear a4;simp only[zV] at*
 have b9:d<1000000:=S;clear S;have ba:¬(d:Int)=0:=by omega
 go_enter Tryz.func127,Tryz.ntmps127;go_wp2_with (at_make;refine wpList_make_full _ rfl _ _ 74 rfl w.heap.size 3 ar (zj zm 0) 1 Tryz.underlying74 ag ao ap zm zm _ _ a.length rfl rfl (by omega) (by omega) (by rw[aq];omega) (by unfold maxLen;omega) (zN _) ?_);intro aw E U;rw[toList_madeCells_one,<-show(List.replicate a.length 0).map I=List.replicate a.length (zj zm 0) by simp] at E;obtain⟨h, -⟩:=Row.of_own E;have Q:qL w aw:=(zM _ _).grown U (zN _) (λ_ e=>by cases e);clear E U;obtain⟨g,z⟩:=zzX a.length;obtain⟨P,C⟩:=zzX w.heap.size;rw[<-C] at h⊢;have aa:=hid C;clear C;rw[<-z] at h⊢;have n:=hid z;have b4:g<=1000:=by omega
 clear z au;go_wp2;go_loopw [7,8] (λac o wr=>∃b:Nat,b<=g/\o=zj zm ((g:Int)-1-b)/\ac=I (za8 B6 d a b).2/\Row wr P g (za8 B6 d a b).1/\zB w.heap.size w wr)
  (λ_ o _=>(zL o+1).toNat)
 case atStart=>exact⟨0,zR _,by simp,rfl,by rw[za8,<-n.out];exact h,Q⟩
 case round=>
  clear h Q;obtain⟨b,ai,rfl,rfl,h,q⟩:=hrel;obtain⟨m,a3,av, -⟩:=zeo (B:=B6) A v b (by rw[<-n.out];exact ai);by_cases hlt:b<g
  ·obtain⟨f,r⟩:=zzX (g-1-b)
   have W:(g:Int)-1-b=(f:Int):=by omega
   rw[W];have X:f<a.length:=by rw[<-n.out];omega
   obtain⟨az,bg,rfl,b5,b6,b8⟩:=(a9.below q).at X;have a2:za8 B6 d a (b+1)=zdl B6 d (za8 B6 d a b) f (a[f]?.getD 0):=by rw[r,n.out];rfl
   have k:=zaj v (by decide) f;have bf:a[f]?.getD 0<1000000:=k;have b3:=hid r;have bc:f<g:=by omega
   have ah:f=g-1-b:=r;have V:(f:Int)-1=(g:Int)-1-((b+1:Nat):Int):=by omega
   have ab:=hid V;have Y:f<(za8 B6 d a b).1.length:=by rw[m];exact X
   have N:=hid a2;clear a2 k r ah V m a3 W;generalize za8 B6 d a b=G at*
   obtain⟨u,c⟩:=G;dsimp only at*
   generalize a[f]?.getD 0=i at*
   obtain⟨j,D⟩:=zzX (i+c*1000000);have Z:(c:Int)*1000000+i=(j:Int):=by omega
   have b0:zm.wrap ((c:Int)*1000000)=(c:Int)*1000000:=zI _ (by omega);have b1:zm.wrap ((c:Int)*1000000+i)=(j:Int):=by rw[Z];exact zI _ (by omega)
   obtain⟨l,t⟩:=zzX (j/d);obtain⟨p,s⟩:=zzX (j%d);have ak:l<=j:=by rw[t];exact Nat.div_le_self _ _
   have aj:p<d:=by rw[s];exact Nat.mod_lt _ A
   have be:l<2000000000000:=by
    have:=Nat.mul_le_mul (show c<=999999 by omega) (zN 1000000);omega
   have bd:p<1000000:=by omega
   have b2:(j:Int)/(d:Int)=(l:Int):=by rw[<-Int.natCast_ediv,<-t]
   have ad:(j:Int)%(d:Int)=(p:Int):=by rw[<-Int.natCast_emod,<-s]
   have b7:=h.cell (getD_some Y);have bb:=h.frozen f;have K:=hid h;have J:=hid (⟨by rw[t,D],by rw[s,D]⟩:l=(i+c*1000000)/d/\p=(i+c*1000000)%d);clear h Y D Z t s ak aj;generalize u[f]?.getD 0=bi at*
   go_wp2;go_roundw
   case rel=>
    refine⟨b+1,by omega,by rw[<-ab.out],by rw[N.out,ad];show I p=I ((i+c*B6)%d);rw[J.2];rfl,?_,?_⟩
    ·rw[N.out]
     show Row _ P g (u.set f ((i+c*B6)/d));rw[show(i+c*B6)/d=l from J.1.symm];exact Row.set K f l
    ·exact q.setCell (by rw[aa.out];exact zN _) _
   case measure=>simp[zL]
  ·obtain rfl:b=g:=by omega
   have T:(b:Int)-1-b= -1:=by omega
   rw[T];obtain⟨x,y⟩:=zjq (B:=B6) (by decide) A v.out;rw[<-n.out] at x y m;have F:=h.sl;rw[m] at F;have al:(za8 B6 d a b).2<1000000:=by omega
   have H:=hid (⟨x,y⟩:_/\_);have M:=hid F;have L:=hid m;have K:=hid h;clear x y m a3 av F h T;generalize a0:za8 B6 d a b=G at*
   obtain⟨u,c⟩:=G;dsimp only at*
   have ay:=hid a0;clear a0;go_wp21;refine(zdq _ _ _ u wr M (by rw[L.out];omega)).mono ?_;rintro e ax ⟨rfl,rfl⟩;go_wp21;have O:qL wr (wr.alloc (zn #[I c] 3)):=(zM _ wr).alloc (zN _) _;have a8:=heap_alloc_new wr (zn #[I c] 3);have a1:Sl (wr.alloc (zn #[I c] 3)) (z7 (zq ⟨wr.heap.size,0,zp⟩) 1 1) ([c].map I):=by
    refine⟨_,_,rfl,zN _,λo i k=>⟨_,_,rfl,?_⟩⟩
    match o,k with
    |0,k=>rw[<-k];exact cell_of_row _ _ _ _ _ _ a8
   refine zzM (zdq _ _ _ [c] _ a1 (by simp)) λax am=>?_;have an:=am.symm;subst an;go_wp21;go_ret2;refine⟨_,_,rfl,?_,?_,q.trans (O.mono q.size)⟩
   ·rw[<-H.1]
    exact(Sl.trim_at M L.out).below O
   ·rw[<-H.2,<-zpg (B:=B6) (by decide) (show c<B6 from al)]
    exact Sl.trim_at (n:=1) a1 rfl
end
end Go.Proofs.YtjmljcdbjakefaaGreatDoor
