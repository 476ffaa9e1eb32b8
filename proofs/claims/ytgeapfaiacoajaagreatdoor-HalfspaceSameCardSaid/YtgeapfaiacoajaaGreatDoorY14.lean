/- vector: (spot).cross; boxes of three cells laid and written in a drawn region. -/
import Derived.Test.YtgeapfaiacoajaaGreatDoorY13
set_option maxRecDepth 100000
set_option maxHeartbeats 8000000
open Go renaming World → zA, Calls → zC
open Go.RowKit renaming Below → zB, intOf → zL
open Go.Proofs.Tryz renaming prog → zF
open Go.World renaming alloc_heap_new → zG
open Go.IntWalk renaming i64_in → zI
open Go.Joins renaming cell_of_block → zJ, block_setCell → zK
open Go.RowKit.Below renaming refl → zM, heap_setCell → yE
open Nat renaming zero_le → zR, pos_of_ne_zero → yS
open List renaming mem_cons_self → yD
namespace Go.Proofs.YtgeapfaiacoajaaGreatDoor
section
open Go.RowKit Go.Shelf Lib Str Limb
attribute [local go_sem] Oper.semAt_some
structure BoxS (n X0 Y0:Nat) (z:Array Value) (c:Nat->Array Value) (t:TypeId) (w:zA) (q:Nat->Nat) (f:Nat->Bool) (W:zA):Prop where
 bel:qL w W
 lo:∀i,i<n->f (X0+i)=true->w.heap.size<=q i
 ne:∀i j,i<n->j<n->i≠j->f (X0+i)=true->f (X0+j)=true->q i≠q j
 blk:∀i,i<n->f (X0+i)=true->W.heap[q i]? =some (.cells (if f (Y0+i)=true then c i else z) t (0,0))
section
variable {n X0 Y0:Nat} {z:Array Value} {c:Nat->Array Value} {t:TypeId} {w W W':zA} {q:Nat->Nat} {f:Nat->Bool}
theorem BoxS.start (hb:qL w W):BoxS n X0 Y0 z c t w q (λ_=>false) W:=⟨hb,λ_ _ k=>(by cases k),λ_ _ _ _ _ k=>(by cases k),λ_ _ k=>(by cases k)⟩
theorem BoxS.step (h:BoxS n X0 Y0 z c t w q f W) (k:Nat) (h1:k<X0\/X0+n<=k) (h2:k<Y0\/Y0+n<=k):BoxS n X0 Y0 z c t w q (λj=>if k=j then true else f j) W:=by
 have e1:∀i,i<n->(if k=X0+i then true else f (X0+i))=f (X0+i):=λi hi=>if_neg (by omega);have e2:∀i,i<n->(if k=Y0+i then true else f (Y0+i))=f (Y0+i):=λi hi=>if_neg (by omega);exact⟨h.bel,λi hi=>by simp only[e1 i hi];exact h.lo i hi,λi j hi hj=>by simp only[e1 i hi,e1 j hj];exact h.ne i j hi hj,λi hi=>by simp only[e1 i hi,e2 i hi];exact h.blk i hi⟩
theorem BoxS.next (h:BoxS n X0 Y0 z c t w q f W) (hb:qL W W'):BoxS n X0 Y0 z c t w q f W':=
 ⟨h.bel.trans (hb.mono h.bel.size),h.lo,h.ne,λi hi k=>zac hb _ _ _ _ (h.blk i hi k)⟩
theorem BoxS.new (h:BoxS n X0 Y0 z c t w q f W) (i:Nat) (hi:i<n) (h0:f (Y0+i)=false) (hX:X0+n<=Y0):BoxS n X0 Y0 z c t w (λj=>if j=i then W.heap.size else q j) (λj=>if X0+i=j then true else f j) (W.alloc (.cells z t)):=by
 have hb:qL W (W.alloc (.cells z t)):=(zM _ W).alloc (Nat.le_refl _) _;have e2:∀k,k<n->(if X0+i=Y0+k then true else f (Y0+k))=f (Y0+k):=λk hk=>if_neg (by omega);have e1:∀k,k≠i->(if X0+i=X0+k then true else f (X0+k))=f (X0+k):=λk hk=>if_neg (by omega);have lt:∀k,k<n->f (X0+k)=true->q k<W.heap.size:=λk hk hf=>(Array.getElem?_eq_some_iff.1 (h.blk k hk hf)).1;refine⟨h.bel.trans (hb.mono h.bel.size),λk hk=>?_,λa b ha hb' hab=>?_,λk hk=>?_⟩
 ·by_cases e:k=i
  ·simp only[if_pos e];exact λ_=>h.bel.size
  ·simp only[if_neg e,e1 k e];exact h.lo k hk
 ·by_cases ea:a=i
  ·have eb:b≠i:=λeb=>hab (ea.trans eb.symm)
   simp only[if_pos ea,if_neg eb,e1 b eb];intro _ hf;have:=lt b hb' hf;omega
  ·by_cases eb:b=i
   ·simp only[if_neg ea,if_pos eb,e1 a ea]
    intro hf _;have:=lt a ha hf;omega
   ·simp only[if_neg ea,if_neg eb,e1 a ea,e1 b eb];exact h.ne a b ha hb' hab
 ·simp only[e2 k hk]
  by_cases e:k=i
  ·simp only[if_pos e]
   intro _;rw[show f (Y0+k)=false by rw[e];exact h0];exact zG _ _
  ·simp only[if_neg e,e1 k e]
   intro hf;exact zac hb _ _ _ _ (h.blk k hk hf)
theorem BoxS.put (h:BoxS n X0 Y0 z c t w q f W) (i:Nat) (hi:i<n) (k:f (X0+i)=true) (hX:X0+n<=Y0) (u0 u1 u2:Value) (hc:c i= #[u0,u1,u2]) (hz:z.size=3):BoxS n X0 Y0 z c t w q (λj=>if Y0+i=j then true else f j) (((W.setCell ⟨q i,0,none⟩ u0).setCell ⟨q i,1,none⟩ u1).setCell ⟨q i,2,none⟩ u2):=by
 have hl:=h.lo i hi k;have e1:∀k,k<n->(if Y0+i=X0+k then true else f (X0+k))=f (X0+k):=λk hk=>if_neg (by omega);refine⟨((h.bel.setCell (p:=⟨q i,0,none⟩) (by exact hl) _).setCell (p:=⟨q i,1,none⟩) (by exact hl) _).setCell (p:=⟨q i,2,none⟩) (by exact hl) _,λj hj=>by simp only[e1 j hj];exact h.lo j hj,λa b ha hb=>by simp only[e1 a ha,e1 b hb];exact h.ne a b ha hb,λj hj=>?_⟩;simp only[e1 j hj];intro hf;by_cases e:j=i
 ·subst e
  rw[if_pos (show(if Y0+j=Y0+j then true else f (Y0+j))=true from if_pos rfl),hc];have hb:=h.blk j hj hf;have hs:(if f (Y0+j)=true then c j else z).size=3:=by split;rw[hc];rfl;exact hz
  rw[zK (i:=2) (zK (i:=1) (zK (i:=0) hb u0) u1) u2];generalize (if f (Y0+j)=true then c j else z)=m at hs;obtain⟨l⟩:=m
  match l,hs with
  |[a,b,c],_=>rfl
 ·have hn:=h.ne j i hj hi e hf k
  rw[if_neg (show Y0+i≠Y0+j by omega),yE _ _ _ _ (by exact hn),yE _ _ _ _ (by exact hn),yE _ _ _ _ (by exact hn)];exact h.blk j hj hf
theorem BoxS.open (h:BoxS n X0 Y0 z c t w q f W) (i:Nat) (hi:i<n) (k:f (X0+i)=true) (hz:z.size=3) (hc:(c i).size=3):(∃s,W.cell? ⟨q i,0,none⟩=some s)/\(∃s,W.cell? ⟨q i,1,none⟩=some s)/\(∃s,W.cell? ⟨q i,2,none⟩=some s)/\W.frozen? ⟨q i,0,none⟩=false/\W.frozen? ⟨q i,1,none⟩=false/\W.frozen? ⟨q i,2,none⟩=false:=by
 have hb:=h.blk i hi k;have hs:(if f (Y0+i)=true then c i else z).size=3:=by split;exact hc;exact hz
 generalize (if f (Y0+i)=true then c i else z)=m at hb hs;obtain⟨l⟩:=m
 match l,hs with
 |[a,b,c],_=>exact⟨⟨a,(zah hb).1⟩,⟨b,(zah hb).2.1⟩,⟨c,(zah hb).2.2.1⟩,(zah hb).2.2.2.1,(zah hb).2.2.2.2.1,(zah hb).2.2.2.2.2⟩
end
structure CrS (w:zA) (x0 x1 x2 y0 y1 y2 o0 o1 o2:List UInt8) (Y1 Y2:Nat) (W:zA):Prop where
 bel:qL w W
 h2:W.heap[w.heap.size+1+1]? =some (.cells #[St [],St [],St []] 45 (0,0))
 h3:W.heap[w.heap.size+1+1+1]? =some (.cells #[St o0,St o1,St o2] 170 (0,0))
 lo1:w.heap.size+1+1+1<Y1
 lo2:w.heap.size+1+1+1<Y2
 h4:W.heap[Y1]? =some (.cells #[St x0,St x1,St x2] 170 (0,0))
 h5:W.heap[Y2]? =some (.cells #[St y0,St y1,St y2] 170 (0,0))
section
variable {w W W':zA} {x0 x1 x2 y0 y1 y2 o0 o1 o2:List UInt8} {Y1 Y2:Nat}
theorem CrS.next (h:CrS w x0 x1 x2 y0 y1 y2 o0 o1 o2 Y1 Y2 W) (hb:qL W W'):CrS w x0 x1 x2 y0 y1 y2 o0 o1 o2 Y1 Y2 W':=
 have hc:=zac hb
 ⟨h.bel.trans (hb.mono h.bel.size),hc _ _ _ _ h.h2,hc _ _ _ _ h.h3,h.lo1,h.lo2,hc _ _ _ _ h.h4,hc _ _ _ _ h.h5⟩
theorem CrS.ne (h:CrS w x0 x1 x2 y0 y1 y2 o0 o1 o2 Y1 Y2 W) (i:Nat) (u:Value):qL w (W.setCell ⟨w.heap.size+1+1+1,i,none⟩ u)/\(∀b,b≠w.heap.size+1+1+1->(W.setCell ⟨w.heap.size+1+1+1,i,none⟩ u).heap[b]? =W.heap[b]?):=
 ⟨h.bel.setCell (p:=⟨w.heap.size+1+1+1,i,none⟩) (by show _<=w.heap.size+1+1+1;omega) _,λb hb=>yE _ _ _ _ (by exact hb)⟩
theorem CrS.put0 (h:CrS w x0 x1 x2 y0 y1 y2 o0 o1 o2 Y1 Y2 W) (u:List UInt8):CrS w x0 x1 x2 y0 y1 y2 u o1 o2 Y1 Y2 (W.setCell ⟨w.heap.size+1+1+1,0,none⟩ (St u)):=by
 obtain⟨k1,k2⟩:=h.ne 0 (St u);have:=h.lo1;have:=h.lo2;exact⟨k1,(k2 _ (by omega)).trans h.h2,zK (i:=0) h.h3 (St u),h.lo1,h.lo2,(k2 _ (by omega)).trans h.h4,(k2 _ (by omega)).trans h.h5⟩
theorem CrS.put1 (h:CrS w x0 x1 x2 y0 y1 y2 o0 o1 o2 Y1 Y2 W) (u:List UInt8):CrS w x0 x1 x2 y0 y1 y2 o0 u o2 Y1 Y2 (W.setCell ⟨w.heap.size+1+1+1,1,none⟩ (St u)):=by
 obtain⟨k1,k2⟩:=h.ne 1 (St u);have:=h.lo1;have:=h.lo2;exact⟨k1,(k2 _ (by omega)).trans h.h2,zK (i:=1) h.h3 (St u),h.lo1,h.lo2,(k2 _ (by omega)).trans h.h4,(k2 _ (by omega)).trans h.h5⟩
theorem CrS.put2 (h:CrS w x0 x1 x2 y0 y1 y2 o0 o1 o2 Y1 Y2 W) (u:List UInt8):CrS w x0 x1 x2 y0 y1 y2 o0 o1 u Y1 Y2 (W.setCell ⟨w.heap.size+1+1+1,2,none⟩ (St u)):=by
 obtain⟨k1,k2⟩:=h.ne 2 (St u);have:=h.lo1;have:=h.lo2;exact⟨k1,(k2 _ (by omega)).trans h.h2,zK (i:=2) h.h3 (St u),h.lo1,h.lo2,(k2 _ (by omega)).trans h.h4,(k2 _ (by omega)).trans h.h5⟩
end
theorem zm3 (x0 x1 x2 y0 y1 y2 p0 p1 p2 q0 q1 q2 c0 c1 c2:List UInt8) (w:zA)
 (P0:Hid (∀W:zA,qL w W->qJ 10 #[St x1,St y2] W (.tuple #[St p0,.int .i64 0])))
 (Q0:Hid (∀W:zA,qL w W->qJ 10 #[St x2,St y1] W (.tuple #[St q0,.int .i64 0])))
 (S0:Hid (∀W:zA,qL w W->qJ 132 #[St p0,St q0] W (.tuple #[St c0,.int .i64 0])))
 (P1:Hid (∀W:zA,qL w W->qJ 10 #[St x2,St y0] W (.tuple #[St p1,.int .i64 0])))
 (Q1:Hid (∀W:zA,qL w W->qJ 10 #[St x0,St y2] W (.tuple #[St q1,.int .i64 0])))
 (S1:Hid (∀W:zA,qL w W->qJ 132 #[St p1,St q1] W (.tuple #[St c1,.int .i64 0])))
 (P2:Hid (∀W:zA,qL w W->qJ 10 #[St x0,St y1] W (.tuple #[St p2,.int .i64 0])))
 (Q2:Hid (∀W:zA,qL w W->qJ 10 #[St x1,St y0] W (.tuple #[St q2,.int .i64 0])))
 (S2:Hid (∀W:zA,qL w W->qJ 132 #[St p2,St q2] W (.tuple #[St c2,.int .i64 0]))):
 qJ 134 #[.agg #[St x0,St x1,St x2],.agg #[St y0,St y1,St y2]] w (.tuple #[.agg #[St c0,St c1,St c2],.int .i64 0]):=by
 obtain⟨z3,hz3⟩:=zzX (((w.alloc (.cells #[St x0,St x1,St x2] 169)).alloc (.cells #[St y0,St y1,St y2] 169)).alloc (.cells #[St [],St [],St []] 45));obtain⟨g1,g2,g3,g4,g5⟩:=zhm hz3;obtain⟨z4,hz4⟩:=zzX (z3.alloc (.cells #[St [],St [],St []] 170));have b4:qL z3 z4:=by rw[hz4];exact(zM _ z3).alloc (Nat.le_refl _) _
 have hck:=zac b4
 have F:=hid (⟨g1.trans (b4.mono g1.size),hck _ _ _ _ g2,hck _ _ _ _ g3,hck _ _ _ _ g4,by rw[hz4,<-g5];exact zG z3 _,by rw[hz4,World.size_alloc,g5]⟩:
  qL w z4/\z4.heap[w.heap.size]? =some (.cells #[St x0,St x1,St x2] 169 (0,0))/\z4.heap[w.heap.size+1]? =some (.cells #[St y0,St y1,St y2] 169 (0,0))/\z4.heap[w.heap.size+1+1]? =some (.cells #[St [],St [],St []] 45 (0,0))/\z4.heap[w.heap.size+1+1+1]? =some (.cells #[St [],St [],St []] 170 (0,0))/\z4.heap.size=w.heap.size+1+1+1+1)
 have hall:z4=(((w.alloc (.cells #[St x0,St x1,St x2] 169)).alloc (.cells #[St y0,St y1,St y2] 169)).alloc (.cells #[St [],St [],St []] 45)).alloc (.cells #[St [],St [],St []] 170):=by rw[hz4,hz3]
 have HV:=hid hall.symm;clear hall hz3 hz4 g1 g2 g3 g4 g5 b4 hck;clear z3;go_enter Tryz.func134,Tryz.ntmps134;go_wp21;have h9:=HV.out;rw[show(((w.alloc (.cells #[.string ⟨x0.toArray⟩,.string ⟨x1.toArray⟩,.string ⟨x2.toArray⟩] 169)).alloc (.cells #[.string ⟨y0.toArray⟩,.string ⟨y1.toArray⟩,.string ⟨y2.toArray⟩] 169)).alloc (.cells #[.string ⟨#[]⟩,.string ⟨#[]⟩,.string ⟨#[]⟩] 45)).alloc (.cells #[.string ⟨#[]⟩,.string ⟨#[]⟩,.string ⟨#[]⟩] 170)=z4 from h9];clear h9 HV;have KA:=hid (λW (h:qL z4 W)=>(⟨zah (zac h _ _ _ _ F.out.2.1),zah (zac h _ _ _ _ F.out.2.2.1)⟩:(_/\_/\_/\_/\_/\_)/\_/\_/\_/\_/\_/\_));refine zc4 (λ(q:Nat->Nat) i=>([.agg #[St x0,St x1,St x2],.agg #[St x0,St x1,St x2],.agg #[St y0,St y1,St y2],.agg #[St y0,St y1,St y2],.pointer (some ⟨q 0,0,none⟩),.pointer (some ⟨q 1,0,none⟩),undef,undef]:List Value).getD i undef)
  (BoxS 2 4 6 #[St [],St [],St []] (λi=>if i=0 then #[St x0,St x1,St x2] else #[St y0,St y1,St y2]) 170 z4) (by kernel_rfl) (by kernel_rfl) (λ_=>0) (BoxS.start (zM _ z4).drew) λq=>?_
 refine qB (.agg #[St x0,St x1,St x2]) (λf W' h=>h.step 0 (by decide) (by decide)) ?_ (hy:=λf W' hf h=>by obtain⟨⟨d0,d1,d2, -⟩, -⟩:=KA.out W' h.bel;go_simp);simp only[zzQ]
 refine zbv (.agg #[St x0,St x1,St x2]) (by rfl) (by rfl) (λf W' hf h C' hC'=>by
  go_simp;refine zzM (zda x0 x1 x2 W') λw' hb=>?_;exact⟨_,rfl,hC' _ ((h.next hb).step 1 (by decide) (by decide))⟩) ?_
 refine qB (.agg #[St y0,St y1,St y2]) (λf W' h=>h.step 2 (by decide) (by decide)) ?_ (hy:=λf W' hf h=>by obtain⟨-,d0,d1,d2, -⟩:=KA.out W' h.bel;go_simp);simp only[zzQ]
 refine zbv (.agg #[St y0,St y1,St y2]) (by rfl) (by rfl) (λf W' hf h C' hC'=>by
  go_simp;refine zzM (zda y0 y1 y2 W') λw' hb=>?_;exact⟨_,rfl,hC' _ ((h.next hb).step 3 (by decide) (by decide))⟩) ?_
 try simp only[zzQ]
 refine zdc (.pointer (some ⟨q 0,0,none⟩)) (by rfl) (by rfl) (λf W' hf h C' hC'=>by
  have h0:=hf.self;have h1:=hf.no (j:=6) hf.self (by kernel_rfl);have hc:=hC' (λj=>if j=0 then W'.heap.size else q j) _ (λj hj=>by
   match j,hj with
   |0,_|1,_|2,_|3,_|5,_|6,_|7,_=>rfl
   |4,hj=>rw[h0] at hj;cases hj
   |_+8,_=>rfl) (h.new 0 (by decide) h1 (by decide))
  clear h hC';go_simp;exact hc) ?_
 try simp only[zzQ]
 refine zdc (.pointer (some ⟨q 1,0,none⟩)) (by rfl) (by rfl) (λf W' hf h C' hC'=>by
  have h0:=hf.self;have h1:=hf.no (j:=7) hf.self (by kernel_rfl);have hc:=hC' (λj=>if j=1 then W'.heap.size else q j) _ (λj hj=>by
   match j,hj with
   |0,_|1,_|2,_|3,_|4,_|6,_|7,_=>rfl
   |5,hj=>rw[h0] at hj;cases hj
   |_+8,_=>rfl) (h.new 1 (by decide) h1 (by decide))
  clear h hC';go_simp;exact hc) ?_
 try simp only[zzQ]
 refine zbv undef (by rfl) (by rfl) (λf W' hf h C' hC'=>by
  have h0:=hf.done 4 (by kernel_rfl);obtain⟨⟨s0,d0⟩,⟨s1,d1⟩,⟨s2,d2⟩,z0,z1,z2⟩:=h.open 0 (by decide) h0 rfl rfl;have hc:=hC' _ (h.put 0 (by decide) h0 (by decide) (St x0) (St x1) (St x2) rfl rfl);clear h hC';go_simp;exact hc) ?_
 try simp only[zzQ]
 refine zbv undef (by rfl) (by rfl) (λf W' hf h C' hC'=>by
  have h0:=hf.done 5 (by kernel_rfl);obtain⟨⟨s0,d0⟩,⟨s1,d1⟩,⟨s2,d2⟩,z0,z1,z2⟩:=h.open 1 (by decide) h0 rfl rfl;have hc:=hC' _ (h.put 1 (by decide) h0 (by decide) (St y0) (St y1) (St y2) rfl rfl);clear h hC';go_simp;exact hc) ?_
 try simp only[zzQ]
 refine ze1 λf X hf h=>?_;obtain⟨Y1,hY1⟩:=zzX (q 0);obtain⟨Y2,hY2⟩:=zzX (q 1);have hA:=h.blk 0 (by decide) (hf 4 (by decide));have hB:=h.blk 1 (by decide) (hf 5 (by decide));have l1:=h.lo 0 (by decide) (hf 4 (by decide));have l2:=h.lo 1 (by decide) (hf 5 (by decide));rw[if_pos (hf 6 (by decide))] at hA;rw[if_pos (hf 7 (by decide))] at hB;rw[<-hY1] at hA l1;rw[<-hY2] at hB l2;have hck:=zac h.bel;have HS0:Hid (CrS w x0 x1 x2 y0 y1 y2 [] [] [] Y1 Y2 X):=hid ⟨F.out.1.trans (h.bel.mono F.out.1.size),hck _ _ _ _ F.out.2.2.2.1,hck _ _ _ _ F.out.2.2.2.2.1,by have:=F.out.2.2.2.2.2;omega,by have:=F.out.2.2.2.2.2;omega,hA,hB⟩;rw[<-hY1,<-hY2];clear hY1 hY2 hA hB l1 l2 hck h hf F KA;go_wp21;refine wp_loop_rounds 4 ?_;rw[rounds_succ];go_wp21;refine zc4 (λ(_:Unit) i=>([.int .i64 1,.pointer (some ⟨Y1,1,none⟩),St x1,.int .i64 2,.pointer (some ⟨Y2,2,none⟩),St y2,.tuple #[St p0,.int .i64 0],.tuple #[St p0,.int .i64 0],St p0,.int .i64 0,St p0,.int .i64 0]:List Value).getD i undef) (λ_ _ V=>qL X V) (by kernel_rfl) (by kernel_rfl) () ((zM _ X).drew) λ_=>?_;refine qB (.int .i64 1) (λf W' h=>h) ?_;refine qB (.pointer (some ⟨Y1,1,none⟩)) (λf W' h=>h) ?_;refine qB (St x1) (λf W' h=>h) ?_ (hy:=λf W' hf h=>by obtain⟨d0,d1,d2, -⟩:=zah (zac h _ _ _ _ HS0.out.h4);go_simp);simp only[zzQ];refine qB (.int .i64 2) (λf W' h=>h) ?_;refine qB (.pointer (some ⟨Y2,2,none⟩)) (λf W' h=>h) ?_;refine qB (St y2) (λf W' h=>h) ?_ (hy:=λf W' hf h=>by obtain⟨d0,d1,d2, -⟩:=zah (zac h _ _ _ _ HS0.out.h5);go_simp);simp only[zzQ]
 refine zbv (.tuple #[St p0,.int .i64 0]) (by rfl) (by rfl) (λf W' hf h C' hC'=>by
  have hq:=P0.out W' (HS0.out.bel.trans (h.mono HS0.out.bel.size));go_simp;refine zzM hq λw' hb=>?_;exact⟨_,rfl,hC' _ (h.trans (hb.mono h.size))⟩) ?_
 refine qB (.tuple #[St p0,.int .i64 0]) (λf W' h=>h) ?_;refine qB (St p0) (λf W' h=>h) ?_;simp only[zzQ];refine qB (.int .i64 0) (λf W' h=>h) ?_;refine qB (St p0) (λf W' h=>h) ?_;refine qB (.int .i64 0) (λf W' h=>h) ?_;simp only[zzQ];refine ze1 λf r0 hf h=>?_;have HR0:=hid (HS0.out.next h);clear h hf HS0;go_wp21;refine zc4 (λ(_:Unit) i=>([.int .i64 2,.pointer (some ⟨Y1,2,none⟩),St x2,.int .i64 1,.pointer (some ⟨Y2,1,none⟩),St y1,.tuple #[St q0,.int .i64 0],.tuple #[St q0,.int .i64 0],St q0,.int .i64 0,St q0,.int .i64 0]:List Value).getD i undef) (λ_ _ V=>qL r0 V) (by kernel_rfl) (by kernel_rfl) () ((zM _ r0).drew) λ_=>?_;refine qB (.int .i64 2) (λf W' h=>h) ?_;refine qB (.pointer (some ⟨Y1,2,none⟩)) (λf W' h=>h) ?_;refine qB (St x2) (λf W' h=>h) ?_ (hy:=λf W' hf h=>by obtain⟨d0,d1,d2, -⟩:=zah (zac h _ _ _ _ HR0.out.h4);go_simp);simp only[zzQ];refine qB (.int .i64 1) (λf W' h=>h) ?_;refine qB (.pointer (some ⟨Y2,1,none⟩)) (λf W' h=>h) ?_;refine qB (St y1) (λf W' h=>h) ?_ (hy:=λf W' hf h=>by obtain⟨d0,d1,d2, -⟩:=zah (zac h _ _ _ _ HR0.out.h5);go_simp);simp only[zzQ]
 refine zbv (.tuple #[St q0,.int .i64 0]) (by rfl) (by rfl) (λf W' hf h C' hC'=>by
  have hq:=Q0.out W' (HR0.out.bel.trans (h.mono HR0.out.bel.size));go_simp;refine zzM hq λw' hb=>?_;exact⟨_,rfl,hC' _ (h.trans (hb.mono h.size))⟩) ?_
 refine qB (.tuple #[St q0,.int .i64 0]) (λf W' h=>h) ?_;refine qB (St q0) (λf W' h=>h) ?_;simp only[zzQ];refine qB (.int .i64 0) (λf W' h=>h) ?_;refine qB (St q0) (λf W' h=>h) ?_;refine qB (.int .i64 0) (λf W' h=>h) ?_;simp only[zzQ];refine ze1 λf s0 hf h=>?_;have HU0:=hid (HR0.out.next h);clear h hf HR0;have HC:=hid (S0.out s0 HU0.out.bel);go_wp21;refine zzM HC.out λv0 hb=>?_;have HW0:=hid (HU0.out.next hb);clear hb HC HU0;obtain⟨d0,d1,d2,z0,z1,z2⟩:=zah HW0.out.h3;obtain⟨t0,ht0⟩:=zzX (v0.setCell ⟨w.heap.size+1+1+1,0,none⟩ (St c0));have hp:=HW0.out.put0 c0;rw[<-ht0] at hp;have HQ0:=hid hp;have HT:=hid ht0.symm;clear hp ht0;go_wp21;have h9:=HT.out;rw[show v0.setCell ⟨w.heap.size+1+1+1,0,none⟩ (.string ⟨c0.toArray⟩)=t0 from h9];clear h9 HT d0 d1 d2 z0 z1 z2 HW0;rw[rounds_succ];go_wp21;refine zc4 (λ(_:Unit) i=>([.int .i64 2,.pointer (some ⟨Y1,2,none⟩),St x2,.int .i64 0,.pointer (some ⟨Y2,0,none⟩),St y0,.tuple #[St p1,.int .i64 0],.tuple #[St p1,.int .i64 0],St p1,.int .i64 0,St p1,.int .i64 0]:List Value).getD i undef) (λ_ _ V=>qL t0 V) (by kernel_rfl) (by kernel_rfl) () ((zM _ t0).drew) λ_=>?_;refine qB (.int .i64 2) (λf W' h=>h) ?_;refine qB (.pointer (some ⟨Y1,2,none⟩)) (λf W' h=>h) ?_;refine qB (St x2) (λf W' h=>h) ?_ (hy:=λf W' hf h=>by obtain⟨d0,d1,d2, -⟩:=zah (zac h _ _ _ _ HQ0.out.h4);go_simp);simp only[zzQ];refine qB (.int .i64 0) (λf W' h=>h) ?_;refine qB (.pointer (some ⟨Y2,0,none⟩)) (λf W' h=>h) ?_;refine qB (St y0) (λf W' h=>h) ?_ (hy:=λf W' hf h=>by obtain⟨d0,d1,d2, -⟩:=zah (zac h _ _ _ _ HQ0.out.h5);go_simp);simp only[zzQ]
 refine zbv (.tuple #[St p1,.int .i64 0]) (by rfl) (by rfl) (λf W' hf h C' hC'=>by
  have hq:=P1.out W' (HQ0.out.bel.trans (h.mono HQ0.out.bel.size));go_simp;refine zzM hq λw' hb=>?_;exact⟨_,rfl,hC' _ (h.trans (hb.mono h.size))⟩) ?_
 refine qB (.tuple #[St p1,.int .i64 0]) (λf W' h=>h) ?_;refine qB (St p1) (λf W' h=>h) ?_;simp only[zzQ];refine qB (.int .i64 0) (λf W' h=>h) ?_;refine qB (St p1) (λf W' h=>h) ?_;refine qB (.int .i64 0) (λf W' h=>h) ?_;simp only[zzQ];refine ze1 λf r1 hf h=>?_;have HR1:=hid (HQ0.out.next h);clear h hf HQ0;go_wp21;refine zc4 (λ(_:Unit) i=>([.int .i64 0,.pointer (some ⟨Y1,0,none⟩),St x0,.int .i64 2,.pointer (some ⟨Y2,2,none⟩),St y2,.tuple #[St q1,.int .i64 0],.tuple #[St q1,.int .i64 0],St q1,.int .i64 0,St q1,.int .i64 0]:List Value).getD i undef) (λ_ _ V=>qL r1 V) (by kernel_rfl) (by kernel_rfl) () ((zM _ r1).drew) λ_=>?_;refine qB (.int .i64 0) (λf W' h=>h) ?_;refine qB (.pointer (some ⟨Y1,0,none⟩)) (λf W' h=>h) ?_;refine qB (St x0) (λf W' h=>h) ?_ (hy:=λf W' hf h=>by obtain⟨d0,d1,d2, -⟩:=zah (zac h _ _ _ _ HR1.out.h4);go_simp);simp only[zzQ];refine qB (.int .i64 2) (λf W' h=>h) ?_;refine qB (.pointer (some ⟨Y2,2,none⟩)) (λf W' h=>h) ?_;refine qB (St y2) (λf W' h=>h) ?_ (hy:=λf W' hf h=>by obtain⟨d0,d1,d2, -⟩:=zah (zac h _ _ _ _ HR1.out.h5);go_simp);simp only[zzQ]
 refine zbv (.tuple #[St q1,.int .i64 0]) (by rfl) (by rfl) (λf W' hf h C' hC'=>by
  have hq:=Q1.out W' (HR1.out.bel.trans (h.mono HR1.out.bel.size));go_simp;refine zzM hq λw' hb=>?_;exact⟨_,rfl,hC' _ (h.trans (hb.mono h.size))⟩) ?_
 refine qB (.tuple #[St q1,.int .i64 0]) (λf W' h=>h) ?_;refine qB (St q1) (λf W' h=>h) ?_;simp only[zzQ];refine qB (.int .i64 0) (λf W' h=>h) ?_;refine qB (St q1) (λf W' h=>h) ?_;refine qB (.int .i64 0) (λf W' h=>h) ?_;simp only[zzQ];refine ze1 λf s1 hf h=>?_;have HU1:=hid (HR1.out.next h);clear h hf HR1;have HC:=hid (S1.out s1 HU1.out.bel);go_wp21;refine zzM HC.out λv1 hb=>?_;have HW1:=hid (HU1.out.next hb);clear hb HC HU1;obtain⟨d0,d1,d2,z0,z1,z2⟩:=zah HW1.out.h3;obtain⟨t1,ht1⟩:=zzX (v1.setCell ⟨w.heap.size+1+1+1,1,none⟩ (St c1));have hp:=HW1.out.put1 c1;rw[<-ht1] at hp;have HQ1:=hid hp;have HT:=hid ht1.symm;clear hp ht1;go_wp21;have h9:=HT.out;rw[show v1.setCell ⟨w.heap.size+1+1+1,1,none⟩ (.string ⟨c1.toArray⟩)=t1 from h9];clear h9 HT d0 d1 d2 z0 z1 z2 HW1;rw[rounds_succ];go_wp21;refine zc4 (λ(_:Unit) i=>([.int .i64 0,.pointer (some ⟨Y1,0,none⟩),St x0,.int .i64 1,.pointer (some ⟨Y2,1,none⟩),St y1,.tuple #[St p2,.int .i64 0],.tuple #[St p2,.int .i64 0],St p2,.int .i64 0,St p2,.int .i64 0]:List Value).getD i undef) (λ_ _ V=>qL t1 V) (by kernel_rfl) (by kernel_rfl) () ((zM _ t1).drew) λ_=>?_;refine qB (.int .i64 0) (λf W' h=>h) ?_;refine qB (.pointer (some ⟨Y1,0,none⟩)) (λf W' h=>h) ?_;refine qB (St x0) (λf W' h=>h) ?_ (hy:=λf W' hf h=>by obtain⟨d0,d1,d2, -⟩:=zah (zac h _ _ _ _ HQ1.out.h4);go_simp);simp only[zzQ];refine qB (.int .i64 1) (λf W' h=>h) ?_;refine qB (.pointer (some ⟨Y2,1,none⟩)) (λf W' h=>h) ?_;refine qB (St y1) (λf W' h=>h) ?_ (hy:=λf W' hf h=>by obtain⟨d0,d1,d2, -⟩:=zah (zac h _ _ _ _ HQ1.out.h5);go_simp);simp only[zzQ]
 refine zbv (.tuple #[St p2,.int .i64 0]) (by rfl) (by rfl) (λf W' hf h C' hC'=>by
  have hq:=P2.out W' (HQ1.out.bel.trans (h.mono HQ1.out.bel.size));go_simp;refine zzM hq λw' hb=>?_;exact⟨_,rfl,hC' _ (h.trans (hb.mono h.size))⟩) ?_
 refine qB (.tuple #[St p2,.int .i64 0]) (λf W' h=>h) ?_;refine qB (St p2) (λf W' h=>h) ?_;simp only[zzQ];refine qB (.int .i64 0) (λf W' h=>h) ?_;refine qB (St p2) (λf W' h=>h) ?_;refine qB (.int .i64 0) (λf W' h=>h) ?_;simp only[zzQ];refine ze1 λf r2 hf h=>?_;have HR2:=hid (HQ1.out.next h);clear h hf HQ1;go_wp21;refine zc4 (λ(_:Unit) i=>([.int .i64 1,.pointer (some ⟨Y1,1,none⟩),St x1,.int .i64 0,.pointer (some ⟨Y2,0,none⟩),St y0,.tuple #[St q2,.int .i64 0],.tuple #[St q2,.int .i64 0],St q2,.int .i64 0,St q2,.int .i64 0]:List Value).getD i undef) (λ_ _ V=>qL r2 V) (by kernel_rfl) (by kernel_rfl) () ((zM _ r2).drew) λ_=>?_;refine qB (.int .i64 1) (λf W' h=>h) ?_;refine qB (.pointer (some ⟨Y1,1,none⟩)) (λf W' h=>h) ?_;refine qB (St x1) (λf W' h=>h) ?_ (hy:=λf W' hf h=>by obtain⟨d0,d1,d2, -⟩:=zah (zac h _ _ _ _ HR2.out.h4);go_simp);simp only[zzQ];refine qB (.int .i64 0) (λf W' h=>h) ?_;refine qB (.pointer (some ⟨Y2,0,none⟩)) (λf W' h=>h) ?_;refine qB (St y0) (λf W' h=>h) ?_ (hy:=λf W' hf h=>by obtain⟨d0,d1,d2, -⟩:=zah (zac h _ _ _ _ HR2.out.h5);go_simp);simp only[zzQ]
 refine zbv (.tuple #[St q2,.int .i64 0]) (by rfl) (by rfl) (λf W' hf h C' hC'=>by
  have hq:=Q2.out W' (HR2.out.bel.trans (h.mono HR2.out.bel.size));go_simp;refine zzM hq λw' hb=>?_;exact⟨_,rfl,hC' _ (h.trans (hb.mono h.size))⟩) ?_
 refine qB (.tuple #[St q2,.int .i64 0]) (λf W' h=>h) ?_;refine qB (St q2) (λf W' h=>h) ?_;simp only[zzQ];refine qB (.int .i64 0) (λf W' h=>h) ?_;refine qB (St q2) (λf W' h=>h) ?_;refine qB (.int .i64 0) (λf W' h=>h) ?_;simp only[zzQ];refine ze1 λf s2 hf h=>?_;have HU2:=hid (HR2.out.next h);clear h hf HR2;have HC:=hid (S2.out s2 HU2.out.bel);go_wp21;refine zzM HC.out λv2 hb=>?_;have HW2:=hid (HU2.out.next hb);clear hb HC HU2;obtain⟨d0,d1,d2,z0,z1,z2⟩:=zah HW2.out.h3;obtain⟨t2,ht2⟩:=zzX (v2.setCell ⟨w.heap.size+1+1+1,2,none⟩ (St c2));have hp:=HW2.out.put2 c2;rw[<-ht2] at hp;have HQ2:=hid hp;have HT:=hid ht2.symm;clear hp ht2;go_wp21;have h9:=HT.out;rw[show v2.setCell ⟨w.heap.size+1+1+1,2,none⟩ (.string ⟨c2.toArray⟩)=t2 from h9];clear h9 HT d0 d1 d2 z0 z1 z2 HW2;rw[rounds_succ];obtain⟨d0,d1,d2, -, -, -⟩:=zah HQ2.out.h3;go_wp21;clear d0 d1 d2;refine zzM (zlf c0 c1 c2 t2) λr3 hb=>?_;have hn:=HQ2.out.next hb;obtain⟨d0,d1,d2,z0,z1,z2⟩:=zah hn.h2;have HF:=hid hn;clear hn hb HQ2;go_wp21;have hf:=HF.out.bel;exact bodyPost_ret (v:=.tuple #[.agg #[St c0,St c1,St c2],.int .i64 0]) (by simp[results,Tryz.results134,go_sem,d0,d1,d2]) rfl ⟨rfl,((hf.setCell (p:=⟨w.heap.size+1+1,0,none⟩) (by show _<=w.heap.size+1+1;omega) _).setCell (p:=⟨w.heap.size+1+1,1,none⟩) (by show _<=w.heap.size+1+1;omega) _).setCell (p:=⟨w.heap.size+1+1,2,none⟩) (by show _<=w.heap.size+1+1;omega) _⟩
end
section
open Go.RowKit Go.Shelf Lib Str Limb
theorem zsb:∀args w,(callFunc 10 args).run zF w=.ok (.enter 10 args) w:=enters_of Tryz.func10 (by kernel_rfl) rfl
def sz3 (a b c:Rat) (k:Nat):Prop:=sz a k/\sz b k/\sz c k
theorem sz3.mono {a b c:Rat} {i j:Nat} (h:sz3 a b c i) (hij:i<=j):sz3 a b c j:=⟨h.1.mono hij,h.2.1.mono hij,h.2.2.mono hij⟩
theorem zf7 (a b c:Rat) (h:sz3 a b c 140) (w:zA) (hw:Wd w):qJ 52 #[.agg #[St (numS a),St (numS b),St (numS c)]] w (.int .i64 0):=
 zgk _ _ _ (hid λV hV=>zfj a (zd0 (by omega) (by omega) h.1) V hV) (hid λV hV=>zfj b (zd0 (by omega) (by omega) h.2.1) V hV) (hid λV hV=>zfj c (zd0 (by omega) (by omega) h.2.2) V hV) w (hid hw)
theorem zlv (a b c d e f:Rat) (h:sz3 a b c 60) (h':sz3 d e f 60) (w:zA) (hw:Wd w):qJ 107 #[.agg #[St (numS a),St (numS b),St (numS c)],.agg #[St (numS d),St (numS e),St (numS f)]] w (.int .i64 0):=
 zon _ _ _ _ _ _ w (hid λW hW=>zf7 a b c (h.mono (by omega)) W (hw.below hW)) (hid λW hW=>zf7 d e f (h'.mono (by omega)) W (hw.below hW))
theorem zho (a b c d e f:Rat) (h:sz3 a b c 140) (h':sz3 d e f 140) (w:zA) (hw:Wd w):zC zF 137 #[.agg #[St (numS a),St (numS b),St (numS c)],.agg #[St (numS d),St (numS e),St (numS f)],.func (.func 10) #[] #[]] w λe' w'=>e'=.returned (.tuple #[.agg #[St (numS (a*d)),St (numS (b*e)),St (numS (c*f))],.int .i64 0])/\zB w.heap.size w w':=
 zoo _ _ _ _ _ _ _ _ _ _ zsb w (hid λW hW=>zjf a d 140 140 (by omega) (by omega) (by omega) h.1 h'.1 W (hw.below hW)) (hid λW hW=>zjf b e 140 140 (by omega) (by omega) (by omega) h.2.1 h'.2.1 W (hw.below hW)) (hid λW hW=>zjf c f 140 140 (by omega) (by omega) (by omega) h.2.2 h'.2.2 W (hw.below hW))
theorem zt4 (a b c d e f:Rat) (h:sz3 a b c 40) (h':sz3 d e f 40) (w:zA) (hw:Wd w):zC zF 47 #[.agg #[St (numS a),St (numS b),St (numS c)],.agg #[St (numS d),St (numS e),St (numS f)]] w λe' w'=>e'=.returned (.tuple #[St (numS (a*d+b*e+c*f)),.int .i64 0])/\zB w.heap.size w w':=
 zll _ _ _ _ _ _ _ w (hid λW hW=>zlv a b c d e f (h.mono (by omega)) (h'.mono (by omega)) W (hw.below hW))
  (hid λW hW=>zqa _ _ _ _ _ _ _ _ _ (numS (a*d+b*e)) _ W (hid λV hV=>zho a b c d e f (h.mono (by omega)) (h'.mono (by omega)) V ((hw.below hW).below hV))
    (hid λV hV=>zje (a*d) (b*e) 80 80 (by omega) (by omega) (by omega) (zca h.1 h'.1) (zca h.2.1 h'.2.1) V ((hw.below hW).below hV))
    (hid λV hV=>zje (a*d+b*e) (c*f) 161 80 (by omega) (by omega) (by omega) (zk0 (zca h.1 h'.1) (zca h.2.1 h'.2.1)) (zca h.2.2 h'.2.2) V ((hw.below hW).below hV)))
theorem zs6 (a b c d e f:Rat) (h:sz3 a b c 30) (h':sz3 d e f 30) (w:zA) (hw:Wd w):zC zF 47 #[.agg #[St (numS a),St (numS b),St (numS c)],.agg #[St (numS d),St (numS e),St (numS f)]] w λe' w'=>e'=.returned (.tuple #[St (numS (a*d+b*e+c*f)),.int .i64 0])/\zB w.heap.size w w':=zt4 a b c d e f (h.mono (by omega)) (h'.mono (by omega)) w hw
theorem zgs (a b c d e f:Rat) (h:sz3 a b c 30) (h':sz3 d e f 30) (w:zA) (hw:Wd w):zC zF 81 #[.agg #[St (numS a),St (numS b),St (numS c)],.agg #[St (numS d),St (numS e),St (numS f)]] w λe' w'=>e'=.returned (.tuple #[.agg #[St (numS (b*f-c*e)),St (numS (c*d-a*f)),St (numS (a*e-b*d))],.int .i64 0])/\zB w.heap.size w w':=
 zjm _ _ _ _ _ _ _ _ _ w (hid λW hW=>zlv a b c d e f (h.mono (by omega)) (h'.mono (by omega)) W (hw.below hW))
  (hid λW hW=>by
    have M:∀(x y:Rat),sz x 30->sz y 30->Hid (∀V:zA,qL W V->qJ 10 #[St (numS x),St (numS y)] V (.tuple #[St (numS (x*y)),.int .i64 0])):=λx y hx hy=>hid λV hV=>zjf x y 30 30 (by omega) (by omega) (by omega) hx hy V ((hw.below hW).below hV);have S:∀(x y z t:Rat),sz x 30->sz y 30->sz z 30->sz t 30->Hid (∀V:zA,qL W V->qJ 132 #[St (numS (x*y)),St (numS (z*t))] V (.tuple #[St (numS (x*y-z*t)),.int .i64 0])):=λx y z t hx hy hz ht=>hid λV hV=>ztz (x*y) (z*t) 60 60 (by omega) (by omega) (by omega) (zca hx hy) (zca hz ht) V ((hw.below hW).below hV);exact zm3 _ _ _ _ _ _ _ _ _ _ _ _ _ _ _ W (M b f h.2.1 h'.2.2) (M c e h.2.2 h'.2.1) (S b f c e h.2.1 h'.2.2 h.2.2 h'.2.1) (M c d h.2.2 h'.1) (M a f h.1 h'.2.2) (S c d a f h.2.2 h'.1 h.1 h'.2.2) (M a e h.1 h'.2.1) (M b d h.2.1 h'.1) (S a e b d h.1 h'.2.1 h.2.1 h'.1))
theorem zf8 (a b c x:Rat) (h:sz3 a b c 140) (hx:sz x 140) (w:zA) (hw:Wd w):zC zF 83 #[.agg #[St (numS a),St (numS b),St (numS c)],St (numS x)] w λe' w'=>e'=.returned (.tuple #[.agg #[St (numS (a*x)),St (numS (b*x)),St (numS (c*x))],.int .i64 0])/\zB w.heap.size w w':=
 zj3 _ _ _ _ _ _ _ w (hid λW hW=>zf7 a b c h W (hw.below hW)) (hid λW hW=>zfj x (zd0 (by omega) (by omega) hx) W (hw.below hW)) (hid λW hW=>zho a b c x x x h ⟨hx,hx,hx⟩ W (hw.below hW))
end
section
open Go.RowKit Go.Shelf Lib Str Limb Geo
attribute [local go_sem] Oper.semAt_some
theorem zm1 (a b c a' b' c' x y z:List UInt8) (bb:Bool) (HBB:Hid ((x==[48]&&y==[48]&&z==[48])=bb))
 (CR:Hid (qK 81 #[.agg #[St a,St b,St c],.agg #[St a',St b',St c']] (.tuple #[.agg #[St x,St y,St z],.int .i64 0])))
 (w:zA) (HW:Hid (Wd w)):
 qJ 45 #[.agg #[St a,St b,St c],.agg #[St a',St b',St c']] w (.tuple #[.bool bb,.int .i64 0]):=by
 obtain⟨v1,hv⟩:=zzX ((w.alloc (.cells #[St a,St b,St c] 45)).alloc (.cells #[St a',St b',St c'] 45));obtain⟨b1,A1,A2⟩:=box2 hv;obtain⟨k0,k1,k2⟩:v1.cell? ⟨w.heap.size,0,none⟩=some (St a)/\v1.cell? ⟨w.heap.size,1,none⟩=some (St b)/\v1.cell? ⟨w.heap.size,2,none⟩=some (St c):=⟨by rw[zJ A1];rfl,by rw[zJ A1];rfl,by rw[zJ A1];rfl⟩;obtain⟨j0,j1,j2⟩:v1.cell? ⟨w.heap.size+1,0,none⟩=some (St a')/\v1.cell? ⟨w.heap.size+1,1,none⟩=some (St b')/\v1.cell? ⟨w.heap.size+1,2,none⟩=some (St c'):=⟨by rw[zJ A2];rfl,by rw[zJ A2];rfl,by rw[zJ A2];rfl⟩;have B1:=hid b1;have HV:=hid hv.symm;rw[hv] at k0 k1 k2 j0 j1 j2;clear hv b1 A1 A2;go_enter Tryz.func45,Tryz.ntmps45;go_wp21;have h9:=HV.out;rw[show(w.alloc (.cells #[.string ⟨a.toArray⟩,.string ⟨b.toArray⟩,.string ⟨c.toArray⟩] 45)).alloc (.cells #[.string ⟨a'.toArray⟩,.string ⟨b'.toArray⟩,.string ⟨c'.toArray⟩] 45)=v1 from h9];clear h9 HV k0 k1 k2 j0 j1 j2;refine zzM (CR.out v1 (HW.out.below B1.out)) λw1 hb=>?_;have B2:=hid (B1.out.trans (hb.mono B1.out.size));clear hb B1;obtain⟨v2,hv⟩:=zzX (w1.alloc (.cells #[St x,St y,St z] 45));obtain⟨b2,A2⟩:=zu4 hv;obtain⟨k0,k1,k2⟩:v2.cell? ⟨w1.heap.size,0,none⟩=some (St x)/\v2.cell? ⟨w1.heap.size,1,none⟩=some (St y)/\v2.cell? ⟨w1.heap.size,2,none⟩=some (St z):=⟨by rw[zJ A2];rfl,by rw[zJ A2];rfl,by rw[zJ A2];rfl⟩;have B3:=hid (B2.out.trans (b2.mono B2.out.size));rw[hv] at k0 k1 k2 B3;clear hv b2 A2;cases bb
 ·go_wp21
  all_goals first|(go_ret2;subst_vars;exact⟨rfl,B3.out⟩)|(exfalso;subst_vars;exact absurd HBB.out (by decide))
 ·obtain⟨⟨rfl,rfl⟩,rfl⟩:(x=[48]/\y=[48])/\z=[48]:=by simpa using HBB.out
  go_wp21;go_ret2;exact⟨rfl,B3.out⟩
structure SmS (w:zA) (a b c a' b' c':List UInt8) (d d':Value) (W:zA):Prop where
 bel:qL w W
 h0:W.heap[w.heap.size]? =some (.cells #[St a,St b,St c,d] 26 (0,0))
 h1:W.heap[w.heap.size+1]? =some (.cells #[St a',St b',St c',d'] 26 (0,0))
section
variable {w W W':zA} {a b c a' b' c':List UInt8} {d d':Value}
theorem SmS.next (h:SmS w a b c a' b' c' d d' W) (hb:qL W W'):SmS w a b c a' b' c' d d' W':=
 ⟨h.bel.trans (hb.mono h.bel.size),zac hb _ _ _ _ h.h0,zac hb _ _ _ _ h.h1⟩
theorem SmS.ca (h:SmS w a b c a' b' c' d d' W):W.cell? ⟨w.heap.size,0,none⟩=some (St a)/\W.cell? ⟨w.heap.size,1,none⟩=some (St b)/\W.cell? ⟨w.heap.size,2,none⟩=some (St c)/\W.cell? ⟨w.heap.size,3,none⟩=some d:=zfb h.h0
theorem SmS.cb (h:SmS w a b c a' b' c' d d' W):W.cell? ⟨w.heap.size+1,0,none⟩=some (St a')/\W.cell? ⟨w.heap.size+1,1,none⟩=some (St b')/\W.cell? ⟨w.heap.size+1,2,none⟩=some (St c')/\W.cell? ⟨w.heap.size+1,3,none⟩=some d':=zfb h.h1
end
def zud (is neg:Bool) (Ea Eb F:Prop) (G:Int->Int->Prop) (bb:Bool) (r:Int):Prop:=
 (bb=false/\r=0/\(is=false\/neg=true))\/(is=true/\neg=false/\((bb=false/\r=4/\F)\/∃m,G m r/\bb=(decide (r=0)&&decide (m=0))/\Ea/\Eb))
theorem zta (a b c a' b' c' dp dq:List UInt8) (p p':Option Addr) (n n' k k':Nat) (is neg:Bool) (l l':List (Rat×Nat)) (Ea Eb F:Prop) (G:Int->Int->Prop) (w:zA) (HW:Hid (Wd w))
 (hz:is=true->(dp==[48])=false) (hne:0<(⟨dp.toArray⟩:ByteArray).size) (hd:((((⟨dp.toArray⟩:ByteArray)[0]'hne).toNat:Int)==45)=neg)
 (CK:Hid (∀(W:zA) (A:Nat),qL w W->W.heap[A]? =some (.cells #[St a,St b,St c,.slice p n k,St a',St b',St c',.slice p' n' k'] 26 (0,0))->qJ 44 #[.slice (some ⟨A,0,none⟩) 2 2] W (.int .i64 0)))
 (PA:Hid (qK 45 #[.agg #[St a,St b,St c],.agg #[St a',St b',St c']] (.tuple #[.bool is,.int .i64 0])))
 (D1:Hid (is=true->qK 47 #[.agg #[St a,St b,St c],.agg #[St a',St b',St c']] (.tuple #[St dp,.int .i64 0])))
 (D2:Hid (is=true->neg=false->qK 47 #[.agg #[St a',St b',St c'],.agg #[St a',St b',St c']] (.tuple #[St dq,.int .i64 0])))
 (S1:Hid (is=true->neg=false->∀W:zA,qL w W->zC zF 11 #[.slice p n k,St dq] W λe w'=>∃q n c r,e=.returned (.tuple #[.slice q n c,.int .i64 r])/\zB W.heap.size W w'/\OutR l Ea F (.slice q n c) r w'))
 (S2:Hid (is=true->neg=false->∀W:zA,qL w W->zC zF 11 #[.slice p' n' k',St dp] W λe w'=>∃q n c r,e=.returned (.tuple #[.slice q n c,.int .i64 r])/\zB W.heap.size W w'/\OutR l' Eb F (.slice q n c) r w'))
 (CM:Hid (is=true->neg=false->∀(W:zA) (u v:Value),Ea->Eb->qL w W->SdL u l W->SdL v l' W->zC zF 48 #[u,v] W λe w'=>∃m r,e=.returned (.tuple #[.int .i64 m,.int .i64 r])/\zB W.heap.size W w'/\G m r)):
 zC zF 12 #[.agg #[St a,St b,St c,.slice p n k],.agg #[St a',St b',St c',.slice p' n' k']] w λe w'=>∃bb r,e=.returned (.tuple #[.bool bb,.int .i64 r])/\zB w.heap.size w w'/\zud is neg Ea Eb F G bb r:=by
 obtain⟨v1,hv⟩:=zzX ((w.alloc (.cells #[St a,St b,St c,.slice p n k] 26)).alloc (.cells #[St a',St b',St c',.slice p' n' k'] 26));obtain⟨b1,A1,A2⟩:=box2 hv;have hsz:v1.heap.size=w.heap.size+1+1:=by rw[hv];simp
 obtain⟨k0,k1,k2,k3⟩:=zfb A1;obtain⟨j0,j1,j2,j3⟩:=zfb A2;obtain⟨v2,hv2⟩:=zzX (v1.alloc (.cells #[St a,St b,St c,.slice p n k,St a',St b',St c',.slice p' n' k'] 26));obtain⟨b2,A3⟩:=zu4 hv2;have hB:=b1.trans (b2.mono b1.size);have HT2:Hid (SmS w a b c a' b' c' (.slice p n k) (.slice p' n' k') v2):=hid ⟨hB,zac b2 _ _ _ _ A1,zac b2 _ _ _ _ A2⟩;have HC:=hid (CK.out v2 _ hB A3);rw[hsz] at HC;have HV:=hid hv.symm;have HV2:=hid hv2.symm;have HSZ:=hid hsz;obtain⟨s,hs⟩:=zzX (⟨dp.toArray⟩:ByteArray);have es:s.toList=dp:=by rw[hs,ByteArray.toList_eq]
 rw[show St dp=.string s by rw[hs]] at*
 replace hz:is=true->(s.toList==[48])=false:=λk=>by rw[es];exact hz k
 have hne2:0<s.size:=by rw[hs];exact hne
 have hd2:(((s[0]'hne2).toNat:Int)==45)=neg:=by subst hs;exact hd
 clear hv hv2 b1 b2 A1 A2 A3 hB CK hsz hd hne es hs;go_enter Tryz.func12,Tryz.ntmps12;go_wp21;have h9:=HV.out;rw[show(w.alloc (.cells #[.string ⟨a.toArray⟩,.string ⟨b.toArray⟩,.string ⟨c.toArray⟩,.slice p n k] 26)).alloc (.cells #[.string ⟨a'.toArray⟩,.string ⟨b'.toArray⟩,.string ⟨c'.toArray⟩,.slice p' n' k'] 26)=v1 from h9];clear h9 HV;go_wp21;have h9:=HV2.out;rw[show v1.alloc (.cells #[.string ⟨a.toArray⟩,.string ⟨b.toArray⟩,.string ⟨c.toArray⟩,.slice p n k,.string ⟨a'.toArray⟩,.string ⟨b'.toArray⟩,.string ⟨c'.toArray⟩,.slice p' n' k'] 26)=v2 from h9]
 try rw[HSZ.out]
 clear h9 HV2 HSZ k0 k1 k2 k3 j0 j1 j2 j3;refine zzM HC.out λw1 hb=>?_;have HT3:=hid (HT2.out.next hb);clear hb HC HT2;go_wp21;refine zbl (λ_ W=>SmS w a b c a' b' c' (.slice p n k) (.slice p' n' k') W) (by kernel_rfl) (by kernel_rfl) (HT3.out.next (zM _ _).drew) ?_;refine qR (.agg #[St a,St b,St c,.slice p n k]) ?_ (hy:=λf W' hf h=>by obtain⟨q0,q1,q2,q3⟩:=h.ca;go_simp);simp only[zzQ]
 refine zar (.agg #[St a,St b,St c]) (by rfl) (λf W' hf h C' hC'=>by
  have hg:=zcl a b c p n k W';go_simp;refine zzM hg λw' hb=>?_;exact⟨rfl,hC' _ (h.next hb)⟩) ?_
 refine qR (.agg #[St a',St b',St c',.slice p' n' k']) ?_ (hy:=λf W' hf h=>by obtain⟨q0,q1,q2,q3⟩:=h.cb;go_simp);simp only[zzQ]
 refine zar (.agg #[St a',St b',St c']) (by rfl) (λf W' hf h C' hC'=>by
  have hg:=zcl a' b' c' p' n' k' W';go_simp;refine zzM hg λw' hb=>?_;exact⟨rfl,hC' _ (h.next hb)⟩) ?_
 try simp only[zzQ]
 refine zar (.tuple #[.bool is,.int .i64 0]) (by rfl) (λf W' hf h C' hC'=>by
  have hg:=PA.out W' (HW.out.below h.bel);go_simp;refine zzM hg λw' hb=>?_;exact⟨rfl,hC' _ (h.next hb)⟩) ?_
 refine qR (.tuple #[.bool is,.int .i64 0]) ?_;refine qR (.bool is) ?_;simp only[zzQ];refine qR (.int .i64 0) ?_;refine qR (.bool is) ?_;refine qR (.int .i64 0) ?_;simp only[zzQ];refine zck λf X hf h=>?_;have HT4:=hid h;clear h hf HT3 PA;cases is
 ·clear D1 D2 S1 S2 CM hz
  go_wp21;go_ret2;exact⟨_,_,rfl,HT4.out.bel,.inl ⟨rfl,rfl,.inl rfl⟩⟩
 replace hz:=hz rfl;replace D1:=hid (D1.out rfl);replace D2:=hid (D2.out rfl);replace S1:=hid (S1.out rfl);replace S2:=hid (S2.out rfl);replace CM:=hid (CM.out rfl);go_wp21;refine zbl (λ_ W=>SmS w a b c a' b' c' (.slice p n k) (.slice p' n' k') W) (by kernel_rfl) (by kernel_rfl) (HT4.out.next (zM _ _).drew) ?_;refine qR (.agg #[St a,St b,St c,.slice p n k]) ?_ (hy:=λf W' hf h=>by obtain⟨q0,q1,q2,q3⟩:=h.ca;go_simp);simp only[zzQ]
 refine zar (.agg #[St a,St b,St c]) (by rfl) (λf W' hf h C' hC'=>by
  have hg:=zcl a b c p n k W';go_simp;refine zzM hg λw' hb=>?_;exact⟨rfl,hC' _ (h.next hb)⟩) ?_
 refine qR (.agg #[St a',St b',St c',.slice p' n' k']) ?_ (hy:=λf W' hf h=>by obtain⟨q0,q1,q2,q3⟩:=h.cb;go_simp);simp only[zzQ]
 refine zar (.agg #[St a',St b',St c']) (by rfl) (λf W' hf h C' hC'=>by
  have hg:=zcl a' b' c' p' n' k' W';go_simp;refine zzM hg λw' hb=>?_;exact⟨rfl,hC' _ (h.next hb)⟩) ?_
 try simp only[zzQ]
 refine zar (.tuple #[.string s,.int .i64 0]) (by rfl) (λf W' hf h C' hC'=>by
  have hg:=D1.out W' (HW.out.below h.bel);go_simp;refine zzM hg λw' hb=>?_;exact⟨rfl,hC' _ (h.next hb)⟩) ?_
 refine qR (.tuple #[.string s,.int .i64 0]) ?_;refine qR (.string s) ?_;simp only[zzQ];refine qR (.int .i64 0) ?_;refine qR (.string s) ?_;refine qR (.int .i64 0) ?_;simp only[zzQ];refine zck λf X hf h=>?_;have HT5:=hid h;clear h hf HT4 D1;cases neg
 ·have HD2:=hid (D2.out rfl);have HS1:=hid (S1.out rfl);have HS2:=hid (S2.out rfl);have HCM:=hid (CM.out rfl)
  clear D2 S1 S2 CM;go_wp21;refine zbl (λ_ W=>SmS w a b c a' b' c' (.slice p n k) (.slice p' n' k') W) (by kernel_rfl) (by kernel_rfl) (HT5.out.next (zM _ _).drew) ?_;refine qR (.agg #[St a',St b',St c',.slice p' n' k']) ?_ (hy:=λf W' hf h=>by obtain⟨q0,q1,q2,q3⟩:=h.cb;go_simp);simp only[zzQ]
  refine zar (.agg #[St a',St b',St c']) (by rfl) (λf W' hf h C' hC'=>by
   have hg:=zcl a' b' c' p' n' k' W';go_simp;refine zzM hg λw' hb=>?_;exact⟨rfl,hC' _ (h.next hb)⟩) ?_
  refine qR (.agg #[St a',St b',St c',.slice p' n' k']) ?_ (hy:=λf W' hf h=>by obtain⟨q0,q1,q2,q3⟩:=h.cb;go_simp);simp only[zzQ]
  refine zar (.agg #[St a',St b',St c']) (by rfl) (λf W' hf h C' hC'=>by
   have hg:=zcl a' b' c' p' n' k' W';go_simp;refine zzM hg λw' hb=>?_;exact⟨rfl,hC' _ (h.next hb)⟩) ?_
  try simp only[zzQ]
  refine zar (.tuple #[St dq,.int .i64 0]) (by rfl) (λf W' hf h C' hC'=>by
   have hg:=HD2.out W' (HW.out.below h.bel);go_simp;refine zzM hg λw' hb=>?_;exact⟨rfl,hC' _ (h.next hb)⟩) ?_
  refine qR (.tuple #[St dq,.int .i64 0]) ?_;refine qR (St dq) ?_;simp only[zzQ];refine qR (.int .i64 0) ?_;refine qR (St dq) ?_;refine qR (.int .i64 0) ?_;simp only[zzQ];refine zck λf X hf h=>?_;have HT6:=hid h;clear h hf HT5 HD2;obtain⟨k0,k1,k2,k3⟩:=HT6.out.ca;have HS:=hid (HS1.out X HT6.out.bel);clear HS1;go_wp21;clear k0 k1 k2 k3;refine HS.out.mono ?_;rintro e w2 ⟨u1,u2,u3,er,rfl,hb,hu⟩;have HT7:=hid (HT6.out.next hb);rcases hu with⟨rfl,hu,hE⟩|⟨rfl,hu,hF⟩
  rotate_left
  ·have HF:=hid hF
   clear hb hu HS HT6 hF HS2 HCM;go_wp21;go_ret2;exact⟨_,_,rfl,HT7.out.bel,.inr ⟨rfl,rfl,.inl ⟨rfl,rfl,HF.out⟩⟩⟩
  have HU:=hid hu;have HE1:=hid hE;clear hb hu HS HT6 hE;obtain⟨k0,k1,k2,k3⟩:=HT7.out.cb;have HS:=hid (HS2.out w2 HT7.out.bel);clear HS2;go_wp21;clear k0 k1 k2 k3;refine HS.out.mono ?_;rintro e w3 ⟨v1',v2',v3',er,rfl,hb,hv⟩;have HT8:=hid (HT7.out.next hb);rcases hv with⟨rfl,hv,hE⟩|⟨rfl,hv,hF⟩
  rotate_left
  ·have HF:=hid hF
   clear hb hv HS HT7 hF HU HE1 HCM;go_wp21;go_ret2;exact⟨_,_,rfl,HT8.out.bel,.inr ⟨rfl,rfl,.inl ⟨rfl,rfl,HF.out⟩⟩⟩
  have HC:=hid (HCM.out w3 _ _ HE1.out hE HT8.out.bel (HU.out.below hb) hv);have HE2:=hid hE;clear hb hv HS HT7 HU HCM hE;go_wp21;refine HC.out.mono ?_;rintro e w4 ⟨m,r,rfl,hb,hG⟩;have HB:=hid (HT8.out.bel.trans (hb.mono HT8.out.bel.size));have HG:=hid hG;clear hb HC hG;have hr:decide (r=0)=true\/decide (r=0)=false:=by cases decide (r=0)<;>simp
  rcases hr with hr|hr
  ·obtain rfl:r=0:=of_decide_eq_true hr
   clear hr;go_wp21;go_ret2;exact⟨_,_,rfl,HB.out,.inr ⟨rfl,rfl,.inr ⟨m,HG.out,by simp;rfl,HE1.out,HE2.out⟩⟩⟩
  ·have hr:¬r=0:=of_decide_eq_false hr
   go_wp21;go_ret2;exact⟨_,_,rfl,HB.out,.inr ⟨rfl,rfl,.inr ⟨m,HG.out,by simp[hr],HE1.out,HE2.out⟩⟩⟩
 ·clear D2 S1 S2 CM
  go_wp21;go_ret2;exact⟨_,_,rfl,HT5.out.bel,.inl ⟨rfl,rfl,.inr rfl⟩⟩
end
section
open Go.RowKit Go.Shelf Lib Str Limb
attribute [local go_sem] Oper.semAt_some
end
section
open Go.RowKit Go.Shelf Lib Str Limb
end
section
open Go.RowKit Go.Shelf Lib Str Limb
attribute [local go_sem] Oper.semAt_some
theorem z7i (p:Option Addr) (cap n j:Nat) (rr:Int) (hrr:(rr==0)=false) (X Y Z:Nat->List UInt8) (D:Nat->Value) (hn:n<=5000) (hj:j<n) (hD:∀i,i<n->∃q m c,D i=.slice q m c) (w:zA)
 (CK:Hid (∀i,i<=j->∀W:zA,qL w W->qJ 106 #[.agg #[St (X i),St (Y i),St (Z i),D i]] W (.int .i64 (if i=j then rr else 0)))) (HP:Hid (RowHf p n X Y Z D w)):
 qJ 44 #[.slice p n cap] w (.int .i64 1):=by
 have D0:=hid (zM w.heap.size w);go_enter Tryz.func44,Tryz.ntmps44;go_wp21;go_loopw [7] (λi wr=>∃(k:Nat),k<=j/\i=.int .i64 (k:Int)/\Hid (qL w wr))
  (λi _=>n-(zL i).toNat)
 case atStart=>exact⟨0,zR _,rfl,D0⟩
 case round=>
  clear D0;obtain⟨k,hk,rfl,hB⟩:=hrel;have hlt:k<n:=by omega
  obtain⟨b,off,rfl,c0,c1,c2,c3⟩:=(HP.out.keep (zac hB.out)) k hlt;have hc:=CK.out k hk;obtain⟨q,m,c,hd⟩:=hD k hlt;rw[hd] at c3 hc;generalize X k=x at*
  generalize Y k=y at*
  generalize Z k=z at*
  obtain⟨v1,hv⟩:=zzX (wr.alloc (.cells #[.string ⟨x.toArray⟩,.string ⟨y.toArray⟩,.string ⟨z.toArray⟩,.slice q m c] 26));obtain⟨a1, -⟩:=zu4 hv;have hE:=hB.out.trans (a1.mono hB.out.size);have HE:=hid hE;have HK:=hid (hc v1 hE);have HV:=hid hv.symm;clear hv a1 hE hd hc;go_wp21;have h9:=HV.out;rw[h9];clear h9 HV c0 c1 c2 c3;refine zzM HK.out λw2 hb2=>?_;have hB2:=qT HE hb2;clear hb2 HK HE;by_cases hkj:k=j
  ·rw[if_pos hkj]
   go_wp21;go_ret;exact⟨rfl,hB2.out⟩
  ·rw[if_neg hkj]
   go_wp21;go_roundw
   case rel=>exact⟨k+1,by omega,by go_num,hB2⟩
   case measure=>simp[zL];omega
theorem z8r (a b c a' b' c':List UInt8) (p p':Option Addr) (n n' k k':Nat) (w:zA)
 (CK:Hid (∀(W:zA) (A:Nat),qL w W->W.heap[A]? =some (.cells #[St a,St b,St c,.slice p n k,St a',St b',St c',.slice p' n' k'] 26 (0,0))->qJ 44 #[.slice (some ⟨A,0,none⟩) 2 2] W (.int .i64 1))):
 qJ 12 #[.agg #[St a,St b,St c,.slice p n k],.agg #[St a',St b',St c',.slice p' n' k']] w (.tuple #[.bool false,.int .i64 1]):=by
 obtain⟨v1,hv⟩:=zzX ((w.alloc (.cells #[.string ⟨a.toArray⟩,.string ⟨b.toArray⟩,.string ⟨c.toArray⟩,.slice p n k] 26)).alloc (.cells #[.string ⟨a'.toArray⟩,.string ⟨b'.toArray⟩,.string ⟨c'.toArray⟩,.slice p' n' k'] 26));obtain⟨b1,A1,A2⟩:=box2 hv;have hsz:v1.heap.size=w.heap.size+1+1:=by rw[hv];simp
 obtain⟨k0,k1,k2,k3⟩:=zfb A1;obtain⟨j0,j1,j2,j3⟩:=zfb A2;obtain⟨v2,hv2⟩:=zzX (v1.alloc (.cells #[.string ⟨a.toArray⟩,.string ⟨b.toArray⟩,.string ⟨c.toArray⟩,.slice p n k,.string ⟨a'.toArray⟩,.string ⟨b'.toArray⟩,.string ⟨c'.toArray⟩,.slice p' n' k'] 26));obtain⟨b2,A3⟩:=zu4 hv2;have hB:=b1.trans (b2.mono b1.size);have HB:=hid hB;have HC:=hid (CK.out v2 _ hB A3);rw[hsz] at HC;have HV:=hid hv.symm;have HV2:=hid hv2.symm;have HSZ:=hid hsz;clear hv hv2 b1 b2 A1 A2 A3 hB CK hsz;go_enter Tryz.func12,Tryz.ntmps12;go_wp21;have h9:=HV.out;rw[h9];clear h9 HV;go_wp21;have h9:=HV2.out;rw[h9]
 try rw[HSZ.out]
 clear h9 HV2 HSZ k0 k1 k2 k3 j0 j1 j2 j3;refine zzM HC.out λw1 hb=>?_;have HE:=qT HB hb;clear hb;go_wp21;go_ret2;exact⟨rfl,HE.out⟩
end
section
open Go.RowKit Go.Shelf Lib Str Limb
theorem zb0 (x:Rat):(x.num:Rat)=x*(x.den:Rat):=by
 have h:=Rat.num_divInt_den x;rw[Rat.divInt_eq_div] at h;have h0:((x.den:Int):Rat)≠0:=by
  have:=x.den_nz;exact_mod_cast this
 have h1:(x.num:Rat)=x*((x.den:Int):Rat):=by
  conv=>rhs;rw[<-h]
  grind
 exact_mod_cast h1
theorem zlx (q:Rat):0<=rt q:=by
 unfold rt;have h1:(0:Rat)<=((isq q.num.natAbs:Nat):Rat):=by exact_mod_cast zR _
 rcases Nat.eq_zero_or_pos (isq q.den) with h|h
 ·rw[h,show(((0:Nat)):Rat)=0 from rfl,Rat.div_def,Rat.inv_zero,Rat.mul_zero];exact Rat.le_refl
 ·rw[Rat.div_def]
  exact Rat.mul_nonneg h1 (Rat.le_of_lt (Rat.inv_pos.2 (by exact_mod_cast h)))
theorem zr7 {x y:Rat} (hx:0<=x) (h:x<y):x*x<y*y:=by
 have h1:=Rat.mul_lt_mul_of_pos_left h (show 0<y by grind);have h2:=Rat.mul_le_mul_of_nonneg_right (Rat.le_of_lt h) hx;grind
theorem zo7 {x y:Rat} (hx:0<=x) (hy:0<=y) (h:x*x=y*y):x=y:=by
 have h3:x<y\/x=y\/y<x:=by grind
 rcases h3 with k|k|k
 ·have:=zr7 hx k;grind
 ·exact k
 ·have:=zr7 hy k;grind
theorem ztk {p:Rat} (hp:0<p):rt (p/p)=1:=
 zo7 (zlx _) (by decide) (by rw[zxd (div_pos hp hp) (zx1 hp)];grind)
theorem zsa {p q r:Rat} (hp:0<p) (hq:0<q) (hr:0<r) (h:z5c p q=true) (k:z5c q r=true):rt (p/q)*rt (q/r)=rt (p/r):=by
 refine zo7 (Rat.mul_nonneg (zlx _) (zlx _)) (zlx _) ?_;have h1:=zxd (div_pos hp hq) h;have h2:=zxd (div_pos hq hr) k;rw[zxd (div_pos hp hr) (zw8 hp hq hr h k)];generalize rt (p/q)=x at h1⊢;generalize rt (q/r)=y at h2⊢;grind
def ph1 (r:Nat) (t:Rat×Nat):Rat:=if z5c (t.2:Rat) (r:Rat)=true then t.1*rt ((t.2:Rat)/(r:Rat)) else 0
def phi (r:Nat):List (Rat×Nat)->Rat
 |[]=>0
 |t::l=>ph1 r t+phi r l
theorem zo8 (r:Nat):∀l m:List (Rat×Nat),phi r (l++m)=phi r l+phi r m
 |[],m=>by rw[List.nil_append,show phi r []=0 from rfl,Rat.zero_add]
 |t::l,m=>by rw[List.cons_append,show phi r (t::(l++m))=ph1 r t+phi r (l++m) from rfl,zo8 r l m,show phi r (t::l)=ph1 r t+phi r l from rfl,Rat.add_assoc]
theorem ztl (r:Nat) (t:Rat×Nat) (c:Rat):ph1 r (t.1*c,t.2)=ph1 r t*c:=by
 unfold ph1;dsimp only;split
 ·grind
 ·rw[Rat.zero_mul]
theorem zpm (r:Nat) (c:Rat):∀l:List (Rat×Nat),phi r (sclL l c)=phi r l*c
 |[]=>by rw[show phi r []=0 from rfl,Rat.zero_mul];rfl
 |t::l=>by
  rw[show phi r (sclL (t::l) c)=ph1 r (t.1*c,t.2)+phi r (sclL l c) from rfl,zpm r c l,ztl,show phi r (t::l)=ph1 r t+phi r l from rfl,Rat.add_mul]
theorem zfq (r:Nat) (c:Rat) (l:List (Rat×Nat)):phi r (sclR l c)=phi r l*c:=by
 unfold sclR;split
 ·rename_i h;rw[h,Rat.mul_zero];rfl
 ·exact zpm r c l
theorem zt5 {r:Nat} (hr:0<r) {c t:Rat×Nat} (hc:(0:Rat)<(c.2:Rat)) (ht:(0:Rat)<(t.2:Rat)) (h:z5c (t.2:Rat) (c.2:Rat)=true):ph1 r (plG c t)=ph1 r c+ph1 r t:=by
 have hr':(0:Rat)<(r:Rat):=by exact_mod_cast hr
 have h':=zu5 ht hc h;unfold plG;split
 ·unfold ph1
  dsimp only;by_cases k:z5c (t.2:Rat) (r:Rat)=true
  ·rw[if_pos k,if_pos k,if_pos (zw8 hc ht hr' h' k),<-zsa hc ht hr' h' k]
   grind
  ·rw[if_neg k,if_neg k,if_neg (λe=>k (zw8 ht hc hr' h e)),Rat.add_zero]
 ·unfold ph1
  dsimp only;by_cases k:z5c (c.2:Rat) (r:Rat)=true
  ·rw[if_pos k,if_pos k,if_pos (zw8 ht hc hr' h k),<-zsa ht hc hr' h k]
   grind
  ·rw[if_neg k,if_neg k,if_neg (λe=>k (zw8 hc ht hr' h' e)),Rat.add_zero]
theorem zsg {r:Nat} (hr:0<r) {t:Rat×Nat} (ht:(0:Rat)<(t.2:Rat)):∀{l:List (Rat×Nat)},PosR l->phi r (gaG l t)=phi r l+ph1 r t
 |[],_=>by show ph1 r t+0=0+ph1 r t;rw[Rat.add_zero,Rat.zero_add]
 |c::l,h=>by
  have hc:=h c (yD ..);unfold gaG;split
  ·rename_i k
   show ph1 r (plG c t)+phi r l=ph1 r c+phi r l+ph1 r t;rw[zt5 hr hc ht k];grind
  ·show ph1 r c+phi r (gaG l t)=ph1 r c+phi r l+ph1 r t
   rw[zsg hr ht λd hd=>h d (List.mem_cons_of_mem _ hd)];grind
theorem zs8 {r:Nat} (hr:0<r):∀{T A:List (Rat×Nat)},PosR A->PosR T->phi r (T.foldl gaG A)=phi r A+phi r T
 |[],A,_,_=>by rw[List.foldl_nil,show phi r []=0 from rfl,Rat.add_zero]
 |t::T,A,hA,hT=>by
  have ht:=hT t (yD ..);have hA':PosR (gaG A t):=λc hc=>by
   rcases z44 hc with⟨d,hd,e⟩|e
   ·rw[<-e];exact hA d hd
   ·rw[<-e];exact ht
  rw[List.foldl_cons,zs8 hr hA' λc hc=>hT c (List.mem_cons_of_mem _ hc),zsg hr ht hA];show _=phi r A+(ph1 r t+phi r T);grind
theorem ze2 (r:Nat):∀l:List (Rat×Nat),phi r (l.filter λc=>!decide (c.1=0))=phi r l
 |[]=>rfl
 |t::l=>by
  rw[List.filter_cons];by_cases h:t.1=0
  ·rw[if_neg (by simp[h]),ze2 r l]
   show _=ph1 r t+phi r l;have:ph1 r t=0:=by unfold ph1;rw[h,Rat.zero_mul,ite_self]
   rw[this,Rat.zero_add]
  ·rw[if_pos (by simp[h])]
   show ph1 r t+phi r _=ph1 r t+phi r l;rw[ze2 r l]
theorem zpq (r:Nat) (t:Rat×Nat):∀l:List (Rat×Nat),phi r (insS t l)=ph1 r t+phi r l
 |[]=>rfl
 |c::l=>by
  unfold insS;split
  ·rfl
  ·show ph1 r c+phi r (insS t l)=ph1 r t+(ph1 r c+phi r l)
   rw[zpq r t l];grind
theorem zqg (r:Nat):∀l:List (Rat×Nat),phi r (srtS l)=phi r l
 |[]=>rfl
 |t::l=>by rw[show srtS (t::l)=insS t (srtS l) from rfl,zpq,zqg r l];rfl
theorem zuc {r:Nat} (hr:0<r) {T:List (Rat×Nat)} (hT:PosR T):phi r (mkG T)=phi r T:=by
 unfold mkG keG;rw[zqg,ze2,zs8 hr (λ_ h=>by cases h) hT,show phi r []=0 from rfl,Rat.zero_add]
theorem znu (r:Nat):∀{l:List (Rat×Nat)},(∀t∈l,z5c (t.2:Rat) (r:Rat)=false)->phi r l=0
 |[],_=>rfl
 |t::l,h=>by
  show ph1 r t+phi r l=0;rw[znu r λc hc=>h c (List.mem_cons_of_mem _ hc)];unfold ph1;rw[h t (yD ..),if_neg (by decide),Rat.add_zero]
theorem zqk:∀{l:List (Rat×Nat)},ULs l->PosR l->∀c∈l,phi c.2 l=c.1
 |[],_,_,c,h=>by cases h
 |t::l,hu,hp,c,h=>by
  show ph1 c.2 t+phi c.2 l=c.1;have hu':ULs l:=λi k a b hik ha hb=>hu (i+1) (k+1) a b (by omega) (by simpa using ha) (by simpa using hb);have hp':PosR l:=λa ha=>hp a (List.mem_cons_of_mem _ ha);have at_:∀{a:Rat×Nat},a∈l->∃i,l[i]? =some a:=λha=>List.mem_iff_getElem?.1 ha;rcases List.mem_cons.1 h with rfl|hc
  ·rw[znu c.2 λa ha=>by
    obtain⟨i,hi⟩:=at_ ha;exact hu 0 (i+1) c a (by omega) rfl (by simpa using hi)]
   have:=hp c (yD ..);unfold ph1;rw[zx1 this,if_pos rfl,ztk this];grind
  ·rw[zqk hu' hp' c hc]
   obtain⟨i,hi⟩:=at_ hc;have:=hu (i+1) 0 c t (by omega) (by simpa using hi) rfl;unfold ph1;rw[this];simp;exact Rat.zero_add _
theorem zn6 {T:List (Rat×Nat)} (hT:PosR T):PosR (mkG T):=λc hc=>(zw2 hT T.length).2 c (zx8 hc).1
theorem ztn {T:List (Rat×Nat)} (hT:PosR T):ULs (mkG T):=λi k t u hik ht hu=>by
 have hi:IncS (mkG T):=zxo (z1u hT);refine z5s (zw2 hT T.length).1 t (zx8 (List.mem_of_getElem? ht)).1 u (zx8 (List.mem_of_getElem? hu)).1 λe=>?_;subst e;rcases Nat.lt_or_ge i k with h|h
 ·have:=zz3 hi h ht hu;omega
 ·have:=zz3 hi (by omega:k<i) hu ht;omega
theorem zt0 {T:List (Rat×Nat)} (hT:PosR T) (h:∀r,0<r->phi r T=0):mkG T=[]:=by
 rcases hm:mkG T with _|⟨c,l⟩
 ·rfl
 ·have hc:c∈mkG T:=by rw[hm];exact yD ..
  have hp:=zn6 hT c hc;have hr:0<c.2:=by exact_mod_cast hp
  have:=zqk (ztn hT) (zn6 hT) c hc;rw[zuc hr hT,h _ hr] at this;exact absurd this.symm (zx8 hc).2
theorem ztb {l m:List (Rat×Nat)} (hl:PosR l) (hm:PosR m):PosR (l++m):=λt ht=>(List.mem_append.1 ht).elim (hl t) (hm t)
theorem zth {l:List (Rat×Nat)} (h:PosR l) (c:Rat):PosR (sclL l c):=λt ht=>by
 obtain⟨u,hu,rfl⟩:=List.mem_map.1 ht;exact h u hu
def Bd (f:Nat->Rat):Prop:=∃K:Rat,∀q, -K<=f q/\f q<=K
theorem Bd.add {f g:Nat->Rat} (hf:Bd f) (hg:Bd g):Bd λq=>f q+g q:=by
 obtain⟨K,h⟩:=hf;obtain⟨L,k⟩:=hg;exact⟨K+L,λq=>by have:=h q;have:=k q;constructor<;>grind⟩
theorem Bd.neg {f:Nat->Rat} (hf:Bd f):Bd λq=> -f q:=by
 obtain⟨K,h⟩:=hf;exact⟨K,λq=>by have:=h q;constructor<;>grind⟩
theorem Bd.zero:Bd λ_=>0:=⟨0,λ_=>by constructor<;>grind⟩
theorem Bd.congr {f g:Nat->Rat} (hf:Bd f) (h:∀q,g q=f q):Bd g:=by
 obtain⟨K,k⟩:=hf;exact⟨K,λq=>by rw[h];exact k q⟩
theorem Bd.smul {f:Nat->Rat} (hf:Bd f) (c:Rat):Bd λq=>c*f q:=by
 obtain⟨K,h⟩:=hf;rcases(show 0<=c\/0<= -c by grind) with hc|hc
 ·refine⟨c*K,λq=>?_⟩
  have h1:=Rat.mul_le_mul_of_nonneg_left (h q).1 hc;have h2:=Rat.mul_le_mul_of_nonneg_left (h q).2 hc;constructor<;>grind
 ·refine⟨-c*K,λq=>?_⟩
  have h1:=Rat.mul_le_mul_of_nonneg_left (h q).1 hc;have h2:=Rat.mul_le_mul_of_nonneg_left (h q).2 hc;constructor<;>grind
def rtF (r q:Nat):Nat:=isq (r*10^(2*q))
theorem z8h {a b r s:Nat} (h:b*b*r=a*a*s) (q:Nat):a*rtF s q<=b*rtF r q+b/\b*rtF r q<=a*rtF s q+a:=by
 obtain⟨r1,r2⟩:=zv0 (r*10^(2*q));obtain⟨s1,s2⟩:=zv0 (s*10^(2*q));unfold rtF;generalize isq (r*10^(2*q))=x at*
 generalize isq (s*10^(2*q))=y at*
 generalize 10^(2*q)=M at*
 have e:b*b*(r*M)=a*a*(s*M):=by rw[<-Nat.mul_assoc,h,Nat.mul_assoc]
 constructor
 ·refine z41 ?_
  calc a*y*(a*y)=a*a*(y*y):=by ac_rfl
   _<=a*a*(s*M):=Nat.mul_le_mul_left _ s1
   _=b*b*(r*M):=e.symm
   _<=b*b*((x+1)*(x+1)):=Nat.mul_le_mul_left _ (Nat.le_of_lt r2)
   _=(b*x+b)*(b*x+b):=by rw[show b*x+b=b*(x+1) by rw[Nat.mul_add,Nat.mul_one]];ac_rfl
 ·refine z41 ?_
  calc b*x*(b*x)=b*b*(x*x):=by ac_rfl
   _<=b*b*(r*M):=Nat.mul_le_mul_left _ r1
   _=a*a*(s*M):=e
   _<=a*a*((y+1)*(y+1)):=Nat.mul_le_mul_left _ (Nat.le_of_lt s2)
   _=(a*y+a)*(a*y+a):=by rw[show a*y+a=a*(y+1) by rw[Nat.mul_add,Nat.mul_one]];ac_rfl
theorem z9o (n r q:Nat):n*rtF r q<=isq (n*n*r*10^(2*q))+1/\isq (n*n*r*10^(2*q))<=n*rtF r q+n:=by
 have h:=z8h (a:=n) (b:=1) (r:=n*n*r) (s:=r) (by simp) q;rw[Nat.one_mul] at h;exact h
theorem z64 {x m d:Rat} (hd:1<=d) (hm:0<=m) (h:x*d<=m):x<=m:=by
 rcases(show x<=m\/m<x by grind) with k|k
 ·exact k
 ·have:=Rat.mul_le_mul_of_nonneg_left hd (show 0<=x by grind)
  grind
theorem z82 {c:Rat} {m d s z y:Nat} (hd:0<d) (hc:c*(d:Rat)=(m:Rat)) (h1:m*y<=s+1) (h2:s<=m*y+m) (a1:z*d<=s) (a2:s<(z+1)*d): -2<=(z:Rat)-c*(y:Rat)/\(z:Rat)-c*(y:Rat)<=(m:Rat):=by
 have hd1:(1:Rat)<=(d:Rat):=by exact_mod_cast hd
 have b1:(m:Rat)*(y:Rat)<=(s:Rat)+1:=by exact_mod_cast h1
 have b2:(s:Rat)<=(m:Rat)*(y:Rat)+(m:Rat):=by exact_mod_cast h2
 have b3:(z:Rat)*(d:Rat)<=(s:Rat):=by exact_mod_cast a1
 have b4:(s:Rat)<((z:Rat)+1)*(d:Rat):=by exact_mod_cast a2
 have b5:(0:Rat)<=(m:Rat):=by exact_mod_cast zR m
 have e:c*(y:Rat)*(d:Rat)=(m:Rat)*(y:Rat):=by rw[<-hc];grind
 generalize (m:Rat)=M at*
 generalize (d:Rat)=D at*
 generalize (s:Rat)=S at*
 generalize (z:Rat)=Z at*
 generalize (y:Rat)=Y at*
 constructor
 ·have:=z64 (x:= -(Z-c*Y+1)) (m:=1) hd1 (by decide) (by grind)
  grind
 ·exact z64 hd1 b5 (by grind)
theorem z63 (t:Rat×Nat):Bd λq=>((flT t q:Int):Rat)-t.1*((rtF t.2 q:Nat):Rat):=by
 obtain⟨c,r⟩:=t;have hd:0<c.den:=c.den_pos;have nd:=zb0 c;refine⟨((c.num.natAbs:Nat):Rat)+3,λq=>?_⟩;obtain⟨h1,h2⟩:=z9o c.num.natAbs r q;have h3:c.num.natAbs*c.num.natAbs*r*10^(2*q)=trN (c,r) q:=rfl;rw[h3] at h1 h2;have b5:(0:Rat)<=((c.num.natAbs:Nat):Rat):=by exact_mod_cast zR _
 show-_<=((floT c (isq (trN (c,r) q)) (trN (c,r) q):Int):Rat)-c*((rtF r q:Nat):Rat)/\((floT c (isq (trN (c,r) q)) (trN (c,r) q):Int):Rat)-c*((rtF r q:Nat):Rat)<=_;unfold floT;have a1:isq (trN (c,r) q)/c.den*c.den<=isq (trN (c,r) q):=Nat.div_mul_le_self _ _;have a2:isq (trN (c,r) q)<(isq (trN (c,r) q)/c.den+1)*c.den:=by
  have:=Nat.lt_div_mul_add hd (a:=isq (trN (c,r) q));rw[Nat.add_mul,Nat.one_mul];exact this
 by_cases hn:c.num<0
 ·rw[if_pos hn]
  have e: -c*(c.den:Rat)=((c.num.natAbs:Nat):Rat):=by
   have e1:((c.num.natAbs:Nat):Int)= -c.num:=by omega
   have e2:((c.num.natAbs:Nat):Rat)=((-c.num:Int):Rat):=by rw[<-e1];rfl
   rw[e2,Rat.intCast_neg,nd];grind
  have k:=z82 (c:= -c) hd e h1 h2 a1 a2;generalize isq (trN (c,r) q)/c.den=z at*
  have h01:∃ε:Nat,ε<=1/\(if isq (trN (c,r) q)*isq (trN (c,r) q)=trN (c,r) q/\isq (trN (c,r) q)%c.den=0 then 0 else 1)=ε:=by split;exact⟨0,by omega,rfl⟩;exact⟨1,by omega,rfl⟩
  obtain⟨ε,he,hε⟩:=h01;rw[hε,Rat.intCast_neg,Rat.intCast_natCast,Rat.natCast_add];have he1:(ε:Rat)<=1:=by exact_mod_cast he
  have he0:(0:Rat)<=(ε:Rat):=by exact_mod_cast zR ε
  generalize (ε:Rat)=E at*
  constructor<;>grind
 ·rw[if_neg hn]
  have e:c*(c.den:Rat)=((c.num.natAbs:Nat):Rat):=by
   have e1:((c.num.natAbs:Nat):Int)=c.num:=by omega
   have e2:((c.num.natAbs:Nat):Rat)=((c.num:Int):Rat):=by rw[<-e1];rfl
   rw[e2,nd]
  have k:=z82 hd e h1 h2 a1 a2;rw[Rat.intCast_natCast];constructor<;>grind
def vZ (l:List (Rat×Nat)) (q:Nat):Rat:=((valZ l q:Int):Rat)
theorem z68 (q:Nat):vZ [] q=0:=rfl
theorem z60 (t:Rat×Nat) (l:List (Rat×Nat)) (q:Nat):vZ (t::l) q=((flT t q:Int):Rat)+vZ l q:=by
 show(((flT t q+valZ l q:Int)):Rat)=_;rw[Rat.intCast_add];rfl
theorem z71 (l m:List (Rat×Nat)) (q:Nat):vZ (l++m) q=vZ l q+vZ m q:=by
 unfold vZ;rw[z0a,Rat.intCast_add]
theorem z83 {r s:Nat} (hr:0<r) (hs:0<s) (h:z5c (r:Rat) (s:Rat)=true):Bd λq=>((rtF r q:Nat):Rat)-rt ((r:Rat)/(s:Rat))*((rtF s q:Nat):Rat):=by
 have hr':(0:Rat)<(r:Rat):=by exact_mod_cast hr
 have hs':(0:Rat)<(s:Rat):=by exact_mod_cast hs
 have e:=zxd (div_pos hr' hs') h;have hk:=zlx ((r:Rat)/(s:Rat));generalize rt ((r:Rat)/(s:Rat))=k at*
 have hd:0<k.den:=k.den_pos;have nd:=zb0 k;have hn:0<=k.num:=Rat.num_nonneg.2 hk;have e2:((k.num.natAbs:Nat):Rat)=k*(k.den:Rat):=by
  rw[<-nd];have:((k.num.natAbs:Nat):Int)=k.num:=Int.natAbs_of_nonneg hn;exact_mod_cast congrArg (Int.cast (R:=Rat)) this
 have hb:k.den*k.den*r=k.num.natAbs*k.num.natAbs*s:=by
  have:(k.den:Rat)*(k.den:Rat)*(r:Rat)=((k.num.natAbs:Nat):Rat)*((k.num.natAbs:Nat):Rat)*(s:Rat):=by
   rw[e2];have e3:k*k*(s:Rat)=(r:Rat):=by rw[e];grind
   rw[<-e3];grind
  exact_mod_cast this
 refine⟨1+((k.num.natAbs:Nat):Rat),λq=>?_⟩;dsimp only;obtain⟨h1,h2⟩:=z8h hb q;have hd1:(1:Rat)<=(k.den:Rat):=by exact_mod_cast hd
 have b1:((k.num.natAbs:Nat):Rat)*((rtF s q:Nat):Rat)<=(k.den:Rat)*((rtF r q:Nat):Rat)+(k.den:Rat):=by exact_mod_cast h1
 have b2:(k.den:Rat)*((rtF r q:Nat):Rat)<=((k.num.natAbs:Nat):Rat)*((rtF s q:Nat):Rat)+((k.num.natAbs:Nat):Rat):=by exact_mod_cast h2
 have b3:(0:Rat)<=((k.num.natAbs:Nat):Rat):=by exact_mod_cast zR _
 generalize ((rtF r q:Nat):Rat)=x at*
 generalize ((rtF s q:Nat):Rat)=y at*
 generalize ((k.num.natAbs:Nat):Rat)=m at*
 generalize (k.den:Rat)=d at*
 constructor
 ·have:=z64 (x:= -(x-k*y+1)) (m:=0) hd1 (by decide) (by rw[e2] at b1;grind)
  grind
 ·have:=z64 (x:=x-k*y) hd1 b3 (by rw[e2] at b2⊢;grind)
  grind
theorem yaj {c t:Rat×Nat} (hc:0<c.2) (ht:0<t.2) (h:z5c (t.2:Rat) (c.2:Rat)=true):Bd λq=>((flT (plG c t) q:Int):Rat)-(((flT c q:Int):Rat)+((flT t q:Int):Rat)):=by
 have hc':(0:Rat)<(c.2:Rat):=by exact_mod_cast hc
 have ht':(0:Rat)<(t.2:Rat):=by exact_mod_cast ht
 unfold plG;split
 ·refine((z63 (t.1+c.1*rt ((c.2:Rat)/(t.2:Rat)),t.2)).add (((z63 c).add (z63 t)).neg.add ((z83 hc ht (zu5 ht' hc' h)).smul c.1).neg)).congr λq=>?_
  dsimp only;grind
 ·refine((z63 (c.1+t.1*rt ((t.2:Rat)/(c.2:Rat)),c.2)).add (((z63 c).add (z63 t)).neg.add ((z83 ht hc h).smul t.1).neg)).congr λq=>?_
  dsimp only;grind
theorem z84 {t:Rat×Nat} (ht:(0:Rat)<(t.2:Rat)):∀{l:List (Rat×Nat)},PosR l->Bd λq=>vZ (gaG l t) q-(vZ l q+((flT t q:Int):Rat))
 |[],_=>Bd.zero.congr λq=>by show vZ [t] q-_=0;rw[z60,z68];grind
 |c::l,h=>by
  have hc:=h c (yD ..);unfold gaG;split
  ·rename_i k
   exact(yaj (by exact_mod_cast hc) (by exact_mod_cast ht) k).congr λq=>by rw[z60,z60];grind
  ·exact(z84 ht λd hd=>h d (List.mem_cons_of_mem _ hd)).congr λq=>by rw[z60,z60];grind
theorem z86:∀{T A:List (Rat×Nat)},PosR A->PosR T->Bd λq=>vZ (T.foldl gaG A) q-(vZ A q+vZ T q)
 |[],A,_,_=>Bd.zero.congr λq=>by rw[List.foldl_nil,z68];grind
 |t::T,A,hA,hT=>by
  have ht:=hT t (yD ..);have hA':PosR (gaG A t):=λc hc=>by
   rcases z44 hc with⟨d,hd,e⟩|e
   ·rw[<-e];exact hA d hd
   ·rw[<-e];exact ht
  rw[List.foldl_cons];exact((z86 hA' λc hc=>hT c (List.mem_cons_of_mem _ hc)).add (z84 ht hA)).congr λq=>by rw[z60];grind
theorem yak (r q:Nat):flT (0,r) q=0:=by
 unfold flT floT trN;simp[isq];rfl
theorem z7q (q:Nat):∀l:List (Rat×Nat),vZ (l.filter λc=>!decide (c.1=0)) q=vZ l q
 |[]=>rfl
 |t::l=>by
  rw[List.filter_cons];by_cases h:t.1=0
  ·rw[if_neg (by simp[h]),z7q q l,z60]
   have:flT t q=0:=by
    have:=yak t.2 q;rw[<-h] at this;exact this
   rw[this];grind
  ·rw[if_pos (by simp[h]),z60,z60,z7q q l]
theorem z9p (q:Nat) (t:Rat×Nat):∀l:List (Rat×Nat),vZ (insS t l) q=((flT t q:Int):Rat)+vZ l q
 |[]=>z60 t [] q
 |c::l=>by
  unfold insS;split
  ·exact z60 t (c::l) q
  ·rw[z60,z60,z9p q t l];grind
theorem z9q (q:Nat):∀l:List (Rat×Nat),vZ (srtS l) q=vZ l q
 |[]=>rfl
 |t::l=>by rw[show srtS (t::l)=insS t (srtS l) from rfl,z9p,z9q q l,z60]
theorem z7t {T:List (Rat×Nat)} (hT:PosR T):Bd λq=>vZ (mkG T) q-vZ T q:=
 (z86 (A:=[]) (λ_ h=>by cases h) hT).congr λq=>by
   unfold mkG keG;rw[z9q,z7q,z68];grind
theorem z7x (c:Rat):∀l:List (Rat×Nat),Bd λq=>vZ (sclL l c) q-c*vZ l q
 |[]=>Bd.zero.congr λq=>by rw[z68];show vZ [] q-_=0;rw[z68];grind
 |t::l=>by
  refine((z7x c l).add ((z63 (t.1*c,t.2)).add ((z63 t).smul c).neg)).congr λq=>?_;rw[z60,show sclL (t::l) c=(t.1*c,t.2)::sclL l c from rfl,z60];grind
theorem z66 (c:Rat) (l:List (Rat×Nat)):Bd λq=>vZ (sclR l c) q-c*vZ l q:=by
 unfold sclR;split
 ·rename_i h
  exact Bd.zero.congr λq=>by rw[z68,h];grind
 ·exact z7x c l
theorem yal {t:Rat×Nat} (hne:t.1≠0) (p q:Nat):flT t p*(10^q:Nat)<=(flT t q+1)*(10^p:Nat):=by
 have h1:=(z57 t hne p q).1;have h2:=(z57 t hne q q).2;have hP:(0:Int)<((10^p:Nat):Int):=by exact_mod_cast yS (by simp)
 have hQ:(0:Int)<((10^q:Nat):Int):=by exact_mod_cast yS (by simp)
 generalize ((10^p:Nat):Int)=P at*
 generalize ((10^q:Nat):Int)=Q at*
 generalize flT t p=a at*
 generalize flT t q=b at*
 generalize flT (ngT t) q=g at*
 rw[<-Int.add_mul] at h2;have h3:0<b+1+(g+1):=by
  rcases(show 0<b+1+(g+1)\/b+1+(g+1)<=0 by omega) with k|k
  ·exact k
  ·have:=Int.mul_le_mul_of_nonneg_right k (Int.le_of_lt hQ)
   omega
 have h4:=Int.mul_le_mul_of_nonneg_right (show-(b+1)<=g by omega) (Int.le_of_lt hP);rw[Int.neg_mul] at h4;omega
theorem z7y (p q:Nat):∀l:List (Rat×Nat),(∀t∈l,t.1≠0)->valZ l p*(10^q:Nat)<=(valZ l q+l.length)*(10^p:Nat)
 |[],_=>by show(0:Int)*_<=(0+((0:Nat):Int))*_;simp
 |t::l,h=>by
  have h1:=yal (h t (yD ..)) p q;have h2:=z7y p q l λc hc=>h c (List.mem_cons_of_mem _ hc);show(flT t p+valZ l p)*_<=(flT t q+valZ l q+((l.length+1:Nat):Int))*_;generalize ((10^p:Nat):Int)=P at*
  generalize ((10^q:Nat):Int)=Q at*
  have e:(flT t q+valZ l q+((l.length+1:Nat):Int))*P=(flT t q+1)*P+(valZ l q+(l.length:Int))*P:=by
   rw[<-Int.add_mul];congr 1;omega
  rw[e,Int.add_mul];omega
theorem yam (C:Rat):∃q:Nat,C<((10^q:Nat):Rat):=by
 refine⟨C.num.natAbs,?_⟩;have h1:C.num.natAbs<10^C.num.natAbs:=Nat.lt_pow_self (by omega);have h2:((C.num.natAbs:Nat):Rat)<((10^C.num.natAbs:Nat):Rat):=by exact_mod_cast h1
 have nd:=zb0 C;have hd:(1:Rat)<=(C.den:Rat):=by exact_mod_cast C.den_pos
 have h3:((C.num:Int):Rat)<=((C.num.natAbs:Nat):Rat):=by
  have:C.num<=((C.num.natAbs:Nat):Int):=by omega
  exact_mod_cast this
 have h4:(0:Rat)<=((C.num.natAbs:Nat):Rat):=by exact_mod_cast zR _
 have:=z64 hd h4 (x:=C) (by rw[<-nd];exact h3);grind
theorem z87 {l l':List (Rat×Nat)} (h:∀t∈l,t.1≠0) (h':∀t∈l',t.1≠0) {p p':Nat} (hp:0<valZ l p) (hn:valZ l' p'+l'.length<=0) {C c:Rat} (hc:0<=c) (hC:∀q,vZ l q<=C+c*vZ l' q):False:=by
 obtain⟨q,hq⟩:=yam ((C+(l.length:Rat))*((10^p:Nat):Rat));have h1:=z7y p q l h;have h2:=z7y q p' l' h';have P0:(0:Int)<((10^p':Nat):Int):=by exact_mod_cast yS (by simp)
 have Q0:(0:Int)<=((10^q:Nat):Int):=Int.natCast_nonneg _;have h3:valZ l' q<=0:=by
  rcases(show valZ l' q<=0\/0<valZ l' q by omega) with k|k
  ·exact k
  ·have a:=Int.mul_pos k P0
   have b:=Int.mul_le_mul_of_nonneg_right hn Q0;omega
 have h4:vZ l' q<=0:=by
  unfold vZ;exact_mod_cast h3
 have h5:=hC q;have h6:vZ l q<=C:=by
  have:=Rat.mul_le_mul_of_nonneg_left h4 hc;grind
 have h7:((10^q:Nat):Rat)<=(vZ l q+(l.length:Rat))*((10^p:Nat):Rat):=by
  have a:=Int.mul_le_mul_of_nonneg_right (show 1<=valZ l p by omega) Q0;rw[Int.one_mul] at a;have b:((10^q:Nat):Int)<=(valZ l q+(l.length:Int))*((10^p:Nat):Int):=by omega
  have c:((((10^q:Nat):Int)):Rat)<=(((valZ l q+(l.length:Int))*((10^p:Nat):Int):Int):Rat):=by exact_mod_cast b
  rw[Rat.intCast_mul,Rat.intCast_add] at c;exact c
 have P1:(0:Rat)<=((10^p:Nat):Rat):=by exact_mod_cast zR _
 have h8:=Rat.mul_le_mul_of_nonneg_right (show vZ l q+(l.length:Rat)<=C+(l.length:Rat) by grind) P1;grind
theorem z99 {l l':List (Rat×Nat)} (h:∀t∈l,t.1≠0) (h':∀t∈l',t.1≠0) (hl:l≠[]) (hl':l'≠[]) {k:Rat} (hk:0<k) (hb:Bd λq=>vZ l' q-k*vZ l q) (e:sgeL l=0) (e':sgeL l'=0):sgnL l'=sgnL l:=by
 obtain⟨K,hK⟩:=hb;dsimp only at hK;have s1:sgnL l=sgnP l.length λk=>valZ l (plN k):=if_neg hl;have s2:sgnL l'=sgnP l'.length λk=>valZ l' (plN k):=if_neg hl';have n1:sgnL l≠0:=λz=>by
  rw[show sgeL l=errP (sgnL l) from if_neg hl,z] at e;cases e
 have n2:sgnL l'≠0:=λz=>by
  rw[show sgeL l'=errP (sgnL l') from if_neg hl',z] at e';cases e'
 rw[s1] at n1⊢;rw[s2] at n2⊢;have ki:0<1/k:=div_pos (by decide) hk;have kk:1/k*k=1:=by grind
 rcases zu6 l.length λk=>valZ l (plN k) with⟨a,p,hp⟩|⟨a,p,hp⟩|a
 ·rcases zu6 l'.length λk=>valZ l' (plN k) with⟨b,p',hp'⟩|⟨b,p',hp'⟩|b
  ·rw[a,b]
  ·refine(z87 h h' hp hp' (C:=1/k*K) (c:=1/k) (Rat.le_of_lt ki) λq=>?_).elim
   have h1:=Rat.mul_le_mul_of_nonneg_left (show k*vZ l q<=K+vZ l' q by have:=(hK q).1;grind) (Rat.le_of_lt ki);rw[<-Rat.mul_assoc,kk,Rat.one_mul] at h1;grind
  ·exact(n2 b).elim
 ·rcases zu6 l'.length λk=>valZ l' (plN k) with⟨b,p',hp'⟩|⟨b,p',hp'⟩|b
  ·exact(z87 h' h hp' hp (C:=K) (c:=k) (Rat.le_of_lt hk) λq=>by have:=(hK q).2;grind).elim
  ·rw[a,b]
  ·exact(n2 b).elim
 ·exact(n1 a).elim
end
section
open Go.RowKit Go.Shelf Lib Str Limb Geo
attribute [local go_sem] Oper.semAt_some
structure HfX (Q:Nat) (a b c:List UInt8) (v:Value) (l:List (Rat×Nat)) (W:zA):Prop where
 h:W.heap[Q]? =some (.cells #[St a,St b,St c,v] 26 (0,0))
 d:SdL v l W
theorem HfX.next {Q:Nat} {a b c:List UInt8} {v:Value} {l:List (Rat×Nat)} {W W':zA} (h:HfX Q a b c v l W) (hb:qL W W'):HfX Q a b c v l W':=⟨zac hb _ _ _ _ h.h,h.d.below hb⟩
theorem HfX.cells {Q:Nat} {a b c:List UInt8} {v:Value} {l:List (Rat×Nat)} {W:zA} (h:HfX Q a b c v l W):W.cell? ⟨Q,0,none⟩=some (St a)/\W.cell? ⟨Q,1,none⟩=some (St b)/\W.cell? ⟨Q,2,none⟩=some (St c)/\W.cell? ⟨Q,3,none⟩=some v:=zfb h.h
end
section
open Go.RowKit Go.Shelf Lib Str Limb
attribute [local go_sem] Oper.semAt_some
def h12 (X Y Z:Nat->List UInt8) (D:Nat->Value):Array Value:= #[St (X 0),St (Y 0),St (Z 0),D 0,St (X 1),St (Y 1),St (Z 1),D 1,St (X 2),St (Y 2),St (Z 2),D 2]
theorem zh8 (v:Array Value) (w:zA) (h:∃a b c d e f g h i j k l,v= #[a,b,c,d,e,f,g,h,i,j,k,l]):
 zC zF 80 #[.agg v] w λe w'=>e=.returned (.func (.func 133) #[] #[.pointer (some ⟨w.heap.size,0,none⟩)])/\w.alloc (.cells v 127)=w':=by
 obtain⟨a,b,c,d,e,f,g,h,i,j,k,l,rfl⟩:=h;go_enter Tryz.func80,Tryz.ntmps80;go_wp2;go_ret;exact⟨rfl,rfl⟩
theorem zfr {W:zA} {Bs:Nat} {t:TypeId} {X Y Z:Nat->List UInt8} {D:Nat->Value} (h:W.heap[Bs]? =some (.cells (h12 X Y Z D) t (0,0))) (j:Nat) (hj:j<3):
 W.cell? ⟨Bs,j*4,none⟩=some (St (X j))/\W.cell? ⟨Bs,j*4+1,none⟩=some (St (Y j))/\W.cell? ⟨Bs,j*4+2,none⟩=some (St (Z j))/\W.cell? ⟨Bs,j*4+3,none⟩=some (D j):=by
 refine⟨?_,?_,?_,?_⟩<;>(rw[zJ h];match j,hj with|0,_|1,_|2,_=>rfl)
def twoH (X Y Z:Nat->List UInt8) (D:Nat->Value) (i j:Nat):Value:=.agg #[St (X i),St (Y i),St (Z i),D i,St (X j),St (Y j),St (Z j),D j]
theorem zom (n:Nat) (hn:1<=n) (Bs:Nat) (X Y Z:Nat->List UInt8) (D:Nat->Value) (hD:∀i,∃q m c,D i=.slice q m c) (t:TypeId) (Rd:zA->Prop) (hRd:∀W,Rd W->W.heap[Bs]? =some (.cells (h12 X Y Z D) t (0,0))):
 IterC Fence.wide n zF 133 #[.pointer (some ⟨Bs,0,none⟩)] Rd (λk args=>args= #[I k,twoH X Y Z D ((k+1)%3) ((k+2)%3)]) 3:=by
 intro lp J Jx W hJr hJb hY h0;refine callsIn_of_wp Tryz.func133 rfl trivial ?_ rfl;simp only[Tryz.ntmps133,List.size_toArray,List.length_cons,List.length_nil,Nat.reduceAdd,Nat.reduceSub,Array.replicate_succ,Array.replicate_zero,List.push_toArray,List.append_toArray,List.nil_append,List.cons_append];have HRd:=hid λk W h=>hRd W (hJr k W h);clear hRd hJr;have HY:=hid hY;clear hY;have HJB:=hid hJb;clear hJb;gi_wp2;gi_loopw [4] (λi wr=>∃(k:Nat),k<=3/\i=.int .i64 (k:Int)/\Hid (J k wr))
  (λi _=>3-(zL i).toNat)
 case atStart=>exact⟨0,zR _,rfl,h0⟩
 case round=>
  obtain⟨k,hk,rfl,hJ⟩:=hrel;by_cases hlt:k<3
  ·have HC:=HRd.out k wr hJ.out
   have hk1:(k+1)%3<3:=Nat.mod_lt _ (by omega);have hk2:(k+2)%3<3:=Nat.mod_lt _ (by omega);obtain⟨c0,c1',c2',c3⟩:=zfr HC _ hk1;obtain⟨d0,d1,d2,d3⟩:=zfr HC _ hk2;have HY1:=hid λW h=>HY.out k #[I k,twoH X Y Z D ((k+1)%3) ((k+2)%3)] W h hlt rfl;unfold twoH at HY1;have hm1:Int.tmod ((k:Int)+1) 3=((k+1)%3:Nat):=by
    rw[show((k:Int)+1)=((k+1:Nat):Int) by omega];rfl
   have hm2:Int.tmod ((k:Int)+2) 3=((k+2)%3:Nat):=by
    rw[show((k:Int)+2)=((k+2:Nat):Int) by omega];rfl
   clear HY HRd HC;generalize (k+1)%3=j1 at*
   generalize (k+2)%3=j2 at*
   obtain⟨p1,m1,c1,e1⟩:=hD j1;obtain⟨p2,m2,c2,e2⟩:=hD j2;rw[e1] at c3 HY1;rw[e2] at d3 HY1;generalize X j1=x1 at*
   generalize Y j1=y1 at*
   generalize Z j1=z1 at*
   generalize X j2=x2 at*
   generalize Y j2=y2 at*
   generalize Z j2=z2 at*
   clear hD e1 e2;have hw1:IntKind.i64.wrap ((k:Int)+1)=(k:Int)+1:=zI _ ⟨by omega,by omega⟩;have hw2:IntKind.i64.wrap ((k:Int)+2)=(k:Int)+2:=zI _ ⟨by omega,by omega⟩;have hw3:IntKind.i64.wrap (j1:Int)=(j1:Int):=zI _ ⟨by omega,by omega⟩;have hw4:IntKind.i64.wrap (j2:Int)=(j2:Int):=zI _ ⟨by omega,by omega⟩;have hJ4:=HJB.out k wr wr.drew hJ.out (zM _ wr).drew;obtain⟨fn,tmps,assign,body,hy,hR⟩:=HY1.out wr.drew hJ4;clear HY1;gi_wp2;refine zgw (λ_=>trivial) rfl (λ(g:Bool) i=>([.func (.yield lp) #[] #[],.int .i64 (k:Int),.int .i64 (k:Int),.int .i64 ((k:Int)+1),.int .i64 (j1:Int),.pointer (some ⟨Bs,j1*4,none⟩),.agg #[St x1,St y1,St z1,.slice p1 m1 c1],.int .i64 (k:Int),.int .i64 ((k:Int)+2),.int .i64 (j2:Int),.pointer (some ⟨Bs,j2*4,none⟩),.agg #[St x2,St y2,St z2,.slice p2 m2 c2],.agg #[St x1,St y1,St z1,.slice p1 m1 c1,St x2,St y2,St z2,.slice p2 m2 c2],.bool g,.bool !g]:List Value).getD i undef)
    (λg f W'=>(f 13=false->W'=wr.drew)/\(f 13=true->(g=true/\J (k+1) W')\/(g=false/\Jx W'))) (by kernel_rfl) (by kernel_rfl) true ⟨λ_=>rfl,λh=>by cases h⟩ λg=>?_
   refine za4 (.func (.yield lp) #[] #[]) (by rfl) (by rfl) (λf W' h=>⟨h.1,h.2⟩) (λf W' hf h=>by
    obtain rfl:=h.1 (hf.no (j:=13) hf.self (by kernel_rfl));go_simp) ?_
   try simp only[zzQ]
   refine za4 (.int .i64 (k:Int)) (by rfl) (by rfl) (λf W' h=>⟨h.1,h.2⟩) (λf W' hf h=>by
    obtain rfl:=h.1 (hf.no (j:=13) hf.self (by kernel_rfl));go_simp) ?_
   try simp only[zzQ]
   refine za4 (.int .i64 (k:Int)) (by rfl) (by rfl) (λf W' h=>⟨h.1,h.2⟩) (λf W' hf h=>by
    obtain rfl:=h.1 (hf.no (j:=13) (hf.no (j:=12) (hf.no (j:=6) (hf.no (j:=5) (hf.no (j:=4) (hf.no (j:=3) hf.self (by kernel_rfl)) (by kernel_rfl)) (by kernel_rfl)) (by kernel_rfl)) (by kernel_rfl)) (by kernel_rfl));go_simp) ?_
   try simp only[zzQ]
   refine za4 (.int .i64 ((k:Int)+1)) (by rfl) (by rfl) (λf W' h=>⟨h.1,h.2⟩) (λf W' hf h=>by
    obtain rfl:=h.1 (hf.no (j:=13) (hf.no (j:=12) (hf.no (j:=6) (hf.no (j:=5) (hf.no (j:=4) hf.self (by kernel_rfl)) (by kernel_rfl)) (by kernel_rfl)) (by kernel_rfl)) (by kernel_rfl));go_simp) ?_
   try simp only[zzQ]
   refine za4 (.int .i64 (j1:Int)) (by rfl) (by rfl) (λf W' h=>⟨h.1,h.2⟩) (λf W' hf h=>by
    obtain rfl:=h.1 (hf.no (j:=13) (hf.no (j:=12) (hf.no (j:=6) (hf.no (j:=5) hf.self (by kernel_rfl)) (by kernel_rfl)) (by kernel_rfl)) (by kernel_rfl));go_simp) ?_
   try simp only[zzQ]
   refine za4 (.pointer (some ⟨Bs,j1*4,none⟩)) (by rfl) (by rfl) (λf W' h=>⟨h.1,h.2⟩) (λf W' hf h=>by
    obtain rfl:=h.1 (hf.no (j:=13) (hf.no (j:=12) (hf.no (j:=6) hf.self (by kernel_rfl)) (by kernel_rfl)) (by kernel_rfl));go_simp;intro h;omega) ?_
   try simp only[zzQ]
   refine za4 (.agg #[St x1,St y1,St z1,.slice p1 m1 c1]) (by rfl) (by rfl) (λf W' h=>⟨h.1,h.2⟩) (λf W' hf h=>by
    obtain rfl:=h.1 (hf.no (j:=13) (hf.no (j:=12) hf.self (by kernel_rfl)) (by kernel_rfl));have c0:wr.drew.cell? _=_:=c0;have c1':wr.drew.cell? _=_:=c1';have c2':wr.drew.cell? _=_:=c2';have c3:wr.drew.cell? _=_:=c3;go_simp) ?_
   try simp only[zzQ]
   refine za4 (.int .i64 (k:Int)) (by rfl) (by rfl) (λf W' h=>⟨h.1,h.2⟩) (λf W' hf h=>by
    obtain rfl:=h.1 (hf.no (j:=13) (hf.no (j:=12) (hf.no (j:=11) (hf.no (j:=10) (hf.no (j:=9) (hf.no (j:=8) hf.self (by kernel_rfl)) (by kernel_rfl)) (by kernel_rfl)) (by kernel_rfl)) (by kernel_rfl)) (by kernel_rfl));go_simp) ?_
   try simp only[zzQ]
   refine za4 (.int .i64 ((k:Int)+2)) (by rfl) (by rfl) (λf W' h=>⟨h.1,h.2⟩) (λf W' hf h=>by
    obtain rfl:=h.1 (hf.no (j:=13) (hf.no (j:=12) (hf.no (j:=11) (hf.no (j:=10) (hf.no (j:=9) hf.self (by kernel_rfl)) (by kernel_rfl)) (by kernel_rfl)) (by kernel_rfl)) (by kernel_rfl));go_simp) ?_
   try simp only[zzQ]
   refine za4 (.int .i64 (j2:Int)) (by rfl) (by rfl) (λf W' h=>⟨h.1,h.2⟩) (λf W' hf h=>by
    obtain rfl:=h.1 (hf.no (j:=13) (hf.no (j:=12) (hf.no (j:=11) (hf.no (j:=10) hf.self (by kernel_rfl)) (by kernel_rfl)) (by kernel_rfl)) (by kernel_rfl));go_simp) ?_
   try simp only[zzQ]
   refine za4 (.pointer (some ⟨Bs,j2*4,none⟩)) (by rfl) (by rfl) (λf W' h=>⟨h.1,h.2⟩) (λf W' hf h=>by
    obtain rfl:=h.1 (hf.no (j:=13) (hf.no (j:=12) (hf.no (j:=11) hf.self (by kernel_rfl)) (by kernel_rfl)) (by kernel_rfl));go_simp;intro h;omega) ?_
   try simp only[zzQ]
   refine za4 (.agg #[St x2,St y2,St z2,.slice p2 m2 c2]) (by rfl) (by rfl) (λf W' h=>⟨h.1,h.2⟩) (λf W' hf h=>by
    obtain rfl:=h.1 (hf.no (j:=13) (hf.no (j:=12) hf.self (by kernel_rfl)) (by kernel_rfl));have d0:wr.drew.cell? _=_:=d0;have d1:wr.drew.cell? _=_:=d1;have d2:wr.drew.cell? _=_:=d2;have d3:wr.drew.cell? _=_:=d3;go_simp) ?_
   try simp only[zzQ]
   refine za4 (.agg #[St x1,St y1,St z1,.slice p1 m1 c1,St x2,St y2,St z2,.slice p2 m2 c2]) (by rfl) (by rfl) (λf W' h=>⟨h.1,h.2⟩) (λf W' hf h=>by
    obtain rfl:=h.1 (hf.no (j:=13) hf.self (by kernel_rfl));go_simp) ?_
   try simp only[zzQ]
   refine zqj (.bool g) (by rfl) (by rfl) (λf W' hf h C' hC'=>by
    obtain rfl:=h.1 hf.self;go_simp;refine⟨λ_=>by omega,hR.mono ?_⟩;rintro e W3 (⟨rfl,hJ3⟩|⟨rfl,hJx3⟩)
    ·refine⟨_,rfl,hC' true W3 (λi hi=>?_) ⟨λh=>(by cases h),λ_=>.inl ⟨rfl,hJ3⟩⟩⟩
     match i,hi with
     |0,_|1,_|2,_|3,_|4,_|5,_|6,_|7,_|8,_|9,_|10,_|11,_|12,_=>rfl
     |13,hi=>rw[hf.self] at hi;cases hi
     |14,hi=>rw[hf.no (j:=14) hf.self (by kernel_rfl)] at hi;cases hi
     |_+15,_=>rfl
    ·refine⟨_,rfl,hC' false W3 (λi hi=>?_) ⟨λh=>(by cases h),λ_=>.inr ⟨rfl,hJx3⟩⟩⟩
     match i,hi with
     |0,_|1,_|2,_|3,_|4,_|5,_|6,_|7,_|8,_|9,_|10,_|11,_|12,_=>rfl
     |13,hi=>rw[hf.self] at hi;cases hi
     |14,hi=>rw[hf.no (j:=14) hf.self (by kernel_rfl)] at hi;cases hi
     |_+15,_=>rfl) ?_
   try simp only[zzQ]
   refine za4 (.bool !g) (by rfl) (by rfl) (λf W' h=>⟨h.1,h.2⟩) (λf W' hf h=>by go_simp) ?_
   try simp only[zzQ]
   refine zqi λf W5 hf h=>?_;rcases h.2 (hf 13 (by decide)) with⟨rfl,hJ5⟩|⟨rfl,hJx5⟩
   ·have HJ5:=hid hJ5;clear hJ5 hf h
    gi_wp2;go_roundw
    case rel=>exact⟨k+1,by omega,by go_num,HJ5.out⟩
    case measure=>simp[zL];omega
   ·have HJx5:=hid hJx5;clear hJx5 hf h
    gi_wp2;refine bodyPost_ret (results_none rfl _ _ _) rfl ?_;exact⟨⟨_,rfl⟩,.inr HJx5.out⟩
  ·obtain rfl:k=3:=by omega
   gi_wp2;go_end0;exact⟨⟨_,rfl⟩,.inl hJ.out⟩
end
end Go.Proofs.YtgeapfaiacoajaaGreatDoor
