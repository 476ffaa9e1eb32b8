/- halfspace.Corner, by contracts. -/
import Derived.Test.YtgeapfaiacoajaaGreatDoorY14
set_option maxRecDepth 100000
set_option maxHeartbeats 8000000
open Go renaming World → zA, Calls → zC
open Go.RowKit renaming Below → zB
open Go.Proofs.Tryz renaming prog → zF
open Go.World renaming alloc_heap_new → zG, size_alloc → zH
open Go.Joins renaming cell_of_block → zJ, block_setCell → zK
open Go.RowKit.Below renaming refl → zM, heap_setCell → yE
open Nat renaming le_refl → zN, zero_le → zR, pos_of_ne_zero → yS
open List renaming mem_cons_self → yD, cons_append → yM
namespace Go.Proofs.YtgeapfaiacoajaaGreatDoor
section
open Go.RowKit Go.Shelf Lib Str Limb
attribute [local go_sem] Oper.semAt_some
structure CoS (w:zA) (ha hb hc:Array Value) (T:Nat) (D:Option Nat) (X:Array Value) (W:zA):Prop where
 bel:qL w W
 h0:W.heap[w.heap.size]? =some (.cells ha 26 (0,0))
 h1:W.heap[w.heap.size+1]? =some (.cells hb 26 (0,0))
 h2:W.heap[w.heap.size+1+1]? =some (.cells hc 26 (0,0))
 r0:W.heap[w.heap.size+1+1+1]? =some (.cells #[.slice none 0 0,.slice none 0 0,.slice none 0 0] 28 (0,0))
 r1:W.heap[w.heap.size+1+1+1+1]? =some (.cells #[.bool false] 4 (0,0))
 r2:W.heap[w.heap.size+1+1+1+1+1]? =some (.cells #[.int .i64 0] 33 (0,0))
 lo:w.heap.size+1+1+1+1+1<T
 x:W.heap[T]? =some (.cells X 128 (0,0))
 hd:∀d,D=some d->W.heap[d]? =some (.deferred (some []))
section
variable {w W W':zA} {ha hb hc X X':Array Value} {T:Nat} {D:Option Nat}
theorem CoS.keep (h:CoS w ha hb hc T none X W) (hc':CellsKept W W') (hb':zB w.heap.size W W'):CoS w ha hb hc T none X W':=
 ⟨h.bel.trans hb',hc' _ _ _ _ h.h0,hc' _ _ _ _ h.h1,hc' _ _ _ _ h.h2,hc' _ _ _ _ h.r0,hc' _ _ _ _ h.r1,hc' _ _ _ _ h.r2,h.lo,hc' _ _ _ _ h.x,λ_ e=>by cases e⟩
theorem CoS.next (h:CoS w ha hb hc T D X W) (hb':qL W W'):CoS w ha hb hc T D X W':=
 have hc':=zac hb'
 ⟨h.bel.trans (hb'.mono h.bel.size),hc' _ _ _ _ h.h0,hc' _ _ _ _ h.h1,hc' _ _ _ _ h.h2,hc' _ _ _ _ h.r0,hc' _ _ _ _ h.r1,hc' _ _ _ _ h.r2,h.lo,hc' _ _ _ _ h.x,λd e=>(hb'.block _ (Array.getElem?_eq_some_iff.1 (h.hd d e)).1).trans (h.hd d e)⟩
theorem CoS.put1 (h:CoS w ha hb hc T D X W) (i:Nat) (a:Value) (hx:X.setIfInBounds i a=X'):CoS w ha hb hc T D X' (W.setCell ⟨T,i,none⟩ a):=by
 have hl:=h.lo;have ne:∀{b:Nat},b≠T->(W.setCell ⟨T,i,none⟩ a).heap[b]? =W.heap[b]? :=λhb=>yE _ _ _ _ (by exact hb);refine⟨h.bel.setCell (p:=⟨T,i,none⟩) (by show _<=T;omega) _,(ne (by omega)).trans h.h0,(ne (by omega)).trans h.h1,(ne (by omega)).trans h.h2,(ne (by omega)).trans h.r0,(ne (by omega)).trans h.r1,(ne (by omega)).trans h.r2,h.lo,by rw[<-hx];exact zK h.x a,λd e=>?_⟩;have h1:=h.hd d e;exact(ne (λe'=>by rw[e',h.x] at h1;cases h1)).trans h1
theorem CoS.put (h:CoS w ha hb hc T D X W) (i:Nat) (a b c:Value) (hx:((X.setIfInBounds i a).setIfInBounds (i+1) b).setIfInBounds (i+2) c=X'):CoS w ha hb hc T D X' (((W.setCell ⟨T,i,none⟩ a).setCell ⟨T,i+1,none⟩ b).setCell ⟨T,i+2,none⟩ c):=
 ((h.put1 i a rfl).put1 (i+1) b rfl).put1 (i+2) c hx
theorem CoS.at3 (h:CoS w ha hb hc T D X W) (j:Nat) (hj:j<3) (hX:X.size=9):(∃u,W.cell? ⟨T,j*3,none⟩=some u)/\(∃u,W.cell? ⟨T,j*3+1,none⟩=some u)/\(∃u,W.cell? ⟨T,j*3+2,none⟩=some u)/\W.frozen? ⟨T,j*3,none⟩=false/\W.frozen? ⟨T,j*3+1,none⟩=false/\W.frozen? ⟨T,j*3+2,none⟩=false:=by
 refine⟨?_,?_,?_,Go.Joins.unfrozen_of_block h.x _,Go.Joins.unfrozen_of_block h.x _,Go.Joins.unfrozen_of_block h.x _⟩<;>
  (rw[zJ h.x];exact⟨_,Array.getElem?_eq_getElem (by omega)⟩)
end
section
variable {w W:zA} {hb hc:Array Value} {T:Nat} {D:Option Nat}
theorem CoS.half0 {a b c d:Value} {X:Array Value} (h:CoS w #[a,b,c,d] hb hc T D X W):W.cell? ⟨w.heap.size,0,none⟩=some a/\W.cell? ⟨w.heap.size,1,none⟩=some b/\W.cell? ⟨w.heap.size,2,none⟩=some c/\W.cell? ⟨w.heap.size,3,none⟩=some d:=
 ⟨by rw[zJ h.h0];rfl,by rw[zJ h.h0];rfl,by rw[zJ h.h0];rfl,by rw[zJ h.h0];rfl⟩
theorem CoS.dd {a b c d a1 b1 c1 d1 a2 b2 c2 d2:Value} {X:Array Value} (h:CoS w #[a,b,c,d] #[a1,b1,c1,d1] #[a2,b2,c2,d2] T D X W):W.cell? ⟨w.heap.size,3,none⟩=some d/\W.cell? ⟨w.heap.size+1,3,none⟩=some d1/\W.cell? ⟨w.heap.size+1+1,3,none⟩=some d2:=
 ⟨by rw[zJ h.h0];rfl,by rw[zJ h.h1];rfl,by rw[zJ h.h2];rfl⟩
theorem CoS.c9 {ha:Array Value} {x0 x1 x2 x3 x4 x5 x6 x7 x8:Value} (h:CoS w ha hb hc T D #[x0,x1,x2,x3,x4,x5,x6,x7,x8] W):W.cell? ⟨T,0,none⟩=some x0/\W.cell? ⟨T,1,none⟩=some x1/\W.cell? ⟨T,2,none⟩=some x2/\W.cell? ⟨T,3,none⟩=some x3/\W.cell? ⟨T,4,none⟩=some x4/\W.cell? ⟨T,5,none⟩=some x5/\W.cell? ⟨T,6,none⟩=some x6/\W.cell? ⟨T,7,none⟩=some x7/\W.cell? ⟨T,8,none⟩=some x8/\(∀i,W.frozen? ⟨T,i,none⟩=false):=
 ⟨by rw[zJ h.x];rfl,by rw[zJ h.x];rfl,by rw[zJ h.x];rfl,by rw[zJ h.x];rfl,by rw[zJ h.x];rfl,by rw[zJ h.x];rfl,by rw[zJ h.x];rfl,by rw[zJ h.x];rfl,by rw[zJ h.x];rfl,λi=>Go.Joins.unfrozen_of_block h.x i⟩
end
theorem ziy (a b c d e f g h i:List UInt8) (w:zA):(Instr.index 128 (.agg #[St a,St b,St c,St d,St e,St f,St g,St h,St i]) (.int .i64 0)).run zF w=.ok (.agg #[St a,St b,St c]) w/\(Instr.index 128 (.agg #[St a,St b,St c,St d,St e,St f,St g,St h,St i]) (.int .i64 1)).run zF w=.ok (.agg #[St d,St e,St f]) w/\(Instr.index 128 (.agg #[St a,St b,St c,St d,St e,St f,St g,St h,St i]) (.int .i64 2)).run zF w=.ok (.agg #[St g,St h,St i]) w:=
 ⟨by kernel_rfl,by kernel_rfl,by kernel_rfl⟩
def cr9 (cx cy cz:Nat->List UInt8) (k:Nat):Array Value:=
 #[St (if 0<k then cx 0 else[]),St (if 0<k then cy 0 else[]),St (if 0<k then cz 0 else[]),St (if 1<k then cx 1 else[]),St (if 1<k then cy 1 else[]),St (if 1<k then cz 1 else[]),St (if 2<k then cx 2 else[]),St (if 2<k then cy 2 else[]),St (if 2<k then cz 2 else[])]
theorem zsd (cx cy cz:Nat->List UInt8) (k:Nat) (hk:k<3):(((cr9 cx cy cz k).setIfInBounds (k*3) (St (cx k))).setIfInBounds (k*3+1) (St (cy k))).setIfInBounds (k*3+2) (St (cz k))=cr9 cx cy cz (k+1):=by
 match k,hk with
 |0,_|1,_|2,_=>rfl
structure CoT (w:zA) (ha hb hc:Array Value) (T D:Nat) (X:Array Value) (O:Nat) (o0 o1 o2:Value) (V:Array Value) (W:zA):Prop where
 s:CoS w ha hb hc T (some D) X W
 o:W.heap[O]? =some (.cells #[o0,o1,o2] 103 (0,0))
 v:W.heap[O+1]? =some (.cells V 45 (0,0))
 lt:T<O
theorem SdL.keptC {v:Value} {l:List (Rat×Nat)} {W W':zA} (h:SdL v l W) (hc:CellsKept W W') (hs:W.heap.size<=W'.heap.size):SdL v l W':=by
 rcases h with h|⟨b,off,cap,e,hcp,hl,hx⟩
 ·exact .inl h
 ·exact .inr ⟨b,off,cap,e,hcp,by omega,λi t ht=>⟨hc.cell (hx i t ht).1,hc.cell (hx i t ht).2⟩⟩
section
variable {w W W':zA} {ha hb hc X V:Array Value} {T D O:Nat} {o0 o1 o2:Value}
theorem CoT.next (h:CoT w ha hb hc T D X O o0 o1 o2 V W) (hb':qL W W'):CoT w ha hb hc T D X O o0 o1 o2 V W':=
 have hc':=zac hb'
 ⟨h.s.next hb',hc' _ _ _ _ h.o,hc' _ _ _ _ h.v,h.lt⟩
theorem CoT.ne (_:CoT w ha hb hc T D X O o0 o1 o2 V W) (i:Nat) (u:Value):(∀b,b≠O->(W.setCell ⟨O,i,none⟩ u).heap[b]? =W.heap[b]?)/\W.heap.size<=(W.setCell ⟨O,i,none⟩ u).heap.size:=
 ⟨λb hb=>yE _ _ _ _ (by exact hb),by simp[World.setCell]⟩
theorem CoT.putS (h:CoT w ha hb hc T D X O o0 o1 o2 V W) (i:Nat) (u:Value):CoS w ha hb hc T (some D) X (W.setCell ⟨O,i,none⟩ u)/\(W.setCell ⟨O,i,none⟩ u).heap[O+1]? =some (.cells V 45 (0,0)):=by
 obtain⟨ne, -⟩:=h.ne i u;have hl:=h.s.lo;have ht:=h.lt;refine⟨⟨h.s.bel.setCell (p:=⟨O,i,none⟩) (by show _<=O;omega) _,(ne _ (by omega)).trans h.s.h0,(ne _ (by omega)).trans h.s.h1,(ne _ (by omega)).trans h.s.h2,(ne _ (by omega)).trans h.s.r0,(ne _ (by omega)).trans h.s.r1,(ne _ (by omega)).trans h.s.r2,hl,(ne _ (by omega)).trans h.s.x,λd e=>?_⟩,(ne _ (by omega)).trans h.v⟩;have h1:=h.s.hd d e;exact(ne _ (λe'=>by rw[e',h.o] at h1;cases h1)).trans h1
theorem CoT.put0 (h:CoT w ha hb hc T D X O o0 o1 o2 V W) (u:Value):CoT w ha hb hc T D X O u o1 o2 V (W.setCell ⟨O,0,none⟩ u):=⟨(h.putS 0 u).1,zK (i:=0) h.o u,(h.putS 0 u).2,h.lt⟩
theorem CoT.put1 (h:CoT w ha hb hc T D X O o0 o1 o2 V W) (u:Value):CoT w ha hb hc T D X O o0 u o2 V (W.setCell ⟨O,1,none⟩ u):=⟨(h.putS 1 u).1,zK (i:=1) h.o u,(h.putS 1 u).2,h.lt⟩
theorem CoT.put2 (h:CoT w ha hb hc T D X O o0 o1 o2 V W) (u:Value):CoT w ha hb hc T D X O o0 o1 u V (W.setCell ⟨O,2,none⟩ u):=⟨(h.putS 2 u).1,zK (i:=2) h.o u,(h.putS 2 u).2,h.lt⟩
end
theorem CoS.fin {w W:zA} {ha hb hc X:Array Value} {T D:Nat} {o0 o1 o2:Value} {bb:Bool} {er:Int} (h:CoS w ha hb hc T (some D) X W) (W9:zA) (e9:W9=((((W.setCell ⟨w.heap.size+1+1+1,0,none⟩ o0).setCell ⟨w.heap.size+1+1+1,1,none⟩ o1).setCell ⟨w.heap.size+1+1+1,2,none⟩ o2).setCell ⟨w.heap.size+1+1+1+1,0,none⟩ (.bool bb)).setCell ⟨w.heap.size+1+1+1+1+1,0,none⟩ (.int .i64 er)):
 qL w W9/\W9.heap[D]? =some (.deferred (some []))/\W9.heap[w.heap.size+1+1+1]? =some (.cells #[o0,o1,o2] 28 (0,0))/\W9.heap[w.heap.size+1+1+1+1]? =some (.cells #[.bool bb] 4 (0,0))/\W9.heap[w.heap.size+1+1+1+1+1]? =some (.cells #[.int .i64 er] 33 (0,0))/\
 ((∃q m c,o0=.slice q m c)->(∃q m c,o1=.slice q m c)->(∃q m c,o2=.slice q m c)->∀u L,SdL u L W->SdL u L W9):=by
 obtain⟨Wa,ea⟩:=zzX (((W.setCell ⟨w.heap.size+1+1+1,0,none⟩ o0).setCell ⟨w.heap.size+1+1+1,1,none⟩ o1).setCell ⟨w.heap.size+1+1+1,2,none⟩ o2);obtain⟨Wb,eb⟩:=zzX (Wa.setCell ⟨w.heap.size+1+1+1+1,0,none⟩ (.bool bb));rw[<-ea,<-eb] at e9;have na:∀b,b≠w.heap.size+1+1+1->Wa.heap[b]? =W.heap[b]? :=λb hb=>by
  rw[ea,yE _ _ _ _ (by exact hb),yE _ _ _ _ (by exact hb),yE _ _ _ _ (by exact hb)]
 have nb:∀b,b≠w.heap.size+1+1+1+1->Wb.heap[b]? =Wa.heap[b]? :=λb hb=>by rw[eb,yE _ _ _ _ (by exact hb)]
 have n9:∀b,b≠w.heap.size+1+1+1+1+1->W9.heap[b]? =Wb.heap[b]? :=λb hb=>by rw[e9,yE _ _ _ _ (by exact hb)]
 have ra:Wa.heap[w.heap.size+1+1+1]? =some (.cells #[o0,o1,o2] 28 (0,0)):=by rw[ea];exact zK (i:=2) (zK (i:=1) (zK (i:=0) h.r0 o0) o1) o2
 have r1a:Wa.heap[w.heap.size+1+1+1+1]? =some (.cells #[.bool false] 4 (0,0)):=(na _ (by omega)).trans h.r1;have r2b:Wb.heap[w.heap.size+1+1+1+1+1]? =some (.cells #[.int .i64 0] 33 (0,0)):=(nb _ (by omega)).trans ((na _ (by omega)).trans h.r2);have rb:Wb.heap[w.heap.size+1+1+1+1]? =some (.cells #[.bool bb] 4 (0,0)):=by rw[eb];exact zK (i:=0) r1a (.bool bb)
 have r9:W9.heap[w.heap.size+1+1+1+1+1]? =some (.cells #[.int .i64 er] 33 (0,0)):=by rw[e9];exact zK (i:=0) r2b (.int .i64 er)
 have hd:=h.hd D rfl;have d3:D≠w.heap.size+1+1+1:=λe=>by rw[e,h.r0] at hd;cases hd
 have d4:D≠w.heap.size+1+1+1+1:=λe=>by rw[e,h.r1] at hd;cases hd
 have d5:D≠w.heap.size+1+1+1+1+1:=λe=>by rw[e,h.r2] at hd;cases hd
 refine⟨?_,(n9 _ d5).trans ((nb _ d4).trans ((na _ d3).trans hd)),(n9 _ (by omega)).trans ((nb _ (by omega)).trans ra),(n9 _ (by omega)).trans rb,r9,λq0 q1 q2 u L hu=>?_⟩
 ·rw[e9,eb,ea]
  exact((((h.bel.setCell (p:=⟨w.heap.size+1+1+1,0,none⟩) (by show _<=w.heap.size+1+1+1;omega) _).setCell (p:=⟨w.heap.size+1+1+1,1,none⟩) (by show _<=w.heap.size+1+1+1;omega) _).setCell (p:=⟨w.heap.size+1+1+1,2,none⟩) (by show _<=w.heap.size+1+1+1;omega) _).setCell (p:=⟨w.heap.size+1+1+1+1,0,none⟩) (by show _<=w.heap.size+1+1+1+1;omega) _).setCell (p:=⟨w.heap.size+1+1+1+1+1,0,none⟩) (by show _<=w.heap.size+1+1+1+1+1;omega) _
 ·have ha:=hu.other na (by rw[ea];simp[World.setCell]) (zbc h.r0 ⟨_,_,_,rfl⟩ ⟨_,_,_,rfl⟩ ⟨_,_,_,rfl⟩)
  have hb:=ha.other nb (by rw[eb];simp[World.setCell]) (λi q e=>by
   rw[zJ r1a] at e
   match i,e with
   |0,e=>cases Option.some.inj e
   |i+1,e=>simp at e)
  exact hb.other n9 (by rw[e9];simp[World.setCell]) (λi q e=>by
   rw[zJ r2b] at e
   match i,e with
   |0,e=>cases Option.some.inj e
   |i+1,e=>simp at e)
theorem CoS.outs {w W:zA} {ha hb hc X:Array Value} {T:Nat} {D:Option Nat} (h:CoS w ha hb hc T D X W):(W.cell? ⟨w.heap.size+1+1+1,0,none⟩=some (.slice none 0 0)/\W.cell? ⟨w.heap.size+1+1+1,1,none⟩=some (.slice none 0 0)/\W.cell? ⟨w.heap.size+1+1+1,2,none⟩=some (.slice none 0 0)/\W.frozen? ⟨w.heap.size+1+1+1,0,none⟩=false/\W.frozen? ⟨w.heap.size+1+1+1,1,none⟩=false/\W.frozen? ⟨w.heap.size+1+1+1,2,none⟩=false)/\W.cell? ⟨w.heap.size+1+1+1+1,0,none⟩=some (.bool false)/\W.cell? ⟨w.heap.size+1+1+1+1+1,0,none⟩=some (.int .i64 0)/\W.frozen? ⟨w.heap.size+1+1+1+1,0,none⟩=false/\W.frozen? ⟨w.heap.size+1+1+1+1+1,0,none⟩=false:=
 ⟨zah h.r0,by rw[zJ h.r1];rfl,by rw[zJ h.r2];rfl,Go.Joins.unfrozen_of_block h.r1 0,Go.Joins.unfrozen_of_block h.r2 0⟩
theorem CoS.fin9 {w W:zA} {ha hb hc X:Array Value} {T D:Nat} (h:CoS w ha hb hc T (some D) X W) (o0 o1 o2:Value) (bb:Bool) (er:Int):∃W9,((((W.setCell ⟨w.heap.size+1+1+1,0,none⟩ o0).setCell ⟨w.heap.size+1+1+1,1,none⟩ o1).setCell ⟨w.heap.size+1+1+1,2,none⟩ o2).setCell ⟨w.heap.size+1+1+1+1,0,none⟩ (.bool bb)).setCell ⟨w.heap.size+1+1+1+1+1,0,none⟩ (.int .i64 er)=W9/\zB w.heap.size w W9/\W9.heap[D]? =some (.deferred (some []))/\(∀W',W'=W9.putObj D (.deferred none)->W'.cell? ⟨w.heap.size+1+1+1,0,none⟩=some o0/\W'.cell? ⟨w.heap.size+1+1+1,1,none⟩=some o1/\W'.cell? ⟨w.heap.size+1+1+1,2,none⟩=some o2/\W'.cell? ⟨w.heap.size+1+1+1+1,0,none⟩=some (.bool bb)/\W'.cell? ⟨w.heap.size+1+1+1+1+1,0,none⟩=some (.int .i64 er)/\
 ((∃q m c,o0=.slice q m c)->(∃q m c,o1=.slice q m c)->(∃q m c,o2=.slice q m c)->∀u L,SdL u L W->SdL u L W')):=by
 obtain⟨W9,hW9⟩:=zzX (((((W.setCell ⟨w.heap.size+1+1+1,0,none⟩ o0).setCell ⟨w.heap.size+1+1+1,1,none⟩ o1).setCell ⟨w.heap.size+1+1+1,2,none⟩ o2).setCell ⟨w.heap.size+1+1+1+1,0,none⟩ (.bool bb)).setCell ⟨w.heap.size+1+1+1+1+1,0,none⟩ (.int .i64 er));obtain⟨hbel,hK',k0,k1,k2,hk⟩:=h.fin W9 hW9;refine⟨W9,hW9.symm,hbel,hK',λW' e=>?_⟩;have ck:=zbk hK';rw[<-e] at ck;obtain⟨c0',c1',c2', -, -, -⟩:=zah (ck _ _ _ _ k0);exact⟨c0',c1',c2',by rw[zJ (ck _ _ _ _ k1)];rfl,by rw[zJ (ck _ _ _ _ k2)];rfl,λq0 q1 q2 u L hu=>(hk q0 q1 q2 u L hu).keptC ck (by rw[e];simp[World.putObj])⟩
structure CoL (w:zA) (X Y Z cx cy cz:Nat->List UInt8) (Dv:Nat->Value) (T B k:Nat) (W:zA):Prop where
 s:CoS w #[St (X 0),St (Y 0),St (Z 0),Dv 0] #[St (X 1),St (Y 1),St (Z 1),Dv 1] #[St (X 2),St (Y 2),St (Z 2),Dv 2] T none (cr9 cx cy cz k) W
 b:W.heap[B]? =some (.cells (h12 X Y Z Dv) 127 (0,0))
 ne:B≠T
section
variable {w W W':zA} {X Y Z cx cy cz:Nat->List UInt8} {Dv:Nat->Value} {T B k:Nat}
theorem CoL.keep (h:CoL w X Y Z cx cy cz Dv T B k W) (hc:CellsKept W W') (hb:zB w.heap.size W W'):CoL w X Y Z cx cy cz Dv T B k W':=⟨h.s.keep hc hb,hc _ _ _ _ h.b,h.ne⟩
theorem CoL.put (h:CoL w X Y Z cx cy cz Dv T B k W) (hk:k<3):CoL w X Y Z cx cy cz Dv T B (k+1) (((W.setCell ⟨T,k*3,none⟩ (St (cx k))).setCell ⟨T,k*3+1,none⟩ (St (cy k))).setCell ⟨T,k*3+2,none⟩ (St (cz k))):=
 ⟨h.s.put (k*3) _ _ _ (zsd cx cy cz k hk),by rw[yE _ _ _ _ (by exact h.ne),yE _ _ _ _ (by exact h.ne),yE _ _ _ _ (by exact h.ne)];exact h.b,h.ne⟩
end
theorem zop (w x:zA) (X Y Z:Nat->List UInt8) (Dv:Nat->Value) (hx:x=((((((w).alloc (.cells #[St (X 0),St (Y 0),St (Z 0),Dv 0] 26)).alloc (.cells #[St (X 1),St (Y 1),St (Z 1),Dv 1] 26)).alloc (.cells #[St (X 2),St (Y 2),St (Z 2),Dv 2] 26)).alloc (.cells #[.slice none 0 0,.slice none 0 0,.slice none 0 0] 28)).alloc (.cells #[.bool false] 4)).alloc (.cells #[.int .i64 0] 33)):qL w x/\x.heap[w.heap.size]? =some (.cells #[St (X 0),St (Y 0),St (Z 0),Dv 0] 26 (0,0))/\x.heap[w.heap.size+1]? =some (.cells #[St (X 1),St (Y 1),St (Z 1),Dv 1] 26 (0,0))/\x.heap[w.heap.size+1+1]? =some (.cells #[St (X 2),St (Y 2),St (Z 2),Dv 2] 26 (0,0))/\x.heap[w.heap.size+1+1+1]? =some (.cells #[.slice none 0 0,.slice none 0 0,.slice none 0 0] 28 (0,0))/\x.heap[w.heap.size+1+1+1+1]? =some (.cells #[.bool false] 4 (0,0))/\x.heap[w.heap.size+1+1+1+1+1]? =some (.cells #[.int .i64 0] 33 (0,0))/\x.heap.size=w.heap.size+1+1+1+1+1+1:=by
 obtain⟨x1,hx1⟩:=zzX (w.alloc (.cells #[St (X 0),St (Y 0),St (Z 0),Dv 0] 26));have s1:x1.heap.size=w.heap.size+1:=by rw[hx1,zH]
 have q1:qL w x1:=by rw[hx1];exact(zM _ w).alloc (zN _) _
 have f1:x1.heap[w.heap.size]? =some (.cells #[St (X 0),St (Y 0),St (Z 0),Dv 0] 26 (0,0)):=by rw[hx1];exact zG w _
 obtain⟨x2,hx2⟩:=zzX (x1.alloc (.cells #[St (X 1),St (Y 1),St (Z 1),Dv 1] 26));have s2:x2.heap.size=w.heap.size+1+1:=by rw[hx2,zH,s1]
 have q2:qL x1 x2:=by rw[hx2];exact(zM _ x1).alloc (zN _) _
 have f2:x2.heap[w.heap.size+1]? =some (.cells #[St (X 1),St (Y 1),St (Z 1),Dv 1] 26 (0,0)):=by rw[hx2,<-s1];exact zG x1 _
 replace f1:=zac q2 _ _ _ _ f1;replace q2:=q1.trans (q2.mono q1.size);obtain⟨x3,hx3⟩:=zzX (x2.alloc (.cells #[St (X 2),St (Y 2),St (Z 2),Dv 2] 26));have s3:x3.heap.size=w.heap.size+1+1+1:=by rw[hx3,zH,s2]
 have q3:qL x2 x3:=by rw[hx3];exact(zM _ x2).alloc (zN _) _
 have f3:x3.heap[w.heap.size+1+1]? =some (.cells #[St (X 2),St (Y 2),St (Z 2),Dv 2] 26 (0,0)):=by rw[hx3,<-s2];exact zG x2 _
 replace f1:=zac q3 _ _ _ _ f1;replace f2:=zac q3 _ _ _ _ f2;replace q3:=q2.trans (q3.mono q2.size);obtain⟨x4,hx4⟩:=zzX (x3.alloc (.cells #[.slice none 0 0,.slice none 0 0,.slice none 0 0] 28));have s4:x4.heap.size=w.heap.size+1+1+1+1:=by rw[hx4,zH,s3]
 have q4:qL x3 x4:=by rw[hx4];exact(zM _ x3).alloc (zN _) _
 have f4:x4.heap[w.heap.size+1+1+1]? =some (.cells #[.slice none 0 0,.slice none 0 0,.slice none 0 0] 28 (0,0)):=by rw[hx4,<-s3];exact zG x3 _
 replace f1:=zac q4 _ _ _ _ f1;replace f2:=zac q4 _ _ _ _ f2;replace f3:=zac q4 _ _ _ _ f3;replace q4:=q3.trans (q4.mono q3.size);obtain⟨x5,hx5⟩:=zzX (x4.alloc (.cells #[.bool false] 4));have s5:x5.heap.size=w.heap.size+1+1+1+1+1:=by rw[hx5,zH,s4]
 have q5:qL x4 x5:=by rw[hx5];exact(zM _ x4).alloc (zN _) _
 have f5:x5.heap[w.heap.size+1+1+1+1]? =some (.cells #[.bool false] 4 (0,0)):=by rw[hx5,<-s4];exact zG x4 _
 replace f1:=zac q5 _ _ _ _ f1;replace f2:=zac q5 _ _ _ _ f2;replace f3:=zac q5 _ _ _ _ f3;replace f4:=zac q5 _ _ _ _ f4;replace q5:=q4.trans (q5.mono q4.size);obtain⟨x6,hx6⟩:=zzX (x5.alloc (.cells #[.int .i64 0] 33));have s6:x6.heap.size=w.heap.size+1+1+1+1+1+1:=by rw[hx6,zH,s5]
 have q6:qL x5 x6:=by rw[hx6];exact(zM _ x5).alloc (zN _) _
 have f6:x6.heap[w.heap.size+1+1+1+1+1]? =some (.cells #[.int .i64 0] 33 (0,0)):=by rw[hx6,<-s5];exact zG x5 _
 replace f1:=zac q6 _ _ _ _ f1;replace f2:=zac q6 _ _ _ _ f2;replace f3:=zac q6 _ _ _ _ f3;replace f4:=zac q6 _ _ _ _ f4;replace f5:=zac q6 _ _ _ _ f5;replace q6:=q5.trans (q6.mono q5.size);obtain rfl:x=x6:=by rw[hx,hx6,hx5,hx4,hx3,hx2,hx1]
 exact⟨q6,f1,f2,f3,f4,f5,f6,s6⟩
theorem zrl (X Y Z cx cy cz ex ey ez:Nat->List UInt8) (Dv:Nat->Value) (hD:∀i,∃q m c,Dv i=.slice q m c) (d s:List UInt8) (L0 L1 L2:List (Rat×Nat)) (E0 E1 E2 F:Prop) (w:zA)
 (CK:Hid (∀W:zA,qL w W->∀A,W.heap[A]? =some (.cells (h12 X Y Z Dv) 26 (0,0))->qJ 44 #[.slice (some ⟨A,0,none⟩) 3 3] W (.int .i64 0)))
 (CR:Hid (∀j,j<3->∀W:zA,qL w W->qJ 81 #[.agg #[St (X ((j+1)%3)),St (Y ((j+1)%3)),St (Z ((j+1)%3))],.agg #[St (X ((j+2)%3)),St (Y ((j+2)%3)),St (Z ((j+2)%3))]] W (.tuple #[.agg #[St (cx j),St (cy j),St (cz j)],.int .i64 0])))
 (DT:Hid (∀W:zA,qL w W->qJ 47 #[.agg #[St (X 0),St (Y 0),St (Z 0)],.agg #[St (cx 0),St (cy 0),St (cz 0)]] W (.tuple #[St d,.int .i64 0])))
 (DV:Hid ((d==[48])=false->∀W:zA,qL w W->qJ 82 #[.string ⟨#[49]⟩,St d] W (.tuple #[St s,.int .i64 0])))
 (SC:Hid ((d==[48])=false->∀j,j<3->∀W:zA,qL w W->qJ 83 #[.agg #[St (cx j),St (cy j),St (cz j)],St s] W (.tuple #[.agg #[St (ex j),St (ey j),St (ez j)],.int .i64 0])))
 (SD0:Hid ((d==[48])=false->∀W:zA,qL w W->zC zF 49 #[.agg #[Dv 0,Dv 1,Dv 2],.agg #[St (ex 0),St (ex 1),St (ex 2)]] W λe w'=>∃q n c r,e=.returned (.tuple #[.slice q n c,.int .i64 r])/\zB W.heap.size W w'/\OutR L0 E0 F (.slice q n c) r w'))
 (SD1:Hid ((d==[48])=false->∀W:zA,qL w W->zC zF 49 #[.agg #[Dv 0,Dv 1,Dv 2],.agg #[St (ey 0),St (ey 1),St (ey 2)]] W λe w'=>∃q n c r,e=.returned (.tuple #[.slice q n c,.int .i64 r])/\zB W.heap.size W w'/\OutR L1 E1 F (.slice q n c) r w'))
 (SD2:Hid ((d==[48])=false->∀W:zA,qL w W->zC zF 49 #[.agg #[Dv 0,Dv 1,Dv 2],.agg #[St (ez 0),St (ez 1),St (ez 2)]] W λe w'=>∃q n c r,e=.returned (.tuple #[.slice q n c,.int .i64 r])/\zB W.heap.size W w'/\OutR L2 E2 F (.slice q n c) r w')):
 zC zF 28 #[.agg #[St (X 0),St (Y 0),St (Z 0),Dv 0],.agg #[St (X 1),St (Y 1),St (Z 1),Dv 1],.agg #[St (X 2),St (Y 2),St (Z 2),Dv 2]] w λe w'=>∃u0 u1 u2 bb er,e=.returned (.tuple #[.agg #[u0,u1,u2],.bool bb,.int .i64 er])/\zB w.heap.size w w'/\((bb=false/\u0=.slice none 0 0/\u1=.slice none 0 0/\u2=.slice none 0 0/\((er=0/\(d==[48])=true)\/(er=4/\(d==[48])=false/\F)))\/(bb=true/\er=0/\(d==[48])=false/\SdL u0 L0 w'/\SdL u1 L1 w'/\SdL u2 L2 w'/\E0/\E1/\E2)):=by
 obtain⟨qa,na,ka,ea⟩:=hD 0;obtain⟨qb,nb,kb,eb⟩:=hD 1;obtain⟨qc,nc,kc,ec⟩:=hD 2;obtain⟨x6,hall⟩:=zzX (((((((w).alloc (.cells #[St (X 0),St (Y 0),St (Z 0),Dv 0] 26)).alloc (.cells #[St (X 1),St (Y 1),St (Z 1),Dv 1] 26)).alloc (.cells #[St (X 2),St (Y 2),St (Z 2),Dv 2] 26)).alloc (.cells #[.slice none 0 0,.slice none 0 0,.slice none 0 0] 28)).alloc (.cells #[.bool false] 4)).alloc (.cells #[.int .i64 0] 33));have hfr:=zop w x6 X Y Z Dv hall;have q6:=hfr.1;have s6:=hfr.2.2.2.2.2.2.2;have F:=hid hfr;obtain⟨x7,hx7⟩:=zzX (x6.alloc (.cells (h12 X Y Z Dv) 26));have q7:qL x6 x7:=by rw[hx7];exact(zM _ x6).alloc (zN _) _
 have f7:x7.heap[w.heap.size+1+1+1+1+1+1]? =some (.cells (h12 X Y Z Dv) 26 (0,0)):=by rw[hx7,<-s6];exact zG x6 _
 have q7':=q6.trans (q7.mono q6.size);have HC:=hid (CK.out x7 q7' _ f7);have hal7:x7=(((((((w.alloc (.cells #[St (X 0),St (Y 0),St (Z 0),Dv 0] 26)).alloc (.cells #[St (X 1),St (Y 1),St (Z 1),Dv 1] 26)).alloc (.cells #[St (X 2),St (Y 2),St (Z 2),Dv 2] 26)).alloc (.cells #[.slice none 0 0,.slice none 0 0,.slice none 0 0] 28)).alloc (.cells #[.bool false] 4)).alloc (.cells #[.int .i64 0] 33)).alloc (.cells (h12 X Y Z Dv) 26)):=by rw[hx7,hall]
 rw[ea,eb,ec] at hal7;unfold h12 at hal7;rw[ea,eb,ec] at hal7;have HV:=hid hal7.symm;have Q7:=hid q7;clear hall hal7 hx7 s6 q6 q7 q7' f7 CK hfr;rw[ea,eb,ec];refine(callsIn_wide (n:=3)).1 ?_;refine callsIn_of_wp_marks Tryz.func28 rfl trivial ?_ rfl;simp only[Tryz.ntmps28,List.size_toArray,List.length_cons,List.length_nil,Nat.reduceAdd,Nat.reduceSub,Array.replicate_succ,Array.replicate_zero,List.push_toArray,List.append_toArray,List.nil_append,yM];have HEA:=hid ea;have HEB:=hid eb;have HEC:=hid ec;clear ea eb ec;have HD:=hid hD;clear hD;generalize hx0:X 0=a0 at HV⊢;generalize hy0:Y 0=b0 at HV⊢;generalize hz0:Z 0=c0 at HV⊢;generalize hx1:X 1=a1 at HV⊢;generalize hy1:Y 1=b1 at HV⊢;generalize hz1:Z 1=c1 at HV⊢;generalize hx2:X 2=a2 at HV⊢;generalize hy2:Y 2=b2 at HV⊢;generalize hz2:Z 2=c2 at HV⊢;have EX:=hid (⟨hx0,hy0,hz0,hx1,hy1,hz1,hx2,hy2,hz2⟩:_/\_/\_/\_/\_/\_/\_/\_/\_);clear hx0 hy0 hz0 hx1 hy1 hz1 hx2 hy2 hz2;gi_wp2_with fail;have h9:=HV.out
 rw[show(((((((w.alloc (.cells #[.string ⟨a0.toArray⟩,.string ⟨b0.toArray⟩,.string ⟨c0.toArray⟩,.slice qa na ka] 26)).alloc (.cells #[.string ⟨a1.toArray⟩,.string ⟨b1.toArray⟩,.string ⟨c1.toArray⟩,.slice qb nb kb] 26)).alloc (.cells #[.string ⟨a2.toArray⟩,.string ⟨b2.toArray⟩,.string ⟨c2.toArray⟩,.slice qc nc kc] 26)).alloc (.cells #[.slice none 0 0,.slice none 0 0,.slice none 0 0] 28)).alloc (.cells #[.bool false] 4)).alloc (.cells #[.int .i64 0] 33)).alloc (.cells #[.string ⟨a0.toArray⟩,.string ⟨b0.toArray⟩,.string ⟨c0.toArray⟩,.slice qa na ka,.string ⟨a1.toArray⟩,.string ⟨b1.toArray⟩,.string ⟨c1.toArray⟩,.slice qb nb kb,.string ⟨a2.toArray⟩,.string ⟨b2.toArray⟩,.string ⟨c2.toArray⟩,.slice qc nc kc] 26))=x7 from h9];clear h9 HV;refine⟨trivial,(callsIn_wide.2 HC.out).mono ?_⟩;rintro e y1 ⟨rfl,hb⟩;have hby:qL x6 y1:=Q7.out.trans (hb.mono Q7.out.size);have hbw:=F.out.1.trans (hby.mono F.out.1.size);obtain⟨ex0,ey0,ez0,ex1,ey1,ez1,ex2,ey2,ez2⟩:=EX.out;have hck:=zac hby
 have g0:=hck _ _ _ _ F.out.2.1;have g1:=hck _ _ _ _ F.out.2.2.1;have g2:=hck _ _ _ _ F.out.2.2.2.1;have g3:=hck _ _ _ _ F.out.2.2.2.2.1;have g4:=hck _ _ _ _ F.out.2.2.2.2.2.1;have g5:=hck _ _ _ _ F.out.2.2.2.2.2.2.1;have k00:y1.cell? ⟨w.heap.size,0,none⟩=some (St a0):=by rw[zJ g0,<-ex0];rfl
 have k01:y1.cell? ⟨w.heap.size,1,none⟩=some (St b0):=by rw[zJ g0,<-ey0];rfl
 have k02:y1.cell? ⟨w.heap.size,2,none⟩=some (St c0):=by rw[zJ g0,<-ez0];rfl
 have k03:y1.cell? ⟨w.heap.size,3,none⟩=some (.slice qa na ka):=by rw[zJ g0,<-HEA.out];rfl
 have k10:y1.cell? ⟨w.heap.size+1,0,none⟩=some (St a1):=by rw[zJ g1,<-ex1];rfl
 have k11:y1.cell? ⟨w.heap.size+1,1,none⟩=some (St b1):=by rw[zJ g1,<-ey1];rfl
 have k12:y1.cell? ⟨w.heap.size+1,2,none⟩=some (St c1):=by rw[zJ g1,<-ez1];rfl
 have k13:y1.cell? ⟨w.heap.size+1,3,none⟩=some (.slice qb nb kb):=by rw[zJ g1,<-HEB.out];rfl
 have k20:y1.cell? ⟨w.heap.size+1+1,0,none⟩=some (St a2):=by rw[zJ g2,<-ex2];rfl
 have k21:y1.cell? ⟨w.heap.size+1+1,1,none⟩=some (St b2):=by rw[zJ g2,<-ey2];rfl
 have k22:y1.cell? ⟨w.heap.size+1+1,2,none⟩=some (St c2):=by rw[zJ g2,<-ez2];rfl
 have k23:y1.cell? ⟨w.heap.size+1+1,3,none⟩=some (.slice qc nc kc):=by rw[zJ g2,<-HEC.out];rfl
 clear ex0 ey0 ez0 ex1 ey1 ez1 ex2 ey2 ez2;have G:=hid (⟨hbw,g0,g1,g2,g3,g4,g5,by have:=hby.size;have:=F.out.2.2.2.2.2.2.2;omega⟩:_/\_/\_/\_/\_/\_/\_/\w.heap.size+1+1+1+1+1<y1.heap.size);clear hb hby hbw hck g0 g1 g2 g3 g4 g5 HC Q7 F;gi_wp2_with (refine⟨trivial,?_⟩;gi_at_call 80;refine(callsIn_wide.2 (zh8 _ _ ⟨_,_,_,_,_,_,_,_,_,_,_,_,rfl⟩)).mono ?_;rintro e w' ⟨rfl,rfl⟩);obtain⟨W1,hW1⟩:=zzX (((y1.alloc (.cells #[St a0,St b0,St c0,.slice qa na ka,St a1,St b1,St c1,.slice qb nb kb,St a2,St b2,St c2,.slice qc nc kc] 127)).alloc (.cells #[St [],St [],St [],St [],St [],St [],St [],St [],St []] 128)).alloc (.cells #[St a0,St b0,St c0,.slice qa na ka,St a1,St b1,St c1,.slice qb nb kb,St a2,St b2,St c2,.slice qc nc kc] 127));have HW1:=hid hW1.symm;have hw1:=HW1.out;rw[show((y1.alloc (.cells #[.string ⟨a0.toArray⟩,.string ⟨b0.toArray⟩,.string ⟨c0.toArray⟩,.slice qa na ka,.string ⟨a1.toArray⟩,.string ⟨b1.toArray⟩,.string ⟨c1.toArray⟩,.slice qb nb kb,.string ⟨a2.toArray⟩,.string ⟨b2.toArray⟩,.string ⟨c2.toArray⟩,.slice qc nc kc] 127)).alloc (.cells #[.string ⟨#[]⟩,.string ⟨#[]⟩,.string ⟨#[]⟩,.string ⟨#[]⟩,.string ⟨#[]⟩,.string ⟨#[]⟩,.string ⟨#[]⟩,.string ⟨#[]⟩,.string ⟨#[]⟩] 128)).alloc (.cells #[.string ⟨a0.toArray⟩,.string ⟨b0.toArray⟩,.string ⟨c0.toArray⟩,.slice qa na ka,.string ⟨a1.toArray⟩,.string ⟨b1.toArray⟩,.string ⟨c1.toArray⟩,.slice qb nb kb,.string ⟨a2.toArray⟩,.string ⟨b2.toArray⟩,.string ⟨c2.toArray⟩,.slice qc nc kc] 127)=W1 from hw1]
 clear hw1 HW1 k00 k01 k02 k03 k10 k11 k12 k13 k20 k21 k22 k23;obtain⟨v1,hv1⟩:=zzX (y1.alloc (.cells #[St a0,St b0,St c0,.slice qa na ka,St a1,St b1,St c1,.slice qb nb kb,St a2,St b2,St c2,.slice qc nc kc] 127));obtain⟨v2,hv2⟩:=zzX (v1.alloc (.cells (cr9 cx cy cz 0) 128));have e12:h12 X Y Z Dv= #[St a0,St b0,St c0,.slice qa na ka,St a1,St b1,St c1,.slice qb nb kb,St a2,St b2,St c2,.slice qc nc kc]:=by
  obtain⟨ex0,ey0,ez0,ex1,ey1,ez1,ex2,ey2,ez2⟩:=EX.out;unfold h12;rw[ex0,ey0,ez0,ex1,ey1,ez1,ex2,ey2,ez2,HEA.out,HEB.out,HEC.out]
 have hW1':W1=v2.alloc (.cells (h12 X Y Z Dv) 127):=by rw[e12,hW1,hv2,hv1];rfl
 have s1:v1.heap.size=y1.heap.size+1:=by rw[hv1,zH]
 have s2:v2.heap.size=y1.heap.size+1+1:=by rw[hv2,zH,s1]
 have u1:qL y1 v1:=by rw[hv1];exact(zM _ y1).alloc (zN _) _
 have u2:qL v1 v2:=by rw[hv2];exact(zM _ v1).alloc (zN _) _
 have u3:qL v2 W1:=by rw[hW1'];exact(zM _ v2).alloc (zN _) _
 have tx:v2.heap[y1.heap.size+1]? =some (.cells (cr9 cx cy cz 0) 128 (0,0)):=by rw[hv2,<-s1];exact zG v1 _
 have tb:W1.heap[y1.heap.size+1+1]? =some (.cells (h12 X Y Z Dv) 127 (0,0)):=by rw[hW1',<-s2];exact zG v2 _
 have u13:=u1.trans ((u2.trans (u3.mono u2.size)).mono u1.size);have hck:=zac u13;obtain⟨g,g0,g1,g2,g3,g4,g5,g6⟩:=G.out;have hS1:CoL w X Y Z cx cy cz Dv (y1.heap.size+1) (y1.heap.size+1+1) 0 W1:=
  ⟨⟨g.trans (u13.mono g.size),hck _ _ _ _ g0,hck _ _ _ _ g1,hck _ _ _ _ g2,hck _ _ _ _ g3,hck _ _ _ _ g4,hck _ _ _ _ g5,by omega,zac u3 _ _ _ _ tx,λd e=>by cases e⟩,tb,by omega⟩
 clear hW1 hv1 hv2 hW1' s1 s2 u1 u2 u3 tx tb u13 hck g g0 g1 g2 g3 g4 g5 g6 G;clear v1 v2;have E12:=hid e12;clear e12;have hseq:=zom 2 (by omega) (y1.heap.size+1+1) X Y Z Dv HD.out 127 (λW=>∃j,CoL w X Y Z cx cy cz Dv (y1.heap.size+1) (y1.heap.size+1+1) j W) (λW ⟨j,h⟩=>h.b)
 refine zi2 (n:=3) (B:=w.heap.size) rfl (by omega) rfl trivial (enters_of Tryz.func133 (by kernel_rfl) rfl) hseq (λk args h=>by subst h;rfl) hS1.s.bel.size
  (λj W=>CoL w X Y Z cx cy cz Dv (y1.heap.size+1) (y1.heap.size+1+1) j W) (λc _ W=>False)
  (λj _ _ h hc hb=>h.keep hc hb) (λc j _ _ h hc hb=>h) (λj W h=>⟨j,h⟩) hS1
  (λj _ a' W=>∃bs,a'={tmps:= #[.agg #[St a0,St b0,St c0,.slice qa na ka],.agg #[St a1,St b1,St c1,.slice qb nb kb],.agg #[St a2,St b2,St c2,.slice qc nc kc],.pointer (some ⟨w.heap.size,0,none⟩),.pointer (some ⟨w.heap.size+1,0,none⟩),.pointer (some ⟨w.heap.size+1+1,0,none⟩),.pointer (some ⟨w.heap.size+1+1+1,0,none⟩),.pointer (some ⟨w.heap.size+1+1+1+1,0,none⟩),.pointer (some ⟨w.heap.size+1+1+1+1+1,0,none⟩),.int .i64 0,.pointer (some ⟨y1.heap.size,0,none⟩),.pointer (some ⟨y1.heap.size+1,0,none⟩),I j,.pointer (some ⟨bs,0,none⟩),undef,undef,undef,undef,undef,undef,undef,undef,undef,undef,undef,undef,undef,.agg #[St a0,St b0,St c0,.slice qa na ka],.agg #[St a1,St b1,St c1,.slice qb nb kb],.agg #[St a2,St b2,St c2,.slice qc nc kc],.slice (some ⟨w.heap.size+1+1+1+1+1+1,0,none⟩) 3 3,.int .i64 0,.int .i64 0,.bool false,undef,undef,.agg #[St a0,St b0,St c0,.slice qa na ka],.agg #[St a1,St b1,St c1,.slice qb nb kb],.agg #[St a2,St b2,St c2,.slice qc nc kc],.agg #[St a0,St b0,St c0,.slice qa na ka,St a1,St b1,St c1,.slice qb nb kb,St a2,St b2,St c2,.slice qc nc kc],.agg #[St a0,St b0,St c0,.slice qa na ka,St a1,St b1,St c1,.slice qb nb kb,St a2,St b2,St c2,.slice qc nc kc],.func (.func 133) #[] #[.pointer (some ⟨y1.heap.size+1+1,0,none⟩)],I j,twoH X Y Z Dv ((j+1)%3) ((j+2)%3),undef,undef,undef,undef,undef,undef,undef,undef,undef,undef,undef,undef,undef,undef,undef,undef,undef,undef,undef,undef,undef,undef,undef,undef,undef,undef,undef,undef,undef,undef,undef,undef,undef,undef,undef,undef,undef,undef,undef,undef,undef,undef,undef,undef,undef,undef,undef,undef,undef,undef,undef,undef,undef,undef,undef,undef,undef,undef,undef,undef,undef,undef,undef,undef,undef,undef,undef,undef,undef,undef,undef,undef,undef,undef,undef,undef,undef,undef,undef,undef,undef,undef,undef,undef,undef,undef,undef,undef,undef,undef,undef,undef,undef,undef,undef,undef,undef,undef,undef,undef,undef,undef,undef,undef,undef,undef,undef,undef,undef,undef,undef,undef,undef,undef,undef,undef,undef,undef,undef],defers:=[]}/\W.heap[bs]? =some (.cells #[St (X ((j+1)%3)),St (Y ((j+1)%3)),St (Z ((j+1)%3)),Dv ((j+1)%3),St (X ((j+2)%3)),St (Y ((j+2)%3)),St (Z ((j+2)%3)),Dv ((j+2)%3)] 132 (0,0)))
  (λj _ a' _ _ h hc hb=>let ⟨bs,e,h2⟩:=h;⟨bs,e,hc _ _ _ _ h2⟩) ?assign ?body ?done ?stop
 case assign=>
  rintro lp j args W K hlp hrec hS hj rfl hK;have HK:=hid hK;clear hK;clear SD0 SD1 SD2 SC DV DT CR hseq;have hd1:=HD.out ((j+1)%3);have hd2:=HD.out ((j+2)%3);unfold twoH at HK⊢;generalize (j+1)%3=j1 at*
  generalize (j+2)%3=j2 at*
  obtain⟨p1,m1,k1,e1⟩:=hd1;obtain⟨p2,m2,k2,e2⟩:=hd2;rw[e1,e2] at HK⊢;generalize X j1=x1 at*
  generalize Y j1=y1' at*
  generalize Z j1=z1 at*
  generalize X j2=x2 at*
  generalize Y j2=y2 at*
  generalize Z j2=z2 at*
  clear e1 e2;gi_wp2;have hb1:qL W (W.alloc (.cells #[St x1,St y1',St z1,.slice p1 m1 k1,St x2,St y2,St z2,.slice p2 m2 k2] 132)):=(zM _ W).alloc (zN _) _;exact HK.out _ _ ((za0 hb1).from _) (hS.keep (zac hb1) (hb1.mono hS.s.bel.size)) ⟨W.heap.size,rfl,zG W _⟩
 case body=>
  rintro lp j args a' W hlp ⟨r',hr'⟩ hS hj rfl ⟨bs,rfl,hseg⟩;have hcr:=CR.out j hj;have H0:=hid hS;have HPT:=hid λ(W':zA) (h:CoL w X Y Z cx cy cz Dv (y1.heap.size+1) (y1.heap.size+1+1) j W')=>h.put hj;have hbl:=hS.s.bel;clear SD0 SD1 SD2 SC DV DT CR hseq hr' hS hS1;have hd1:=HD.out ((j+1)%3);have hd2:=HD.out ((j+2)%3);unfold twoH;generalize (j+1)%3=j1 at hseg hcr hd1⊢;generalize (j+2)%3=j2 at hseg hcr hd2⊢;obtain⟨p1,m1,k1,e1⟩:=hd1;obtain⟨p2,m2,k2,e2⟩:=hd2;rw[e1,e2] at hseg⊢;generalize X j1=x1 at hseg hcr⊢;generalize Y j1=y1' at hseg hcr⊢;generalize Z j1=z1 at hseg hcr⊢;generalize X j2=x2 at hseg hcr⊢;generalize Y j2=y2 at hseg hcr⊢;generalize Z j2=z2 at hseg hcr⊢;generalize cx j=u at hcr HPT;generalize cy j=v at hcr HPT;generalize cz j=t at hcr HPT;clear e1 e2;have HCR:=hid hcr;clear hcr;have KB:=hid λW' (h:qL W W')=>(show(W'.cell? ⟨bs,0,none⟩=some (St x1)/\W'.cell? ⟨bs,1,none⟩=some (St y1')/\W'.cell? ⟨bs,2,none⟩=some (St z1)/\W'.cell? ⟨bs,3,none⟩=some (.slice p1 m1 k1))/\W'.cell? ⟨bs,4,none⟩=some (St x2)/\W'.cell? ⟨bs,5,none⟩=some (St y2)/\W'.cell? ⟨bs,6,none⟩=some (St z2)/\W'.cell? ⟨bs,7,none⟩=some (.slice p2 m2 k2) by
   have:=zac h _ _ _ _ hseg;refine⟨⟨?_,?_,?_,?_⟩,?_,?_,?_,?_⟩<;>(rw[zJ this];rfl))
  have HBL:=hid hbl;clear hseg hbl;gi_wp2;refine zgv (λ(q:Nat->Nat) i=>([.pointer (some ⟨bs,0,none⟩),.agg #[St x1,St y1',St z1,.slice p1 m1 k1],.agg #[St x1,St y1',St z1],.pointer (some ⟨bs,4,none⟩),.agg #[St x2,St y2,St z2,.slice p2 m2 k2],.agg #[St x2,St y2,St z2],.tuple #[.agg #[St u,St v,St t],.int .i64 0],.tuple #[.agg #[St u,St v,St t],.int .i64 0],.agg #[St u,St v,St t],.int .i64 0,.pointer (some ⟨q 0,0,none⟩),undef,.int .i64 0]:List Value).getD i undef) (BoxS 1 10 11 #[St [],St [],St []] (λ_=> #[St u,St v,St t]) 45 W) (by kernel_rfl) (by kernel_rfl) (by kernel_rfl) (λ_=>0) (BoxS.start (zM _ W).drew) λq=>?_;refine qB (.pointer (some ⟨bs,0,none⟩)) (λf W' h=>h.step 0 (by decide) (by decide)) ?_;refine qB (.agg #[St x1,St y1',St z1,.slice p1 m1 k1]) (λf W' h=>h.step 1 (by decide) (by decide)) ?_ (hy:=λf W' hf h=>by obtain⟨⟨d0,d1,d2,d3⟩, -⟩:=KB.out W' h.bel;go_simp);simp only[zzQ]
  refine zbv (.agg #[St x1,St y1',St z1]) (by rfl) (by rfl) (λf W' hf h C' hC'=>by
   go_simp;refine zzM (zcl x1 y1' z1 p1 m1 k1 W') λw' hb=>?_;exact⟨_,rfl,hC' _ ((h.next hb).step 2 (by decide) (by decide))⟩) ?_
  refine qB (.pointer (some ⟨bs,4,none⟩)) (λf W' h=>h.step 3 (by decide) (by decide)) ?_;refine qB (.agg #[St x2,St y2,St z2,.slice p2 m2 k2]) (λf W' h=>h.step 4 (by decide) (by decide)) ?_ (hy:=λf W' hf h=>by obtain⟨-,d0,d1,d2,d3⟩:=KB.out W' h.bel;go_simp);simp only[zzQ]
  refine zbv (.agg #[St x2,St y2,St z2]) (by rfl) (by rfl) (λf W' hf h C' hC'=>by
   go_simp;refine zzM (zcl x2 y2 z2 p2 m2 k2 W') λw' hb=>?_;exact⟨_,rfl,hC' _ ((h.next hb).step 5 (by decide) (by decide))⟩) ?_
  try simp only[zzQ]
  refine zbv (.tuple #[.agg #[St u,St v,St t],.int .i64 0]) (by rfl) (by rfl) (λf W' hf h C' hC'=>by
   have hq:=HCR.out W' (HBL.out.trans (h.bel.mono HBL.out.size));go_simp;refine zzM (hq) λw' hb=>?_;exact⟨_,rfl,hC' _ ((h.next hb).step 6 (by decide) (by decide))⟩) ?_
  refine qB (.tuple #[.agg #[St u,St v,St t],.int .i64 0]) (λf W' h=>h.step 7 (by decide) (by decide)) ?_;refine qB (.agg #[St u,St v,St t]) (λf W' h=>h.step 8 (by decide) (by decide)) ?_;simp only[zzQ];refine qB (.int .i64 0) (λf W' h=>h.step 9 (by decide) (by decide)) ?_;simp only[zzQ]
  refine zdc (.pointer (some ⟨q 0,0,none⟩)) (by rfl) (by rfl) (λf W' hf h C' hC'=>by
   have h0:=hf.self;have h1:=hf.no (j:=11) hf.self (by kernel_rfl);have hc:=hC' (λj=>if j=0 then W'.heap.size else q j) _ (λj hj=>by
    match j,hj with
    |0,_|1,_|2,_|3,_|4,_|5,_|6,_|7,_|8,_|9,_|11,_|12,_=>rfl
    |10,hj=>rw[h0] at hj;cases hj
    |_+13,_=>rfl) (h.new 0 (by decide) h1 (by decide))
   clear h hC';go_simp;exact hc) ?_
  try simp only[zzQ]
  refine zbv undef (by rfl) (by rfl) (λf W' hf h C' hC'=>by
   have h0:=hf.done 10 (by kernel_rfl);obtain⟨⟨s0,d0⟩,⟨s1,d1⟩,⟨s2,d2⟩,z0,z1',z2'⟩:=h.open 0 (by decide) h0 rfl rfl;have hc:=hC' _ (h.put 0 (by decide) h0 (by decide) (St u) (St v) (St t) rfl rfl);clear h hC';go_simp;exact hc) ?_
  refine qB (.int .i64 0) (λf W' h=>h.step 12 (by decide) (by decide)) ?_;simp only[zzQ];refine ze1 λf X2 hf h=>?_;have hA:=h.blk 0 (by decide) (hf 10 (by decide));rw[if_pos (hf 11 (by decide))] at hA;obtain⟨Q,hQ⟩:=zzX (q 0);rw[<-hQ] at hA⊢;obtain⟨d0,d1,d2, -, -, -⟩:=zah hA;have hL2:CoL w X Y Z cx cy cz Dv (y1.heap.size+1) (y1.heap.size+1+1) j X2:=H0.out.keep (zac h.bel) (h.bel.mono H0.out.s.bel.size);have hEnd:=HPT.out X2 hL2;have hKp:=((((za0 h.bel).from W1.heap.size).trans ((KeepsOthers.setCell X2 ⟨y1.heap.size+1,j*3,none⟩ (St u)).from W1.heap.size)).trans ((KeepsOthers.setCell _ ⟨y1.heap.size+1,j*3+1,none⟩ (St v)).from W1.heap.size)).trans ((KeepsOthers.setCell _ ⟨y1.heap.size+1,j*3+2,none⟩ (St t)).from W1.heap.size);obtain⟨⟨e0,t0⟩,⟨e1,t1⟩,⟨e2,t2⟩,z0,z1',z2'⟩:=hL2.s.at3 j hj rfl;have HE:=hid (⟨hKp,hEnd⟩:_/\_);clear hA hQ h hf hL2 hEnd hKp H0 HPT;gi_wp2;exact HE.out
 case done=>
  rintro D W hD hS hK;have hcr:=SC.out;have hs:CoS w #[St a0,St b0,St c0,.slice qa na ka] #[St a1,St b1,St c1,.slice qb nb kb] #[St a2,St b2,St c2,.slice qc nc kc] (y1.heap.size+1) (some D) #[St (cx 0),St (cy 0),St (cz 0),St (cx 1),St (cy 1),St (cz 1),St (cx 2),St (cy 2),St (cz 2)] W:=by
   obtain⟨ex0,ey0,ez0,ex1,ey1,ez1,ex2,ey2,ez2⟩:=EX.out;have h:=hS.s;rw[ex0,ey0,ez0,ex1,ey1,ez1,ex2,ey2,ez2,HEA.out,HEB.out,HEC.out] at h;exact⟨h.bel,h.h0,h.h1,h.h2,h.r0,h.r1,h.r2,h.lo,h.x,λd e=>by cases e;exact hK⟩
  have hdt:=DT.out;have c0':=λk=>SC.out k 0 (by omega);have c1':=λk=>SC.out k 1 (by omega);have c2':=λk=>SC.out k 2 (by omega);have d0':=SD0.out;have d1':=SD1.out;have d2':=SD2.out;rw[HEA.out,HEB.out,HEC.out] at d0' d1' d2';obtain⟨ex0,ey0,ez0, -, -, -, -, -, -⟩:=EX.out;rw[ex0,ey0,ez0] at hdt;generalize cx 0=u0 at hs hdt c0';generalize cy 0=v0 at hs hdt c0';generalize cz 0=t0 at hs hdt c0';generalize cx 1=u1 at hs c1';generalize cy 1=v1 at hs c1';generalize cz 1=t1 at hs c1';generalize cx 2=u2 at hs c2';generalize cy 2=v2 at hs c2';generalize cz 2=t2 at hs c2';generalize ex 0=f0 at c0' d0';generalize ey 0=g0 at c0' d1';generalize ez 0=h0 at c0' d2';generalize ex 1=f1 at c1' d0';generalize ey 1=g1 at c1' d1';generalize ez 1=h1 at c1' d2';generalize ex 2=f2 at c2' d0';generalize ey 2=g2 at c2' d1';generalize ez 2=h2 at c2' d2';have HS:=hid hs;have DT2:=hid hdt;have C0:=hid c0';have C1:=hid c1';have C2:=hid c2';have D0:=hid d0';have D1:=hid d1';have D2:=hid d2';have HDD:=hid (Nat.le_trans hS1.s.bel.size hD);clear ex0 ey0 ez0 hs hdt c0' c1' c2' d0' d1' d2' hcr hK hS SC SD0 SD1 SD2 DT CR hseq hS1 HD HEA HEB HEC EX E12;gi_step;gi_step;refine wpIn_wide.2 ?_;go_wp21
  refine zc4 (λ(_:Unit) i=>([.agg #[St a0,St b0,St c0,.slice qa na ka],.agg #[St a0,St b0,St c0],.pointer (some ⟨y1.heap.size+1,0,none⟩),.agg #[St u0,St v0,St t0],.tuple #[St d,.int .i64 0],.tuple #[St d,.int .i64 0],St d,.int .i64 0,St d,.int .i64 0]:List Value).getD i undef) (λ_ _ V=>CoS w #[St a0,St b0,St c0,.slice qa na ka] #[St a1,St b1,St c1,.slice qb nb kb] #[St a2,St b2,St c2,.slice qc nc kc] (y1.heap.size+1) (some D) #[St u0,St v0,St t0,St u1,St v1,St t1,St u2,St v2,St t2] V) (by kernel_rfl) (by kernel_rfl) () (HS.out.next (zM _ W).drew) λ_=>?_;refine qB (.agg #[St a0,St b0,St c0,.slice qa na ka]) (λf W' h=>h) ?_ (hy:=λf W' hf h=>by obtain⟨d0,d1,d2,d3⟩:=h.half0;go_simp);simp only[zzQ]
  refine zbv (.agg #[St a0,St b0,St c0]) (by rfl) (by rfl) (λf W' hf h C' hC'=>by
   go_simp;refine zzM (zcl a0 b0 c0 qa na ka W') λw' hb=>?_;exact⟨_,rfl,hC' _ (h.next hb)⟩) ?_
  refine qB (.pointer (some ⟨y1.heap.size+1,0,none⟩)) (λf W' h=>h) ?_;refine qB (.agg #[St u0,St v0,St t0]) (λf W' h=>h) ?_ (hy:=λf W' hf h=>by obtain⟨d0,d1,d2, -⟩:=h.c9;go_simp);simp only[zzQ]
  refine zbv (.tuple #[St d,.int .i64 0]) (by rfl) (by rfl) (λf W' hf h C' hC'=>by
   have hq:=DT2.out W' h.bel;go_simp;refine zzM (hq) λw' hb=>?_;exact⟨_,rfl,hC' _ (h.next hb)⟩) ?_
  refine qB (.tuple #[St d,.int .i64 0]) (λf W' h=>h) ?_;refine qB (St d) (λf W' h=>h) ?_;simp only[zzQ];refine qB (.int .i64 0) (λf W' h=>h) ?_;refine qB (St d) (λf W' h=>h) ?_;refine qB (.int .i64 0) (λf W' h=>h) ?_;simp only[zzQ];refine ze1 λf W2 hf h=>?_;have HS2:=hid h;clear h hf HS DT2;cases hd:d==[48]
  rotate_left
  ·have HTZ:=hid hd
   clear DV C0 C1 C2 D0 D1 D2;obtain⟨⟨e0,e1,e2,z0,z1,z2⟩,e3,e4,z3,z4⟩:=HS2.out.outs;go_wp21;clear e0 e1 e2 z0 z1 z2 e3 e4 z3 z4;obtain⟨W9,hW9,hbel,hK',hc'⟩:=HS2.out.fin9 (.slice none 0 0) (.slice none 0 0) (.slice none 0 0) false 0;rw[hW9];clear hW9;refine⟨by simp,.inl ⟨_,_,rfl,run_takeDeferred hK',?_⟩⟩;obtain⟨c0',c1',c2',c3',c4', -⟩:=hc' _ rfl;refine⟨.tuple #[.agg #[.slice none 0 0,.slice none 0 0,.slice none 0 0],.bool false,.int .i64 0],?_,_,_,_,_,_,rfl,zby hbel HDD.out hK',.inl ⟨rfl,rfl,rfl,rfl,.inl ⟨rfl,HTZ.out⟩⟩⟩;simp[results,Tryz.f28,go_sem,c0',c1',c2',c3',c4']
  have HDV:=hid (DV.out hd);have C0:=hid (C0.out hd);have C1:=hid (C1.out hd);have C2:=hid (C2.out hd);have D0:=hid (D0.out hd);have D1:=hid (D1.out hd);have D2:=hid (D2.out hd);have HNZ:=hid hd;clear DV;go_wp21;clear hd;refine zzM (HDV.out W2 HS2.out.bel) λW3 hb=>?_;have HS3:=hid (HS2.out.next hb);clear hb HS2;obtain⟨d0,d1,d2,d3,d4,d5,d6,d7,d8, -⟩:=HS3.out.c9;go_wp21;clear d0 d1 d2 d3 d4 d5 d6 d7 d8;have n0:=λw=>(ziy u0 v0 t0 u1 v1 t1 u2 v2 t2 w).1;have n1:=λw=>(ziy u0 v0 t0 u1 v1 t1 u2 v2 t2 w).2.1;have n2:=λw=>(ziy u0 v0 t0 u1 v1 t1 u2 v2 t2 w).2.2;refine wp_loop_rounds 4 ?_;rw[rounds_succ];obtain⟨y,hy⟩:=zzX (W3.alloc (.cells #[St u0,St v0,St t0] 45));have by':qL W3 y:=by rw[hy];exact(zM _ W3).alloc (zN _) _
  have HY0:=hid (HS3.out.next by');have HC:=hid (C0.out y HY0.out.bel);have HV:=hid hy.symm;clear hy by' HS3;go_wp21;have h9:=HV.out;rw[show W3.alloc (.cells #[.string ⟨u0.toArray⟩,.string ⟨v0.toArray⟩,.string ⟨t0.toArray⟩] 45)=y from h9];clear h9 HV;refine zzM HC.out λr0 hb=>?_;have HR0:=hid (HY0.out.next hb);clear hb HC HY0;obtain⟨d0,d1,d2,d3,d4,d5,d6,d7,d8,dz⟩:=HR0.out.c9;have z0:=dz 0;have z1:=dz 1;have z2:=dz 2;obtain⟨m0,hm0⟩:=zzX (((r0.setCell ⟨y1.heap.size+1,0,none⟩ (St f0)).setCell ⟨y1.heap.size+1,1,none⟩ (St g0)).setCell ⟨y1.heap.size+1,2,none⟩ (St h0));have hp:CoS w #[St a0,St b0,St c0,.slice qa na ka] #[St a1,St b1,St c1,.slice qb nb kb] #[St a2,St b2,St c2,.slice qc nc kc] (y1.heap.size+1) (some D) #[St f0,St g0,St h0,St u1,St v1,St t1,St u2,St v2,St t2] m0:=by rw[hm0];exact HR0.out.put 0 _ _ _ rfl
  have HM0:=hid hp;have HT:=hid hm0.symm;clear hp hm0 dz;go_wp21;have h9:=HT.out;rw[show((r0.setCell ⟨y1.heap.size+1,0,none⟩ (.string ⟨f0.toArray⟩)).setCell ⟨y1.heap.size+1,1,none⟩ (.string ⟨g0.toArray⟩)).setCell ⟨y1.heap.size+1,2,none⟩ (.string ⟨h0.toArray⟩)=m0 from h9];clear h9 HT d0 d1 d2 d3 d4 d5 d6 d7 d8 z0 z1 z2 HR0;rw[rounds_succ];obtain⟨y,hy⟩:=zzX (m0.alloc (.cells #[St u1,St v1,St t1] 45));have by':qL m0 y:=by rw[hy];exact(zM _ m0).alloc (zN _) _
  have HY1:=hid (HM0.out.next by');have HC:=hid (C1.out y HY1.out.bel);have HV:=hid hy.symm;clear hy by' HM0;go_wp21;have h9:=HV.out;rw[show m0.alloc (.cells #[.string ⟨u1.toArray⟩,.string ⟨v1.toArray⟩,.string ⟨t1.toArray⟩] 45)=y from h9];clear h9 HV;refine zzM HC.out λr1 hb=>?_;have HR1:=hid (HY1.out.next hb);clear hb HC HY1;obtain⟨d0,d1,d2,d3,d4,d5,d6,d7,d8,dz⟩:=HR1.out.c9;have z0:=dz 3;have z1:=dz 4;have z2:=dz 5;obtain⟨m1,hm1⟩:=zzX (((r1.setCell ⟨y1.heap.size+1,3,none⟩ (St f1)).setCell ⟨y1.heap.size+1,4,none⟩ (St g1)).setCell ⟨y1.heap.size+1,5,none⟩ (St h1));have hp:CoS w #[St a0,St b0,St c0,.slice qa na ka] #[St a1,St b1,St c1,.slice qb nb kb] #[St a2,St b2,St c2,.slice qc nc kc] (y1.heap.size+1) (some D) #[St f0,St g0,St h0,St f1,St g1,St h1,St u2,St v2,St t2] m1:=by rw[hm1];exact HR1.out.put 3 _ _ _ rfl
  have HM1:=hid hp;have HT:=hid hm1.symm;clear hp hm1 dz;go_wp21;have h9:=HT.out;rw[show((r1.setCell ⟨y1.heap.size+1,3,none⟩ (.string ⟨f1.toArray⟩)).setCell ⟨y1.heap.size+1,4,none⟩ (.string ⟨g1.toArray⟩)).setCell ⟨y1.heap.size+1,5,none⟩ (.string ⟨h1.toArray⟩)=m1 from h9];clear h9 HT d0 d1 d2 d3 d4 d5 d6 d7 d8 z0 z1 z2 HR1;rw[rounds_succ];obtain⟨y,hy⟩:=zzX (m1.alloc (.cells #[St u2,St v2,St t2] 45));have by':qL m1 y:=by rw[hy];exact(zM _ m1).alloc (zN _) _
  have HY2:=hid (HM1.out.next by');have HC:=hid (C2.out y HY2.out.bel);have HV:=hid hy.symm;clear hy by' HM1;go_wp21;have h9:=HV.out;rw[show m1.alloc (.cells #[.string ⟨u2.toArray⟩,.string ⟨v2.toArray⟩,.string ⟨t2.toArray⟩] 45)=y from h9];clear h9 HV;refine zzM HC.out λr2 hb=>?_;have HR2:=hid (HY2.out.next hb);clear hb HC HY2;obtain⟨d0,d1,d2,d3,d4,d5,d6,d7,d8,dz⟩:=HR2.out.c9;have z0:=dz 6;have z1:=dz 7;have z2:=dz 8;obtain⟨m2,hm2⟩:=zzX (((r2.setCell ⟨y1.heap.size+1,6,none⟩ (St f2)).setCell ⟨y1.heap.size+1,7,none⟩ (St g2)).setCell ⟨y1.heap.size+1,8,none⟩ (St h2));have hp:CoS w #[St a0,St b0,St c0,.slice qa na ka] #[St a1,St b1,St c1,.slice qb nb kb] #[St a2,St b2,St c2,.slice qc nc kc] (y1.heap.size+1) (some D) #[St f0,St g0,St h0,St f1,St g1,St h1,St f2,St g2,St h2] m2:=by rw[hm2];exact HR2.out.put 6 _ _ _ rfl
  have HM2:=hid hp;have HT:=hid hm2.symm;clear hp hm2 dz;go_wp21;have h9:=HT.out;rw[show((r2.setCell ⟨y1.heap.size+1,6,none⟩ (.string ⟨f2.toArray⟩)).setCell ⟨y1.heap.size+1,7,none⟩ (.string ⟨g2.toArray⟩)).setCell ⟨y1.heap.size+1,8,none⟩ (.string ⟨h2.toArray⟩)=m2 from h9];clear h9 HT d0 d1 d2 d3 d4 d5 d6 d7 d8 z0 z1 z2 HR2;clear n0 n1 n2;rw[rounds_succ];go_wp21;refine zc4 (λ(q:Nat->Nat) i=>([.pointer (some ⟨y1.heap.size+1,0,none⟩),.agg #[St f0,St g0,St h0],.pointer (some ⟨y1.heap.size+1,3,none⟩),.agg #[St f1,St g1,St h1],.pointer (some ⟨y1.heap.size+1,6,none⟩),.agg #[St f2,St g2,St h2],.pointer (some ⟨q 0,0,none⟩),.pointer (some ⟨q 1,0,none⟩),.pointer (some ⟨q 2,0,none⟩),undef,undef,undef]:List Value).getD i undef) (BoxS 3 6 9 #[St [],St [],St []] (λi=>if i=0 then #[St f0,St g0,St h0] else if i=1 then #[St f1,St g1,St h1] else #[St f2,St g2,St h2]) 45 m2) (by kernel_rfl) (by kernel_rfl) (λ_=>0) (BoxS.start (zM _ m2).drew) λq=>?_;refine qB (.pointer (some ⟨y1.heap.size+1,0,none⟩)) (λf W' h=>h.step 0 (by decide) (by decide)) ?_;refine qB (.agg #[St f0,St g0,St h0]) (λf W' h=>h.step 1 (by decide) (by decide)) ?_ (hy:=λf W' hf h=>by obtain⟨d0,d1,d2,d3,d4,d5,d6,d7,d8, -⟩:=(HM2.out.next h.bel).c9;go_simp);refine qB (.pointer (some ⟨y1.heap.size+1,3,none⟩)) (λf W' h=>h.step 2 (by decide) (by decide)) ?_;simp only[zzQ]
  refine qB (.agg #[St f1,St g1,St h1]) (λf W' h=>h.step 3 (by decide) (by decide)) ?_ (hy:=λf W' hf h=>by obtain⟨d0,d1,d2,d3,d4,d5,d6,d7,d8, -⟩:=(HM2.out.next h.bel).c9;go_simp);refine qB (.pointer (some ⟨y1.heap.size+1,6,none⟩)) (λf W' h=>h.step 4 (by decide) (by decide)) ?_;refine qB (.agg #[St f2,St g2,St h2]) (λf W' h=>h.step 5 (by decide) (by decide)) ?_ (hy:=λf W' hf h=>by obtain⟨d0,d1,d2,d3,d4,d5,d6,d7,d8, -⟩:=(HM2.out.next h.bel).c9;go_simp);simp only[zzQ]
  refine zdc (.pointer (some ⟨q 0,0,none⟩)) (by rfl) (by rfl) (λf W' hf h C' hC'=>by
   have hq0:=hf.self;have hq1:=hf.no (j:=9) hf.self (by kernel_rfl);have hc:=hC' (λj=>if j=0 then W'.heap.size else q j) _ (λj hj=>by
    match j,hj with
    |0,_|1,_|2,_|3,_|4,_|5,_|7,_|8,_|9,_|10,_|11,_=>rfl
    |6,hj=>rw[hq0] at hj;cases hj
    |_+12,_=>rfl) (h.new 0 (by decide) hq1 (by decide))
   clear h hC';go_simp;exact hc) ?_
  try simp only[zzQ]
  refine zdc (.pointer (some ⟨q 1,0,none⟩)) (by rfl) (by rfl) (λf W' hf h C' hC'=>by
   have hq0:=hf.self;have hq1:=hf.no (j:=10) hf.self (by kernel_rfl);have hc:=hC' (λj=>if j=1 then W'.heap.size else q j) _ (λj hj=>by
    match j,hj with
    |0,_|1,_|2,_|3,_|4,_|5,_|6,_|8,_|9,_|10,_|11,_=>rfl
    |7,hj=>rw[hq0] at hj;cases hj
    |_+12,_=>rfl) (h.new 1 (by decide) hq1 (by decide))
   clear h hC';go_simp;exact hc) ?_
  try simp only[zzQ]
  refine zdc (.pointer (some ⟨q 2,0,none⟩)) (by rfl) (by rfl) (λf W' hf h C' hC'=>by
   have hq0:=hf.self;have hq1:=hf.no (j:=11) hf.self (by kernel_rfl);have hc:=hC' (λj=>if j=2 then W'.heap.size else q j) _ (λj hj=>by
    match j,hj with
    |0,_|1,_|2,_|3,_|4,_|5,_|6,_|7,_|9,_|10,_|11,_=>rfl
    |8,hj=>rw[hq0] at hj;cases hj
    |_+12,_=>rfl) (h.new 2 (by decide) hq1 (by decide))
   clear h hC';go_simp;exact hc) ?_
  try simp only[zzQ]
  refine zbv undef (by rfl) (by rfl) (λf W' hf h C' hC'=>by
   have hq0:=hf.done 6 (by kernel_rfl);obtain⟨⟨s0,d0⟩,⟨s1,d1⟩,⟨s2,d2⟩,z0,z1,z2⟩:=h.open 0 (by decide) hq0 rfl rfl;have hc:=hC' _ (h.put 0 (by decide) hq0 (by decide) (St f0) (St g0) (St h0) rfl rfl);clear h hC';go_simp;exact hc) ?_
  try simp only[zzQ]
  refine zbv undef (by rfl) (by rfl) (λf W' hf h C' hC'=>by
   have hq0:=hf.done 7 (by kernel_rfl);obtain⟨⟨s0,d0⟩,⟨s1,d1⟩,⟨s2,d2⟩,z0,z1,z2⟩:=h.open 1 (by decide) hq0 rfl rfl;have hc:=hC' _ (h.put 1 (by decide) hq0 (by decide) (St f1) (St g1) (St h1) rfl rfl);clear h hC';go_simp;exact hc) ?_
  try simp only[zzQ]
  refine zbv undef (by rfl) (by rfl) (λf W' hf h C' hC'=>by
   have hq0:=hf.done 8 (by kernel_rfl);obtain⟨⟨s0,d0⟩,⟨s1,d1⟩,⟨s2,d2⟩,z0,z1,z2⟩:=h.open 2 (by decide) hq0 rfl rfl;have hc:=hC' _ (h.put 2 (by decide) hq0 (by decide) (St f2) (St g2) (St h2) rfl rfl);clear h hC';go_simp;exact hc) ?_
  try simp only[zzQ]
  refine ze1 λf X2 hf h=>?_;have hA:=h.blk 0 (by decide) (hf 6 (by decide));have hB:=h.blk 1 (by decide) (hf 7 (by decide));have hC:=h.blk 2 (by decide) (hf 8 (by decide));rw[if_pos (hf 9 (by decide))] at hA;rw[if_pos (hf 10 (by decide))] at hB;rw[if_pos (hf 11 (by decide))] at hC;obtain⟨R0,hR0⟩:=zzX (q 0);obtain⟨R1,hR1⟩:=zzX (q 1);obtain⟨R2,hR2⟩:=zzX (q 2);rw[<-hR0] at hA⊢;rw[<-hR1] at hB⊢;rw[<-hR2] at hC⊢;have HS4:=hid (HM2.out.next h.bel);have RR:=hid (⟨hA,hB,hC⟩:X2.heap[R0]? =some (.cells #[St f0,St g0,St h0] 45 (0,0))/\X2.heap[R1]? =some (.cells #[St f1,St g1,St h1] 45 (0,0))/\X2.heap[R2]? =some (.cells #[St f2,St g2,St h2] 45 (0,0)));clear hA hB hC hR0 hR1 hR2 h hf HM2;obtain⟨y2,hy2⟩:=zzX (X2.alloc (.cells #[.slice none 0 0,.slice none 0 0,.slice none 0 0] 103));have by2:qL X2 y2:=by rw[hy2];exact(zM _ X2).alloc (zN _) _
  have hck:=zac by2;obtain⟨a00,a01,a02, -⟩:=zah (hck _ _ _ _ RR.out.1);obtain⟨a10,a11,a12, -⟩:=zah (hck _ _ _ _ RR.out.2.1);obtain⟨a20,a21,a22, -⟩:=zah (hck _ _ _ _ RR.out.2.2);have HV:=hid hy2.symm;have HB2:=hid by2;clear hck by2;rw[hy2] at a00 a01 a02 a10 a11 a12 a20 a21 a22;clear hy2 RR;go_wp21;obtain⟨y3,hy3⟩:=zzX (y2.alloc (.cells #[St f0,St f1,St f2,St g0,St g1,St g2,St h0,St h1,St h2] 45));have by3:qL y2 y3:=by rw[hy3];exact(zM _ y2).alloc (zN _) _
  have s2:y2.heap.size=X2.heap.size+1:=by rw[<-HV.out,zH]
  have hO:y2.heap[X2.heap.size]? =some (.cells #[.slice none 0 0,.slice none 0 0,.slice none 0 0] 103 (0,0)):=by rw[<-HV.out];exact zG X2 _
  have hV:y3.heap[X2.heap.size+1]? =some (.cells #[St f0,St f1,St f2,St g0,St g1,St g2,St h0,St h1,St h2] 45 (0,0)):=by rw[hy3,<-s2];exact zG y2 _
  have hT:=(Array.getElem?_eq_some_iff.1 HS4.out.x).1;have HZ:=hid (⟨(HS4.out.next HB2.out).next by3,zac by3 _ _ _ _ hO,hV,hT⟩:CoT w #[St a0,St b0,St c0,.slice qa na ka] #[St a1,St b1,St c1,.slice qb nb kb] #[St a2,St b2,St c2,.slice qc nc kc] (y1.heap.size+1) D #[St f0,St g0,St h0,St f1,St g1,St h1,St f2,St g2,St h2] X2.heap.size (.slice none 0 0) (.slice none 0 0) (.slice none 0 0) #[St f0,St f1,St f2,St g0,St g1,St g2,St h0,St h1,St h2] y3);have h9:(X2.alloc (.cells #[.slice none 0 0,.slice none 0 0,.slice none 0 0] 103)).alloc (.cells #[St f0,St f1,St f2,St g0,St g1,St g2,St h0,St h1,St h2] 45)=y3:=by rw[hy3,<-HV.out]
  rw[show(X2.alloc (.cells #[.slice none 0 0,.slice none 0 0,.slice none 0 0] 103)).alloc (.cells #[.string ⟨f0.toArray⟩,.string ⟨f1.toArray⟩,.string ⟨f2.toArray⟩,.string ⟨g0.toArray⟩,.string ⟨g1.toArray⟩,.string ⟨g2.toArray⟩,.string ⟨h0.toArray⟩,.string ⟨h1.toArray⟩,.string ⟨h2.toArray⟩] 45)=y3 from h9];clear h9 hy3 by3 s2 hO hV hT HV HB2 HS4 a00 a01 a02 a10 a11 a12 a20 a21 a22;refine wp_loop_rounds 4 ?_;rw[rounds_succ];obtain⟨y,hy⟩:=zzX (y3.alloc (.cells #[St f0,St f1,St f2] 45));have by':qL y3 y:=by rw[hy];exact(zM _ y3).alloc (zN _) _
  have HY:=hid (HZ.out.next by');have HC:=hid (D0.out y HY.out.s.bel);obtain⟨b0',b1',b2'⟩:=HY.out.s.dd;have l0:y3.cell? ⟨X2.heap.size+1,0,none⟩=some (St f0):=by rw[zJ HZ.out.v];rfl
  have l1:y3.cell? ⟨X2.heap.size+1,1,none⟩=some (St f1):=by rw[zJ HZ.out.v];rfl
  have l2:y3.cell? ⟨X2.heap.size+1,2,none⟩=some (St f2):=by rw[zJ HZ.out.v];rfl
  have HV:=hid hy.symm;rw[hy] at b0' b1' b2';clear hy by' HZ;go_wp21;have h9:=HV.out;rw[show y3.alloc (.cells #[.string ⟨f0.toArray⟩,.string ⟨f1.toArray⟩,.string ⟨f2.toArray⟩] 45)=y from h9];clear h9 HV b0' b1' b2' l0 l1 l2;refine HC.out.mono ?_;rintro e r0 ⟨aa0,mm0,jj0,er,rfl,hb,hu⟩;have HR:=hid (HY.out.next hb);rcases hu with⟨rfl,hu,hE⟩|⟨rfl,hu,hF⟩
  rotate_left
  ·injection hu with e1 e2 e3
   subst e1;subst e2;subst e3;have HF:=hid hF;clear hb HC hF HY;obtain⟨f0',f1',f2',y0',y1',y2'⟩:=zah HR.out.o;have HZ:=hid (HR.out.put0 (.slice none 0 0));obtain⟨⟨e0,e1,e2,z0,z1,z2⟩,e3,e4,z3,z4⟩:=HZ.out.s.outs;go_wp21;clear f0' f1' f2' y0' y1' y2' e0 e1 e2 z0 z1 z2 e3 e4 z3 z4;obtain⟨W9,hW9,hbel,hK',hc'⟩:=HZ.out.s.fin9 (.slice none 0 0) (.slice none 0 0) (.slice none 0 0) false 4;rw[hW9];clear hW9;refine⟨by simp,.inl ⟨_,_,rfl,run_takeDeferred hK',?_⟩⟩;obtain⟨c0',c1',c2',c3',c4', -⟩:=hc' _ rfl;refine⟨.tuple #[.agg #[.slice none 0 0,.slice none 0 0,.slice none 0 0],.bool false,.int .i64 4],?_,_,_,_,_,_,rfl,zby hbel HDD.out hK',.inl ⟨rfl,rfl,rfl,rfl,.inr ⟨rfl,HNZ.out,HF.out⟩⟩⟩;simp[results,Tryz.f28,go_sem,c0',c1',c2',c3',c4']
  have HE0:=hid hE;clear hE;have HU0:=hid hu;clear hb hu HC HY;obtain⟨d0,d1,d2,z0,z1,z2⟩:=zah HR.out.o;obtain⟨m0',hm⟩:=zzX (r0.setCell ⟨X2.heap.size,0,none⟩ (.slice aa0 mm0 jj0));have hp:=HR.out.put0 (.slice aa0 mm0 jj0);obtain⟨hne,hsz⟩:=HR.out.ne 0 (.slice aa0 mm0 jj0);have hno:=zbc HR.out.o ⟨_,_,_,rfl⟩ ⟨_,_,_,rfl⟩ ⟨_,_,_,rfl⟩;rw[<-hm] at hp hne hsz;have HN0:=hid hp;have HU0:=hid (HU0.out.other hne hsz hno);have HT:=hid hm.symm;clear hp hne hsz hno hm;go_wp21
  try rw[HT.out]
  clear HT d0 d1 d2 z0 z1 z2 HR;rw[rounds_succ];obtain⟨y,hy⟩:=zzX (m0'.alloc (.cells #[St g0,St g1,St g2] 45));have by':qL m0' y:=by rw[hy];exact(zM _ m0').alloc (zN _) _
  have HY:=hid (HN0.out.next by');have HU0:=hid (HU0.out.below by');have HC:=hid (D1.out y HY.out.s.bel);obtain⟨b0',b1',b2'⟩:=HY.out.s.dd;have l0:m0'.cell? ⟨X2.heap.size+1,3,none⟩=some (St g0):=by rw[zJ HN0.out.v];rfl
  have l1:m0'.cell? ⟨X2.heap.size+1,4,none⟩=some (St g1):=by rw[zJ HN0.out.v];rfl
  have l2:m0'.cell? ⟨X2.heap.size+1,5,none⟩=some (St g2):=by rw[zJ HN0.out.v];rfl
  have HV:=hid hy.symm;rw[hy] at b0' b1' b2';clear hy by' HN0;go_wp21;have h9:=HV.out;rw[show m0'.alloc (.cells #[.string ⟨g0.toArray⟩,.string ⟨g1.toArray⟩,.string ⟨g2.toArray⟩] 45)=y from h9];clear h9 HV b0' b1' b2' l0 l1 l2;refine HC.out.mono ?_;rintro e r1 ⟨aa1,mm1,jj1,er,rfl,hb,hu⟩;have HR:=hid (HY.out.next hb);rcases hu with⟨rfl,hu,hE⟩|⟨rfl,hu,hF⟩
  rotate_left
  ·injection hu with e1 e2 e3
   subst e1;subst e2;subst e3;have HF:=hid hF;clear hb HC hF HY HU0;obtain⟨f0',f1',f2',y0',y1',y2'⟩:=zah HR.out.o;have HZ:=hid (HR.out.put1 (.slice none 0 0));obtain⟨⟨e0,e1,e2,z0,z1,z2⟩,e3,e4,z3,z4⟩:=HZ.out.s.outs;go_wp21;clear f0' f1' f2' y0' y1' y2' e0 e1 e2 z0 z1 z2 e3 e4 z3 z4;obtain⟨W9,hW9,hbel,hK',hc'⟩:=HZ.out.s.fin9 (.slice none 0 0) (.slice none 0 0) (.slice none 0 0) false 4;rw[hW9];clear hW9;refine⟨by simp,.inl ⟨_,_,rfl,run_takeDeferred hK',?_⟩⟩;obtain⟨c0',c1',c2',c3',c4', -⟩:=hc' _ rfl;refine⟨.tuple #[.agg #[.slice none 0 0,.slice none 0 0,.slice none 0 0],.bool false,.int .i64 4],?_,_,_,_,_,_,rfl,zby hbel HDD.out hK',.inl ⟨rfl,rfl,rfl,rfl,.inr ⟨rfl,HNZ.out,HF.out⟩⟩⟩;simp[results,Tryz.f28,go_sem,c0',c1',c2',c3',c4']
  have HE1:=hid hE;clear hE;have HU1:=hid hu;have HU0:=hid (HU0.out.below hb);clear hb hu HC HY;obtain⟨d0,d1,d2,z0,z1,z2⟩:=zah HR.out.o;obtain⟨m1',hm⟩:=zzX (r1.setCell ⟨X2.heap.size,1,none⟩ (.slice aa1 mm1 jj1));have hp:=HR.out.put1 (.slice aa1 mm1 jj1);obtain⟨hne,hsz⟩:=HR.out.ne 1 (.slice aa1 mm1 jj1);have hno:=zbc HR.out.o ⟨_,_,_,rfl⟩ ⟨_,_,_,rfl⟩ ⟨_,_,_,rfl⟩;rw[<-hm] at hp hne hsz;have HN1:=hid hp;have HU1:=hid (HU1.out.other hne hsz hno);have HU0:=hid (HU0.out.other hne hsz hno);have HT:=hid hm.symm;clear hp hne hsz hno hm;go_wp21
  try rw[HT.out]
  clear HT d0 d1 d2 z0 z1 z2 HR;rw[rounds_succ];obtain⟨y,hy⟩:=zzX (m1'.alloc (.cells #[St h0,St h1,St h2] 45));have by':qL m1' y:=by rw[hy];exact(zM _ m1').alloc (zN _) _
  have HY:=hid (HN1.out.next by');have HU0:=hid (HU0.out.below by');have HU1:=hid (HU1.out.below by');have HC:=hid (D2.out y HY.out.s.bel);obtain⟨b0',b1',b2'⟩:=HY.out.s.dd;have l0:m1'.cell? ⟨X2.heap.size+1,6,none⟩=some (St h0):=by rw[zJ HN1.out.v];rfl
  have l1:m1'.cell? ⟨X2.heap.size+1,7,none⟩=some (St h1):=by rw[zJ HN1.out.v];rfl
  have l2:m1'.cell? ⟨X2.heap.size+1,8,none⟩=some (St h2):=by rw[zJ HN1.out.v];rfl
  have HV:=hid hy.symm;rw[hy] at b0' b1' b2';clear hy by' HN1;go_wp21;have h9:=HV.out;rw[show m1'.alloc (.cells #[.string ⟨h0.toArray⟩,.string ⟨h1.toArray⟩,.string ⟨h2.toArray⟩] 45)=y from h9];clear h9 HV b0' b1' b2' l0 l1 l2;refine HC.out.mono ?_;rintro e r2 ⟨aa2,mm2,jj2,er,rfl,hb,hu⟩;have HR:=hid (HY.out.next hb);rcases hu with⟨rfl,hu,hE⟩|⟨rfl,hu,hF⟩
  rotate_left
  ·injection hu with e1 e2 e3
   subst e1;subst e2;subst e3;have HF:=hid hF;clear hb HC hF HY HU0 HU1;obtain⟨f0',f1',f2',y0',y1',y2'⟩:=zah HR.out.o;have HZ:=hid (HR.out.put2 (.slice none 0 0));obtain⟨⟨e0,e1,e2,z0,z1,z2⟩,e3,e4,z3,z4⟩:=HZ.out.s.outs;go_wp21;clear f0' f1' f2' y0' y1' y2' e0 e1 e2 z0 z1 z2 e3 e4 z3 z4;obtain⟨W9,hW9,hbel,hK',hc'⟩:=HZ.out.s.fin9 (.slice none 0 0) (.slice none 0 0) (.slice none 0 0) false 4;rw[hW9];clear hW9;refine⟨by simp,.inl ⟨_,_,rfl,run_takeDeferred hK',?_⟩⟩;obtain⟨c0',c1',c2',c3',c4', -⟩:=hc' _ rfl;refine⟨.tuple #[.agg #[.slice none 0 0,.slice none 0 0,.slice none 0 0],.bool false,.int .i64 4],?_,_,_,_,_,_,rfl,zby hbel HDD.out hK',.inl ⟨rfl,rfl,rfl,rfl,.inr ⟨rfl,HNZ.out,HF.out⟩⟩⟩;simp[results,Tryz.f28,go_sem,c0',c1',c2',c3',c4']
  have HE2:=hid hE;clear hE;have HU2:=hid hu;have HU0:=hid (HU0.out.below hb);have HU1:=hid (HU1.out.below hb);clear hb hu HC HY;obtain⟨d0,d1,d2,z0,z1,z2⟩:=zah HR.out.o;obtain⟨m2',hm⟩:=zzX (r2.setCell ⟨X2.heap.size,2,none⟩ (.slice aa2 mm2 jj2));have hp:=HR.out.put2 (.slice aa2 mm2 jj2);obtain⟨hne,hsz⟩:=HR.out.ne 2 (.slice aa2 mm2 jj2);have hno:=zbc HR.out.o ⟨_,_,_,rfl⟩ ⟨_,_,_,rfl⟩ ⟨_,_,_,rfl⟩;rw[<-hm] at hp hne hsz;have HN2:=hid hp;have HU2:=hid (HU2.out.other hne hsz hno);have HU0:=hid (HU0.out.other hne hsz hno);have HU1:=hid (HU1.out.other hne hsz hno);have HT:=hid hm.symm;clear hp hne hsz hno hm;go_wp21
  try rw[HT.out]
  clear HT d0 d1 d2 z0 z1 z2 HR;rw[rounds_succ];obtain⟨d0,d1,d2, -, -, -⟩:=zah HN2.out.o;obtain⟨⟨e0,e1,e2,z0,z1,z2⟩,e3,e4,z3,z4⟩:=HN2.out.s.outs;go_wp21;clear d0 d1 d2 e0 e1 e2 z0 z1 z2 e3 e4 z3 z4;obtain⟨W9,hW9,hbel,hK',hc'⟩:=HN2.out.s.fin9 (.slice aa0 mm0 jj0) (.slice aa1 mm1 jj1) (.slice aa2 mm2 jj2) true 0;rw[hW9];clear hW9;refine⟨by simp,.inl ⟨_,_,rfl,run_takeDeferred hK',?_⟩⟩;obtain⟨c0',c1',c2',c3',c4',hk⟩:=hc' _ rfl;have hk:=hk ⟨_,_,_,rfl⟩ ⟨_,_,_,rfl⟩ ⟨_,_,_,rfl⟩;refine⟨.tuple #[.agg #[.slice aa0 mm0 jj0,.slice aa1 mm1 jj1,.slice aa2 mm2 jj2],.bool true,.int .i64 0],?_,_,_,_,_,_,rfl,zby hbel HDD.out hK',.inr ⟨rfl,rfl,HNZ.out,hk _ _ HU0.out,hk _ _ HU1.out,hk _ _ HU2.out,HE0.out,HE1.out,HE2.out⟩⟩;simp[results,Tryz.f28,go_sem,c0',c1',c2',c3',c4']
 case stop=>
  rintro D c j W hD h hK;exact h.elim
theorem zqb (p p':Option Addr) (c c' n:Nat) (X Y:Nat->ByteArray) (hn:n<=5000) (w:zA) (HP:Hid (RowTm p n X Y w)) (HP':Hid (RowTm p' n X Y w)):
 qJ 29 #[.slice p n c,.slice p' n c'] w (.bool true):=by
 have D0:=hid (zM w.heap.size w);go_enter Tryz.func29,Tryz.ntmps29;go_wp21;go_loopw [13] (λi wr=>∃(k:Nat),k<=n/\i=.int .i64 (k:Int)/\Hid (qL w wr))
  (λi _=>n-(RowKit.intOf i).toNat)
 case atStart=>exact⟨0,zR _,rfl,D0⟩
 case round=>
  clear D0;obtain⟨k,hk,rfl,hB⟩:=hrel;by_cases hlt:k<n
  ·obtain⟨b,off,rfl,c0,c1⟩:=(HP.out.keep (zac hB.out)) k hlt
   obtain⟨b',off',rfl,d0,d1⟩:=(HP'.out.keep (zac hB.out)) k hlt;have HQ:=hid λm=>hB.out.trans ((zao (zM _ wr) m).mono hB.out.size);clear hB;generalize X k=x at*
   generalize Y k=y at*
   go_wp21;go_quiet (fail);go_wp21;go_roundw
   case rel=>exact⟨k+1,by omega,by go_num,hid (HQ.out _)⟩
   case measure=>simp[RowKit.intOf];omega
  ·go_wp21
   go_ret;exact⟨rfl,hB.out⟩
theorem eq_l (v v':Value) (l:List (Rat×Nat)) (hl:l.length<=5000) (w:zA) (h:SdL v l w) (h':SdL v' l w):
 qJ 29 #[v,v'] w (.bool true):=by
 obtain⟨p,cap,rfl, -,hx⟩:=h.slice;obtain⟨p',cap',rfl, -,hx'⟩:=h'.slice;have at_:∀i,i<l.length->∃t,l[i]? =some t:=λi hi=>⟨_,List.getElem?_eq_getElem hi⟩;refine zqb p p' cap cap' l.length (λi=>⟨(numS ((l[i]?.getD (1,1)).1)).toArray⟩) (λi=>⟨(decDigits ((l[i]?.getD (1,1)).2)).toArray⟩) hl w (hid λi hi=>?_) (hid λi hi=>?_)
 ·obtain⟨t,ht⟩:=at_ i hi
  obtain⟨b,off,e, -,h1,h2⟩:=hx i t ht;refine⟨b,off,e,?_,?_⟩
  ·simp only[ht,Option.getD_some];exact h1
  ·simp only[ht,Option.getD_some];exact h2
 ·obtain⟨t,ht⟩:=at_ i hi
  obtain⟨b,off,e, -,h1,h2⟩:=hx' i t ht;refine⟨b,off,e,?_,?_⟩
  ·simp only[ht,Option.getD_some];exact h1
  ·simp only[ht,Option.getD_some];exact h2
theorem SdL.laid (w:zA) (q:Rat) (r:Nat) (x y:ByteArray) (hx:St (numS q)=.string x) (hy:St (decDigits r)=.string y) (W:zA) (hW:W=w.alloc (.cells #[.string x,.string y] 69)):SdL (.slice (some ⟨w.heap.size,0,none⟩) 1 1) [(q,r)] W:=by
 refine .inr ⟨w.heap.size,0,1,rfl,zN _,by rw[hW,zH];omega,λi t ht=>?_⟩;have hb:W.heap[w.heap.size]? =some (.cells #[.string x,.string y] 69 (0,0)):=by rw[hW];exact zG w _
 match i,ht with
 |0,ht=>
  simp at ht;subst ht;refine⟨?_,?_⟩
  ·rw[zJ hb,hx];rfl
  ·rw[zJ hb,hy];rfl
 |i+1,ht=>simp at ht
theorem zlg (a b c:List UInt8) (w:zA)
 (OF:Hid (zC zF 27 #[.agg #[.string ⟨#[49]⟩,.string ⟨#[48]⟩,.string ⟨#[48]⟩],.bool false] w λe w'=>∃v,e=.returned (.tuple #[.agg #[St a,St b,St c,v],.int .i64 0])/\zB w.heap.size w w'/\SdL v [] w'))
 (S1:Hid (∀(W:zA) (v t3 t4:Value),qL w W->SdL v [] W->SdL t3 [(1,2)] W->SdL t4 [(1,1)] W->qJ 13 #[.agg #[St a,St b,St c,v],.agg #[t4,.slice none 0 0,.slice none 0 0]] W (.tuple #[.int .i64 (-1),.int .i64 0])))
 (S2:Hid (∀(W:zA) (v t3 t4:Value),qL w W->SdL v [] W->SdL t3 [(1,2)] W->SdL t4 [(1,1)] W->qJ 13 #[.agg #[St a,St b,St c,v],.agg #[t4,.slice none 0 0,t4]] W (.tuple #[.int .i64 (0),.int .i64 0])))
 (S3:Hid (∀(W:zA) (v t3 t4:Value),qL w W->SdL v [] W->SdL t3 [(1,2)] W->SdL t4 [(1,1)] W->qJ 13 #[.agg #[St a,St b,St c,v],.agg #[t4,.slice none 0 0,t3]] W (.tuple #[.int .i64 (1),.int .i64 0])))
 (CO:Hid (∀(W:zA) (t3 t4:Value),qL w W->SdL t3 [(1,2)] W->SdL t4 [(1,1)] W->zC zF 28 #[.agg #[.string ⟨#[49]⟩,.string ⟨#[48]⟩,.string ⟨#[48]⟩,t3],.agg #[.string ⟨#[48]⟩,.string ⟨#[49]⟩,.string ⟨#[48]⟩,t4],.agg #[.string ⟨#[48]⟩,.string ⟨#[48]⟩,.string ⟨#[49]⟩,.slice none 0 0]] W λe w'=>∃u0 u1 u2,e=.returned (.tuple #[.agg #[u0,u1,u2],.bool true,.int .i64 0])/\zB W.heap.size W w'/\SdL u0 [(1,2)] w'/\SdL u1 [(1,1)] w'/\SdL u2 [] w')):
 qJ 8 #[] w (.bool true):=by
 have mx5:∀w:zA,(Builtin.max_ #[33,33,33,33,33] 33 #[.int .i64 0,.int .i64 0,.int .i64 0,.int .i64 0,.int .i64 0]).run zF w=.ok (.int .i64 0) w:=λ_=>by kernel_rfl
 go_enter Tryz.func8,Tryz.ntmps8;go_wp21;refine OF.out.mono ?_;rintro e w1 ⟨v,rfl,hb,hs⟩;obtain⟨vp,vn,vk,rfl⟩:=hs.any;obtain⟨y1,hy1⟩:=zzX (w1.alloc (.cells #[St a,St b,St c,.slice vp vn vk] 26));obtain⟨y2,hy2⟩:=zzX (y1.alloc (.cells #[.string ⟨#[49]⟩,.string ⟨#[50]⟩] 69));obtain⟨y3,hy3⟩:=zzX (y2.alloc (.cells #[.string ⟨#[49]⟩,.string ⟨#[49]⟩] 69));have q1:qL w1 y1:=by rw[hy1];exact(zM _ w1).alloc (zN _) _
 have q2:qL y1 y2:=by rw[hy2];exact(zM _ y1).alloc (zN _) _
 have q3:qL y2 y3:=by rw[hy3];exact(zM _ y2).alloc (zN _) _
 have z1:y1.heap.size=w1.heap.size+1:=by rw[hy1,zH]
 have z2:y2.heap.size=w1.heap.size+1+1:=by rw[hy2,zH,z1]
 have t3:=SdL.laid y1 1 2 ⟨#[49]⟩ ⟨#[50]⟩ (by rw[zfc]) (by rw[zae (by omega)];rfl) y2 hy2;have t4:=SdL.laid y2 1 1 ⟨#[49]⟩ ⟨#[49]⟩ (by rw[zfc]) (by rw[zae (by omega)];rfl) y3 hy3;rw[z1] at t3;rw[z2] at t4;have A1:y1.heap[w1.heap.size]? =some (.cells #[St a,St b,St c,.slice vp vn vk] 26 (0,0)):=by rw[hy1];exact zG w1 _
 have q23:=q2.trans (q3.mono q2.size);have q13:=q1.trans (q23.mono q1.size);have hall:y3=((w1.alloc (.cells #[St a,St b,St c,.slice vp vn vk] 26)).alloc (.cells #[.string ⟨#[49]⟩,.string ⟨#[50]⟩] 69)).alloc (.cells #[.string ⟨#[49]⟩,.string ⟨#[49]⟩] 69):=by rw[hy3,hy2,hy1]
 obtain⟨H0,hH0⟩:=zzX w1.heap.size;obtain⟨p3,hu3⟩:=zzX (⟨w1.heap.size+1,0,none⟩:Addr);obtain⟨p4,hu4⟩:=zzX (⟨w1.heap.size+1+1,0,none⟩:Addr);rw[<-hH0] at A1;rw[<-hu3] at t3;rw[<-hu4] at t4;have K:=hid (⟨hb.trans (q13.mono hb.size),zac q23 _ _ _ _ A1,hs.below q13,t3.below q3,t4⟩:qL w y3/\y3.heap[H0]? =some (.cells #[St a,St b,St c,.slice vp vn vk] 26 (0,0))/\SdL (.slice vp vn vk) [] y3/\SdL (.slice (some p3) 1 1) [(1,2)] y3/\SdL (.slice (some p4) 1 1) [(1,1)] y3);have KN:=hid λ(W W':zA) (h:qL w W/\W.heap[H0]? =some (.cells #[St a,St b,St c,.slice vp vn vk] 26 (0,0))/\SdL (.slice vp vn vk) [] W/\SdL (.slice (some p3) 1 1) [(1,2)] W/\SdL (.slice (some p4) 1 1) [(1,1)] W) (hb:qL W W')=>
  (⟨h.1.trans (hb.mono h.1.size),zac hb _ _ _ _ h.2.1,h.2.2.1.below hb,h.2.2.2.1.below hb,h.2.2.2.2.below hb⟩:qL w W'/\W'.heap[H0]? =some (.cells #[St a,St b,St c,.slice vp vn vk] 26 (0,0))/\SdL (.slice vp vn vk) [] W'/\SdL (.slice (some p3) 1 1) [(1,2)] W'/\SdL (.slice (some p4) 1 1) [(1,1)] W')
 have KC:=hid λ(W:zA) (h:W.heap[H0]? =some (.cells #[St a,St b,St c,.slice vp vn vk] 26 (0,0)))=>(⟨by rw[zJ h];rfl,by rw[zJ h];rfl,by rw[zJ h];rfl,by rw[zJ h];rfl⟩:W.cell? ⟨H0,0,none⟩=some (St a)/\W.cell? ⟨H0,1,none⟩=some (St b)/\W.cell? ⟨H0,2,none⟩=some (St c)/\W.cell? ⟨H0,3,none⟩=some (.slice vp vn vk));have HV:=hid hall.symm;have HU3:=hid hu3.symm;have HU4:=hid hu4.symm;have HH:=hid hH0.symm;clear hall hy1 hy2 hy3 q1 q2 q3 q23 q13 z1 z2 t3 t4 A1 hb hs hH0 hu3 hu4 OF;clear y1 y2;obtain⟨k0,k1,k2,k3⟩:=KC.out y3 K.out.2.1;rw[<-HV.out,<-HH.out] at k0 k1 k2 k3;go_wp21;have h9:=HV.out;rw[show((w1.alloc (.cells #[.string ⟨a.toArray⟩,.string ⟨b.toArray⟩,.string ⟨c.toArray⟩,.slice vp vn vk] 26)).alloc (.cells #[.string ⟨#[49]⟩,.string ⟨#[50]⟩] 69)).alloc (.cells #[.string ⟨#[49]⟩,.string ⟨#[49]⟩] 69)=y3 from h9,HU3.out,HU4.out,HH.out];clear h9 HV k0 k1 k2 k3;refine zzM (S1.out y3 _ _ _ K.out.1 K.out.2.2.1 K.out.2.2.2.1 K.out.2.2.2.2) λx1 hb=>?_;have K1:=hid (KN.out _ _ K.out hb);clear hb K HU3 HU4 HH;obtain⟨k0,k1,k2,k3⟩:=KC.out x1 K1.out.2.1;go_wp21;clear k0 k1 k2 k3;refine zzM (S2.out x1 _ _ _ K1.out.1 K1.out.2.2.1 K1.out.2.2.2.1 K1.out.2.2.2.2) λx2 hb=>?_;have K2:=hid (KN.out _ _ K1.out hb);clear hb K1;obtain⟨k0,k1,k2,k3⟩:=KC.out x2 K2.out.2.1;go_wp21;clear k0 k1 k2 k3;refine zzM (S3.out x2 _ _ _ K2.out.1 K2.out.2.2.1 K2.out.2.2.2.1 K2.out.2.2.2.2) λx3 hb=>?_;have K3:=hid (KN.out _ _ K2.out hb);clear hb K2;go_wp21
 refine(CO.out x3 _ _ K3.out.1 K3.out.2.2.2.1 K3.out.2.2.2.2).mono ?_;rintro e x4 ⟨m0,m1,m2,rfl,hb,h0,h1,h2⟩;have k4:=KN.out _ _ K3.out hb;obtain⟨f0,n0,j0,rfl⟩:=h0.any;obtain⟨f1,n1,j1,rfl⟩:=h1.any;obtain⟨f2,j2,rfl, -⟩:=h2.slice;obtain⟨y4,hy⟩:=zzX (x4.alloc (.cells #[.slice f0 n0 j0,.slice f1 n1 j1,.slice f2 0 j2] 28));have by4:qL x4 y4:=by rw[hy];exact(zM _ x4).alloc (zN _) _
 have hYb:y4.heap[x4.heap.size]? =some (.cells #[.slice f0 n0 j0,.slice f1 n1 j1,.slice f2 0 j2] 28 (0,0)):=by rw[hy];exact zG x4 _
 obtain⟨Y,hY⟩:=zzX x4.heap.size;rw[<-hY] at hYb;have k5:=KN.out _ _ k4 by4;have h0:=h0.below by4;have h1:=h1.below by4;have M:=hid (⟨k5.1,hYb⟩:qL w y4/\_);have E0:=hid (eq_l _ _ [(1,2)] (by simp) y4 h0 k5.2.2.2.1);have E1:=hid (⟨h1,k5.2.2.2.2⟩:SdL (.slice f1 n1 j1) [(1,1)] y4/\SdL (.slice (some p4) 1 1) [(1,1)] y4);obtain⟨d0,d1,d2, -, -, -⟩:=zah hYb;rw[hy,hY] at d0 d1 d2;have HV:=hid hy.symm;have HY:=hid hY.symm;clear hb by4 hY k4 k5 h0 h1 h2 K3 CO S1 S2 S3 KN KC hYb hy;go_wp21;have h9:=HV.out;rw[h9,HY.out];clear h9 d0 d1 d2;refine zzM E0.out λx5 hb=>?_;have B5:=hid (M.out.1.trans (hb.mono M.out.1.size));have P5:=hid (zac hb _ _ _ _ M.out.2);have E2:=hid (eq_l _ _ [(1,1)] (by simp) x5 (E1.out.1.below hb) (E1.out.2.below hb));clear hb M E0 E1 HV HY;obtain⟨d0,d1,d2, -, -, -⟩:=zah P5.out;go_wp21;clear d0 d1 d2;refine zzM E2.out λx6 hb=>?_;have B6:=hid (B5.out.trans (hb.mono B5.out.size));obtain⟨d0,d1,d2, -, -, -⟩:=zah (zac hb _ _ _ _ P5.out);clear hb E2 B5 P5;go_wp21;go_ret;exact⟨rfl,B6.out⟩
end
section
open Go.RowKit Go.Shelf Lib Str Limb
theorem zct:SdOk (b2 1):=zs7 (by decide) (zb7.2.1.mono (by omega))
theorem zlh:SdOk (ab2 (-1) 1):=zsj (by decide) (by decide) (zb7.2.2.2.2.1.mono (by omega)) (zb7.2.1.mono (by omega))
theorem zdi (v1 v2:Value) (l1 l2 l:List (Rat×Nat)) (h1:SdOk l1) (h2:SdOk l2) (h:SdOk l) (e:l1++l2=l) (w:zA) (hw:Hw w) (g1:SdL v1 l1 w) (g2:SdL v2 l2 w):
 zC zF 17 #[v1,v2] w λe w'=>∃v,e=.returned (.tuple #[v,.int .i64 0])/\zB w.heap.size w w'/\SdL v l w':=by
 have:=z4w v1 v2 l1 l2 h1 h2 (by rw[<-List.length_append,e];exact h.len) w hw.d hw.p g1 g2;rw[e,zmx h] at this;exact this.mono λe w' k=>k.ok λc hc=>(h.trm c hc).sc
theorem zse (v1 v2:Value) (l:List (Rat×Nat)) (h:SdOk l) (w:zA) (hw:Hw w) (g1:SdL v1 l w) (g2:SdL v2 [] w):
 zC zF 50 #[v1,v2] w λe w'=>∃v,e=.returned (.tuple #[v,.int .i64 0])/\zB w.heap.size w w'/\SdL v l w':=by
 have:=z6n v1 v2 l [] h SdOk.nil (by simpa using h.len) w hw.d hw.p g1 g2;rw[show l++sclL [] (-1)=l by simp[sclL],zmx h] at this;exact this.mono λe w' k=>k.ok λc hc=>(h.trm c hc).sc
theorem zet (v:Value) (l:List (Rat×Nat)) (h:SdOk l) (w:zA) (hw:Hw w) (hv:SdL v l w):
 zC zF 11 #[v,St (numS 1)] w λe w'=>∃v',e=.returned (.tuple #[v',.int .i64 0])/\zB w.heap.size w w'/\SdL v' l w':=by
 have:=zeu v l 1 h h.len (zb7.2.1.mono (by omega)) (λt ht=>by rw[Rat.mul_one];exact(h.trm t ht).sc.mono (by omega)) w hw.d hw.p hv;rw[show sclR l 1=l by unfold sclR;rw[if_neg (by decide),z4g]] at this;exact this.mono λe w' k=>k.ok λc hc=>(h.trm c hc).sc
theorem zcz (v:Value) (l:List (Rat×Nat)) (h:SdOk l) (w:zA) (hw:Hw w) (hv:SdL v l w):
 zC zF 11 #[v,St (numS 0)] w λe w'=>∃v',e=.returned (.tuple #[v',.int .i64 0])/\zB w.heap.size w w'/\SdL v' [] w':=by
 have:=zeu v l 0 h h.len (zb7.1.mono (by omega)) (λt ht=>by rw[Rat.mul_zero];exact zb7.1.mono (by omega)) w hw.d hw.p hv;rw[show sclR l 0=[] by unfold sclR;rw[if_pos rfl]] at this;exact this.mono λe w' k=>k.ok λc hc=>by cases hc
theorem rs1:rs 1=[(1,1)]:=zbz (by decide)
theorem rsm1:rs (-1)=[(-1,1)]:=zbz (by decide)
theorem szk:sz 0 60/\sz 1 60/\sz (-1) 60:=⟨zb7.1.mono (by omega),zb7.2.1.mono (by omega),zb7.2.2.2.2.1.mono (by omega)⟩
theorem zqc (v t3 t4:Value) (w:zA) (hw:Hw w) (hv:SdL v [] w) (h3:SdL t3 (b2 1) w) (h4:SdL t4 (rs 1) w):
 qJ 13 #[.agg #[St (numS (-1)),St (numS 0),St (numS 1),v],.agg #[t4,.slice none 0 0,t3]] w (.tuple #[.int .i64 1,.int .i64 0]):=by
 obtain⟨z0,z1,zm⟩:=szk;obtain⟨qd,nd,kd,rfl⟩:=hv.any;obtain⟨q0,n0,k0,rfl⟩:=h4.any;obtain⟨q2,n2,k2,rfl⟩:=h3.any;have H:=λ(W:zA) (h:qL w W)=>hw.below h;refine zjj (numS (-1)) (numS 0) (numS 1) qd q0 none q2 nd kd n0 0 n2 k0 0 k2 (ab2 (-1) 1) (ab2 (-1) 1) 1 w
  (hid λW hW B hB=>zjk (-1) 0 1 zm z0 z1 (.inl (by decide)) _ [] SdOk.nil B W (H W hW) (hv.below hW) hB)
  (hid λW hW=>zbh _ _ (zc8 z1) W (H W hW).wd (H W hW).pw (h4.below hW)) (hid λW hW=>zbh _ [] SdOk.nil W (H W hW).wd (H W hW).pw (SdL.nil _)) (hid λW hW=>zbh _ _ zct W (H W hW).wd (H W hW).pw (h3.below hW))
  (hid λW hW=>?_)
  (hid λW r hW hr=>zse r _ _ zlh W (H W hW) hr (hv.below hW))
  (hid λW u hW hu=>?_)
 ·refine zcq q0 none q2 n0 0 n2 k0 0 k2 (numS (-1)) (numS 0) (numS 1) (rs (-1)) [] (b2 1) (rs (-1)) (ab2 (-1) 1) W
   (hid λV hV=>?_)
   (hid λV hV=>zcz _ [] SdOk.nil V ((H W hW).below hV) (SdL.nil _))
   (hid λV hV=>zet _ _ zct V ((H W hW).below hV) ((h3.below hW).below hV))
   (hid λV u v hV hu hv=>zdi u v _ [] _ (zc8 zm) SdOk.nil (zc8 zm) (by simp) V ((H W hW).below hV) hu hv)
   (hid λV u v hV hu hv=>zdi u v _ _ _ (zc8 zm) zct zlh (by rw[rsm1];rfl) V ((H W hW).below hV) hu hv)
  have:=zd3 _ 1 (-1) z1 (zm.mono (by omega)) (by rw[Rat.one_mul];exact zm) V ((H W hW).below hV).d ((H W hW).below hV).p ((h4.below hW).below hV);rw[Rat.one_mul] at this;exact this
 ·obtain⟨p,cap,e, -⟩:=hu.slice
  subst e;exact zff p _ cap _ 0 W (hid (zbh _ _ zlh W (H W hW).wd (H W hW).pw hu)) (hid λV hV=>zp8 _ V ((H W hW).below hV).wd ((H W hW).below hV).sw (hu.below hV))
def uX (i:Nat):List UInt8:=numS (if i=0 then 1 else 0)
def uY (i:Nat):List UInt8:=numS (if i=1 then 1 else 0)
def uZ (i:Nat):List UInt8:=numS (if i=2 then 1 else 0)
theorem zor (t3 t4:Value) (w:zA) (hw:Hw w) (h3:SdL t3 (b2 1) w) (h4:SdL t4 (rs 1) w):
 zC zF 28 #[.agg #[St (numS 1),St (numS 0),St (numS 0),t3],.agg #[St (numS 0),St (numS 1),St (numS 0),t4],.agg #[St (numS 0),St (numS 0),St (numS 1),.slice none 0 0]] w λe w'=>∃u0 u1 u2,e=.returned (.tuple #[.agg #[u0,u1,u2],.bool true,.int .i64 0])/\zB w.heap.size w w'/\SdL u0 (b2 1) w'/\SdL u1 (rs 1) w'/\SdL u2 [] w':=by
 obtain⟨z0,z1,zm⟩:=szk;have H:=λ(W:zA) (h:qL w W)=>hw.below h;have t0:sz 0 140:=zb7.1.mono (by omega);have t1:sz 1 140:=zb7.2.1.mono (by omega);have y0:sz 0 30:=zb7.1.mono (by omega);have y1:sz 1 30:=zb7.2.1.mono (by omega);have r0:(1:Rat)*1-0*0=1:=by decide+kernel
 have r1:(0:Rat)*0-0*0=0:=by decide+kernel
 have r2:(0:Rat)*0-0*1=0:=by decide+kernel
 have r3:(0:Rat)*0-1*0=0:=by decide+kernel
 have r4:(0:Rat)*1-0*0=0:=by decide+kernel
 have r5:(1:Rat)*0-0*0=0:=by decide+kernel
 have hD:∀i,∃q m c,(if i=0 then t3 else if i=1 then t4 else Value.slice none 0 0)=.slice q m c:=λi=>by
  split
  ·exact h3.any
  ·split
   ·exact h4.any
   ·exact⟨_,_,_,rfl⟩
 obtain⟨q3,n3,k3,e3⟩:=h3.any;obtain⟨q4,n4,k4,e4⟩:=h4.any;subst e3;subst e4;refine(zrl uX uY uZ uX uY uZ uX uY uZ (λi=>if i=0 then .slice q3 n3 k3 else if i=1 then .slice q4 n4 k4 else .slice none 0 0) hD (numS 1) (numS 1) (b2 1) (rs 1) [] True True True False w
  (hid λW hW A hA=>?_) (hid λj hj W hW=>?_) (hid λW hW=>?_) (hid λ_ W hW=>?_) (hid λ_ j hj W hW=>?_) (hid λ_ W hW=>zce ?_) (hid λ_ W hW=>zce ?_) (hid λ_ W hW=>zce ?_)).mono λe w' ⟨u0,u1,u2,bb,er,h1,h2,h3⟩=>by
  rcases h3 with⟨_,_,_,_,⟨_,h⟩|⟨_,_,h⟩⟩|⟨rfl,rfl,_,k0,k1,k2, -⟩
  ·rw[zfc] at h;cases h
  ·exact h.elim
  ·exact⟨u0,u1,u2,h1,h2,k0,k1,k2⟩
 ·refine zef (some ⟨A,0,none⟩) 3 3 uX uY uZ (λi=>if i=0 then .slice q3 n3 k3 else if i=1 then .slice q4 n4 k4 else .slice none 0 0) (by omega) (λi _=>hD i) W (hid λi hi V hV=>?_) (hid λi hi=>?_)
  ·have hv:=(H W hW).below hV
   match i,hi with
   |0,_=>exact zc9 1 0 0 z1 z0 z0 (.inl (by decide)) _ _ zct V hv ((h3.below hW).below hV)
   |1,_=>exact zc9 0 1 0 z0 z1 z0 (.inr (.inl (by decide))) _ _ (zc8 z1) V hv ((h4.below hW).below hV)
   |2,_=>exact zc9 0 0 1 z0 z0 z1 (.inr (.inr (by decide))) _ _ SdOk.nil V hv (SdL.nil _)
  ·have hc:=zfr hA i hi
   rw[show i*4=0+i*4 by omega] at hc;exact⟨A,0,rfl,hc⟩
 ·match j,hj with
  |0,_=>
   have:=zgs 0 1 0 0 0 1 ⟨y0,y1,y0⟩ ⟨y0,y0,y1⟩ W (H W hW).wd;rw[r0,r2,r3] at this;exact this
  |1,_=>
   have:=zgs 0 0 1 1 0 0 ⟨y0,y0,y1⟩ ⟨y1,y0,y0⟩ W (H W hW).wd;rw[r3,r0,r2] at this;exact this
  |2,_=>
   have:=zgs 1 0 0 0 1 0 ⟨y1,y0,y0⟩ ⟨y0,y1,y0⟩ W (H W hW).wd;rw[r2,r3,r0] at this;exact this
 ·have:=zs6 1 0 0 1 0 0 ⟨y1,y0,y0⟩ ⟨y1,y0,y0⟩ W (H W hW).wd
  rw[show(1:Rat)*1+0*0+0*0=1 by decide+kernel] at this;exact this
 ·have:=zoj 1 1 (by decide) 1 1 (by omega) (by omega) (by omega) zb7.2.1 zb7.2.1 W (H W hW).wd
  rw[show(1:Rat)/1=1 by decide+kernel] at this;rw[show(Value.string ⟨#[49]⟩)=St (numS 1) by rw[zfc]];exact this
 ·match j,hj with
  |0,_=>
   have:=zf8 1 0 0 1 ⟨t1,t0,t0⟩ t1 W (H W hW).wd;rw[Rat.mul_one,Rat.mul_one] at this;exact this
  |1,_=>
   have:=zf8 0 1 0 1 ⟨t0,t1,t0⟩ t1 W (H W hW).wd;rw[Rat.mul_one,Rat.mul_one] at this;exact this
  |2,_=>
   have:=zf8 0 0 1 1 ⟨t0,t0,t1⟩ t1 W (H W hW).wd;rw[Rat.mul_one,Rat.mul_one] at this;exact this
 ·exact zcq q3 q4 none n3 n4 0 k3 k4 0 (numS 1) (numS 0) (numS 0) (b2 1) [] [] (b2 1) (b2 1) W
   (hid λV hV=>zet _ _ zct V ((H W hW).below hV) ((h3.below hW).below hV))
   (hid λV hV=>zcz _ _ (zc8 z1) V ((H W hW).below hV) ((h4.below hW).below hV))
   (hid λV hV=>zcz _ [] SdOk.nil V ((H W hW).below hV) (SdL.nil _))
   (hid λV u v hV hu hv=>zdi u v _ [] _ zct SdOk.nil zct (by simp) V ((H W hW).below hV) hu hv)
   (hid λV u v hV hu hv=>zdi u v _ [] _ zct SdOk.nil zct (by simp) V ((H W hW).below hV) hu hv)
 ·exact zcq q3 q4 none n3 n4 0 k3 k4 0 (numS 0) (numS 1) (numS 0) [] (rs 1) [] (rs 1) (rs 1) W
   (hid λV hV=>zcz _ _ zct V ((H W hW).below hV) ((h3.below hW).below hV))
   (hid λV hV=>zet _ _ (zc8 z1) V ((H W hW).below hV) ((h4.below hW).below hV))
   (hid λV hV=>zcz _ [] SdOk.nil V ((H W hW).below hV) (SdL.nil _))
   (hid λV u v hV hu hv=>zdi u v [] _ _ SdOk.nil (zc8 z1) (zc8 z1) (by simp) V ((H W hW).below hV) hu hv)
   (hid λV u v hV hu hv=>zdi u v _ [] _ (zc8 z1) SdOk.nil (zc8 z1) (by simp) V ((H W hW).below hV) hu hv)
 ·exact zcq q3 q4 none n3 n4 0 k3 k4 0 (numS 0) (numS 0) (numS 1) [] [] [] [] [] W
   (hid λV hV=>zcz _ _ zct V ((H W hW).below hV) ((h3.below hW).below hV))
   (hid λV hV=>zcz _ _ (zc8 z1) V ((H W hW).below hV) ((h4.below hW).below hV))
   (hid λV hV=>zet _ [] SdOk.nil V ((H W hW).below hV) (SdL.nil _))
   (hid λV u v hV hu hv=>zdi u v [] [] _ SdOk.nil SdOk.nil SdOk.nil (by simp) V ((H W hW).below hV) hu hv)
   (hid λV u v hV hu hv=>zdi u v [] [] _ SdOk.nil SdOk.nil SdOk.nil (by simp) V ((H W hW).below hV) hu hv)
theorem zm6 (w:zA) (hw:Hw w):qJ 8 #[] w (.bool true):=by
 obtain⟨z0,z1,zm⟩:=szk;have H:=λ(W:zA) (h:qL w W)=>hw.below h;have n0:St (numS 0)=.string ⟨#[48]⟩:=by rw[zie]
 have n1:St (numS 1)=.string ⟨#[49]⟩:=by rw[zfc]
 have e1:=rs1;have e2:b2 1=[(1,2)]:=rfl;have en:(-(0:Rat))=0:=by decide+kernel
 refine zlg (numS (-1)) (numS 0) (numS 1) w (hid ?_) (hid λW v t3 t4 hW hv h3 h4=>?_) (hid λW v t3 t4 hW hv h3 h4=>?_) (hid λW v t3 t4 hW hv h3 h4=>?_) (hid λW t3 t4 hW h3 h4=>?_)
 ·have:=zol 1 0 0 z1 z0 z0 w hw
  rw[en,n0,n1,za2] at this;rw[n0,n1];exact this
 ·rw[<-e1] at h4
  rw[<-za2] at hv;have:=zgg (-1) 0 1 0 1 0 0 zm z0 z1 (.inl (by decide)) z0 z1 z0 z0 (by rw[Rat.one_mul];exact zm) (by rw[Rat.zero_mul];exact z0) (by rw[Rat.zero_mul];exact z0) (by rw[show(1:Rat)* -1+0*0= -1 by decide+kernel];exact zm) (by rw[show(1:Rat)* -1+0*0+0*1= -1 by decide+kernel];exact zm) (by rw[show(1:Rat)* -1+0*0+0*1-0= -1 by decide+kernel];exact zm) v t4 (.slice none 0 0) (.slice none 0 0) W (H W hW) hv h4 (by rw[za2];exact SdL.nil _) (by rw[za2];exact SdL.nil _);rw[show Geo.cmpR ((1:Rat)* -1+0*0+0*1-0) 0= -1 by decide+kernel] at this;exact this
 ·rw[<-e1] at h4
  rw[<-za2] at hv;have:=zgg (-1) 0 1 0 1 0 1 zm z0 z1 (.inl (by decide)) z0 z1 z0 z1 (by rw[Rat.one_mul];exact zm) (by rw[Rat.zero_mul];exact z0) (by rw[Rat.one_mul];exact z1) (by rw[show(1:Rat)* -1+0*0= -1 by decide+kernel];exact zm) (by rw[show(1:Rat)* -1+0*0+1*1=0 by decide+kernel];exact z0) (by rw[show(1:Rat)* -1+0*0+1*1-0=0 by decide+kernel];exact z0) v t4 (.slice none 0 0) t4 W (H W hW) hv h4 (by rw[za2];exact SdL.nil _) h4;rw[show Geo.cmpR ((1:Rat)* -1+0*0+1*1-0) 0=0 by decide+kernel] at this;exact this
 ·rw[<-e1] at h4
  rw[<-e2] at h3;exact zqc v t3 t4 W (H W hW) hv h3 h4
 ·rw[<-e1] at h4
  rw[<-e2] at h3;have:=zor t3 t4 W (H W hW) h3 h4;rw[n0,n1,e1,e2] at this;exact this
end
section
open Go.RowKit Go.Shelf Lib Str Limb Geo
attribute [local go_sem] Oper.semAt_some
theorem zzi (a b c a' b' c':Rat) (ha:sz3 a b c 60) (ha':sz3 a' b' c' 60) (hz:a≠0\/b≠0\/c≠0) (hz':a'≠0\/b'≠0\/c'≠0) (d d':Value) (l l':List (Rat×Nat)) (hl:SdOk l) (hl':SdOk l') (B:Nat) (W:zA) (hW:Hw W) (hd:SdL d l W) (hd':SdL d' l' W) (hB:W.heap[B]? =some (.cells #[St (numS a),St (numS b),St (numS c),d,St (numS a'),St (numS b'),St (numS c'),d'] 26 (0,0))):
 qJ 44 #[.slice (some ⟨B,0,none⟩) 2 2] W (.int .i64 0):=by
 refine zef (some ⟨B,0,none⟩) 2 2 (λi=>if i=0 then numS a else numS a') (λi=>if i=0 then numS b else numS b') (λi=>if i=0 then numS c else numS c') (λi=>if i=0 then d else d') (by omega) (λi _=>by
  by_cases h:i=0
  ·rw[if_pos h];exact hd.any
  ·rw[if_neg h];exact hd'.any) W (hid λi hi V hV=>?_) (hid λi hi=>?_)
 ·match i,hi with
  |0,_=>exact zc9 a b c ha.1 ha.2.1 ha.2.2 hz d l hl V (hW.below hV) (hd.below hV)
  |1,_=>exact zc9 a' b' c' ha'.1 ha'.2.1 ha'.2.2 hz' d' l' hl' V (hW.below hV) (hd'.below hV)
 ·refine⟨B,0,rfl,?_⟩
  rw[zJ hB,zJ hB,zJ hB,zJ hB]
  match i,hi with
  |0,_|1,_=>exact⟨rfl,rfl,rfl,rfl⟩
theorem z0h (q:Rat):∃h0:0<(⟨(numS q).toArray⟩:ByteArray).size,(((((⟨(numS q).toArray⟩:ByteArray)[0]'h0).toNat:Int)==45)=decide (q<0)):=by
 have hne:numS q≠[]:=zr2 q;obtain⟨s1,s2,s3,s4⟩:=zco (numS q) hne _ rfl;have h0:0<(⟨(numS q).toArray⟩:ByteArray).size:=by
  show 0<(numS q).toArray.size;have:=List.length_pos_iff.2 hne;simpa using this
 refine⟨h0,?_⟩;rw[s4 h0];have hs:(q<0)↔q.num<0:=by
  constructor
  ·intro h
   refine Classical.byContradiction λhn=>?_;have:=Rat.num_nonneg.1 (show 0<=q.num by omega);grind
  ·intro h
   refine Classical.byContradiction λhn=>?_;have:=Rat.num_nonneg.2 (show 0<=q by grind);omega
 rw[decide_eq_decide.2 hs];unfold numS;rcases zbg q.num with⟨hx,e⟩|⟨hx,e⟩
 ·obtain⟨c,r,hd,hc1,hc2⟩:=Str.dec_head q.num.natAbs
  rw[decide_eq_false (by omega),beq_eq_false_iff_ne];simp only[e,hd,yM,List.head_cons];omega
 ·rw[decide_eq_true (by omega)]
  simp only[e,yM,List.head_cons];rfl
theorem z3t {a b c:Rat} (sa:sz a 8) (sb:sz b 8) (sc:sz c 8) (hz:a≠0\/b≠0\/c≠0):0<a*a+b*b+c*c/\sz (a*a+b*b+c*c) 50:=by
 have nn:∀x:Rat,0<=x*x:=λx=>by
  rcases Rat.le_total (a:=0) (b:=x) with h|h
  ·exact Rat.mul_nonneg h h
  ·have:=Rat.mul_nonneg (show(0:Rat)<= -x by grind) (show(0:Rat)<= -x by grind)
   grind
 have ps:∀x:Rat,x≠0->0<x*x:=λx hx=>by
  have h1:=nn x;have h2:x*x≠0:=λe=>by
   rcases Rat.mul_eq_zero.1 e with e|e<;>exact hx e
  grind
 have ha:=nn a;have hb:=nn b;have hc:=nn c;refine⟨?_,(zk0 (zk0 (zca sa sa) (zca sb sb)) (zca sc sc)).mono (by omega)⟩;rcases hz with h|h|h
 ·have:=ps a h;grind
 ·have:=ps b h;grind
 ·have:=ps c h;grind
theorem zzk (l:List (Rat×Nat)):sgeL l=0\/sgeL l=4:=by
 unfold sgeL errP;split
 ·exact .inl rfl
 ·split
  ·exact .inr rfl
  ·exact .inl rfl
theorem znt (l:List (Rat×Nat)): -2<sgnL l/\sgnL l<2:=by
 unfold sgnL;split
 ·omega
 ·rcases zu6 l.length (λk=>valZ l (plN k)) with⟨h,_⟩|⟨h,_⟩|h<;>rw[h]<;>omega
end
section
open Go.RowKit Go.Shelf Lib Str Limb
section
variable {A B C:Nat->Rat} {D:Nat->List (Rat×Nat)}
end
theorem za5 {l:List (Rat×Nat)} (h:PosR l) (c:Rat):PosR (sclR l c):=by
 unfold sclR;split
 ·exact λ_ h=>by cases h
 ·exact zth h c
section
variable {X Y Z D:List (Rat×Nat)} (hX:PosR X) (hY:PosR Y) (hZ:PosR Z) (hD:PosR D)
include hX hY
theorem zhg (a b:Rat):PosR (sdM1 X Y a b):=zn6 (ztb (za5 hX a) (za5 hY b))
theorem z6z (a b:Rat) {r:Nat} (hr:0<r):phi r (sdM1 X Y a b)=phi r X*a+phi r Y*b:=by
 unfold sdM1;rw[zuc hr (ztb (za5 hX a) (za5 hY b)),zo8,zfq,zfq]
include hZ
theorem zgo (a b c:Rat):PosR (sdM2 X Y Z a b c):=zn6 (ztb (zhg hX hY a b) (za5 hZ c))
theorem zpj (a b c:Rat) {r:Nat} (hr:0<r):phi r (sdM2 X Y Z a b c)=phi r X*a+phi r Y*b+phi r Z*c:=by
 unfold sdM2;rw[zuc hr (ztb (zhg hX hY a b) (za5 hZ c)),zo8,zfq,z6z hX hY a b hr]
include hD
end
def dfL (l m:List (Rat×Nat)):List (Rat×Nat):=mkG (l++sclL m (-1))
theorem z9r (v1 v2:Value) (l1 l2:List (Rat×Nat)) (ok1:SdOk l1) (ok2:SdOk l2) (hlen:l1.length+l2.length<=12) (w:zA) (hw:Hw w) (h1:SdL v1 l1 w) (h2:SdL v2 l2 w):
 zC zF 48 #[v1,v2] w λe w'=>∃m r,e=.returned (.tuple #[.int .i64 m,.int .i64 r])/\zB w.heap.size w w'/\((r=4/\m=0/\True)\/(m=sgnL (dfL l1 l2)/\r=sgeL (dfL l1 l2)/\∀t∈dfL l1 l2,sz t.1 60)):=by
 have ld:(sclL l2 (-1)).length=l2.length:=by simp[sclL]
 exact zjn v1 v2 _ _ (λu W=>SdL u (dfL l1 l2) W) (∀t∈dfL l1 l2,sz t.1 60) True w
  (hid ((z6n v1 v2 l1 l2 ok1 ok2 hlen w hw.d hw.p h1 h2).mono λe w' ⟨q,n,c,r,e1,e2,e3⟩=>⟨q,n,c,r,e1,e2,e3.imp id λh=>⟨h.1,trivial⟩⟩))
  (hid λW u hE hW hu=>z55 u _ (z2e ok1 (zvn ok2) (by omega) hE) W (hw.below hW).wd (hw.below hW).sw hu)
def ParP (a b c a' b' c':Rat):Prop:=b*c'-c*b'=0/\c*a'-a*c'=0/\a*b'-b*a'=0/\0<a*a'+b*b'+c*c'
theorem z8p (x:Rat):0<=x*x:=by
 rcases Rat.le_total (a:=0) (b:=x) with h|h
 ·exact Rat.mul_nonneg h h
 ·have:=Rat.mul_nonneg (show(0:Rat)<= -x by grind) (show(0:Rat)<= -x by grind)
  grind
theorem z8d {a b c:Rat} (h:a≠0\/b≠0\/c≠0):0<a*a+b*b+c*c:=by
 have ps:∀x:Rat,x≠0->0<x*x:=λx hx=>by
  have h1:=z8p x;have h2:x*x≠0:=λe=>by
   rcases Rat.mul_eq_zero.1 e with e|e<;>exact hx e
  grind
 have ha:=z8p a;have hb:=z8p b;have hc:=z8p c;rcases h with h|h|h
 ·have:=ps a h;grind
 ·have:=ps b h;grind
 ·have:=ps c h;grind
theorem z9s {a b c a' b' c':Rat} (h:a≠0\/b≠0\/c≠0) (h':a'≠0\/b'≠0\/c'≠0) (e1:b*c'-c*b'=0) (e2:c*a'-a*c'=0) (e3:a*b'-b*a'=0):a*a'+b*b'+c*c'≠0:=λe=>by
 have hp:=Rat.mul_pos (z8d h) (z8d h');have hl:(a*a+b*b+c*c)*(a'*a'+b'*b'+c'*c')=(a*a'+b*b'+c*c')*(a*a'+b*b'+c*c')+(b*c'-c*b')*(b*c'-c*b')+(c*a'-a*c')*(c*a'-a*c')+(a*b'-b*a')*(a*b'-b*a'):=by grind
 rw[hl,e,e1,e2,e3] at hp;grind
def smL (D D':List (Rat×Nat)) (q p:Rat):List (Rat×Nat):=dfL (sclR D q) (sclR D' p)
theorem yav (a b c a' b' c':Rat) (s:sz3 a b c 30) (s':sz3 a' b' c' 30) (hz:a≠0\/b≠0\/c≠0) (hz':a'≠0\/b'≠0\/c'≠0) (sp:sz (a*a'+b*b'+c*c') 150) (sq:sz (a'*a'+b'*b'+c'*c') 150) (D D':List (Rat×Nat)) (hD:SdOk D) (hD':SdOk D') (hlen:D.length+D'.length<=12)
 (h1:SclS D (a'*a'+b'*b'+c'*c')) (h2:SclS D' (a*a'+b*b'+c*c')) (v v':Value) (w:zA) (hw:Hw w) (hv:SdL v D w) (hv':SdL v' D' w):
 zC zF 12 #[.agg #[St (numS a),St (numS b),St (numS c),v],.agg #[St (numS a'),St (numS b'),St (numS c'),v']] w λe w'=>∃bb r,e=.returned (.tuple #[.bool bb,.int .i64 r])/\zB w.heap.size w w'/\
  ((bb=false/\r=0/\¬ParP a b c a' b' c')\/(ParP a b c a' b' c'/\((bb=false/\r=4)\/(r=sgeL (smL D D' (a'*a'+b'*b'+c'*c') (a*a'+b*b'+c*c'))/\bb=(decide (r=0)&&decide (sgnL (smL D D' (a'*a'+b'*b'+c'*c') (a*a'+b*b'+c*c'))=0)))))):=by
 obtain⟨p,n,k,rfl⟩:=hv.any;obtain⟨p',n',k',rfl⟩:=hv'.any;have zt:∀q:Rat,((numS q==[48])=true↔q=0):=λq=>⟨λh=>Classical.byContradiction λhn=>(by rw[zsf hn] at h;cases h),λh=>(by rw[h,zie];rfl)⟩;obtain⟨h0,hb⟩:=z0h (a*a'+b*b'+c*c');have l1:=zxp D (a'*a'+b'*b'+c'*c');have l2:=zxp D' (a*a'+b*b'+c*c');have hcr:((numS (b*c'-c*b')==[48])&&(numS (c*a'-a*c')==[48])&&(numS (a*b'-b*a')==[48]))=true->b*c'-c*b'=0/\c*a'-a*c'=0/\a*b'-b*a'=0:=λh=>by
  rw[Bool.and_eq_true,Bool.and_eq_true,zt,zt,zt] at h;exact⟨h.1.1,h.1.2,h.2⟩
 refine(zta _ _ _ _ _ _ (numS (a*a'+b*b'+c*c')) (numS (a'*a'+b'*b'+c'*c')) p p' n n' k k' ((numS (b*c'-c*b')==[48])&&(numS (c*a'-a*c')==[48])&&(numS (a*b'-b*a')==[48])) (decide (a*a'+b*b'+c*c'<0)) (sclR D (a'*a'+b'*b'+c'*c')) (sclR D' (a*a'+b*b'+c*c')) (∀t∈sclR D (a'*a'+b'*b'+c'*c'),sz t.1 60) (∀t∈sclR D' (a*a'+b*b'+c*c'),sz t.1 60) True
  (λm r=>(r=4/\m=0/\True)\/(m=sgnL (smL D D' (a'*a'+b'*b'+c'*c') (a*a'+b*b'+c*c'))/\r=sgeL (smL D D' (a'*a'+b'*b'+c'*c') (a*a'+b*b'+c*c'))/\∀t∈smL D D' (a'*a'+b'*b'+c'*c') (a*a'+b*b'+c*c'),sz t.1 60)) w (hid hw.wd) (λh=>zsf (z9s hz hz' (hcr h).1 (hcr h).2.1 (hcr h).2.2)) h0 hb
  (hid λW A hW hA=>zzi a b c a' b' c' (s.mono (by omega)) (s'.mono (by omega)) hz hz' _ _ D D' hD hD' A W (hw.below hW) (hv.below hW) (hv'.below hW) hA)
  (hid λW hW=>zm1 _ _ _ _ _ _ _ _ _ _ (hid rfl) (hid λV hV=>zgs a b c a' b' c' s s' V hV) W (hid hW))
  (hid λ_ W hW=>zs6 a b c a' b' c' s s' W hW) (hid λ_ _ W hW=>zs6 a' b' c' a' b' c' s' s' W hW)
  (hid λ_ _ W hW=>MkOut.calls (zeu _ D _ hD (by omega) sq h1 W (hw.below hW).d (hw.below hW).p (hv.below hW)))
  (hid λ_ _ W hW=>MkOut.calls (zeu _ D' _ hD' (by omega) sp h2 W (hw.below hW).d (hw.below hW).p (hv'.below hW)))
  (hid λ_ _ W u u' hE hE' hW hu hu'=>z9r u u' _ _ (zw6 hD hE) (zw6 hD' hE') (by omega) W (hw.below hW) hu hu')).mono λe w' ⟨bb,r,e1,hb',h3⟩=>⟨bb,r,e1,hb',?_⟩
 rcases h3 with⟨k1,k2,k3⟩|⟨k1,k2,k3⟩
 ·refine .inl ⟨k1,k2,λ⟨p1,p2,p3,p4⟩=>?_⟩
  rcases k3 with k3|k3
  ·rw[(zt _).2 p1,(zt _).2 p2,(zt _).2 p3] at k3;cases k3
  ·have:=of_decide_eq_true k3
   grind
 ·have hc:=hcr k1
  have hd:=z9s hz hz' hc.1 hc.2.1 hc.2.2;have hn:=of_decide_eq_false k2;refine .inr ⟨⟨hc.1,hc.2.1,hc.2.2,by grind⟩,?_⟩;rcases k3 with⟨k3,k4, -⟩|⟨m,(⟨rfl,rfl, -⟩|⟨rfl,hr, -⟩),k4, -⟩
  ·exact .inl ⟨k3,k4⟩
  ·exact .inl ⟨by rw[k4];rfl,rfl⟩
  ·exact .inr ⟨hr,k4⟩
theorem yaw {X Y:List (Rat×Nat)} (hX:PosR X) (hY:PosR Y) (a b:Rat):Bd λq=>vZ (sdM1 X Y a b) q-(a*vZ X q+b*vZ Y q):=by
 refine((z7t (ztb (za5 hX a) (za5 hY b))).add ((z66 a X).add (z66 b Y))).congr λq=>?_;show vZ (mkG (sclR X a++sclR Y b)) q-_=_;rw[z71];grind
theorem yax {X Y Z:List (Rat×Nat)} (hX:PosR X) (hY:PosR Y) (hZ:PosR Z) (a b c:Rat):Bd λq=>vZ (sdM2 X Y Z a b c) q-(a*vZ X q+b*vZ Y q+c*vZ Z q):=by
 refine((z7t (ztb (zhg hX hY a b) (za5 hZ c))).add ((yaw hX hY a b).add (z66 c Z))).congr λq=>?_;show vZ (mkG (sdM1 X Y a b++sclR Z c)) q-_=_;rw[z71];grind
theorem z9t {D X Y Z:List (Rat×Nat)} (hX:PosR X) (hY:PosR Y) (hZ:PosR Z) (hD:PosR D) (a b c:Rat):Bd λq=>vZ (sdM3 D X Y Z a b c) q-(a*vZ X q+b*vZ Y q+c*vZ Z q-vZ D q):=by
 refine((z7t (ztb (zgo hX hY hZ a b c) (zth hD (-1)))).add ((yax hX hY hZ a b c).add (z7x (-1) D))).congr λq=>?_;show vZ (mkG (sdM2 X Y Z a b c++sclL D (-1))) q-_=_;rw[z71];grind
theorem z8u {D X Y Z:List (Rat×Nat)} (hX:PosR X) (hY:PosR Y) (hZ:PosR Z) (hD:PosR D) (a b c:Rat):PosR (sdM2 X Y Z a b c++sclL D (-1)):=ztb (zgo hX hY hZ a b c) (zth hD (-1))
theorem yaf {D X Y Z:List (Rat×Nat)} (hX:PosR X) (hY:PosR Y) (hZ:PosR Z) (hD:PosR D) (a b c:Rat) {r:Nat} (hr:0<r):phi r (sdM3 D X Y Z a b c)=phi r X*a+phi r Y*b+phi r Z*c-phi r D:=by
 unfold sdM3;rw[zuc hr (z8u hX hY hZ hD a b c),zo8,zpm,zpj hX hY hZ a b c hr];grind
theorem z8i {T:List (Rat×Nat)} (hT:PosR T) (h:∀r,0<r->phi r (mkG T)=0):mkG T=[]:=zt0 hT λr hr=>by rw[<-zuc hr hT];exact h r hr
theorem z9u {T T':List (Rat×Nat)} (hT:PosR T) (hT':PosR T') {k:Rat} (hk:0<k) (hp:∀r,0<r->phi r (mkG T')=k*phi r (mkG T)) (hb:Bd λq=>vZ (mkG T') q-k*vZ (mkG T) q) (e:sgeL (mkG T)=0) (e':sgeL (mkG T')=0):sgnL (mkG T')=sgnL (mkG T):=by
 by_cases h:mkG T=[]
 ·have h':mkG T'=[]:=z8i hT' λr hr=>by rw[hp r hr,h];show k*0=0;grind
  rw[h,h']
 ·have h':mkG T'≠[]:=λk'=>h (z8i hT λr hr=>by
   have:=hp r hr;rw[k'] at this;have z:(0:Rat)=k*phi r (mkG T):=this;rcases Rat.mul_eq_zero.1 z.symm with z|z
   ·grind
   ·exact z)
  exact z99 (λt ht=>(zx8 ht).2) (λt ht=>(zx8 ht).2) h h' hk hb e e'
theorem zpc (l:List (Rat×Nat)):(decide (sgeL l=0)&&decide (sgnL l=0))=decide (l=[]):=by
 by_cases h:l=[]
 ·subst h;rfl
 ·rw[decide_eq_false h]
  have e:sgeL l=errP (sgnL l):=if_neg h;rw[e];unfold errP;by_cases k:sgnL l=0
  ·rw[if_pos k];rfl
  ·rw[decide_eq_false k,Bool.and_false]
theorem yan {l m:List (Rat×Nat)} (hl:PosR l) (hm:PosR m):PosR (l++sclL m (-1)):=ztb hl (zth hm (-1))
theorem yay {D D':List (Rat×Nat)} (hD:PosR D) (hD':PosR D') (q p:Rat):smL D D' q p=[]↔∀r,0<r->phi r D*q=phi r D'*p:=by
 have hp:=yan (za5 hD q) (za5 hD' p);have e:∀r,phi r (sclR D q++sclL (sclR D' p) (-1))=phi r D*q-phi r D'*p:=λr=>by
  rw[zo8,zpm,zfq,zfq];grind
 constructor
 ·intro h r hr
  have:=zuc hr hp;rw[e,show mkG (sclR D q++sclL (sclR D' p) (-1))=[] from h] at this;have z:(0:Rat)=phi r D*q-phi r D'*p:=this;grind
 ·intro h
  exact zt0 hp λr hr=>by rw[e,h r hr];grind
theorem zp5 {D D':List (Rat×Nat)} (hD:PosR D) (hD':PosR D') {q p:Rat} (h:smL D D' q p=[]):Bd λn=>q*vZ D n-p*vZ D' n:=by
 have hp:=yan (za5 hD q) (za5 hD' p);have h1:=z7t hp;rw[show mkG (sclR D q++sclL (sclR D' p) (-1))=[] from h] at h1;refine(h1.neg.add ((z66 q D).neg.add ((z7x (-1) (sclR D' p)).neg.add (z66 p D')))).congr λn=>?_;rw[z71,z68];grind
theorem zqd {N d s z j s':Nat} (hd:0<d) (h2:N<(s+1)*(s+1)) (hz:s/d=z) (hj:2*((z+1)*d)*d<=10^j) (h3:s'*s'<=N*(10^j*10^j)):s'/d+2<=(z+1)*10^j:=by
 have a2:s+1<=(z+1)*d:=by
  have:=Nat.lt_div_mul_add hd (a:=s);rw[hz] at this;rw[Nat.add_mul,Nat.one_mul];omega
 have hA:N+1<=(z+1)*d*((z+1)*d):=Nat.lt_of_lt_of_le h2 (Nat.mul_le_mul a2 a2);generalize hAe:(z+1)*d=A at*
 generalize 10^j=T at*
 have hA1:d<=A:=by rw[<-hAe,Nat.add_mul,Nat.one_mul];omega
 have hT:1<=T:=by
  have:0<2*A*d:=Nat.mul_pos (Nat.mul_pos (by omega) (by omega)) hd;omega
 have hAT:d<=A*T:=Nat.le_trans hA1 (Nat.le_mul_of_pos_right _ hT);have h4:s'<A*T-d:=by
  refine z6o ?_;have h5:(N+1)*(T*T)<=A*A*(T*T):=Nat.mul_le_mul_right _ hA;have h6:2*A*d*T<=T*T:=Nat.mul_le_mul_right _ hj;have h7:(A*T-d)*(A*T-d)+2*A*d*T=A*A*(T*T)+d*d:=by
   have e:A*T=(A*T-d)+d:=by omega
   generalize A*T-d=x at*
   have e1:A*A*(T*T)=(A*T)*(A*T):=by ac_rfl
   have e2:2*A*d*T=2*(A*T)*d:=by ac_rfl
   rw[e1,e2,e];simp only[Nat.mul_add,Nat.add_mul,Nat.mul_assoc];have:x*d=d*x:=Nat.mul_comm _ _;omega
  have h8:0<d*d:=Nat.mul_pos hd hd;rw[Nat.add_mul,Nat.one_mul] at h5;omega
 have h5:s'/d*d<=s':=Nat.div_mul_le_self _ _;have h6:(s'/d+1)*d<A*T:=by rw[Nat.add_mul,Nat.one_mul];omega
 have h7:A*T=(z+1)*T*d:=by rw[<-hAe];ac_rfl
 rw[h7] at h6;have:=Nat.lt_of_mul_lt_mul_right h6;omega
theorem zqe {N d j s' c:Nat} (hd:0<d) (hN:c*d*(c*d)<N) (hj:4*(c*d)*d+4*(d*d)<=10^j) (h3:N*(10^j*10^j)<(s'+1)*(s'+1)):c*10^j+2<=s'/d:=by
 generalize hB:c*d=B at*
 generalize 10^j=T at*
 have h4:B*T+2*d<s'+1:=by
  refine z6o ?_;have h5:(B*B+1)*(T*T)<=N*(T*T):=Nat.mul_le_mul_right _ hN;have h6:(4*B*d+4*(d*d))*T<=T*T:=Nat.mul_le_mul_right _ hj;have hT:1<=T:=by
   have:0<d*d:=Nat.mul_pos hd hd;omega
  have h7:4*(d*d)<=4*(d*d)*T:=Nat.le_mul_of_pos_right _ hT;have e1:(B*T+2*d)*(B*T+2*d)=B*B*(T*T)+4*B*d*T+4*(d*d):=by
   have a1:B*T*(B*T)=B*B*(T*T):=by ac_rfl
   have a2:B*T*(2*d)=2*(B*d*T):=by ac_rfl
   have a3:2*d*(B*T)=2*(B*d*T):=by ac_rfl
   have a4:2*d*(2*d)=4*(d*d):=by
    rw[show 2*d*(2*d)=(2*2)*(d*d) by ac_rfl]
   have a5:4*B*d*T=4*(B*d*T):=by ac_rfl
   simp only[Nat.mul_add,Nat.add_mul];rw[a1,a2,a3,a4,a5];omega
  rw[e1];rw[Nat.add_mul,Nat.one_mul] at h5;rw[Nat.add_mul] at h6;omega
 refine(Nat.le_div_iff_mul_le hd).2 ?_;have:(c*T+2)*d=B*T+2*d:=by rw[<-hB,Nat.add_mul];congr 1;ac_rfl
 omega
theorem zrq {t:Rat×Nat} (hne:t.1≠0) (hr:0<t.2) (p:Nat):∃j,flT t (p+j)+2<=(flT t p+1)*(10^j:Nat):=by
 have hd:0<t.1.den:=t.1.den_pos;have hT:∀j,trN t (p+j)=trN t p*(10^j*10^j):=λj=>by
  unfold trN;rw[show 2*(p+j)=2*p+(j+j) by omega,Nat.pow_add,Nat.pow_add];simp only[Nat.mul_assoc]
 have hN0:0<trN t p:=by
  unfold trN;have:0<t.1.num.natAbs:=Int.natAbs_pos.2 λe=>hne (Rat.num_eq_zero.1 e);exact Nat.mul_pos (Nat.mul_pos (Nat.mul_pos this this) hr) (yS (by simp))
 obtain⟨s1,s2⟩:=zv0 (trN t p);have big:∀n:Nat,n<=10^n:=λn=>Nat.le_of_lt (Nat.lt_pow_self (by omega));by_cases hn:t.1.num<0
 ·-- negative
  obtain⟨c,hc,hcN⟩:∃c:Nat,flT t p+1= -(c:Int)/\c*t.1.den*(c*t.1.den)<trN t p:=by
   unfold flT floT;rw[if_pos hn];generalize isq (trN t p)=s at*
   have b1:=Nat.div_mul_le_self s t.1.den;by_cases h:s*s=trN t p/\s%t.1.den=0
   ·rw[if_pos h]
    have e:s/t.1.den*t.1.den=s:=Nat.div_mul_cancel (Nat.dvd_of_mod_eq_zero h.2);have hs:0<s:=yS λk=>by rw[k] at h;omega
    have hz:0<s/t.1.den:=yS λk=>by rw[k] at e;omega
    refine⟨s/t.1.den-1,by omega,?_⟩;have:(s/t.1.den-1)*t.1.den<s:=by
     rw[Nat.sub_mul,Nat.one_mul,e];omega
    rw[<-h.1];exact Nat.mul_self_lt_mul_self_iff.2 this
   ·rw[if_neg h]
    refine⟨s/t.1.den,by omega,?_⟩;rcases Nat.lt_or_ge (s/t.1.den*t.1.den) s with k|k
    ·exact Nat.lt_of_lt_of_le (Nat.mul_self_lt_mul_self_iff.2 k) s1
    ·have e:s/t.1.den*t.1.den=s:=by omega
     rw[e];have hm:s%t.1.den=0:=by
      have:=Nat.div_add_mod s t.1.den;rw[Nat.mul_comm] at this;omega
     have:s*s≠trN t p:=λq=>h ⟨q,hm⟩;omega
  refine⟨4*(c*t.1.den)*t.1.den+4*(t.1.den*t.1.den),?_⟩;generalize hj:4*(c*t.1.den)*t.1.den+4*(t.1.den*t.1.den)=j;have hj2:=big j;obtain⟨r1,r2⟩:=zv0 (trN t (p+j));have g:=zqe hd hcN (by rw[hj];exact hj2) (by rw[<-hT];exact r2);rw[hc];unfold flT floT;rw[if_pos hn];generalize isq (trN t (p+j))/t.1.den=z at*
  have e: -(c:Int)*((10^j:Nat):Int)= -((c*10^j:Nat):Int):=by rw[Int.neg_mul,Int.natCast_mul]
  rw[e];split<;>omega
 ·refine⟨2*((isq (trN t p)/t.1.den+1)*t.1.den)*t.1.den,?_⟩
  generalize hj:2*((isq (trN t p)/t.1.den+1)*t.1.den)*t.1.den=j;have hj2:=big j;obtain⟨r1,r2⟩:=zv0 (trN t (p+j));have g:=zqd hd s2 rfl (by rw[hj];exact hj2) (by rw[<-hT];exact r1);unfold flT floT;rw[if_neg hn,if_neg hn];have e:(((isq (trN t p)/t.1.den:Nat):Int)+1)*((10^j:Nat):Int)=(((isq (trN t p)/t.1.den+1)*10^j:Nat):Int):=by
   rw[Int.natCast_mul,Int.natCast_add];rfl
  rw[e];omega
theorem zka {l:List (Rat×Nat)} (hl:l≠[]) (h:∀t∈l,t.1≠0) (hp:PosR l) {p:Nat} (hn:valZ l p+l.length<=0):∃P,∀q,valZ l q*(10^P:Nat)<= -((10^q:Nat):Int):=by
 obtain⟨t,m,rfl⟩:∃t m,l=t::m:=by
  cases l with
  |nil=>exact(hl rfl).elim
  |cons t m=>exact⟨t,m,rfl⟩
 have hr:0<t.2:=by have:=hp t (yD ..);exact_mod_cast this
 obtain⟨j,hj⟩:=zrq (h t (yD ..)) hr p;refine⟨p+j,λq=>?_⟩;have h1:=yal (h t (yD ..)) (p+j) q;have h1':=yal (h t (yD ..)) q (p+j);have h2:=z7y q p m λc hc=>h c (List.mem_cons_of_mem _ hc);have hv:valZ (t::m) p=flT t p+valZ m p:=rfl;have hv':valZ (t::m) q=flT t q+valZ m q:=rfl;rw[hv] at hn;rw[hv'];have hlen:((t::m).length:Int)=(m.length:Int)+1:=by simp
 rw[hlen] at hn;have eP:((10^(p+j):Nat):Int)=((10^p:Nat):Int)*((10^j:Nat):Int):=by rw[Nat.pow_add,Int.natCast_mul]
 have P0:(0:Int)<((10^p:Nat):Int):=by exact_mod_cast yS (by simp)
 have J0:(0:Int)<((10^j:Nat):Int):=by exact_mod_cast yS (by simp)
 have Q0:(0:Int)<((10^q:Nat):Int):=by exact_mod_cast yS (by simp)
 rw[eP] at h1'⊢;generalize ((10^p:Nat):Int)=P at*
 generalize ((10^j:Nat):Int)=J at*
 generalize ((10^q:Nat):Int)=Q at*
 generalize flT t p=a at*
 generalize flT t q=b at*
 generalize flT t (p+j)=g at*
 generalize valZ m p=u at*
 generalize valZ m q=v at*
 generalize (m.length:Int)=n at*
 have k1:(g+1)*Q<=((a+1)*J-1)*Q:=Int.mul_le_mul_of_nonneg_right (by omega) (Int.le_of_lt Q0);have k2:=Int.mul_le_mul_of_nonneg_right h2 (Int.le_of_lt J0);have k3:((a+1)+(u+n))*(J*Q)<=0:=Int.mul_nonpos_of_nonpos_of_nonneg (by omega) (Int.le_of_lt (Int.mul_pos J0 Q0));have e1:(b+v)*(P*J)=b*(P*J)+v*P*J:=by rw[Int.add_mul,Int.mul_assoc v]
 have e2:((a+1)*J-1)*Q=(a+1)*(J*Q)-Q:=by rw[Int.sub_mul,Int.one_mul,Int.mul_assoc]
 have e3:(u+n)*Q*J=(u+n)*(J*Q):=by rw[Int.mul_assoc,Int.mul_comm Q J]
 rw[Int.add_mul] at k3;rw[e1];rw[e2] at k1;rw[e3] at k2;omega
theorem zlz {f:Nat->Rat} {C K:Rat} {P:Nat} (h1:∀q,((10^q:Nat):Rat)<=(f q+C)*((10^P:Nat):Rat)) (h2:∀q,f q<=K):False:=by
 obtain⟨q,hq⟩:=yam ((K+C)*((10^P:Nat):Rat));have P1:(0:Rat)<=((10^P:Nat):Rat):=by exact_mod_cast zR _
 have h3:=Rat.mul_le_mul_of_nonneg_right (show f q+C<=K+C by have:=h2 q;grind) P1;have:=h1 q;grind
theorem zkc {l:List (Rat×Nat)} (h:∀t∈l,t.1≠0) {p:Nat} (hp:0<valZ l p) (q:Nat):((10^q:Nat):Rat)<=(vZ l q+(l.length:Rat))*((10^p:Nat):Rat):=by
 have h1:=z7y p q l h;have Q0:(0:Int)<=((10^q:Nat):Int):=Int.natCast_nonneg _;have a:=Int.mul_le_mul_of_nonneg_right (show 1<=valZ l p by omega) Q0;rw[Int.one_mul] at a;have b:((10^q:Nat):Int)<=(valZ l q+(l.length:Int))*((10^p:Nat):Int):=by omega
 have c:((((10^q:Nat):Int)):Rat)<=(((valZ l q+(l.length:Int))*((10^p:Nat):Int):Int):Rat):=by exact_mod_cast b
 rw[Rat.intCast_mul,Rat.intCast_add] at c;exact c
theorem zqn {l:List (Rat×Nat)} (h:∀t∈l,t.1≠0) {p:Nat} (hp:0<valZ l p) (q:Nat): -(l.length:Rat)<=vZ l q:=by
 have h1:=zkc h hp q;have P1:(0:Rat)<=((10^p:Nat):Rat):=by exact_mod_cast zR _
 have Q1:(0:Rat)<=((10^q:Nat):Rat):=by exact_mod_cast zR _
 rcases(show-(l.length:Rat)<=vZ l q\/vZ l q+(l.length:Rat)<0 by grind) with k|k
 ·exact k
 ·have Q2:(0:Rat)<((10^q:Nat):Rat):=by exact_mod_cast yS (by simp)
  have P2:(0:Rat)<((10^p:Nat):Rat):=by exact_mod_cast yS (by simp)
  have:=Rat.mul_pos (show 0< -(vZ l q+(l.length:Rat)) by grind) P2;grind
theorem zq6 {l l':List (Rat×Nat)} (h:∀t∈l,t.1≠0) (h':∀t∈l',t.1≠0) (hp:PosR l) (hp':PosR l') (hl:l≠[]) (hl':l'≠[]) {k:Rat} (hk:0<k) (hb:Bd λq=>vZ l' q+k*vZ l q) (e:sgeL l=0) (e':sgeL l'=0):sgnL l'= -sgnL l:=by
 obtain⟨K,hK⟩:=hb;dsimp only at hK;have s1:sgnL l=sgnP l.length λk=>valZ l (plN k):=if_neg hl;have s2:sgnL l'=sgnP l'.length λk=>valZ l' (plN k):=if_neg hl';have n1:sgnL l≠0:=λz=>by
  rw[show sgeL l=errP (sgnL l) from if_neg hl,z] at e;cases e
 have n2:sgnL l'≠0:=λz=>by
  rw[show sgeL l'=errP (sgnL l') from if_neg hl',z] at e';cases e'
 rw[s1] at n1⊢;rw[s2] at n2⊢;rcases zu6 l.length λk=>valZ l (plN k) with⟨a,p,hv⟩|⟨a,p,hv⟩|a
 ·rcases zu6 l'.length λk=>valZ l' (plN k) with⟨b,p',hv'⟩|⟨b,p',hv'⟩|b
  ·refine(zlz (zkc h' hv') (K:=K+k*(l.length:Rat)) λq=>?_).elim
   have:=Rat.mul_le_mul_of_nonneg_left (zqn h hv q) (Rat.le_of_lt hk);have:=(hK q).2;grind
  ·rw[a,b]
   first|done|rfl
  ·exact(n2 b).elim
 ·rcases zu6 l'.length λk=>valZ l' (plN k) with⟨b,p',hv'⟩|⟨b,p',hv'⟩|b
  ·rw[a,b];rfl
  ·obtain⟨P,hP⟩:=zka hl h hp hv
   obtain⟨P',hP'⟩:=zka hl' h' hp' hv';have ki:0<=1/k:=Rat.le_of_lt (div_pos (by decide) hk);have kk:1/k*k=1:=by grind
   refine(zlz (f:=λq=> -vZ l q) (C:=0) (P:=P) (K:=1/k*K) (λq=>?_) λq=>?_).elim
   ·have c:(((((10^q:Nat):Int))):Rat)<=((-(valZ l q)*((10^P:Nat):Int):Int):Rat):=by
     have:=hP q;have h2:((10^q:Nat):Int)<= -(valZ l q)*((10^P:Nat):Int):=by rw[Int.neg_mul];omega
     exact_mod_cast h2
    rw[Rat.intCast_mul,Rat.intCast_neg] at c;have:(-vZ l q+0)*((10^P:Nat):Rat)= -((valZ l q:Int):Rat)*((10^P:Nat):Rat):=by unfold vZ;grind
    rw[this];exact c
   ·have v0:vZ l' q<=0:=by
     have h3:=hP' q;have P0:(0:Int)<((10^P':Nat):Int):=by exact_mod_cast yS (by simp)
     have Q0:(0:Int)<((10^q:Nat):Int):=by exact_mod_cast yS (by simp)
     have:valZ l' q<=0:=by
      rcases(show valZ l' q<=0\/0<valZ l' q by omega) with z|z
      ·exact z
      ·have:=Int.mul_pos z P0
       omega
     unfold vZ;exact_mod_cast this
    have h4:=Rat.mul_le_mul_of_nonneg_left (show k* -vZ l q<=K by have:=(hK q).1;grind) ki;rw[<-Rat.mul_assoc,kk,Rat.one_mul] at h4;exact h4
  ·exact(n2 b).elim
 ·exact(n1 a).elim
end
end Go.Proofs.YtgeapfaiacoajaaGreatDoor
