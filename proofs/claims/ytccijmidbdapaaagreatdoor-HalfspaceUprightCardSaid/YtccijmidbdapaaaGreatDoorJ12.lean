/- A loop over an iterator, outermost or within a round, whose assignment may lay boxes. -/
import Derived.Test.YtccijmidbdapaaaGreatDoorJ11
import Derived.Test.YtccijmidbdapaaaGreatDoorRows
import Derived.ProofKit
import Derived.Lib.LaidU8
import Derived.HandedShaped
import Derived.Lay
import Derived.Shelf.Vars
import Derived.Carry
import Derived.OwnWalkIn
set_option maxRecDepth 100000
set_option maxHeartbeats 8000000
open Go renaming World → zA
open Go.RowKit renaming Below → zB, intOf → zL
open Go.Lib renaming decDigits → zD
open Go.Proofs.Tryz renaming prog → zF
open Go.World renaming alloc_heap_new → zG, size_alloc → zH
open Go.Joins renaming cell_of_block → zJ
open Go.RowKit.Below renaming refl → zM
open Nat renaming le_refl → zN, zero_le → zR
open List renaming length_cons → yA
namespace Go.Proofs.YtccijmidbdapaaaGreatDoor
section
open Go.RowKit Go.Shelf
attribute [local go_sem] Oper.semAt_some
def MkAt (mk:Option Nat) (W:zA):Prop:=∀D,mk=some D->W.heap[D]? =some (.deferred (some []))
section
variable {F:Fence} {n:Nat} {P:Program} {g:Operand} {ps:Array Tmp} {assign body:Code} {Q:Exit->Act->zA->Prop} {a:Act} {w:zA} {gf:Nat} {lb:Array Value}
 {Rd:zA->Prop} {R:Nat->Array Value->Prop} {len:Nat}
theorem zlw (h1:1<=n) (hg:a.eval g=.func (.func gf) #[] lb) (hFg:F.fn gf) (eg:∀args w,(callFunc gf args).run P w=.ok (.enter gf args) w)
 (hseq:IterC F (n-1) P gf lb Rd R len) (hps:∀k args,R k args->args.size=ps.size)
 {B:Nat} (hB:B<=w.heap.size) (I:Nat->zA->Prop) (Ix:Code->Nat->zA->Prop) (hI:∀k W W',I k W->CellsKept W W'->zB B W W'->I k W') (hIx:∀c k W W',Ix c k W->CellsKept W W'->zB B W W'->Ix c k W')
 (hRd:∀k W,I k W->Rd W) (h0:I 0 w)
 (Ax:Nat->Array Value->Act->zA->Prop) (hAx:∀k args a' W W',Ax k args a' W->CellsKept W W'->zB B W W'->Ax k args a' W')
 (zl:Nat) (mark:List Deferred) (mk:Option Nat) (w1:FuncId->zA) (dd:Nat)
 (hent:∀fn,(Instr.enterLoop fn a.tmps ps assign body F.round).run P w=.ok (zl,mark) (w1 fn))
 (hrec:∀fn,(w1 fn).heap[zl]? =some (.loop {state:=.ready,pending:=none,fn,tmps:=a.tmps,params:=ps,assign,body,defers:=dd}))
 (hzl:w.heap.size<=zl) (hmk:∀D,mk=some D->w.heap.size<=D/\D≠zl) (hmk1:∀fn,MkAt mk (w1 fn)) (hstart:∀fn,qL w (w1 fn)) (hck:∀fn,CellsKept w (w1 fn))
 (hassign:∀(l k:Nat) (args:Array Value) (W:zA) (K:Act->zA->Prop),w.heap.size<=l->(∃r,W.heap[l]? =some (.loop r))->I k W->k<len->R k args->
   (∀a' W',KeepsFrom w.heap.size W W'->I k W'->Ax k args a' W'->K a' W')->
   assign.wpIn (F.inRound l) (n-1-1) P (Exit.then K (λ_ _ _=>False)) {tmps:=(ps.zip args).foldl (λt (p,v)=>t.setIfInBounds p v) a.tmps,defers:=[]} W)
 (hbody:∀(l k:Nat) (args:Array Value) (a':Act) (W:zA),w.heap.size<=l->(∃r,W.heap[l]? =some (.loop r))->I k W->k<len->R k args->Ax k args a' W->body.wpIn (F.inRound l) (n-1-1) P (zja w.heap.size I Ix k W) a' W)
 (hdone:∀(W:zA),I len W->MkAt mk W->Q .normal {a with defers:=mark++a.defers} W)
 (hstop:∀(c:Code) (k:Nat) (W:zA),Ix c k W->MkAt mk W->c.wpIn F n P Q {a with defers:=mark++a.defers} W):
 (Code.rangeFunc g ps assign body).wpIn F n P Q a w:=by
 refine wpIn_rangeFunc λfn hfn=>?_
 let rec':LoopState->Option Code->Obj:=λst pe=>.loop {state:=st,pending:=pe,fn,tmps:=a.tmps,params:=ps,assign,body,defers:=dd}
 let bk:LoopState->Option Code->zA->Prop:=λst pe W=>W.heap[zl]? =some (rec' st pe)/\MkAt mk W
 have hturn:∀st pe st' pe' W,bk st pe W->bk st' pe' (W.putObj zl (rec' st' pe')):=λst pe st' pe' W h=>
  ⟨World.putObj_heap_same (Array.getElem?_eq_some_iff.1 h.1).1,λD hD=>(World.putObj_heap_other (hmk D hD).2).trans (h.2 D hD)⟩
 refine⟨zl,mark,w1 fn,{target:=.fn (.func gf) lb,args:= #[.func (.yield zl) #[] #[]]},w1 fn,gf,#[.func (.yield zl) #[] #[]]++lb,w1 fn,hent fn,?_,?_,?_,λ_=>h1,?_⟩
 ·simp only[resolve,hg]
  simp[go_sem]
 ·intro f' hf';simp[Target.leads] at hf';subst hf';exact hFg
 ·simp[invoke,go_sem,eg]
 refine(hseq zl (λk W=>I k W/\bk .ready none W) (λW=>∃c k,Ix c k W/\bk .done (some c) W) _ (λk W1 h=>hRd k W1 h.1) (λk W1 W2 h hb=>?_) ?_ ?_).mono ?_
 ·exact⟨hI k W1 W2 h.1 (zac hb) (hb.mono (by have:=(Array.getElem?_eq_some_iff.1 h.2.1).1;omega)),
   (hb.block _ (Array.getElem?_eq_some_iff.1 h.2.1).1).trans h.2.1,λD hD=>(hb.block _ (Array.getElem?_eq_some_iff.1 (h.2.2 D hD)).1).trans (h.2.2 D hD)⟩
 ·rintro k args W ⟨hi,hbW⟩ hk hR
  have hy:=run_yield (P:=P) (args:=args) hbW.1 (hps k args hR)
  refine⟨fn,_,assign,body,hy,roundIn_of_wpIn hfn (hassign _ k args W _ hzl ⟨_,hbW.1⟩ hi hk hR ?_)⟩
  intro a' W2 hk2 hi2 hax2
  have hbW2:bk .ready none W2:=⟨hk2.same _ _ hzl hbW.1 rfl,λD hD=>hk2.same _ _ (hmk D hD).1 (hbW.2 D hD) rfl⟩
  refine⟨_,run_beginRound hbW2.1 rfl,?_⟩
  have hb2:bk .busy none (W2.putObj zl (rec' .busy none)):=hturn _ _ _ _ _ hbW2
  have hc2:=zcw (rec' .busy none) hbW2.1 rfl
  have hl2:=zcx (B:=B) (rec' .busy none) hbW2.1 (by omega)
  refine wpIn_mono (hbody _ k args a' _ hzl ⟨_,hb2.1⟩ (hI k _ _ hi2 hc2 hl2) hk hR (hAx k args a' _ _ hax2 hc2 hl2)) ?_
  have fin:∀(jump:Option Code) (W3:zA),KeepsFrom w.heap.size (W2.putObj zl (rec' .busy none)) W3->
   (Instr.endRound zl jump).run P W3=.ok (.bool jump.isNone) (W3.putObj zl (rec' (if jump.isNone then .ready else .done) jump))/\
   CellsKept W3 (W3.putObj zl (rec' (if jump.isNone then .ready else .done) jump))/\zB B W3 (W3.putObj zl (rec' (if jump.isNone then .ready else .done) jump))/\
   bk (if jump.isNone then .ready else .done) jump (W3.putObj zl (rec' (if jump.isNone then .ready else .done) jump)):=λjump W3 hk3=>by
   have hb3:bk .busy none W3:=⟨hk3.same _ _ hzl hb2.1 rfl,λD hD=>hk3.same _ _ (hmk D hD).1 (hb2.2 D hD) rfl⟩
   exact⟨run_endRound jump hb3.1,zcw _ hb3.1 rfl,zcx _ hb3.1 (by omega),hturn _ _ _ _ _ hb3⟩
  rintro e a3 W3 hp
  cases e with
  |normal=>
   obtain⟨hk3,hi3⟩:=hp
   obtain⟨hr,hc,hbl,hb4⟩:=fin none W3 hk3
   exact⟨_,_,hr,.inl ⟨rfl,hI _ _ _ hi3 hc hbl,hb4⟩⟩
  |ret=>
   obtain⟨hk3,hi3⟩:=hp
   obtain⟨hr,hc,hbl,hb4⟩:=fin (some .ret) W3 hk3
   exact⟨_,_,hr,.inr ⟨rfl,_,_,hIx _ _ _ _ hi3 hc hbl,hb4⟩⟩
  |exit id=>
   obtain⟨hk3,hi3⟩:=hp
   obtain⟨hr,hc,hbl,hb4⟩:=fin (some (.exit id)) W3 hk3
   exact⟨_,_,hr,.inr ⟨rfl,_,_,hIx _ _ _ _ hi3 hc hbl,hb4⟩⟩
  |goto t=>
   obtain⟨hk3,hi3⟩:=hp
   obtain⟨hr,hc,hbl,hb4⟩:=fin (some (.goto t)) W3 hk3
   exact⟨_,_,hr,.inr ⟨rfl,_,_,hIx _ _ _ _ hi3 hc hbl,hb4⟩⟩
  |panic ch=>exact hp.elim
  |outgrown=>exact hp.elim
 ·exact⟨hI 0 _ _ h0 (hck fn) ((hstart fn).mono hB),hrec fn,hmk1 fn⟩
 ·rintro e W2 ⟨⟨v,rfl⟩,(⟨hi,hb4⟩|⟨c,k,hi,hb4⟩)⟩
  ·exact⟨none,_,run_endLoop hb4.1 (by simp),hdone _ (hI _ _ _ hi (zcw _ hb4.1 rfl) (zcx _ hb4.1 (by omega))) (λD hD=>(World.putObj_heap_other (hmk D hD).2).trans (hb4.2 D hD))⟩
  ·exact⟨some c,_,run_endLoop hb4.1 (by simp),hstop c k _ (hIx _ _ _ _ hi (zcw _ hb4.1 rfl) (zcx _ hb4.1 (by omega))) (λD hD=>(World.putObj_heap_other (hmk D hD).2).trans (hb4.2 D hD))⟩
theorem zi2 (hro:F.round=none) (h1:1<=n) (hg:a.eval g=.func (.func gf) #[] lb) (hFg:F.fn gf) (eg:∀args w,(callFunc gf args).run P w=.ok (.enter gf args) w)
 (hseq:IterC F (n-1) P gf lb Rd R len) (hps:∀k args,R k args->args.size=ps.size)
 {B:Nat} (hB:B<=w.heap.size) (I:Nat->zA->Prop) (Ix:Code->Nat->zA->Prop) (hI:∀k W W',I k W->CellsKept W W'->zB B W W'->I k W') (hIx:∀c k W W',Ix c k W->CellsKept W W'->zB B W W'->Ix c k W')
 (hRd:∀k W,I k W->Rd W) (h0:I 0 w)
 (Ax:Nat->Array Value->Act->zA->Prop) (hAx:∀k args a' W W',Ax k args a' W->CellsKept W W'->zB B W W'->Ax k args a' W')
 (hassign:∀(l k:Nat) (args:Array Value) (W:zA) (K:Act->zA->Prop),w.heap.size<=l->(∃r,W.heap[l]? =some (.loop r))->I k W->k<len->R k args->
   (∀a' W',KeepsFrom w.heap.size W W'->I k W'->Ax k args a' W'->K a' W')->
   assign.wpIn (F.inRound l) (n-1-1) P (Exit.then K (λ_ _ _=>False)) {tmps:=(ps.zip args).foldl (λt (p,v)=>t.setIfInBounds p v) a.tmps,defers:=[]} W)
 (hbody:∀(l k:Nat) (args:Array Value) (a':Act) (W:zA),w.heap.size<=l->(∃r,W.heap[l]? =some (.loop r))->I k W->k<len->R k args->Ax k args a' W->body.wpIn (F.inRound l) (n-1-1) P (zja w.heap.size I Ix k W) a' W)
 (hdone:∀(D:Nat) (W:zA),w.heap.size<=D->I len W->W.heap[D]? =some (.deferred (some []))->Q .normal {a with defers:={target:=.collected D,args:= #[]}::a.defers} W)
 (hstop:∀(D:Nat) (c:Code) (k:Nat) (W:zA),w.heap.size<=D->Ix c k W->W.heap[D]? =some (.deferred (some []))->c.wpIn F n P Q {a with defers:={target:=.collected D,args:= #[]}::a.defers} W):
 (Code.rangeFunc g ps assign body).wpIn F n P Q a w:=by
 have hst:∀o,qL w ((w.alloc (.deferred (some []))).alloc o):=λo=>((zM _ w).alloc (zN _) _).alloc (by simp) _
 refine zlw h1 hg hFg eg hseq hps hB I Ix hI hIx hRd h0 Ax hAx (w.heap.size+1) [{target:=.collected w.heap.size,args:= #[]}] (some w.heap.size) (λfn=>(w.alloc (.deferred (some []))).alloc (.loop {state:=.ready,pending:=none,fn,tmps:=a.tmps,params:=ps,assign,body,defers:=w.heap.size})) w.heap.size
  (λfn=>by rw[hro];exact run_enterLoop_outer _ _ _ _ _) (λfn=>?_) (by omega) (λD hD=>by cases hD;omega) (λfn D hD=>?_) (λfn=>hst _) (λfn=>zac (hst _)) hassign hbody (λW hi hm=>hdone _ W (zN _) hi (hm _ rfl)) (λc k W hi hm=>hstop _ c k W (zN _) hi (hm _ rfl))
 ·have:=zG (w.alloc (.deferred (some []))) (.loop {state:=.ready,pending:=none,fn,tmps:=a.tmps,params:=ps,assign,body,defers:=w.heap.size});rwa [zH] at this
 ·cases hD;exact(Below.heap_alloc _ _ _ (by simp)).trans (zG w _)
end
end
section
open Go.RowKit Go.Shelf Lib Str Limb
attribute [local go_sem] Oper.semAt_some
def psum (q:Nat->Rat):Nat->Rat
 |0=>0
 |k+1=>psum q k+q k
def RowNums (p:Option Addr) (n:Nat) (q:Nat->Rat) (W:zA):Prop:=∀i,i<n->∃b off,p=some ⟨b,off,none⟩/\W.cell? ⟨b,off+i,none⟩=some (St (numS (q i)))
theorem RowNums.keep {p:Option Addr} {n:Nat} {q:Nat->Rat} {W W':zA} (h:RowNums p n q W) (hc:CellsKept W W'):RowNums p n q W':=λi hi=>let ⟨b,off,e,h1⟩:=h i hi;⟨b,off,e,hc.cell h1⟩
theorem zo6 (v:Value) (w:zA) (p:Option Addr) (n cap:Nat) (hv:v=.slice p n cap):
 Calls zF 28 #[v] w λe w'=>e=.returned (.func (.func 72) #[] #[.pointer (some ⟨w.heap.size,0,none⟩)])/\w.alloc (.cells #[v] 33)=w':=by
 subst hv
 go_enter Tryz.func28,Tryz.ntmps28
 go_wp2
 go_ret
 exact⟨rfl,rfl⟩
theorem zqg (m:Nat) (hm:1<=m) (Bs:Nat) (n:Nat) (q:Nat->Rat) (hlen:n<=5000) (Rd:zA->Prop) (p:Option Addr) (cap:Nat)
 (A:Hid (∀k,k<n->qK 45 #[St (numS (psum q k)),St (numS (q k))] (.tuple #[St (numS (psum q (k+1))),.int .i64 0])))
 (hRd:∀W,Rd W->W.cell? ⟨Bs,0,none⟩=some (.slice p n cap)/\RowNums p n q W/\Wd W):
 IterC Fence.wide m zF 72 #[.pointer (some ⟨Bs,0,none⟩)] Rd (λk args=>args= #[St (numS (psum q (k+1))),.int .i64 0]) n:=by
 intro lp J Jx W hJr hJb hY h0
 refine callsIn_of_wp Tryz.func72 rfl trivial ?_ rfl
 simp only[Tryz.ntmps72,List.size_toArray,yA,List.length_nil,Nat.reduceAdd,Nat.reduceSub,Array.replicate_succ,Array.replicate_zero,List.push_toArray,List.append_toArray,List.nil_append,List.cons_append]
 obtain⟨hb,_,_⟩:=hRd W (hJr 0 W h0)
 have HRd:=hid λk W h=>hRd W (hJr k W h);clear hRd hJr
 have HY:=hid hY;clear hY
 have HJB:=hid hJb;clear hJb
 gi_wp2
 gi_loopw [3,9] (λs i wr=>∃(k:Nat),k<=n/\s=St (numS (psum q k))/\i=.int .i64 (k:Int)/\Hid (J k wr))
  (λ_ i _=>n-(zL i).toNat)
 case atStart=>exact⟨0,zR _,by rw[show psum q 0=0 from rfl,zie],rfl,h0⟩
 case round=>
  clear hb
  obtain⟨k,hk,rfl,rfl,hJ⟩:=hrel
  by_cases hlt:k<n
  ·obtain⟨hb,hc,hwd⟩:=HRd.out k wr hJ.out
   obtain⟨b,off,rfl,c0⟩:=hc k hlt
   have HA:=hid (A.out k hlt wr hwd)
   have HY1:=hid λW h=>HY.out k #[St (numS (psum q (k+1))),.int .i64 0] W h hlt rfl
   clear hc hwd HY HRd A
   generalize numS (psum q k)=x at*
   generalize numS (q k)=y at*
   obtain⟨z,hz⟩:∃z,z=numS (psum q (k+1)):=⟨_,rfl⟩
   rw[<-hz] at HA HY1
   have HZ:=hid hz;clear hz
   gi_wp2
   refine⟨trivial,(callsIn_wide.2 HA.out).mono ?_⟩
   rintro e W2 ⟨rfl,hb2⟩
   obtain⟨fn,tmps,assign,body,hy,hR⟩:=HY1.out W2 (HJB.out k wr W2 hJ.out hb2)
   clear hb2 HA HY1
   gi_wp2
   refine hR.mono ?_
   rintro e W3 (⟨rfl,hJ3⟩|⟨rfl,hJx3⟩)
   ·have HJ3:=hid hJ3;clear hJ3
    gi_wp2
    go_roundw
    case rel=>exact⟨k+1,by omega,by rw[HZ.out],by go_num,HJ3.out⟩
    case measure=>simp[zL];omega
   ·have HJx3:=hid hJx3;clear hJx3
    gi_wp2
    refine bodyPost_ret (results_none rfl _ _ _) rfl ?_
    exact⟨⟨_,rfl⟩,.inr HJx3.out⟩
  ·obtain rfl:k=n:=by omega
   gi_wp2
   go_end0
   exact⟨⟨_,rfl⟩,.inl hJ.out⟩
structure SumS (w:zA) (p:Option Addr) (n:Nat) (q:Nat->Rat) (W:zA):Prop where
 bel:qL w W
 r1:W.cell? ⟨w.heap.size,0,none⟩=some (St [])
 f1:W.frozen? ⟨w.heap.size,0,none⟩=false
 r2:W.cell? ⟨w.heap.size+1,0,none⟩=some (.int .i64 0)
 f2:W.frozen? ⟨w.heap.size+1,0,none⟩=false
 nums:∀i,i<n->∃b off,p=some ⟨b,off,none⟩/\b<w.heap.size/\W.cell? ⟨b,off+i,none⟩=some (St (numS (q i)))
theorem SumS.keep {w:zA} {p:Option Addr} {n:Nat} {q:Nat->Rat} {W W':zA} (h:SumS w p n q W) (hc:CellsKept W W') (hb:zB w.heap.size W W'):SumS w p n q W':=
 ⟨h.bel.trans hb,hc.cell h.r1,hc.frozen h.r1 h.f1,hc.cell h.r2,hc.frozen h.r2 h.f2,λi hi=>let ⟨b,off,e,h0,h1⟩:=h.nums i hi;⟨b,off,e,h0,hc.cell h1⟩⟩
theorem SumS.row {w:zA} {p:Option Addr} {n:Nat} {q:Nat->Rat} {W:zA} (h:SumS w p n q W):RowNums p n q W:=λi hi=>let ⟨b,off,e,_,h1⟩:=h.nums i hi;⟨b,off,e,h1⟩
theorem SumS.put {w:zA} {p:Option Addr} {n:Nat} {q:Nat->Rat} {W:zA} (h:SumS w p n q W) {b0:Nat} (hb:w.heap.size+1<b0) (v:Value):SumS w p n q (W.setCell ⟨b0,0,none⟩ v):=
 ⟨h.bel.setCell (by simp;omega) _,by rw[zau _ _ _ _ (by omega)];exact h.r1,by rw[World.frozen?_setCell];exact h.f1,by rw[zau _ _ _ _ (by omega)];exact h.r2,by rw[World.frozen?_setCell];exact h.f2,
  λi hi=>let ⟨b,off,e,h0,h1⟩:=h.nums i hi;⟨b,off,e,h0,by rw[zau _ _ _ _ (by omega)];exact h1⟩⟩
theorem zo7 (p:Option Addr) (cap n:Nat) (q:Nat->Rat) (hlen:n<=4096)
 (C:Hid (∀k,k<n->qK 27 #[St (numS (q k))] (.int .i64 0)))
 (A:Hid (∀k,k<n->qK 45 #[St (numS (psum q k)),St (numS (q k))] (.tuple #[St (numS (psum q (k+1))),.int .i64 0])))
 (w:zA) (HW:Hid (Wd w)) (HP:Hid (RowNums p n q w)):
 qJ 8 #[.slice p n cap] w (.tuple #[St (numS (psum q n)),.int .i64 0]):=by
 refine(callsIn_wide (n:=3)).1 ?_
 refine callsIn_of_wp_marks Tryz.func8 rfl trivial ?_ rfl
 simp only[Tryz.ntmps8,List.size_toArray,yA,List.length_nil,Nat.reduceAdd,Nat.reduceSub,Array.replicate_succ,Array.replicate_zero,List.push_toArray,List.append_toArray,List.nil_append,List.cons_append]
 have hS0:SumS w p n q ((w.alloc (.cells #[St []] 22)).alloc (.cells #[.int .i64 0] 29)):=by
  have b1:=Boxed.new w 22 (St [])
  have b2:=Boxed.new (w.alloc (.cells #[St []] 22)) 29 (.int .i64 0)
  have b12:=b1.alloc (.cells #[.int .i64 0] 29)
  simp only[zH] at b2
  have hbel:qL w ((w.alloc (.cells #[St []] 22)).alloc (.cells #[.int .i64 0] 29)):=((zM _ w).alloc (zN _) _).alloc (by simp) _
  exact⟨hbel,b12.cell,b12.frozen,b2.cell,b2.frozen,λi hi=>let ⟨b,off,e,h1⟩:=HP.out i hi;⟨b,off,e,zbe h1,(zac hbel).cell h1⟩⟩
 have HS0:=hid hS0;clear hS0 HP
 have hn1:decide ((4096:Int)<(n:Int))=false:=decide_eq_false (by omega)
 gi_wp2
 gi_loopw [15] (λi wr=>∃(k:Nat),k<=n/\i=.int .i64 (k:Int)/\Hid (SumS w p n q wr))
  (λi _=>n-(zL i).toNat)
 case atStart=>exact⟨0,zR _,rfl,HS0.out⟩
 case round=>
  clear hn1
  obtain⟨k,hk,rfl,hS⟩:=hrel
  by_cases hlt:k<n
  ·obtain⟨b,off,rfl,_,c0⟩:=hS.out.nums k hlt
   have HC:=hid (C.out k hlt wr (HW.out.below hS.out.bel))
   generalize numS (q k)=x at c0 HC
   gi_wp2
   refine⟨trivial,(callsIn_wide.2 HC.out).mono ?_⟩
   rintro e W2 ⟨rfl,hb2⟩
   have hS2:=hid (hS.out.keep (zac hb2) (hb2.mono hS.out.bel.size))
   clear hb2 HC hS HS0
   gi_wp2
   go_roundw
   case rel=>exact⟨k+1,by omega,by go_num,hS2⟩
   case measure=>simp[zL];omega
  ·obtain rfl:k=n:=by omega
   clear HS0
   gi_wp2_with (refine⟨trivial,?_⟩;gi_at_call 28;refine(callsIn_wide.2 (zo6 _ _ _ _ _ rfl)).mono ?_;rintro e w' ⟨rfl,rfl⟩)
   obtain⟨W1,hW1⟩:∃W1,W1=(wr.alloc (.cells #[.string ⟨#[48]⟩] 22)).alloc (.cells #[.slice p k cap] 33):=⟨_,rfl⟩
   have hb1:qL wr W1:=by rw[hW1];exact((zM _ wr).alloc (zN _) _).alloc (by simp) _
   have hcb:W1.cell? ⟨wr.heap.size+1,0,none⟩=some (.slice p k cap):=by
    have:=(Boxed.new (wr.alloc (.cells #[.string ⟨#[48]⟩] 22)) 33 (.slice p k cap)).cell
    rw[zH] at this;rw[hW1];exact this
   have hob:=(Boxed.new wr 22 (.string ⟨#[48]⟩)).alloc (.cells #[.slice p k cap] 33)
   rw[<-hW1] at hob
   have ho1:=hob.cell;have ho2:=hob.frozen
   have hS1:=hS.out.keep (zac hb1) (hb1.mono hS.out.bel.size)
   have hwz:w.heap.size+1<wr.heap.size:=zbe hS.out.r2
   rw[<-hW1]
   clear hW1 hS hob
   have HS1:=hid hS1.bel.size
   have hseq:=zqg 2 (by omega) (wr.heap.size+1) k q (by omega) (λW=>SumS w p k q W/\W.cell? ⟨wr.heap.size+1,0,none⟩=some (.slice p k cap)) p cap A (λW h=>⟨h.2,h.1.row,HW.out.below h.1.bel⟩)
   refine zi2 (n:=3) (B:=w.heap.size) rfl (by omega) rfl trivial (enters_of Tryz.func72 (by kernel_rfl) rfl) hseq (λk args h=>by subst h;rfl) hS1.bel.size
    (λj W=>SumS w p k q W/\W.cell? ⟨wr.heap.size+1,0,none⟩=some (.slice p k cap)/\W.cell? ⟨wr.heap.size,0,none⟩=some (St (numS (psum q j)))/\W.frozen? ⟨wr.heap.size,0,none⟩=false)
    (λc _ W=>False)
    (λj X Y h hc hb=>⟨h.1.keep hc hb,hc.cell h.2.1,hc.cell h.2.2.1,hc.frozen h.2.2.1 h.2.2.2⟩) (λc j X Y h hc hb=>h) (λj W h=>⟨h.1,h.2.1⟩) ⟨hS1,hcb,by rw[show psum q 0=0 from rfl,zie];exact ho1,ho2⟩
    (λj _ a' W=>a'={tmps:= #[Value.slice p k cap,undef,Value.pointer (some {block:=w.heap.size,off:=0}),Value.pointer (some {block:=w.heap.size+1,off:=0}),undef,u5,u6,Value.pointer (some {block:=wr.heap.size,off:=0}),St (numS (psum q (j+1))),.int .i64 0,Value.slice p k cap,Value.int IntKind.i64 ↑k,Value.bool false,Value.slice p k cap,Value.int IntKind.i64 ↑k,Value.int IntKind.i64 ↑k,Value.bool false,u17,u18,u19,u20,u21,u22,u23,u24,Value.slice p k cap,Value.func (Fn.func 72) #[] #[Value.pointer (some {block:=wr.heap.size+1,off:=0})],St (numS (psum q (j+1))),.int .i64 0,undef,undef,undef,undef,undef],defers:=[]})
    (λj _ a' X Y h hc hb=>h) ?assign ?body ?done ?stop
   case assign=>
    rintro lp j args W K hlp hrec hI hj rfl hK
    have HK:=hid hK;clear hK
    gi_wp2
    exact HK.out _ _ (KeepsFrom.refl _ _) hI rfl
   case body=>
    rintro lp j args a' W hlp ⟨r,hr⟩ ⟨hS,hcb,ho1,ho2⟩ hj rfl rfl
    have H0:=hid (⟨hS,hcb,ho1,ho2⟩:SumS w p k q W/\W.cell? ⟨wr.heap.size+1,0,none⟩=some (.slice p k cap)/\W.cell? ⟨wr.heap.size,0,none⟩=some (St (numS (psum q j)))/\W.frozen? ⟨wr.heap.size,0,none⟩=false)
    clear hS hcb hseq hS1 hr
    gi_wp2
    obtain⟨hS,hcb,ho1,ho2⟩:=H0.out
    refine⟨(KeepsOthers.setCell _ _ _).from _,hS.put hwz _,by rw[zau _ _ _ _ (by omega)];exact hcb,za9 ho1,by rw[World.frozen?_setCell];exact ho2⟩
   case done=>
    rintro D W hD ⟨hS,hcb,ho1,ho2⟩ hK
    have hr1:=hS.r1;have hf1:=hS.f1;have hr2:=hS.r2;have hf2:=hS.f2
    have HX:=hid (⟨hS.bel,hK⟩:qL w W/\W.heap[D]? =some (.deferred (some [])));clear hS hcb hseq hS1 hK
    gi_wp2
    obtain⟨hbel,hK⟩:=HX.out
    have hK1:=(KeepsOthers.setCell W ⟨w.heap.size,0,none⟩ (St (numS (psum q k)))).same D _ hK rfl
    have hK':=(KeepsOthers.setCell (W.setCell ⟨w.heap.size,0,none⟩ (St (numS (psum q k)))) ⟨w.heap.size+1,0,none⟩ (.int .i64 0)).same D _ hK1 rfl
    refine⟨by simp,.inl ⟨_,_,rfl,run_takeDeferred hK',?_⟩⟩
    have c1:=za9 (u:=St (numS (psum q k))) hr1
    have c2:(W.setCell ⟨w.heap.size,0,none⟩ (St (numS (psum q k)))).cell? ⟨w.heap.size+1,0,none⟩=some (.int .i64 0):=by rw[zau _ _ _ _ (by omega)];exact hr2
    have c3:=za9 (u:=.int .i64 0) c2
    have c4:((W.setCell ⟨w.heap.size,0,none⟩ (St (numS (psum q k)))).setCell ⟨w.heap.size+1,0,none⟩ (.int .i64 0)).cell? ⟨w.heap.size,0,none⟩=some (St (numS (psum q k))):=by rw[zau _ _ _ _ (by omega)];exact c1
    have e1:=(zbk hK').cell c4
    have e2:=(zbk hK').cell c3
    refine⟨.tuple #[St (numS (psum q k)),.int .i64 0],?_,⟨rfl,zby ((hbel.setCell (p:=⟨w.heap.size,0,none⟩) (by simp) _).setCell (p:=⟨w.heap.size+1,0,none⟩) (by simp) _) (by have:=HS1.out;omega) hK'⟩⟩
    simp[results,Tryz.f8,go_sem,e1,e2]
   case stop=>
    rintro D c j W hD h hK
    exact h.elim
theorem zsg (p:Option Addr) (cap n:Nat) (q:Nat->Rat) (hlen:n<=4096) (hs:∀k,k<n->∃i j,0<i/\0<j/\i+j<300/\sz (psum q k) i/\sz (q k) j) (w:zA) (hw:Wd w) (hp:RowNums p n q w):
 qJ 8 #[.slice p n cap] w (.tuple #[St (numS (psum q n)),.int .i64 0]):=
 zo7 p cap n q hlen
  (hid λk hk W hW=>let ⟨i,j,hi,hj,hij,_,h2⟩:=hs k hk;zfj (q k) (zd0 hj (by omega) h2) W hW)
  (hid λk hk W hW=>let ⟨i,j,hi,hj,hij,h1,h2⟩:=hs k hk;zje (psum q k) (q k) i j hi hj hij h1 h2 W hW) w (hid hw) (hid hp)
theorem zma (q:Rat) (h:0<=q.num) (w:zA):
 Calls zF 176 #[St (numS q)] w λe w'=>e=.returned (.bool false)/\w'=w:=by
 have hp:Lib.hasPrefix (numS q) [45]=false:=by
  obtain⟨c,r,e,hc,_⟩:=dec_head q.num.natAbs
  have e1:itoa q.num=zD q.num.natAbs:=by
   rcases zbg q.num with⟨_,e⟩|⟨h',_⟩
   ·exact e
   ·omega
  have hc5:c≠45:=λh=>by subst h;simp at hc
  unfold numS
  rw[e1,e]
  simp[Lib.hasPrefix,List.isPrefixOf,Ne.symm hc5]
 have hc:=Tryz.strings_HasPrefix ⟨(numS q).toArray⟩ ⟨#[45]⟩ w
 rw[show(⟨(numS q).toArray⟩:ByteArray).data.toList=numS q from rfl,show(⟨#[45]⟩:ByteArray).data.toList=[45] from rfl,hp] at hc
 show Calls _ _ #[.string ⟨(numS q).toArray⟩] _ _
 generalize (⟨(numS q).toArray⟩:ByteArray)=u at*
 have HC:=hid hc;clear hc hp
 go_enter Tryz.func176,Tryz.ntmps176
 go_wp2_with fail
 refine HC.out.mono ?_
 rintro e w' ⟨rfl,rfl⟩
 go_wp2_with fail
 go_ret
 exact⟨rfl,rfl⟩
theorem zk7 (n:Nat) (hl:(zD n).length<=17) (w:zA) (_:Wd w):
 qJ 170 #[St (zD n)] w (.tuple #[I n,.bool true]):=by
 have hc:=znc (n:Int) (by rw[Str.zad];omega) w
 rw[Str.zad] at hc
 have hsz:¬(17:Int)<(⟨(zD n).toArray⟩:ByteArray).size:=by
  have:(⟨(zD n).toArray⟩:ByteArray).size=(zD n).length:=by show(zD n).toArray.size=_;simp
  omega
 show Calls _ _ #[.string ⟨(zD n).toArray⟩] _ _
 generalize (⟨(zD n).toArray⟩:ByteArray)=u at*
 have HC:=hid hc;clear hc hl
 go_enter Tryz.func170,Tryz.ntmps170
 go_wp2_with fail
 refine HC.out.mono ?_
 rintro e w1 ⟨rfl,hb⟩
 go_wp2_with fail
 (refine wp_region_quiet_lit (by kernel_rfl) (by kernel_rfl) (WQ.out ?_);(repeat(first|(apply WQ.read (by rfl);(focus(rintro W ⟨n,rfl⟩;go_simp;try with_reducible rfl));try simp only[zzQ])|(apply WQ.skip (by rfl);try simp only[zzQ])));refine WQ.nil ?_;rintro _ ⟨nq,rfl⟩)
 go_wp2_with fail
 go_ret2
 exact⟨rfl,zao hb nq⟩
structure PairS (w:zA) (u v:List UInt8) (pb:Nat) (W:zA):Prop where
 bel:qL w W
 lt:pb<W.heap.size
 hp:W.heap[pb]? =some (.cells #[St u,St v] 200 (0,0))
theorem PairS.next {w:zA} {u v:List UInt8} {pb:Nat} {W W':zA} (h:PairS w u v pb W) (hb:qL W W'):PairS w u v pb W':=
 ⟨h.bel.trans (hb.mono h.bel.size),Nat.lt_of_lt_of_le h.lt hb.size,(hb.block _ h.lt).trans h.hp⟩
theorem PairS.c0 {w:zA} {u v:List UInt8} {pb:Nat} {W:zA} (h:PairS w u v pb W):W.cell? ⟨pb,0,none⟩=some (St u):=by rw[zJ h.hp];rfl
theorem PairS.c1 {w:zA} {u v:List UInt8} {pb:Nat} {W:zA} (h:PairS w u v pb W):W.cell? ⟨pb,1,none⟩=some (St v):=by rw[zJ h.hp];rfl
theorem zji (p1 p2:Option Addr) (cap1 cap2 n1 n2:Nat) (q1 q2:Nat->Rat) (h1:n1<=100) (h2:n2<=100)
 (C:Hid (∀k,k<n1->qK 27 #[St (numS (q1 k))] (.int .i64 0)))
 (O:Hid (∀k,k<n1->qK 136 #[St (numS (q1 k))] (.agg #[St (itoa (q1 k).num),St (zD (q1 k).den)])))
 (Z:Hid (∀k,k<n1->digs (q1 k).num<=90/\(zD (q1 k).den).length<=90))
 (N:Hid (∀k,k<n2->∀W:zA,Calls zF 176 #[St (numS (q2 k))] W λe w'=>e=.returned (.bool false)/\w'=W))
 (w:zA) (HW:Hid (Wd w)) (HP1:Hid (RowNums p1 n1 q1 w)) (HP2:Hid (RowNums p2 n2 q2 w)):
 qJ 134 #[.slice p1 n1 cap1,.slice p2 n2 cap2] w (.int .i64 0):=by
 go_enter Tryz.func134,Tryz.ntmps134
 go_wp2_with fail
 go_loopw [13] (λi wr=>∃(k:Nat),k<=n1/\i=.int .i64 (k:Int)/\Hid (qL w wr))
  (λi _=>n1-(zL i).toNat)
 case atStart=>exact⟨0,zR _,rfl,zM _ _⟩
 case round=>
  obtain⟨k,hk,rfl,hB⟩:=hrel
  by_cases hlt:k<n1
  ·obtain⟨b,off,rfl,c0⟩:=(HP1.out.keep (zac (hB.out.mono (zN _)))) k hlt
   have HC:=hid (C.out k hlt);have HO:=hid (O.out k hlt)
   obtain⟨z1,z2⟩:=Z.out k hlt
   obtain⟨t,ht⟩:∃t:ByteArray,t=⟨(trimPrefix (⟨(itoa (q1 k).num).toArray⟩:ByteArray).data.toList (⟨#[45]⟩:ByteArray).data.toList).toArray⟩:=⟨_,rfl⟩
   have hts:t.size<=90:=by
    rw[ht];show(trimPrefix (itoa (q1 k).num) [45]).toArray.size<=90
    rw[zbi];simpa [digs] using z1
   have hvs:(⟨(zD (q1 k).den).toArray⟩:ByteArray).size<=90:=by show(zD (q1 k).den).toArray.size<=90;simpa using z2
   have hmx:max (t.size:Int) ((zD (q1 k).den).length:Int)<=90:=by omega
   have HT0:=hid ht
   clear ht z1 z2
   generalize numS (q1 k)=x at*
   generalize itoa (q1 k).num=u at*
   generalize zD (q1 k).den=v at*
   have HT:Hid (Value.string ⟨(trimPrefix (⟨u.toArray⟩:ByteArray).data.toList (⟨#[45]⟩:ByteArray).data.toList).toArray⟩=.string t):=hid (by rw[HT0.out])
   clear HT0
   go_wp2_with fail
   refine(HC.out wr (HW.out.below hB.out)).mono ?_
   rintro e w2 ⟨rfl,hb2⟩
   have hB2:=hid (hB.out.trans (hb2.mono hB.out.size));clear hb2
   go_wp2_with fail
   refine(HO.out w2 (HW.out.below hB2.out)).mono ?_
   rintro e w3 ⟨rfl,hb3⟩
   have hB3:=hid (hB2.out.trans (hb3.mono hB2.out.size));clear hb3 hB2 hB
   go_wp2_with fail
   obtain⟨w4,hw4⟩:∃w4,w4=w3.alloc (.cells #[St u,St v] 200):=⟨_,rfl⟩
   rw[<-hw4]
   obtain⟨pb,hpb⟩:∃pb,pb=w3.heap.size:=⟨_,rfl⟩
   have HP5:Hid (PairS w u v pb w4):=by
    have ha:qL w3 w4:=by rw[hw4];exact(zM _ w3).alloc (zN _) _
    exact hid ⟨hB3.out.trans (ha.mono hB3.out.size),by rw[hw4,hpb];simp,by rw[hw4,hpb];exact zG w3 _⟩
   rw[<-hpb]
   clear hw4 hB3 hpb
   refine zbl (λ_ W=>PairS w u v pb W) (by kernel_rfl) (by kernel_rfl) (by have h:=HP5.out;exact h.next (zM _ _).drew) ?_
   refine qR (.pointer (some ⟨pb,0,none⟩)) ?_
   simp only[zzQ]
   refine qR (St u) ?_ (hy:=λf W' hf h=>by have h0:=h.c0;go_simp)
   simp only[zzQ]
   refine zar (.string t) (by rfl) (λf W' hf h C' hC'=>by
    go_simp
    refine(Tryz.strings_TrimPrefix _ _ _).mono ?_
    rintro e w' ⟨rfl,hw1⟩
    have hw2:=hw1.symm;subst hw2
    refine⟨?_,hC' _ h⟩
    rw[HT.out]) ?_
   try simp only[zzQ]
   refine qR (.int .i64 t.size) ?_
   simp only[zzQ]
   refine qR (.pointer (some ⟨pb,1,none⟩)) ?_
   simp only[zzQ]
   refine qR (St v) ?_ (hy:=λf W' hf h=>by have h0:=h.c1;go_simp)
   simp only[zzQ]
   refine qR (.int .i64 (⟨v.toArray⟩:ByteArray).size) ?_
   simp only[zzQ]
   refine qR (.int .i64 (max (t.size:Int) ((⟨v.toArray⟩:ByteArray).size:Int))) ?_
   simp only[zzQ]
   refine qR (.bool false) ?_
   simp only[zzQ]
   refine zck λf W4 hf h=>?_
   have hB4:=hid h.bel
   clear h hf f HP5
   go_wp2_with fail
   go_roundw
   case rel=>exact⟨k+1,by omega,by go_num,hB4⟩
   case measure=>simp[zL];omega
  ·clear hk
   go_wp2_with fail
   clear HP1 C O Z
   go_loopw [36] (λi wr=>∃(k:Nat),k<=n2/\i=.int .i64 (k:Int)/\Hid (qL w wr))
    (λi _=>n2-(zL i).toNat)
   case atStart=>exact⟨0,zR _,rfl,hB⟩
   case round=>
    clear hB
    obtain⟨j,hj,rfl,hB⟩:=hrel
    by_cases hlt2:j<n2
    ·obtain⟨b,off,rfl,c0⟩:=(HP2.out.keep (zac (hB.out.mono (zN _)))) j hlt2
     have HN:=hid (N.out j hlt2)
     generalize numS (q2 j)=x at*
     go_wp2_with fail
     refine(HN.out _).mono ?_
     rintro e w2 ⟨rfl,hw1⟩
     have hw2:=hw1.symm;subst hw2;clear hw1
     go_wp2_with fail
     go_roundw
     case rel=>exact⟨j+1,by omega,by go_num,hB⟩
     case measure=>simp[zL];omega
    ·go_wp2_with fail
     go_ret
     exact⟨rfl,hB.out⟩
def prL:List Nat:=[2,3,5,7,11,13,17,19,23,29,31,37,41,43,47,53,59,61,67,71,73,79,83,89,97]
def prN (i:Nat):Nat:=prL.getD i 0
def prS (i:Nat):List UInt8:=([[50],[51],[53],[55],[49,49],[49,51],[49,55],[49,57],[50,51],[50,57],[51,49],[51,55],[52,49],[52,51],[52,55],[53,51],[53,57],[54,49],[54,55],[55,49],[55,51],[55,57],[56,51],[56,57],[57,55]]:List (List UInt8)).getD i []
def prV:Array Value:= #[.string ⟨#[50]⟩,.string ⟨#[51]⟩,.string ⟨#[53]⟩,.string ⟨#[55]⟩,.string ⟨#[49,49]⟩,.string ⟨#[49,51]⟩,.string ⟨#[49,55]⟩,.string ⟨#[49,57]⟩,.string ⟨#[50,51]⟩,.string ⟨#[50,57]⟩,.string ⟨#[51,49]⟩,.string ⟨#[51,55]⟩,.string ⟨#[52,49]⟩,.string ⟨#[52,51]⟩,.string ⟨#[52,55]⟩,.string ⟨#[53,51]⟩,.string ⟨#[53,57]⟩,.string ⟨#[54,49]⟩,.string ⟨#[54,55]⟩,.string ⟨#[55,49]⟩,.string ⟨#[55,51]⟩,.string ⟨#[55,57]⟩,.string ⟨#[56,51]⟩,.string ⟨#[56,57]⟩,.string ⟨#[57,55]⟩]
theorem z1r:∀i,i<25->prS i=zD (prN i)
 |0,_=>by show[50]=zD 2;rw[zae (by omega)];rfl
 |1,_=>by show[51]=zD 3;rw[zae (by omega)];rfl
 |2,_=>by show[53]=zD 5;rw[zae (by omega)];rfl
 |3,_=>by show[55]=zD 7;rw[zae (by omega)];rfl
 |4,_=>by show[49,49]=zD 11;rw[zav (by omega),zae (by omega)];rfl
 |5,_=>by show[49,51]=zD 13;rw[zav (by omega),zae (by omega)];rfl
 |6,_=>by show[49,55]=zD 17;rw[zav (by omega),zae (by omega)];rfl
 |7,_=>by show[49,57]=zD 19;rw[zav (by omega),zae (by omega)];rfl
 |8,_=>by show[50,51]=zD 23;rw[zav (by omega),zae (by omega)];rfl
 |9,_=>by show[50,57]=zD 29;rw[zav (by omega),zae (by omega)];rfl
 |10,_=>by show[51,49]=zD 31;rw[zav (by omega),zae (by omega)];rfl
 |11,_=>by show[51,55]=zD 37;rw[zav (by omega),zae (by omega)];rfl
 |12,_=>by show[52,49]=zD 41;rw[zav (by omega),zae (by omega)];rfl
 |13,_=>by show[52,51]=zD 43;rw[zav (by omega),zae (by omega)];rfl
 |14,_=>by show[52,55]=zD 47;rw[zav (by omega),zae (by omega)];rfl
 |15,_=>by show[53,51]=zD 53;rw[zav (by omega),zae (by omega)];rfl
 |16,_=>by show[53,57]=zD 59;rw[zav (by omega),zae (by omega)];rfl
 |17,_=>by show[54,49]=zD 61;rw[zav (by omega),zae (by omega)];rfl
 |18,_=>by show[54,55]=zD 67;rw[zav (by omega),zae (by omega)];rfl
 |19,_=>by show[55,49]=zD 71;rw[zav (by omega),zae (by omega)];rfl
 |20,_=>by show[55,51]=zD 73;rw[zav (by omega),zae (by omega)];rfl
 |21,_=>by show[55,57]=zD 79;rw[zav (by omega),zae (by omega)];rfl
 |22,_=>by show[56,51]=zD 83;rw[zav (by omega),zae (by omega)];rfl
 |23,_=>by show[56,57]=zD 89;rw[zav (by omega),zae (by omega)];rfl
 |24,_=>by show[57,55]=zD 97;rw[zav (by omega),zae (by omega)];rfl
 |n+25,h=>absurd h (by omega)
theorem zw4:∀i,i<25->2<=prN i/\prN i<=97:=by decide
theorem z25 (i:Nat) (hi:i<25) (w:zA):(Instr.index 273 (.agg prV) (.int .i64 (i:Int))).run zF w=.ok (St (prS i)) w:=
 match i,hi with
 |0,_=>by kernel_rfl
 |1,_=>by kernel_rfl
 |2,_=>by kernel_rfl
 |3,_=>by kernel_rfl
 |4,_=>by kernel_rfl
 |5,_=>by kernel_rfl
 |6,_=>by kernel_rfl
 |7,_=>by kernel_rfl
 |8,_=>by kernel_rfl
 |9,_=>by kernel_rfl
 |10,_=>by kernel_rfl
 |11,_=>by kernel_rfl
 |12,_=>by kernel_rfl
 |13,_=>by kernel_rfl
 |14,_=>by kernel_rfl
 |15,_=>by kernel_rfl
 |16,_=>by kernel_rfl
 |17,_=>by kernel_rfl
 |18,_=>by kernel_rfl
 |19,_=>by kernel_rfl
 |20,_=>by kernel_rfl
 |21,_=>by kernel_rfl
 |22,_=>by kernel_rfl
 |23,_=>by kernel_rfl
 |24,_=>by kernel_rfl
 |n+25,h=>absurd h (by omega)
structure Pw (w:zA):Prop where
 prim:w.var? zF "kingpost/root.primes" =some prV
theorem Pw.below {w w':zA} (h:Pw w) (hb:qL w w'):Pw w':=by
 have hg:Tryz.prog.globalNamed "kingpost/root.primes" =some 1:=by kernel_rfl
 exact⟨var?_below hb hg (zv5 hg h.prim) h.prim⟩
theorem Pw.block {w:zA} (h:Pw w):∃t fz,w.heap[1]? =some (.cells prV t fz):=by
 have hg:Tryz.prog.globalNamed "kingpost/root.primes" =some 1:=by kernel_rfl
 have hv:=h.prim
 unfold World.var? at hv
 rw[hg] at hv
 simp only[Option.bind_some] at hv
 cases hb:w.heap[(1:Nat)]? with
 |none=>rw[hb] at hv;cases hv
 |some x=>
  rw[hb] at hv
  cases x with
  |cells cs t fz=>simp at hv;subst hv;exact⟨t,fz,rfl⟩
  |_=>cases hv
theorem z1s {c l p:Nat} (hp:p*p∣l):(c*p)*(c*p)*(l/(p*p))=c*c*l:=by
 obtain⟨k,rfl⟩:=hp
 by_cases h:p*p=0
 ·rw[h];simp
 ·rw[Nat.mul_div_cancel_left _ (by omega)]
  simp only[Nat.mul_left_comm,Nat.mul_comm]
end
section
open Go.RowKit Go.Shelf Lib Str Limb
open Go.ChangeShapes Go.WideShapes Go.ChangeAt
theorem zf9 {H:Type} {enc:TypeId×Value->H} {a:Assume} {C:Checked} {os:Os} {f:FuncId} {fn:Func} {s:ChangeSpec} {conds:List PathCond} {apart fresh handsOn again:Bool} {X:zA->Array Value->Prop}
 (hX:∀(w w':zA) (args:Array Value),w.heap=w'.heap->X w args->X w' args)
 (own:ownKnob C.prog.godebug=none) (started:os.Started) (noInit:C.prog.inits.idxOf? f=none) (hfn:C.prog.funcs[f]? =some fn)
 (witness:∃(w:zA) (tape:Tape) (i:Input),w.os=os/\(w.forCall tape i).Shaped C.prog/\i.vars=[]/\Input.okWide C.prog (w.forCall tape i) .any w.heap.size f i/\
   ((s.pre enc C.prog fn conds apart (w.forCall tape i).memory i.args/\X (w.forCall tape i).memory i.args)/\sizedMet enc C.prog fn (OpenSpec.ofChange s) apart (w.forCall tape i).memory i.args)/\a.holds C.prog (lone (Frame.enter C.prog f i.args .normal) [] (w.forCall tape i)))
 (contract:∀(W:zA) (args:Array Value) (ds gs:List (DataW H)) (before:List MemPlace) (base:Nat),
   (∀(j:Nat) t v,fn.params[j]? =some t->args[j]? =some v->Value.okWide C.prog W .any base t v)->
   DataW.Whole enc C.prog fn.params.toList s.vars apart W args.toList ds gs before->X W args->W.ShapedOpen C.prog->
   Calls C.prog f args W λe W'=>∃v,e=.returned v/\s.post enc C.prog fn apart fresh handsOn again W args v W'):
 ReturnsInHanded a C os f .any (λw args=>(s.pre enc C.prog fn conds apart w args/\X w args)/\sizedMet enc C.prog fn (OpenSpec.ofChange s) apart w args) (s.post enc C.prog fn apart fresh handsOn again):=by
 refine returnsInHanded_of_calls own started noInit witness ?_
 rintro w tape i _ hsh _ ⟨_,_,_,fn',hfn',_,_,_,_,hval⟩ ⟨⟨⟨ds,gs,before,hw,_⟩,hx⟩,_⟩ _
 obtain rfl:fn'=fn:=Option.some.inj (hfn'.symm.trans hfn)
 refine(contract (w.forCall tape i) i.args ds gs before w.heap.size hval (DataW.Whole.of_heap (w':=w.forCall tape i) (by rfl) hw) (hX _ _ _ (by rfl) hx) hsh).mono ?_
 rintro e W' ⟨v,rfl,hp⟩
 exact ChangeSpec.post_blind hp
theorem zp7 {H:Type} {enc:TypeId×Value->H} {P:Program} {w:zA} {base:Nat} {sp:Nat->Bool} {held:Bool} {fuel:Nat} {t e:TypeId} {n:Nat} {cs:List Value} {ss:List (List UInt8)} {p:List MemPlace}
 (ht:P.underlying t=some (.array n e)) (he:P.underlying e=some .string) (hce:P.cellsOf e=1) (hct:P.cellsOf t=n) (hsl:ss.length=n)
 (h:DataW.trod enc P w base sp held fuel t cs=some (.agg (ss.map λs=>.lit (.string s)),p)):cs=ss.map λs=>Value.string ⟨s.toArray⟩:=by
 have hcl:cs.length=n:=by
  cases fuel with
  |zero=>simp[DataW.trod] at h
  |succ fuel=>
   have h0:=h
   simp only[DataW.trod,ht,hce,hct,Nat.mul_one] at h0
   split at h0
   ·rename_i hl;exact hl
   ·cases h0
 apply List.ext_getElem?
 intro i
 by_cases hi:i<n
 ·obtain⟨fu,d,q,hd,htr⟩:=array_elem ht h i hi
  rw[hce] at htr
  obtain⟨s,hs,hx,_⟩:=DataW.trod_string he htr
  simp only[Prod.mk.injEq] at hx
  obtain⟨rfl,_⟩:=hx
  have h1:cs[i]? =some (.string s):=by
   have:=congrArg (·[0]?) hs
   simpa [List.getElem?_take,List.getElem?_drop] using this
  rw[List.getElem?_map,Option.map_eq_some_iff] at hd
  obtain⟨l,hl,e⟩:=hd
  simp only[DataW.lit.injEq,Lit.string.injEq] at e
  rw[h1,List.getElem?_map,hl,e]
  rfl
 ·rw[List.getElem?_eq_none (by omega),List.getElem?_eq_none (by simp;omega)]
theorem z0v {l:List (String×DataW Unit)} {W:zA} (hL:laidMet zF l W) (hm:("internal/strconv.uint64pow10",Rows.laid_internal_strconv_uint64pow10)∈l) (hs:W.ShapedOpen zF):Wd W:=by
 obtain⟨g,t,cs,fuel,p,hg,ht,hv,hd⟩:=Lib.laidMet.reads hL hm
 obtain rfl:g=4:=Option.some.inj (hg.symm.trans (by kernel_rfl))
 obtain rfl:t=288:=Option.some.inj (ht.symm.trans (by kernel_rfl))
 have e:(Rows.laid_internal_strconv_uint64pow10:DataW Unit)=Lib.tabData .u64 Lib.pow10Tab:=by kernel_rfl
 rw[e] at hd
 have hc:=Lib.cells_of_tab (n:=20) Tryz.underlying288 Tryz.underlying254 (by kernel_rfl) (by kernel_rfl) hd
 refine⟨?_,Proofs.cell_of_shapedOpen_int (t:=3) (zero:= #[.int .i64 0]) hs (of_decide_eq_true (by kernel_rfl)) (by kernel_rfl) rfl (by kernel_rfl) (by kernel_rfl) Tryz.underlying3⟩
 unfold Lib.TabIs
 rw[hv,<-hc]
theorem zzj:prV.toList=([[50],[51],[53],[55],[49,49],[49,51],[49,55],[49,57],[50,51],[50,57],[51,49],[51,55],[52,49],[52,51],[52,55],[53,51],[53,57],[54,49],[54,55],[55,49],[55,51],[55,57],[56,51],[56,57],[57,55]]:List (List UInt8)).map λs=>Value.string ⟨s.toArray⟩:=by kernel_rfl
theorem z0w {l:List (String×DataW Unit)} {W:zA} (hL:laidMet zF l W) (hm:("kingpost/root.primes",Rows.laid_kingpost_root_primes)∈l):Pw W:=by
 obtain⟨g,t,cs,fuel,p,hg,ht,hv,hd⟩:=Lib.laidMet.reads hL hm
 obtain rfl:g=1:=Option.some.inj (hg.symm.trans (by kernel_rfl))
 obtain rfl:t=273:=Option.some.inj (ht.symm.trans (by kernel_rfl))
 have e:(Rows.laid_kingpost_root_primes:DataW Unit)=.agg (([[50],[51],[53],[55],[49,49],[49,51],[49,55],[49,57],[50,51],[50,57],[51,49],[51,55],[52,49],[52,51],[52,55],[53,51],[53,57],[54,49],[54,55],[55,49],[55,51],[55,57],[56,51],[56,57],[57,55]]:List (List UInt8)).map λs=>.lit (.string s)):=by kernel_rfl
 rw[e] at hd
 have hc:=zp7 (n:=25) Tryz.underlying273 Tryz.underlying9 (by kernel_rfl) (by kernel_rfl) (by decide) hd
 obtain rfl:cs=prV:=Array.toList_inj.1 (hc.trans zzj.symm)
 exact⟨hv⟩
theorem zrj:ownKnob Tryz.prog.godebug=none:=by kernel_rfl
theorem zgh:laidOutB zF=true:=by kernel_rfl
theorem zlx {H:Type} {enc:TypeId×Value->H} {W:zA} {base:Nat} {sp:Nat->Bool} {held:Bool} {r:Reach} {b0:Nat} {v:Value} {d:DataW H} {ps:List MemPlace}
 (hval:Value.okWide zF W r b0 26 v) (hd:DataW.Trod enc zF W base sp held 26 v d ps):∃x y:List UInt8,v=.agg #[St x,St y]/\ps=[]:=by
 obtain⟨cs,rfl,hs⟩:=okWide_struct Tryz.underlying26 hval
 rw[show Tryz.prog.cellsOf 26=2 by kernel_rfl] at hs
 obtain⟨fuel,hf⟩:=hd
 obtain⟨y0,y1,n,hx,_,h0,h1⟩:=trod_struct2 Tryz.underlying26 hf
 obtain⟨s0,e0,rfl,_⟩:=DataW.trod_string Tryz.underlying22 h0
 obtain⟨s1,e1,rfl,_⟩:=DataW.trod_string Tryz.underlying22 h1
 simp only[Prod.mk.injEq,List.append_nil] at hx
 refine⟨s0.data.toList,s1.data.toList,?_,hx.2⟩
 rw[show Tryz.prog.cellsOf 22=1 by kernel_rfl] at e0 e1
 obtain⟨l⟩:=cs
 match l,hs with
 |[c0,c1],_=>
  have k0:c0=.string s0:=by simpa [Value.cells] using e0
  have k1:c1=.string s1:=by simpa [Value.cells] using e1
  subst k0;subst k1
  simp[St]
end
section
open Go.RowKit Go.Shelf Lib Str Limb
attribute [local go_sem] Oper.semAt_some
theorem zti (x u v s1 s2:ByteArray) (m d:Int) (hu:(u.toList==[48])=false) (hl:(u.size:Int)+v.size<=17) (hl0:u.size<=17/\v.size<=17)
 (CK:Hid (∀W:zA,Wd W->Calls zF 134 #[.slice (some ⟨W.heap.size,0,none⟩) 1 1,.slice (some ⟨W.heap.size+1,0,none⟩) 1 1] ((W.alloc (.cells #[.string x] 22)).alloc (.cells #[.string x] 22)) λe w'=>e=.returned (.int .i64 0)/\zB W.heap.size W w'))
 (O:Hid (qK 136 #[.string x] (.agg #[.string u,.string v])))
 (NU:Hid (qK 170 #[.string u] (.tuple #[.int .i64 m,.bool true])))
 (NV:Hid (qK 170 #[.string v] (.tuple #[.int .i64 d,.bool true])))
 (NN:Hid (∀W:zA,Wd W->Pw W->qJ 171 #[.int .i64 m,.int .i64 d] W (.tuple #[.string s1,.string s2])))
 (w:zA) (HW:Hid (Wd w)) (HP:Hid (Pw w)):
 qJ 132 #[.string x] w (.tuple #[.string s1,.string s2,.int .i64 0]):=by
 have hck:=CK.out w HW.out
 have HCK:=hid hck;clear hck CK
 have hwl:IntKind.i64.wrap ((u.size:Int)+v.size)=(u.size:Int)+v.size:=IntWalk.i64_in _ ⟨by omega,by omega⟩
 go_enter Tryz.func132,Tryz.ntmps132
 go_wp2_with fail
 refine HCK.out.mono ?_
 rintro e w1 ⟨rfl,hb1⟩
 have HB1:=hid hb1;clear hb1 HCK
 go_wp2_with fail
 refine(O.out w1 (HW.out.below HB1.out)).mono ?_
 rintro e w2 ⟨rfl,hb2⟩
 have HB2:=qT HB1 hb2;clear hb2 HB1
 obtain⟨w3,hw3⟩:∃w3,w3=w2.alloc (.cells #[.string u,.string v] 200):=⟨_,rfl⟩
 have ha:qL w2 w3:=by rw[hw3];exact(zM _ w2).alloc (zN _) _
 have A3:w3.heap[w2.heap.size]? =some (.cells #[.string u,.string v] 200 (0,0)):=by rw[hw3];exact zG w2 _
 have HB3:=qT HB2 ha
 have c0:w3.cell? ⟨w2.heap.size,0,none⟩=some (.string u):=by rw[zJ A3];rfl
 have c1:w3.cell? ⟨w2.heap.size,1,none⟩=some (.string v):=by rw[zJ A3];rfl
 have C3:=hid (⟨c0,c1⟩:w3.cell? ⟨w2.heap.size,0,none⟩=some (.string u)/\w3.cell? ⟨w2.heap.size,1,none⟩=some (.string v))
 rw[hw3] at c0 c1
 have HW3:=hid hw3;clear hw3 ha A3
 go_wp2_with fail
 rw[<-HW3.out]
 clear c0 c1
 refine(NU.out w3 (HW.out.below HB3.out)).mono ?_
 rintro e w4 ⟨rfl,hb4⟩
 have HB4:=qT HB3 hb4
 have c0:=(zac hb4).cell C3.out.1;have c1:=(zac hb4).cell C3.out.2
 clear hb4 HW3
 go_wp2_with fail
 refine(NV.out w4 (HW.out.below HB4.out)).mono ?_
 rintro e w5 ⟨rfl,hb5⟩
 have HB5:=qT HB4 hb5
 clear hb5 c0 c1
 go_wp2_with fail
 refine(NN.out w5 (HW.out.below HB5.out) (HP.out.below HB5.out)).mono ?_
 rintro e w6 ⟨rfl,hb6⟩
 have HB6:=qT HB5 hb6
 clear hb6
 go_wp2_with fail
 go_ret3
 exact⟨rfl,HB6.out⟩
theorem zc5 (n:Nat):numS ((n:Int):Rat)=zD n:=by rw[zha,Str.zad]
theorem zki {n k:Nat} (hk:0<k) (h:n<10^k):(zD n).length<=k:=(zaf n k hk).2 h
theorem z0b (W:zA) (t:TypeId) (x:List UInt8) (q:Rat) (hx:numS q=x):
 RowNums (some ⟨W.heap.size,0,none⟩) 1 (λ_=>q) ((W.alloc (.cells #[St x] t)).alloc (.cells #[St x] t))/\
 RowNums (some ⟨W.heap.size+1,0,none⟩) 1 (λ_=>q) ((W.alloc (.cells #[St x] t)).alloc (.cells #[St x] t)):=by
 have b1:=(Boxed.new W t (St x)).alloc (.cells #[St x] t)
 have b2:=Boxed.new (W.alloc (.cells #[St x] t)) t (St x)
 rw[zH] at b2
 constructor
 ·intro i hi
  obtain rfl:i=0:=by omega
  exact⟨_,_,rfl,by rw[hx];exact b1.cell⟩
 ·intro i hi
  obtain rfl:i=0:=by omega
  exact⟨_,_,rfl,by rw[hx];exact b2.cell⟩
theorem zfg:zD 1=[49]:=by rw[zae (by omega)];rfl
theorem zfc:numS 1=[49]:=by have:=zc5 1;rw[zfg] at this;exact this
end
section
open Go
variable {F:Fence} {n:Nat} {P:Program} {ops:Array Oper} {β:Type}
def zdn (F:Fence) (n:Nat) (P:Program) (C:Value->zA->Prop):Result Next->Prop
 | .ok (.value u) w'=>C u w'
 | .ok .skip w'=>C undef w'
 | .ok (.enter f args) w'=>(F.depth.isSome=true->1<=n)/\CallsIn F (n-1) P f args w' (λe w''=>∃v,e=.returned v/\C v w'')
 | .ok (.round l f tmps assign body) w'=>(F.depth.isSome=true->1<=n)/\RoundIn F (n-1) P l f tmps assign body w' (λe w''=>∃v,e=.returned v/\C v w'')
 |_=>False
theorem zno {o:Oper} {a:Act} {w:zA} {C:Value->zA->Prop} {K:Act->zA->Prop} {Q:Exit->Act->zA->Prop} (hF:∀f,F.fn f) (hro:F.round=none) (hK:∀v w',C v w'->K (a.put o.dst v) w') (h:zdn F n P C ((execOp a.eval o).run P w)):o.wpIn F n P a w K Q:=by
 refine⟨λf _=>hF f,?_⟩
 rw[hro,Oper.semAt_none]
 generalize (execOp a.eval o).run P w=r at*
 cases r with
 |ok x w'=>
  cases x<;>simp only[zdn] at h<;>simp only[Oper.uponIn]
  ·exact hK _ _ h
  ·exact hK _ _ h
  ·exact⟨h.1,CallsIn.mono h.2 λe w'' ⟨v,he,hc⟩=>by subst he;exact hK _ _ hc⟩
  ·exact⟨h.1,RoundIn.mono h.2 λe w'' ⟨v,he,hc⟩=>by subst he;exact hK _ _ hc⟩
 |halt x w'=>simp only[zdn] at h
def zqh (F:Fence) (n:Nat) (P:Program) (ops:Array Oper) (vs:β->Nat->Value) (C:β->Array Bool->zA->Prop) (i:Nat) (o:Oper) (a:Act) (b:β):Prop:=
 ∀L w,AcAt ops i L->C b L w->if Region.wanted o (yielded ops a.tmps) then zdn F n P (zgx vs C i L b) ((execOp a.eval o).run P w) else zgx vs C i L b undef w
theorem zli (hF:∀f,F.fn f) (hro:F.round=none) {Q:Exit->Act->zA->Prop} {C:β->Array Bool->zA->Prop} (hB:(acB ops&&zfd ops)=true) (vs:β->Nat->Value) (a:Act)
 (step:∀b i o,ops[i]? =some o->zqh F n P ops vs C i o (zax ops (vs b) a (zbw ops.size i) ops.size) b)
 (hend:∀b L w,(∀i,i<ops.size->L.getD i false=true)->C b L w->Q .normal (zax ops (vs b) a (zbw ops.size ops.size) ops.size) w):
 ∀(fuel:Nat) (L:Array Bool) (w:zA) (b:β),L.size=ops.size->zoe ops L->((List.range ops.size).filter λi=>!L.getD i false).length<=fuel->C b L w->wpAnyIn F n P .any ops Q fuel L (zax ops (vs b) a L ops.size) w:=by
 obtain⟨hsel,hdist,hlook,hback⟩:=zmq hB
 have hq:∀b L w,(∀i,i<ops.size->L.getD i false=true)->C b L w->Q .normal (zax ops (vs b) a L ops.size) w:=by
  intro b L w hall hC
  have e:zax ops (vs b) a L ops.size=zax ops (vs b) a (zbw ops.size ops.size) ops.size:=by
   have:∀k,k<=ops.size->zax ops (vs b) a L k=zax ops (vs b) a (zbw ops.size ops.size) k:=by
    intro k
    induction k with
    |zero=>intro _;rfl
    |succ k ih=>
     intro hk
     simp only[zax]
     rw[ih (by omega),hall k (by omega),zd5]
     simp[show k<ops.size by omega]
   exact this _ (zN _)
  rw[e];exact hend b L w hall hC
 have hready:∀L,L.size=ops.size->Region.ready .any ops L=[]->∀i,i<ops.size->L.getD i false=true:=by
  intro L hsz h0 i
  induction i using Nat.strongRecOn with
  |_ i ih=>
   intro hi
   cases hl:L.getD i false with
   |true=>rfl
   |false=>
    have hm:i∈Region.ready .any ops L:=by
     refine mem_ready.2 ⟨getD_in (by omega) hl,ops[i],by simp[hi],λe he hb=>?_⟩
     have hlt:=hback i (ops[i]) (show ops[i]? =some (ops[i]) from Array.getElem?_eq_getElem hi) e he hb
     exact ih e.on hlt (Nat.lt_trans hlt hi)
    rw[h0] at hm;cases hm
 intro fuel
 induction fuel with
 |zero=>
  intro L w b hsz hcl hcount hC
  have hall:∀i,i<ops.size->L.getD i false=true:=by
   intro i hi
   cases hl:L.getD i false with
   |true=>rfl
   |false=>
    have:i∈(List.range ops.size).filter λi=>!L.getD i false:=List.mem_filter.2 ⟨List.mem_range.2 hi,by rw[hl];rfl⟩
    rw[List.length_eq_zero_iff.1 (Nat.le_zero.1 hcount)] at this;cases this
  refine⟨?_,hq b L w hall hC⟩
  apply List.eq_nil_iff_forall_not_mem.2
  intro i hi
  obtain⟨h1,o,ho,_⟩:=mem_ready.1 hi
  have:=hall i (Array.getElem?_eq_some_iff.1 ho).1
  rw[getD_both h1] at this;cases this
 |succ fuel ih=>
  intro L w b hsz hcl hcount hC
  refine⟨λh0=>hq b L w (hready L hsz h0) hC,λi hi=>?_⟩
  obtain⟨h1,o,ho,hall⟩:=mem_ready.1 hi
  have hin:i<ops.size:=(Array.getElem?_eq_some_iff.1 ho).1
  have hLi:=getD_both h1
  have hdone:∀j,Region.waitsFor .any ops i j=true->L.getD j false=true:=by
   intro j hw
   obtain⟨o',ho',e,he,hb,rfl⟩:=Region.waitsFor_spec hw
   have:o'=o:=Option.some.inj (ho'.symm.trans ho)
   subst this
   exact hall e he hb
  have hopen:∀j,Region.waitsFor .any ops j i=true->L.getD j false=false:=by
   intro j hw
   cases hl:L.getD j false with
   |false=>rfl
   |true=>rw[hcl j i hl hw] at hLi;cases hLi
  have hat:AcAt ops i L:=⟨hsz,hLi,hdone,hcl⟩
  have hst:=step b i o ho L w hat hC
  have hset:=λb'=>zic (vs b') a L i (by omega) hLi (λj d hne hd hj=>by
   rcases Nat.lt_or_ge j ops.size with hjn|hjn
   ·exact hdist i j d hin hjn (Ne.symm hne) hj hd
   ·simp[zcr,Array.getElem?_eq_none hjn] at hj) ops.size
  simp only[if_pos hin] at hset
  have hsame:=zit (ops:=ops) (a:=zax ops (vs b) a L ops.size) (b:=zax ops (vs b) a (zbw ops.size i) ops.size) (o:=o) (λcs b=>Region.noSelect_spec hsel i o cs b ho) (λt ht=>by
   refine zib (vs b) a L _ t ops.size λj hj hd=>?_
   rw[zd5]
   by_cases hji:j=i
   ·subst hji;rw[hLi];simp
   ·have:=hlook i j t hin hj (Ne.symm hji) hd (by simpa [zi8,ho] using ht)
    rcases this with⟨h2,h3⟩|⟨h2,h3⟩
    ·rw[hdone j h3];simp[hj,h2]
    ·rw[hopen j h3];simp;omega)
  have hnext:∀v w',zgx vs C i L b v w'->wpAnyIn F n P .any ops Q fuel (L.setIfInBounds i true) ((zax ops (vs b) a L ops.size).put o.dst v) w':=by
   rintro v w' ⟨b',hagree,rfl,hC'⟩
   have hd:o.dst=zcr ops i:=by simp[zcr,ho]
   rw[hd,ziw (vs b) (vs b') a L (λj hj=>(hagree j hj).symm) ops.size,<-hset b']
   refine ih _ w' b' (by simpa using hsz) ?_ ?_ hC'
   ·intro x y hx hw
    rw[zdp L i _ (by omega)] at hx⊢
    split
    ·rfl
    ·split at hx
     ·rename_i h;subst h;exact hdone y hw
     ·exact hcl x y hx hw
   ·have e:((List.range ops.size).filter λx=>!(L.setIfInBounds i true).getD x false)=((List.range ops.size).filter λx=>!L.getD x false).filter λx=>decide (x≠i):=by
     rw[List.filter_filter]
     refine List.filter_congr λx _=>?_
     rw[zdp L i x (by omega)]
     by_cases h:i=x
     ·subst h;simp
     ·simp[h,Ne.symm h]
    rw[e]
    have:=(List.length_filter_lt_length_iff_exists (l:=(List.range ops.size).filter λx=>!L.getD x false) (p:=λx=>decide (x≠i))).2 ⟨i,List.mem_filter.2 ⟨List.mem_range.2 hin,by rw[hLi];rfl⟩,by simp⟩
    omega
  unfold wpOpIn
  simp only[ho]
  rw[hsame.2]
  by_cases hw:Region.wanted o (yielded ops (zax ops (vs b) a (zbw ops.size i) ops.size).tmps)=true
  ·rw[if_pos hw] at hst⊢
   rw[<-hsame.1] at hst
   exact zno hF hro hnext hst
  ·rw[if_neg hw] at hst⊢
   exact⟨λf _=>hF f,hnext _ _ hst⟩
def zlr (F:Fence) (n:Nat) (P:Program) (ops:Array Oper) (vs:β->Nat->Value) (C:β->(Nat->Bool)->zA->Prop) (i:Nat) (o:Oper) (a:Act) (b:β):Prop:=
 ∀f w,AcF ops i f->C b f w->
  if Region.wanted o (yielded ops a.tmps) then zdn F n P (zhn vs C i f b) ((execOp a.eval o).run P w) else zhn vs C i f b undef w
def AcLN (F:Fence) (n:Nat) (P:Program) (ops:Array Oper) (vs:β->Nat->Value) (C:β->(Nat->Bool)->zA->Prop) (K:Act->zA->Prop) (b:β):Nat->List Oper->Act->Prop
 |_,[],a=>∀f w,(∀i,i<ops.size->f i=true)->C b f w->K a w
 |k,o::rest,a=>zlr F n P ops vs C k o a b/\AcLN F n P ops vs C K b (k+1) rest (a.put o.dst (vs b k))
section
variable {vs:β->Nat->Value} {C:β->(Nat->Bool)->zA->Prop} {K:Act->zA->Prop} {k:Nat} {o:Oper} {rest:List Oper} {a:Act} {b:β}
theorem zqi (h:∀f w,(∀i,i<ops.size->f i=true)->C b f w->K a w):AcLN F n P ops vs C K b k [] a:=h
theorem za4 (v:Value) (hv:vs b k=v) (hw:Region.wanted o (yielded ops a.tmps)=true)
 (hset:∀f w,C b f w->C b (λj=>if k=j then true else f j) w)
 (hy:∀f w,AcF ops k f->C b f w->(execOp a.eval o).run P w=.ok (.value v) w)
 (h:AcLN F n P ops vs C K b (k+1) rest (a.put o.dst v)):AcLN F n P ops vs C K b k (o::rest) a:=by
 subst hv
 refine⟨λf w hf hC=>?_,h⟩
 rw[if_pos hw,hy f w hf hC]
 exact⟨b,λ_ _=>rfl,rfl,hset f w hC⟩
theorem zqj (v:Value) (hv:vs b k=v) (hw:Region.wanted o (yielded ops a.tmps)=true)
 (hy:∀f w,AcF ops k f->C b f w->∀C':Value->zA->Prop,(∀b' w',(∀j,f j=true->vs b' j=vs b j)->C b' (λj=>if k=j then true else f j) w'->C' (vs b' k) w')->zdn F n P C' ((execOp a.eval o).run P w))
 (h:AcLN F n P ops vs C K b (k+1) rest (a.put o.dst v)):AcLN F n P ops vs C K b k (o::rest) a:=by
 subst hv
 refine⟨λf w hf hC=>?_,h⟩
 rw[if_pos hw]
 exact hy f w hf hC _ λb' w' hj h'=>⟨b',hj,rfl,h'⟩
end
theorem zfu {vs:β->Nat->Value} {C:β->(Nat->Bool)->zA->Prop} {K:Act->zA->Prop} {b:β}:∀(l:List Oper) (k:Nat) (a:Act),AcLN F n P ops vs C K b k l a->
 (∀i o,l[i]? =some o->zlr F n P ops vs C (k+i) o (zbq (vs b) k l a i) b)/\(∀f w,(∀i,i<ops.size->f i=true)->C b f w->K (zbq (vs b) k l a l.length) w)
 |[],k,a,h=>⟨λi o h=>by simp at h,h⟩
 |o::l,k,a,⟨hv,h⟩=>by
  obtain⟨h1,h2⟩:=zfu l (k+1) _ h
  refine⟨λi o' ho=>?_,?_⟩
  ·cases i with
   |zero=>
    obtain rfl:o=o':=by simpa using ho
    simpa [zbq] using hv
   |succ i=>
    have:=h1 i o' (by simpa using ho)
    simp only[zbq]
    rw[show k+(i+1)=k+1+i by omega]
    exact this
  ·simp only[zbq,yA]
   exact h2
theorem zj4 (hF:∀f,F.fn f) (hro:F.round=none) {K:Act->zA->Prop} {Q:Exit->Act->zA->Prop} (hQ:∀a w,K a w->Q .normal a w) {l:List Oper} (vs:β->Nat->Value) (C:β->(Nat->Bool)->zA->Prop) (hB:(acB l.toArray&&zfd l.toArray)=true) {a:Act} {w:zA} (b0:β) (hC:C b0 (λ_=>false) w) (h:∀b,AcLN F n P l.toArray vs C K b 0 l a):
 wpAnyIn F n P .any l.toArray Q l.toArray.size (Array.replicate l.toArray.size false) a w:=by
 have e0:zax l.toArray (vs b0) a (Array.replicate l.toArray.size false) l.toArray.size=a:=by
  have:∀k,zax l.toArray (vs b0) a (Array.replicate l.toArray.size false) k=a:=by
   intro k
   induction k with
   |zero=>rfl
   |succ k ih=>
    have:(Array.replicate l.toArray.size false).getD k false=false:=by
     simp only[Array.getD];split<;>simp
    simp only[zax,this,Bool.false_eq_true,if_false];exact ih
  exact this _
 have:=zli (n:=n) hF hro (P:=P) (ops:=l.toArray) (Q:=Q) (C:=λb L w=>C b (λj=>L.getD j false) w) hB vs a ?_ ?_ l.toArray.size (Array.replicate l.toArray.size false) w b0 (by simp) ?_ ?_ ?_
 ·rw[e0] at this;exact this
 ·intro b i o ho L w hat hc
  have h1:=(zfu l 0 a (h b)).1
  have hi:i<l.length:=by
   have:=(Array.getElem?_eq_some_iff.1 ho).1
   simpa using this
  have hst:=h1 i o (by simpa using ho) (λj=>L.getD j false) w (by rw[Nat.zero_add];exact⟨hat.self,hat.done,hat.closed⟩) hc
  have ea:zax l.toArray (vs b) a (zbw l.toArray.size i) l.toArray.size=zbq (vs b) 0 l a i:=by
   have:=zdg (vs b) l a i (by omega) l.length (zN _)
   rw[Nat.min_eq_left (by omega)] at this
   simpa using this
  have es:(λj=>(L.setIfInBounds i true).getD j false)=(λj=>if i=j then true else L.getD j false):=by
   funext j
   exact zdp L i j (by rw[hat.size];simpa using hi)
  rw[Nat.zero_add] at hst
  rw[ea]
  unfold zhn at hst
  unfold zgx
  simp only[es]
  exact hst
 ·intro b L w hall hc
  have h2:=(zfu l 0 a (h b)).2
  have ea:zax l.toArray (vs b) a (zbw l.toArray.size l.toArray.size) l.toArray.size=zbq (vs b) 0 l a l.length:=by
   have:=zdg (vs b) l a l.length (zN _) l.length (zN _)
   rw[Nat.min_self] at this
   simpa using this
  rw[ea]
  exact hQ _ _ (h2 _ w hall hc)
 ·intro i j hi
  have:(Array.replicate l.toArray.size false).getD i false=false:=by simp only[Array.getD];split<;>simp
  rw[this] at hi;cases hi
 ·refine Nat.le_trans (List.length_filter_le _ _) (by simp)
 ·have:(λj=>(Array.replicate l.toArray.size false).getD j false)= λ_=>false:=by
   funext j
   simp only[Array.getD];split<;>simp
  simpa only[this] using hC
theorem zgw {id:Nat} {Q:Exit->Act->zA->Prop} {a:Act} {w:zA} {l:List Oper} (hF:∀f,F.fn f) (hro:F.round=none) (vs:β->Nat->Value) (C:β->(Nat->Bool)->zA->Prop) (hm:P.follows .mixedOrders=true) (hB:(acB l.toArray&&zfd l.toArray)=true) (b0:β) (hC:C b0 (λ_=>false) {w with drawn:=w.drawn+1})
 (h:∀b,AcLN F n P l.toArray vs C (Q .normal) b 0 l a):(Code.region id l.toArray true).wpIn F n P Q a w:=
 wpIn_region_any hm (zj4 hF hro (λ_ _ h=>h) vs C hB b0 hC h)
end
section
open Go.RowKit Go.Shelf Lib Str Limb
attribute [local go_sem] Oper.semAt_some
theorem zai {W W':zA} (h:qL W W') {b o:Nat} {v:Value} (hc:W.cell? ⟨b,o,none⟩=some v):W'.cell? ⟨b,o,none⟩=some v:=(zac h).cell hc
end
section
open Go.RowKit Go.Shelf Lib Str Limb Geo
attribute [local go_sem] Oper.semAt_some
def cor (l:List Pt) (k:Nat):Pt:=l[k%l.length]?.getD ⟨0,0⟩
theorem zcj {W W':zA} (h:CellsKept W W') {B:Nat} {e:TypeId} {s:Nat} {v:Value} {n:Nat} {xs:List Value} (ho:W.ownsRow B e s v n xs):W'.ownsRow B e s v n xs:=by
 obtain⟨hl,ho⟩:=ho
 refine⟨hl,?_⟩
 rcases ho with ho|⟨g,cap,cur,e,hb,hg,hr⟩
 ·exact .inl ho
 ·exact .inr ⟨g,cap,cur,e,hb,h _ _ _ _ hg,hr⟩
theorem zmb {P:Program} (C':Value->zA->Prop) {o:Oper} {a:Act} (w:zA) (s x:Operand) (t:TypeId)
 (ho:o.op=.call {callee:=.builtin .append,args:= #[s,x],argTypes:= #[t,t]})
 (base:Nat) (e:TypeId) (i:TypeInfo) (z:Value) (size bytes:Nat) (ht:P.underlying t=some (.slice e)) (hi:P.info? e=some i) (hz:i.zero=some z)
 (hsize:i.size=size) (hby:i.bytes=bytes) (hzs:z.cells.size=size) (hsz:0<size)
 (v:Value) (n:Nat) (xs:List Value) (hs:a.eval s=v) (hown:w.ownsRow base e size v n xs)
 (ad:Addr) (m c:Nat) (news:List Value) (hx:a.eval x=.slice (some ad) m c) (hl:news.length=m*size) (hnews:∀j u,news[j]? =some u->w.cell? (ad.add j)=some u) (h1:∀u∈news,u.oneCell'=true)
 (h63:n+m<=maxLen) (hbytes:(n+m)*bytes<=140737488355328) (hbase:base<=w.heap.size)
 (h:∀v' w',w'.ownsRow base e size v' (n+m) (xs++news)->w.grownBy w' v.ownBlock->C' v' w'):zfp P C' ((execOp a.eval o).run P w):=by
 obtain⟨v',w',hr,h2,h3,h4⟩:=run_append_own (P:=P) w base t o.type e i z size bytes ht hi hz hsize hby hzs hsz v n xs hown ad m c news hl hnews h1 h63 hbytes hbase
 unfold execOp
 simp only[ho,resolve,invoke,builtin,Sem.run_bind,Sem.run_pure,Result.andThen_ok,List.map_toArray,List.map_cons,List.map_nil,hs,hx,hr]
 exact h v' w' h2 h3
end
section
open Go.RowKit Go.Shelf Lib Str Limb
attribute [local go_sem] Oper.semAt_some
theorem zx5:(Tryz.prog.info? 190).map (λi=>(i.zero,i.size,i.bytes))=some (some (.agg #[St [],St []]),2,32):=by kernel_rfl
end
section
theorem ztp {n s x:Nat} (hx:0<x) (hs:s*s<=n) (hsx:s<=x):s<=(x+n/x)/2:=by
 obtain⟨d,rfl⟩:∃d,x=s+d:=⟨x-s,by omega⟩
 rw[Nat.le_div_iff_mul_le (by omega)]
 by_cases h:d<=s
 ·obtain⟨e,rfl⟩:∃e,s=d+e:=⟨s-d,by omega⟩
  have h1:e<=n/(d+e+d):=by
   rw[Nat.le_div_iff_mul_le hx]
   refine Nat.le_trans ?_ hs
   have:(d+e)*(d+e)=e*(d+e+d)+d*d:=by
    simp only[Nat.mul_add,Nat.add_mul,Nat.mul_comm d e];omega
   omega
  generalize n/(d+e+d)=q at*
  omega
 ·generalize n/(s+d)=q
  omega
theorem zrf {n x:Nat} (hx:0<x) (h:x<=(x+n/x)/2):x*x<=n:=by
 have h2:x<=n/x:=by
  generalize n/x=q at*
  omega
 exact(Nat.le_div_iff_mul_le hx).1 h2
end
end Go.Proofs.YtccijmidbdapaaaGreatDoor
