/- surd.Check: the walk. -/
import Derived.Test.YtfoodcpnnmonhaaGreatDoorZ07
import Derived.Sort.LoopGhostIn
import Derived.Lib.IndexAny
import Derived.Deep.Quiet
set_option maxRecDepth 100000
set_option maxHeartbeats 8000000
open Go renaming World → zA, Calls → zC
open Go.RowKit renaming Below → zB, intOf → zL
open Go.Lib renaming decDigits → zD, itoa → zE
open Go.Proofs.Tryz renaming prog → zF
open Go.World renaming alloc_heap_new → zG, size_alloc → zH
open Go.IntWalk renaming i64_in → zI
open Go.Joins renaming cell_of_block → zJ
open Go.RowKit.Below renaming refl → zM, heap_setCell → yE
open Nat renaming le_refl → zN, le_trans → zO, zero_le → zR, pow_le_pow_right → yF, pos_of_ne_zero → yS
open List renaming length_map → zV, length_cons → yA, getElem?_eq_getElem → yB
namespace Go.Proofs.YtfoodcpnnmonhaaGreatDoor
section
open Go.RowKit Go.Shelf Lib Str Limb
attribute [local go_sem] Oper.semAt_some
structure BxA (w:zA) (A:Nat) (x y:ByteArray) (W:zA):Prop where
 bel:qL w W
 bx:W.heap[A]? =some (.cells #[.string x,.string y] 49 (0,0))
section
variable {w W W':zA} {A:Nat} {x y:ByteArray}
theorem BxA.next (h:BxA w A x y W) (hb:qL W W'):BxA w A x y W':=
 ⟨h.bel.trans (hb.mono h.bel.size),(hb.block _ (Array.getElem?_eq_some_iff.1 h.bx).1).trans h.bx⟩
theorem BxA.cx (h:BxA w A x y W):W.cell? ⟨A,0,none⟩=some (.string x)/\W.cell? ⟨A,1,none⟩=some (.string y):=by have:=h.bx;simp[World.cell?,this]
end
theorem z2l (p:Option Addr) (cap n:Nat) (X Y:Nat->ByteArray) (hn:n<=16) (hcap:n<=cap)
 (RG:Hid (∀i,i<n->∀W:zA,Wd W->Pw W->qJ 167 #[.agg #[.string (X i),.string (Y i)]] W (.int .i64 0)))
 (CM:Hid (∀i,i+1<n->qK 30 #[.string (Y i),.string (Y (i+1))] (.tuple #[.int .i64 (-1),.int .i64 0])))
 (CT:Hid (∀k A,k<n->∀W:zA,Wd W->RowTm p n X Y W->W.cell? ⟨A,1,none⟩=some (.string (Y k))->zC zF 168 #[.slice p k cap,.func (.func 169) #[] #[.pointer (some ⟨A,0,none⟩)]] W (BolQ W false)))
 (w:zA) (HW:Hid (Wd w)) (HQ:Hid (Pw w)) (HP:Hid (RowTm p n X Y w)):
 qJ 97 #[.slice p n cap] w (.int .i64 0):=by
 have hn16:decide ((16:Int)<(n:Int))=false:=decide_eq_false (by omega);go_enter Tryz.func97,Tryz.ntmps97;go_wp21;clear hn16;go_loopw [13] (λi wr=>∃(k:Nat),k<=n/\i=.int .i64 (k:Int)/\Hid (qL w wr))
  (λi _=>n-(zL i).toNat)
 case atStart=>exact⟨0,zR _,rfl,zM _ _⟩
 case round=>
  obtain⟨k,hk,rfl,hB⟩:=hrel;by_cases hlt:k<n
  ·have HR:=hid λW (h:qL w W)=>HP.out.keep (zac h)
   obtain⟨b,off,hp,c0,c1⟩:=HR.out wr hB.out k hlt;subst hp;have HRG:=hid (RG.out k hlt);have HCT:=hid λA W hW hr hc=>CT.out k A hlt W hW hr hc;have HY:=hid (show ∀j,j+1=k->(qK 30 #[.string (Y j),.string (Y k)] (.tuple #[.int .i64 (-1),.int .i64 0])) from λj hj=>by subst hj;exact CM.out j hlt);obtain⟨j,hj⟩:=zzX (k-1);have HJ:=hid hj;obtain⟨x,hx⟩:=zzX (X k);obtain⟨y,hy⟩:=zzX (Y k);rw[<-hx,<-hy] at HRG;rw[<-hy] at HCT HY;rw[<-hx] at c0;rw[<-hy] at c1;clear hj hx hy;have HS:Hid (BxA w wr.heap.size x y (wr.alloc (.cells #[.string x,.string y] 49))):=hid (by
    have hal:qL wr (wr.alloc (.cells #[.string x,.string y] 49)):=(zM _ wr).alloc (zN _) _;exact⟨hB.out.trans (hal.mono hB.out.size),zG _ _⟩)
   obtain⟨g0,g1⟩:=HS.out.cx;go_wp21;clear hB c0 c1 g0 g1;obtain⟨W1,hW1⟩:=zzX (wr.alloc (.cells #[.string x,.string y] 49));rw[<-hW1] at HS⊢;clear hW1;generalize wr.heap.size=A at*
   refine zzM (HRG.out W1 (HW.out.below HS.out.bel) (HQ.out.below HS.out.bel)) λw2 hb2=>?_;have HS2:=hid (HS.out.next hb2);clear hb2 HS HRG;by_cases hk0:k=0
   ·have hkb:((k:Int)==0)=true:=by rw[hk0];rfl
    clear hk0;go_wp21;go_roundw
    case rel=>exact⟨k+1,by omega,by go_num,hid HS2.out.bel⟩
    case measure=>simp[zL];omega
   ·have hkb:((k:Int)==0)=false:=beq_eq_false_iff_ne.2 (by omega)
    have hjk:j+1=k:=by have:=HJ.out;omega
    have HCM:=hid (HY.out j hjk);have hw1:IntKind.i64.wrap ((k:Int)-1)=(j:Int):=by rw[zI _ ⟨by omega,by omega⟩];omega
    have hjn:j<n:=by omega
    have hkc:(k:Int)<=(cap:Int):=by omega
    have HRj:=hid (λW h=>(by
     obtain⟨b',off',e,d0,d1⟩:=HR.out W h j hjn;obtain⟨rfl,rfl⟩:b=b'/\off=off':=by simpa using e
     exact d1):∀W,qL w W->W.cell? ⟨b,off+j*2+1,none⟩=some (.string (Y j)))
    generalize Y j=yj at*
    clear HY hjk hk0;go_wp21;refine zbl (λ_ W=>BxA w A x y W) (by kernel_rfl) (by kernel_rfl) (HS2.out.next (zM _ _).drew) ?_;refine qR (.slice (some ⟨b,off,none⟩) n cap) ?_;refine qR (.int .i64 (k:Int)) ?_;refine qR (.int .i64 (j:Int)) ?_;simp only[zzQ];refine qR (.pointer (some ⟨b,off+j*2,none⟩)) ?_;refine qR (.pointer (some ⟨b,off+j*2+1,none⟩)) ?_;refine qR (.string yj) ?_ (hy:=λf W' hf h=>by have c0:=HRj.out _ h.bel;go_simp);simp only[zzQ];refine qR (.pointer (some ⟨A,1,none⟩)) ?_;refine qR (.string y) ?_ (hy:=λf W' hf h=>by obtain⟨c0,c1⟩:=h.cx;go_simp);simp only[zzQ]
    refine zar (.tuple #[.int .i64 (-1),.int .i64 0]) (by rfl) (λf W' hf h C' hC'=>by
     go_simp;refine zzM (HCM.out _ (HW.out.below h.bel)) λw' hb=>?_;exact⟨rfl,hC' _ (h.next hb)⟩) ?_
    refine qR (.tuple #[.int .i64 (-1),.int .i64 0]) ?_;refine qR (.int .i64 (-1)) ?_;simp only[zzQ];refine qR (.int .i64 0) ?_;refine qR (.int .i64 (-1)) ?_;refine qR (.int .i64 0) ?_;simp only[zzQ];refine zck λf W5 hf h5=>?_;have HS5:=hid h5;clear hf h5 HS2 HCM HRj;have HCC:=hid (HCT.out A W5 (HW.out.below HS5.out.bel) (HR.out _ HS5.out.bel) HS5.out.cx.2);clear HCT;go_wp21;refine zzM HCC.out λw6 hb6=>?_;have HS6:=hid (HS5.out.next hb6);clear hb6 HS5 HCC;go_wp21;go_roundw
    case rel=>exact⟨k+1,by omega,by go_num,hid HS6.out.bel⟩
    case measure=>simp[zL];omega
  ·have hkn:k=n:=by omega
   go_wp21;go_ret;exact⟨rfl,hB.out⟩
end
section
open Go.RowKit Go.Shelf
attribute [local go_sem] Oper.semAt_some
def ybu (F:Fence) (n:Nat) (P:Program) (gf:Nat) (lb:Array Value) (T:Nat->zA->zA) (Rd:Nat->zA->Prop) (R:Nat->Array Value->Prop) (len:Nat):Prop:=
 ∀(l:Nat) (J:Nat->zA->Prop) (Jx:zA->Prop) (W:zA),(∀k W1,J k W1->Rd k W1)->(∀k W1 W2,J k W1->qL W1 W2->J k W2)->
  (∀k args W1,J k W1->k<len->R k args->YieldAt F (n-1) P l args (T k W1) λe W'=>(e=.returned (.bool true)/\J (k+1) W')\/(e=.returned (.bool false)/\Jx W'))->
  J 0 W->CallsIn F n P gf (#[.func (.yield l) #[] #[]]++lb) W λe W'=>(∃v,e=.returned v)/\(J len W'\/Jx W')
theorem z95 {F:Fence} {n:Nat} {P:Program} {g:Operand} {ps:Array Tmp} {assign body:Code} {Q:Exit->Act->zA->Prop} {a:Act} {w:zA}
 (hro:F.round=none) (h1:1<=n) {gf:Nat} {lb:Array Value} (hg:a.eval g=.func (.func gf) #[] lb) (hFg:F.fn gf) (eg:∀args w,(callFunc gf args).run P w=.ok (.enter gf args) w)
 {T:Nat->zA->zA} {Rd:Nat->zA->Prop} {R:Nat->Array Value->Prop} {len:Nat} (hseq:ybu F (n-1) P gf lb T Rd R len) (hps:∀k args,R k args->args.size=ps.size)
 {B:Nat} (hB:B<=w.heap.size) (I:Nat->zA->Prop) (Ix:Code->Nat->zA->Prop) (hI:∀k W W',I k W->CellsKept W W'->zB B W W'->I k W') (hIx:∀c k W W',Ix c k W->CellsKept W W'->zB B W W'->Ix c k W')
 (hRd:∀k W,I k W->Rd k W) (h0:I 0 w) (I':Nat->zA->Prop) (hI':∀k W W',I' k W->CellsKept W W'->zB B W W'->I' k W') (hT:∀k W b,w.heap.size<=b->(T k W).heap[b]? =W.heap[b]?) (hTI:∀k W,I k W->I' k (T k W)) (a₁:Nat->Array Value->Act)
 (hassign:∀(l k:Nat) (args:Array Value) (W:zA) (K:Act->zA->Prop),R k args->K (a₁ k args) W->
   assign.wpIn (F.inRound l) (n-1-1) P (Exit.then K (λ_ _ _=>False)) {tmps:=(ps.zip args).foldl (λt (p,v)=>t.setIfInBounds p v) a.tmps,defers:=[]} W)
 (hbody:∀(l k:Nat) (args:Array Value) (W:zA),w.heap.size<=l->(∃r,W.heap[l]? =some (.loop r))->I' k W->k<len->R k args->body.wpIn (F.inRound l) (n-1-1) P (zja w.heap.size I Ix k W) (a₁ k args) W)
 (hdone:∀(D:Nat) (W:zA),w.heap.size<=D->I len W->W.heap[D]? =some (.deferred (some []))->Q .normal {a with defers:={target:=.collected D,args:= #[]}::a.defers} W)
 (hstop:∀(D:Nat) (c:Code) (k:Nat) (W:zA),w.heap.size<=D->Ix c k W->W.heap[D]? =some (.deferred (some []))->c.wpIn F n P Q {a with defers:={target:=.collected D,args:= #[]}::a.defers} W):
 (Code.rangeFunc g ps assign body).wpIn F n P Q a w:=by
 refine wpIn_rangeFunc λfn hfn=>?_;rw[hro];obtain⟨z,hz⟩:=zzX w.heap.size;let rec':LoopState->Option Code->Obj:=λst pe=>.loop {state:=st,pending:=pe,fn,tmps:=a.tmps,params:=ps,assign,body,defers:=z};have hnc:∀st pe,(rec' st pe).isCells=false:=λ_ _=>rfl;have hbk:∀st,((w.alloc (.deferred (some []))).alloc (rec' st none)).heap[z+1]? =some (rec' st none)/\((w.alloc (.deferred (some []))).alloc (rec' st none)).heap[z]? =some (.deferred (some [])):=λst=>by
  subst hz;refine⟨?_,?_⟩
  ·have:=zG (w.alloc (.deferred (some []))) (rec' st none);rwa [zH] at this
  ·exact(Below.heap_alloc _ _ _ (by simp)).trans (zG w _)
 have hstart:qL w ((w.alloc (.deferred (some []))).alloc (rec' .ready none)):=((zM _ w).alloc (zN _) _).alloc (by simp) _;let bk:LoopState->Option Code->zA->Prop:=λst pe W=>W.heap[z+1]? =some (rec' st pe)/\W.heap[z]? =some (.deferred (some []));have hturn:∀st pe st' pe' W,bk st pe W->bk st' pe' (W.putObj (z+1) (rec' st' pe')):=λst pe st' pe' W h=>
  ⟨World.putObj_heap_same (Array.getElem?_eq_some_iff.1 h.1).1,(World.putObj_heap_other (by omega)).trans h.2⟩
 refine⟨z+1,[{target:=.collected z,args:= #[]}],(w.alloc (.deferred (some []))).alloc (rec' .ready none),{target:=.fn (.func gf) lb,args:= #[.func (.yield (z+1)) #[] #[]]},(w.alloc (.deferred (some []))).alloc (rec' .ready none),gf,
  #[.func (.yield (z+1)) #[] #[]]++lb,(w.alloc (.deferred (some []))).alloc (rec' .ready none),?_,?_,?_,?_,λ_=>h1,?_⟩
 ·subst hz;exact run_enterLoop_outer _ _ _ _ _
 ·simp only[resolve,hg]
  simp[go_sem]
 ·intro f' hf';simp[Target.leads] at hf';subst hf';exact hFg
 ·simp[invoke,go_sem,eg]
 refine(hseq (z+1) (λk W=>I k W/\bk .ready none W) (λW=>∃c k,Ix c k W/\bk .done (some c) W) _ (λk W1 h=>hRd k W1 h.1) (λk W1 W2 h hb=>?_) ?_ ?_).mono ?_
 ·exact⟨hI k W1 W2 h.1 (zac hb) (hb.mono (by have:=(Array.getElem?_eq_some_iff.1 h.2.2).1;omega)),
   (hb.block _ (Array.getElem?_eq_some_iff.1 h.2.1).1).trans h.2.1,(hb.block _ (Array.getElem?_eq_some_iff.1 h.2.2).1).trans h.2.2⟩
 ·rintro k args W0 ⟨hi0,hbW0⟩ hk hR
  have hi:=hTI k W0 hi0;have hbW:bk .ready none (T k W0):=⟨(hT k W0 _ (by omega)).trans hbW0.1,(hT k W0 _ (by omega)).trans hbW0.2⟩;generalize T k W0=W at hi hbW⊢;clear hi0 hbW0;have hy:=run_yield (P:=P) (args:=args) hbW.1 (hps k args hR);refine⟨fn,_,assign,body,hy,roundIn_of_wpIn hfn (hassign _ k args W _ hR ?_)⟩;refine⟨_,run_beginRound hbW.1 rfl,?_⟩;have hb2:bk .busy none (W.putObj (z+1) (rec' .busy none)):=hturn _ _ _ _ _ hbW;have hi2:=hI' k _ _ hi (zcw (rec' .busy none) hbW.1 rfl) (zcx (B:=B) (rec' .busy none) hbW.1 (by omega));refine wpIn_mono (hbody _ k args _ (by omega) ⟨_,hb2.1⟩ hi2 hk hR) ?_;have fin:∀(jump:Option Code) (W3:zA),KeepsFrom w.heap.size (W.putObj (z+1) (rec' .busy none)) W3->
   (Instr.endRound (z+1) jump).run P W3=.ok (.bool jump.isNone) (W3.putObj (z+1) (rec' (if jump.isNone then .ready else .done) jump))/\
   CellsKept W3 (W3.putObj (z+1) (rec' (if jump.isNone then .ready else .done) jump))/\zB B W3 (W3.putObj (z+1) (rec' (if jump.isNone then .ready else .done) jump))/\
   bk (if jump.isNone then .ready else .done) jump (W3.putObj (z+1) (rec' (if jump.isNone then .ready else .done) jump)):=λjump W3 hk3=>by
   have hb3:bk .busy none W3:=⟨hk3.same _ _ (by omega) hb2.1 rfl,hk3.same _ _ (by omega) hb2.2 rfl⟩;exact⟨run_endRound jump hb3.1,zcw _ hb3.1 rfl,zcx _ hb3.1 (by omega),hturn _ _ _ _ _ hb3⟩
  rintro e a3 W3 hp
  cases e with
  |normal=>
   obtain⟨hk3,hi3⟩:=hp;obtain⟨hr,hc,hbl,hb4⟩:=fin none W3 hk3;exact⟨_,_,hr,.inl ⟨rfl,hI _ _ _ hi3 hc hbl,hb4⟩⟩
  |ret=>
   obtain⟨hk3,hi3⟩:=hp;obtain⟨hr,hc,hbl,hb4⟩:=fin (some .ret) W3 hk3;exact⟨_,_,hr,.inr ⟨rfl,_,_,hIx _ _ _ _ hi3 hc hbl,hb4⟩⟩
  |exit id=>
   obtain⟨hk3,hi3⟩:=hp;obtain⟨hr,hc,hbl,hb4⟩:=fin (some (.exit id)) W3 hk3;exact⟨_,_,hr,.inr ⟨rfl,_,_,hIx _ _ _ _ hi3 hc hbl,hb4⟩⟩
  |goto t=>
   obtain⟨hk3,hi3⟩:=hp;obtain⟨hr,hc,hbl,hb4⟩:=fin (some (.goto t)) W3 hk3;exact⟨_,_,hr,.inr ⟨rfl,_,_,hIx _ _ _ _ hi3 hc hbl,hb4⟩⟩
  |panic ch=>exact hp.elim
  |outgrown=>exact hp.elim
 ·exact⟨hI 0 _ _ h0 (zac hstart) (hstart.mono hB),hbk .ready⟩
 ·rintro e W2 ⟨⟨v,rfl⟩,(⟨hi,hb4⟩|⟨c,k,hi,hb4⟩)⟩
  ·exact⟨none,_,run_endLoop hb4.1 (by simp),hdone z _ (by omega) (hI _ _ _ hi (zcw _ hb4.1 rfl) (zcx _ hb4.1 (by omega))) ((World.putObj_heap_other (by omega)).trans hb4.2)⟩
  ·exact⟨some c,_,run_endLoop hb4.1 (by simp),hstop z c k _ (by omega) (hIx _ _ _ _ hi (zcw _ hb4.1 rfl) (zcx _ hb4.1 (by omega))) ((World.putObj_heap_other (by omega)).trans hb4.2)⟩
end
section
open Go.RowKit Go.Shelf Lib Str Limb
attribute [local go_sem] Oper.semAt_some
theorem z4o (x y q r:Int) (hx0:0<=x) (hy0:0<y) (hd:x.tdiv y=q) (hm:x.tmod y=r) (hr0:0<=r) (hz:¬r=0) (hqa:q.natAbs<=x.natAbs) (hra:r.natAbs<=x.natAbs) (hx:(zE x).length<=18) (hy:(zE y).length<=18) (w:zA) (hw:Wd w):
 qJ 69 #[St (zE x),St (zE y)] w (.tuple #[St (zE q),St (zE r),.int .i64 0]):=by
 obtain⟨x1,x2⟩:=lt18 hx;obtain⟨y1,y2⟩:=lt18 hy;have hb:=λW=>zdh x y (zO (zbf (by omega)) (by omega)) (zO (zbf (by omega)) (by omega)) W;have hs:=λW=>zdy x y hx hy W;have hit:=λW hW=>zb3 q (by omega) (by omega) W hW;have hiz:=λW hW=>zb3 r (by omega) (by omega) W hW;have w1:IntKind.i64.wrap (x.tdiv y)=q:=by rw[hd];exact zI _ (by omega)
 have w2:IntKind.i64.wrap (x.tmod y)=r:=by rw[hm];exact zI _ (by omega)
 have hme:¬x%y=0:=by rw[<-Int.tmod_eq_emod_of_nonneg hx0,hm];exact hz
 have hre:x%y=r:=by rw[<-Int.tmod_eq_emod_of_nonneg hx0,hm]
 have hrn:decide (x%y<0)=false:=decide_eq_false (by rw[hre];omega);have HRE:=hid hre;clear hre;have hyl:decide (y<0)=false:=decide_eq_false (by omega);have hyn:(zE y==[48])=false:=by rw[beq_eq_false_iff_ne,<-zb9];exact λh=>by have:=zdo h;omega
 have hne:¬zE y=[48]:=by simpa using hyn
 have hy1:¬y=0:=by omega
 have HB:=hid hb;clear hb;have HIT:=hid hit;clear hit;have HIZ:=hid hiz;clear hiz;have HS:=hid hs;have HQD:=hid hd;have HMD:=hid hm;clear hs hx hy hd hm hqa hra;have HW:=hid hw;clear hw;go_enter Tryz.func69,Tryz.ntmps69;go_wp21;refine zzM (HB.out w) λw3 hB1=>?_;go_wp21;refine zzM (HS.out w3) λw4 hb2=>?_;have hB2:=hB1.trans (hb2.mono hB1.size);clear hb2 hB1;go_wp21
 (refine wp_region_quiet_lit (by kernel_rfl) (by kernel_rfl) (WQ.out ?_);(repeat(first|(apply WQ.read (by rfl);(focus(rintro W ⟨n,rfl⟩;go_simp;try with_reducible rfl));try simp only[zzQ])|(apply WQ.skip (by rfl);try simp only[zzQ])));refine WQ.nil ?_;rintro _ ⟨nq,rfl⟩)
 go_wp21;have hB3:=zao hB2 nq;refine zzM (HIT.out (w4.drewN nq) (HW.out.below hB3)) λw5 hb5=>?_;have hB5:=hB3.trans (hb5.mono hB3.size);clear hb5 hB3 hB2;go_wp21;rw[HRE.out];refine zzM (HIZ.out w5 (HW.out.below hB5)) λw6 hb6=>?_;have hB6:=hB5.trans (hb6.mono hB5.size);clear hb6 hB5;go_wp21;go_ret3;exact⟨rfl,hB6⟩
theorem z58 (x y q r:Int) (hx0:0<=x) (hy0:0<y) (hq:((x.natAbs/y.natAbs:Nat):Int)=q) (hr:((x.natAbs%y.natAbs:Nat):Int)=r) (hx:digs x<=300) (hy:digs y<=300) (h:18<(zE x).length\/18<(zE y).length) (w:zA) (hw:Wd w):
 qJ 69 #[St (zE x),St (zE y)] w (.tuple #[St (zE q),St (zE r),.int .i64 0]):=by
 have hb:=λW=>zdh x y hx hy W;have hs:=λW=>ze8 x y h W;have r1:=λW=>zc3 x W (by omega);have r2:=λW=>zc3 y W (by omega);have l1:=zb4 (z:=x) (k:=100) (by omega) (by omega);have l2:=zb4 (z:=y) (k:=100) (by omega) (by omega);have hqd:digs q<=300:=by
  have hqa:q.natAbs<=x.natAbs:=by rw[<-hq,Int.natAbs_natCast];exact Nat.div_le_self _ _
  rw[za3 _ _ (by omega)] at hx⊢;exact Nat.lt_of_le_of_lt hqa hx
 have hrd:digs r<=300:=by
  have hra:r.natAbs<=x.natAbs:=by rw[<-hr,Int.natAbs_natCast];exact Nat.mod_le _ _
  rw[za3 _ _ (by omega)] at hx⊢;exact Nat.lt_of_le_of_lt hra hx
 have lr:=zd6 (B:=B9) (by decide) (Nat.mod_le x.natAbs y.natAbs);have hyn:(zE y==[48])=false:=by rw[beq_eq_false_iff_ne,<-zb9];exact λh=>by have:=zdo h;omega
 have hne:¬zE y=[48]:=by simpa using hyn
 have hm0:y.natAbs≠0:=by omega
 have lq:=zd6 (B:=B9) (by decide) (Nat.div_le_self x.natAbs y.natAbs);have HB:=hid hb;clear hb;have HS:=hid hs;clear hs hx hy h;have HW:=hid hw;clear hw;have R1:=hid r1;have R2:=hid r2;clear r1 r2;have S1:=hid hq;have S2:=hid hr;clear hq hr;go_enter Tryz.func69,Tryz.ntmps69;go_wp21;refine zzM (HB.out w) λw1 hB1=>?_;go_wp21;refine(HS.out w1).mono ?_;rintro e w2 ⟨rfl,rfl⟩;go_wp21;refine(R1.out w1).mono ?_;rintro e w2 ⟨vx,rfl,hvx,hb2⟩;have hB2:=hB1.trans (hb2.mono hB1.size);clear hb2 hB1;obtain⟨px,kx,cx,rfl, -⟩:=zbx hvx;have HVX:=hid hvx;clear hvx;go_wp21;refine(R2.out w2).mono ?_;rintro e w3 ⟨vy,rfl,hvy,hb3⟩;have hvx:=HVX.out.below hb3;have hB3:=hB2.trans (hb3.mono hB2.size);clear hb3 hB2 HVX;obtain⟨py,ky,cy,rfl, -⟩:=zbx hvy;have HVX:=hid hvx;have HVY:=hid hvy;clear hvx hvy;have hby2:decide (y<0)=false:=by simp;omega
 have hbx2:decide (x<0)=false:=by simp;omega
 rw[hby2,hbx2] at*
 clear hbx2 hby2;go_wp21;have hB4:=(hB3.alloc hB3.size (.cells #[.bool false,.slice px kx cx] 150)).alloc (by have:=hB3.size;simp;omega) (.cells #[.bool false,.slice py ky cy] 150);have hb4:qL w3 ((w3.alloc (.cells #[.bool false,.slice px kx cx] 150)).alloc (.cells #[.bool false,.slice py ky cy] 150)):=((zM _ _).alloc (zN _) _).alloc (by simp) _;have b1k:=(Below.heap_alloc (w3.alloc (.cells #[.bool false,.slice px kx cx] 150)) (.cells #[.bool false,.slice py ky cy] 150) w3.heap.size (by simp)).trans (zG w3 (.cells #[.bool false,.slice px kx cx] 150));have b2k:=zG (w3.alloc (.cells #[.bool false,.slice px kx cx] 150)) (.cells #[.bool false,.slice py ky cy] 150);rw[zH] at b2k;refine(znf (.slice px kx cx) (.slice py ky cy) _ _ _ (HVX.out.below hb4) (HVY.out.below hb4) (by omega) (by omega) hm0).mono ?_;rintro e w5 ⟨v1,v2,rfl,hs1,hs2,hb5⟩;obtain⟨p1,k1,c1,rfl, -⟩:=zbx hs1;obtain⟨p2,k2,c2,rfl,hk2⟩:=zbx hs2;clear hk2;have hB5:=hB4.trans (hb5.mono hB4.size);have b1k:=(hb5.block w3.heap.size (by simp only[zH];omega)).trans b1k;have b2k:=(hb5.block (w3.heap.size+1) (by simp only[zH];omega)).trans b2k;have c1k:w5.cell? ⟨w3.heap.size,0,none⟩=some (.bool false):=by simp[World.cell?,b1k]
 have c2k:w5.cell? ⟨w3.heap.size+1,0,none⟩=some (.bool false):=by simp[World.cell?,b2k]
 have lz:w3.heap.size+1<w5.heap.size:=(Array.getElem?_eq_some_iff.1 b2k).1;have HV1:=hid hs1;have HV2:=hid hs2;clear hb4 hB4 hb5 hs1 hs2 hB3 HVX HVY b1k b2k;have rs:=zez (false !=false) (.slice p1 k1 c1) (x.natAbs/y.natAbs) w5 (HW.out.below hB5) HV1.out (by omega);rw[show sgn (false !=false) (x.natAbs/y.natAbs)=q from S1.out,zcf hqd,zcg hqd] at rs;rw[Bool.bne_false] at rs;have RS:=hid rs;clear rs;go_wp21;refine zzM RS.out λw6 hb6=>?_;have hB6:=hB5.trans (hb6.mono hB5.size);have d1:=(hb6.cell (p:=⟨w3.heap.size,0,none⟩) (by show w3.heap.size<w5.heap.size;omega)).trans c1k;have d2:=(hb6.cell (p:=⟨w3.heap.size+1,0,none⟩) lz).trans c2k;have rt:=zez false (.slice p2 k2 c2) (x.natAbs%y.natAbs) w6 (HW.out.below hB6) (HV2.out.below hb6) (by omega);rw[show sgn false (x.natAbs%y.natAbs)=r from S2.out,zcf hrd,zcg hrd] at rt;have RT:=hid rt;clear rt hb6 c1k c2k hB5;go_wp21;refine zzM RT.out λw7 hb7=>?_;have hB7:=hB6.trans (hb7.mono hB6.size);clear hb7 hB6;go_wp21;go_ret3;exact⟨rfl,hB7⟩
theorem zzn (a b:Nat) (hb:0<b) (ha:(zD a).length<=300) (hb3:(zD b).length<=300) (w:zA) (hw:Wd w):
 qJ 69 #[St (zD a),St (zD b)] w (.tuple #[St (zD (a/b)),St (zD (a%b)),.int .i64 0]):=by
 have e1:digs (a:Int)<=300:=by rw[zd9];exact ha
 have e2:digs (b:Int)<=300:=by rw[zd9];exact hb3
 rw[<-Str.zad a,<-Str.zad b,<-Str.zad (a/b),<-Str.zad (a%b)];by_cases hz:a%b=0
 ·rw[hz,show zE ((0:Nat):Int)=[48] from zb9]
  refine zky a b ((a/b:Nat):Int) ?_ (by omega) e1 e2 w hw;have:=Nat.div_add_mod a b;rw[hz,Nat.add_zero,Nat.mul_comm] at this;rw[<-Int.natCast_mul,this]
 by_cases h:(zE a).length<=18/\(zE b).length<=18
 ·have hq:=Nat.div_le_self a b
  have hr:=Nat.mod_le a b;exact z4o a b ((a/b:Nat):Int) ((a%b:Nat):Int) (by omega) (by omega) (by rw[Int.ofNat_tdiv]) (by rw[Int.ofNat_tmod]) (by omega) (by omega) (by rw[Int.natAbs_natCast,Int.natAbs_natCast];exact hq) (by rw[Int.natAbs_natCast,Int.natAbs_natCast];exact hr) h.1 h.2 w hw
 ·exact z58 a b ((a/b:Nat):Int) ((a%b:Nat):Int) (by omega) (by omega) rfl rfl e1 e2 (by omega) w hw
theorem zzq (a b:Nat) (hb:0<b) (ha:(zD a).length<=300) (hb3:(zD b).length<=300) (w:zA) (hw:Wd w):
 qJ 232 #[St (zD a),St (zD b)] w (.tuple #[St (zD (a/b)),St (zD (a%b))]):=by
 have hd:=zzn a b hb ha hb3 w hw;generalize zD a=x at*
 generalize zD b=y at*
 generalize zD (a/b)=q at*
 generalize zD (a%b)=r at*
 have HD:=hid hd;clear hd;go_enter Tryz.func232,Tryz.ntmps232;go_wp21;refine zzM HD.out λw1 hb1=>?_;have B1:=hid hb1;clear hb1;go_wp21;go_ret2;exact⟨rfl,B1.out⟩
theorem zs4 (x y:Nat) (hx:(zD x).length<=300) (hy:(zD y).length<=300) (hxy:(zD (x*y)).length<=300) (w:zA) (hw:Wd w):
 qJ 163 #[St (zD x),St (zD y)] w (St (zD (x*y))):=by
 have:=z6d (x:Int) (y:Int) (by rw[zd9];exact hx) (by rw[zd9];exact hy) (by rw[<-Int.natCast_mul,zd9];exact hxy) w hw;rwa [<-Int.natCast_mul,Str.zad,Str.zad,Str.zad] at this
theorem zya {F:Fence} {n:Nat} {P:Program} {ops:Array Oper} {rest:List Oper} {o:Oper} {a:Act} {w:zA} {Q:Exit->Act->zA->Prop} (hgd:o.guard=none) (ty:TypeId) (x:Operand) (ho:o.op=.load ty x)
 (g:Nat) (hx:a.eval x=.pointer (some ⟨g,0,none⟩)) (t:TypeId) (cs:Array Value) (fr:Nat×Nat) (d:TypeDesc) (hg:w.heap[g]? =some (.cells cs t fr))
 (hu:P.underlying ty=some d) (hd:(match d with| .struct _| .array _ _=>true|_=>false)=true) (hi:(P.info? ty).map (·.size)=some cs.size)
 (h:wpListIn F n P ops Q rest (a.put o.dst (.agg cs)) w):wpListIn F n P ops Q (o::rest) a w:=by
 refine wpListIn_plain hgd λK hK'=>?_;unfold Oper.wpIn;refine⟨?_,?_⟩
 ·simp[Oper.about,ho]
 ·rw[Oper.semAt_plain F _ _ (by rw[ho];intro c hc';cases hc')]
  simp only[execOp,ho,hx,Instr.loadAt,Instr.sureAddr,Sem.run_bind,Sem.run_pure,Result.andThen_ok,run_loadVar_row w g t ty cs fr d hg hu hd hi];exact hK' _ _ h
def sqY:Nat->Nat->Nat->List (Nat×Nat)
 |0,_,_=>[]
 |f+1,i,l=>if 25<=i then[] else if prN i*prN i∣l then(prN i,l/(prN i*prN i))::sqY f i (l/(prN i*prN i)) else sqY f (i+1) l
structure SqY (i l:Nat) (Y:List (Nat×Nat)):Prop where
 out:∃f,25-i+l<=f/\Y=sqY f i l
theorem z65 (i l:Nat):∃Y,SqY i l Y:=⟨_,⟨_,zN _,rfl⟩⟩
theorem SqY.done {l:Nat} {Y:List (Nat×Nat)} (h:SqY 25 l Y):Y=[]:=by
 obtain⟨f, -,e⟩:=h.out;subst e
 cases f with
 |zero=>rfl
 |succ f=>rw[sqY,if_pos (by omega)]
theorem SqY.skip {i l:Nat} {Y:List (Nat×Nat)} (h:SqY i l Y) (hi:i<25) (hd:¬prN i*prN i∣l):SqY (i+1) l Y:=by
 obtain⟨f,hf,e⟩:=h.out
 cases f with
 |zero=>omega
 |succ f=>
  rw[sqY,if_neg (by omega),if_neg hd] at e;exact⟨f,by omega,e⟩
theorem SqY.take {i l:Nat} {Y:List (Nat×Nat)} (h:SqY i l Y) (hi:i<25) (hl:0<l) (hd:prN i*prN i∣l):∃Y',Y=(prN i,l/(prN i*prN i))::Y'/\SqY i (l/(prN i*prN i)) Y':=by
 obtain⟨f,hf,e⟩:=h.out;have h2:=(zw4 i hi).1;have hpp:4<=prN i*prN i:=Nat.mul_le_mul h2 h2;have hlt:l/(prN i*prN i)<l:=Nat.div_lt_self hl (by omega)
 cases f with
 |zero=>omega
 |succ f=>
  rw[sqY,if_neg (by omega),if_pos hd] at e;exact⟨_,e,f,by omega,rfl⟩
def sqX (l:Nat) (Y:List (Nat×Nat)):Nat->Nat
 |0=>l
 |k+1=>(Y[k]?.getD (0,0)).2
def sqC (Y:List (Nat×Nat)):Nat->Nat
 |0=>1
 |k+1=>sqC Y k*(Y[k]?.getD (0,0)).1
theorem zy3 (l:Nat) (y:Nat×Nat) (Y:List (Nat×Nat)):∀k,sqX l (y::Y) (k+1)=sqX y.2 Y k
 |0=>rfl
 |_+1=>rfl
theorem zza (y:Nat×Nat) (Y:List (Nat×Nat)):∀k,sqC (y::Y) (k+1)=y.1*sqC Y k
 |0=>by simp[sqC]
 |k+1=>by
  rw[sqC,zza y Y k,sqC,Nat.mul_assoc];rfl
theorem SqY.law {f:Nat}:∀{i l:Nat} {Y:List (Nat×Nat)},i<=25->0<l->25-i+l<=f->SqY i l Y->
 (∀k,k<=Y.length->sqC Y k*sqC Y k*sqX l Y k=l)/\∀c,zro (prL.drop i) (c,l)=(c*sqC Y Y.length,sqX l Y Y.length):=by
 induction f with
 |zero=>intro i l Y hi hl hf;omega
 |succ f ih=>
  intro i l Y hi hl hf h;by_cases h25:i=25
  ·subst h25
   obtain rfl:=h.done;refine⟨λk hk=>?_,λc=>?_⟩
   ·obtain rfl:k=0:=by simpa using hk
    simp[sqC,sqX]
   ·show zro [] (c,l)=_
    simp[zro,sqC,sqX]
  ·have hlt:i<25:=by omega
   obtain⟨h2, -⟩:=zw4 i hlt;by_cases hd:prN i*prN i∣l
   ·obtain⟨Y',rfl,h'⟩:=h.take hlt hl hd
    have hpp:4<=prN i*prN i:=Nat.mul_le_mul h2 h2;have hl1:0<l/(prN i*prN i):=Nat.div_pos (Nat.le_of_dvd hl hd) (by omega);have hl2:l/(prN i*prN i)<l:=Nat.div_lt_self hl (by omega);obtain⟨a1,a2⟩:=ih hi hl1 (by omega) h';have e:prN i*prN i*(l/(prN i*prN i))=l:=Nat.mul_div_cancel' hd;refine⟨λk hk=>?_,λc=>?_⟩
    ·cases k with
     |zero=>simp[sqC,sqX]
     |succ k=>
      rw[zy3,zza];have:=a1 k (by simpa using hk);dsimp only;generalize sqC Y' k=C at*
      generalize sqX (l/(prN i*prN i)) Y' k=X at*
      generalize prN i=p at*
      generalize l/(p*p)=m at*
      subst this;rw[<-e];ac_rfl
    ·have hdrop:=z79 i hlt
     have h3:=a2 (c*prN i);rw[hdrop] at h3⊢;show zro (prL.drop (i+1)) (zkk (prN i) (c,l))=_;rw[z7m h2 hl hd];have h4:zro (prL.drop (i+1)) (zkk (prN i) (c*prN i,l/(prN i*prN i)))=_:=h3;rw[h4,yA,zy3,zza,Nat.mul_assoc]
   ·have h':=h.skip hlt hd
    obtain⟨a1,a2⟩:=ih (i:=i+1) (by omega) hl (by omega) h';refine⟨a1,λc=>?_⟩;rw[z79 i hlt];show zro (prL.drop (i+1)) (zkk (prN i) (c,l))=_;rw[z78 hd];exact a2 c
theorem ycl {k:Nat} {y:Nat×Nat} {Y Y':List (Nat×Nat)} (h:Y.drop k=y::Y'):Y[k]? =some y/\k<Y.length/\Y.drop (k+1)=Y':=by
 have h1:k<Y.length:=by
  refine Classical.byContradiction λhn=>?_;rw[List.drop_eq_nil_of_le (by omega)] at h;cases h
 rw[List.drop_eq_getElem_cons h1] at h;injection h with h2 h3;exact⟨by rw[yB h1,h2],h1,h3⟩
theorem yc3 (x m:Nat):(zD (x%m)==[48])=decide (m∣x):=by
 have z:zD 0=[48]:=by rw[zae (by omega)];rfl
 by_cases h:m∣x
 ·rw[decide_eq_true h,Nat.mod_eq_zero_of_dvd h,z];rfl
 ·rw[decide_eq_false h,beq_eq_false_iff_ne,<-z]
  exact λe=>h (Nat.dvd_of_mod_eq_zero (zfk e))
theorem z9g (n:Nat) (hn:1<=n) (Bs N:Nat) (Y:List (Nat×Nat)) (hY:SqY 0 N Y) (hN:0<N) (hN9:(zD N).length<=200) (Rd:Nat->zA->Prop)
 (hRd:∀k W,Rd k W->Wd W/\Pw W/\W.heap[Bs]? =some (.cells #[St (zD (sqX N Y k))] 9 (0,0))):
 ybu Fence.wide n zF 231 #[.pointer (some ⟨Bs,0,none⟩)] (λk W=>W.setCell ⟨Bs,0,none⟩ (St (zD (sqX N Y (k+1))))) Rd (λk args=>args= #[St (zD (Y[k]?.getD (0,0)).1),St (zD (sqX N Y (k+1)))]) Y.length:=by
 intro lp J Jx W hJr hJb hYl h0;refine callsIn_of_wp Tryz.func231 rfl trivial ?_ rfl;simp only[Tryz.ntmps231,List.size_toArray,yA,List.length_nil,Nat.reduceAdd,Nat.reduceSub,Array.replicate_succ,Array.replicate_zero,List.push_toArray,List.append_toArray,List.nil_append,List.cons_append];obtain⟨hwd,hpw,hbx⟩:=hRd 0 W (hJr 0 W h0);obtain⟨tt,fz,hblk⟩:=hpw.block;have HRd:=hid λk W h=>hRd k W (hJr k W h);clear hRd hJr;have HYL:=hid hYl;clear hYl;have HJB:=hid hJb;clear hJb hwd hpw hbx;have HLAW:=hid (SqY.law (f:=25-0+N) (by omega) hN (zN _) hY).1;have H0:=hid h0;clear h0;have HSY:=hid (show SqY 0 (sqX N Y 0) (Y.drop 0) from hY);clear hY;gi_wp2_with (refine zya rfl 259 (.global 1) rfl 1 rfl tt prV fz (.array 25 9) hblk (by kernel_rfl) rfl (by kernel_rfl) ?_);gi_loopw [9] (λi wr=>∃(j k:Nat),j<=25/\i=.int .i64 (j:Int)/\Hid (k<=Y.length/\SqY j (sqX N Y k) (Y.drop k))/\Hid (J k wr))
  (λi _=>25-(zL i).toNat)
 case atStart=>exact⟨0,0,by omega,rfl,hid ⟨zR _,HSY.out⟩,H0⟩
 case round=>
  clear H0 HSY hblk;obtain⟨j,k,hj,rfl,hS,hJ⟩:=hrel;by_cases hlt:j<25
  ·have hx:=λw=>z25 j hlt w
   obtain⟨g1,g2⟩:=zw4 j hlt;rw[z1r j hlt] at hx;obtain⟨p,hp⟩:=zzX (prN j);have hpp:p*p<=97*97:=by rw[hp];exact Nat.mul_le_mul g2 g2
   have hml:=hid (zs4 p p (zO (zki (k:=5) (by omega) (by omega)) (by omega)) (zO (zki (k:=5) (by omega) (by omega)) (by omega)) (zO (zki (k:=5) (by omega) (by omega)) (by omega)) wr (HRd.out k wr hJ.out).1);rw[<-hp] at hx g1;have HP:=hid hp;have HPP:=hid (⟨hpp,g1⟩:_/\_);clear hpp g1 g2 hp;generalize hps:zD p=ps at*
   generalize hpq:zD (p*p)=pq at*
   have HPS:=hid hps;have HPQ:=hid hpq;clear hps hpq;gi_wp2_with fail;refine⟨trivial,(callsIn_wide.2 hml.out).mono ?_⟩;rintro e w2 ⟨rfl,hb2⟩;have hJ2:=hid (HJB.out k wr w2 hJ.out hb2);clear hb2 hml hJ hx;gi_wp2_with fail;gi_loopg [] (Y.length-k) (λm wr=>∃(k:Nat),Hid (k<=Y.length/\Y.length-k=m/\SqY j (sqX N Y k) (Y.drop k))/\Hid (J k wr))
   case atStart=>exact⟨k,hid ⟨hS.out.1,rfl,hS.out.2⟩,hJ2⟩
   case round=>
    clear hS hJ2;obtain⟨k,hS,hJ⟩:=hrel;obtain⟨hk,hm,hsy⟩:=hS.out;obtain⟨x,hx⟩:=zzX (sqX N Y k);have hx0:0<x/\x<=N:=by
     have:=HLAW.out k hk;rw[<-hx] at this;have h3:0<x:=yS λe=>by rw[e] at this;simp at this;omega
     refine⟨h3,?_⟩;rw[<-this];exact Nat.le_mul_of_pos_left _ (yS λe=>by rw[e] at this;simp at this;omega)
    rw[<-hx] at hsy;obtain⟨hwd, -,hbx⟩:=HRd.out k _ hJ.out;rw[<-hx] at hbx;have hlen:(zD x).length<=300:=zO ((zaf x 200 (by omega)).2 (Nat.lt_of_le_of_lt hx0.2 ((zaf N 200 (by omega)).1 hN9))) (by omega);have hquo:=zzq x (p*p) (Nat.mul_pos (by have:=HPP.out;omega) (by have:=HPP.out;omega)) hlen (zO (zki (k:=5) (by omega) (by have:=HPP.out;omega)) (by omega)) _ hwd;rw[HPQ.out] at hquo;have HQU:=hid hquo;have cb:wr.cell? ⟨Bs,0,none⟩=some (St (zD x)):=by rw[zJ hbx];rfl
    clear hquo hwd hbx;have hdv:=yc3 x (p*p);by_cases hd:p*p∣x
    ·rw[decide_eq_true hd] at hdv
     obtain⟨Y',e1,e2⟩:=hsy.take hlt hx0.1 (by rw[<-HP.out];exact hd);rw[<-HP.out] at e1 e2;obtain⟨a1,a2,a3⟩:=ycl e1;have hX1:sqX N Y (k+1)=x/(p*p):=by show(Y[k]?.getD (0,0)).2=_;rw[a1];rfl
     have hS2:=hid (⟨a2,by omega,by rw[hX1,a3];exact e2⟩:k+1<=Y.length/\Y.length-(k+1)=gk-1/\SqY j (sqX N Y (k+1)) (Y.drop (k+1)));have hYL:=λW h=>HYL.out k _ W h a2 rfl;rw[hX1,a1] at hYL;dsimp only[Option.getD_some] at hYL;rw[HPS.out] at hYL;have HM:=hid (show 0<gk by omega);clear e1 e2 a1 a2 a3 hd hsy hx0 hlen hm hk hS;generalize zD (x/(p*p))=q at*
     generalize zD (x%(p*p))=r at*
     generalize zD x=xs at*
     have HYL2:=hid hYL;clear hYL hX1 hx;gi_wp2_with fail;refine⟨trivial,(callsIn_wide.2 HQU.out).mono ?_⟩;rintro e w3 ⟨rfl,hb3⟩;have hJ3:=HJB.out k _ w3 hJ.out hb3;have hbx3:=(HRd.out k w3 hJ3).2.2;have fb:=Go.Joins.unfrozen_of_block hbx3 0;have cb3:w3.cell? ⟨Bs,0,none⟩=some (St (zD (sqX N Y k))):=by rw[zJ hbx3];rfl
     obtain⟨fn,tmps,assign,body,hy,hR⟩:=HYL2.out w3 hJ3;clear hbx3 hb3 hJ3 HQU HYL2;generalize zD (sqX N Y k)=xs3 at*
     gi_wp2_with fail;refine hR.mono ?_;rintro e W3 (⟨rfl,hJ3⟩|⟨rfl,hJx3⟩)
     ·have HJ3:=hid hJ3;clear hJ3
      gi_wp2;go_roundg (gk-1)
      case measure=>have:=HM.out;omega
      case rel=>exact⟨k+1,hS2,HJ3⟩
     ·have HJx3:=hid hJx3;clear hJx3
      gi_wp2;refine bodyPost_ret (results_none rfl _ _ _) rfl ?_;exact⟨⟨_,rfl⟩,.inr HJx3.out⟩
    ·rw[decide_eq_false hd] at hdv
     have hS2:=hid (⟨hk,hsy.skip hlt (by rw[<-HP.out];exact hd)⟩:k<=Y.length/\SqY (j+1) x (Y.drop k));rw[hx] at hS2;clear hd hsy hx0 hlen hm hk hS;generalize zD (x/(p*p))=q at*
     generalize zD (x%(p*p))=r at*
     generalize zD x=xs at*
     clear hx;gi_wp2_with fail;refine⟨trivial,(callsIn_wide.2 HQU.out).mono ?_⟩;rintro e w3 ⟨rfl,hb3⟩;have hJ3:=hid (HJB.out k _ w3 hJ.out hb3);clear hb3 HQU cb;gi_wp2_with fail;go_roundw
     case rel=>exact⟨j+1,k,by omega,by go_num,hS2,hJ3⟩
     case measure=>simp[zL];omega
  ·obtain rfl:j=25:=by omega
   obtain⟨hk,hsy⟩:=hS.out;have hkl:k=Y.length:=by
    have:=hsy.done;have h2:(Y.drop k).length=0:=by rw[this];rfl
    rw[List.length_drop] at h2;omega
   have hJ2:=hJ.out;rw[hkl] at hJ2;have HJ2:=hid hJ2;clear hsy hS hJ hkl hJ2 hk;gi_wp2;go_end0;exact⟨⟨_,rfl⟩,.inl HJ2.out⟩
theorem z8s (x:List UInt8) (w:zA):
 zC zF 164 #[St x] w λe w'=>e=.returned (.func (.func 231) #[] #[.pointer (some ⟨w.heap.size,0,none⟩)])/\w.alloc (.cells #[St x] 9)=w':=by
 go_enter Tryz.func164,Tryz.ntmps164;go_wp2;go_ret;exact⟨rfl,rfl⟩
theorem z67 {g:Operand} {ps:Array Tmp} {assign body:Code} {Q:Exit->Act->zA->Prop} {a:Act} {w:zA}
 (Bs N:Nat) (Y:List (Nat×Nat)) (hY:SqY 0 N Y) (hN:0<N) (hN9:(zD N).length<=200)
 (hg:a.eval g=.func (.func 231) #[] #[.pointer (some ⟨Bs,0,none⟩)]) (hps:ps.size=2)
 {B:Nat} (hB:B<=w.heap.size) (I:Nat->zA->Prop) (Ix:Code->Nat->zA->Prop) (hI:∀k W W',I k W->CellsKept W W'->zB B W W'->I k W') (hIx:∀c k W W',Ix c k W->CellsKept W W'->zB B W W'->Ix c k W')
 (hRd:∀k W,I k W->Wd W/\Pw W/\W.heap[Bs]? =some (.cells #[St (zD (sqX N Y k))] 9 (0,0))) (h0:I 0 w)
 (I':Nat->zA->Prop) (hI':∀k W W',I' k W->CellsKept W W'->zB B W W'->I' k W') (hBs:Bs<w.heap.size) (hTI:∀k W,I k W->I' k (W.setCell ⟨Bs,0,none⟩ (St (zD (sqX N Y (k+1)))))) (a₁:Nat->Act)
 (hassign:∀(l k:Nat) (W:zA) (K:Act->zA->Prop),K (a₁ k) W->
   assign.wpIn (Fence.wide.inRound l) 1 zF (Exit.then K (λ_ _ _=>False)) {tmps:=(ps.zip #[St (zD (Y[k]?.getD (0,0)).1),St (zD (sqX N Y (k+1)))]).foldl (λt (p,v)=>t.setIfInBounds p v) a.tmps,defers:=[]} W)
 (hbody:∀(l k:Nat) (W:zA),w.heap.size<=l->I' k W->k<Y.length->body.wpIn (Fence.wide.inRound l) 1 zF (zja w.heap.size I Ix k W) (a₁ k) W)
 (hdone:∀(D:Nat) (W:zA),w.heap.size<=D->I Y.length W->W.heap[D]? =some (.deferred (some []))->Q .normal {a with defers:={target:=.collected D,args:= #[]}::a.defers} W)
 (hstop:∀(D:Nat) (c:Code) (k:Nat) (W:zA),w.heap.size<=D->Ix c k W->W.heap[D]? =some (.deferred (some []))->c.wpIn Fence.wide 3 zF Q {a with defers:={target:=.collected D,args:= #[]}::a.defers} W):
 (Code.rangeFunc g ps assign body).wpIn Fence.wide 3 zF Q a w:=
 z95 (n:=3) rfl (by omega) hg trivial (enters_of Tryz.func231 (by kernel_rfl) rfl) (z9g 2 (by omega) Bs N Y hY hN hN9 I hRd)
  (λk args h=>by subst h;exact hps.symm) hB I Ix hI hIx (λ_ _ h=>h) h0 I' hI' (λk W b hb=>yE W ⟨Bs,0,none⟩ _ b (by show b≠Bs;omega)) hTI (λk _=>a₁ k)
  (λl k args W K h hK=>by subst h;exact hassign l k W K hK)
  (λl k args W h1 h2 h3 h4 h5=>hbody l k W h1 h3 h4)
  hdone hstop
structure NmS (w:zA) (A B:Nat) (u v:List UInt8) (N:Nat) (Y:List (Nat×Nat)) (k j:Nat) (W:zA):Prop where
 bel:qL w W
 hp:W.heap[A]? =some (.cells #[St u,St v] 195 (0,0))
 hc:Boxed W B 9 (St (zD (sqC Y k)))
 hl:Boxed W (B+1) 9 (St (zD (sqX N Y k)))
 hm:Boxed W (B+2) 9 (St (zD (sqX N Y j)))
 lt:w.heap.size<=A/\A<B
theorem NmS.keep {w:zA} {A B:Nat} {u v:List UInt8} {N:Nat} {Y:List (Nat×Nat)} {k j:Nat} {W W':zA} (h:NmS w A B u v N Y k j W) (hc:CellsKept W W') (hb:zB w.heap.size W W'):NmS w A B u v N Y k j W':=
 ⟨h.bel.trans hb,hc _ _ _ _ h.hp,hc.boxed h.hc,hc.boxed h.hl,hc.boxed h.hm,h.lt⟩
theorem NmS.next {w:zA} {A B:Nat} {u v:List UInt8} {N:Nat} {Y:List (Nat×Nat)} {k j:Nat} {W W':zA} (h:NmS w A B u v N Y k j W) (hb:qL W W'):NmS w A B u v N Y k j W':=h.keep (zac hb) (hb.mono h.bel.size)
theorem NmS.turn {w:zA} {A B:Nat} {u v:List UInt8} {N:Nat} {Y:List (Nat×Nat)} {k j:Nat} {W:zA} (h:NmS w A B u v N Y k j W) (i:Nat):NmS w A B u v N Y k i (W.setCell ⟨B+2,0,none⟩ (St (zD (sqX N Y i)))):=
 ⟨h.bel.setCell (p:=⟨B+2,0,none⟩) (by have:=h.lt;show w.heap.size<=B+2;omega) _,(yE W ⟨B+2,0,none⟩ _ A (by have:=h.lt;show A≠B+2;omega)).trans h.hp,h.hc.other (by omega) _,h.hl.other (by omega) _,Boxed.put h.hm _,h.lt⟩
theorem NmS.setc {w:zA} {A B:Nat} {u v:List UInt8} {N:Nat} {Y:List (Nat×Nat)} {k j:Nat} {W:zA} (h:NmS w A B u v N Y k j W) (x y:List UInt8) (hx:x=zD (sqC Y (k+1))) (hy:y=zD (sqX N Y (k+1))):NmS w A B u v N Y (k+1) j ((W.setCell ⟨B,0,none⟩ (St x)).setCell ⟨B+1,0,none⟩ (St y)):=by
 subst hx;subst hy;have hl:=h.lt
 exact⟨(h.bel.setCell (p:=⟨B,0,none⟩) (by show w.heap.size<=B;omega) _).setCell (p:=⟨B+1,0,none⟩) (by show w.heap.size<=B+1;omega) _,
  (yE _ ⟨B+1,0,none⟩ _ A (by show A≠B+1;omega)).trans ((yE W ⟨B,0,none⟩ _ A (by show A≠B;omega)).trans h.hp),
  (Boxed.put h.hc _).other (by omega) _,Boxed.put (h.hl.other (by omega) _) _,(h.hm.other (by omega) _).other (by omega) _,hl⟩
structure NmD (w:zA) (A B D:Nat) (u v c l:List UInt8) (W:zA):Prop where
 bel:qL w W
 hp:W.heap[A]? =some (.cells #[St u,St v] 195 (0,0))
 hc:Boxed W B 9 (St c)
 hl:Boxed W (B+1) 9 (St l)
 hd:W.heap[D]? =some (.deferred (some []))
 lt:w.heap.size<=A/\A<B
theorem NmD.next {w:zA} {A B D:Nat} {u v c l:List UInt8} {W W':zA} (h:NmD w A B D u v c l W) (hb:qL W W'):NmD w A B D u v c l W':=
 have k:=λ(j:Nat) (o:Obj) (ho:W.heap[j]? =some o)=>(hb.block j (Array.getElem?_eq_some_iff.1 ho).1).trans ho
 ⟨h.bel.trans (hb.mono h.bel.size),k _ _ h.hp,k _ _ h.hc,k _ _ h.hl,k _ _ h.hd,h.lt⟩
theorem NmD.v {w:zA} {A B D:Nat} {u v c l:List UInt8} {W:zA} (h:NmD w A B D u v c l W):W.cell? ⟨A,1,none⟩=some (St v):=by rw[zJ h.hp];rfl
theorem NmD.set {w:zA} {A B D:Nat} {u v c l:List UInt8} {W:zA} (h:NmD w A B D u v c l W) (x y:List UInt8):NmD w A B D u v x y ((W.setCell ⟨B,0,none⟩ (St x)).setCell ⟨B+1,0,none⟩ (St y)):=by
 have hl:=h.lt;have e1:D≠B:=λe=>by have:=h.hd;rw[e,show W.heap[B]? =_ from h.hc] at this;cases this
 have e2:D≠B+1:=λe=>by have:=h.hd;rw[e,show W.heap[B+1]? =_ from h.hl] at this;cases this
 exact⟨(h.bel.setCell (p:=⟨B,0,none⟩) (by show w.heap.size<=B;omega) _).setCell (p:=⟨B+1,0,none⟩) (by show w.heap.size<=B+1;omega) _,
  (yE _ ⟨B+1,0,none⟩ _ A (by show A≠B+1;omega)).trans ((yE W ⟨B,0,none⟩ _ A (by show A≠B;omega)).trans h.hp),
  (Boxed.put h.hc _).other (by omega) _,Boxed.put (h.hl.other (by omega) _) _,(yE _ ⟨B+1,0,none⟩ _ D e2).trans ((yE W ⟨B,0,none⟩ _ D e1).trans h.hd),hl⟩
theorem z69 (x:ByteArray) (u v s1 r c2 cf lf:List UInt8) (N:Nat) (Y:List (Nat×Nat)) (hY:SqY 0 N Y) (hN:0<N) (hN9:(zD N).length<=200) (b:Bool) (hu:(u==[48])=false) (hl:17<(u.length:Int)+v.length) (hl0:u.length<=1000/\v.length<=1000)
 (CK:Hid (∀W:zA,Wd W->zC zF 159 #[.slice (some ⟨W.heap.size,0,none⟩) 1 1,.slice (some ⟨W.heap.size+1,0,none⟩) 1 1] ((W.alloc (.cells #[.string x] 23)).alloc (.cells #[.string x] 23)) λe w'=>e=.returned (.int .i64 0)/\zB W.heap.size W w'))
 (O:Hid (qK 160 #[.string x] (.agg #[St u,St v])))
 (M0:Hid (qK 163 #[St u,St v] (St (zD N))))
 (M1:Hid (∀k,k<Y.length->qK 163 #[St (zD (sqC Y k)),St (zD (Y[k]?.getD (0,0)).1)] (St (zD (sqC Y (k+1))))))
 (EX:Hid (qK 165 #[St (zD (sqX N Y Y.length))] (.tuple #[St r,.bool b])))
 (M2:Hid (b=true->qK 163 #[St (zD (sqC Y Y.length)),St r] (St c2)))
 (HCF:Hid (cf=(if b then c2 else zD (sqC Y Y.length))/\lf=(if b then[49] else zD (sqX N Y Y.length))))
 (FR:Hid (qK 166 #[St cf,St v] (St s1)))
 (w:zA) (HW:Hid (Wd w)) (HP:Hid (Pw w)):
 qJ 96 #[.string x] w (.tuple #[St s1,St lf,.int .i64 0]):=by
 refine(callsIn_wide (n:=3)).1 ?_;refine callsIn_of_wp_marks Tryz.func96 rfl trivial ?_ rfl;simp only[Tryz.ntmps96,List.size_toArray,yA,List.length_nil,Nat.reduceAdd,Nat.reduceSub,Array.replicate_succ,Array.replicate_zero,List.push_toArray,List.append_toArray,List.nil_append,List.cons_append];have hck:=CK.out w HW.out;have HCK:=hid hck;clear hck CK;have hwl:IntKind.i64.wrap ((u.length:Int)+v.length)=(u.length:Int)+v.length:=zI _ ⟨by omega,by omega⟩;have HWL:=hid hwl;clear hwl;gi_wp2_with fail;refine⟨trivial,(callsIn_wide.2 HCK.out).mono ?_⟩;rintro e w1 ⟨rfl,hb1⟩;have HB1:=hid hb1;clear hb1 HCK;gi_wp2_with fail;refine⟨trivial,(callsIn_wide.2 (O.out w1 (HW.out.below HB1.out))).mono ?_⟩;rintro e w2 ⟨rfl,hb2⟩;have HB2:=qT HB1 hb2;clear hb2 HB1;obtain⟨w3,hw3⟩:=zzX (w2.alloc (.cells #[St u,St v] 195));have ha:qL w2 w3:=by rw[hw3];exact(zM _ w2).alloc (zN _) _
 have A3:w3.heap[w2.heap.size]? =some (.cells #[St u,St v] 195 (0,0)):=by rw[hw3];exact zG w2 _
 have HB3:=qT HB2 ha;have c0:w3.cell? ⟨w2.heap.size,0,none⟩=some (St u):=by rw[zJ A3];rfl
 have c1:w3.cell? ⟨w2.heap.size,1,none⟩=some (St v):=by rw[zJ A3];rfl
 rw[hw3] at c0 c1;have HA3:=hid A3;have HA:=hid HB2.out.size;have HW3:=hid hw3;clear hw3 ha A3;have hlt:decide ((u.length:Int)+v.length<=17)=false:=decide_eq_false (by omega);gi_wp2_with fail;rw[<-HW3.out];clear c0 c1 hlt;refine⟨trivial,(callsIn_wide.2 (M0.out w3 (HW.out.below HB3.out))).mono ?_⟩;rintro e w4 ⟨rfl,hb4⟩;have HB4:=qT HB3 hb4;have HA4:=hid (zac hb4 _ _ _ _ HA3.out);have HLT:=hid (show w2.heap.size<w4.heap.size by have:=hb4.size;have:=(Array.getElem?_eq_some_iff.1 HA3.out).1;omega);clear hb4 HA3 HW3;have hb1:=Boxed.new w4 9 (St [49]);have hb2:=Boxed.new (w4.alloc (.cells #[St [49]] 9)) 9 (St (zD N));have hb3:=Boxed.new ((w4.alloc (.cells #[St [49]] 9)).alloc (.cells #[St (zD N)] 9)) 9 (St (zD N));have hb12:=(hb1.alloc (.cells #[St (zD N)] 9)).alloc (.cells #[St (zD N)] 9);have hb22:=hb2.alloc (.cells #[St (zD N)] 9);have hbel:qL w4 (((w4.alloc (.cells #[St [49]] 9)).alloc (.cells #[St (zD N)] 9)).alloc (.cells #[St (zD N)] 9)):=(((zM _ w4).alloc (zN _) _).alloc (by simp) _).alloc (by simp;omega) _;simp only[zH] at hb2 hb22 hb3;obtain⟨W0,hW0⟩:=zzX (((w4.alloc (.cells #[St [49]] 9)).alloc (.cells #[St (zD N)] 9)).alloc (.cells #[St (zD N)] 9));have hsz:W0.heap.size=w4.heap.size+1+1+1:=by rw[hW0];simp
 rw[<-hW0] at hb12 hb22 hb3 hbel;have d1:zD 1=[49]:=by rw[zae (by omega)];rfl
 have HS0:Hid (NmS w w2.heap.size w4.heap.size u v N Y 0 0 W0):=hid ⟨HB4.out.trans (hbel.mono HB4.out.size),zac hbel _ _ _ _ HA4.out,by rw[show sqC Y 0=1 from rfl,d1];exact hb12,hb22,hb3,HA.out,HLT.out⟩;have HSZ:=hid hsz;have HW0:=hid hW0.symm;clear hb1 hb2 hb3 hb12 hb22 hbel hsz hW0 d1;gi_wp2_with (refine⟨trivial,?_⟩;gi_at_call 164;refine(callsIn_wide.2 (z8s _ _)).mono ?_;rintro e w' ⟨rfl,rfl⟩);have h9:=HW0.out;rw[h9];clear h9 HW0;refine z67 (w4.heap.size+1+1) N Y hY hN hN9 rfl rfl (B:=w.heap.size) HS0.out.bel.size (λk W=>NmS w w2.heap.size w4.heap.size u v N Y k k W) (λ_ _ _=>False)
  (λk W W' h hk hb=>h.keep hk hb) (λ_ _ _ _ h _ _=>h) (λk W h=>⟨HW.out.below h.bel,HP.out.below h.bel,h.hm⟩) HS0.out
  (λk W=>NmS w w2.heap.size w4.heap.size u v N Y k (k+1) W) (λk W W' h hk hb=>h.keep hk hb) (by rw[HSZ.out];omega) (λk W h=>h.turn (k+1)) ?a1 ?assign ?body ?done ?stop
 case stop=>exact λ_ _ _ _ _ h _=>h.elim
 case assign=>
  intro lp k W K hK;gi_wp2;exact hK
 case body=>
  rintro lp k W hlp hI hk;have HI:=hid hI;have c0:=hI.hc.cell;have hm:=hid (M1.out k hk W (HW.out.below hI.bel));generalize hpe:zD (Y[k]?.getD (0,0)).1=pe at*
  clear hI hpe;gi_wp2_with fail;refine⟨trivial,(CallsIn.inRound lp (callsIn_wide.2 hm.out)).mono ?_⟩;rintro e W2 ⟨rfl,hb⟩;have hI2:=HI.out.next hb;have f0:=hI2.hc.frozen;have f1:=hI2.hl.frozen;have g0:=hI2.hc.cell;have g1:=hI2.hl.cell;have g2:=(zau W2 (b:=w4.heap.size+1) (b':=w4.heap.size) 0 0 (St (zD (sqC Y (k+1)))) (by omega)).trans g1;have HI2:=hid hI2;have HBB:=hid hb;clear hI2 hb hm c0 HI;gi_wp2_with fail;exact⟨(((za0 HBB.out).from _).trans ((KeepsOthers.setCell W2 _ _).from _)).trans ((KeepsOthers.setCell _ _ _).from _),HI2.out.setc _ _ rfl rfl⟩
 case done=>
  rintro D W hD hI hK;have HD:Hid (NmD w w2.heap.size w4.heap.size D u v (zD (sqC Y Y.length)) (zD (sqX N Y Y.length)) W):=hid ⟨hI.bel,hI.hp,hI.hc,hI.hl,hK,hI.lt⟩;have HDD:=hid (zO HS0.out.bel.size hD);have HC:=hid (EX.out W (HW.out.below hI.bel));clear hI hK HS0 HSZ HLT HA HA4 hD;generalize zD (sqC Y Y.length)=cc at*
  generalize zD (sqX N Y Y.length)=ll at*
  have c1:=HD.out.hl.cell;generalize w2.heap.size=A at*
  generalize w4.heap.size=B at*
  gi_step;gi_step;refine wpIn_wide.2 ?_;go_wp21;refine zzM HC.out λW1 hb=>?_;have HD1:=hid (HD.out.next hb);clear hb HC HD c1 EX;cases b
  case' true=>
   have c0:=HD1.out.hc.cell;have HM:=hid (M2.out rfl W1 (HW.out.below HD1.out.bel));clear M2;go_wp21;refine zzM HM.out λW2 hb=>?_;have hD2:=HD1.out.next hb;have f0:=hD2.hc.frozen;have f1:=hD2.hl.frozen;have g0:=hD2.hc.cell;have g1:=hD2.hl.cell;have g2:=(zau W2 (b:=B+1) (b':=B) 0 0 (St c2) (by omega)).trans g1;obtain⟨W3,hW3⟩:=zzX ((W2.setCell ⟨B,0,none⟩ (St c2)).setCell ⟨B+1,0,none⟩ (St [49]));have hD3:=hD2.set c2 [49];rw[<-hW3] at hD3;have HDX:=hid hD3;have HW3:=hid hW3.symm;clear hb hD2 hD3 hW3 c0 HD1 HM;go_wp21;have h9:=HW3.out;rw[show(W2.setCell ⟨B,0,none⟩ (.string ⟨c2.toArray⟩)).setCell ⟨B+1,0,none⟩ (.string ⟨#[49]⟩)=W3 from h9];clear h9 HW3 f0 f1 g0 g1 g2
  case' false=>
   have HDX:=HD1;clear M2 HD1;go_wp21
  all_goals
   obtain⟨h1,h2⟩:=HCF.out;simp only[if_true,if_false,Bool.false_eq_true] at h1 h2;rw[<-h1,<-h2] at HDX;clear h1 h2;refine zbl (λ_ W=>NmD w A B D u v cf lf W) (by kernel_rfl) (by kernel_rfl) (HDX.out.next (zM _ _).drew) ?_;refine qR (St cf) ?_ (hy:=λf W' hf h=>by have:=h.hc.cell;go_simp);refine qR (.pointer (some ⟨A,1,none⟩)) ?_;refine qR (St v) ?_ (hy:=λf W' hf h=>by have:=h.v;go_simp);simp only[zzQ]
   refine zar (St s1) (by rfl) (λf W' hf h C' hC'=>by
    have hg:=FR.out W' (HW.out.below h.bel);go_simp;refine zzM hg λw' hb=>?_;exact⟨rfl,hC' _ (h.next hb)⟩) ?_
   refine qR (St lf) ?_ (hy:=λf W' hf h=>by have:=h.hl.cell;go_simp);refine qR (St s1) ?_;simp only[zzQ];refine qR (St lf) ?_;refine qR (.int .i64 0) ?_;simp only[zzQ];refine zck λf W9 hf h=>?_;have HX:=hid h;clear h hf HDX;go_wp21;refine⟨by simp,.inl ⟨_,_,rfl,run_takeDeferred HX.out.hd,?_⟩⟩;refine⟨.tuple #[St s1,St lf,.int .i64 0],?_,rfl,zby HX.out.bel HDD.out HX.out.hd⟩;simp[results,Tryz.f96,go_sem]
theorem zxv {N:Nat} {Y:List (Nat×Nat)} (hN:0<N) (h:∀k,k<=Y.length->sqC Y k*sqC Y k*sqX N Y k=N) {k:Nat} (hk:k<=Y.length):sqC Y k*sqC Y k<=N/\sqC Y k<=N/\0<sqC Y k/\0<sqX N Y k/\sqX N Y k<=N:=by
 have e:=h k hk;have h1:0<sqC Y k:=yS λz=>by rw[z] at e;simp at e;omega
 have h2:0<sqX N Y k:=yS λz=>by rw[z] at e;simp at e;omega
 have h3:sqC Y k*sqC Y k<=N:=by rw[<-e];exact Nat.le_mul_of_pos_right _ h2
 exact⟨h3,zO (Nat.le_mul_self _) h3,h1,h2,by
  conv=>rhs;rw[<-e]
  exact Nat.le_mul_of_pos_left _ (Nat.mul_pos h1 h1)⟩
theorem z9b {q:Rat} (hq:0<q):zE q.num=zD q.num.natAbs/\0<q.num.natAbs:=by
 have hn:0<=q.num:=Rat.num_nonneg.2 (Rat.le_of_lt hq);have h0:q.num≠0:=λe=>by rw[Rat.num_eq_zero.1 e] at hq;exact absurd hq (by decide)
 refine⟨?_,by omega⟩;have:=Str.zad q.num.natAbs;rwa [show((q.num.natAbs:Nat):Int)=q.num by omega] at this
theorem z96 {c N k:Nat} (hk:0<k) (h:c*c<=N) (hN:N<10^(k+k)):(zD c).length<=k:=by
 refine(zaf c k hk).2 (Nat.lt_of_not_le λhc=>?_);have:=Nat.mul_le_mul hc hc;rw[<-Nat.pow_add] at this;omega
theorem z7a (q:Rat) (hq:0<q) (h:sz q 90) (w:zA) (hw:Wd w) (hp:Pw w):
 qJ 96 #[St (numS q)] w (.tuple #[St (numS (((zn7 (q.num.natAbs*q.den)).1:Rat)/(q.den:Rat))),St (zD (zn7 (q.num.natAbs*q.den)).2),.int .i64 0]):=by
 have szl:∀k:List UInt8,(⟨k.toArray⟩:ByteArray).size=k.length:=λk=>by show k.toArray.size=_;simp
 obtain⟨en,n0⟩:=z9b hq;have d0:=q.den_pos;have okq:okQ q:=zd0 (by omega) (by omega) h;have dq:=zok (k:=90) (by omega) h;have ln:(zD q.num.natAbs).length<=90:=(zaf _ 90 (by omega)).2 h.1;have ld:(zD q.den).length<=90:=dq.2;have hN:0<q.num.natAbs*q.den:=Nat.mul_pos n0 d0;have hNl:q.num.natAbs*q.den<10^(90+90):=zcc h.1 h.2;have hN180:(zD (q.num.natAbs*q.den)).length<=180:=(zaf _ 180 (by omega)).2 hNl;have z48:zD 0=[48]:=by rw[zae (by omega)];rfl
 have hu:(zD q.num.natAbs==[48])=false:=by
  rw[beq_eq_false_iff_ne,<-z48];exact λe=>by have:=zfk e;omega
 have CK:∀W:zA,Wd W->zC zF 159 #[.slice (some ⟨W.heap.size,0,none⟩) 1 1,.slice (some ⟨W.heap.size+1,0,none⟩) 1 1] ((W.alloc (.cells #[St (numS q)] 23)).alloc (.cells #[St (numS q)] 23)) λe w'=>e=.returned (.int .i64 0)/\zB W.heap.size W w':=λW hW=>by
  obtain⟨t1,t2⟩:=z0b W 23 _ q rfl;have hal:qL W ((W.alloc (.cells #[St (numS q)] 23)).alloc (.cells #[St (numS q)] 23)):=((zM _ W).alloc (zN _) _).alloc (by simp) _
  refine zzM (zji _ _ 1 1 1 1 (λ_=>q) (λ_=>q) (by omega) (by omega) (hid λ_ _ W hW=>zfj q okq W hW) (hid λ_ _ W hW=>zio q okq W hW) (hid λ_ _=>⟨dq.1,dq.2⟩)
   (hid λ_ _ W=>zma q (Rat.num_nonneg.2 (Rat.le_of_lt hq)) W) _ (hid (hW.below hal)) (hid t1) (hid t2)) λw' hb=>?_
  exact⟨rfl,hal.trans (hb.mono hal.size)⟩
 have RO:qK 160 #[St (numS q)] (.agg #[St (zD q.num.natAbs),St (zD q.den)]):=λW hW=>by
  have:=zio q okq W hW;rwa [en] at this
 obtain⟨C0,hC0⟩:=zzX ((zn7 (q.num.natAbs*q.den)).1);obtain⟨L0,hL0⟩:=zzX ((zn7 (q.num.natAbs*q.den)).2);rw[<-hC0,<-hL0];by_cases hs:(zD q.num.natAbs).length+(zD q.den).length<=17
 ·have hn17:q.num.natAbs<10^(zD q.num.natAbs).length:=(zaf _ _ (List.length_pos_iff.2 (zci _))).1 (zN _)
  have hd17:q.den<10^(zD q.den).length:=(zaf _ _ (List.length_pos_iff.2 (zci _))).1 (zN _);have hNN:q.num.natAbs*q.den<10^17:=Nat.lt_of_lt_of_le (zcc hn17 hd17) (yF (by omega) hs);have hdd:q.den<10^17:=Nat.lt_of_lt_of_le hd17 (yF (by omega) (by omega));refine zti ⟨(numS q).toArray⟩ ⟨(zD q.num.natAbs).toArray⟩ ⟨(zD q.den).toArray⟩ ⟨(numS ((C0:Rat)/(q.den:Rat))).toArray⟩ ⟨(zD L0).toArray⟩ (q.num.natAbs:Int) (q.den:Int) (by rw[ByteArray.toList_eq];exact hu) (by rw[szl,szl];omega) (by rw[szl,szl];omega) (hid CK) (hid RO) (hid λW hW=>zk7 _ (by omega) W hW) (hid λW hW=>zk7 _ (by omega) W hW) (hid λW hW hP=>?_) w (hid hw) (hid hp)
  exact zv1 q.num.natAbs q.den (q.num.natAbs*q.den) C0 L0 ⟨by rw[hC0,hL0]⟩ hN d0 (hid rfl) (hid ⟨by omega,by omega⟩) (hid λi hi W=>by
   have h9:=zw4 i hi;have h2:=zki (n:=prN i) (k:=2) (by omega) (by omega);have:=znc (prN i:Int) (by rw[Str.zad];omega) W;rw[Str.zad] at this;rw[z1r i hi];exact this) W (hid hW) (hid hP)
 ·obtain⟨Y,hY⟩:=z65 0 (q.num.natAbs*q.den)
  obtain⟨h1,h2⟩:=SqY.law (f:=25-0+q.num.natAbs*q.den) (by omega) hN (zN _) hY;have h3:=h2 1;rw[Nat.one_mul,List.drop_zero] at h3;obtain⟨b1,b2,b3,b4,b5⟩:=zxv hN h1 (zN _);have hsp:=zv0 (sqX (q.num.natAbs*q.den) Y Y.length);have hn:zn7 (q.num.natAbs*q.den)=if isq (sqX (q.num.natAbs*q.den) Y Y.length)*isq (sqX (q.num.natAbs*q.den) Y Y.length)=sqX (q.num.natAbs*q.den) Y Y.length then(sqC Y Y.length*isq (sqX (q.num.natAbs*q.den) Y Y.length),1) else(sqC Y Y.length,sqX (q.num.natAbs*q.den) Y Y.length):=by
   unfold zn7;rw[h3]
  have eN:=h1 _ (zN _);have len:∀x:Nat,x<=q.num.natAbs*q.den->(zD x).length<=180:=λx hx=>(zaf _ 180 (by omega)).2 (Nat.lt_of_le_of_lt hx hNl);rw[hC0,hL0,hn];clear hC0 hL0 C0 L0;have hcl:∀k,k<=Y.length->(zD (sqC Y k)).length<=180:=λk hk=>len _ (zxv hN h1 hk).2.1;have lx:=len _ b5;have ll1:=z96 (k:=90) (by omega) b1 hNl;have e1:zD 1=[49]:=by rw[zae (by omega)];rfl
  generalize hX:sqX (q.num.natAbs*q.den) Y Y.length=X at*
  generalize hC:sqC Y Y.length=C at*
  have hCX:(C*isq X)*(C*isq X)<=q.num.natAbs*q.den:=by
   rw[<-eN,show C*isq X*(C*isq X)=C*C*(isq X*isq X) by ac_rfl];exact Nat.mul_le_mul_left _ hsp.1
  have ll2:=z96 (k:=90) (by omega) hCX hNl;have hix:isq X<=X:=zO (Nat.le_mul_self _) hsp.1
  refine z69 ⟨(numS q).toArray⟩ (zD q.num.natAbs) (zD q.den) _ (zD (isq X)) (zD (C*isq X)) (zD (if isq X*isq X=X then(C*isq X,1) else(C,X)).1) (zD (if isq X*isq X=X then(C*isq X,1) else(C,X)).2) (q.num.natAbs*q.den) Y hY hN (by omega) (decide (isq X*isq X=X)) hu (by omega) ⟨by omega,by omega⟩ (hid CK) (hid RO)
   (hid λW hW=>zs4 _ _ (by omega) (by omega) (by omega) W hW) (hid λk hk W hW=>?_) (hid λW hW=>?_) (hid λ_ W hW=>?_) (hid ?_) (hid λW hW=>?_) w (hid hw) (hid hp)
  ·have:=hcl (k+1) hk
   refine zs4 (sqC Y k) (Y[k]?.getD (0,0)).1 (by have:=hcl k (by omega);omega) ?_ (by show(zD (sqC Y (k+1))).length<=300;omega) W hW;have h5:(Y[k]?.getD (0,0)).1<=sqC Y (k+1):=by
    show _<=sqC Y k*_;exact Nat.le_mul_of_pos_left _ (zxv hN h1 (Nat.le_of_lt hk)).2.2.1
   have:=len _ (zO h5 (zxv hN h1 hk).2.1);omega
  ·rw[hX]
   exact z4y X (isq X) hsp (by omega) W hW
  ·rw[hC]
   have:=len _ (zO hix b5);exact zs4 C (isq X) (by omega) (by omega) (by omega) W hW
  ·rw[hC,hX,<-e1]
   by_cases g:isq X*isq X=X
   ·rw[decide_eq_true g,if_pos g];exact⟨rfl,rfl⟩
   ·rw[decide_eq_false g,if_neg g];exact⟨rfl,rfl⟩
  ·refine z5x _ _ d0 ?_ (by omega) W hW
   by_cases g:isq X*isq X=X
   ·rw[if_pos g];show(zD (C*isq X)).length<=140;omega
   ·rw[if_neg g];show(zD C).length<=140;omega
theorem zz4 (r:Nat) (hr:0<r) (hl:(zD r).length<=90) (w:zA) (hw:Wd w) (hp:Pw w):
 qJ 96 #[St (zD r)] w (.tuple #[St (zD (zn7 r).1),St (zD (zn7 r).2),.int .i64 0]):=by
 have:=z7a (r:Rat) (by exact_mod_cast hr) (zrg (by omega) hl) w hw hp;rw[zhe,show((r:Nat):Rat).num.natAbs*((r:Nat):Rat).den=r from Nat.mul_one r,show(((zn7 r).1:Nat):Rat)/(((r:Nat):Rat).den:Rat)=((zn7 r).1:Rat) from by rw[show((r:Nat):Rat).den=1 from rfl];grind,zhe] at this;exact this
end
section
open Go.RowKit Go.Shelf Lib Str Limb Geo
attribute [local go_sem] Oper.semAt_some
structure NrmR (r:Nat) (d:Nat:=20):Prop where
 pos:0<r
 len:(zD r).length<=d
 nc:zn7 r=(1,r)
structure TrmR (c:Rat) (r:Nat) (d:Nat:=20):Prop where
 ne:c≠0
 sc:sz c 60
 nr:NrmR r d
theorem z8b (c:Rat) (r:Nat) {d:Nat} (h:TrmR c r d) (w:zA) (hw:Wd w) (hp:Pw w) (hd:d<=40:=by omega):
 qJ 167 #[.agg #[St (numS c),St (zD r)]] w (.int .i64 0):=by
 have okc:=zd0 (by omega) (by omega) h.sc;have lr:=h.nr.len;have sr:sz (r:Rat) 40:=zrg (by omega) (by omega);have okr:=zd0 (by omega) (by omega) sr;have dc:=zok (k:=60) (by omega) h.sc;have d1:zD 1=[49]:=by rw[zae (by omega)];rfl
 refine z6v ⟨(numS c).toArray⟩ ⟨(zD r).toArray⟩ _ (max ((zD r).length:Int) (([49]:List UInt8).length:Int)) ?_ ?_ ?_ (hid λW hW=>zfj c okc W hW) (hid λW hW=>?_) (hid λW hW=>znp c okc W hW) (hid λW hW=>?_) (hid ?_) w (hid hw) (hid hp)
 ·rw[ByteArray.toList_eq,beq_eq_false_iff_ne]
  exact λe=>h.ne ((zpy c).1 (by simpa using e))
 ·have:=dc.1;have:=dc.2
  rw[zd9];omega
 ·show ¬(40:Int)<max ((zD r).length:Int) 1
  omega
 ·have:=zfj (r:Rat) okr W hW
  rw[zhe] at this;exact this
 ·have:=znp (r:Rat) okr W hW
  rw[zhe,show(r:Rat).num=(r:Int) from rfl,show(r:Rat).den=1 from rfl,zd9,zd9,d1] at this;exact this
 ·by_cases h1:r=1
  ·left
   rw[h1,ByteArray.toList_eq,d1];rfl
  ·right
   refine⟨zhl (n:=r) rfl 1 (by omega) h1,zhl (n:=r) rfl 0 (by omega) (by have:=h.nr.pos;omega),λW _=>?_,λW _=>?_,λW hW hP=>?_⟩
   ·have:=Tryz.strings_HasPrefix ⟨(zD r).toArray⟩ ⟨#[45]⟩ W
    have e:Lib.hasPrefix (zD r) [45]=false:=by
     have:=zdx (r:Int);rw[Str.zad] at this;rw[this,decide_eq_false (by omega)]
    rw[show(⟨(zD r).toArray⟩:ByteArray).data.toList=zD r from rfl,show(⟨#[45]⟩:ByteArray).data.toList=[45] from rfl,e] at this;refine this.mono ?_;rintro e w' ⟨rfl,rfl⟩;exact⟨rfl,zM _ _⟩
   ·have:=Tryz.strings_Contains_one ⟨(zD r).toArray⟩ 47 W
    have e:decide (0<=Lib.indexByte (zD r) 47)=false:=by
     rw[<-Lib.contains_iff_indexByte];rw[Bool.eq_false_iff];intro k;have hm:=List.contains_iff_mem.1 k;have:=(zan r 47 hm).1;exact absurd this (by decide)
    rw[show(⟨(zD r).toArray⟩:ByteArray).data.toList=zD r from rfl,e] at this;refine this.mono ?_;rintro e w' ⟨rfl,rfl⟩;exact⟨rfl,zM _ _⟩
   ·have:=zz4 r h.nr.pos (by omega) W hW hP
    rw[h.nr.nc,d1] at this;exact this
def z5c (p q:Rat):Bool:=decide (isq (p/q).num.natAbs*isq (p/q).num.natAbs=(p/q).num.natAbs)&&decide (isq (p/q).den*isq (p/q).den=(p/q).den)
structure SurdR (n:Nat) (c:Nat->Rat) (r:Nat->Nat) (d:Nat:=20):Prop where
 len:n<=16
 trm:∀i,i<n->TrmR (c i) (r i) d
 ord:∀i,i+1<n->r i<r (i+1)
 apt:∀i k,i<k->k<n->z5c (r k:Rat) (r i:Rat)=false
theorem zos (p:Option Addr) (cap n:Nat) (c:Nat->Rat) (r:Nat->Nat) {d:Nat} (h:SurdR n c r d) (hcap:n<=cap) (w:zA) (hw:Wd w) (hq:Pw w) (hp:RowTm p n (λi=>⟨(numS (c i)).toArray⟩) (λi=>⟨(zD (r i)).toArray⟩) w) (hd:d<=40:=by omega):
 qJ 97 #[.slice p n cap] w (.int .i64 0):=by
 have sr:∀i,i<n->sz (r i:Rat) 40:=λi hi=>zrg (by omega) (zO (h.trm i hi).nr.len hd);have up:∀i,i<n->sz (r i:Rat) 90:=λi hi=>(sr i hi).mono (by omega);have pos:∀i,i<n->(0:Rat)<(r i:Rat):=λi hi=>by
  have:=(h.trm i hi).nr.pos;exact_mod_cast this
 refine z2l p cap n _ _ h.len hcap (hid λi hi W hW hP=>z8b _ _ (h.trm i hi) W hW hP) (hid λi hi W hW=>?_) (hid λk A hk W hW hr hA=>?_) w (hid hw) (hid hq) (hid hp)
 ·have:=zgq (r i:Rat) (r (i+1):Rat) 40 40 (by omega) (by omega) (by omega) (sr i (by omega)) (sr (i+1) hi) W hW
  rw[zhe,zhe] at this;have e:cmpR (r i:Rat) (r (i+1):Rat)= -1:=by
   have h1:=h.ord i hi;have h2:(r i:Rat)<(r (i+1):Rat):=by exact_mod_cast h1
   have:=zaw (r i:Rat) (r (i+1):Rat);grind
  rw[e] at this;exact this
 ·refine z7s p cap k A W (hid (z7r p cap k _ _ (by have:=h.len;omega) A (λV=>V.cell? ⟨A,1,none⟩=some (.string ⟨(zD (r k)).toArray⟩)) (λV V' hv hb=>(zac hb).cell hv) (hid λi hi V hV hc=>?_) W (hid hW) (hid hA) (hid λi hi=>hr i (by omega))))
  refine z6w _ _ ⟨#[]⟩ false A _ (hid λU hU=>?_) V (hid hV) (hid hc)
  ·have:=zvz (r k:Rat) (r i:Rat) (Rat.le_of_lt (pos k hk)) (pos i (by omega)) (up k hk) (up i (by omega)) _ _ (zv0 _) (zv0 _) U hU
   have e:=h.apt i k hi hk;unfold z5c at e;rw[e,zhe,zhe] at this;exact this
def ErrP (w:zA) (G:Prop) (e:Ending) (w':zA):Prop:=∃r:Int,e=.returned (.int .i64 r)/\(r=0->G)/\zB w.heap.size w w'
end
section
open Go.RowKit Lib Str Limb
theorem zdq (p:Option Addr) (n cap:Nat) (l:List Nat) (w:zA) (h:Sl w (.slice p n cap) (l.map I)) (hl:l.length<=3000):
 zC zF 266 #[.slice p n cap] w λe w'=>e=.returned (.slice p (zat l).length cap)/\w=w':=by
 rcases h.cases with⟨h0,p',cap',e⟩|⟨h0,b,off,cap',e,hcap,hb,hc⟩
 ·have:l=[]:=by simpa using h0
  subst this;simp only[Value.slice.injEq] at e;obtain⟨rfl,rfl,rfl⟩:=e;go_enter Tryz.func266,Tryz.ntmps266;go_wp2;go_loop [3] (λs=>s=.int .i64 0) (λ_=>0)
  case atStart=>rfl
  case round=>
   subst hrel;go_wp2;go_ret;exact⟨rfl,rfl⟩
 ·rw[zV] at hcap e
  simp only[Value.slice.injEq] at e;obtain⟨rfl,rfl,rfl⟩:=e;have HC:=hid hc;clear hc h;go_enter Tryz.func266,Tryz.ntmps266;go_wp2;go_loop [3] (λs=>∃k:Nat,k<=l.length/\s=.int .i64 k/\Hid (zat (l.take k)=zat l)) (λs=>(zL s).toNat)
  case atStart=>exact⟨l.length,zN _,rfl,by show zat (l.take l.length)=_;rw[List.take_length]⟩
  case round=>
   obtain⟨k,hk,rfl,ht⟩:=hrel;rcases Nat.eq_zero_or_pos k with rfl|hp
   ·have e:(zat l).length=0:=by rw[<-ht.out];simp[zou]
    have E:=hid e;clear e;go_wp2;go_ret;exact⟨by rw[E.out];rfl,rfl⟩
   ·obtain⟨m,rfl⟩:∃m,k=m+1:=⟨k-1,by omega⟩
    have hm:m<l.length:=by omega
    have hx:l[m]? =some l[m]:=by simp[hm]
    have hcell:=HC.out m (I l[m]) (by simp[hm]);have hsn:zat (l.take (m+1))=zat (l.take m++[l[m]]):=by rw[List.take_succ_eq_append_getElem hm]
    by_cases hz:l[m]=0
    ·rw[hz] at hcell hsn
     have HS:Hid (zat (l.take m)=zat l):=by rw[<-ht.out,hsn,zew];rfl
     clear hsn hx hz ht;go_wp2;go_round
     case rel=>exact⟨m,by omega,by go_num,HS⟩
     case measure=>simp[zL]
    ·have HS:Hid ((zat l).length=m+1):=by
      rw[<-ht.out,hsn,zhs _ hz];show(l.take m++[l[m]]).length=m+1;simp;omega
     have hz':(((l[m]:Nat):Int)==0)=false:=by rw[beq_eq_false_iff_ne];omega
     clear hsn hx ht;go_wp2;go_ret;exact⟨by rw[HS.out];rfl,rfl⟩
theorem zh4 (v:Value) (l:List Nat) (i:Nat) (w:zA) (h:Sl w v (l.map I)) (hl:l.length<=3000):
 zC zF 268 #[v,I i] w λe w'=>e=.returned (I (l[i]?.getD 0))/\w=w':=by
 by_cases hi:i<l.length
 ·rcases h.cases with⟨h0,p,cap,rfl⟩|⟨h0,b,off,cap,rfl,hcap,hb,hc⟩
  ·have:l=[]:=by simpa using h0
   subst this;simp at hi
  ·have hcell:=hc i (I (l[i]?.getD 0)) (by simp[hi])
   clear hc h;rw[zV];generalize l[i]?.getD 0=x at*
   go_enter Tryz.func268,Tryz.ntmps268;go_wp2;go_ret;exact⟨rfl,rfl⟩
 ·have:l[i]?.getD 0=0:=by rw[List.getElem?_eq_none (by omega)];rfl
  rw[this];obtain⟨p,cap,rfl,hcap,_⟩:=h;rw[zV];go_enter Tryz.func268,Tryz.ntmps268;go_wp2;go_ret;exact⟨rfl,rfl⟩
def B6:Nat:=1000000
theorem zgz {w:zA} {base k:Nat} {p:Option Addr} {n c:Nat} {o:List Nat} (h:w.ownsRow base 3 1 (.slice p n c) k (o.map I)) (hk:o.length=k):
 w.ownsRow base 3 1 (.slice p (zat o).length c) (zat o).length ((zat o).map I):=zeq (v:=.slice p n c) h hk
theorem ze4 {w:zA} {base:Nat} {t:TypeId} {s:Nat} {v:Value} {n:Nat} {xs:List Value} (h:w.ownsRow base t s v n xs):∃p m c,v=.slice p m c:=by
 rcases h.2 with⟨e,_⟩|⟨g,cp,cur,e,_⟩<;>exact⟨_,_,_,e⟩
theorem yd9 (c:Nat) (h:c<=1):(0+0+c)/B6=0:=by unfold B6;omega
theorem z91 (va vb:Value) (a b:List Nat) (w:zA) (ha:Sl w va (a.map I)) (hb:Sl w vb (b.map I)) (sa:zal B6 a) (sb:zal B6 b) (la:a.length<=1000) (lb:b.length<=1000):
 zC zF 227 #[va,vb] w (zht w (zaa B6 (valL B6 a+valL B6 b))):=by
 rw[<-zov (B:=B6) (by decide) sa sb];obtain⟨i0,hi,hz0,hz1,hz2⟩:=info_parts zdv;have ha':=ha;have hb':=hb;obtain⟨pa,ca,rfl,hca,hcella⟩:=ha;obtain⟨pb,cb,rfl,hcb,hcellb⟩:=hb;have HA:=hid ha';clear ha' hcella hca;have HB:=hid hb';clear hb' hcellb hcb;have SA:=hid sa;clear sa;have SB:=hid sb;clear sb;simp only[zV] at*
 obtain⟨M,hM⟩:=zzX (max a.length b.length);rw[<-hM];have hM2:M<=1000:=by omega
 have hMa:∀k:Nat,(k<M↔(k<a.length\/k<b.length)):=λk=>by omega
 have HM:=hid hMa;clear hM hMa;go_enter Tryz.func227,Tryz.ntmps227;go_wp2;go_loopw [5,6,7] (λv c i wr=>∃k:Nat,k<=M+1/\i=.int .i64 k/\c=I (zaq (za6 B6) a b k).2/\wr.ownsRow w.heap.size 3 1 v k ((zaq (za6 B6) a b k).1.map I)/\zB w.heap.size w wr/\(k=M+1->(zaq (za6 B6) a b k).2=0))
  (λ_ _ i _=>M+1-(zL i).toNat)
 case atStart=>exact⟨0,zR _,rfl,rfl,World.ownsRow_made w #[] 0 (zN _) (by unfold maxLen;omega) rfl,(zM _ w).alloc (zN _) _,λh=>by omega⟩
 case round=>
  obtain⟨k,hk,rfl,rfl,hown,hB,hend⟩:=hrel;obtain⟨p1,p2,p3⟩:=zna (B:=B6) (by decide) SA.out SB.out k;by_cases hlt:k<a.length\/k<b.length\/0<(zaq (za6 B6) a b k).2
  ·have hkM:k<M+1:=by
    rcases hlt with h|h|h
    ·have:=(HM.out k).2 (.inl h);omega
    ·have:=(HM.out k).2 (.inr h);omega
    ·rcases Nat.lt_or_ge k (M+1) with h'|h'
     ·exact h'
     ·rw[hend (by omega)] at h;omega
   have hx:=zaj SA.out (by decide) k;have hy:=zaj SB.out (by decide) k;have hst:zaq (za6 B6) a b (k+1)=((zaq (za6 B6) a b k).1++[(za6 B6 (a[k]?.getD 0) (b[k]?.getD 0) (zaq (za6 B6) a b k).2).1],(za6 B6 (a[k]?.getD 0) (b[k]?.getD 0) (zaq (za6 B6) a b k).2).2):=rfl;have hz:k=M->(zaq (za6 B6) a b (k+1)).2=0:=λe=>by
    have ha0:a[k]?.getD 0=0:=by rw[List.getElem?_eq_none (by have:=HM.out k;omega)];rfl
    have hb0:b[k]?.getD 0=0:=by rw[List.getElem?_eq_none (by have:=HM.out k;omega)];rfl
    rw[hst,ha0,hb0];exact yd9 _ p2
   have HST:=hid hst;clear hst p1 p3 hend;have HZ:=hid hz;clear hz;generalize (zaq (za6 B6) a b k).1=o at*
   generalize (zaq (za6 B6) a b k).2=c at*
   have hx':a[k]?.getD 0<1000000:=hx;have hy':b[k]?.getD 0<1000000:=hy;clear hx hy;have E1:∀x y:Nat,(Value.int .i64 (((x:Int)+y+c)%1000000))=I (za6 B6 x y c).1:=λx y=>by simp[I,za6,B6]
   have hE1:=hid E1;clear E1;have HOWN:=hid hown;clear hown;have LA:=hid λ(W:zA) (h:qL w W)=>zh4 _ a k W (HA.out.below h) (by omega);have LB:=hid λ(W:zA) (h:qL w W)=>zh4 _ b k W (HB.out.below h) (by omega);generalize a[k]?.getD 0=x at*
   generalize b[k]?.getD 0=y at*
   have h3:k<a.length\/(¬k<a.length/\k<b.length)\/(¬k<a.length/\¬k<b.length/\0<c):=by omega
   clear hlt;rcases h3 with h1|⟨h1,h2⟩|⟨h1,h2,h4⟩<;>(
    go_wp21;refine(LA.out wr hB).mono ?_;rintro e w1 ⟨rfl,rfl⟩;go_wp21;refine(LB.out wr hB).mono ?_;rintro e w1 ⟨rfl,rfl⟩;go_wp2_with (at_builtin;refine wpList_append_own _ rfl _ _ 39 rfl w.heap.size 3 i0 (.int .i64 0) 1 8 Tryz.underlying39 hi hz0 hz1 hz2 rfl (by decide) _ _ _ rfl (HOWN.out.alloc _) ⟨wr.heap.size,0,none⟩ 1 1 [.int .i64 (((x:Int)+y+c)%1000000)] rfl rfl (zep _ _ _) (zfn _) (by unfold maxLen;omega) (by omega) (by have:=hB.size;simp;omega) ?_);intro v' w1 hown' hgrow _;have hB1:qL w w1:=(hB.alloc hB.size _).grown hgrow (by have:=hB.size;simp;omega) (λq e=>(HOWN.out.lt q e).1);rw[hE1.out] at hown';clear hgrow hB HOWN;go_wp2;go_roundw
    case rel=>exact⟨k+1,by omega,by go_num,by rw[HST.out];simp[I,za6,B6],by rw[HST.out];simpa using hown',hB1,λe=>HZ.out (by omega)⟩
    case measure=>simp[zL];omega)
  ·have h1:¬k<a.length:=λh=>hlt (.inl h)
   have h2:¬k<b.length:=λh=>hlt (.inr (.inl h));have h3:(zaq (za6 B6) a b k).2=0:=by have:=λh=>hlt (.inr (.inr h));omega
   have hl:(zaq (za6 B6) a b k).1.length=k:=zdk _ _ _ _;have hres:zat (zaq (za6 B6) a b k).1=zat (zaq (za6 B6) a b (M+1)).1:=by
    have hkM:M<=k:=by have:=HM.out k;omega
    rcases Nat.lt_or_ge k (M+1) with h|h
    ·obtain rfl:k=M:=by omega
     show _=zat ((zaq (za6 B6) a b k).1++[(za6 B6 (a[k]?.getD 0) (b[k]?.getD 0) (zaq (za6 B6) a b k).2).1]);rw[List.getElem?_eq_none (by omega),List.getElem?_eq_none (by omega),h3];exact(zew _).symm
    ·obtain rfl:k=M+1:=by omega
     rfl
   have HR:=hid hres;clear hres;obtain⟨o,ho⟩:=zzX ((zaq (za6 B6) a b k).1);rw[<-ho] at hown hl;have HO:=hid ho;clear ho;have HL:=hid hl;clear hl p1 p2 p3 hend hlt;rw[h3] at*
   obtain⟨vp,vm,vc,rfl⟩:=ze4 hown;have HOWN:=hid hown;clear hown;go_wp21;refine(zdq _ _ _ o wr (Sl.of_own HOWN.out) (by rw[HL.out];omega)).mono ?_;rintro e w1 ⟨rfl,rfl⟩;go_wp21;go_ret;have hown':=zgz HOWN.out HL.out;rw[<-HO.out] at HR;rw[HR.out] at hown';exact⟨_,rfl,by rw[HR.out];exact hown',hB⟩
end
section
theorem zzD {B:Nat} {a w:zA} (h:RowKit.Below B a w) (n:Nat):RowKit.Below B a (w.drewN n):=⟨h.os,h.tape,h.output,h.size,h.block⟩
open Go.RowKit Lib Str Limb
def ztb (w:zA) (l:List Nat) (e:Ending) (w':zA):Prop:=
 ∃g c,e=.returned (.slice (some ⟨g,0,none⟩) l.length c)/\w'.ownsRow w.heap.size 3 1 (.slice (some ⟨g,0,none⟩) l.length c) l.length (l.map I)/\zB w.heap.size w w'
theorem zqe {w:zA} {base:Nat} {t:TypeId} {s:Nat} {v:Value} {n:Nat} {xs:List Value} (h:w.ownsRow base t s v n xs) (hne:v≠ .slice none 0 0):∃g c,v=.slice (some ⟨g,0,none⟩) n c:=by
 rcases h.2 with⟨e,_⟩|⟨g,cp,cur,e,_⟩
 ·exact absurd e hne
 ·exact⟨_,_,e⟩
theorem zj6 (va vb:Value) (a b:List Nat) (w:zA) (ha:Sl w va (a.map I)) (hb:Sl w vb (b.map I)) (sa:zal B6 a) (sb:zal B6 b) (la:a.length<=1000) (hba:b.length<=a.length) (hle:valL B6 b<=valL B6 a):
 zC zF 269 #[va,vb] w (ztb w (zaa B6 (valL B6 a-valL B6 b))):=by
 rw[<-znb (B:=B6) (by decide) sa sb hle a.length (zN _) hba];obtain⟨i0,hi,hz0,hz1,hz2⟩:=info_parts zdv;have ha':=ha;have hb':=hb;obtain⟨pa,ca,rfl,hca,hcella⟩:=ha;obtain⟨pb,cb,rfl,hcb,hcellb⟩:=hb;have HA:=hid ha';clear ha' hcella hca;have HB:=hid hb';clear hb' hcellb hcb hle;have SA:=hid sa;clear sa;have SB:=hid sb;clear sb;simp only[zV] at*
 go_enter Tryz.func269,Tryz.ntmps269;go_wp2;go_loopw [5,6,7] (λv c i wr=>∃k:Nat,k<=a.length/\i=.int .i64 k/\c=I (zaq (za1 B6) a b k).2/\wr.ownsRow w.heap.size 3 1 v k ((zaq (za1 B6) a b k).1.map I)/\zB w.heap.size w wr/\v≠ .slice none 0 0)
  (λ_ _ i _=>a.length-(zL i).toNat)
 case atStart=>exact⟨0,zR _,rfl,rfl,World.ownsRow_made w #[] 0 (zN _) (by unfold maxLen;omega) rfl,(zM _ w).alloc (zN _) _,λh=>by cases h⟩
 case round=>
  obtain⟨k,hk,rfl,rfl,hown,hB,hne⟩:=hrel;have HNE:=hid hne;clear hne;obtain⟨p1,p2,p3⟩:=zlo (B:=B6) (by decide) SA.out SB.out k;by_cases hlt:k<a.length
  ·obtain⟨ba,offa,rfl,hba',hcapa,hcx⟩:=(HA.out.below hB).at hlt
   have hx:=zaj SA.out (by decide) k;have hy:=zaj SB.out (by decide) k;have hst:zaq (za1 B6) a b (k+1)=((zaq (za1 B6) a b k).1++[(za1 B6 (a[k]?.getD 0) (b[k]?.getD 0) (zaq (za1 B6) a b k).2).1],(za1 B6 (a[k]?.getD 0) (b[k]?.getD 0) (zaq (za1 B6) a b k).2).2):=rfl;have HST:=hid hst;clear hst p1 p3;generalize (zaq (za1 B6) a b k).1=o at*
   generalize (zaq (za1 B6) a b k).2=c at*
   have hx':a[k]?.getD 0<1000000:=hx;have hy':b[k]?.getD 0<1000000:=hy;clear hx hy;have HOWN:=hid hown;clear hown;have LB:=hid λ(W:zA) (h:qL w W)=>zh4 _ b k W (HB.out.below h) (by omega);generalize a[k]?.getD 0=x at*
   generalize b[k]?.getD 0=y at*
   have e1:IntKind.i64.wrap ((x:Int)-y)=(x:Int)-y:=zI _ (by omega);have e2:IntKind.i64.wrap ((x:Int)-y-c)=(x:Int)-y-c:=zI _ (by omega);have fin:∀(v':Value) (w1:zA) (z:Int) (W:zA),qL w W->W.ownsRow w.heap.size 3 1 v' (k+1) (o.map I++[.int .i64 z])->True:=λ_ _ _ _ _ _=>trivial;clear fin;by_cases hge:y+c<=x
   ·have hE:Hid (Value.int .i64 ((x:Int)-y-c)=I (za1 B6 x y c).1/\(za1 B6 x y c).2=0):=hid (by
     have e:za1 B6 x y c=(x-y-c,0):=by unfold za1;rw[if_pos hge]
     rw[e];exact⟨by show Value.int .i64 _=Value.int .i64 _;congr 1;omega,rfl⟩)
    have hn:¬(x:Int)-y-c<0:=by omega
    go_wp2;go_quiet ((go_at_call 268;exact Calls.quiet_of_same (zi5 (LB.out _ (hB.trans (zzD (zM _ _) _))))));clear e1 e2;have hB2:qL w (wr.drewN nq):=zzD hB _;have HOWN2:=hid (show(wr.drewN nq).ownsRow w.heap.size 3 1 _ k (o.map I) from HOWN.out);clear HOWN hcx hB hba';go_wp2_with (at_builtin;refine wpList_append_own _ rfl _ _ 39 rfl w.heap.size 3 i0 (.int .i64 0) 1 8 Tryz.underlying39 hi hz0 hz1 hz2 rfl (by decide) _ _ _ rfl (HOWN2.out.alloc _) ⟨wr.heap.size,0,none⟩ 1 1 [.int .i64 ((x:Int)-y-c)] rfl rfl (zep _ _ _) (zfn _) (by unfold maxLen;omega) (by omega) (by have:=hB2.size;simp at this⊢;omega) ?_);intro v' w1 hown' hgrow hnn;have HNN:=hid (show v'≠ .slice none 0 0 from hnn);clear hnn;have hB1:qL w w1:=(hB2.alloc hB2.size _).grown hgrow (by have:=hB2.size;simp at this⊢;omega) (λq e=>(HOWN2.out.lt q e).1);rw[hE.out.1] at hown';clear hgrow hB2 HOWN2;go_wp2;go_roundw
    case rel=>exact⟨k+1,by omega,by go_num,by rw[HST.out,hE.out.2];rfl,by rw[HST.out];simpa using hown',hB1,HNN.out⟩
    case measure=>simp[zL];omega
   ·have hE:Hid (Value.int .i64 ((x:Int)-y-c+1000000)=I (za1 B6 x y c).1/\(za1 B6 x y c).2=1):=hid (by
     have e:za1 B6 x y c=(x+B6-y-c,1):=by unfold za1;rw[if_neg hge]
     rw[e];exact⟨by show Value.int .i64 _=Value.int .i64 _;congr 1;unfold B6;omega,rfl⟩)
    have hn:(x:Int)-y-c<0:=by omega
    have e3:IntKind.i64.wrap ((x:Int)-y-c+1000000)=(x:Int)-y-c+1000000:=zI _ (by omega);go_wp2;go_quiet ((go_at_call 268;exact Calls.quiet_of_same (zi5 (LB.out _ (hB.trans (zzD (zM _ _) _))))));clear e1 e2;have hB2:qL w (wr.drewN nq):=zzD hB _;have HOWN2:=hid (show(wr.drewN nq).ownsRow w.heap.size 3 1 _ k (o.map I) from HOWN.out);clear HOWN hcx hB hba';go_wp2_with (at_builtin;refine wpList_append_own _ rfl _ _ 39 rfl w.heap.size 3 i0 (.int .i64 0) 1 8 Tryz.underlying39 hi hz0 hz1 hz2 rfl (by decide) _ _ _ rfl (HOWN2.out.alloc _) ⟨wr.heap.size,0,none⟩ 1 1 [.int .i64 ((x:Int)-y-c+1000000)] rfl rfl (zep _ _ _) (zfn _) (by unfold maxLen;omega) (by omega) (by have:=hB2.size;simp at this⊢;omega) ?_);intro v' w1 hown' hgrow hnn;have HNN:=hid (show v'≠ .slice none 0 0 from hnn);clear hnn;have hB1:qL w w1:=(hB2.alloc hB2.size _).grown hgrow (by have:=hB2.size;simp at this⊢;omega) (λq e=>(HOWN2.out.lt q e).1);rw[hE.out.1] at hown';clear hgrow hB2 HOWN2 e3;go_wp2;go_roundw
    case rel=>exact⟨k+1,by omega,by go_num,by rw[HST.out,hE.out.2];rfl,by rw[HST.out];simpa using hown',hB1,HNN.out⟩
    case measure=>simp[zL];omega
  ·obtain rfl:k=a.length:=by omega
   have hl:(zaq (za1 B6) a b a.length).1.length=a.length:=zdk _ _ _ _;obtain⟨o,ho⟩:=zzX ((zaq (za1 B6) a b a.length).1);rw[<-ho] at hown hl;have HO:=hid ho;have HL:=hid hl;clear hl p1 p2 p3;obtain⟨vg,vc,rfl⟩:=zqe hown HNE.out;have HOWN:=hid hown;clear hown ho;go_wp21;refine(zdq _ _ _ o wr (Sl.of_own HOWN.out) (by rw[HL.out];omega)).mono ?_;rintro e w1 ⟨rfl,rfl⟩;go_wp21;go_ret;rw[<-HO.out];exact⟨_,_,rfl,zgz HOWN.out HL.out,hB⟩
theorem z3e (va vb:Value) (a b:List Nat) (w:zA) (ha:Sl w va (a.map I)) (hb:Sl w vb (b.map I)) (sa:zal B6 a) (sb:zal B6 b) (la:a.length<=1000) (hba:b.length<=a.length) (hle:valL B6 b<=valL B6 a):
 zC zF 269 #[va,vb] w (zht w (zaa B6 (valL B6 a-valL B6 b))):=
 (zj6 va vb a b w ha hb sa sb la hba hle).mono λ_ _ ⟨_,_,h1,h2,h3⟩=>⟨_,h1,h2,h3⟩
theorem zuj (m n:Nat) (hl:(zaa B6 m).length=(zaa B6 n).length) (k:Nat) (hk:k<(zaa B6 m).length) (h:∀i,k<i->i<(zaa B6 m).length->(zaa B6 m)[i]?.getD 0=(zaa B6 n)[i]?.getD 0):
 ((zaa B6 m)[k]?.getD 0<(zaa B6 n)[k]?.getD 0->m<n)/\((zaa B6 n)[k]?.getD 0<(zaa B6 m)[k]?.getD 0->n<m):=by
 have hB:2<=B6:=by decide
 have sa:=zak hB m;have sb:=zak hB n;have hd:=ztr hl k h;constructor
 ·intro hlt
  have:=zem sa sb hl k hk hd hlt;rwa [zam hB,zam hB] at this
 ·intro hgt
  have:=zem sb sa hl.symm k (by omega) hd.symm hgt;rwa [zam hB,zam hB] at this
theorem zzw (m n:Nat) (hl:(zaa B6 m).length=(zaa B6 n).length) (h:∀i,i<(zaa B6 m).length->(zaa B6 m)[i]?.getD 0=(zaa B6 n)[i]?.getD 0):m=n:=by
 have hB:2<=B6:=by decide
 rw[<-zam hB m,zoa hl h,zam hB]
def ordN (m n:Nat):Int:=if m<n then-1 else if m=n then 0 else 1
theorem zu4 (va vb:Value) (m n:Nat) (w:zA) (ha:Sl w va ((zaa B6 m).map I)) (hb:Sl w vb ((zaa B6 n).map I)) (la:(zaa B6 m).length<=1000) (_:(zaa B6 n).length<=1000):
 qJ 225 #[va,vb] w (.int .i64 (ordN m n)):=by
 have ha':=ha;have hb':=hb;obtain⟨pa,ca,rfl,hca,hcella⟩:=ha;obtain⟨pb,cb,rfl,hcb,hcellb⟩:=hb;have HA:=hid ha';clear ha' hcella hca;have HB:=hid hb';clear hb' hcellb hcb;simp only[zV] at*
 have hlt':=zc2 (B:=B6) (by decide) (m:=m) (n:=n);have hgt':=zc2 (B:=B6) (by decide) (m:=n) (n:=m);have SA:=hid (zak (B:=B6) (by decide) m);have SB:=hid (zak (B:=B6) (by decide) n);by_cases hl:(zaa B6 m).length=(zaa B6 n).length
 ·have CP:=hid (zuj m n hl)
  have CE:=hid (zzw m n hl);rw[<-hl];clear hlt' hgt';have HL:=hid hl;clear hl;generalize zaa B6 m=a at*
  generalize zaa B6 n=b at*
  go_enter Tryz.func225,Tryz.ntmps225;go_wp2;go_loopw [5] (λi wr=>∃k:Nat,k<=a.length/\i=.int .i64 ((k:Int)-1)/\(∀j,k<=j->j<a.length->a[j]?.getD 0=b[j]?.getD 0)/\zB w.heap.size w wr)
   (λi _=>(zL i+1).toNat)
  case atStart=>exact⟨a.length,zN _,rfl,λj h1 h2=>by omega,zM _ _⟩
  case round=>
   obtain⟨k,hk,rfl,hsame,hB⟩:=hrel;rcases Nat.eq_zero_or_pos k with rfl|hp
   ·obtain rfl:m=n:=CE.out λi hi=>hsame i (zR _) hi
    clear hsame;go_wp2;go_ret;exact⟨by unfold ordN;simp,hB⟩
   ·obtain⟨i,rfl⟩:∃i,k=i+1:=⟨k-1,by omega⟩
    have hi1:((i+1:Nat):Int)-1=(i:Int):=by omega
    rw[hi1];have hia:i<a.length:=by omega
    have hib:i<b.length:=by have:=HL.out;omega
    obtain⟨ba,offa,rfl,hba,hcapa,hcx⟩:=(HA.out.below hB).at hia;obtain⟨bb,offb,rfl,hbb,hcapb,hcy⟩:=(HB.out.below hB).at hib;have hcp:=CP.out i hia (λj h1 h2=>hsame j h1 h2);have hsn:a[i]?.getD 0=b[i]?.getD 0->∀j,i<=j->j<a.length->a[j]?.getD 0=b[j]?.getD 0:=λe j h1 h2=>by
     rcases Nat.lt_or_ge i j with h|h
     ·exact hsame j h h2
     ·obtain rfl:j=i:=by omega
      exact e
    have HS:=hid hsn;clear hsn hsame hi1;have hx:=zaj SA.out (by decide) i;have hy:=zaj SB.out (by decide) i;have hx':a[i]?.getD 0<1000000:=hx;have hy':b[i]?.getD 0<1000000:=hy;clear hx hy;have HLb:(a.length:Int)=b.length:=by have:=HL.out;omega
    have HB2:=hid hB;generalize a[i]?.getD 0=x at*
    generalize b[i]?.getD 0=y at*
    rcases Nat.lt_trichotomy x y with hc|hc|hc
    ·have ho:ordN m n= -1:=by unfold ordN;rw[if_pos (hcp.1 hc)]
     have HO:=hid ho;clear hcp HS ho;go_wp2;go_quiet (fail);go_wp2;go_ret;exact⟨by rw[HO.out];rfl,zzD HB2.out _⟩
    ·have HS':=hid (HS.out hc)
     subst hc;clear hcp HS;go_wp2;go_quiet (fail);go_wp2;go_quiet (fail);go_wp2;go_roundw
     case rel=>exact⟨i,by omega,rfl,HS'.out,zzD HB2.out _⟩
     case measure=>simp[zL]
    ·have ho:ordN m n=1:=by unfold ordN;have:=hcp.2 hc;rw[if_neg (by omega),if_neg (by omega)]
     have hc2:¬x<y:=by omega
     have HO:=hid ho;clear hcp HS ho;go_wp2;go_quiet (fail);go_wp2;go_quiet (fail);go_wp2;go_ret;exact⟨by rw[HO.out];rfl,zzD (zzD HB2.out _) _⟩
 ·have hl':¬(((zaa B6 m).length:Int)=(zaa B6 n).length):=by omega
  rcases Nat.lt_or_gt_of_ne hl with h|h
  ·have ho:ordN m n= -1:=by unfold ordN;rw[if_pos (hlt' h)]
   rw[ho];clear ho hlt' hgt' hl;generalize (zaa B6 m).length=x at*
   generalize (zaa B6 n).length=y at*
   go_enter Tryz.func225,Tryz.ntmps225;go_wp2;go_ret;exact⟨rfl,zM _ _⟩
  ·have ho:ordN m n=1:=by unfold ordN;have:=hgt' h;rw[if_neg (by omega),if_neg (by omega)]
   rw[ho];have h2:¬(zaa B6 m).length<(zaa B6 n).length:=by omega
   clear ho hlt' hgt' hl;generalize (zaa B6 m).length=x at*
   generalize (zaa B6 n).length=y at*
   go_enter Tryz.func225,Tryz.ntmps225;go_wp2;go_ret;exact⟨rfl,zM _ _⟩
end
section
open Go.RowKit Lib Str Limb
theorem zy5 {a b:List Nat} (sa:zal B6 a) (sb:zal B6 b) (i:Nat) (hi:i<a.length):
 (zay B6 (a[i]?.getD 0) b i (zbp B6 a b i) (b.length+1)).2=0:=by
 have hB:2<=B6:=by decide
 obtain⟨t1,t2,t3⟩:=zdf hB sa sb i (Nat.le_of_lt hi);obtain⟨r1,r2,r3,r4⟩:=zfw hB (zaj sa (by decide) i) sb i t2 (b.length+1) (by rw[t1];omega);rw[List.take_of_length_le (by omega),t3] at r4;have k1:valL B6 (a.take i)*valL B6 b+B6^i*(a[i]?.getD 0*valL B6 b)=valL B6 (a.take (i+1))*valL B6 b:=by
  rw[zbo,Nat.add_mul,Nat.mul_assoc]
 rw[k1] at r4;have h1:=zb6 (zcu sa (i+1));rw[List.length_take,Nat.min_eq_left (by omega)] at h1;have h2:=zb6 sb;have h3:valL B6 (a.take (i+1))*valL B6 b<B6^(i+1)*B6^b.length:=Nat.mul_lt_mul'' h1 h2;rw[<-Nat.pow_add,show i+1+b.length=i+(b.length+1) by omega] at h3;rcases Nat.eq_zero_or_pos (zay B6 (a[i]?.getD 0) b i (zbp B6 a b i) (b.length+1)).2 with h|h
 ·exact h
 ·have:=Nat.mul_le_mul_left (B6^(i+(b.length+1))) h
  omega
theorem zxi {x:Nat} {b out:List Nat} (i:Nat) (so:zal B6 (zay B6 x b i out b.length).1) (hlen:i+b.length<(zay B6 x b i out b.length).1.length) (h:(zay B6 x b i out b.length).2=0):
 (zay B6 x b i out (b.length+1)).1=(zay B6 x b i out b.length).1:=by
 show(zay B6 x b i out b.length).1.set (i+b.length) (((zay B6 x b i out b.length).1[i+b.length]?.getD 0+x*b[b.length]?.getD 0+(zay B6 x b i out b.length).2)%B6)=_;rw[h,List.getElem?_eq_none (l:=b) (zN _)];have:=zaj so (by decide) (i+b.length);simp only[Option.getD_none,Nat.mul_zero,Nat.add_zero];rw[Nat.mod_eq_of_lt this,yB hlen];simp
theorem ztg (va vb:Value) (a b:List Nat) (w:zA) (ha:Sl w va (a.map I)) (hb:Sl w vb (b.map I)) (sa:zal B6 a) (sb:zal B6 b) (la:a.length<=1000) (lb:b.length<=1000):
 zC zF 226 #[va,vb] w (zht w (zaa B6 (valL B6 a*valL B6 b))):=by
 rw[<-zjp (B:=B6) (by decide) sa sb];obtain⟨i0,hi,hz0,hz1,hz2⟩:=info_parts zdv;have ha':=ha;have hb':=hb;obtain⟨pa,ca,rfl,hca,hcella⟩:=ha;obtain⟨pb,cb,rfl,hcb,hcellb⟩:=hb;have HA:=hid ha';clear ha' hcella hca;have HB:=hid hb';clear hb' hcellb hcb;have SA:=hid sa;clear sa;have SB:=hid sb;clear sb;simp only[zV] at*
 go_enter Tryz.func226,Tryz.ntmps226;go_wp2_with (at_make;refine wpList_make_full _ rfl _ _ 39 rfl w.heap.size 3 i0 (.int .i64 0) 1 Tryz.underlying39 hi hz0 hz1 .i64 .i64 _ _ (a.length+b.length+1) rfl rfl (by omega) (by omega) (by rw[hz2];omega) (by unfold maxLen;omega) (zN _) ?_);intro w0 hown hgrow;rw[toList_madeCells_one,<-show(List.replicate (a.length+b.length+1) 0).map I=List.replicate (a.length+b.length+1) (.int .i64 0) by simp] at hown;obtain⟨hrow, -⟩:=Row.of_own hown;have hB0:qL w w0:=(zM _ _).grown hgrow (zN _) (λ_ e=>by cases e);clear hown hgrow;obtain⟨N,hN⟩:=zzX (a.length+b.length+1);have hN2:(a.length:Int)+b.length+1=N:=by omega
 rw[<-hN] at hrow⊢;have HN:=hid hN;clear hN;obtain⟨g,hg⟩:=zzX w.heap.size;rw[<-hg] at hrow⊢;have HG:=hid hg;clear hg;clear hN2;go_wp2;go_loopw [6] (λi wr=>∃k:Nat,k<=a.length/\i=.int .i64 k/\Row wr g N (zbp B6 a b k)/\zB w.heap.size w wr)
  (λi _=>a.length-(zL i).toNat)
 case atStart=>exact⟨0,zR _,rfl,by rw[zbp,<-HN.out];exact hrow,hB0⟩
 case round=>
  clear hrow hB0;obtain⟨i,hk,rfl,hrow,hB⟩:=hrel;by_cases hlt:i<a.length
  ·obtain⟨ba,offa,rfl,hba,hcapa,hcx⟩:=(HA.out.below hB).at hlt
   have hxs:=zaj SA.out (by decide) i;obtain⟨ts1,ts2, -⟩:=zdf (B:=B6) (by decide) SA.out SB.out i hk;have hst:zbp B6 a b (i+1)=(zay B6 (a[i]?.getD 0) b i (zbp B6 a b i) (b.length+1)).1:=rfl;have hre:=zy5 SA.out SB.out i hlt;rw[<-HN.out] at ts1;have HST:=hid hst;clear hst;have HRE:=hid hre;clear hre;generalize zbp B6 a b i=L at*
   have TS1:=hid ts1;clear ts1;have TS2:=hid ts2;clear ts2;have hxe:a[i]?.getD 0<1000000:=hxs;clear hxs hcx;have HXA:=hid hxe;clear hxe;obtain⟨x,hx⟩:=zzX (a[i]?.getD 0);rw[<-hx] at HST HRE HXA;have HXE:=hid hx;clear hx;go_wp2;obtain⟨wo,hwo⟩:=zzX (wr:zA);have HWO:=hid hwo;clear hwo;go_loopw [7,8] (λc j wr=>∃k:Nat,k<=b.length+1/\j=.int .i64 k/\c=I (zay B6 x b i L k).2/\Row wr g N (zay B6 x b i L k).1/\zB w.heap.size w wr)
    (λ_ j _=>b.length+1-(zL j).toNat)
   case atStart=>exact⟨0,zR _,rfl,rfl,hrow,hB⟩
   case round=>
    clear hrow hB;obtain⟨k,hkk,rfl,rfl,hrow,hB⟩:=hrel;have HN3:N=a.length+b.length+1:=HN.out;obtain⟨r1,r2,r3, -⟩:=zfw (B:=B6) (by decide) (show x<B6 from HXA.out) SB.out i TS2.out k (by rw[TS1.out];omega);by_cases hgo:k<b.length\/0<(zay B6 x b i L k).2
    ·have hlk:k<b.length+1:=by
      rcases hgo with h|h
      ·omega
      ·rcases Nat.lt_or_ge k (b.length+1) with h'|h'
       ·exact h'
       ·obtain rfl:k=b.length+1:=by omega
        rw[HRE.out] at h;omega
     have hys:=zaj SB.out (by decide) k;have hst:zay B6 x b i L (k+1)=((zay B6 x b i L k).1.set (i+k) (((zay B6 x b i L k).1[i+k]?.getD 0+x*b[k]?.getD 0+(zay B6 x b i L k).2)%B6),((zay B6 x b i L k).1[i+k]?.getD 0+x*b[k]?.getD 0+(zay B6 x b i L k).2)/B6):=rfl;have HST2:=hid hst;clear hst;generalize zay B6 x b i L k=r at*
     obtain⟨l,c⟩:=r;dsimp only at*
     have hlen:i+k<l.length:=by rw[r1,TS1.out];omega
     have hcell:=hrow.cell (getD_some hlen);have hfz:=hrow.frozen (i+k);have hzs:=zaj r2 (by decide) (i+k);have hc':c<1000000:=r3;have hz':l[i+k]?.getD 0<1000000:=hzs;have hy':b[k]?.getD 0<1000000:=hys;have hx':x<1000000:=HXA.out;have hb2:i+k<N:=by omega
     have hiN:(0:Int)<=(i:Int)+k:=by omega
     have hiN2:(i:Int)+k<N:=by omega
     have LB:=hid λ(W:zA) (h:qL w W)=>zh4 _ b k W (HB.out.below h) (by omega);obtain⟨ba',offa',e',hba,hcapa,hcx⟩:=(HA.out.below hB).at hlt;simp only[Option.some.injEq,Addr.mk.injEq,and_true] at e';obtain⟨rfl,rfl⟩:=e';rw[<-HXE.out] at hcx;have HROW:=hid hrow;clear r1 r2 r3 hzs hys hrow hlen HN3;generalize hzz:l[i+k]?.getD 0=z at*
     have HZZ:=hid hzz;clear hzz;generalize b[k]?.getD 0=y at*
     have hp0:(0:Int)<=(x:Int)*y:=by rw[<-Int.natCast_mul];omega
     have hp1:(x:Int)*y<=999998000001:=by
      have:=Nat.mul_le_mul (show x<=999999 by omega) (show y<=999999 by omega);rw[<-Int.natCast_mul];omega
     have e1:IntKind.i64.wrap ((x:Int)*y)=(x:Int)*y:=zI _ (by omega);have e2:IntKind.i64.wrap ((z:Int)+(x:Int)*y)=(z:Int)+(x:Int)*y:=zI _ (by omega);have e3:IntKind.i64.wrap ((z:Int)+(x:Int)*y+c)=(z:Int)+(x:Int)*y+c:=zI _ (by omega);have e4:IntKind.i64.wrap ((i:Int)+k)=(i:Int)+k:=zI _ (by omega);have e5:((i:Int)+k).toNat=i+k:=by omega
     have HP:=hid (⟨hp0,hp1⟩:_/\_);clear hp0 hp1;have h3:k<b.length\/(¬k<b.length/\0<c):=by omega
     clear hgo;rcases h3 with h1|⟨h1,h2⟩<;>(
      go_wp2;go_quiet ((go_at_call 268;exact Calls.quiet_of_same (zi5 (LB.out _ (hB.trans (zzD (zM _ _) _))))));clear e1 e2 e3;have hp0:=HP.out.1;have hp1:=HP.out.2;go_wp2;go_roundw
      case rel=>
       refine⟨k+1,by omega,by go_num,?_,?_,?_⟩
       ·rw[HST2.out];simp[B6]
       ·rw[HST2.out]
        have:=Row.set (w:=wr.drewN nq) (show Row (wr.drewN nq) g N l from HROW.out) (i+k) ((z+x*y+c)%B6);have e:I ((z+x*y+c)%B6)=.int .i64 (((z:Int)+x*y+c)%1000000):=by simp[I,B6]
        rw[e] at this;exact this
       ·exact(zzD hB _).setCell (by rw[HG.out];exact zN _) _
      case measure=>simp[zL];omega)
    ·have h1:¬k<b.length:=λh=>hgo (.inl h)
     have h2:(zay B6 x b i L k).2=0:=by have:=λh=>hgo (.inr h);omega
     have hres:(zay B6 x b i L k).1=zbp B6 a b (i+1):=by
      rw[HST.out];rcases Nat.lt_or_ge k (b.length+1) with h|h
      ·obtain rfl:k=b.length:=by omega
       exact(zxi i r2 (by rw[r1,TS1.out];omega) h2).symm
      ·obtain rfl:k=b.length+1:=by omega
       rfl
     rw[h2] at*
     rw[hres] at hrow;have HROW:=hid hrow;clear hrow hres r1 r2 r3 hgo;go_wp2;go_roundw
     case rel=>exact⟨i+1,by omega,by go_num,HROW.out,hB⟩
     case measure=>simp[zL];omega
  ·obtain rfl:i=a.length:=by omega
   obtain⟨ts1,ts2, -⟩:=zdf (B:=B6) (by decide) SA.out SB.out a.length hk;rw[<-HN.out] at ts1;have hsl:=hrow.sl;have hown:=hrow.own (base:=w.heap.size) (by rw[HG.out];exact zN _);rw[ts1] at hsl;have HE:=hid (⟨ts1,hown⟩:_/\_);generalize hL:zbp B6 a b a.length=L at*
   have HSL:=hid hsl;clear hsl hown hrow ts1 ts2;have HLL:=hid hL;clear hL;go_wp21;refine(zdq _ _ _ L wr HSL.out (by rw[HE.out.1,HN.out];omega)).mono ?_;rintro e w1 ⟨rfl,rfl⟩;go_wp21;go_ret;have:=zeq HE.out.2 rfl;rw[HE.out.1] at this;exact⟨_,rfl,this,hB⟩
end
section
open Go.RowKit Go.Shelf Lib Str Limb
attribute [local go_sem] Oper.semAt_some
def zsb (w:zA) (z:Int) (e:Ending) (w':zA):Prop:=
 ∃m v n,e=.returned (.agg #[.bool m,v])/\sgn m n=z/\Sl w' v ((zaa B6 n).map I)/\zB w.heap.size w w'
theorem z3f {w:zA} {n:Nat} {e:Ending} {w':zA} (h:zht w (zaa B6 n) e w'):∃p c,e=.returned (.slice p (zaa B6 n).length c)/\Sl w' (.slice p (zaa B6 n).length c) ((zaa B6 n).map I)/\zB w.heap.size w w':=by
 obtain⟨v,rfl,hown,hB⟩:=h;have hs:=Sl.of_own hown;obtain⟨p,c,e, -⟩:=id hs;rw[zV] at e;subst e;exact⟨p,c,rfl,hs,hB⟩
structure BigS (W:zA) (mm:Bool) (n ic ia st:Nat) (b:Nat×Value) (f:Nat->Bool) (X:zA):Prop where
 pre:qL W X
 cv:f ic=true->∃p c,b.2=.slice p (zaa B6 n).length c/\Sl X b.2 ((zaa B6 n).map I)
 al:f ia=true->W.heap.size<=b.1/\(f st=false->X.heap[b.1]? =some (.cells #[.bool false,.slice none 0 0] 254 (0,0)))
 fin:f st=true->X.heap[b.1]? =some (.cells #[.bool mm,b.2] 254 (0,0))
theorem BigS.congr {W:zA} {mm:Bool} {n ic ia st:Nat} {b:Nat×Value} {f g:Nat->Bool} {X:zA} (h:BigS W mm n ic ia st b f X) (e1:g ic=f ic) (e2:g ia=f ia) (e3:g st=f st):BigS W mm n ic ia st b g X:=
 ⟨h.pre,by rw[e1];exact h.cv,by rw[e2,e3];exact h.al,by rw[e3];exact h.fin⟩
theorem BigS.call {W:zA} {mm:Bool} {n ic ia st:Nat} {b:Nat×Value} {f g:Nat->Bool} {X X':zA} {p:Option Addr} {c:Nat} (h:BigS W mm n ic ia st b f X) (_:f ic=false) (h3:f st=false) (_:g ic=true) (e2:g ia=f ia) (e3:g st=f st)
 (hb:qL X X') (hs:Sl X' (.slice p (zaa B6 n).length c) ((zaa B6 n).map I)):BigS W mm n ic ia st (b.1,.slice p (zaa B6 n).length c) g X':=
 ⟨h.pre.trans (hb.mono h.pre.size),λ_=>⟨p,c,rfl,hs⟩,λk=>by
   rw[e2] at k;obtain⟨k1,k2⟩:=h.al k;refine⟨k1,λk3=>?_⟩;have:=k2 (by rw[<-e3];exact k3);exact(hb.block _ (Array.getElem?_eq_some_iff.1 this).1).trans this,λk=>by rw[e3,h3] at k;cases k⟩
theorem BigS.new {W:zA} {mm:Bool} {n ic ia st:Nat} {b:Nat×Value} {f g:Nat->Bool} {X:zA} (h:BigS W mm n ic ia st b f X) (h3:f st=false) (e1:g ic=f ic) (e3:g st=f st):
 BigS W mm n ic ia st (X.heap.size,b.2) g (X.alloc (.cells #[.bool false,.slice none 0 0] 254)):=by
 have ha:qL X (X.alloc (.cells #[.bool false,.slice none 0 0] 254)):=(zM _ X).alloc (zN _) _;refine⟨h.pre.trans (ha.mono h.pre.size),λk=>?_,λ_=>⟨h.pre.size,λ_=>heap_alloc_new X _⟩,λk=>by rw[e3,h3] at k;cases k⟩;rw[e1] at k;obtain⟨p,c,e,hs⟩:=h.cv k;exact⟨p,c,e,hs.below ha⟩
theorem BigS.put {W:zA} {mm:Bool} {n ic ia st:Nat} {b:Nat×Value} {f g:Nat->Bool} {X:zA} (h:BigS W mm n ic ia st b f X) (h1:f ic=true) (h2:f ia=true) (h3:f st=false) (e3:g st=true):
 BigS W mm n ic ia st b g ((X.setCell ⟨b.1,0,none⟩ (.bool mm)).setCell ⟨b.1,1,none⟩ b.2):=by
 obtain⟨k1,k2⟩:=h.al h2;have hx:=k2 h3;obtain⟨p,c,e,hs⟩:=h.cv h1;have c0:X.cell? ⟨b.1,0,none⟩=some (.bool false):=by simp[World.cell?,hx]
 have c1:(X.setCell ⟨b.1,0,none⟩ (.bool mm)).cell? ⟨b.1,1,none⟩=some (.slice none 0 0):=(World.cell?_setCell_other _ _ _ (.bool mm) (show(⟨b.1,0,none⟩:Addr)≠⟨b.1,1,none⟩ by simp)).trans (by simp[World.cell?,hx]);refine⟨(h.pre.setCell (p:=⟨b.1,0,none⟩) k1 _).setCell (p:=⟨b.1,1,none⟩) k1 _,λ_=>⟨p,c,e,?_⟩,λ_=>⟨k1,λk=>by rw[e3] at k;cases k⟩,λ_=>?_⟩
 ·exact(hs.set c0 (λx=>by simp[I]) _).set c1 (λx=>by simp[I]) _
 ·exact(λ(Y:zA) (hY:Y.heap[b.1]? =some (.cells #[.bool false,.slice none 0 0] 254 (0,0)))=>by simp[World.setCell,Array.getElem?_modify,hY]:∀Y:zA,Y.heap[b.1]? =some (.cells #[.bool false,.slice none 0 0] 254 (0,0))->((Y.setCell ⟨b.1,0,none⟩ (.bool mm)).setCell ⟨b.1,1,none⟩ b.2).heap[b.1]? =some (.cells #[.bool mm,b.2] 254 (0,0))) X hx
theorem z02 (w:zA) (m m':Bool) (vx vy:Value):∃W3,W3=((w.alloc (.cells #[.bool m,vx] 254)).alloc (.cells #[.bool m',vy] 254)).alloc (.cells #[.bool false,.slice none 0 0] 254)/\
 qL w W3/\W3.heap.size=w.heap.size+3/\W3.heap[w.heap.size]? =some (.cells #[.bool m,vx] 254 (0,0))/\W3.heap[w.heap.size+1]? =some (.cells #[.bool m',vy] 254 (0,0))/\W3.heap[w.heap.size+1+1]? =some (.cells #[.bool false,.slice none 0 0] 254 (0,0)):=by
 refine⟨_,rfl,(((zM _ w).alloc (zN _) _).alloc (by simp) _).alloc (by simp;omega) _,by simp,?_,?_,?_⟩
 ·exact(Below.heap_alloc _ _ _ (by simp only[zH];omega)).trans ((Below.heap_alloc _ _ _ (by simp only[zH];omega)).trans (heap_alloc_new w _))
 ·refine(Below.heap_alloc _ _ _ (by simp only[zH];omega)).trans ?_
  have:=heap_alloc_new (w.alloc (.cells #[.bool m,vx] 254)) (.cells #[.bool m',vy] 254);rwa [zH] at this
 ·have:=heap_alloc_new ((w.alloc (.cells #[.bool m,vx] 254)).alloc (.cells #[.bool m',vy] 254)) (.cells #[.bool false,.slice none 0 0] 254)
  rwa [zH,zH] at this
theorem zr2 {X:zA} {R:Nat} (r0:X.cell? ⟨R,0,none⟩=some (.bool false)) (r1:X.cell? ⟨R,1,none⟩=some (.slice none 0 0)) (q:Bool) (v vv:Value) (l:List Nat) (hs:Sl X vv (l.map I)) {B:Nat} {w:zA} (hb:zB B w X) (hR:B<=R):
 ((X.setCell ⟨R,0,none⟩ (.bool q)).setCell ⟨R,1,none⟩ v).cell? ⟨R,0,none⟩=some (.bool q)/\((X.setCell ⟨R,0,none⟩ (.bool q)).setCell ⟨R,1,none⟩ v).cell? ⟨R,1,none⟩=some v/\Sl ((X.setCell ⟨R,0,none⟩ (.bool q)).setCell ⟨R,1,none⟩ v) vv (l.map I)/\zB B w ((X.setCell ⟨R,0,none⟩ (.bool q)).setCell ⟨R,1,none⟩ v):=by
 have e1:=(World.cell?_setCell_other _ _ _ (.bool q) (show(⟨R,0,none⟩:Addr)≠⟨R,1,none⟩ by simp)).trans r1;have e0:=za9 (u:=.bool q) r0
 exact⟨(World.cell?_setCell_other _ _ _ v (show(⟨R,1,none⟩:Addr)≠⟨R,0,none⟩ by simp)).trans e0,za9 (u:=v) e1,(hs.set r0 (λx=>by simp[I]) _).set e1 (λx=>by simp[I]) _,
  (hb.setCell (p:=⟨R,0,none⟩) hR _).setCell (p:=⟨R,1,none⟩) hR _⟩
theorem ybe (m m':Bool) (a b:Nat):sgn (m !=m') (a*b)=sgn m a*sgn m' b:=by
 cases m<;>cases m'<;>simp[sgn,Int.mul_neg,Int.neg_mul]
theorem z5f (m m':Bool) (vx vy:Value) (nx ny:Nat) (w:zA) (hx:Sl w vx ((zaa B6 nx).map I)) (hy:Sl w vy ((zaa B6 ny).map I)) (lx:(zaa B6 nx).length<=1000) (ly:(zaa B6 ny).length<=1000):
 zC zF 223 #[.agg #[.bool m,vx],.agg #[.bool m',vy]] w (zsb w (sgn m nx*sgn m' ny)):=by
 obtain⟨px,cx,rfl, -⟩:=id hx;obtain⟨py,cy,rfl, -⟩:=id hy;simp only[zV] at*
 have hpl:=λW h1 h2=>ztg (.slice px (zaa B6 nx).length cx) (.slice py (zaa B6 ny).length cy) (zaa B6 nx) (zaa B6 ny) W h1 h2 (zak (by decide) _) (zak (by decide) _) lx ly;rw[zam (B:=B6) (by decide),zam (B:=B6) (by decide)] at hpl;generalize (zaa B6 nx).length=kx at*
 generalize (zaa B6 ny).length=ky at*
 have HPL:=hid hpl;clear hpl;obtain⟨W3,hW3,hB3,hz3,b2,b3,b4⟩:=z02 w m m' (.slice px kx cx) (.slice py ky cy);have HX:=hid (hx.below hB3);clear hx;have HY:=hid (hy.below hB3);clear hy;have HW3:=hid hW3;have cells:∀X:zA,qL W3 X->X.cell? ⟨w.heap.size,0,none⟩=some (.bool m)/\X.cell? ⟨w.heap.size,1,none⟩=some (.slice px kx cx)/\X.cell? ⟨w.heap.size+1,0,none⟩=some (.bool m')/\X.cell? ⟨w.heap.size+1,1,none⟩=some (.slice py ky cy):=λX h=>by
  have e2:=(h.block w.heap.size (by omega)).trans b2;have e3:=(h.block (w.heap.size+1) (by omega)).trans b3;refine⟨?_,?_,?_,?_⟩<;>simp[World.cell?,e2,e3]
 have CL:=hid cells;have H3:=hid (⟨hB3,hz3,b4⟩:_/\_/\_);clear cells hB3 hz3 b2 b3 b4 hW3 lx ly;go_enter Tryz.func223,Tryz.ntmps223;go_wp2;rw[<-HW3.out];refine zc4 (λ(b:Nat×Value) i=>([.pointer (some ⟨w.heap.size,0,none⟩),.bool m,.pointer (some ⟨w.heap.size+1,0,none⟩),.bool m',.bool (m !=m'),.pointer (some ⟨w.heap.size,1,none⟩),.slice px kx cx,.pointer (some ⟨w.heap.size+1,1,none⟩),.slice py ky cy,b.2,.agg #[.bool (m !=m'),b.2],.pointer (some ⟨b.1,0,none⟩),undef]:List Value)[i]?.getD undef)
  (BigS W3 (m !=m') (nx*ny) 9 11 12) (by kernel_rfl) (by kernel_rfl) (0,.slice none 0 0) ⟨(zM _ W3).drew,λk=>(by cases k),λk=>(by cases k),λk=>(by cases k)⟩ λb=>?_
 refine qB (.pointer (some ⟨w.heap.size,0,none⟩)) (λf W' h=>h.congr rfl rfl rfl) ?_;refine qB (.bool m) (λf W' h=>h.congr rfl rfl rfl) ?_ (hy:=λf W' hf h=>by have g:=CL.out _ h.pre;obtain⟨q0,q1,q2,q3⟩:=g;go_simp);refine qB (.pointer (some ⟨w.heap.size+1,0,none⟩)) (λf W' h=>h.congr rfl rfl rfl) ?_;simp only[zzQ];refine qB (.bool m') (λf W' h=>h.congr rfl rfl rfl) ?_ (hy:=λf W' hf h=>by have g:=CL.out _ h.pre;obtain⟨q0,q1,q2,q3⟩:=g;go_simp);refine qB (.bool (m !=m')) (λf W' h=>h.congr rfl rfl rfl) ?_ (hy:=λf W' hf h=>by cases m<;>cases m'<;>go_simp);refine qB (.pointer (some ⟨w.heap.size,1,none⟩)) (λf W' h=>h.congr rfl rfl rfl) ?_;simp only[zzQ];refine qB (.slice px kx cx) (λf W' h=>h.congr rfl rfl rfl) ?_ (hy:=λf W' hf h=>by have g:=CL.out _ h.pre;obtain⟨q0,q1,q2,q3⟩:=g;go_simp);refine qB (.pointer (some ⟨w.heap.size+1,1,none⟩)) (λf W' h=>h.congr rfl rfl rfl) ?_;refine qB (.slice py ky cy) (λf W' h=>h.congr rfl rfl rfl) ?_ (hy:=λf W' hf h=>by have g:=CL.out _ h.pre;obtain⟨q0,q1,q2,q3⟩:=g;go_simp);simp only[zzQ]
 refine zdc b.2 (by rfl) (by rfl) (λf W' hf h C' hC'=>by
  have h9:=hf.self;have h12:=(hf.no (j:=12) (hf.no (j:=10) hf.self (by kernel_rfl)) (by kernel_rfl));go_simp;refine(HPL.out W' (HX.out.below h.pre) (HY.out.below h.pre)).mono ?_;intro e w' hr;obtain⟨p,c,rfl,hs,hb⟩:=z3f hr;refine⟨_,rfl,hC' (b.1,.slice p (zaa B6 (nx*ny)).length c) w' (λi hi=>?_) (h.call h9 h12 rfl rfl rfl hb hs)⟩
  match i,hi with
  |0,_|1,_|2,_|3,_|4,_|5,_|6,_|7,_|8,_|11,_|12,_=>rfl
  |9,hi=>rw[h9] at hi;cases hi
  |10,hi=>rw[hf.no (j:=10) hf.self (by kernel_rfl)] at hi;cases hi
  |_+13,_=>rfl) ?_
 refine qB (.agg #[.bool (m !=m'),b.2]) (λf W' h=>h.congr rfl rfl rfl) ?_ (hy:=λf W' hf h=>by
  obtain⟨p,c,e, -⟩:=h.cv (hf.done 9 (by kernel_rfl));obtain⟨b1,v⟩:=b;dsimp only at e;subst e;go_simp)
 try simp only[zzQ]
 refine zdc (.pointer (some ⟨b.1,0,none⟩)) (by rfl) (by rfl) (λf W' hf h C' hC'=>by
  have h12:=(hf.no (j:=12) hf.self (by kernel_rfl));have:=hC' (W'.heap.size,b.2) (W'.alloc (.cells #[.bool false,.slice none 0 0] 254)) (λi hi=>?_) (h.new h12 rfl rfl)
  ·go_simp
   exact this
  ·match i,hi with
   |0,_|1,_|2,_|3,_|4,_|5,_|6,_|7,_|8,_|9,_|10,_|12,_=>rfl
   |11,hi=>rw[hf.self] at hi;cases hi
   |_+13,_=>rfl) ?_
 try simp only[zzQ]
 refine zbv undef (by rfl) (by rfl) (λf W' hf h C' hC'=>by
  have h9:=hf.done 9 (by kernel_rfl);have h11:=hf.done 11 (by kernel_rfl);have h12:=hf.self;obtain⟨k1,k2⟩:=h.al h11;have hx:=k2 h12;have d0:W'.cell? ⟨b.1,0,none⟩=some (.bool false):=by simp[World.cell?,hx]
  have d1:W'.cell? ⟨b.1,1,none⟩=some (.slice none 0 0):=by simp[World.cell?,hx]
  have f0:W'.frozen? ⟨b.1,0,none⟩=false:=by simp[World.frozen?,hx]
  have f1:W'.frozen? ⟨b.1,1,none⟩=false:=by simp[World.frozen?,hx]
  have:=hC' _ (h.put h9 h11 h12 rfl);obtain⟨p,c,e, -⟩:=h.cv h9;rw[e] at this⊢;clear hC' h k2 hx e;go_simp;exact this) ?_
 try simp only[Act.put]
 refine ze1 λf X hf h=>?_;obtain⟨p,c,e,hs⟩:=h.cv (hf 9 (by decide));have hfin:=h.fin (hf 12 (by decide));obtain⟨k1, -⟩:=h.al (hf 11 (by decide));obtain⟨b1,v⟩:=b;dsimp only at e hfin k1 hs;subst e;have hres:=(h.pre.block (w.heap.size+1+1) (by have:=H3.out.2.1;omega)).trans H3.out.2.2;have HS:=hid hs;have HB:=hid (H3.out.1.trans (h.pre.mono (by have:=H3.out.2.1;omega)));have hk:w.heap.size+1+1<b1:=by have:=H3.out.2.1;omega
 clear h hf hs k1;have HZ:=hid (ybe m m' nx ny);have HR:=hid hres;have c0:X.cell? ⟨b1,0,none⟩=some (.bool (m !=m')):=by simp[World.cell?,hfin]
 have c1:X.cell? ⟨b1,1,none⟩=some (.slice p (zaa B6 (nx*ny)).length c):=by simp[World.cell?,hfin]
 have f0:X.frozen? ⟨b1,0,none⟩=false:=by simp[World.frozen?,hfin]
 have r0:X.cell? ⟨w.heap.size+1+1,0,none⟩=some (.bool false):=by simp[World.cell?,hres]
 have r1:X.cell? ⟨w.heap.size+1+1,1,none⟩=some (.slice none 0 0):=by simp[World.cell?,hres]
 have fr0:X.frozen? ⟨w.heap.size+1+1,0,none⟩=false:=by simp[World.frozen?,hres]
 have fr1:X.frozen? ⟨w.heap.size+1+1,1,none⟩=false:=by simp[World.frozen?,hres]
 have hne:w.heap.size+1+1≠b1:=by omega
 have hne2:b1≠w.heap.size+1+1:=by omega
 generalize hmm:(m !=m')=mm at*
 generalize hn:nx*ny=n at*
 clear hres hfin HPL HX HY HW3 CL H3 hmm hn;by_cases h0:n=0
 ·subst h0
  rw[zaz] at*
  have d0:=(zau X (b:=w.heap.size+1+1) (b':=b1) 0 0 (.bool false) hne).trans r0;have d1:=(zau X (b:=w.heap.size+1+1) (b':=b1) 1 0 (.bool false) hne).trans r1;have hs1:=HS.out.set c0 (λx=>by simp[I]) (.bool false);have F:=hid (zr2 d0 d1 false (.slice p 0 c) _ [] hs1 (HB.out.setCell (p:=⟨b1,0,none⟩) (by show w.heap.size<=b1;omega) _) (show w.heap.size<=w.heap.size+1+1 by omega));have HZ2:=hid HZ.out;clear d0 d1 hs1;simp only[List.length_nil] at*
  go_wp2;obtain⟨g0,g1,g2,g3⟩:=F.out;exact bodyPost_ret (v:=.agg #[.bool false,.slice p 0 c]) (by simp[results,Tryz.results223,go_sem,g0,g1]) rfl ⟨false,_,0,rfl,by rw[<-HZ2.out];cases mm<;>simp[sgn],by rw[zaz];exact g2,g3⟩
 ·have hl0:¬(zaa B6 n).length=0:=λh=>h0 ((zbd (B:=B6) (by decide) n).1 (List.length_eq_zero_iff.1 h))
  have hlb:(((zaa B6 n).length:Int)==0)=false:=by rw[beq_eq_false_iff_ne];omega
  have F:=hid (zr2 r0 r1 mm (.slice p (zaa B6 n).length c) _ (zaa B6 n) HS.out HB.out (show w.heap.size<=w.heap.size+1+1 by omega));clear h0;generalize (zaa B6 n).length=L at*
  go_wp2;obtain⟨g0,g1,g2,g3⟩:=F.out;exact bodyPost_ret (v:=.agg #[.bool mm,.slice p L c]) (by simp[results,Tryz.results223,go_sem,g0,g1]) rfl ⟨mm,_,n,rfl,HZ.out,g2,g3⟩
end
end Go.Proofs.YtfoodcpnnmonhaaGreatDoor
