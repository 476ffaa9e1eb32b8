/- slices.Backward over []int: the iterator's contract, whatever the loop's body does. -/
import Derived.Test.YtccijmidbdapaaaGreatDoorJ02
import Derived.RangeFuncNested
import Derived.RangeFuncBound
import Derived.RangeFuncCalls
import Derived.RangeFuncLeaves
import Derived.RangeFuncBox
import Derived.RangeFuncWrites
import Derived.Shelf.Abstract
import Derived.Shelf.RegionOpen
import Derived.OwnWalkIn
import Derived.TacticsInMore
import Derived.LoopNIn
import Derived.LoopIn
import Derived.Sort.EveryDepth
import Derived.OrdersIn
import Derived.Orders
import Derived.OrdersHeld
import Derived.StillTail
import Derived.StillTailTactics
import Derived.Deep.Quiet
import Derived.Deep.QuietTactic
set_option maxRecDepth 100000
set_option maxHeartbeats 8000000
open Go renaming World → zA
open Go.Proofs.Tryz renaming prog → zF
open Nat renaming le_refl → zN
open List renaming length_cons → yA
namespace Go.Proofs.YtccijmidbdapaaaGreatDoor
section
open Go.RowKit Go.Shelf
attribute [local go_sem] Oper.semAt_some
def CellsKept (W W':zA):Prop:=∀(k:Nat) (cs:Array Value) (t:TypeId) (fz:Nat×Nat),W.heap[k]? =some (Obj.cells cs t fz)->W'.heap[k]? =some (Obj.cells cs t fz)
theorem CellsKept.cell {W W':zA} (h:CellsKept W W') {b o:Nat} {v:Value} (hc:W.cell? ⟨b,o,none⟩=some v):W'.cell? ⟨b,o,none⟩=some v:=by
 have hc':=hc
 unfold World.cell? at hc
 cases hb:W.heap[b]? with
 |none=>rw[hb] at hc;cases hc
 |some x=>
  rw[hb] at hc
  cases x<;>first|(cases hc;done)|skip
  rw[<-hc']
  exact World.cell?_of_block (a:=⟨b,o,none⟩) ((h _ _ _ _ hb).trans hb.symm)
theorem CellsKept.frozen {W W':zA} (h:CellsKept W W') {b o:Nat} {v:Value} (hc:W.cell? ⟨b,o,none⟩=some v) (hf:W.frozen? ⟨b,o,none⟩=false):W'.frozen? ⟨b,o,none⟩=false:=by
 have hc':=hc
 unfold World.cell? at hc
 cases hb:W.heap[b]? with
 |none=>rw[hb] at hc;cases hc
 |some x=>
  rw[hb] at hc
  cases x<;>first|(cases hc;done)|skip
  rw[<-hf]
  exact World.frozen?_of_block (a:=⟨b,o,none⟩) ((h _ _ _ _ hb).trans hb.symm)
theorem CellsKept.sl {W W':zA} (h:CellsKept W W') {v:Value} {xs:List Value} (hs:Sl W v xs):Sl W' v xs:=by
 obtain⟨p,cap,e,hcap,hc⟩:=hs
 exact⟨p,cap,e,hcap,λi x hx=>let ⟨b,off,ep,h'⟩:=hc i x hx;⟨b,off,ep,h.cell h'⟩⟩
theorem CellsKept.row {W W':zA} (h:CellsKept W W') {g cap:Nat} {l:List Nat} (hs:Row W g cap l):Row W' g cap l:=by
 obtain⟨cur,hg,hr⟩:=hs
 exact⟨cur,h _ _ _ _ hg,hr⟩
theorem zen {W W':zA} {row:Option Nat} (hg:W.grownBy W' row) (hr:∀r,row=some r->∃o:Obj,W.heap[r]? =some o/\o.isCells=false):CellsKept W W':=by
 intro k cs t fz hk
 rw[hg.block k (Array.getElem?_eq_some_iff.1 hk).1 (λe=>by
  obtain⟨o,ho,hc⟩:=hr k e.symm
  rw[hk] at ho;cases ho;cases hc)]
 exact hk
theorem zv8 {β:Type} {I:β->zA->Prop} (h:∀s W W',CellsKept W W'->I s W->I s W'):Own I:=
 λs W W' _ hs hg hr=>h s W W' (zen hg hr) hs
theorem za0 {W W':zA} (h:qL W W'):KeepsOthers W W':=
 ⟨h.size,λk o hk _=>by rw[h.block k (Array.getElem?_eq_some_iff.1 hk).1];exact hk⟩
def upto {α:Type} (f:Nat->α) (k:Nat):List α:=(List.range k).map f
theorem zia {α:Type} (f:Nat->α) (k:Nat):upto f (k+1)=upto f k++[f k]:=by simp[upto,List.range_succ]
theorem zso {α:Type} (f:Nat->α) (k:Nat):(upto f k).length=k:=by simp[upto]
def At (len:Nat) (V:Nat->Int->Prop):Type:={p:Nat×Int // p.1<len/\V p.1 p.2}
theorem zyn (l Bs len cap:Nat) (p:Option Addr) (V:Nat->Int->Prop) (Rd:zA->Prop) (hlen:len<=3000)
 (hRd:∀W,Rd W->W.cell? ⟨Bs,0,none⟩=some (.slice p len cap)/\∀i,i<len->∃b off x,p=some ⟨b,off,none⟩/\V i x/\W.cell? ⟨b,off+i,none⟩=some (.int .i64 x))
 (J Jx:List (At len V)->zA->Prop)
 (hY:∀pre x W,J pre W->pre.length<len->YieldAt Fence.wide (2-1) zF l #[.int .i64 (x.1.1:Int),.int .i64 x.1.2] W λe W'=>
   (e=.returned (.bool true)/\J (pre++[x]) W'/\(Rd W->Rd W'))\/(e=.returned (.bool false)/\Jx (pre++[x]) W'))
 (W:zA) (hr:Rd W) (h0:J [] W):
 CallsIn Fence.wide 2 zF 195 #[.func (.yield l) #[] #[],.pointer (some ⟨Bs,0,none⟩)] W λe W'=>(∃v,e=.returned v)/\
  ((∃ys:List (At len V),ys.map (·.1.1)=upto (λk=>len-1-k) len/\J ys W')\/(∃pre:List (At len V),(∃k,k<=len/\pre.map (·.1.1)=upto (λk=>len-1-k) k)/\Jx pre W')):=by
 refine callsIn_of_wp Tryz.func195 rfl trivial ?_ rfl
 simp only[Tryz.ntmps195,List.size_toArray,yA,List.length_nil,Nat.reduceAdd,Nat.reduceSub,Array.replicate_succ,Array.replicate_zero,List.push_toArray,List.append_toArray,List.nil_append,List.cons_append]
 have hb:=(hRd W hr).1
 have HRd:=Lib.hid hRd;clear hRd
 have HY:=Lib.hid hY;clear hY
 gi_wp2
 gi_loopw [3] (λi wr=>∃(k:Nat) (pre:List (At len V)),k<=len/\i=.int .i64 ((len:Int)-1-k)/\Hid (pre.map (·.1.1)=upto (λk=>len-1-k) k)/\Hid (J pre wr)/\Hid (Rd wr))
  (λi _=>(RowKit.intOf i+1).toNat)
 case atStart=>exact⟨0,[],Nat.zero_le _,by simp,rfl,h0,hr⟩
 case round=>
  clear hb
  obtain⟨k,pre,hk,rfl,hp,hJ,hr'⟩:=hrel
  have hpl:pre.length=k:=by have:=congrArg List.length hp.out;simpa [zso] using this
  by_cases hlt:k<len
  ·obtain⟨hbox,hcs⟩:=HRd.out wr hr'.out
   obtain⟨b,off,x,rfl,hV,hcell⟩:=hcs (len-1-k) (by omega)
   obtain⟨x0,hx1,hx2⟩:∃x0:At len V,x0.1.1=len-1-k/\x0.1.2=x:=⟨⟨(len-1-k,x),by show len-1-k<len;omega,hV⟩,rfl,rfl⟩
   obtain⟨fn,tmps,assign,body,hy,hR⟩:=HY.out pre x0 wr hJ.out (by rw[hpl];exact hlt)
   clear hpl hcs hV
   have hi2:(((len-1-k:Nat):Int))=(len:Int)-1-k:=by omega
   rw[hx1,hx2,hi2] at hy
   have HX1:=Lib.hid hx1;clear hi2 hx1 hx2
   gi_wp2
   refine hR.mono ?_
   rintro e W3 (⟨rfl,hJ3,hk3⟩|⟨rfl,hJx3⟩)
   ·have HJ3:=Lib.hid hJ3;clear hJ3
    have HK3:=Lib.hid hk3;clear hk3
    gi_wp2
    go_roundw
    case rel=>exact⟨k+1,_,by omega,by first|go_num|(simp;omega),by show List.map _ _=_;rw[List.map_append,hp.out,zia,<-HX1.out];rfl,HJ3.out,HK3.out hr'.out⟩
    case measure=>simp[RowKit.intOf];omega
   ·have HJx3:=Lib.hid hJx3;clear hJx3
    gi_wp2
    refine bodyPost_ret (results_none rfl _ _ _) rfl ?_
    exact⟨⟨_,rfl⟩,.inr ⟨_,⟨k+1,by omega,by rw[List.map_append,hp.out,zia,<-HX1.out];rfl⟩,HJx3.out⟩⟩
  ·obtain rfl:k=len:=by omega
   clear hpl
   gi_wp2
   go_end0
   exact⟨⟨_,rfl⟩,.inl ⟨_,hp.out,hJ.out⟩⟩
theorem zhu (v:Value) (w:zA) (p:Option Addr) (n cap:Nat) (hv:v=.slice p n cap):
 Calls zF 155 #[v] w λe w'=>e=.returned (.func (.func 195) #[] #[.pointer (some ⟨w.heap.size,0,none⟩)])/\w.alloc (.cells #[v] 123)=w':=by
 subst hv
 go_enter Tryz.func155,Tryz.ntmps155
 go_wp2
 go_ret
 exact⟨rfl,rfl⟩
theorem zun (Bs len cap:Nat) (p:Option Addr) (V:Nat->Int->Prop) (Rd:zA->Prop) (hlen:len<=3000)
 (hRd:∀W,Rd W->W.cell? ⟨Bs,0,none⟩=some (.slice p len cap)/\∀i,i<len->∃b off x,p=some ⟨b,off,none⟩/\V i x/\W.cell? ⟨b,off+i,none⟩=some (.int .i64 x))
 (w:zA) (hw:∀W,qL w W->Rd W):
 SeqStopsK Fence.wide (3-1) zF 195 #[.pointer (some ⟨Bs,0,none⟩)] (λx:At len V=> #[Value.int .i64 (x.1.1:Int),Value.int .i64 x.1.2]) (λW W'=>Rd W->Rd W')
  (λys=>ys.map (·.1.1)=upto (λk=>len-1-k) len) (λpre=>∃k,k<=len/\pre.map (·.1.1)=upto (λk=>len-1-k) k) len w:=
 λl J Jx W hW _ _ hY h0=>zyn l Bs len cap p V Rd hlen hRd J Jx hY W (hw W hW) h0
theorem znd {g:Operand} {ps:Array Tmp} {assign body:Code} {Q:Exit->Act->zA->Prop} {a:Act} {w:zA}
 (w0:zA) (hB:qL w0 w) (Bs len cap:Nat) (p:Option Addr) (V:Nat->Int->Prop) (Rd:zA->Prop) (hlen:len<=3000)
 (hRd:∀W,Rd W->W.cell? ⟨Bs,0,none⟩=some (.slice p len cap)/\∀i,i<len->∃b off x,p=some ⟨b,off,none⟩/\V i x/\W.cell? ⟨b,off+i,none⟩=some (.int .i64 x))
 (hw:∀W,qL w W->Rd W) (hRk:∀W W',CellsKept W W'->Rd W->Rd W')
 (hg:a.eval g=.func (.func 195) #[] #[.pointer (some ⟨Bs,0,none⟩)]) (hps:ps.size=2)
 (I:List (At len V)->zA->Prop) (Ix:Code->List (At len V)->zA->Prop) (hI:∀s W W',CellsKept W W'->I s W->I s W') (hIx:∀c s W W',CellsKept W W'->Ix c s W->Ix c s W') (h0:I [] w)
 (a₁:At len V->Act)
 (hassign:∀(l:Nat) (x:At len V) (W:zA) (K:Act->zA->Prop),K (a₁ x) W->
   assign.wpIn (Fence.wide.inRound l) 1 zF (Exit.then K (λ_ _ _=>False)) {tmps:=(ps.zip #[Value.int .i64 (x.1.1:Int),Value.int .i64 x.1.2]).foldl (λt (p,v)=>t.setIfInBounds p v) a.tmps,defers:=[]} W)
 (hbody:∀(l:Nat) (pre:List (At len V)) (x:At len V) (W:zA),I pre W->qL w0 W->pre.length<len->
   body.wpIn (Fence.wide.inRound l) 1 zF (ownPostG w.heap.size (λW W'=>Rd W->Rd W') (λs W=>I s W/\Below w0.heap.size w0 W) (λc s W=>Ix c s W/\Below w0.heap.size w0 W) (pre++[x]) W) (a₁ x) W)
 (hdone:∀(D:Nat) (xs:List (At len V)) (W:zA),w.heap.size<=D->xs.map (·.1.1)=upto (λk=>len-1-k) len->I xs W->qL w0 W->W.heap[D]? =some (.deferred (some []))->
   Q .normal {a with defers:={target:=.collected D,args:= #[]}::a.defers} W)
 (hstop:∀(D:Nat) (c:Code) (pre:List (At len V)) (W:zA),w.heap.size<=D->(∃k,k<=len/\pre.map (·.1.1)=upto (λk=>len-1-k) k)->Ix c pre W->qL w0 W->W.heap[D]? =some (.deferred (some []))->
   c.wpIn Fence.wide 3 zF Q {a with defers:={target:=.collected D,args:= #[]}::a.defers} W):
 (Code.rangeFunc g ps assign body).wpIn Fence.wide 3 zF Q a w:=
 wpIn_rangeFunc_ownG rfl (by omega) hg trivial (enters_of Tryz.func195 (by kernel_rfl) rfl)
  (zun Bs len cap p V Rd hlen hRd w hw) (λh k x=>k (h x))
  (λW l o o' _ h1 h2 _ hr=>hRk W _ (zen (grownBy_putObj' W l o') (λr e=>by cases e;exact⟨o,h1,h2⟩)) hr)
  (Below.refl _ _) (λ_=>hps.symm)
  (λs W=>I s W/\Below w0.heap.size w0 W) (λc s W=>Ix c s W/\Below w0.heap.size w0 W)
  (OwnFrom.and ((zv8 hI).from _) (ownFrom_below (zN _) hB.size)) (λc=>OwnFrom.and ((zv8 (hIx c)).from _) (ownFrom_below (zN _) hB.size))
  ⟨h0,hB⟩ a₁ hassign (λl pre x W h hp=>hbody l pre x W h.1 h.2 hp) (λD xs W hD hs h hK=>hdone D xs W hD hs h.1 h.2 hK) (λD c pre W hD hs h hK=>hstop D c pre W hD hs h.1 h.2 hK)
theorem zby {w0 W:zA} {D:Nat} (h:qL w0 W) (hD:w0.heap.size<=D) (hK:W.heap[D]? =some (.deferred (some []))):qL w0 (W.putObj D (.deferred none)):=
 h.trans (belowK_b (w:=w0) (zN _) W D _ _ hD hK rfl rfl)
theorem zbk {W:zA} {D:Nat} (hK:W.heap[D]? =some (.deferred (some []))):CellsKept W (W.putObj D (.deferred none)):=
 zen (grownBy_putObj' W D _) (λr e=>by cases e;exact⟨_,hK,rfl⟩)
def RdSl (Bs:Nat) (v:Value) (l:List Nat) (W:zA):Prop:=W.cell? ⟨Bs,0,none⟩=some v/\Sl W v (l.map I)
theorem RdSl.read {Bs cap:Nat} {p:Option Addr} {l:List Nat} {W:zA} (h:RdSl Bs (.slice p l.length cap) l W):
 W.cell? ⟨Bs,0,none⟩=some (.slice p l.length cap)/\∀i,i<l.length->∃b off x,p=some ⟨b,off,none⟩/\x=((l[i]?.getD 0:Nat):Int)/\W.cell? ⟨b,off+i,none⟩=some (.int .i64 x):=
 ⟨h.1,λ_ hi=>let ⟨b,off,e,_,_,hc⟩:=h.2.at hi;⟨b,off,_,e,rfl,hc⟩⟩
theorem zqt {len i:Nat} (h:i<len):i∈upto (λk=>len-1-k) len:=by
 simp only[upto,List.mem_map,List.mem_range];exact⟨len-1-i,by omega,by omega⟩
end
section
open Go
variable {P:Program} {ops:Array Oper}
def zhj (ops:Array Oper):Bool:=ops.all λo=>match o.op with| .defer _=>false|_=>true
theorem zv9 {l n:Nat} {row:String} {args:Array Value} {w:zA} {R:Value->zA->Prop} (h:Rows P row args w R):RowsIn (Fence.wide.inRound l) n P row args w R:=by
 intro c cs _
 obtain⟨v,w',hR,hs⟩:=h c cs
 exact⟨v,w',hR,stepsIn_wide.2 hs⟩
theorem zoc {l n:Nat} (hnd:zhj ops=true) {i:Nat} {K K':Act->zA->Prop} {Q Q':Exit->Act->zA->Prop} (hQ:∀e a w,e≠ .normal->¬Q e a w) {a:Act} {w:zA}
 (hK:∀a w,K a w->K' a w) (h:wpOp P ops Q i K a w):wpOpIn (Fence.wide.inRound l) n P ops Q' i K' a w:=by
 unfold wpOp at h
 unfold wpOpIn
 cases ho:ops[i]? with
 |none=>simp only[ho] at h⊢;exact hK _ _ h
 |some o=>
  simp only[ho] at h⊢
  by_cases hw:Region.wanted o (yielded ops a.tmps)=true
  ·simp only[hw,if_true] at h⊢
   have hlet:¬LetsOut Q:=λ⟨a',w',hq⟩=>hQ _ _ _ (by intro e;cases e) hq
   rcases h with h|⟨_,h⟩
   ·refine⟨λ_ _=>trivial,?_⟩
    have hd:∀c,o.op≠ .defer c:=by
     intro c e
     have:=Array.all_eq_true'.1 hnd o (Array.mem_of_getElem? ho)
     rw[e] at this;cases this
    rw[Oper.semAt_eq _ _ _ hd]
    unfold Oper.wp at h
    generalize (execOp a.eval o).run P w=r at*
    cases r with
    |ok x w'=>
     cases x<;>simp only[Oper.upon] at h<;>simp only[Oper.uponIn]
     all_goals first
      |exact hK _ _ h
      |(refine⟨(by intro h';cases h'),CallsIn.inRound l (callsIn_wide.2 (h.mono ?_))⟩
        intro e w'' he
        cases e with
        |returned v=>exact hK _ _ he
        |panicked c=>exact absurd he (hQ _ _ _ (by intro e;cases e))
        |outgrown=>exact absurd he hlet)
      |(refine⟨(by intro h';cases h'),zv9 (h.mono ?_)⟩
        intro v w'' he;exact hK _ _ he)
    |halt x w'=>
     cases x<;>simp only[Oper.upon] at h
     exact absurd h (hQ _ _ _ (by intro e;cases e))
   ·exact absurd h hlet
  ·simp only[hw,Bool.false_eq_true,if_false] at h⊢
   exact⟨λ_ _=>trivial,hK _ _ h⟩
theorem zd4 {l n:Nat} (hnd:zhj ops=true) {md:Region.Mode} {Q Q':Exit->Act->zA->Prop} (hQ:∀e a w,e≠ .normal->¬Q e a w) (hN:∀a w,Q .normal a w->Q' .normal a w):
 ∀(fuel:Nat) (listed:Array Bool) (a:Act) (w:zA),wpAny P md ops Q fuel listed a w->wpAnyIn (Fence.wide.inRound l) n P md ops Q' fuel listed a w
 |0,_,_,_,h=>⟨h.1,hN _ _ h.2⟩
 |fuel+1,_,_,_,h=>⟨λh0=>hN _ _ (h.1 h0),λi hi=>zoc hnd hQ (λa w h=>zd4 hnd hQ hN fuel _ a w h) (h.2 i hi)⟩
theorem zis {l m id:Nat} {Q:Exit->Act->zA->Prop} {a:Act} {w:zA} {ol:List Oper} (n:Nat) (hm:P.follows .mixedOrders=true) (hB:Region.lexTailB .any ol.toArray n=true) (hnd:zhj ol.toArray=true)
 (h:wpStill P ol.toArray {w with drawn:=w.drawn+1} (λa'=>wpList P ol.toArray (λe a w=>e=.normal/\Q .normal a w) (ol.drop n) a' {w with drawn:=w.drawn+1}) (ol.take n) a):(Code.region id ol.toArray true).wpIn (Fence.wide.inRound l) m P Q a w:=by
 simp only[Region.lexTailB,Bool.and_eq_true,decide_eq_true_eq] at hB
 obtain⟨⟨⟨⟨hsel,hn⟩,hs⟩,hc⟩,hlex⟩:=hB
 have hn':n<ol.length:=by simpa using hn
 have htl:(ol.take n).length=n:=by simp;omega
 have hdl:(ol.drop n).length=ol.toArray.size-n:=by simp
 have inv0:HeadInv .any ol.toArray n (Array.replicate ol.toArray.size false):=
  ⟨by simp,λj oj _ hl=>(by rw[getD_replicate_false] at hl;cases hl),λt _ ht=>getD_in (by simpa using ht) (getD_replicate_false _ _)⟩
 have H:=wpAnyL_lex (md:=.any) (g:=ol.toArray.size-n) hsel hs hc hn (ol.take n) 0 _ a (λj hj=>by
  have hj':j<n:=by rw[htl] at hj;exact hj
  simp[hj']) (by simpa using htl) inv0 (by rw[htl];exact hlex) h
 refine wpIn_region_any hm (zd4 hnd (Q:=λe a w=>e=.normal/\Q .normal a w) (λe a w h h'=>h h'.1) (λa w h=>h.2) _ _ _ _ ?_)
 have:=wpAny_of_head (Q':=λe a w=>e=.normal/\Q .normal a w) (g:=ol.toArray.size-n) (λlisted a' hL=>by
  have:=wpAny_of_seq (md:=.any) (Q':=λe a w=>e=.normal/\Q .normal a w) (ol.drop n) n listed a' {w with drawn:=w.drawn+1} (λj=>by simp[List.getElem?_drop]) (by rw[hdl];exact hL.1) hL.2
  rwa [hdl] at this) _ _ _ H
 rw[htl,show n+(ol.toArray.size-n)=ol.toArray.size by omega] at this
 exact this
def zex (P:Program) (ops:Array Oper) (S:zA->Prop) (K:Act->Prop):List Oper->Act->Prop
 |[],a=>K a
 |o::rest,a=>∃v,YieldsIf P ops S o v a/\zex P ops S K rest (a.put o.dst v)
theorem zhv {S:zA->Prop} {K K':Act->Prop} (hK:∀a,K a->K' a):∀(l:List Oper) (a:Act),zex P ops S K l a->zex P ops S K' l a
 |[],_,h=>hK _ h
 |_::l,_,⟨v,hy,h⟩=>⟨v,hy,zhv hK l _ h⟩
theorem ze6 {S:zA->Prop} {K:Act->Prop} {a:Act} (h:K a):zex P ops S K [] a:=h
theorem zer {S:zA->Prop} {K:Act->Prop} {a:Act} {o:Oper} {l:List Oper} {v:Value} (hw:Region.wanted o (yielded ops a.tmps)=true) (hy:∀w,S w->(execOp a.eval o).run P w=.ok (.value v) w)
 (h:zex P ops S K l (a.put o.dst v)):zex P ops S K (o::l) a:=⟨v,.inl ⟨hw,hy⟩,h⟩
def zi7 (ops:Array Oper):Nat->Nat->Array Bool->Bool
 |0,_,_=>true
 |m+1,k,listed=>Region.free .any ops listed k&&(Region.ready .any ops listed).contains k&&zi7 ops m (k+1) (listed.setIfInBounds k true)
def zjs:Nat->Nat->Array Bool->Array Bool
 |0,_,listed=>listed
 |m+1,k,listed=>zjs m (k+1) (listed.setIfInBounds k true)
theorem zko {S:zA->Prop} {Q:Exit->Act->zA->Prop} {w:zA} (hs:Region.noSelect ops=true) (hQ:∀c a b w,Q (.panic c) a w->Q (.panic c) b w) (hS:S w) (g:Nat):
 ∀(l:List Oper) (k:Nat) (listed:Array Bool) (a:Act),(∀j,j<l.length->l[j]? =ops[k+j]?)->zi7 ops l.length k listed=true->
  zex P ops S (λa'=>wpAnyH P .any ops Q S g (zjs l.length k listed) a' w) l a->wpAnyH P .any ops Q S (l.length+g) listed a w
 |[],k,listed,a,_,_,h=>by rw[List.length_nil,Nat.zero_add];exact h
 |o::l,k,listed,a,hl,hB,⟨v,hy,h⟩=>by
  have h0:ops[k]? =some o:=by simpa using(hl 0 (by simp)).symm
  simp only[yA,zi7,Bool.and_eq_true] at hB
  rw[yA,show l.length+1+g=(l.length+g)+1 by omega]
  refine wpAnyH_take h0 hs hB.1.1 hB.1.2 (λc a w h=>hQ c _ _ w h) hy hS ?_
  exact zko hs hQ hS g l (k+1) _ _ (λj hj=>by have:=hl (j+1) (by simpa using hj);simpa [Nat.add_assoc,Nat.add_comm 1 j] using this) hB.2 h
def zdw (P:Program) (ops:Array Oper) (Q:Exit->Act->zA->Prop) (S:zA->Prop):List Oper->Act->zA->Prop
 |[],a,w=>Q .normal a w
 |o::rest,a,w=>if Region.wanted o (yielded ops a.tmps) then o.wp P a w (λa' w'=>S w'/\zdw P ops Q S rest a' w') Q else S w/\zdw P ops Q S rest (a.put o.dst undef) w
theorem zbt {Q:Exit->Act->zA->Prop} {S:zA->Prop} {o:Oper} {rest:List Oper} {a:Act} {w:zA} (hw:Region.wanted o (yielded ops a.tmps)=true)
 (h:∀K:Act->zA->Prop,(∀a' w',S w'->zdw P ops Q S rest a' w'->K a' w')->o.wp P a w K Q):zdw P ops Q S (o::rest) a w:=by
 simp only[zdw,hw,if_true]
 exact h _ λa' w' h1 h2=>⟨h1,h2⟩
theorem ze7 {Q:Exit->Act->zA->Prop} {S:zA->Prop} {a:Act} {w:zA} (h:Q .normal a w):zdw P ops Q S [] a w:=h
theorem zkp {S:zA->Prop} {Q:Exit->Act->zA->Prop}:∀(l:List Oper) (k:Nat) (listed:Array Bool) (a:Act) (w:zA),(∀j,l[j]? =ops[k+j]?)->
 Region.seqB .any ops l.length k listed=true->zdw P ops Q S l a w->wpAnyH P .any ops Q S l.length listed a w
 |[],_,_,_,_,_,hB,h=>⟨by simpa [Region.seqB] using hB,h⟩
 |o::l,k,listed,a,w,hl,hB,h=>by
  have h0:ops[k]? =some o:=by simpa using(hl 0).symm
  simp only[yA,Region.seqB,Bool.and_eq_true,decide_eq_true_eq] at hB
  refine wpAnyH_all hB.1 (by simp) λi hi=>?_
  have hik:i=k:=by simpa using hi
  subst hik
  have hrec:∀a' w',(S w'/\zdw P ops Q S l a' w')->(S w'/\wpAnyH P .any ops Q S l.length (listed.setIfInBounds i true) a' w'):=λa' w' h'=>
   ⟨h'.1,zkp l (i+1) _ a' w' (λj=>by have:=hl (j+1);simpa [Nat.add_assoc,Nat.add_comm 1 j] using this) hB.2 h'.2⟩
  refine wpOp_mono hrec ?_
  unfold wpOp
  simp only[h0]
  simp only[zdw] at h
  by_cases hw:Region.wanted o (yielded ops a.tmps)=true
  ·simp only[hw,if_true] at h⊢;exact .inl h
  ·simp only[hw,Bool.false_eq_true,if_false] at h⊢;exact h
theorem zmp {l m id:Nat} {Q:Exit->Act->zA->Prop} {a:Act} {w:zA} {ol:List Oper} (n:Nat) (S:zA->Prop) (hm:P.follows .mixedOrders=true)
 (hB:(Region.noSelect ol.toArray&&zhj ol.toArray&&decide (n<ol.length)&&zi7 ol.toArray n 0 (Array.replicate ol.length false)&&Region.seqB .any ol.toArray (ol.length-n) n (zjs n 0 (Array.replicate ol.length false)))=true)
 (hS:S {w with drawn:=w.drawn+1})
 (h:zex P ol.toArray S (λa'=>zdw P ol.toArray (λe a w=>e=.normal/\Q .normal a w) S (ol.drop n) a' {w with drawn:=w.drawn+1}) (ol.take n) a):
 (Code.region id ol.toArray true).wpIn (Fence.wide.inRound l) m P Q a w:=by
 simp only[Bool.and_eq_true,decide_eq_true_eq] at hB
 obtain⟨⟨⟨⟨hsel,hnd⟩,hn⟩,hlex⟩,hseq⟩:=hB
 have htl:(ol.take n).length=n:=by simp;omega
 have hdl:(ol.drop n).length=ol.length-n:=by simp
 refine wpIn_region_any hm (zd4 hnd (Q:=λe a w=>e=.normal/\Q .normal a w) (λe a w h h'=>h h'.1) (λa w h=>h.2) _ _ _ _ (wpAny_of_held _ _ _ _ (S:=S) ?_))
 have H:=zko (P:=P) (ops:=ol.toArray) (S:=S) (Q:=λe a w=>e=.normal/\Q .normal a w) hsel (λc a b w h=>absurd h.1 (by intro e;cases e)) hS (ol.length-n) (ol.take n) 0 (Array.replicate ol.length false) a
  (λj hj=>by have hj':j<n:=by rw[htl] at hj;exact hj
             simp[hj']) (by rw[htl];exact hlex) (by
    rw[htl]
    refine zhv ?_ _ _ h
    intro a' h'
    have:=zkp (P:=P) (ops:=ol.toArray) (Q:=λe a w=>e=.normal/\Q .normal a w) (S:=S) (ol.drop n) n _ a' _ (λj=>by simp[List.getElem?_drop]) (by rw[hdl];exact hseq) h'
    rwa [hdl] at this)
 rw[htl,show n+(ol.length-n)=ol.length by omega] at H
 simpa using H
end
section
open Go
variable {P:Program} {ops:Array Oper}
def zfx (P:Program) (C:zA->Prop) (v:Value):Result Next->Prop
 | .ok (.value u) w'=>u=v/\C w'
 | .ok .skip w'=>v=undef/\C w'
 | .ok (.enter f args) w'=>Calls P f args w' (λe w''=>e=.returned v/\C w'')
 |_=>False
structure AcAt (ops:Array Oper) (i:Nat) (L:Array Bool):Prop where
 size:L.size=ops.size
 self:L.getD i false=false
 done:∀j,Region.waitsFor .any ops i j=true->L.getD j false=true
 closed:∀i j,L.getD i false=true->Region.waitsFor .any ops i j=true->L.getD j false=true
def zcr (ops:Array Oper) (i:Nat):Option Tmp:=(ops[i]?).bind (·.dst)
def zi8 (ops:Array Oper) (i:Nat):List Tmp:=match ops[i]? with|some o=>o.looksAt ops|none=>[]
def acB (ops:Array Oper):Bool:=
 Region.noSelect ops&&(List.range ops.size).all λi=>(List.range ops.size).all λj=>
  (i==j||match zcr ops j with
    |none=>true
    |some d=>(zcr ops i !=some d)&&(!(zi8 ops i).contains d||(if j<i then Region.waitsFor .any ops i j else Region.waitsFor .any ops j i)))
def zfd (ops:Array Oper):Bool:=(List.range ops.size).all λi=>match ops[i]? with|some (o:Oper)=>o.after.all λ(e:Edge)=>!Region.binds .any e||decide (e.on<i)|none=>true
def zax (ops:Array Oper) (vs:Nat->Value) (a:Act) (L:Array Bool):Nat->Act
 |0=>a
 |k+1=>if L.getD k false then(zax ops vs a L k).put (zcr ops k) (vs k) else zax ops vs a L k
theorem zyo (a:Act) (d:Option Tmp) (v:Value):(a.put d v).tmps.size=a.tmps.size:=by cases d<;>simp[Act.put]
theorem zg8 (vs:Nat->Value) (a:Act) (L:Array Bool):∀k,(zax ops vs a L k).tmps.size=a.tmps.size
 |0=>rfl
 |k+1=>by
  simp only[zax]
  split
  ·rw[zyo,zg8 vs a L k]
  ·exact zg8 vs a L k
theorem zod (a:Act) (d:Option Tmp) (v:Value) (t:Nat):(a.put d v).tmps[t]? =if d=some t/\t<a.tmps.size then some v else a.tmps[t]? :=by
 cases d with
 |none=>simp[Act.put]
 |some d=>
  simp only[Act.put,Array.getElem?_setIfInBounds,Option.some.injEq]
  by_cases h:d=t
  ·subst h
   by_cases h2:d<a.tmps.size
   ·simp[h2]
   ·simp[h2]
  ·simp[h]
theorem zib (vs:Nat->Value) (a:Act) (L L':Array Bool) (t:Nat):∀k,(∀j,j<k->zcr ops j=some t->L.getD j false=L'.getD j false)->(zax ops vs a L k).tmps[t]? =(zax ops vs a L' k).tmps[t]?
 |0,_=>rfl
 |k+1,h=>by
  have ih:=zib vs a L L' t k (λj hj=>h j (by omega))
  simp only[zax]
  by_cases hd:zcr ops k=some t
  ·rw[h k (by omega) hd]
   split
   ·rw[zod,zod,zg8,zg8,ih]
   ·exact ih
  ·have e:∀b:Act,(b.put (zcr ops k) (vs k)).tmps[t]? =b.tmps[t]? :=λb=>by rw[zod,if_neg (λh=>hd h.1)]
   split<;>split
   ·rw[e,e];exact ih
   ·rw[e];exact ih
   ·rw[e];exact ih
   ·exact ih
theorem zdp (L:Array Bool) (i j:Nat) (hi:i<L.size):(L.setIfInBounds i true).getD j false=if i=j then true else L.getD j false:=by
 have hg:∀(M:Array Bool),M.getD j false=(M[j]?).getD false:=λM=>by simp
 rw[hg,hg,Array.getElem?_setIfInBounds]
 by_cases h:i=j
 ·subst h;simp[hi]
 ·simp[h]
theorem zic (vs:Nat->Value) (a:Act) (L:Array Bool) (i:Nat) (hi:i<L.size) (hL:L.getD i false=false) (hd:∀j d,j≠i->zcr ops i=some d->zcr ops j≠some d):
 ∀k,zax ops vs a (L.setIfInBounds i true) k=if i<k then(zax ops vs a L k).put (zcr ops i) (vs i) else zax ops vs a L k
 |0=>by simp[zax]
 |k+1=>by
  have ih:=zic vs a L i hi hL hd k
  unfold zax
  rw[zdp L i k hi,ih]
  rcases Nat.lt_trichotomy i k with h|h|h
  ·rw[if_neg (show ¬i=k by omega),if_pos h,if_pos (show i<k+1 by omega)]
   split
   ·exact Act.put_comm _ _ _ (λd e=>hd k d (by omega) e)
   ·rfl
  ·subst h
   rw[if_pos rfl,if_neg (Nat.lt_irrefl _),if_pos rfl,if_pos (Nat.lt_succ_self _),hL]
   simp
  ·rw[if_neg (show ¬i=k by omega),if_neg (show ¬i<k by omega),if_neg (show ¬i<k+1 by omega)]
def zbw (n k:Nat):Array Bool:=(Array.range n).map λi=>decide (i<k)
theorem zd5 (n k j:Nat):(zbw n k).getD j false=(decide (j<n)&&decide (j<k)):=by
 simp only[zbw,Array.getD_eq_getD_getElem?]
 by_cases h:j<n
 ·simp[h]
 ·simp[h]
theorem zit {a b:Act} {o:Oper} (hs:∀cs b,o.op≠ .select cs b) (h:∀t∈o.looksAt ops,a.tmps[t]? =b.tmps[t]?):
 execOp a.eval o=execOp b.eval o/\Region.wanted o (yielded ops a.tmps)=Region.wanted o (yielded ops b.tmps):=by
 constructor
 ·refine execOp_congr o hs λx hx=>?_
  cases x with
  |tmp t=>
   have:=h t (List.mem_append_left _ (List.mem_filterMap.2 ⟨.tmp t,by simpa using hx,rfl⟩))
   simp[Act.eval,Array.getD_eq_getD_getElem?,this]
  |_=>rfl
 ·unfold Region.wanted
  cases hg:o.guard with
  |none=>rfl
  |some g=>
   obtain⟨g,want⟩:=g
   have e:yielded ops a.tmps g=yielded ops b.tmps g:=by
    unfold yielded
    cases hd:(ops[g]?).bind (·.dst) with
    |none=>rfl
    |some t=>
     have:=h t (List.mem_append_right _ (by rw[hg];simp[hd]))
     simp[this]
   simp[e]
theorem zmq (hB:(acB ops&&zfd ops)=true):Region.noSelect ops=true/\(∀i j d,i<ops.size->j<ops.size->i≠j->zcr ops j=some d->zcr ops i≠some d)/\
 (∀i j d,i<ops.size->j<ops.size->i≠j->zcr ops j=some d->d∈zi8 ops i->(j<i/\Region.waitsFor .any ops i j=true)\/(i<j/\Region.waitsFor .any ops j i=true))/\
 (∀(i:Nat) (o:Oper),ops[i]? =some o->∀(e:Edge),e∈o.after->Region.binds .any e=true->e.on<i):=by
 simp only[acB,zfd,Bool.and_eq_true,List.all_eq_true,List.mem_range] at hB
 obtain⟨⟨h1,h2⟩,h4⟩:=hB
 refine⟨h1,λi j d hi hj hne hd=>?_,λi j d hi hj hne hd hl=>?_,λi o ho e he hbe=>?_⟩
 ·have:=h2 i hi j hj
  rw[hd] at this
  simp[hne] at this
  exact this.1
 ·have:=h2 i hi j hj
  rw[hd] at this
  simp[hne] at this
  have h3:=this.2
  rcases h3 with h3|h3
  ·exact absurd hl h3
  ·by_cases hji:j<i
   ·simp[hji] at h3;exact .inl ⟨hji,h3⟩
   ·simp[hji] at h3;exact .inr ⟨by omega,h3⟩
 ·have:=h4 i (Array.getElem?_eq_some_iff.1 ho).1
  rw[ho] at this
  have:=Array.all_eq_true'.1 this e he
  simpa [hbe] using this
def zue (P:Program) (ops:Array Oper) (C:Array Bool->zA->Prop) (i:Nat) (o:Oper) (a:Act) (v:Value):Prop:=
 ∀L w,AcAt ops i L->C L w->if Region.wanted o (yielded ops a.tmps) then zfx P (C (L.setIfInBounds i true)) v ((execOp a.eval o).run P w) else v=undef/\C (L.setIfInBounds i true) w
theorem zjt {o:Oper} {a:Act} {v:Value} {w:zA} {C:zA->Prop} {K:Act->zA->Prop} {Q:Exit->Act->zA->Prop} (hK:∀w',C w'->K (a.put o.dst v) w') (h:zfx P C v ((execOp a.eval o).run P w)):o.wp P a w K Q:=by
 unfold Oper.wp
 generalize (execOp a.eval o).run P w=r at*
 cases r with
 |ok x w'=>
  cases x<;>simp only[zfx] at h<;>simp only[Oper.upon]
  ·obtain⟨rfl,h⟩:=h;exact hK _ h
  ·obtain⟨rfl,h⟩:=h;exact hK _ h
  ·exact h.mono λe w'' ⟨he,hc⟩=>by subst he;exact hK _ hc
 |halt x w'=>simp only[zfx] at h
def zoe (ops:Array Oper) (L:Array Bool):Prop:=∀i j,L.getD i false=true->Region.waitsFor .any ops i j=true->L.getD j false=true
theorem zyp {Q:Exit->Act->zA->Prop} {C:Array Bool->zA->Prop} (hB:(acB ops&&zfd ops)=true) (vs:Nat->Value) (a:Act)
 (step:∀i o,ops[i]? =some o->zue P ops C i o (zax ops vs a (zbw ops.size i) ops.size) (vs i))
 (hend:∀L w,(∀i,i<ops.size->L.getD i false=true)->C L w->Q .normal (zax ops vs a (zbw ops.size ops.size) ops.size) w):
 ∀(fuel:Nat) (L:Array Bool) (w:zA),L.size=ops.size->zoe ops L->((List.range ops.size).filter λi=>!L.getD i false).length<=fuel->C L w->wpAny P .any ops Q fuel L (zax ops vs a L ops.size) w:=by
 obtain⟨hsel,hdist,hlook,hback⟩:=zmq hB
 have hq:∀L w,(∀i,i<ops.size->L.getD i false=true)->C L w->Q .normal (zax ops vs a L ops.size) w:=by
  intro L w hall hC
  have e:zax ops vs a L ops.size=zax ops vs a (zbw ops.size ops.size) ops.size:=by
   have:∀k,k<=ops.size->zax ops vs a L k=zax ops vs a (zbw ops.size ops.size) k:=by
    intro k
    induction k with
    |zero=>intro _;rfl
    |succ k ih=>
     intro hk
     simp only[zax]
     rw[ih (by omega),hall k (by omega),zd5]
     simp[show k<ops.size by omega]
   exact this _ (zN _)
  rw[e];exact hend L w hall hC
 have hready:∀L,L.size=ops.size->Region.ready .any ops L=[]->∀i,i<ops.size->L.getD i false=true:=by
  intro L hsz h0 i
  induction i using Nat.strongRecOn with
  |_ i ih=>
   intro hi
   cases hl:L.getD i false with
   |true=>rfl
   |false=>
    have hm:i∈Region.ready .any ops L:=by
     refine mem_ready.2 ⟨getD_in (by omega) hl,ops[i],by simp[hi],λe he hb=>?_⟩
     have hlt:=hback i (ops[i]) (show ops[i]? =some (ops[i]) from Array.getElem?_eq_getElem hi) e he hb
     exact ih e.on hlt (Nat.lt_trans hlt hi)
    rw[h0] at hm;cases hm
 intro fuel
 induction fuel with
 |zero=>
  intro L w hsz hcl hcount hC
  have hall:∀i,i<ops.size->L.getD i false=true:=by
   intro i hi
   cases hl:L.getD i false with
   |true=>rfl
   |false=>
    have:i∈(List.range ops.size).filter λi=>!L.getD i false:=List.mem_filter.2 ⟨List.mem_range.2 hi,by rw[hl];rfl⟩
    rw[List.length_eq_zero_iff.1 (Nat.le_zero.1 hcount)] at this;cases this
  refine⟨?_,hq L w hall hC⟩
  apply List.eq_nil_iff_forall_not_mem.2
  intro i hi
  obtain⟨h1,o,ho,_⟩:=mem_ready.1 hi
  have:=hall i (Array.getElem?_eq_some_iff.1 ho).1
  rw[getD_both h1] at this;cases this
 |succ fuel ih=>
  intro L w hsz hcl hcount hC
  refine⟨λh0=>hq L w (hready L hsz h0) hC,λi hi=>?_⟩
  obtain⟨h1,o,ho,hall⟩:=mem_ready.1 hi
  have hin:i<ops.size:=(Array.getElem?_eq_some_iff.1 ho).1
  have hLi:=getD_both h1
  have hdone:∀j,Region.waitsFor .any ops i j=true->L.getD j false=true:=by
   intro j hw
   obtain⟨o',ho',e,he,hb,rfl⟩:=Region.waitsFor_spec hw
   have:o'=o:=Option.some.inj (ho'.symm.trans ho)
   subst this
   exact hall e he hb
  have hopen:∀j,Region.waitsFor .any ops j i=true->L.getD j false=false:=by
   intro j hw
   cases hl:L.getD j false with
   |false=>rfl
   |true=>rw[hcl j i hl hw] at hLi;cases hLi
  have hat:AcAt ops i L:=⟨hsz,hLi,hdone,hcl⟩
  have hst:=step i o ho L w hat hC
  have hset:=zic vs a L i (by omega) hLi (λj d hne hd hj=>by
   rcases Nat.lt_or_ge j ops.size with hjn|hjn
   ·exact hdist i j d hin hjn (Ne.symm hne) hj hd
   ·simp[zcr,Array.getElem?_eq_none hjn] at hj) ops.size
  rw[if_pos hin] at hset
  have hsame:=zit (ops:=ops) (a:=zax ops vs a L ops.size) (b:=zax ops vs a (zbw ops.size i) ops.size) (o:=o) (λcs b=>Region.noSelect_spec hsel i o cs b ho) (λt ht=>by
   refine zib vs a L _ t ops.size λj hj hd=>?_
   rw[zd5]
   by_cases hji:j=i
   ·subst hji;rw[hLi];simp
   ·have:=hlook i j t hin hj (Ne.symm hji) hd (by simpa [zi8,ho] using ht)
    rcases this with⟨h2,h3⟩|⟨h2,h3⟩
    ·rw[hdone j h3];simp[hj,h2]
    ·rw[hopen j h3];simp;omega)
  have hnext:∀w',C (L.setIfInBounds i true) w'->wpAny P .any ops Q fuel (L.setIfInBounds i true) ((zax ops vs a L ops.size).put o.dst (vs i)) w':=by
   intro w' hC'
   have hd:o.dst=zcr ops i:=by simp[zcr,ho]
   rw[hd,<-hset]
   refine ih _ w' (by simpa using hsz) ?_ ?_ hC'
   ·intro x y hx hw
    rw[zdp L i _ (by omega)] at hx⊢
    split
    ·rfl
    ·split at hx
     ·rename_i h;subst h;exact hdone y hw
     ·exact hcl x y hx hw
   ·have e:((List.range ops.size).filter λx=>!(L.setIfInBounds i true).getD x false)=((List.range ops.size).filter λx=>!L.getD x false).filter λx=>decide (x≠i):=by
     rw[List.filter_filter]
     refine List.filter_congr λx _=>?_
     rw[zdp L i x (by omega)]
     by_cases h:i=x
     ·subst h;simp
     ·simp[h,Ne.symm h]
    rw[e]
    have:=(List.length_filter_lt_length_iff_exists (l:=(List.range ops.size).filter λx=>!L.getD x false) (p:=λx=>decide (x≠i))).2 ⟨i,List.mem_filter.2 ⟨List.mem_range.2 hin,by rw[hLi];rfl⟩,by simp⟩
    omega
  unfold wpOp
  simp only[ho]
  rw[hsame.2]
  by_cases hw:Region.wanted o (yielded ops (zax ops vs a (zbw ops.size i) ops.size).tmps)=true
  ·rw[if_pos hw] at hst⊢
   rw[<-hsame.1] at hst
   exact .inl (zjt hnext hst)
  ·rw[if_neg hw] at hst⊢
   rw[hst.1] at hnext
   exact hnext _ hst.2
structure AcF (ops:Array Oper) (i:Nat) (f:Nat->Bool):Prop where
 self:f i=false
 done:∀j,Region.waitsFor .any ops i j=true->f j=true
 closed:∀i j,f i=true->Region.waitsFor .any ops i j=true->f j=true
theorem AcF.no {i:Nat} {f:Nat->Bool} (h:AcF ops i f) {j k:Nat} (h0:f k=false) (hw:Region.waitsFor .any ops j k=true):f j=false:=by
 cases hj:f j with
 |false=>rfl
 |true=>rw[h.closed j k hj hw] at h0;cases h0
def zwa (P:Program) (ops:Array Oper) (C:(Nat->Bool)->zA->Prop) (i:Nat) (o:Oper) (a:Act) (v:Value):Prop:=
 ∀f w,AcF ops i f->C f w->
  if Region.wanted o (yielded ops a.tmps) then zfx P (C (λj=>if i=j then true else f j)) v ((execOp a.eval o).run P w) else v=undef/\C (λj=>if i=j then true else f j) w
def AcL (P:Program) (ops:Array Oper) (C:(Nat->Bool)->zA->Prop) (K:Act->zA->Prop):Nat->List Oper->Act->Prop
 |_,[],a=>∀f w,(∀i,i<ops.size->f i=true)->C f w->K a w
 |k,o::rest,a=>∃v,zwa P ops C k o a v/\AcL P ops C K (k+1) rest (a.put o.dst v)
theorem zck {C:(Nat->Bool)->zA->Prop} {K:Act->zA->Prop} {k:Nat} {a:Act} (h:∀f w,(∀i,i<ops.size->f i=true)->C f w->K a w):AcL P ops C K k [] a:=h
theorem zab {C:(Nat->Bool)->zA->Prop} {K:Act->zA->Prop} {k:Nat} {o:Oper} {rest:List Oper} {a:Act} {v:Value} (hw:Region.wanted o (yielded ops a.tmps)=true)
 (hset:∀f w,C f w->C (λj=>if k=j then true else f j) w)
 (hy:∀f w,AcF ops k f->C f w->(execOp a.eval o).run P w=.ok (.value v) w)
 (h:AcL P ops C K (k+1) rest (a.put o.dst v)):AcL P ops C K k (o::rest) a:=by
 refine⟨v,λf w hf hC=>?_,h⟩
 rw[if_pos hw,hy f w hf hC]
 exact⟨rfl,hset f w hC⟩
theorem zar {C:(Nat->Bool)->zA->Prop} {K:Act->zA->Prop} {k:Nat} {o:Oper} {rest:List Oper} {a:Act} (v:Value) (hw:Region.wanted o (yielded ops a.tmps)=true)
 (hy:∀f w,AcF ops k f->C f w->∀C':zA->Prop,(∀w',C (λj=>if k=j then true else f j) w'->C' w')->zfx P C' v ((execOp a.eval o).run P w))
 (h:AcL P ops C K (k+1) rest (a.put o.dst v)):AcL P ops C K k (o::rest) a:=by
 refine⟨v,λf w hf hC=>?_,h⟩
 rw[if_pos hw]
 exact hy f w hf hC _ λ_ h=>h
def zbq (vs:Nat->Value):Nat->List Oper->Act->Nat->Act
 |_,_,a,0=>a
 |_,[],a,_+1=>a
 |k,o::l,a,i+1=>zbq vs (k+1) l (a.put o.dst (vs k)) i
theorem zl2 (vs:Nat->Value):∀(l:List Oper) (k:Nat) (a:Act) (i:Nat),i<l.length->zbq vs k l a (i+1)=(zbq vs k l a i).put ((l[i]?).bind (·.dst)) (vs (k+i))
 |[],_,_,_,h=>absurd h (Nat.not_lt_zero _)
 |o::l,k,a,0,_=>by cases l<;>simp[zbq]
 |o::l,k,a,i+1,h=>by
  have:=zl2 vs l (k+1) (a.put o.dst (vs k)) i (by simpa using h)
  simp only[zbq] at this⊢
  rw[this]
  simp[Nat.add_comm,Nat.add_left_comm]
theorem zqu {C:(Nat->Bool)->zA->Prop} {K:Act->zA->Prop}:∀(l:List Oper) (k:Nat) (a:Act),AcL P ops C K k l a->
 ∃vs:Nat->Value,(∀i o,l[i]? =some o->zwa P ops C (k+i) o (zbq vs k l a i) (vs (k+i)))/\(∀f w,(∀i,i<ops.size->f i=true)->C f w->K (zbq vs k l a l.length) w)
 |[],k,a,h=>⟨λ_=>undef,λi o h=>by simp at h,h⟩
 |o::l,k,a,⟨v,hv,h⟩=>by
  obtain⟨vs,h1,h2⟩:=zqu l (k+1) _ h
  have hc:∀(l:List Oper) (vs vs':Nat->Value) (k:Nat) (a:Act) (i:Nat),(∀j,k<=j->vs j=vs' j)->zbq vs k l a i=zbq vs' k l a i:=by
   intro l
   induction l with
   |nil=>intro vs vs' k a i _;cases i<;>rfl
   |cons o l ih=>
    intro vs vs' k a i he
    cases i with
    |zero=>rfl
    |succ i=>simp only[zbq];rw[he k (zN _)];exact ih vs vs' (k+1) _ i λj hj=>he j (by omega)
  have hvs:∀j,k+1<=j->(if j=k then v else vs j)=vs j:=λj hj=>if_neg (by omega)
  refine⟨λj=>if j=k then v else vs j,λi o' ho=>?_,?_⟩
  ·cases i with
   |zero=>
    obtain rfl:o=o':=by simpa using ho
    simpa [zbq] using hv
   |succ i=>
    have:=h1 i o' (by simpa using ho)
    simp only[zbq]
    rw[hc l _ vs (k+1) _ i hvs]
    simp only[if_true]
    rw[if_neg (by omega)]
    rw[show k+(i+1)=k+1+i by omega]
    exact this
  ·simp only[zbq,yA]
   rw[hc l _ vs (k+1) _ _ hvs]
   simpa using h2
theorem zdg (vs:Nat->Value) (l:List Oper) (a:Act) (i:Nat) (hi:i<=l.length):∀k,k<=l.length->zax l.toArray vs a (zbw l.length i) k=zbq vs 0 l a (min i k)
 |0,_=>by simp[zax,zbq]
 |k+1,hk=>by
  have ih:=zdg vs l a i hi k (by omega)
  simp only[zax]
  rw[zd5,ih]
  by_cases h:k<i
  ·simp only[show k<l.length by omega,h,decide_true,Bool.and_self,if_true]
   rw[Nat.min_eq_right (by omega),Nat.min_eq_right (by omega),zl2 vs l 0 a k (by omega)]
   simp[zcr]
  ·simp only[h,decide_false,Bool.and_false,Bool.false_eq_true,if_false]
   rw[Nat.min_eq_left (by omega),Nat.min_eq_left (by omega)]
theorem zwb {K:Act->zA->Prop} {Q:Exit->Act->zA->Prop} (hQ:∀a w,K a w->Q .normal a w) {l:List Oper} (C:(Nat->Bool)->zA->Prop) (hB:(acB l.toArray&&zfd l.toArray)=true) {a:Act} {w:zA} (hC:C (λ_=>false) w) (h:AcL P l.toArray C K 0 l a):
 wpAny P .any l.toArray Q l.toArray.size (Array.replicate l.toArray.size false) a w:=by
 obtain⟨vs,h1,h2⟩:=zqu l 0 a h
 have e0:zax l.toArray vs a (Array.replicate l.toArray.size false) l.toArray.size=a:=by
  have:∀k,zax l.toArray vs a (Array.replicate l.toArray.size false) k=a:=by
   intro k
   induction k with
   |zero=>rfl
   |succ k ih=>
    have:(Array.replicate l.toArray.size false).getD k false=false:=by
     simp only[Array.getD];split<;>simp
    simp only[zax,this,Bool.false_eq_true,if_false];exact ih
  exact this _
 have:=zyp (P:=P) (ops:=l.toArray) (Q:=Q) (C:=λL w=>C (λj=>L.getD j false) w) hB vs a ?_ ?_ l.toArray.size (Array.replicate l.toArray.size false) w (by simp) ?_ ?_ ?_
 ·rw[e0] at this;exact this
 ·intro i o ho L w hat hc
  have hi:i<l.length:=by
   have:=(Array.getElem?_eq_some_iff.1 ho).1
   simpa using this
  have hst:=h1 i o (by simpa using ho) (λj=>L.getD j false) w (by rw[Nat.zero_add];exact⟨hat.self,hat.done,hat.closed⟩) hc
  have ea:zax l.toArray vs a (zbw l.toArray.size i) l.toArray.size=zbq vs 0 l a i:=by
   have:=zdg vs l a i (by omega) l.length (zN _)
   rw[Nat.min_eq_left (by omega)] at this
   simpa using this
  have es:(λj=>(L.setIfInBounds i true).getD j false)=(λj=>if i=j then true else L.getD j false):=by
   funext j
   exact zdp L i j (by rw[hat.size];simpa using hi)
  rw[ea]
  simp only[es]
  simpa using hst
 ·intro L w hall hc
  have ea:zax l.toArray vs a (zbw l.toArray.size l.toArray.size) l.toArray.size=zbq vs 0 l a l.length:=by
   have:=zdg vs l a l.length (zN _) l.length (zN _)
   rw[Nat.min_self] at this
   simpa using this
  rw[ea]
  exact hQ _ _ (h2 _ w hall hc)
 ·intro i j hi
  have:(Array.replicate l.toArray.size false).getD i false=false:=by simp only[Array.getD];split<;>simp
  rw[this] at hi;cases hi
 ·refine Nat.le_trans (List.length_filter_le _ _) (by simp)
 ·have:(λj=>(Array.replicate l.toArray.size false).getD j false)= λ_=>false:=by
   funext j
   simp only[Array.getD];split<;>simp
  simpa only[this] using hC
theorem zbl {id:Nat} {Q:Exit->Act->zA->Prop} {a:Act} {w:zA} {l:List Oper} (C:(Nat->Bool)->zA->Prop) (hm:P.follows .mixedOrders=true) (hB:(acB l.toArray&&zfd l.toArray)=true) (hC:C (λ_=>false) {w with drawn:=w.drawn+1})
 (h:AcL P l.toArray C (Q .normal) 0 l a):(Code.region id l.toArray true).wp P Q a w:=
 wp_region_any hm (zwb (λ_ _ h=>h) C hB hC h)
theorem qR {C:(Nat->Bool)->zA->Prop} {K:Act->zA->Prop} {k:Nat} {o:Oper} {rest:List Oper} {a:Act} (v:Value) (h:AcL P ops C K (k+1) rest (a.put o.dst v)) (hw:Region.wanted o (yielded ops a.tmps)=true:=by rfl) (hset:∀f w,C f w->C (λj=>if k=j then true else f j) w:=by exact λ_ _ h=>h) (hy:∀f w,AcF ops k f->C f w->(execOp a.eval o).run P w=.ok (.value v) w:=by intro f W' hf h;go_simp):AcL P ops C K k (o::rest) a:=zab hw hset hy h
end
end Go.Proofs.YtccijmidbdapaaaGreatDoor
