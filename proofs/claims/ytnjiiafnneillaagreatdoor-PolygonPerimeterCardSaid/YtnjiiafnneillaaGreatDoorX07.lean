/- A region that draws its order, with values that the order may decide: what has come up is named by a ghost b (the addresses of new blocks, say), which an operation may turn where nothing listed looks at it. -/
import Derived.Test.YtnjiiafnneillaaGreatDoorX06
import Derived.Test.YtnjiiafnneillaaGreatDoorRows
import Derived.Lib.SmallJoins
import Derived.ProofKit
import Derived.Lib.LaidU8
import Derived.HandedShaped
import Derived.Lay
import Derived.Shelf.Vars
import Derived.Carry
set_option maxRecDepth 100000
set_option maxHeartbeats 8000000
open Go renaming World → zA, Calls → zC
open Go.RowKit renaming Below → zB, intOf → zL
open Go.Lib renaming decDigits → zD, itoa → zE
open Go.Proofs.Tryz renaming prog → zF
open Go.World renaming alloc_heap_new → zG, size_alloc → zH
open Go.IntWalk renaming i64_in → zI
open Go.Joins renaming cell_of_block → zJ, block_setCell → zK
open Go.RowKit.Below renaming refl → zM, heap_setCell → yE
open Nat renaming le_refl → zN, le_trans → zO, zero_le → zR, lt_of_lt_of_le → zS, pow_le_pow_right → yF, pow_succ → yO, mul_comm → yP
open List renaming length_cons → yA
namespace Go.Proofs.YtnjiiafnneillaaGreatDoor
section
open Go
variable {P:Program} {ops:Array Oper} {β:Type}
def zfp (P:Program) (C:Value->zA->Prop):Result Next->Prop
 | .ok (.value u) w'=>C u w'
 | .ok .skip w'=>C undef w'
 | .ok (.enter f args) w'=>zC P f args w' (λe w''=>∃v,e=.returned v/\C v w'')
 |_=>False
theorem zwz {o:Oper} {a:Act} {w:zA} {C:Value->zA->Prop} {K:Act->zA->Prop} {Q:Exit->Act->zA->Prop} (hK:∀v w',C v w'->K (a.put o.dst v) w') (h:zfp P C ((execOp a.eval o).run P w)):o.wp P a w K Q:=by
 unfold Oper.wp;generalize (execOp a.eval o).run P w=r at*
 cases r with
 |ok x w'=>
  cases x<;>simp only[zfp] at h<;>simp only[Oper.upon]
  ·exact hK _ _ h
  ·exact hK _ _ h
  ·exact h.mono λe w'' ⟨v,he,hc⟩=>by subst he;exact hK _ _ hc
 |halt x w'=>simp only[zfp] at h
def zgx (vs:β->Nat->Value) (C:β->Array Bool->zA->Prop) (i:Nat) (L:Array Bool) (b:β) (v:Value) (w':zA):Prop:=
 ∃b',(∀j,L.getD j false=true->vs b' j=vs b j)/\vs b' i=v/\C b' (L.setIfInBounds i true) w'
def zt8 (P:Program) (ops:Array Oper) (vs:β->Nat->Value) (C:β->Array Bool->zA->Prop) (i:Nat) (o:Oper) (a:Act) (b:β):Prop:=
 ∀L w,AcAt ops i L->C b L w->if Region.wanted o (yielded ops a.tmps) then zfp P (zgx vs C i L b) ((execOp a.eval o).run P w) else zgx vs C i L b undef w
theorem ziw (vs vs':Nat->Value) (a:Act) (L:Array Bool) (h:∀j,L.getD j false=true->vs j=vs' j):∀k,zax ops vs a L k=zax ops vs' a L k
 |0=>rfl
 |k+1=>by
  simp only[zax];rw[ziw vs vs' a L h k];split
  ·rename_i hk;rw[h k hk]
  ·rfl
theorem zw0 {Q:Exit->Act->zA->Prop} {C:β->Array Bool->zA->Prop} (hB:(acB ops&&zfd ops)=true) (vs:β->Nat->Value) (a:Act)
 (step:∀b i o,ops[i]? =some o->zt8 P ops vs C i o (zax ops (vs b) a (zbw ops.size i) ops.size) b)
 (hend:∀b L w,(∀i,i<ops.size->L.getD i false=true)->C b L w->Q .normal (zax ops (vs b) a (zbw ops.size ops.size) ops.size) w):
 ∀(fuel:Nat) (L:Array Bool) (w:zA) (b:β),L.size=ops.size->zoe ops L->((List.range ops.size).filter λi=>!L.getD i false).length<=fuel->C b L w->wpAny P .any ops Q fuel L (zax ops (vs b) a L ops.size) w:=by
 obtain⟨hsel,hdist,hlook,hback⟩:=zmq hB;have hq:∀b L w,(∀i,i<ops.size->L.getD i false=true)->C b L w->Q .normal (zax ops (vs b) a L ops.size) w:=by
  intro b L w hall hC;have e:zax ops (vs b) a L ops.size=zax ops (vs b) a (zbw ops.size ops.size) ops.size:=by
   have:∀k,k<=ops.size->zax ops (vs b) a L k=zax ops (vs b) a (zbw ops.size ops.size) k:=by
    intro k
    induction k with
    |zero=>intro _;rfl
    |succ k ih=>
     intro hk;simp only[zax];rw[ih (by omega),hall k (by omega),zd5];simp[show k<ops.size by omega]
   exact this _ (zN _)
  rw[e];exact hend b L w hall hC
 have hready:∀L,L.size=ops.size->Region.ready .any ops L=[]->∀i,i<ops.size->L.getD i false=true:=by
  intro L hsz h0 i
  induction i using Nat.strongRecOn with
  |_ i ih=>
   intro hi
   cases hl:L.getD i false with
   |true=>rfl
   |false=>
    have hm:i∈Region.ready .any ops L:=by
     refine mem_ready.2 ⟨getD_in (by omega) hl,ops[i],by simp[hi],λe he hb=>?_⟩;have hlt:=hback i (ops[i]) (show ops[i]? =some (ops[i]) from Array.getElem?_eq_getElem hi) e he hb;exact ih e.on hlt (Nat.lt_trans hlt hi)
    rw[h0] at hm;cases hm
 intro fuel
 induction fuel with
 |zero=>
  intro L w b hsz hcl hcount hC;have hall:∀i,i<ops.size->L.getD i false=true:=by
   intro i hi
   cases hl:L.getD i false with
   |true=>rfl
   |false=>
    have:i∈(List.range ops.size).filter λi=>!L.getD i false:=List.mem_filter.2 ⟨List.mem_range.2 hi,by rw[hl];rfl⟩;rw[List.length_eq_zero_iff.1 (Nat.le_zero.1 hcount)] at this;cases this
  refine⟨?_,hq b L w hall hC⟩;apply List.eq_nil_iff_forall_not_mem.2;intro i hi;obtain⟨h1,o,ho,_⟩:=mem_ready.1 hi;have:=hall i (Array.getElem?_eq_some_iff.1 ho).1;rw[getD_both h1] at this;cases this
 |succ fuel ih=>
  intro L w b hsz hcl hcount hC;refine⟨λh0=>hq b L w (hready L hsz h0) hC,λi hi=>?_⟩;obtain⟨h1,o,ho,hall⟩:=mem_ready.1 hi;have hin:i<ops.size:=(Array.getElem?_eq_some_iff.1 ho).1;have hLi:=getD_both h1;have hdone:∀j,Region.waitsFor .any ops i j=true->L.getD j false=true:=by
   intro j hw;obtain⟨o',ho',e,he,hb,rfl⟩:=Region.waitsFor_spec hw;have:o'=o:=Option.some.inj (ho'.symm.trans ho);subst this;exact hall e he hb
  have hopen:∀j,Region.waitsFor .any ops j i=true->L.getD j false=false:=by
   intro j hw
   cases hl:L.getD j false with
   |false=>rfl
   |true=>rw[hcl j i hl hw] at hLi;cases hLi
  have hat:AcAt ops i L:=⟨hsz,hLi,hdone,hcl⟩;have hst:=step b i o ho L w hat hC
  have hset:=λb'=>zic (vs b') a L i (by omega) hLi (λj d hne hd hj=>by
   rcases Nat.lt_or_ge j ops.size with hjn|hjn
   ·exact hdist i j d hin hjn (Ne.symm hne) hj hd
   ·simp[zcr,Array.getElem?_eq_none hjn] at hj) ops.size
  simp only[if_pos hin] at hset;have hsame:=zit (ops:=ops) (a:=zax ops (vs b) a L ops.size) (b:=zax ops (vs b) a (zbw ops.size i) ops.size) (o:=o) (λcs b=>Region.noSelect_spec hsel i o cs b ho) (λt ht=>by
   refine zib (vs b) a L _ t ops.size λj hj hd=>?_;rw[zd5];by_cases hji:j=i
   ·subst hji;rw[hLi];simp
   ·have:=hlook i j t hin hj (Ne.symm hji) hd (by simpa [zi8,ho] using ht)
    rcases this with⟨h2,h3⟩|⟨h2,h3⟩
    ·rw[hdone j h3];simp[hj,h2]
    ·rw[hopen j h3];simp;omega)
  have hnext:∀v w',zgx vs C i L b v w'->wpAny P .any ops Q fuel (L.setIfInBounds i true) ((zax ops (vs b) a L ops.size).put o.dst v) w':=by
   rintro v w' ⟨b',hagree,rfl,hC'⟩;have hd:o.dst=zcr ops i:=by simp[zcr,ho]
   rw[hd,ziw (vs b) (vs b') a L (λj hj=>(hagree j hj).symm) ops.size,<-hset b'];refine ih _ w' b' (by simpa using hsz) ?_ ?_ hC'
   ·intro x y hx hw
    rw[zdp L i _ (by omega)] at hx⊢;split
    ·rfl
    ·split at hx
     ·rename_i h;subst h;exact hdone y hw
     ·exact hcl x y hx hw
   ·have e:((List.range ops.size).filter λx=>!(L.setIfInBounds i true).getD x false)=((List.range ops.size).filter λx=>!L.getD x false).filter λx=>decide (x≠i):=by
     rw[List.filter_filter];refine List.filter_congr λx _=>?_;rw[zdp L i x (by omega)];by_cases h:i=x
     ·subst h;simp
     ·simp[h,Ne.symm h]
    rw[e];have:=(List.length_filter_lt_length_iff_exists (l:=(List.range ops.size).filter λx=>!L.getD x false) (p:=λx=>decide (x≠i))).2 ⟨i,List.mem_filter.2 ⟨List.mem_range.2 hin,by rw[hLi];rfl⟩,by simp⟩;omega
  unfold wpOp;simp only[ho];rw[hsame.2];by_cases hw:Region.wanted o (yielded ops (zax ops (vs b) a (zbw ops.size i) ops.size).tmps)=true
  ·rw[if_pos hw] at hst⊢
   rw[<-hsame.1] at hst;exact .inl (zwz hnext hst)
  ·rw[if_neg hw] at hst⊢
   exact hnext _ _ hst
def zhn (vs:β->Nat->Value) (C:β->(Nat->Bool)->zA->Prop) (i:Nat) (f:Nat->Bool) (b:β) (v:Value) (w':zA):Prop:=
 ∃b',(∀j,f j=true->vs b' j=vs b j)/\vs b' i=v/\C b' (λj=>if i=j then true else f j) w'
def zt1 (P:Program) (ops:Array Oper) (vs:β->Nat->Value) (C:β->(Nat->Bool)->zA->Prop) (i:Nat) (o:Oper) (a:Act) (b:β):Prop:=
 ∀f w,AcF ops i f->C b f w->
  if Region.wanted o (yielded ops a.tmps) then zfp P (zhn vs C i f b) ((execOp a.eval o).run P w) else zhn vs C i f b undef w
def AcLB (P:Program) (ops:Array Oper) (vs:β->Nat->Value) (C:β->(Nat->Bool)->zA->Prop) (K:Act->zA->Prop) (b:β):Nat->List Oper->Act->Prop
 |_,[],a=>∀f w,(∀i,i<ops.size->f i=true)->C b f w->K a w
 |k,o::rest,a=>zt1 P ops vs C k o a b/\AcLB P ops vs C K b (k+1) rest (a.put o.dst (vs b k))
section
variable {vs:β->Nat->Value} {C:β->(Nat->Bool)->zA->Prop} {K:Act->zA->Prop} {k:Nat} {o:Oper} {rest:List Oper} {a:Act} {b:β}
theorem ze1 (h:∀f w,(∀i,i<ops.size->f i=true)->C b f w->K a w):AcLB P ops vs C K b k [] a:=h
theorem zag (v:Value) (hv:vs b k=v) (hw:Region.wanted o (yielded ops a.tmps)=true)
 (hset:∀f w,C b f w->C b (λj=>if k=j then true else f j) w)
 (hy:∀f w,AcF ops k f->C b f w->(execOp a.eval o).run P w=.ok (.value v) w)
 (h:AcLB P ops vs C K b (k+1) rest (a.put o.dst v)):AcLB P ops vs C K b k (o::rest) a:=by
 subst hv;refine⟨λf w hf hC=>?_,h⟩;rw[if_pos hw,hy f w hf hC];exact⟨b,λ_ _=>rfl,rfl,hset f w hC⟩
theorem qB (v:Value) (hset:∀f w,C b f w->C b (λj=>if k=j then true else f j) w) (h:AcLB P ops vs C K b (k+1) rest (a.put o.dst v)) (hv:vs b k=v:=by rfl) (hw:Region.wanted o (yielded ops a.tmps)=true:=by rfl) (hy:∀f w,AcF ops k f->C b f w->(execOp a.eval o).run P w=.ok (.value v) w:=by intro f W' hf h;go_simp):AcLB P ops vs C K b k (o::rest) a:=zag v hv hw hset hy h
theorem zbv (v:Value) (hv:vs b k=v) (hw:Region.wanted o (yielded ops a.tmps)=true)
 (hy:∀f w,AcF ops k f->C b f w->∀C':Value->zA->Prop,(∀w',C b (λj=>if k=j then true else f j) w'->C' v w')->zfp P C' ((execOp a.eval o).run P w))
 (h:AcLB P ops vs C K b (k+1) rest (a.put o.dst v)):AcLB P ops vs C K b k (o::rest) a:=by
 subst hv;refine⟨λf w hf hC=>?_,h⟩;rw[if_pos hw];exact hy f w hf hC _ λw' h'=>⟨b,λ_ _=>rfl,rfl,h'⟩
theorem zdc (v:Value) (hv:vs b k=v) (hw:Region.wanted o (yielded ops a.tmps)=true)
 (hy:∀f w,AcF ops k f->C b f w->∀C':Value->zA->Prop,(∀b' w',(∀j,f j=true->vs b' j=vs b j)->C b' (λj=>if k=j then true else f j) w'->C' (vs b' k) w')->zfp P C' ((execOp a.eval o).run P w))
 (h:AcLB P ops vs C K b (k+1) rest (a.put o.dst v)):AcLB P ops vs C K b k (o::rest) a:=by
 subst hv;refine⟨λf w hf hC=>?_,h⟩;rw[if_pos hw];exact hy f w hf hC _ λb' w' hj h'=>⟨b',hj,rfl,h'⟩
end
theorem zk6 {vs:β->Nat->Value} {C:β->(Nat->Bool)->zA->Prop} {K:Act->zA->Prop} {b:β}:∀(l:List Oper) (k:Nat) (a:Act),AcLB P ops vs C K b k l a->
 (∀i o,l[i]? =some o->zt1 P ops vs C (k+i) o (zbq (vs b) k l a i) b)/\(∀f w,(∀i,i<ops.size->f i=true)->C b f w->K (zbq (vs b) k l a l.length) w)
 |[],k,a,h=>⟨λi o h=>by simp at h,h⟩
 |o::l,k,a,⟨hv,h⟩=>by
  obtain⟨h1,h2⟩:=zk6 l (k+1) _ h;refine⟨λi o' ho=>?_,?_⟩
  ·cases i with
   |zero=>
    obtain rfl:o=o':=by simpa using ho
    simpa [zbq] using hv
   |succ i=>
    have:=h1 i o' (by simpa using ho);simp only[zbq];rw[show k+(i+1)=k+1+i by omega];exact this
  ·simp only[zbq,yA]
   exact h2
theorem znn {K:Act->zA->Prop} {Q:Exit->Act->zA->Prop} (hQ:∀a w,K a w->Q .normal a w) {l:List Oper} (vs:β->Nat->Value) (C:β->(Nat->Bool)->zA->Prop) (hB:(acB l.toArray&&zfd l.toArray)=true) {a:Act} {w:zA} (b0:β) (hC:C b0 (λ_=>false) w) (h:∀b,AcLB P l.toArray vs C K b 0 l a):
 wpAny P .any l.toArray Q l.toArray.size (Array.replicate l.toArray.size false) a w:=by
 have e0:zax l.toArray (vs b0) a (Array.replicate l.toArray.size false) l.toArray.size=a:=by
  have:∀k,zax l.toArray (vs b0) a (Array.replicate l.toArray.size false) k=a:=by
   intro k
   induction k with
   |zero=>rfl
   |succ k ih=>
    have:(Array.replicate l.toArray.size false).getD k false=false:=by
     simp only[Array.getD];split<;>simp
    simp only[zax,this,Bool.false_eq_true,if_false];exact ih
  exact this _
 have:=zw0 (P:=P) (ops:=l.toArray) (Q:=Q) (C:=λb L w=>C b (λj=>L.getD j false) w) hB vs a ?_ ?_ l.toArray.size (Array.replicate l.toArray.size false) w b0 (by simp) ?_ ?_ ?_
 ·rw[e0] at this;exact this
 ·intro b i o ho L w hat hc
  have h1:=(zk6 l 0 a (h b)).1;have hi:i<l.length:=by
   have:=(Array.getElem?_eq_some_iff.1 ho).1;simpa using this
  have hst:=h1 i o (by simpa using ho) (λj=>L.getD j false) w (by rw[Nat.zero_add];exact⟨hat.self,hat.done,hat.closed⟩) hc;have ea:zax l.toArray (vs b) a (zbw l.toArray.size i) l.toArray.size=zbq (vs b) 0 l a i:=by
   have:=zdg (vs b) l a i (by omega) l.length (zN _);rw[Nat.min_eq_left (by omega)] at this;simpa using this
  have es:(λj=>(L.setIfInBounds i true).getD j false)=(λj=>if i=j then true else L.getD j false):=by
   funext j;exact zdp L i j (by rw[hat.size];simpa using hi)
  rw[Nat.zero_add] at hst;rw[ea];unfold zhn at hst;unfold zgx;simp only[es];exact hst
 ·intro b L w hall hc
  have h2:=(zk6 l 0 a (h b)).2;have ea:zax l.toArray (vs b) a (zbw l.toArray.size l.toArray.size) l.toArray.size=zbq (vs b) 0 l a l.length:=by
   have:=zdg (vs b) l a l.length (zN _) l.length (zN _);rw[Nat.min_self] at this;simpa using this
  rw[ea];exact hQ _ _ (h2 _ w hall hc)
 ·intro i j hi
  have:(Array.replicate l.toArray.size false).getD i false=false:=by simp only[Array.getD];split<;>simp
  rw[this] at hi;cases hi
 ·refine zO (List.length_filter_le _ _) (by simp)
 ·have:(λj=>(Array.replicate l.toArray.size false).getD j false)= λ_=>false:=by
   funext j;simp only[Array.getD];split<;>simp
  simpa only[this] using hC
theorem zc4 {id:Nat} {Q:Exit->Act->zA->Prop} {a:Act} {w:zA} {l:List Oper} (vs:β->Nat->Value) (C:β->(Nat->Bool)->zA->Prop) (hm:P.follows .mixedOrders=true) (hB:(acB l.toArray&&zfd l.toArray)=true) (b0:β) (hC:C b0 (λ_=>false) {w with drawn:=w.drawn+1})
 (h:∀b,AcLB P l.toArray vs C (Q .normal) b 0 l a):(Code.region id l.toArray true).wp P Q a w:=
 wp_region_any hm (znn (λ_ _ h=>h) vs C hB b0 hC h)
theorem zjk {l n id:Nat} {Q:Exit->Act->zA->Prop} {a:Act} {w:zA} {ol:List Oper} (vs:β->Nat->Value) (C:β->(Nat->Bool)->zA->Prop) (hm:P.follows .mixedOrders=true) (hB:(acB ol.toArray&&zfd ol.toArray)=true) (hnd:zhj ol.toArray=true) (b0:β) (hC:C b0 (λ_=>false) {w with drawn:=w.drawn+1})
 (h:∀b,AcLB P ol.toArray vs C (Q .normal) b 0 ol a):(Code.region id ol.toArray true).wpIn (Fence.wide.inRound l) n P Q a w:=
 wpIn_region_any hm (zd4 hnd (Q:=λe a w=>e=.normal/\Q .normal a w) (λ_ _ _ h h'=>h h'.1) (λ_ _ h=>h.2) _ _ _ _ (znn (λ_ _ h=>⟨rfl,h⟩) vs C hB b0 hC h))
end
section
open Go.RowKit Go.Shelf Lib Str Limb Geo
attribute [local go_sem] Oper.semAt_some
structure FlatS (w:zA) (x1 y1 x2 y2 x3 y3 x4 y4 lx ly hx hy:List UInt8) (b:Nat×Nat) (f:Nat->Bool) (W:zA):Prop where
 base:MeetS w x1 y1 x2 y2 x3 y3 x4 y4 W
 g4:f 4=true->w.heap.size+1<b.1/\b.1<W.heap.size/\W.heap[b.1]? =some (.cells (if f 6=true then #[St lx,St ly] else #[St [],St []]) 32 (0,0))
 g5:f 5=true->w.heap.size+1<b.2/\b.2<W.heap.size/\W.heap[b.2]? =some (.cells (if f 7=true then #[St hx,St hy] else #[St [],St []]) 32 (0,0))
 ne:f 4=true->f 5=true->b.1≠b.2
section
variable {w W W':zA} {x1 y1 x2 y2 x3 y3 x4 y4 lx ly hx hy:List UInt8} {b:Nat×Nat} {f g:Nat->Bool}
theorem FlatS.congr (h:FlatS w x1 y1 x2 y2 x3 y3 x4 y4 lx ly hx hy b f W) (e4:g 4=f 4) (e5:g 5=f 5) (e6:g 6=f 6) (e7:g 7=f 7):FlatS w x1 y1 x2 y2 x3 y3 x4 y4 lx ly hx hy b g W:=
 ⟨h.base,by rw[e4,e6];exact h.g4,by rw[e5,e7];exact h.g5,by rw[e4,e5];exact h.ne⟩
theorem FlatS.next (h:FlatS w x1 y1 x2 y2 x3 y3 x4 y4 lx ly hx hy b f W) (hb:qL W W'):FlatS w x1 y1 x2 y2 x3 y3 x4 y4 lx ly hx hy b f W':=
 ⟨h.base.next hb,λk=>⟨(h.g4 k).1,zS (h.g4 k).2.1 hb.size,(hb.block _ (h.g4 k).2.1).trans (h.g4 k).2.2⟩,λk=>⟨(h.g5 k).1,zS (h.g5 k).2.1 hb.size,(hb.block _ (h.g5 k).2.1).trans (h.g5 k).2.2⟩,h.ne⟩
theorem MeetS.put (h:MeetS w x1 y1 x2 y2 x3 y3 x4 y4 W) {p:Nat} (hp:w.heap.size+1<p) (o:Nat) (v:Value):MeetS w x1 y1 x2 y2 x3 y3 x4 y4 (W.setCell ⟨p,o,none⟩ v):=
 ⟨h.bel.setCell (by simp;omega) _,by simpa using h.lt,by rw[yE _ _ _ _ (by simp;omega)];exact h.hs,by rw[yE _ _ _ _ (by simp;omega)];exact h.ht⟩
theorem zmf {p:Nat} {a c u v:Value} {t:TypeId} (h:W.heap[p]? =some (.cells #[a,c] t (0,0))):((W.setCell ⟨p,0,none⟩ u).setCell ⟨p,1,none⟩ v).heap[p]? =some (.cells #[u,v] t (0,0)):=by
 rw[zK (zK h u) v];simp
theorem FlatS.new4 (h:FlatS w x1 y1 x2 y2 x3 y3 x4 y4 lx ly hx hy b f W) (h6:f 6=false) (_:g 4=true) (e5:g 5=f 5) (e6:g 6=f 6) (e7:g 7=f 7):FlatS w x1 y1 x2 y2 x3 y3 x4 y4 lx ly hx hy (W.heap.size,b.2) g (W.alloc (.cells #[St [],St []] 32)):=by
 have hl:=h.base.lt;refine⟨h.base.next ((zM _ W).alloc (zN _) _),λ_=>⟨hl,by simp,?_⟩,λk=>?_,λ_ k=>?_⟩
 ·rw[e6,h6,if_neg (by simp)];exact zG W _
 ·obtain⟨k1,k2,k3⟩:=h.g5 (e5▸k)
  refine⟨k1,by simp;omega,?_⟩;rw[e7];exact(Below.heap_alloc _ _ _ k2).trans k3
 ·have:=(h.g5 (e5▸k)).2.1;simp;omega
theorem FlatS.new5 (h:FlatS w x1 y1 x2 y2 x3 y3 x4 y4 lx ly hx hy b f W) (h7:f 7=false) (_:g 5=true) (e4:g 4=f 4) (e6:g 6=f 6) (e7:g 7=f 7):FlatS w x1 y1 x2 y2 x3 y3 x4 y4 lx ly hx hy (b.1,W.heap.size) g (W.alloc (.cells #[St [],St []] 32)):=by
 have hl:=h.base.lt;refine⟨h.base.next ((zM _ W).alloc (zN _) _),λk=>?_,λ_=>⟨hl,by simp,?_⟩,λk _=>?_⟩
 ·obtain⟨k1,k2,k3⟩:=h.g4 (e4▸k)
  refine⟨k1,by simp;omega,?_⟩;rw[e6];exact(Below.heap_alloc _ _ _ k2).trans k3
 ·rw[e7,h7,if_neg (by simp)];exact zG W _
 ·have:=(h.g4 (e4▸k)).2.1;simp;omega
theorem FlatS.put6 (h:FlatS w x1 y1 x2 y2 x3 y3 x4 y4 lx ly hx hy b f W) (h6:f 6=false) (h4:f 4=true) (h5:f 5=true) (_:g 4=f 4) (_:g 5=f 5) (g6:g 6=true) (e7:g 7=f 7):FlatS w x1 y1 x2 y2 x3 y3 x4 y4 lx ly hx hy b g ((W.setCell ⟨b.1,0,none⟩ (St lx)).setCell ⟨b.1,1,none⟩ (St ly)):=by
 have hne:=h.ne h4 h5;obtain⟨k1,k2,k3⟩:=h.g4 h4;obtain⟨l1,l2,l3⟩:=h.g5 h5;refine⟨(h.base.put k1 _ _).put k1 _ _,λ_=>⟨k1,by simpa using k2,?_⟩,λ_=>⟨l1,by simpa using l2,?_⟩,λ_ _=>hne⟩
 ·rw[if_pos g6];rw[h6,if_neg (by simp)] at k3;exact zmf k3
 ·rw[e7,yE _ _ _ _ (by simpa using Ne.symm hne),yE _ _ _ _ (by simpa using Ne.symm hne)];exact l3
theorem FlatS.put7 (h:FlatS w x1 y1 x2 y2 x3 y3 x4 y4 lx ly hx hy b f W) (h7:f 7=false) (h4:f 4=true) (h5:f 5=true) (_:g 4=f 4) (_:g 5=f 5) (e6:g 6=f 6) (g7:g 7=true):FlatS w x1 y1 x2 y2 x3 y3 x4 y4 lx ly hx hy b g ((W.setCell ⟨b.2,0,none⟩ (St hx)).setCell ⟨b.2,1,none⟩ (St hy)):=by
 have hne:=h.ne h4 h5;obtain⟨k1,k2,k3⟩:=h.g4 h4;obtain⟨l1,l2,l3⟩:=h.g5 h5;refine⟨(h.base.put l1 _ _).put l1 _ _,λ_=>⟨k1,by simpa using k2,?_⟩,λ_=>⟨l1,by simpa using l2,?_⟩,λ_ _=>hne⟩
 ·rw[e6,yE _ _ _ _ (by simpa using hne),yE _ _ _ _ (by simpa using hne)];exact k3
 ·rw[if_pos g7];rw[h7,if_neg (by simp)] at l3;exact zmf l3
end
def zns (x1 y1 x2 y2 lx ly hx hy:List UInt8) (b:Nat×Nat) (k:Nat):Value:=
 ([.agg #[St x1,St y1,St x2,St y2],.agg #[St lx,St ly],.agg #[St x1,St y1,St x2,St y2],.agg #[St hx,St hy],.pointer (some ⟨b.1,0,none⟩),.pointer (some ⟨b.2,0,none⟩)]:List Value).getD k undef
structure FlatE (w:zA) (x1 y1 x2 y2 x3 y3 x4 y4 fx fy gx gy:List UInt8) (p q:Nat) (W:zA):Prop where
 base:MeetS w x1 y1 x2 y2 x3 y3 x4 y4 W
 ne:p≠q
 p1:w.heap.size+1<p
 p2:p<W.heap.size
 p3:W.heap[p]? =some (.cells #[St fx,St fy] 32 (0,0))
 q1:w.heap.size+1<q
 q2:q<W.heap.size
 q3:W.heap[q]? =some (.cells #[St gx,St gy] 32 (0,0))
section
variable {w W W':zA} {x1 y1 x2 y2 x3 y3 x4 y4 fx fy gx gy:List UInt8} {p q:Nat}
theorem FlatE.next (h:FlatE w x1 y1 x2 y2 x3 y3 x4 y4 fx fy gx gy p q W) (hb:qL W W'):FlatE w x1 y1 x2 y2 x3 y3 x4 y4 fx fy gx gy p q W':=
 ⟨h.base.next hb,h.ne,h.p1,zS h.p2 hb.size,(hb.block _ h.p2).trans h.p3,h.q1,zS h.q2 hb.size,(hb.block _ h.q2).trans h.q3⟩
theorem FlatE.putp (h:FlatE w x1 y1 x2 y2 x3 y3 x4 y4 fx fy gx gy p q W) (ux uy:List UInt8):FlatE w x1 y1 x2 y2 x3 y3 x4 y4 ux uy gx gy p q ((W.setCell ⟨p,0,none⟩ (St ux)).setCell ⟨p,1,none⟩ (St uy)):=
 ⟨(h.base.put h.p1 _ _).put h.p1 _ _,h.ne,h.p1,by simpa using h.p2,zmf h.p3,h.q1,by simpa using h.q2,by
   rw[yE _ _ _ _ (by simpa using Ne.symm h.ne),yE _ _ _ _ (by simpa using Ne.symm h.ne)];exact h.q3⟩
theorem FlatE.putq (h:FlatE w x1 y1 x2 y2 x3 y3 x4 y4 fx fy gx gy p q W) (ux uy:List UInt8):FlatE w x1 y1 x2 y2 x3 y3 x4 y4 fx fy ux uy p q ((W.setCell ⟨q,0,none⟩ (St ux)).setCell ⟨q,1,none⟩ (St uy)):=
 ⟨(h.base.put h.q1 _ _).put h.q1 _ _,h.ne,h.p1,by simpa using h.p2,by
   rw[yE _ _ _ _ (by simpa using h.ne),yE _ _ _ _ (by simpa using h.ne)];exact h.p3,h.q1,by simpa using h.q2,zmf h.q3⟩
theorem FlatE.c0 (h:FlatE w x1 y1 x2 y2 x3 y3 x4 y4 fx fy gx gy p q W):W.cell? ⟨p,0,none⟩=some (St fx):=by have:=h.p3;simp[World.cell?,this]
theorem FlatE.c1 (h:FlatE w x1 y1 x2 y2 x3 y3 x4 y4 fx fy gx gy p q W):W.cell? ⟨p,1,none⟩=some (St fy):=by have:=h.p3;simp[World.cell?,this]
theorem FlatE.d0 (h:FlatE w x1 y1 x2 y2 x3 y3 x4 y4 fx fy gx gy p q W):W.cell? ⟨q,0,none⟩=some (St gx):=by have:=h.q3;simp[World.cell?,this]
theorem FlatE.d1 (h:FlatE w x1 y1 x2 y2 x3 y3 x4 y4 fx fy gx gy p q W):W.cell? ⟨q,1,none⟩=some (St gy):=by have:=h.q3;simp[World.cell?,this]
theorem FlatE.fr (h:FlatE w x1 y1 x2 y2 x3 y3 x4 y4 fx fy gx gy p q W):W.frozen? ⟨p,0,none⟩=false/\W.frozen? ⟨p,1,none⟩=false/\W.frozen? ⟨q,0,none⟩=false/\W.frozen? ⟨q,1,none⟩=false:=by have:=h.q3;have:=h.p3;simp[World.frozen?, *]
end
theorem zzo (x1 y1 x2 y2 x3 y3 x4 y4:List UInt8) (lx ly hx hy ax ay bx by':List UInt8) (n1 n2 n3:Int) (c1 c2:Bool) (h1:decide ((0:Int)<n1)=c1) (h2:decide (n2<(0:Int))=c2) (hn3: -1<=n3/\n3<=1)
 (TA:Hid (qK 97 #[.agg #[St x1,St y1],.agg #[St x2,St y2],.agg #[St x3,St y3]] (.int .i64 0)))
 (TB:Hid (qK 97 #[.agg #[St x1,St y1],.agg #[St x2,St y2],.agg #[St x4,St y4]] (.int .i64 0)))
 (TC:Hid (qK 97 #[.agg #[St x3,St y3],.agg #[St x4,St y4],.agg #[St x1,St y1]] (.int .i64 0)))
 (TD:Hid (qK 97 #[.agg #[St x3,St y3],.agg #[St x4,St y4],.agg #[St x2,St y2]] (.int .i64 0)))
 (LS:Hid (qK 178 #[.agg #[St x1,St y1,St x2,St y2]] (.agg #[St lx,St ly])))
 (HS:Hid (qK 179 #[.agg #[St x1,St y1,St x2,St y2]] (.agg #[St hx,St hy])))
 (LT:Hid (qK 178 #[.agg #[St x3,St y3,St x4,St y4]] (.agg #[St ax,St ay])))
 (HT:Hid (qK 179 #[.agg #[St x3,St y3,St x4,St y4]] (.agg #[St bx,St by'])))
 (O1:Hid (qK 180 #[.agg #[St ax,St ay],.agg #[St lx,St ly]] (.int .i64 n1)))
 (O2:Hid (qK 180 #[.agg #[St bx,St by'],.agg #[St hx,St hy]] (.int .i64 n2)))
 (O3:Hid (qK 180 #[.agg (if c1 then #[St ax,St ay] else #[St lx,St ly]),.agg (if c2 then #[St bx,St by'] else #[St hx,St hy])] (.int .i64 n3)))
 (w:zA) (HW:Hid (Wd w)):
 qJ 95 #[.agg #[St x1,St y1,St x2,St y2],.agg #[St x3,St y3,St x4,St y4]] w (.int .i64 (1-n3)):=by
 have hinit:MeetS w x1 y1 x2 y2 x3 y3 x4 y4 ((w.alloc (.cells #[St x1,St y1,St x2,St y2] 64)).alloc (.cells #[St x3,St y3,St x4,St y4] 64)):=by
  have e1:=zG w (.cells #[St x1,St y1,St x2,St y2] 64 (0,0));have e2:=zG (w.alloc (.cells #[St x1,St y1,St x2,St y2] 64)) (.cells #[St x3,St y3,St x4,St y4] 64 (0,0));simp only[zH] at e2;refine⟨((zM _ w).alloc (zN _) _).alloc (by simp) _,by simp,?_,e2⟩;exact(Below.heap_alloc _ _ _ (by simp only[zH];omega)).trans e1
 have HI:=hid hinit;clear hinit;go_enter Tryz.func95,Tryz.ntmps95;go_wp21;refine zbl (λ_ W=>MeetS w x1 y1 x2 y2 x3 y3 x4 y4 W) (by kernel_rfl) (by kernel_rfl) (by have h:=HI.out;exact⟨h.bel.drew,h.lt,h.hs,h.ht⟩) ?_;refine qR (.pointer (some ⟨w.heap.size,0,none⟩)) ?_;refine qR (.agg #[St x1,St y1]) ?_ (hy:=λf W' hf h=>by have h0:=h.s0;have h1:=h.s1;go_simp);refine qR (.pointer (some ⟨w.heap.size,2,none⟩)) ?_;simp only[zzQ];refine qR (.agg #[St x2,St y2]) ?_ (hy:=λf W' hf h=>by have h0:=h.s2;have h1:=h.s3;go_simp);refine qR (.pointer (some ⟨w.heap.size+1,0,none⟩)) ?_;refine qR (.agg #[St x3,St y3]) ?_ (hy:=λf W' hf h=>by have h0:=h.t0;have h1:=h.t1;go_simp);simp only[zzQ]
 refine zar (.int .i64 0) (by rfl) (λf W' hf h C' hC'=>by
  go_simp;refine zzM (TA.out _ (HW.out.below h.bel)) λw' hb=>?_;exact⟨rfl,hC' _ (h.next hb)⟩) ?_
 refine qR (.pointer (some ⟨w.heap.size,0,none⟩)) ?_;refine qR (.agg #[St x1,St y1]) ?_ (hy:=λf W' hf h=>by have h0:=h.s0;have h1:=h.s1;go_simp);simp only[zzQ];refine qR (.pointer (some ⟨w.heap.size,2,none⟩)) ?_;refine qR (.agg #[St x2,St y2]) ?_ (hy:=λf W' hf h=>by have h0:=h.s2;have h1:=h.s3;go_simp);refine qR (.pointer (some ⟨w.heap.size+1,2,none⟩)) ?_;simp only[zzQ];refine qR (.agg #[St x4,St y4]) ?_ (hy:=λf W' hf h=>by have h0:=h.t2;have h1:=h.t3;go_simp);simp only[zzQ]
 refine zar (.int .i64 0) (by rfl) (λf W' hf h C' hC'=>by
  go_simp;refine zzM (TB.out _ (HW.out.below h.bel)) λw' hb=>?_;exact⟨rfl,hC' _ (h.next hb)⟩) ?_
 refine qR (.int .i64 0) ?_;refine qR (.int .i64 0) ?_;simp only[zzQ];refine zck λf W1 hf h1=>?_;clear hf f;have H1:=hid h1;clear h1;go_wp21;refine zbl (λ_ W=>MeetS w x1 y1 x2 y2 x3 y3 x4 y4 W) (by kernel_rfl) (by kernel_rfl) (by have h:=H1.out;exact⟨h.bel.drew,h.lt,h.hs,h.ht⟩) ?_;refine qR (.pointer (some ⟨w.heap.size+1,0,none⟩)) ?_;refine qR (.agg #[St x3,St y3]) ?_ (hy:=λf W' hf h=>by have h0:=h.t0;have h1:=h.t1;go_simp);refine qR (.pointer (some ⟨w.heap.size+1,2,none⟩)) ?_;simp only[zzQ];refine qR (.agg #[St x4,St y4]) ?_ (hy:=λf W' hf h=>by have h0:=h.t2;have h1:=h.t3;go_simp);refine qR (.pointer (some ⟨w.heap.size,0,none⟩)) ?_;refine qR (.agg #[St x1,St y1]) ?_ (hy:=λf W' hf h=>by have h0:=h.s0;have h1:=h.s1;go_simp);simp only[zzQ]
 refine zar (.int .i64 0) (by rfl) (λf W' hf h C' hC'=>by
  go_simp;refine zzM (TC.out _ (HW.out.below h.bel)) λw' hb=>?_;exact⟨rfl,hC' _ (h.next hb)⟩) ?_
 refine qR (.pointer (some ⟨w.heap.size+1,0,none⟩)) ?_;refine qR (.agg #[St x3,St y3]) ?_ (hy:=λf W' hf h=>by have h0:=h.t0;have h1:=h.t1;go_simp);simp only[zzQ];refine qR (.pointer (some ⟨w.heap.size+1,2,none⟩)) ?_;refine qR (.agg #[St x4,St y4]) ?_ (hy:=λf W' hf h=>by have h0:=h.t2;have h1:=h.t3;go_simp);refine qR (.pointer (some ⟨w.heap.size,2,none⟩)) ?_;simp only[zzQ];refine qR (.agg #[St x2,St y2]) ?_ (hy:=λf W' hf h=>by have h0:=h.s2;have h1:=h.s3;go_simp);simp only[zzQ]
 refine zar (.int .i64 0) (by rfl) (λf W' hf h C' hC'=>by
  go_simp;refine zzM (TD.out _ (HW.out.below h.bel)) λw' hb=>?_;exact⟨rfl,hC' _ (h.next hb)⟩) ?_
 refine qR (.int .i64 0) ?_;refine qR (.int .i64 0) ?_;simp only[zzQ];refine zck λf W2 hf h2=>?_;have H2:=hid h2;clear hf f h2 H1 TA TB TC TD;go_wp21;refine zc4 (zns x1 y1 x2 y2 lx ly hx hy) (FlatS w x1 y1 x2 y2 x3 y3 x4 y4 lx ly hx hy) (by kernel_rfl) (by kernel_rfl) (0,0) (by have h:=H2.out;exact⟨⟨h.bel.drew,h.lt,h.hs,h.ht⟩,λk=>(by cases k),λk=>(by cases k),λk=>(by cases k)⟩) λb=>?_;refine qB (.agg #[St x1,St y1,St x2,St y2]) (λf W' h=>h.congr rfl rfl rfl rfl) ?_ (hy:=λf W' hf h=>by have h0:=h.base.s0;have h1:=h.base.s1;have h2:=h.base.s2;have h3:=h.base.s3;go_simp);simp only[zzQ]
 refine zbv (.agg #[St lx,St ly]) (by rfl) (by rfl) (λf W' hf h C' hC'=>by
  go_simp;refine zzM (LS.out _ (HW.out.below h.base.bel)) λw' hb=>?_;exact⟨_,rfl,hC' _ ((h.next hb).congr rfl rfl rfl rfl)⟩) ?_
 refine qB (.agg #[St x1,St y1,St x2,St y2]) (λf W' h=>h.congr rfl rfl rfl rfl) ?_ (hy:=λf W' hf h=>by have h0:=h.base.s0;have h1:=h.base.s1;have h2:=h.base.s2;have h3:=h.base.s3;go_simp);simp only[zzQ]
 refine zbv (.agg #[St hx,St hy]) (by rfl) (by rfl) (λf W' hf h C' hC'=>by
  go_simp;refine zzM (HS.out _ (HW.out.below h.base.bel)) λw' hb=>?_;exact⟨_,rfl,hC' _ ((h.next hb).congr rfl rfl rfl rfl)⟩) ?_
 try simp only[zzQ]
 refine zdc (.pointer (some ⟨b.1,0,none⟩)) (by rfl) (by rfl) (λf W' hf h C' hC'=>by
  have h6:=hf.no (j:=6) hf.self (by kernel_rfl);have hj:∀j,f j=true->zns x1 y1 x2 y2 lx ly hx hy (W'.heap.size,b.2) j=zns x1 y1 x2 y2 lx ly hx hy b j:=by
   intro j hj
   match j,hj with
   |0,_|1,_|2,_|3,_|5,_=>rfl
   |4,hj=>rw[hf.self] at hj;cases hj
   |_+6,_=>rfl
  have:=hC' _ _ hj (h.new4 h6 rfl rfl rfl rfl);go_simp;exact this) ?_
 try simp only[zzQ]
 refine zdc (.pointer (some ⟨b.2,0,none⟩)) (by rfl) (by rfl) (λf W' hf h C' hC'=>by
  have h7:=hf.no (j:=7) hf.self (by kernel_rfl);have hj:∀j,f j=true->zns x1 y1 x2 y2 lx ly hx hy (b.1,W'.heap.size) j=zns x1 y1 x2 y2 lx ly hx hy b j:=by
   intro j hj
   match j,hj with
   |0,_|1,_|2,_|3,_|4,_=>rfl
   |5,hj=>rw[hf.self] at hj;cases hj
   |_+6,_=>rfl
  have:=hC' _ _ hj (h.new5 h7 rfl rfl rfl rfl);go_simp;exact this) ?_
 try simp only[zzQ]
 refine zbv undef (by rfl) (by rfl) (λf W' hf h C' hC'=>by
  have h4:=hf.done 4 (by kernel_rfl);have h5:=hf.done 5 (by kernel_rfl);have h6:=hf.self;have hc:=hC' _ (h.put6 h6 h4 h5 rfl rfl rfl rfl);have k3:=(h.g4 h4).2.2;rw[h6,if_neg (by simp)] at k3;have b0:W'.cell? ⟨b.1,0,none⟩=some (St []):=by simp[World.cell?,k3]
  have b1:W'.cell? ⟨b.1,1,none⟩=some (St []):=by simp[World.cell?,k3]
  have f0:W'.frozen? ⟨b.1,0,none⟩=false:=by simp[World.frozen?,k3]
  have f1:W'.frozen? ⟨b.1,1,none⟩=false:=by simp[World.frozen?,k3]
  clear k3;go_simp;exact hc) ?_
 try simp only[Act.put]
 refine zbv undef (by rfl) (by rfl) (λf W' hf h C' hC'=>by
  have h4:=hf.done 4 (by kernel_rfl);have h5:=hf.done 5 (by kernel_rfl);have h7:=hf.self;have hc:=hC' _ (h.put7 h7 h4 h5 rfl rfl rfl rfl);have k3:=(h.g5 h5).2.2;rw[h7,if_neg (by simp)] at k3;have b0:W'.cell? ⟨b.2,0,none⟩=some (St []):=by simp[World.cell?,k3]
  have b1:W'.cell? ⟨b.2,1,none⟩=some (St []):=by simp[World.cell?,k3]
  have f0:W'.frozen? ⟨b.2,0,none⟩=false:=by simp[World.frozen?,k3]
  have f1:W'.frozen? ⟨b.2,1,none⟩=false:=by simp[World.frozen?,k3]
  clear k3;go_simp;exact hc) ?_
 try simp only[Act.put]
 refine ze1 λf W3 hf h=>?_;have hE:FlatE w x1 y1 x2 y2 x3 y3 x4 y4 lx ly hx hy b.1 b.2 W3:=by
  have f4:=hf 4 (by decide);have f5:=hf 5 (by decide);have f6:=hf 6 (by decide);have f7:=hf 7 (by decide);have g4:=h.g4 f4;have g5:=h.g5 f5;rw[if_pos f6] at g4;rw[if_pos f7] at g5;exact⟨h.base,h.ne f4 f5,g4.1,g4.2.1,g4.2.2,g5.1,g5.2.1,g5.2.2⟩
 clear h hf f;obtain⟨p,q⟩:=b;dsimp only at hE⊢;have H3:=hid hE;clear hE H2;go_wp21;refine zbl (λ_ W=>FlatE w x1 y1 x2 y2 x3 y3 x4 y4 lx ly hx hy p q W) (by kernel_rfl) (by kernel_rfl) (by have h:=H3.out;exact h.next (zM _ _).drew) ?_;refine qR (.agg #[St x3,St y3,St x4,St y4]) ?_ (hy:=λf W' hf h=>by have h0:=h.base.t0;have h1:=h.base.t1;have h2:=h.base.t2;have h3:=h.base.t3;go_simp);simp only[zzQ]
 refine zar (.agg #[St ax,St ay]) (by rfl) (λf W' hf h C' hC'=>by
  go_simp;refine zzM (LT.out _ (HW.out.below h.base.bel)) λw' hb=>?_;exact⟨rfl,hC' _ (h.next hb)⟩) ?_
 refine qR (.agg #[St lx,St ly]) ?_ (hy:=λf W' hf h=>by have h0:=h.c0;have h1:=h.c1;go_simp);simp only[zzQ]
 refine zar (.int .i64 n1) (by rfl) (λf W' hf h C' hC'=>by
  go_simp;refine zzM (O1.out _ (HW.out.below h.base.bel)) λw' hb=>?_;exact⟨rfl,hC' _ (h.next hb)⟩) ?_
 refine qR (.bool c1) ?_;simp only[zzQ];refine zck λf W4 hf h=>?_;have H4:=hid h;clear h hf f H3;have hw3:IntKind.i64.wrap (1-n3)=1-n3:=zI _ ⟨by omega,by omega⟩;cases c1
 ·go_wp21
  refine zbl (λ_ W=>FlatE w x1 y1 x2 y2 x3 y3 x4 y4 lx ly hx hy p q W) (by kernel_rfl) (by kernel_rfl) (by have h:=H4.out;exact h.next (zM _ _).drew) ?_;refine qR (.agg #[St x3,St y3,St x4,St y4]) ?_ (hy:=λf W' hf h=>by have h0:=h.base.t0;have h1:=h.base.t1;have h2:=h.base.t2;have h3:=h.base.t3;go_simp);simp only[zzQ]
  refine zar (.agg #[St bx,St by']) (by rfl) (λf W' hf h C' hC'=>by
   go_simp;refine zzM (HT.out _ (HW.out.below h.base.bel)) λw' hb=>?_;exact⟨rfl,hC' _ (h.next hb)⟩) ?_
  refine qR (.agg #[St hx,St hy]) ?_ (hy:=λf W' hf h=>by have h0:=h.d0;have h1:=h.d1;go_simp);simp only[zzQ]
  refine zar (.int .i64 n2) (by rfl) (λf W' hf h C' hC'=>by
   go_simp;refine zzM (O2.out _ (HW.out.below h.base.bel)) λw' hb=>?_;exact⟨rfl,hC' _ (h.next hb)⟩) ?_
  refine qR (.bool c2) ?_;simp only[zzQ];refine zck λf W4 hf h=>?_;clear H4;have H4:=hid h;clear h hf f;cases c2
  ·have g0:=H4.out.c0;have g1:=H4.out.c1;have g2:=H4.out.d0;have g3:=H4.out.d1
   have hB:=H4.out.base.bel;have hwd:=HW.out.below hB;have hO:=O3.out;simp only[Bool.false_eq_true,if_false] at hO;have HO:=hid hO;clear hO O3;go_wp21;refine zzM (HO.out _ hwd) λW7 hb7=>?_;have hB7:=hB.trans (hb7.mono hB.size);clear g0 g1 g2 g3 hwd hb7;go_wp21;go_ret;exact⟨rfl,hB7⟩
  ·have s0:=H4.out.base.t0;have s1:=H4.out.base.t1;have s2:=H4.out.base.t2;have s3:=H4.out.base.t3
   have hwd:=HW.out.below H4.out.base.bel;go_wp21;refine zzM (HT.out _ hwd) λW5 hb5=>?_;have h5:=H4.out.next hb5;have h6:=h5.putq bx by';have g0:=h5.d0;have g1:=h5.d1;obtain⟨f0,f1,f2,f3⟩:=h5.fr;clear s0 s1 s2 s3 hwd hb5 h5 H4;have k0:=h6.c0;have k1:=h6.c1;have k2:=h6.d0;have k3:=h6.d1;have hB:=h6.base.bel;have hwd:=HW.out.below hB;have hO:=O3.out;simp only[Bool.false_eq_true,if_false,if_true] at hO;have HO:=hid hO;clear hO O3 h6;go_wp21;refine zzM (HO.out _ hwd) λW7 hb7=>?_;have hB7:=hB.trans (hb7.mono hB.size);clear k0 k1 k2 k3 g0 g1 f0 f1 f2 f3 hwd hb7;go_wp21;go_ret;exact⟨rfl,hB7⟩
 ·have s0:=H4.out.base.t0;have s1:=H4.out.base.t1;have s2:=H4.out.base.t2;have s3:=H4.out.base.t3
  have hwd:=HW.out.below H4.out.base.bel;go_wp21;refine zzM (LT.out _ hwd) λW5 hb5=>?_;have h5:=H4.out.next hb5;have h6:=h5.putp ax ay;have g0:=h5.c0;have g1:=h5.c1;obtain⟨f0,f1,f2,f3⟩:=h5.fr;clear s0 s1 s2 s3 hwd hb5 h5 H4;have H6:=hid h6;clear h6;go_wp21;clear g0 g1 f0 f1 f2 f3;refine zbl (λ_ W=>FlatE w x1 y1 x2 y2 x3 y3 x4 y4 ax ay hx hy p q W) (by kernel_rfl) (by kernel_rfl) (by have h:=H6.out;exact h.next (zM _ _).drew) ?_;refine qR (.agg #[St x3,St y3,St x4,St y4]) ?_ (hy:=λf W' hf h=>by have h0:=h.base.t0;have h1:=h.base.t1;have h2:=h.base.t2;have h3:=h.base.t3;go_simp);simp only[zzQ]
  refine zar (.agg #[St bx,St by']) (by rfl) (λf W' hf h C' hC'=>by
   go_simp;refine zzM (HT.out _ (HW.out.below h.base.bel)) λw' hb=>?_;exact⟨rfl,hC' _ (h.next hb)⟩) ?_
  refine qR (.agg #[St hx,St hy]) ?_ (hy:=λf W' hf h=>by have h0:=h.d0;have h1:=h.d1;go_simp);simp only[zzQ]
  refine zar (.int .i64 n2) (by rfl) (λf W' hf h C' hC'=>by
   go_simp;refine zzM (O2.out _ (HW.out.below h.base.bel)) λw' hb=>?_;exact⟨rfl,hC' _ (h.next hb)⟩) ?_
  refine qR (.bool c2) ?_;simp only[zzQ];refine zck λf W4 hf h=>?_;clear H6;have H4:=hid h;clear h hf f;cases c2
  ·have g0:=H4.out.c0;have g1:=H4.out.c1;have g2:=H4.out.d0;have g3:=H4.out.d1
   have hB:=H4.out.base.bel;have hwd:=HW.out.below hB;have hO:=O3.out;simp only[Bool.false_eq_true,if_false,if_true] at hO;have HO:=hid hO;clear hO O3;go_wp21;refine zzM (HO.out _ hwd) λW7 hb7=>?_;have hB7:=hB.trans (hb7.mono hB.size);clear g0 g1 g2 g3 hwd hb7;go_wp21;go_ret;exact⟨rfl,hB7⟩
  ·have s0:=H4.out.base.t0;have s1:=H4.out.base.t1;have s2:=H4.out.base.t2;have s3:=H4.out.base.t3
   have hwd:=HW.out.below H4.out.base.bel;go_wp21;refine zzM (HT.out _ hwd) λW5 hb5=>?_;have h5:=H4.out.next hb5;have h6:=h5.putq bx by';have g0:=h5.d0;have g1:=h5.d1;obtain⟨f0,f1,f2,f3⟩:=h5.fr;clear s0 s1 s2 s3 hwd hb5 h5 H4;have k0:=h6.c0;have k1:=h6.c1;have k2:=h6.d0;have k3:=h6.d1;have hB:=h6.base.bel;have hwd:=HW.out.below hB;have hO:=O3.out;simp only[if_true] at hO;have HO:=hid hO;clear hO O3 h6;go_wp21;refine zzM (HO.out _ hwd) λW7 hb7=>?_;have hB7:=hB.trans (hb7.mono hB.size);clear k0 k1 k2 k3 g0 g1 f0 f1 f2 f3 hwd hb7;go_wp21;go_ret;exact⟨rfl,hB7⟩
theorem yhg (x:ByteArray) (u v t:ByteArray) (b:Bool) (hb:decide ((36:Int)<max (t.size:Int) (v.size:Int))=b)
 (T:Hid (⟨(trimPrefix u.data.toList [45]).toArray⟩=t))
 (PA:Hid (qK 116 #[.string x] (.tuple #[.string u,.string v,.int .i64 0]))) (w:zA) (HW:Hid (Wd w)):
 qJ 177 #[.string x] w (.int .i64 (if b then 4 else 0)):=by
 cases b
 all_goals (
 simp only[Bool.false_eq_true,if_false,if_true];go_enter Tryz.func177,Tryz.ntmps177;go_wp21;refine zzM (PA.out _ HW.out) λw1 hB=>?_;go_wp21;refine(Tryz.strings_TrimPrefix _ _ _).mono ?_;rintro e w' ⟨rfl,rfl⟩;simp only[T.out];go_wp21;go_ret;exact⟨rfl,hB⟩)
theorem yh0 (x:Int) (n:Nat) (_ v t:ByteArray) (hv:v=⟨(zD n).toArray⟩) (ht:t=⟨(zD x.natAbs).toArray⟩) (b:Bool) (hb:(if digs x<=36/\(zD n).length<=36 then(0:Int) else 4)=if b then 4 else 0):
 decide ((36:Int)<max (t.size:Int) (v.size:Int))=b:=by
 have e1:t.size=digs x:=by rw[ht];show(zD x.natAbs).toArray.size=_;simp[digs]
 have e2:v.size=(zD n).length:=by rw[hv];show(zD n).toArray.size=_;simp
 rw[e1,e2];cases b
 ·rw[decide_eq_false_iff_not]
  by_cases h:digs x<=36/\(zD n).length<=36
  ·omega
  ·rw[if_neg h] at hb;simp at hb
 ·rw[decide_eq_true_iff]
  by_cases h:digs x<=36/\(zD n).length<=36
  ·rw[if_pos h] at hb;simp at hb
  ·omega
def numE (q:Rat):Int:=if digs q.num<=36/\(zD q.den).length<=36 then 0 else 4
theorem zml (q:Rat) (h:okQ q) (w:zA) (hw:Wd w):
 qJ 177 #[St (numS q)] w (.int .i64 (numE q)):=by
 obtain⟨b,hb⟩:∃b:Bool,numE q=if b then 4 else 0:=by
  unfold numE;by_cases h:digs q.num<=36/\(zD q.den).length<=36
  ·exact⟨false,by rw[if_pos h];rfl⟩
  ·exact⟨true,by rw[if_neg h];rfl⟩
 rw[hb];refine yhg _ ⟨(zE q.num).toArray⟩ ⟨(zD q.den).toArray⟩ _ b ?_ (hid rfl) (hid λW hW=>zk5 q h W hW) w (hid hw);exact yh0 q.num q.den ⟨(zE q.num).toArray⟩ _ _ rfl (by rw[<-zbi]) b hb
structure PtS (w:zA) (x y:List UInt8) (W:zA):Prop where
 bel:qL w W
 lt:w.heap.size<W.heap.size
 hp:W.heap[w.heap.size]? =some (.cells #[St x,St y] 32 (0,0))
theorem PtS.next {w:zA} {x y:List UInt8} {W W':zA} (h:PtS w x y W) (hb:qL W W'):PtS w x y W':=
 ⟨h.bel.trans (hb.mono h.bel.size),zS h.lt hb.size,(hb.block _ h.lt).trans h.hp⟩
theorem PtS.c0 {w:zA} {x y:List UInt8} {W:zA} (h:PtS w x y W):W.cell? ⟨w.heap.size,0,none⟩=some (St x):=by have:=h.hp;simp[World.cell?,this]
theorem PtS.c1 {w:zA} {x y:List UInt8} {W:zA} (h:PtS w x y W):W.cell? ⟨w.heap.size,1,none⟩=some (St y):=by have:=h.hp;simp[World.cell?,this]
theorem zqi (x y:List UInt8) (m n:Int)
 (CX:Hid (qK 45 #[St x] (.int .i64 0)))
 (CY:Hid (qK 45 #[St y] (.int .i64 0)))
 (NX:Hid (qK 177 #[St x] (.int .i64 m)))
 (NY:Hid (qK 177 #[St y] (.int .i64 n)))
 (w:zA) (HW:Hid (Wd w)):
 qJ 94 #[.agg #[St x,St y]] w (.int .i64 (max m n)):=by
 have hinit:PtS w x y (w.alloc (.cells #[St x,St y] 32)):=⟨(zM _ w).alloc (zN _) _,by simp,zG w _⟩;obtain⟨W1,hW1⟩:=zzX (w.alloc (.cells #[St x,St y] 32));rw[<-hW1] at hinit;have i0:=hinit.c0;have i1:=hinit.c1;rw[hW1] at i0 i1;have HI:=hid hinit;clear hinit;have HW1:=hid hW1;clear hW1;have x0:∀w:zA,(Instr.index 220 (.agg #[St x,St y]) (.int .i64 0)).run zF w=.ok (St x) w:=λ_=>by kernel_rfl
 have x1:∀w:zA,(Instr.index 220 (.agg #[St x,St y]) (.int .i64 1)).run zF w=.ok (St y) w:=λ_=>by kernel_rfl
 go_enter Tryz.func94,Tryz.ntmps94;go_wp21;rw[<-HW1.out];clear i0 i1;refine wp_loop_rounds 3 ?_;rw[rounds_succ];go_wp21;refine zzM (CX.out _ (HW.out.below HI.out.bel)) λW2 hb2=>?_;have H2:=hid (HI.out.next hb2);clear HI hb2;go_wp21;rw[rounds_succ];go_wp21;refine zzM (CY.out _ (HW.out.below H2.out.bel)) λW3 hb3=>?_;have H3:=hid (H2.out.next hb3);clear H2 hb3;go_wp21;rw[rounds_succ];go_wp21;refine zbl (λ_ W=>PtS w x y W) (by kernel_rfl) (by kernel_rfl) (by have h:=H3.out;exact h.next (zM _ _).drew) ?_;refine qR (.pointer (some ⟨w.heap.size,0,none⟩)) ?_;refine qR (St x) ?_ (hy:=λf W' hf h=>by have h0:=h.c0;go_simp);simp only[zzQ]
 refine zar (.int .i64 m) (by rfl) (λf W' hf h C' hC'=>by
  go_simp;refine zzM (NX.out _ (HW.out.below h.bel)) λw' hb=>?_;exact⟨rfl,hC' _ (h.next hb)⟩) ?_
 refine qR (.pointer (some ⟨w.heap.size,1,none⟩)) ?_;refine qR (St y) ?_ (hy:=λf W' hf h=>by have h0:=h.c1;go_simp);simp only[zzQ]
 refine zar (.int .i64 n) (by rfl) (λf W' hf h C' hC'=>by
  go_simp;refine zzM (NY.out _ (HW.out.below h.bel)) λw' hb=>?_;exact⟨rfl,hC' _ (h.next hb)⟩) ?_
 refine qR (.int .i64 (max m n)) ?_;refine qR (.int .i64 (max m n)) ?_;simp only[zzQ];refine zck λf W4 hf h=>?_;have hB:=h.bel;clear h hf f H3;go_wp21;go_ret;exact⟨rfl,hB⟩
def ptE (p:Pt):Int:=max (numE p.x) (numE p.y)
theorem zp2 (p:Pt) (hx:okQ p.x) (hy:okQ p.y) (w:zA) (hw:Wd w):
 qJ 94 #[ptV p] w (.int .i64 (ptE p)):=
 zqi _ _ _ _ (hid λW hW=>zfj p.x hx W hW) (hid λW hW=>zfj p.y hy W hW) (hid λW hW=>zml p.x hx W hW) (hid λW hW=>zml p.y hy W hW) w (hid hw)
theorem zok {q:Rat} {k:Nat} (hk:0<k) (h:sz q k):digs q.num<=k/\(zD q.den).length<=k:=⟨(za3 _ _ hk).2 h.1,(zaf _ _ hk).2 h.2⟩
theorem zua {q:Rat} (h:sz q 36):numE q=0:=if_pos (zok (by omega) h)
theorem zzp {q:Rat} (h:sz q 36):okQ q:=let h:=zok (by omega) h;⟨zO h.1 (by omega),zO h.2 (by omega)⟩
theorem zll (p:Pt) (h:szP p 36) (w:zA) (hw:Wd w):
 qJ 94 #[ptV p] w (.int .i64 0):=by
 have:=zp2 p (zzp h.1) (zzp h.2) w hw;rwa [show ptE p=0 by unfold ptE;rw[zua h.1,zua h.2];rfl] at this
theorem zub (a b c d:Pt) (k:Nat) (hk:0<k) (hk2:8*k+4<=300) (ha:szP a k) (hb:szP b k) (hc:szP c k) (hd:szP d k) (w:zA) (hw:Wd w):
 qJ 95 #[segV a b,segV c d] w (.int .i64 (meet a b c d)):=by
 have TA:=hid λW hW=>zj3 a b c k hk hk2 ha hb hc W hW;have TB:=hid λW hW=>zj3 a b d k hk hk2 ha hb hd W hW;have TC:=hid λW hW=>zj3 c d a k hk hk2 hc hd ha W hW;have TD:=hid λW hW=>zj3 c d b k hk hk2 hc hd hb W hW;have r:∀x y z:Pt, -1<=turn x y z/\turn x y z<=1:=λx y z=>by rcases zw7 x y z with h|h|h<;>omega
 by_cases hz:turn a b c=0/\turn a b d=0/\turn c d a=0/\turn c d b=0
 ·have hlow:∀x y:Pt,szP x k->szP y k->szP (low x y) k:=λx y hx hy=>by unfold low;split<;>assumption
  have hhigh:∀x y:Pt,szP x k->szP y k->szP (high x y) k:=λx y hx hy=>by unfold high;split<;>assumption
  have ho:∀x y:Pt, -1<=ordP x y/\ordP x y<=1:=λx y=>by rcases zas x y with h|h|h<;>omega
  have O:∀x y:Pt,szP x k->szP y k->Hid (qK 180 #[ptV x,ptV y] (.int .i64 (ordP x y))):=λx y hx hy=>hid λW hW=>zm2 x y k k hk hk (by omega) hx hy W hW;rw[hz.1] at TA;rw[hz.2.1] at TB;rw[hz.2.2.1] at TC;rw[hz.2.2.2] at TD;have LS:=hid λW hW=>zzm a b k hk hk2 ha hb W hW;have HS:=hid λW hW=>ztf a b k hk hk2 ha hb W hW;have LT:=hid λW hW=>zzm c d k hk hk2 hc hd W hW;have HT:=hid λW hW=>ztf c d k hk hk2 hc hd W hW;obtain⟨c1,e1⟩:∃c1,decide (0<ordP (low c d) (low a b))=c1:=⟨_,rfl⟩;obtain⟨c2,e2⟩:∃c2,decide (ordP (high c d) (high a b)<0)=c2:=⟨_,rfl⟩;have em:meet a b c d=1-ordP (if c1 then low c d else low a b) (if c2 then high c d else high a b):=by
   unfold meet;rw[if_neg (by simp[hz])];subst e1;subst e2;simp only[decide_eq_true_eq]
  rw[em];have O3:=O (if c1 then low c d else low a b) (if c2 then high c d else high a b) (by split;exact hlow _ _ hc hd;exact hlow _ _ ha hb) (by split;exact hhigh _ _ hc hd;exact hhigh _ _ ha hb);refine zzo _ _ _ _ _ _ _ _ _ _ _ _ _ _ _ _ (ordP (low c d) (low a b)) (ordP (high c d) (high a b)) _ c1 c2 e1 e2 (ho _ _) TA TB TC TD LS HS LT HT (O _ _ (hlow _ _ hc hd) (hlow _ _ ha hb)) (O _ _ (hhigh _ _ hc hd) (hhigh _ _ ha hb)) ?_ w (hid hw);cases c1<;>cases c2<;>exact O3
 ·refine zxa _ _ _ _ _ _ _ _ _ _ _ _ _ TA TB TC TD (r _ _ _) (r _ _ _) (r _ _ _) (r _ _ _) hz ?_ w (hid hw)
  unfold meet;rw[if_pos (by omega)]
structure FourS (w:zA) (x1 y1 x2 y2 x3 y3 x4 y4:List UInt8) (W:zA):Prop where
 bel:qL w W
 lt:w.heap.size+3<W.heap.size
 h1:W.heap[w.heap.size]? =some (.cells #[St x1,St y1] 32 (0,0))
 h2:W.heap[w.heap.size+1]? =some (.cells #[St x2,St y2] 32 (0,0))
 h3:W.heap[w.heap.size+2]? =some (.cells #[St x3,St y3] 32 (0,0))
 h4:W.heap[w.heap.size+3]? =some (.cells #[St x4,St y4] 32 (0,0))
theorem FourS.next {w:zA} {x1 y1 x2 y2 x3 y3 x4 y4:List UInt8} {W W':zA} (h:FourS w x1 y1 x2 y2 x3 y3 x4 y4 W) (hb:qL W W'):FourS w x1 y1 x2 y2 x3 y3 x4 y4 W':=
 have hl:=h.lt
 ⟨h.bel.trans (hb.mono h.bel.size),zS h.lt hb.size,(hb.block _ (by omega)).trans h.h1,(hb.block _ (by omega)).trans h.h2,(hb.block _ (by omega)).trans h.h3,(hb.block _ (by omega)).trans h.h4⟩
theorem FourS.cells {w:zA} {x1 y1 x2 y2 x3 y3 x4 y4:List UInt8} {W:zA} (h:FourS w x1 y1 x2 y2 x3 y3 x4 y4 W):
 W.cell? ⟨w.heap.size,0,none⟩=some (St x1)/\W.cell? ⟨w.heap.size,1,none⟩=some (St y1)/\W.cell? ⟨w.heap.size+1,0,none⟩=some (St x2)/\W.cell? ⟨w.heap.size+1,1,none⟩=some (St y2)/\
 W.cell? ⟨w.heap.size+2,0,none⟩=some (St x3)/\W.cell? ⟨w.heap.size+2,1,none⟩=some (St y3)/\W.cell? ⟨w.heap.size+3,0,none⟩=some (St x4)/\W.cell? ⟨w.heap.size+3,1,none⟩=some (St y4):=by
 have h1:=h.h1;have h2:=h.h2;have h3:=h.h3;have h4:=h.h4;simp[World.cell?,h1,h2,h3,h4]
theorem FourS.start (w:zA) (x1 y1 x2 y2 x3 y3 x4 y4:List UInt8):
 FourS w x1 y1 x2 y2 x3 y3 x4 y4 ((((w.alloc (.cells #[St x1,St y1] 32)).alloc (.cells #[St x2,St y2] 32)).alloc (.cells #[St x3,St y3] 32)).alloc (.cells #[St x4,St y4] 32)):=by
 refine⟨((((zM _ w).alloc (zN _) _).alloc (by simp) _).alloc (by simp;omega) _).alloc (by simp;omega) _,by simp,?_,?_,?_,?_⟩
 ·exact(Below.heap_alloc _ _ _ (by simp;omega)).trans ((Below.heap_alloc _ _ _ (by simp;omega)).trans ((Below.heap_alloc _ _ _ (by simp)).trans (zG w _)))
 ·have:=zG (w.alloc (.cells #[St x1,St y1] 32)) (.cells #[St x2,St y2] 32)
  rw[zH] at this;exact(Below.heap_alloc _ _ _ (by simp)).trans ((Below.heap_alloc _ _ _ (by simp)).trans this)
 ·have:=zG ((w.alloc (.cells #[St x1,St y1] 32)).alloc (.cells #[St x2,St y2] 32)) (.cells #[St x3,St y3] 32)
  simp only[zH] at this;exact(Below.heap_alloc _ _ _ (by simp)).trans this
 ·have:=zG (((w.alloc (.cells #[St x1,St y1] 32)).alloc (.cells #[St x2,St y2] 32)).alloc (.cells #[St x3,St y3] 32)) (.cells #[St x4,St y4] 32)
  simp only[zH] at this;exact this
end
section
open Go.RowKit Go.Shelf Lib Str Limb
attribute [local go_sem] Oper.semAt_some
theorem zzg (x u v:List UInt8)
 (PA:Hid (qK 116 #[St x] (.tuple #[St u,St v,.int .i64 0]))) (w:zA) (HW:Hid (Wd w)):
 qJ 77 #[St x] w (.agg #[St u,St v]):=by
 obtain⟨W1,hW1⟩:=zzX (w.alloc (.cells #[St [],St []] 123));have hb1:qL w W1:=by rw[hW1];exact(zM _ w).alloc (zN _) _
 have A1:W1.heap[w.heap.size]? =some (.cells #[St [],St []] 123 (0,0)):=by rw[hW1];exact zG w _
 have hz:W1.heap.size=w.heap.size+1:=by rw[hW1];simp
 have HW1:=hid hW1;clear hW1;go_enter Tryz.func77,Tryz.ntmps77;go_wp21;have h9:=HW1.out;rw[<-h9];clear h9;refine zzM (PA.out _ (HW.out.below hb1)) λw2 hb2=>?_;have hB2:=hb1.trans (hb2.mono hb1.size);have A2:w2.heap[w.heap.size]? =some (.cells #[St [],St []] 123 (0,0)):=(hb2.block _ (by omega)).trans A1;have b0:w2.cell? ⟨w.heap.size,0,none⟩=some (St []):=by rw[zJ A2];rfl
 have b1:w2.cell? ⟨w.heap.size,1,none⟩=some (St []):=by rw[zJ A2];rfl
 have f0:w2.frozen? ⟨w.heap.size,0,none⟩=false:=Go.Joins.unfrozen_of_block A2 0;have f1:w2.frozen? ⟨w.heap.size,1,none⟩=false:=Go.Joins.unfrozen_of_block A2 1;clear A1 A2 hb2;go_wp21;refine bodyPost_ret (v:=.agg #[St u,St v]) (by simp[results,Tryz.results77,go_sem,b0,b1]) rfl ⟨rfl,?_⟩
 repeat(first|exact hB2|refine Below.setCell ?_ (by simp) _)
theorem zio (q:Rat) (h:okQ q) (w:zA) (hw:Wd w):
 qJ 77 #[St (numS q)] w (.agg #[St (zE q.num),St (zD q.den)]):=
 zzg _ _ _ (hid λW hW=>zk5 q h W hW) w (hid hw)
theorem zkh (x:Int) (w:zA):
 qJ 117 #[St (zE x)] w (.int .i64 (digs x:Nat)):=by
 obtain⟨t,ht⟩:=zzX (⟨(trimPrefix (⟨(zE x).toArray⟩:ByteArray).data.toList [45]).toArray⟩:ByteArray);have hs:t.size=digs x:=by
  rw[ht];show(trimPrefix (zE x) [45]).toArray.size=_;rw[zbi];simp[digs]
 rw[<-hs];have HT:=hid ht;clear ht hs;show zC _ _ #[.string ⟨(zE x).toArray⟩] _ _;generalize (⟨(zE x).toArray⟩:ByteArray)=u at*
 go_enter Tryz.func117,Tryz.ntmps117;go_wp21;refine zzM (Tryz.strings_TrimPrefix _ _ _) λw' hw1=>?_;have hw2:=hw1.symm;subst hw2;have h9:=HT.out;rw[<-show t=⟨(trimPrefix u.data.toList (⟨#[45]⟩:ByteArray).data.toList).toArray⟩ from h9];clear h9 hw1;go_wp21;go_ret;exact⟨rfl,zM _ _⟩
theorem zw3 (x u v:List UInt8) (a b:Nat) (w:zA) (HW:Hid (Wd w))
 (PA:Hid (qK 116 #[St x] (.tuple #[St u,St v,.int .i64 0])))
 (D1:Hid (∀W:zA,qJ 117 #[St u] W (.int .i64 a)))
 (D2:Hid (∀W:zA,qJ 117 #[St v] W (.int .i64 b))):
 qJ 49 #[St x] w (.int .i64 (max (a:Int) b)):=by
 go_enter Tryz.func49,Tryz.ntmps49;go_wp21;refine zzM (PA.out _ HW.out) λw1 hb1=>?_;go_wp21;refine zzM (D1.out _) λw2 hb2=>?_;go_wp21;refine zzM (D2.out _) λw3 hb3=>?_;go_wp21;go_ret;have h2:=hb1.trans (hb2.mono hb1.size);exact⟨rfl,h2.trans (hb3.mono h2.size)⟩
theorem znp (q:Rat) (h:okQ q) (w:zA) (hw:Wd w):
 qJ 49 #[St (numS q)] w (.int .i64 (max (digs q.num:Int) (digs (q.den:Int):Nat))):=
 zw3 _ (zE q.num) (zD q.den) _ _ w (hid hw) (hid λW hW=>zk5 q h W hW) (hid λW=>zkh q.num W) (hid λW=>by have:=zkh (q.den:Int) W;rwa [Str.zad] at this)
end
section
open Go.RowKit Go.Shelf
attribute [local go_sem] Oper.semAt_some
def MkAt (mk:Option Nat) (W:zA):Prop:=∀D,mk=some D->W.heap[D]? =some (.deferred (some []))
section
variable {F:Fence} {n:Nat} {P:Program} {g:Operand} {ps:Array Tmp} {assign body:Code} {Q:Exit->Act->zA->Prop} {a:Act} {w:zA} {gf:Nat} {lb:Array Value}
 {Rd:zA->Prop} {R:Nat->Array Value->Prop} {len:Nat}
theorem z87 (h1:1<=n) (hg:a.eval g=.func (.func gf) #[] lb) (hFg:F.fn gf) (eg:∀args w,(callFunc gf args).run P w=.ok (.enter gf args) w)
 (hseq:IterC F (n-1) P gf lb Rd R len) (hps:∀k args,R k args->args.size=ps.size)
 {B:Nat} (hB:B<=w.heap.size) (I:Nat->zA->Prop) (Ix:Code->Nat->zA->Prop) (hI:∀k W W',I k W->CellsKept W W'->zB B W W'->I k W') (hIx:∀c k W W',Ix c k W->CellsKept W W'->zB B W W'->Ix c k W')
 (hRd:∀k W,I k W->Rd W) (h0:I 0 w)
 (Ax:Nat->Array Value->Act->zA->Prop) (hAx:∀k args a' W W',Ax k args a' W->CellsKept W W'->zB B W W'->Ax k args a' W')
 (zl:Nat) (mark:List Deferred) (mk:Option Nat) (w1:FuncId->zA) (dd:Nat)
 (hent:∀fn,(Instr.enterLoop fn a.tmps ps assign body F.round).run P w=.ok (zl,mark) (w1 fn))
 (hrec:∀fn,(w1 fn).heap[zl]? =some (.loop {state:=.ready,pending:=none,fn,tmps:=a.tmps,params:=ps,assign,body,defers:=dd}))
 (hzl:w.heap.size<=zl) (hmk:∀D,mk=some D->w.heap.size<=D/\D≠zl) (hmk1:∀fn,MkAt mk (w1 fn)) (hstart:∀fn,qL w (w1 fn)) (hck:∀fn,CellsKept w (w1 fn))
 (hassign:∀(l k:Nat) (args:Array Value) (W:zA) (K:Act->zA->Prop),w.heap.size<=l->(∃r,W.heap[l]? =some (.loop r))->I k W->k<len->R k args->
   (∀a' W',KeepsFrom w.heap.size W W'->I k W'->Ax k args a' W'->K a' W')->
   assign.wpIn (F.inRound l) (n-1-1) P (Exit.then K (λ_ _ _=>False)) {tmps:=(ps.zip args).foldl (λt (p,v)=>t.setIfInBounds p v) a.tmps,defers:=[]} W)
 (hbody:∀(l k:Nat) (args:Array Value) (a':Act) (W:zA),w.heap.size<=l->(∃r,W.heap[l]? =some (.loop r))->I k W->k<len->R k args->Ax k args a' W->body.wpIn (F.inRound l) (n-1-1) P (zja w.heap.size I Ix k W) a' W)
 (hdone:∀(W:zA),I len W->MkAt mk W->Q .normal {a with defers:=mark++a.defers} W)
 (hstop:∀(c:Code) (k:Nat) (W:zA),Ix c k W->MkAt mk W->c.wpIn F n P Q {a with defers:=mark++a.defers} W):
 (Code.rangeFunc g ps assign body).wpIn F n P Q a w:=by
 refine wpIn_rangeFunc λfn hfn=>?_;let rec':LoopState->Option Code->Obj:=λst pe=>.loop {state:=st,pending:=pe,fn,tmps:=a.tmps,params:=ps,assign,body,defers:=dd};let bk:LoopState->Option Code->zA->Prop:=λst pe W=>W.heap[zl]? =some (rec' st pe)/\MkAt mk W;have hturn:∀st pe st' pe' W,bk st pe W->bk st' pe' (W.putObj zl (rec' st' pe')):=λst pe st' pe' W h=>
  ⟨World.putObj_heap_same (Array.getElem?_eq_some_iff.1 h.1).1,λD hD=>(World.putObj_heap_other (hmk D hD).2).trans (h.2 D hD)⟩
 refine⟨zl,mark,w1 fn,{target:=.fn (.func gf) lb,args:= #[.func (.yield zl) #[] #[]]},w1 fn,gf,#[.func (.yield zl) #[] #[]]++lb,w1 fn,hent fn,?_,?_,?_,λ_=>h1,?_⟩
 ·simp only[resolve,hg]
  simp[go_sem]
 ·intro f' hf';simp[Target.leads] at hf';subst hf';exact hFg
 ·simp[invoke,go_sem,eg]
 refine(hseq zl (λk W=>I k W/\bk .ready none W) (λW=>∃c k,Ix c k W/\bk .done (some c) W) _ (λk W1 h=>hRd k W1 h.1) (λk W1 W2 h hb=>?_) ?_ ?_).mono ?_
 ·exact⟨hI k W1 W2 h.1 (zac hb) (hb.mono (by have:=(Array.getElem?_eq_some_iff.1 h.2.1).1;omega)),
   (hb.block _ (Array.getElem?_eq_some_iff.1 h.2.1).1).trans h.2.1,λD hD=>(hb.block _ (Array.getElem?_eq_some_iff.1 (h.2.2 D hD)).1).trans (h.2.2 D hD)⟩
 ·rintro k args W ⟨hi,hbW⟩ hk hR
  have hy:=run_yield (P:=P) (args:=args) hbW.1 (hps k args hR);refine⟨fn,_,assign,body,hy,roundIn_of_wpIn hfn (hassign _ k args W _ hzl ⟨_,hbW.1⟩ hi hk hR ?_)⟩;intro a' W2 hk2 hi2 hax2;have hbW2:bk .ready none W2:=⟨hk2.same _ _ hzl hbW.1 rfl,λD hD=>hk2.same _ _ (hmk D hD).1 (hbW.2 D hD) rfl⟩;refine⟨_,run_beginRound hbW2.1 rfl,?_⟩;have hb2:bk .busy none (W2.putObj zl (rec' .busy none)):=hturn _ _ _ _ _ hbW2;have hc2:=zcw (rec' .busy none) hbW2.1 rfl;have hl2:=zcx (B:=B) (rec' .busy none) hbW2.1 (by omega);refine wpIn_mono (hbody _ k args a' _ hzl ⟨_,hb2.1⟩ (hI k _ _ hi2 hc2 hl2) hk hR (hAx k args a' _ _ hax2 hc2 hl2)) ?_;have fin:∀(jump:Option Code) (W3:zA),KeepsFrom w.heap.size (W2.putObj zl (rec' .busy none)) W3->
   (Instr.endRound zl jump).run P W3=.ok (.bool jump.isNone) (W3.putObj zl (rec' (if jump.isNone then .ready else .done) jump))/\
   CellsKept W3 (W3.putObj zl (rec' (if jump.isNone then .ready else .done) jump))/\zB B W3 (W3.putObj zl (rec' (if jump.isNone then .ready else .done) jump))/\
   bk (if jump.isNone then .ready else .done) jump (W3.putObj zl (rec' (if jump.isNone then .ready else .done) jump)):=λjump W3 hk3=>by
   have hb3:bk .busy none W3:=⟨hk3.same _ _ hzl hb2.1 rfl,λD hD=>hk3.same _ _ (hmk D hD).1 (hb2.2 D hD) rfl⟩;exact⟨run_endRound jump hb3.1,zcw _ hb3.1 rfl,zcx _ hb3.1 (by omega),hturn _ _ _ _ _ hb3⟩
  rintro e a3 W3 hp
  cases e with
  |normal=>
   obtain⟨hk3,hi3⟩:=hp;obtain⟨hr,hc,hbl,hb4⟩:=fin none W3 hk3;exact⟨_,_,hr,.inl ⟨rfl,hI _ _ _ hi3 hc hbl,hb4⟩⟩
  |ret=>
   obtain⟨hk3,hi3⟩:=hp;obtain⟨hr,hc,hbl,hb4⟩:=fin (some .ret) W3 hk3;exact⟨_,_,hr,.inr ⟨rfl,_,_,hIx _ _ _ _ hi3 hc hbl,hb4⟩⟩
  |exit id=>
   obtain⟨hk3,hi3⟩:=hp;obtain⟨hr,hc,hbl,hb4⟩:=fin (some (.exit id)) W3 hk3;exact⟨_,_,hr,.inr ⟨rfl,_,_,hIx _ _ _ _ hi3 hc hbl,hb4⟩⟩
  |goto t=>
   obtain⟨hk3,hi3⟩:=hp;obtain⟨hr,hc,hbl,hb4⟩:=fin (some (.goto t)) W3 hk3;exact⟨_,_,hr,.inr ⟨rfl,_,_,hIx _ _ _ _ hi3 hc hbl,hb4⟩⟩
  |panic ch=>exact hp.elim
  |outgrown=>exact hp.elim
 ·exact⟨hI 0 _ _ h0 (hck fn) ((hstart fn).mono hB),hrec fn,hmk1 fn⟩
 ·rintro e W2 ⟨⟨v,rfl⟩,(⟨hi,hb4⟩|⟨c,k,hi,hb4⟩)⟩
  ·exact⟨none,_,run_endLoop hb4.1 (by simp),hdone _ (hI _ _ _ hi (zcw _ hb4.1 rfl) (zcx _ hb4.1 (by omega))) (λD hD=>(World.putObj_heap_other (hmk D hD).2).trans (hb4.2 D hD))⟩
  ·exact⟨some c,_,run_endLoop hb4.1 (by simp),hstop c k _ (hIx _ _ _ _ hi (zcw _ hb4.1 rfl) (zcx _ hb4.1 (by omega))) (λD hD=>(World.putObj_heap_other (hmk D hD).2).trans (hb4.2 D hD))⟩
theorem z9z (hro:F.round=none) (h1:1<=n) (hg:a.eval g=.func (.func gf) #[] lb) (hFg:F.fn gf) (eg:∀args w,(callFunc gf args).run P w=.ok (.enter gf args) w)
 (hseq:IterC F (n-1) P gf lb Rd R len) (hps:∀k args,R k args->args.size=ps.size)
 {B:Nat} (hB:B<=w.heap.size) (I:Nat->zA->Prop) (Ix:Code->Nat->zA->Prop) (hI:∀k W W',I k W->CellsKept W W'->zB B W W'->I k W') (hIx:∀c k W W',Ix c k W->CellsKept W W'->zB B W W'->Ix c k W')
 (hRd:∀k W,I k W->Rd W) (h0:I 0 w)
 (Ax:Nat->Array Value->Act->zA->Prop) (hAx:∀k args a' W W',Ax k args a' W->CellsKept W W'->zB B W W'->Ax k args a' W')
 (hassign:∀(l k:Nat) (args:Array Value) (W:zA) (K:Act->zA->Prop),w.heap.size<=l->(∃r,W.heap[l]? =some (.loop r))->I k W->k<len->R k args->
   (∀a' W',KeepsFrom w.heap.size W W'->I k W'->Ax k args a' W'->K a' W')->
   assign.wpIn (F.inRound l) (n-1-1) P (Exit.then K (λ_ _ _=>False)) {tmps:=(ps.zip args).foldl (λt (p,v)=>t.setIfInBounds p v) a.tmps,defers:=[]} W)
 (hbody:∀(l k:Nat) (args:Array Value) (a':Act) (W:zA),w.heap.size<=l->(∃r,W.heap[l]? =some (.loop r))->I k W->k<len->R k args->Ax k args a' W->body.wpIn (F.inRound l) (n-1-1) P (zja w.heap.size I Ix k W) a' W)
 (hdone:∀(D:Nat) (W:zA),w.heap.size<=D->I len W->W.heap[D]? =some (.deferred (some []))->Q .normal {a with defers:={target:=.collected D,args:= #[]}::a.defers} W)
 (hstop:∀(D:Nat) (c:Code) (k:Nat) (W:zA),w.heap.size<=D->Ix c k W->W.heap[D]? =some (.deferred (some []))->c.wpIn F n P Q {a with defers:={target:=.collected D,args:= #[]}::a.defers} W):
 (Code.rangeFunc g ps assign body).wpIn F n P Q a w:=by
 have hst:∀o,qL w ((w.alloc (.deferred (some []))).alloc o):=λo=>((zM _ w).alloc (zN _) _).alloc (by simp) _;refine z87 h1 hg hFg eg hseq hps hB I Ix hI hIx hRd h0 Ax hAx (w.heap.size+1) [{target:=.collected w.heap.size,args:= #[]}] (some w.heap.size) (λfn=>(w.alloc (.deferred (some []))).alloc (.loop {state:=.ready,pending:=none,fn,tmps:=a.tmps,params:=ps,assign,body,defers:=w.heap.size})) w.heap.size
  (λfn=>by rw[hro];exact run_enterLoop_outer _ _ _ _ _) (λfn=>?_) (by omega) (λD hD=>by cases hD;omega) (λfn D hD=>?_) (λfn=>hst _) (λfn=>zac (hst _)) hassign hbody (λW hi hm=>hdone _ W (zN _) hi (hm _ rfl)) (λc k W hi hm=>hstop _ c k W (zN _) hi (hm _ rfl))
 ·have:=zG (w.alloc (.deferred (some []))) (.loop {state:=.ready,pending:=none,fn,tmps:=a.tmps,params:=ps,assign,body,defers:=w.heap.size});rwa [zH] at this
 ·cases hD;exact(Below.heap_alloc _ _ _ (by simp)).trans (zG w _)
theorem zr1 {l₀:Nat} {r₀:Loop} (hro:F.round=some l₀) (hl:w.heap[l₀]? =some (.loop r₀)) (h1:1<=n) (hg:a.eval g=.func (.func gf) #[] lb) (hFg:F.fn gf) (eg:∀args w,(callFunc gf args).run P w=.ok (.enter gf args) w)
 (hseq:IterC F (n-1) P gf lb Rd R len) (hps:∀k args,R k args->args.size=ps.size)
 {B:Nat} (hB:B<=w.heap.size) (I:Nat->zA->Prop) (Ix:Code->Nat->zA->Prop) (hI:∀k W W',I k W->CellsKept W W'->zB B W W'->I k W') (hIx:∀c k W W',Ix c k W->CellsKept W W'->zB B W W'->Ix c k W')
 (hRd:∀k W,I k W->Rd W) (h0:I 0 w)
 (Ax:Nat->Array Value->Act->zA->Prop) (hAx:∀k args a' W W',Ax k args a' W->CellsKept W W'->zB B W W'->Ax k args a' W')
 (hassign:∀(l k:Nat) (args:Array Value) (W:zA) (K:Act->zA->Prop),w.heap.size<=l->(∃r,W.heap[l]? =some (.loop r))->I k W->k<len->R k args->
   (∀a' W',KeepsFrom w.heap.size W W'->I k W'->Ax k args a' W'->K a' W')->
   assign.wpIn (F.inRound l) (n-1-1) P (Exit.then K (λ_ _ _=>False)) {tmps:=(ps.zip args).foldl (λt (p,v)=>t.setIfInBounds p v) a.tmps,defers:=[]} W)
 (hbody:∀(l k:Nat) (args:Array Value) (a':Act) (W:zA),w.heap.size<=l->(∃r,W.heap[l]? =some (.loop r))->I k W->k<len->R k args->Ax k args a' W->body.wpIn (F.inRound l) (n-1-1) P (zja w.heap.size I Ix k W) a' W)
 (hdone:∀(W:zA),I len W->Q .normal a W) (hstop:∀(c:Code) (k:Nat) (W:zA),Ix c k W->c.wpIn F n P Q a W):
 (Code.rangeFunc g ps assign body).wpIn F n P Q a w:=by
 have hst:∀o,qL w (w.alloc o):=λo=>(zM _ w).alloc (zN _) _;refine z87 h1 hg hFg eg hseq hps hB I Ix hI hIx hRd h0 Ax hAx w.heap.size [] none (λfn=>w.alloc (.loop {state:=.ready,pending:=none,fn,tmps:=a.tmps,params:=ps,assign,body,defers:=r₀.defers})) r₀.defers
  (λfn=>by rw[hro];exact run_enterLoop_inner hl _ _ _ _ _) (λfn=>zG w _) (zN _) (λD hD=>by cases hD) (λfn D hD=>by cases hD) (λfn=>hst _) (λfn=>zac (hst _)) hassign hbody (λW hi _=>hdone W hi) (λc k W hi _=>hstop c k W hi)
theorem IterC.inRound (l:Nat) (h:IterC F n P gf lb Rd R len):IterC (F.inRound l) n P gf lb Rd R len:=h
end
end
section
open Go.RowKit Go.Shelf Lib Str Limb
attribute [local go_sem] Oper.semAt_some
def psum (q:Nat->Rat):Nat->Rat
 |0=>0
 |k+1=>psum q k+q k
def RowNums (p:Option Addr) (n:Nat) (q:Nat->Rat) (W:zA):Prop:=∀i,i<n->∃b off,p=some ⟨b,off,none⟩/\W.cell? ⟨b,off+i,none⟩=some (St (numS (q i)))
theorem RowNums.keep {p:Option Addr} {n:Nat} {q:Nat->Rat} {W W':zA} (h:RowNums p n q W) (hc:CellsKept W W'):RowNums p n q W':=λi hi=>let ⟨b,off,e,h1⟩:=h i hi;⟨b,off,e,hc.cell h1⟩
theorem ye4 (v:Value) (w:zA) (p:Option Addr) (n cap:Nat) (hv:v=.slice p n cap):
 zC zF 174 #[v] w λe w'=>e=.returned (.func (.func 236) #[] #[.pointer (some ⟨w.heap.size,0,none⟩)])/\w.alloc (.cells #[v] 120)=w':=by
 subst hv;go_enter Tryz.func174,Tryz.ntmps174;go_wp2;go_ret;exact⟨rfl,rfl⟩
theorem ygk (m:Nat) (hm:1<=m) (Bs:Nat) (n:Nat) (q:Nat->Rat) (hlen:n<=5000) (Rd:zA->Prop) (p:Option Addr) (cap:Nat)
 (A:Hid (∀k,k<n->qK 10 #[St (numS (psum q k)),St (numS (q k))] (.tuple #[St (numS (psum q (k+1))),.int .i64 0])))
 (hRd:∀W,Rd W->W.cell? ⟨Bs,0,none⟩=some (.slice p n cap)/\RowNums p n q W/\Wd W):
 IterC Fence.wide m zF 236 #[.pointer (some ⟨Bs,0,none⟩)] Rd (λk args=>args= #[St (numS (psum q (k+1))),.int .i64 0]) n:=by
 intro lp J Jx W hJr hJb hY h0;refine callsIn_of_wp Tryz.func236 rfl trivial ?_ rfl;simp only[Tryz.ntmps236,List.size_toArray,yA,List.length_nil,Nat.reduceAdd,Nat.reduceSub,Array.replicate_succ,Array.replicate_zero,List.push_toArray,List.append_toArray,List.nil_append,List.cons_append];obtain⟨hb,_,_⟩:=hRd W (hJr 0 W h0);have HRd:=hid λk W h=>hRd W (hJr k W h);clear hRd hJr;have HY:=hid hY;clear hY;have HJB:=hid hJb;clear hJb;gi_wp2;gi_loopw [3,9] (λs i wr=>∃(k:Nat),k<=n/\s=St (numS (psum q k))/\i=.int .i64 (k:Int)/\Hid (J k wr))
  (λ_ i _=>n-(zL i).toNat)
 case atStart=>exact⟨0,zR _,by rw[show psum q 0=0 from rfl,zie],rfl,h0⟩
 case round=>
  clear hb;obtain⟨k,hk,rfl,rfl,hJ⟩:=hrel;by_cases hlt:k<n
  ·obtain⟨hb,hc,hwd⟩:=HRd.out k wr hJ.out
   obtain⟨b,off,rfl,c0⟩:=hc k hlt;have HA:=hid (A.out k hlt wr hwd);have HY1:=hid λW h=>HY.out k #[St (numS (psum q (k+1))),.int .i64 0] W h hlt rfl;clear hc hwd HY HRd A;generalize numS (psum q k)=x at*
   generalize numS (q k)=y at*
   obtain⟨z,hz⟩:=zzX (numS (psum q (k+1)));rw[<-hz] at HA HY1;have HZ:=hid hz;clear hz;gi_wp2;refine⟨trivial,(callsIn_wide.2 HA.out).mono ?_⟩;rintro e W2 ⟨rfl,hb2⟩;obtain⟨fn,tmps,assign,body,hy,hR⟩:=HY1.out W2 (HJB.out k wr W2 hJ.out hb2);clear hb2 HA HY1;gi_wp2;refine hR.mono ?_;rintro e W3 (⟨rfl,hJ3⟩|⟨rfl,hJx3⟩)
   ·have HJ3:=hid hJ3;clear hJ3
    gi_wp2;go_roundw
    case rel=>exact⟨k+1,by omega,by rw[HZ.out],by go_num,HJ3.out⟩
    case measure=>simp[zL];omega
   ·have HJx3:=hid hJx3;clear hJx3
    gi_wp2;refine bodyPost_ret (results_none rfl _ _ _) rfl ?_;exact⟨⟨_,rfl⟩,.inr HJx3.out⟩
  ·obtain rfl:k=n:=by omega
   gi_wp2;go_end0;exact⟨⟨_,rfl⟩,.inl hJ.out⟩
structure SumS (w:zA) (p:Option Addr) (n:Nat) (q:Nat->Rat) (W:zA):Prop where
 bel:qL w W
 r1:W.cell? ⟨w.heap.size,0,none⟩=some (St [])
 f1:W.frozen? ⟨w.heap.size,0,none⟩=false
 r2:W.cell? ⟨w.heap.size+1,0,none⟩=some (.int .i64 0)
 f2:W.frozen? ⟨w.heap.size+1,0,none⟩=false
 nums:∀i,i<n->∃b off,p=some ⟨b,off,none⟩/\b<w.heap.size/\W.cell? ⟨b,off+i,none⟩=some (St (numS (q i)))
theorem SumS.keep {w:zA} {p:Option Addr} {n:Nat} {q:Nat->Rat} {W W':zA} (h:SumS w p n q W) (hc:CellsKept W W') (hb:zB w.heap.size W W'):SumS w p n q W':=
 ⟨h.bel.trans hb,hc.cell h.r1,hc.frozen h.r1 h.f1,hc.cell h.r2,hc.frozen h.r2 h.f2,λi hi=>let ⟨b,off,e,h0,h1⟩:=h.nums i hi;⟨b,off,e,h0,hc.cell h1⟩⟩
theorem SumS.row {w:zA} {p:Option Addr} {n:Nat} {q:Nat->Rat} {W:zA} (h:SumS w p n q W):RowNums p n q W:=λi hi=>let ⟨b,off,e,_,h1⟩:=h.nums i hi;⟨b,off,e,h1⟩
theorem SumS.put {w:zA} {p:Option Addr} {n:Nat} {q:Nat->Rat} {W:zA} (h:SumS w p n q W) {b0:Nat} (hb:w.heap.size+1<b0) (v:Value):SumS w p n q (W.setCell ⟨b0,0,none⟩ v):=
 ⟨h.bel.setCell (by simp;omega) _,by rw[zau _ _ _ _ (by omega)];exact h.r1,by rw[World.frozen?_setCell];exact h.f1,by rw[zau _ _ _ _ (by omega)];exact h.r2,by rw[World.frozen?_setCell];exact h.f2,
  λi hi=>let ⟨b,off,e,h0,h1⟩:=h.nums i hi;⟨b,off,e,h0,by rw[zau _ _ _ _ (by omega)];exact h1⟩⟩
theorem ye5 (p:Option Addr) (cap n:Nat) (q:Nat->Rat) (hlen:n<=4096)
 (C:Hid (∀k,k<n->qK 45 #[St (numS (q k))] (.int .i64 0)))
 (A:Hid (∀k,k<n->qK 10 #[St (numS (psum q k)),St (numS (q k))] (.tuple #[St (numS (psum q (k+1))),.int .i64 0])))
 (w:zA) (HW:Hid (Wd w)) (HP:Hid (RowNums p n q w)):
 qJ 92 #[.slice p n cap] w (.tuple #[St (numS (psum q n)),.int .i64 0]):=by
 refine(callsIn_wide (n:=3)).1 ?_;refine callsIn_of_wp_marks Tryz.func92 rfl trivial ?_ rfl;simp only[Tryz.ntmps92,List.size_toArray,yA,List.length_nil,Nat.reduceAdd,Nat.reduceSub,Array.replicate_succ,Array.replicate_zero,List.push_toArray,List.append_toArray,List.nil_append,List.cons_append];have hS0:SumS w p n q ((w.alloc (.cells #[St []] 30)).alloc (.cells #[.int .i64 0] 27)):=by
  have b1:=Boxed.new w 30 (St []);have b2:=Boxed.new (w.alloc (.cells #[St []] 30)) 27 (.int .i64 0);have b12:=b1.alloc (.cells #[.int .i64 0] 27);simp only[zH] at b2;have hbel:qL w ((w.alloc (.cells #[St []] 30)).alloc (.cells #[.int .i64 0] 27)):=((zM _ w).alloc (zN _) _).alloc (by simp) _;exact⟨hbel,b12.cell,b12.frozen,b2.cell,b2.frozen,λi hi=>let ⟨b,off,e,h1⟩:=HP.out i hi;⟨b,off,e,zbe h1,(zac hbel).cell h1⟩⟩
 have HS0:=hid hS0;clear hS0 HP;have hn1:decide ((4096:Int)<(n:Int))=false:=decide_eq_false (by omega);gi_wp2;gi_loopw [15] (λi wr=>∃(k:Nat),k<=n/\i=.int .i64 (k:Int)/\Hid (SumS w p n q wr))
  (λi _=>n-(zL i).toNat)
 case atStart=>exact⟨0,zR _,rfl,HS0.out⟩
 case round=>
  clear hn1;obtain⟨k,hk,rfl,hS⟩:=hrel;by_cases hlt:k<n
  ·obtain⟨b,off,rfl,_,c0⟩:=hS.out.nums k hlt
   have HC:=hid (C.out k hlt wr (HW.out.below hS.out.bel));generalize numS (q k)=x at c0 HC;gi_wp2;refine⟨trivial,(callsIn_wide.2 HC.out).mono ?_⟩;rintro e W2 ⟨rfl,hb2⟩;have hS2:=hid (hS.out.keep (zac hb2) (hb2.mono hS.out.bel.size));clear hb2 HC hS HS0;gi_wp2;go_roundw
   case rel=>exact⟨k+1,by omega,by go_num,hS2⟩
   case measure=>simp[zL];omega
  ·obtain rfl:k=n:=by omega
   clear HS0;gi_wp2_with (refine⟨trivial,?_⟩;gi_at_call 174;refine(callsIn_wide.2 (ye4 _ _ _ _ _ rfl)).mono ?_;rintro e w' ⟨rfl,rfl⟩);obtain⟨W1,hW1⟩:=zzX ((wr.alloc (.cells #[.string ⟨#[48]⟩] 30)).alloc (.cells #[.slice p k cap] 120));have hb1:qL wr W1:=by rw[hW1];exact((zM _ wr).alloc (zN _) _).alloc (by simp) _
   have hcb:W1.cell? ⟨wr.heap.size+1,0,none⟩=some (.slice p k cap):=by
    have:=(Boxed.new (wr.alloc (.cells #[.string ⟨#[48]⟩] 30)) 120 (.slice p k cap)).cell;rw[zH] at this;rw[hW1];exact this
   have hob:=(Boxed.new wr 30 (.string ⟨#[48]⟩)).alloc (.cells #[.slice p k cap] 120);rw[<-hW1] at hob;have ho1:=hob.cell;have ho2:=hob.frozen;have hS1:=hS.out.keep (zac hb1) (hb1.mono hS.out.bel.size);have hwz:w.heap.size+1<wr.heap.size:=zbe hS.out.r2;rw[<-hW1];clear hW1 hS hob;have HS1:=hid hS1.bel.size;have hseq:=ygk 2 (by omega) (wr.heap.size+1) k q (by omega) (λW=>SumS w p k q W/\W.cell? ⟨wr.heap.size+1,0,none⟩=some (.slice p k cap)) p cap A (λW h=>⟨h.2,h.1.row,HW.out.below h.1.bel⟩)
   refine z9z (n:=3) (B:=w.heap.size) rfl (by omega) rfl trivial (enters_of Tryz.func236 (by kernel_rfl) rfl) hseq (λk args h=>by subst h;rfl) hS1.bel.size
    (λj W=>SumS w p k q W/\W.cell? ⟨wr.heap.size+1,0,none⟩=some (.slice p k cap)/\W.cell? ⟨wr.heap.size,0,none⟩=some (St (numS (psum q j)))/\W.frozen? ⟨wr.heap.size,0,none⟩=false)
    (λc _ W=>False)
    (λj X Y h hc hb=>⟨h.1.keep hc hb,hc.cell h.2.1,hc.cell h.2.2.1,hc.frozen h.2.2.1 h.2.2.2⟩) (λc j X Y h hc hb=>h) (λj W h=>⟨h.1,h.2.1⟩) ⟨hS1,hcb,by rw[show psum q 0=0 from rfl,zie];exact ho1,ho2⟩
    (λj _ a' W=>a'={tmps:= #[Value.slice p k cap,undef,Value.pointer (some {block:=w.heap.size,off:=0}),Value.pointer (some {block:=w.heap.size+1,off:=0}),undef,u5,u6,Value.pointer (some {block:=wr.heap.size,off:=0}),St (numS (psum q (j+1))),.int .i64 0,Value.slice p k cap,Value.int IntKind.i64 ↑k,Value.bool false,Value.slice p k cap,Value.int IntKind.i64 ↑k,Value.int IntKind.i64 ↑k,Value.bool false,u17,u18,u19,u20,u21,u22,u23,u24,Value.slice p k cap,Value.func (Fn.func 236) #[] #[Value.pointer (some {block:=wr.heap.size+1,off:=0})],St (numS (psum q (j+1))),.int .i64 0,undef,undef,undef,undef,undef],defers:=[]})
    (λj _ a' X Y h hc hb=>h) ?assign ?body ?done ?stop
   case assign=>
    rintro lp j args W K hlp hrec hI hj rfl hK;have HK:=hid hK;clear hK;gi_wp2;exact HK.out _ _ (KeepsFrom.refl _ _) hI rfl
   case body=>
    rintro lp j args a' W hlp ⟨r,hr⟩ ⟨hS,hcb,ho1,ho2⟩ hj rfl rfl;have H0:=hid (⟨hS,hcb,ho1,ho2⟩:SumS w p k q W/\W.cell? ⟨wr.heap.size+1,0,none⟩=some (.slice p k cap)/\W.cell? ⟨wr.heap.size,0,none⟩=some (St (numS (psum q j)))/\W.frozen? ⟨wr.heap.size,0,none⟩=false);clear hS hcb hseq hS1 hr;gi_wp2;obtain⟨hS,hcb,ho1,ho2⟩:=H0.out;refine⟨(KeepsOthers.setCell _ _ _).from _,hS.put hwz _,by rw[zau _ _ _ _ (by omega)];exact hcb,za9 ho1,by rw[World.frozen?_setCell];exact ho2⟩
   case done=>
    rintro D W hD ⟨hS,hcb,ho1,ho2⟩ hK;have hr1:=hS.r1;have hf1:=hS.f1;have hr2:=hS.r2;have hf2:=hS.f2;have HX:=hid (⟨hS.bel,hK⟩:qL w W/\W.heap[D]? =some (.deferred (some [])));clear hS hcb hseq hS1 hK;gi_wp2;obtain⟨hbel,hK⟩:=HX.out;have hK1:=(KeepsOthers.setCell W ⟨w.heap.size,0,none⟩ (St (numS (psum q k)))).same D _ hK rfl;have hK':=(KeepsOthers.setCell (W.setCell ⟨w.heap.size,0,none⟩ (St (numS (psum q k)))) ⟨w.heap.size+1,0,none⟩ (.int .i64 0)).same D _ hK1 rfl;refine⟨by simp,.inl ⟨_,_,rfl,run_takeDeferred hK',?_⟩⟩;have c1:=za9 (u:=St (numS (psum q k))) hr1;have c2:(W.setCell ⟨w.heap.size,0,none⟩ (St (numS (psum q k)))).cell? ⟨w.heap.size+1,0,none⟩=some (.int .i64 0):=by rw[zau _ _ _ _ (by omega)];exact hr2
    have c3:=za9 (u:=.int .i64 0) c2;have c4:((W.setCell ⟨w.heap.size,0,none⟩ (St (numS (psum q k)))).setCell ⟨w.heap.size+1,0,none⟩ (.int .i64 0)).cell? ⟨w.heap.size,0,none⟩=some (St (numS (psum q k))):=by rw[zau _ _ _ _ (by omega)];exact c1
    have e1:=(zbk hK').cell c4;have e2:=(zbk hK').cell c3;refine⟨.tuple #[St (numS (psum q k)),.int .i64 0],?_,⟨rfl,zby ((hbel.setCell (p:=⟨w.heap.size,0,none⟩) (by simp) _).setCell (p:=⟨w.heap.size+1,0,none⟩) (by simp) _) (by have:=HS1.out;omega) hK'⟩⟩;simp[results,Tryz.f92,go_sem,e1,e2]
   case stop=>
    rintro D c j W hD h hK;exact h.elim
theorem yhh (p:Option Addr) (cap n:Nat) (q:Nat->Rat) (hlen:n<=4096) (hs:∀k,k<n->∃i j,0<i/\0<j/\i+j<300/\sz (psum q k) i/\sz (q k) j) (w:zA) (hw:Wd w) (hp:RowNums p n q w):
 qJ 92 #[.slice p n cap] w (.tuple #[St (numS (psum q n)),.int .i64 0]):=
 ye5 p cap n q hlen
  (hid λk hk W hW=>let ⟨i,j,hi,hj,hij,_,h2⟩:=hs k hk;zfj (q k) (zd0 hj (by omega) h2) W hW)
  (hid λk hk W hW=>let ⟨i,j,hi,hj,hij,h1,h2⟩:=hs k hk;zje (psum q k) (q k) i j hi hj hij h1 h2 W hW) w (hid hw) (hid hp)
theorem zma (q:Rat) (h:0<=q.num) (w:zA):
 zC zF 146 #[St (numS q)] w λe w'=>e=.returned (.bool false)/\w'=w:=by
 have hp:Lib.hasPrefix (numS q) [45]=false:=by
  obtain⟨c,r,e,hc,_⟩:=dec_head q.num.natAbs;have e1:zE q.num=zD q.num.natAbs:=by
   rcases zbg q.num with⟨_,e⟩|⟨h',_⟩
   ·exact e
   ·omega
  have hc5:c≠45:=λh=>by subst h;simp at hc
  unfold numS;rw[e1,e];simp[Lib.hasPrefix,List.isPrefixOf,Ne.symm hc5]
 have hc:=Tryz.strings_HasPrefix ⟨(numS q).toArray⟩ ⟨#[45]⟩ w;rw[show(⟨(numS q).toArray⟩:ByteArray).data.toList=numS q from rfl,show(⟨#[45]⟩:ByteArray).data.toList=[45] from rfl,hp] at hc;show zC _ _ #[.string ⟨(numS q).toArray⟩] _ _;generalize (⟨(numS q).toArray⟩:ByteArray)=u at*
 have HC:=hid hc;clear hc hp;go_enter Tryz.func146,Tryz.ntmps146;go_wp21;refine HC.out.mono ?_;rintro e w' ⟨rfl,rfl⟩;go_wp21;go_ret;exact⟨rfl,rfl⟩
theorem zk7 (n:Nat) (hl:(zD n).length<=17) (w:zA) (_:Wd w):
 qJ 189 #[St (zD n)] w (.tuple #[I n,.bool true]):=by
 have hc:=znc (n:Int) (by rw[Str.zad];omega) w;rw[Str.zad] at hc;have hsz:¬(17:Int)<(⟨(zD n).toArray⟩:ByteArray).size:=by
  have:(⟨(zD n).toArray⟩:ByteArray).size=(zD n).length:=by show(zD n).toArray.size=_;simp
  omega
 show zC _ _ #[.string ⟨(zD n).toArray⟩] _ _;generalize (⟨(zD n).toArray⟩:ByteArray)=u at*
 have HC:=hid hc;clear hc hl;go_enter Tryz.func189,Tryz.ntmps189;go_wp21;refine zzM HC.out λw1 hb=>?_;go_wp21
 (refine wp_region_quiet_lit (by kernel_rfl) (by kernel_rfl) (WQ.out ?_);(repeat(first|(apply WQ.read (by rfl);(focus(rintro W ⟨n,rfl⟩;go_simp;try with_reducible rfl));try simp only[zzQ])|(apply WQ.skip (by rfl);try simp only[zzQ])));refine WQ.nil ?_;rintro _ ⟨nq,rfl⟩)
 go_wp21;go_ret2;exact⟨rfl,zao hb nq⟩
structure PairS (w:zA) (u v:List UInt8) (pb:Nat) (W:zA):Prop where
 bel:qL w W
 lt:pb<W.heap.size
 hp:W.heap[pb]? =some (.cells #[St u,St v] 123 (0,0))
theorem PairS.next {w:zA} {u v:List UInt8} {pb:Nat} {W W':zA} (h:PairS w u v pb W) (hb:qL W W'):PairS w u v pb W':=
 ⟨h.bel.trans (hb.mono h.bel.size),zS h.lt hb.size,(hb.block _ h.lt).trans h.hp⟩
theorem PairS.c0 {w:zA} {u v:List UInt8} {pb:Nat} {W:zA} (h:PairS w u v pb W):W.cell? ⟨pb,0,none⟩=some (St u):=by rw[zJ h.hp];rfl
theorem PairS.c1 {w:zA} {u v:List UInt8} {pb:Nat} {W:zA} (h:PairS w u v pb W):W.cell? ⟨pb,1,none⟩=some (St v):=by rw[zJ h.hp];rfl
theorem zji (p1 p2:Option Addr) (cap1 cap2 n1 n2:Nat) (q1 q2:Nat->Rat) (h1:n1<=100) (h2:n2<=100)
 (C:Hid (∀k,k<n1->qK 45 #[St (numS (q1 k))] (.int .i64 0)))
 (O:Hid (∀k,k<n1->qK 77 #[St (numS (q1 k))] (.agg #[St (zE (q1 k).num),St (zD (q1 k).den)])))
 (Z:Hid (∀k,k<n1->digs (q1 k).num<=90/\(zD (q1 k).den).length<=90))
 (N:Hid (∀k,k<n2->∀W:zA,zC zF 146 #[St (numS (q2 k))] W λe w'=>e=.returned (.bool false)/\w'=W))
 (w:zA) (HW:Hid (Wd w)) (HP1:Hid (RowNums p1 n1 q1 w)) (HP2:Hid (RowNums p2 n2 q2 w)):
 qJ 75 #[.slice p1 n1 cap1,.slice p2 n2 cap2] w (.int .i64 0):=by
 go_enter Tryz.func75,Tryz.ntmps75;go_wp21;go_loopw [13] (λi wr=>∃(k:Nat),k<=n1/\i=.int .i64 (k:Int)/\Hid (qL w wr))
  (λi _=>n1-(zL i).toNat)
 case atStart=>exact⟨0,zR _,rfl,zM _ _⟩
 case round=>
  obtain⟨k,hk,rfl,hB⟩:=hrel;by_cases hlt:k<n1
  ·obtain⟨b,off,rfl,c0⟩:=(HP1.out.keep (zac (hB.out.mono (zN _)))) k hlt
   have HC:=hid (C.out k hlt);have HO:=hid (O.out k hlt);obtain⟨z1,z2⟩:=Z.out k hlt;obtain⟨t,ht⟩:=zzX (⟨(trimPrefix (⟨(zE (q1 k).num).toArray⟩:ByteArray).data.toList (⟨#[45]⟩:ByteArray).data.toList).toArray⟩:ByteArray);have hts:t.size<=90:=by
    rw[ht];show(trimPrefix (zE (q1 k).num) [45]).toArray.size<=90;rw[zbi];simpa [digs] using z1
   have hvs:(⟨(zD (q1 k).den).toArray⟩:ByteArray).size<=90:=by show(zD (q1 k).den).toArray.size<=90;simpa using z2
   have hmx:max (t.size:Int) ((zD (q1 k).den).length:Int)<=90:=by omega
   have HT0:=hid ht;clear ht z1 z2;generalize numS (q1 k)=x at*
   generalize zE (q1 k).num=u at*
   generalize zD (q1 k).den=v at*
   have HT:Hid (Value.string ⟨(trimPrefix (⟨u.toArray⟩:ByteArray).data.toList (⟨#[45]⟩:ByteArray).data.toList).toArray⟩=.string t):=hid (by rw[HT0.out]);clear HT0;go_wp21;refine zzM (HC.out wr (HW.out.below hB.out)) λw2 hb2=>?_;have hB2:=hid (hB.out.trans (hb2.mono hB.out.size));clear hb2;go_wp21;refine zzM (HO.out w2 (HW.out.below hB2.out)) λw3 hb3=>?_;have hB3:=hid (hB2.out.trans (hb3.mono hB2.out.size));clear hb3 hB2 hB;go_wp21;obtain⟨w4,hw4⟩:=zzX (w3.alloc (.cells #[St u,St v] 123));rw[<-hw4];obtain⟨pb,hpb⟩:=zzX w3.heap.size;have HP5:Hid (PairS w u v pb w4):=by
    have ha:qL w3 w4:=by rw[hw4];exact(zM _ w3).alloc (zN _) _
    exact hid ⟨hB3.out.trans (ha.mono hB3.out.size),by rw[hw4,hpb];simp,by rw[hw4,hpb];exact zG w3 _⟩
   rw[<-hpb];clear hw4 hB3 hpb;refine zbl (λ_ W=>PairS w u v pb W) (by kernel_rfl) (by kernel_rfl) (by have h:=HP5.out;exact h.next (zM _ _).drew) ?_;refine qR (.pointer (some ⟨pb,0,none⟩)) ?_;refine qR (St u) ?_ (hy:=λf W' hf h=>by have h0:=h.c0;go_simp);simp only[zzQ]
   refine zar (.string t) (by rfl) (λf W' hf h C' hC'=>by
    go_simp;refine zzM (Tryz.strings_TrimPrefix _ _ _) λw' hw1=>?_;have hw2:=hw1.symm;subst hw2;refine⟨?_,hC' _ h⟩;rw[HT.out]) ?_
   refine qR (.int .i64 t.size) ?_;refine qR (.pointer (some ⟨pb,1,none⟩)) ?_;simp only[zzQ];refine qR (St v) ?_ (hy:=λf W' hf h=>by have h0:=h.c1;go_simp);refine qR (.int .i64 (⟨v.toArray⟩:ByteArray).size) ?_;refine qR (.int .i64 (max (t.size:Int) ((⟨v.toArray⟩:ByteArray).size:Int))) ?_;simp only[zzQ];refine qR (.bool false) ?_;simp only[zzQ];refine zck λf W4 hf h=>?_;have hB4:=hid h.bel;clear h hf f HP5;go_wp21;go_roundw
   case rel=>exact⟨k+1,by omega,by go_num,hB4⟩
   case measure=>simp[zL];omega
  ·clear hk
   go_wp21;clear HP1 C O Z;go_loopw [36] (λi wr=>∃(k:Nat),k<=n2/\i=.int .i64 (k:Int)/\Hid (qL w wr))
    (λi _=>n2-(zL i).toNat)
   case atStart=>exact⟨0,zR _,rfl,hB⟩
   case round=>
    clear hB;obtain⟨j,hj,rfl,hB⟩:=hrel;by_cases hlt2:j<n2
    ·obtain⟨b,off,rfl,c0⟩:=(HP2.out.keep (zac (hB.out.mono (zN _)))) j hlt2
     have HN:=hid (N.out j hlt2);generalize numS (q2 j)=x at*
     go_wp21;refine zzM (HN.out _) λw2 hw1=>?_;have hw2:=hw1.symm;subst hw2;clear hw1;go_wp21;go_roundw
     case rel=>exact⟨j+1,by omega,by go_num,hB⟩
     case measure=>simp[zL];omega
    ·go_wp21
     go_ret;exact⟨rfl,hB.out⟩
def prL:List Nat:=[2,3,5,7,11,13,17,19,23,29,31,37,41,43,47,53,59,61,67,71,73,79,83,89,97]
def prN (i:Nat):Nat:=prL.getD i 0
def prS (i:Nat):List UInt8:=([[50],[51],[53],[55],[49,49],[49,51],[49,55],[49,57],[50,51],[50,57],[51,49],[51,55],[52,49],[52,51],[52,55],[53,51],[53,57],[54,49],[54,55],[55,49],[55,51],[55,57],[56,51],[56,57],[57,55]]:List (List UInt8)).getD i []
def prV:Array Value:= #[.string ⟨#[50]⟩,.string ⟨#[51]⟩,.string ⟨#[53]⟩,.string ⟨#[55]⟩,.string ⟨#[49,49]⟩,.string ⟨#[49,51]⟩,.string ⟨#[49,55]⟩,.string ⟨#[49,57]⟩,.string ⟨#[50,51]⟩,.string ⟨#[50,57]⟩,.string ⟨#[51,49]⟩,.string ⟨#[51,55]⟩,.string ⟨#[52,49]⟩,.string ⟨#[52,51]⟩,.string ⟨#[52,55]⟩,.string ⟨#[53,51]⟩,.string ⟨#[53,57]⟩,.string ⟨#[54,49]⟩,.string ⟨#[54,55]⟩,.string ⟨#[55,49]⟩,.string ⟨#[55,51]⟩,.string ⟨#[55,57]⟩,.string ⟨#[56,51]⟩,.string ⟨#[56,57]⟩,.string ⟨#[57,55]⟩]
theorem z1r:∀i,i<25->prS i=zD (prN i)
 |0,_=>by show[50]=zD 2;rw[zae (by omega)];rfl
 |1,_=>by show[51]=zD 3;rw[zae (by omega)];rfl
 |2,_=>by show[53]=zD 5;rw[zae (by omega)];rfl
 |3,_=>by show[55]=zD 7;rw[zae (by omega)];rfl
 |4,_=>by show[49,49]=zD 11;rw[zav (by omega),zae (by omega)];rfl
 |5,_=>by show[49,51]=zD 13;rw[zav (by omega),zae (by omega)];rfl
 |6,_=>by show[49,55]=zD 17;rw[zav (by omega),zae (by omega)];rfl
 |7,_=>by show[49,57]=zD 19;rw[zav (by omega),zae (by omega)];rfl
 |8,_=>by show[50,51]=zD 23;rw[zav (by omega),zae (by omega)];rfl
 |9,_=>by show[50,57]=zD 29;rw[zav (by omega),zae (by omega)];rfl
 |10,_=>by show[51,49]=zD 31;rw[zav (by omega),zae (by omega)];rfl
 |11,_=>by show[51,55]=zD 37;rw[zav (by omega),zae (by omega)];rfl
 |12,_=>by show[52,49]=zD 41;rw[zav (by omega),zae (by omega)];rfl
 |13,_=>by show[52,51]=zD 43;rw[zav (by omega),zae (by omega)];rfl
 |14,_=>by show[52,55]=zD 47;rw[zav (by omega),zae (by omega)];rfl
 |15,_=>by show[53,51]=zD 53;rw[zav (by omega),zae (by omega)];rfl
 |16,_=>by show[53,57]=zD 59;rw[zav (by omega),zae (by omega)];rfl
 |17,_=>by show[54,49]=zD 61;rw[zav (by omega),zae (by omega)];rfl
 |18,_=>by show[54,55]=zD 67;rw[zav (by omega),zae (by omega)];rfl
 |19,_=>by show[55,49]=zD 71;rw[zav (by omega),zae (by omega)];rfl
 |20,_=>by show[55,51]=zD 73;rw[zav (by omega),zae (by omega)];rfl
 |21,_=>by show[55,57]=zD 79;rw[zav (by omega),zae (by omega)];rfl
 |22,_=>by show[56,51]=zD 83;rw[zav (by omega),zae (by omega)];rfl
 |23,_=>by show[56,57]=zD 89;rw[zav (by omega),zae (by omega)];rfl
 |24,_=>by show[57,55]=zD 97;rw[zav (by omega),zae (by omega)];rfl
 |n+25,h=>absurd h (by omega)
theorem zw4:∀i,i<25->2<=prN i/\prN i<=97:=by decide
theorem z25 (i:Nat) (hi:i<25) (w:zA):(Instr.index 278 (.agg prV) (.int .i64 (i:Int))).run zF w=.ok (St (prS i)) w:=
 match i,hi with
 |0,_=>by kernel_rfl
 |1,_=>by kernel_rfl
 |2,_=>by kernel_rfl
 |3,_=>by kernel_rfl
 |4,_=>by kernel_rfl
 |5,_=>by kernel_rfl
 |6,_=>by kernel_rfl
 |7,_=>by kernel_rfl
 |8,_=>by kernel_rfl
 |9,_=>by kernel_rfl
 |10,_=>by kernel_rfl
 |11,_=>by kernel_rfl
 |12,_=>by kernel_rfl
 |13,_=>by kernel_rfl
 |14,_=>by kernel_rfl
 |15,_=>by kernel_rfl
 |16,_=>by kernel_rfl
 |17,_=>by kernel_rfl
 |18,_=>by kernel_rfl
 |19,_=>by kernel_rfl
 |20,_=>by kernel_rfl
 |21,_=>by kernel_rfl
 |22,_=>by kernel_rfl
 |23,_=>by kernel_rfl
 |24,_=>by kernel_rfl
 |n+25,h=>absurd h (by omega)
structure Pw (w:zA):Prop where
 prim:w.var? zF "kingpost/root.primes" =some prV
theorem Pw.below {w w':zA} (h:Pw w) (hb:qL w w'):Pw w':=by
 have hg:Tryz.prog.globalNamed "kingpost/root.primes" =some 1:=by kernel_rfl
 exact⟨var?_below hb hg (zv5 hg h.prim) h.prim⟩
theorem Pw.block {w:zA} (h:Pw w):∃t fz,w.heap[1]? =some (.cells prV t fz):=by
 have hg:Tryz.prog.globalNamed "kingpost/root.primes" =some 1:=by kernel_rfl
 have hv:=h.prim;unfold World.var? at hv;rw[hg] at hv;simp only[Option.bind_some] at hv
 cases hb:w.heap[(1:Nat)]? with
 |none=>rw[hb] at hv;cases hv
 |some x=>
  rw[hb] at hv
  cases x with
  |cells cs t fz=>simp at hv;subst hv;exact⟨t,fz,rfl⟩
  |_=>cases hv
theorem z1s {c l p:Nat} (hp:p*p∣l):(c*p)*(c*p)*(l/(p*p))=c*c*l:=by
 obtain⟨k,rfl⟩:=hp;by_cases h:p*p=0
 ·rw[h];simp
 ·rw[Nat.mul_div_cancel_left _ (by omega)]
  simp only[Nat.mul_left_comm,yP]
end
section
open Go.RowKit Go.Shelf Lib Str Limb
open Go.ChangeShapes Go.WideShapes Go.ChangeAt
theorem zf9 {H:Type} {enc:TypeId×Value->H} {a:Assume} {C:Checked} {os:Os} {f:FuncId} {fn:Func} {s:ChangeSpec} {conds:List PathCond} {apart fresh handsOn again:Bool} {X:zA->Array Value->Prop}
 (hX:∀(w w':zA) (args:Array Value),w.heap=w'.heap->X w args->X w' args)
 (own:ownKnob C.prog.godebug=none) (started:os.Started) (noInit:C.prog.inits.idxOf? f=none) (hfn:C.prog.funcs[f]? =some fn)
 (witness:∃(w:zA) (tape:Tape) (i:Input),w.os=os/\(w.forCall tape i).Shaped C.prog/\i.vars=[]/\Input.okWide C.prog (w.forCall tape i) .any w.heap.size f i/\
   ((s.pre enc C.prog fn conds apart (w.forCall tape i).memory i.args/\X (w.forCall tape i).memory i.args)/\sizedMet enc C.prog fn (OpenSpec.ofChange s) apart (w.forCall tape i).memory i.args)/\a.holds C.prog (lone (Frame.enter C.prog f i.args .normal) [] (w.forCall tape i)))
 (contract:∀(W:zA) (args:Array Value) (ds gs:List (DataW H)) (before:List MemPlace) (base:Nat),
   (∀(j:Nat) t v,fn.params[j]? =some t->args[j]? =some v->Value.okWide C.prog W .any base t v)->
   DataW.Whole enc C.prog fn.params.toList s.vars apart W args.toList ds gs before->X W args->W.ShapedOpen C.prog->
   zC C.prog f args W λe W'=>∃v,e=.returned v/\s.post enc C.prog fn apart fresh handsOn again W args v W'):
 ReturnsInHanded a C os f .any (λw args=>(s.pre enc C.prog fn conds apart w args/\X w args)/\sizedMet enc C.prog fn (OpenSpec.ofChange s) apart w args) (s.post enc C.prog fn apart fresh handsOn again):=by
 refine returnsInHanded_of_calls own started noInit witness ?_;rintro w tape i _ hsh _ ⟨_,_,_,fn',hfn',_,_,_,_,hval⟩ ⟨⟨⟨ds,gs,before,hw,_⟩,hx⟩,_⟩ _;obtain rfl:fn'=fn:=Option.some.inj (hfn'.symm.trans hfn);refine(contract (w.forCall tape i) i.args ds gs before w.heap.size hval (DataW.Whole.of_heap (w':=w.forCall tape i) (by rfl) hw) (hX _ _ _ (by rfl) hx) hsh).mono ?_;rintro e W' ⟨v,rfl,hp⟩;exact ChangeSpec.post_blind hp
theorem zp7 {H:Type} {enc:TypeId×Value->H} {P:Program} {w:zA} {base:Nat} {sp:Nat->Bool} {held:Bool} {fuel:Nat} {t e:TypeId} {n:Nat} {cs:List Value} {ss:List (List UInt8)} {p:List MemPlace}
 (ht:P.underlying t=some (.array n e)) (he:P.underlying e=some .string) (hce:P.cellsOf e=1) (hct:P.cellsOf t=n) (hsl:ss.length=n)
 (h:DataW.trod enc P w base sp held fuel t cs=some (.agg (ss.map λs=>.lit (.string s)),p)):cs=ss.map λs=>Value.string ⟨s.toArray⟩:=by
 have hcl:cs.length=n:=by
  cases fuel with
  |zero=>simp[DataW.trod] at h
  |succ fuel=>
   have h0:=h;simp only[DataW.trod,ht,hce,hct,Nat.mul_one] at h0;split at h0
   ·rename_i hl;exact hl
   ·cases h0
 apply List.ext_getElem?;intro i;by_cases hi:i<n
 ·obtain⟨fu,d,q,hd,htr⟩:=array_elem ht h i hi
  rw[hce] at htr;obtain⟨s,hs,hx,_⟩:=DataW.trod_string he htr;simp only[Prod.mk.injEq] at hx;obtain⟨rfl,_⟩:=hx;have h1:cs[i]? =some (.string s):=by
   have:=congrArg (·[0]?) hs;simpa [List.getElem?_take,List.getElem?_drop] using this
  rw[List.getElem?_map,Option.map_eq_some_iff] at hd;obtain⟨l,hl,e⟩:=hd;simp only[DataW.lit.injEq,Lit.string.injEq] at e;rw[h1,List.getElem?_map,hl,e];rfl
 ·rw[List.getElem?_eq_none (by omega),List.getElem?_eq_none (by simp;omega)]
theorem z0v {l:List (String×DataW Unit)} {W:zA} (hL:laidMet zF l W) (hm:("internal/strconv.uint64pow10",Rows.laid_internal_strconv_uint64pow10)∈l) (hs:W.ShapedOpen zF):Wd W:=by
 obtain⟨g,t,cs,fuel,p,hg,ht,hv,hd⟩:=Lib.laidMet.reads hL hm;obtain rfl:g=5:=Option.some.inj (hg.symm.trans (by kernel_rfl));obtain rfl:t=329:=Option.some.inj (ht.symm.trans (by kernel_rfl));have e:(Rows.laid_internal_strconv_uint64pow10:DataW Unit)=Lib.tabData .u64 Lib.pow10Tab:=by kernel_rfl
 rw[e] at hd;have hc:=Lib.cells_of_tab (n:=20) Tryz.underlying329 Tryz.underlying247 (by kernel_rfl) (by kernel_rfl) hd;refine⟨?_,Proofs.cell_of_shapedOpen_int (t:=3) (zero:= #[.int .i64 0]) hs (of_decide_eq_true (by kernel_rfl)) (by kernel_rfl) rfl (by kernel_rfl) (by kernel_rfl) Tryz.underlying3⟩;unfold Lib.TabIs;rw[hv,<-hc]
theorem zzj:prV.toList=([[50],[51],[53],[55],[49,49],[49,51],[49,55],[49,57],[50,51],[50,57],[51,49],[51,55],[52,49],[52,51],[52,55],[53,51],[53,57],[54,49],[54,55],[55,49],[55,51],[55,57],[56,51],[56,57],[57,55]]:List (List UInt8)).map λs=>Value.string ⟨s.toArray⟩:=by kernel_rfl
theorem z0w {l:List (String×DataW Unit)} {W:zA} (hL:laidMet zF l W) (hm:("kingpost/root.primes",Rows.laid_kingpost_root_primes)∈l):Pw W:=by
 obtain⟨g,t,cs,fuel,p,hg,ht,hv,hd⟩:=Lib.laidMet.reads hL hm;obtain rfl:g=1:=Option.some.inj (hg.symm.trans (by kernel_rfl));obtain rfl:t=278:=Option.some.inj (ht.symm.trans (by kernel_rfl));have e:(Rows.laid_kingpost_root_primes:DataW Unit)=.agg (([[50],[51],[53],[55],[49,49],[49,51],[49,55],[49,57],[50,51],[50,57],[51,49],[51,55],[52,49],[52,51],[52,55],[53,51],[53,57],[54,49],[54,55],[55,49],[55,51],[55,57],[56,51],[56,57],[57,55]]:List (List UInt8)).map λs=>.lit (.string s)):=by kernel_rfl
 rw[e] at hd;have hc:=zp7 (n:=25) Tryz.underlying278 Tryz.underlying9 (by kernel_rfl) (by kernel_rfl) (by decide) hd;obtain rfl:cs=prV:=Array.toList_inj.1 (hc.trans zzj.symm);exact⟨hv⟩
theorem zrj:ownKnob Tryz.prog.godebug=none:=by kernel_rfl
theorem zgh:laidOutB zF=true:=by kernel_rfl
end
section
open Go.RowKit Go.Shelf Lib Str Limb
attribute [local go_sem] Oper.semAt_some
theorem zti (x u v s1 s2:ByteArray) (m d:Int) (hu:(u.toList==[48])=false) (hl:(u.size:Int)+v.size<=17) (hl0:u.size<=17/\v.size<=17)
 (CK:Hid (∀W:zA,Wd W->zC zF 75 #[.slice (some ⟨W.heap.size,0,none⟩) 1 1,.slice (some ⟨W.heap.size+1,0,none⟩) 1 1] ((W.alloc (.cells #[.string x] 30)).alloc (.cells #[.string x] 30)) λe w'=>e=.returned (.int .i64 0)/\zB W.heap.size W w'))
 (O:Hid (qK 77 #[.string x] (.agg #[.string u,.string v])))
 (NU:Hid (qK 189 #[.string u] (.tuple #[.int .i64 m,.bool true])))
 (NV:Hid (qK 189 #[.string v] (.tuple #[.int .i64 d,.bool true])))
 (NN:Hid (∀W:zA,Wd W->Pw W->qJ 190 #[.int .i64 m,.int .i64 d] W (.tuple #[.string s1,.string s2])))
 (w:zA) (HW:Hid (Wd w)) (HP:Hid (Pw w)):
 qJ 113 #[.string x] w (.tuple #[.string s1,.string s2,.int .i64 0]):=by
 have hck:=CK.out w HW.out;have HCK:=hid hck;clear hck CK;have hwl:IntKind.i64.wrap ((u.size:Int)+v.size)=(u.size:Int)+v.size:=zI _ ⟨by omega,by omega⟩;go_enter Tryz.func113,Tryz.ntmps113;go_wp21;refine zzM HCK.out λw1 hb1=>?_;have HB1:=hid hb1;clear hb1 HCK;go_wp21;refine zzM (O.out w1 (HW.out.below HB1.out)) λw2 hb2=>?_;have HB2:=qT HB1 hb2;clear hb2 HB1;obtain⟨w3,hw3⟩:=zzX (w2.alloc (.cells #[.string u,.string v] 123));have ha:qL w2 w3:=by rw[hw3];exact(zM _ w2).alloc (zN _) _
 have A3:w3.heap[w2.heap.size]? =some (.cells #[.string u,.string v] 123 (0,0)):=by rw[hw3];exact zG w2 _
 have HB3:=qT HB2 ha;have c0:w3.cell? ⟨w2.heap.size,0,none⟩=some (.string u):=by rw[zJ A3];rfl
 have c1:w3.cell? ⟨w2.heap.size,1,none⟩=some (.string v):=by rw[zJ A3];rfl
 have C3:=hid (⟨c0,c1⟩:w3.cell? ⟨w2.heap.size,0,none⟩=some (.string u)/\w3.cell? ⟨w2.heap.size,1,none⟩=some (.string v));rw[hw3] at c0 c1;have HW3:=hid hw3;clear hw3 ha A3;go_wp21;rw[<-HW3.out];clear c0 c1;refine zzM (NU.out w3 (HW.out.below HB3.out)) λw4 hb4=>?_;have HB4:=qT HB3 hb4;have c0:=(zac hb4).cell C3.out.1;have c1:=(zac hb4).cell C3.out.2;clear hb4 HW3;go_wp21;refine zzM (NV.out w4 (HW.out.below HB4.out)) λw5 hb5=>?_;have HB5:=qT HB4 hb5;clear hb5 c0 c1;go_wp21;refine zzM (NN.out w5 (HW.out.below HB5.out) (HP.out.below HB5.out)) λw6 hb6=>?_;have HB6:=qT HB5 hb6;clear hb6;go_wp21;go_ret3;exact⟨rfl,HB6.out⟩
theorem zc5 (n:Nat):numS ((n:Int):Rat)=zD n:=by rw[zha,Str.zad]
theorem zki {n k:Nat} (hk:0<k) (h:n<10^k):(zD n).length<=k:=(zaf n k hk).2 h
theorem z0b (W:zA) (t:TypeId) (x:List UInt8) (q:Rat) (hx:numS q=x):
 RowNums (some ⟨W.heap.size,0,none⟩) 1 (λ_=>q) ((W.alloc (.cells #[St x] t)).alloc (.cells #[St x] t))/\
 RowNums (some ⟨W.heap.size+1,0,none⟩) 1 (λ_=>q) ((W.alloc (.cells #[St x] t)).alloc (.cells #[St x] t)):=by
 have b1:=(Boxed.new W t (St x)).alloc (.cells #[St x] t);have b2:=Boxed.new (W.alloc (.cells #[St x] t)) t (St x);rw[zH] at b2;constructor
 ·intro i hi
  obtain rfl:i=0:=by omega
  exact⟨_,_,rfl,by rw[hx];exact b1.cell⟩
 ·intro i hi
  obtain rfl:i=0:=by omega
  exact⟨_,_,rfl,by rw[hx];exact b2.cell⟩
end
section
theorem ztp {n s x:Nat} (hx:0<x) (hs:s*s<=n) (hsx:s<=x):s<=(x+n/x)/2:=by
 obtain⟨d,rfl⟩:∃d,x=s+d:=⟨x-s,by omega⟩;rw[Nat.le_div_iff_mul_le (by omega)];by_cases h:d<=s
 ·obtain⟨e,rfl⟩:∃e,s=d+e:=⟨s-d,by omega⟩
  have h1:e<=n/(d+e+d):=by
   rw[Nat.le_div_iff_mul_le hx];refine zO ?_ hs;have:(d+e)*(d+e)=e*(d+e+d)+d*d:=by
    simp only[Nat.mul_add,Nat.add_mul,yP d e];omega
   omega
  generalize n/(d+e+d)=q at*
  omega
 ·generalize n/(s+d)=q
  omega
theorem zrf {n x:Nat} (hx:0<x) (h:x<=(x+n/x)/2):x*x<=n:=by
 have h2:x<=n/x:=by
  generalize n/x=q at*
  omega
 exact(Nat.le_div_iff_mul_le hx).1 h2
end
section
open Go.RowKit Go.Shelf Lib Str Limb
attribute [local go_sem] Oper.semAt_some
theorem w64 {z:Int} (h: -9223372036854775808<=z/\z<=9223372036854775807):wrap64 z=z:=by unfold wrap64;omega
theorem znv {n x q:Nat} (hn:n<1000000000000000000) (hx:1<=x) (hx2:x<=n) (hq:n/x=q):wrap64 ((n:Int)/(x:Int))=(q:Int)/\IntKind.i64.wrap ((x:Int)+(q:Int))=(x:Int)+(q:Int)/\
 wrap64 (((x:Int)+(q:Int))/2)=(((x+q)/2:Nat):Int)/\IntKind.i64.wrap ((x:Int)*2)=((x*2:Nat):Int)/\IntKind.i64.wrap ((n:Int).tdiv (x:Int))=(q:Int)/\IntKind.i64.wrap (((x:Int)+(q:Int)).tdiv 2)=(((x+q)/2:Nat):Int):=by
 have hqn:q<=n:=by rw[<-hq];exact Nat.div_le_self _ _
 have e1:(n:Int)/(x:Int)=(q:Int):=by rw[<-hq];exact(Int.natCast_ediv n x).symm
 have e2:((x:Int)+(q:Int))/2=(((x+q)/2:Nat):Int):=by omega
 have e3:(n:Int).tdiv (x:Int)=(q:Int):=by rw[Int.tdiv_eq_ediv_of_nonneg (by omega)];exact e1
 have e4:((x:Int)+(q:Int)).tdiv 2=(((x+q)/2:Nat):Int):=by rw[Int.tdiv_eq_ediv_of_nonneg (by omega)];exact e2
 refine⟨by rw[e1];exact w64 ⟨by omega,by omega⟩,zI _ ⟨by omega,by omega⟩,by rw[e2];exact w64 ⟨by omega,by omega⟩,?_,by rw[e3];exact zI _ ⟨by omega,by omega⟩,by rw[e4];exact zI _ ⟨by omega,by omega⟩⟩;rw[zI _ ⟨by omega,by omega⟩];omega
theorem zd3 (t:ByteArray) (n s:Nat) (h0:1<=n) (HN:Hid (n<1000000000000000000)) (HS:Hid (s*s<=n/\n<(s+1)*(s+1)))
 (AT:Hid (∀W:zA,qJ 181 #[.string t] W (.tuple #[.int .i64 (n:Int),.nilIface])))
 (IT:Hid (qK 104 #[.int .i64 (s:Int)] (.string ⟨(zD s).toArray⟩))) (w:zA) (HW:Hid (Wd w)):
 qJ 153 #[.string t] w (.tuple #[St (zD s),.int .i64 0]):=by
 go_enter Tryz.func153,Tryz.ntmps153;go_wp2_with fail;refine zzM (AT.out w) λw1 hb1=>?_;have HB1:=hid hb1;clear hb1 AT;go_wp2_with fail;go_loopw [6] (λi wr=>∃(x:Nat),1<=x/\x<=n/\i=.int .i64 (x:Int)/\Hid (wr=w1))
  (λi _=>n-(zL i).toNat)
 case atStart=>exact⟨1,zN _,h0,rfl,hid rfl⟩
 case round=>
  obtain⟨x,hx,hxn,rfl,hE⟩:=hrel;obtain rfl:=hE.out.symm;clear hE;have hx0:¬x=0:=by omega
  have HQ:=hid (show ∀q,n/x=q->(x<q->x*2<=n)/\(¬x<q->s<=x) from λq hq=>by
   subst hq;refine⟨λh=>?_,λh=>?_⟩
   ·have h1:x+1<=n/x:=h
    have h2:=(Nat.le_div_iff_mul_le (by omega)).1 h1;have h3:x*2<=(x+1)*x:=by
     rw[yP x 2];exact Nat.mul_le_mul (by omega) (zN _)
    omega
   ·by_cases c:s<=x
    ·exact c
    ·exfalso
     have h1:n/x<x+1:=by omega
     rw[Nat.div_lt_iff_lt_mul (by omega)] at h1;have h2:(x+1)*(x+1)<=s*s:=Nat.mul_le_mul (by omega) (by omega);have h3:(x+1)*x<=(x+1)*(x+1):=Nat.mul_le_mul (zN _) (by omega);have:=HS.out.1;omega)
  obtain⟨q,hq⟩:∃q,n/x=q:=⟨_,rfl⟩;have HQ2:=hid (HQ.out q hq);obtain⟨f1,f2,f3,f4,f5,f6⟩:=znv HN.out hx hxn hq;have HQQ:=hid hq;clear f2 f3 f6 hq HQ;by_cases hlt:x<q
  ·have hltI:(x:Int)<(q:Int):=by omega
   have hn2:=HQ2.out.1 hlt;clear hlt HQ2;go_wp2_with fail;go_roundw
   case rel=>exact⟨x*2,by omega,hn2,by rfl,hid trivial⟩
   case measure=>simp[zL];omega
  ·have hltI:¬(x:Int)<(q:Int):=by omega
   have hsx:=HQ2.out.2 hlt;clear hlt HQ2;go_wp2_with fail;clear f1 f4 f5 hx0 hltI HQQ;go_loopw [6] (λi wr=>∃(x:Nat),1<=x/\x<=n/\s<=x/\i=.int .i64 (x:Int)/\Hid (qL w wr))
    (λi _=>(zL i).toNat)
   case atStart=>exact⟨x,hx,hxn,hsx,rfl,HB1⟩
   case round=>
    clear hx hxn hsx;obtain⟨x,hx,hxn,hsx,rfl,hB⟩:=hrel;have hx0:¬x=0:=by omega
    obtain⟨q,hq⟩:∃q,n/x=q:=⟨_,rfl⟩;obtain⟨f1,f2,f3,f4,f5,f6⟩:=znv HN.out hx hxn hq;have g1:=ztp (by omega) HS.out.1 hsx;have g2:=zrf (n:=n) (x:=x) (by omega);rw[hq] at g1 g2;have g3:(x+q)/2≥x->x=s:=λh=>by
     have h1:=g2 h;by_cases c:x<=s
     ·omega
     ·have:=Nat.mul_le_mul (show s+1<=x by omega) (show s+1<=x by omega)
      have:=HS.out.2;omega
    have G:=hid (⟨g1,g3⟩:_/\_);clear g1 g2 g3 hq;generalize (x+q)/2=y at*
    by_cases hge:x<=y
    ·have hgeI:(x:Int)<=(y:Int):=by omega
     have hxs:=G.out.2 hge;subst hxs;have HI:=hid (IT.out wr (HW.out.below hB.out));clear hge G;go_wp2_with fail;refine zzM HI.out λw3 hb3=>?_;have HB3:=hid (hB.out.trans (hb3.mono hB.out.size));clear hb3 HI;go_wp2_with fail;go_ret2;exact⟨rfl,HB3.out⟩
    ·have hgeI:¬(x:Int)<=(y:Int):=by omega
     have hsy:=G.out.1;have hy1:1<=y:=by
      by_cases c:s=0
      ·have:=HS.out.2
       rw[c] at this;omega
      ·omega
     have hyx:y<x:=by omega
     clear hge G;go_wp2_with fail;go_roundw
     case rel=>exact⟨y,hy1,by omega,hsy,by rfl,hB⟩
     case measure=>simp[zL];omega
theorem zyc (n s L K X:Nat) (hK:(L+1)/2=K) (hL:L<=62) (HXK:Hid (X=2^K)) (h2:2<=n) (HN:Hid (n<1000000000000000000)) (HS:Hid (s*s<=n/\n<(s+1)*(s+1))) (HX:Hid (1<=X/\s<=X/\X<=n/\X<=4294967296))
 (BL:Hid (∀W:zA,zC zF 119 #[.int .u64 (n:Int)] W λe w'=>e=.returned (.int .i64 (L:Int))/\w'=W))
 (w:zA):
 zC zF 224 #[.int .i64 (n:Int)] w λe w'=>e=.returned (.int .i64 (s:Int))/\w'=w:=by
 have h2I:¬(n:Int)<2:=by omega
 have hu:IntKind.u64.wrap (n:Int)=(n:Int):=by have:=HN.out;unfold IntKind.wrap;simp[IntKind.signed,IntKind.bits];omega
 have hl1:wrap64 ((L:Int)+1)=(L:Int)+1:=by unfold wrap64;omega
 have hl2:wrap64 (((L:Int)+1).tdiv 2)=(K:Int):=by rw[Int.tdiv_eq_ediv_of_nonneg (by omega)];unfold wrap64;omega
 have hl3:wrap64 (((L:Int)+1)/2)=(K:Int):=by unfold wrap64;omega
 go_enter Tryz.func224,Tryz.ntmps224;go_wp21;refine(BL.out w).mono ?_;rintro e w1 ⟨rfl,rfl⟩;go_wp21;have hB0:w1=w1:=rfl;clear hu hl1 hl2 hl3 BL h2I hB0;go_loopw [3] (λi wr=>∃(x:Nat),1<=x/\s<=x/\x<=n/\i=.int .i64 (x:Int)/\Hid (wr=w1))
  (λi _=>(zL i).toNat)
 case atStart=>
  obtain⟨x1,x2,x3,x4⟩:=HX.out;refine⟨X,x1,x2,x3,?_,hid rfl⟩;have e:((X:Nat):Int)=2^K:=by rw[HXK.out];simp
  rw[hK,<-e];congr 1;exact w64 ⟨by omega,by omega⟩
 case round=>
  obtain⟨x,hx,hsx,hxn,rfl,hE⟩:=hrel;obtain rfl:=hE.out.symm;clear hE;have hx0:¬x=0:=by omega
  obtain⟨q,hq⟩:∃q,n/x=q:=⟨_,rfl⟩;obtain⟨f1,f2,f3,f4,f5,f6⟩:=znv HN.out hx hxn hq;have g1:=ztp (by omega) HS.out.1 hsx;have g2:=zrf (n:=n) (x:=x) (by omega);rw[hq] at g1 g2;have g3:(x+q)/2≥x->x=s:=λh=>by
   have h1:=g2 h;by_cases c:x<=s
   ·omega
   ·have:=Nat.mul_le_mul (show s+1<=x by omega) (show s+1<=x by omega)
    have:=HS.out.2;omega
  have G:=hid (⟨g1,g3⟩:_/\_);clear g1 g2 g3 hq;generalize (x+q)/2=y at*
  by_cases hge:x<=y
  ·have hgeI:(x:Int)<=(y:Int):=by omega
   have hxs:=G.out.2 hge;subst hxs;clear hge G;go_wp21;go_ret;exact⟨rfl,rfl⟩
  ·have hgeI:¬(x:Int)<=(y:Int):=by omega
   have hsy:=G.out.1;have hy1:1<=y:=by
    by_cases c:s=0
    ·have:=HS.out.2
     rw[c] at this;omega
    ·omega
   have hyx:y<x:=by omega
   clear hge G;go_wp21;go_roundw
   case rel=>exact⟨y,hy1,hsy,by omega,by rfl,hid trivial⟩
   case measure=>simp[zL];omega
theorem zsi:∀(f x:Nat),0<x->x<2^f->2^(bitLenAux f x-1)<=x/\x<2^bitLenAux f x/\1<=bitLenAux f x
 |0,x,h,k=>by simp at k;omega
 |f+1,x,h,k=>by
  unfold bitLenAux;rw[if_neg (by omega)];by_cases c:x=1
  ·subst c
   cases f with
   |zero=>simp[bitLenAux]
   |succ f=>simp[bitLenAux]
  ·have h2:0<x/2:=by omega
   obtain⟨i1,i2,i3⟩:=zsi f (x/2) h2 (by rw[yO] at k;omega);generalize bitLenAux f (x/2)=L at*
   refine⟨?_,?_,by omega⟩
   ·obtain⟨m,rfl⟩:∃m,L=m+1:=⟨L-1,by omega⟩
    rw[show 1+(m+1)-1=m+1 by omega,yO];rw[show m+1-1=m by omega] at i1;omega
   ·rw[Nat.add_comm,yO];omega
theorem ztm (n s:Nat) (hn:n<1000000000000000000) (hs:s*s<=n/\n<(s+1)*(s+1)) (w:zA):
 zC zF 224 #[.int .i64 (n:Int)] w λe w'=>e=.returned (.int .i64 (s:Int))/\w'=w:=by
 by_cases h2:2<=n
 ·obtain⟨b1,b2,b3⟩:=zsi 64 n (by omega) (by omega)
  have hbl:=λW=>Tryz.bits_Len (n:Int) W (by omega) (by omega);rw[Int.toNat_natCast] at hbl;change ∀W:zA,zC zF 119 #[.int .u64 (n:Int)] W λe w'=>e=.returned (.int .i64 ((bitLenAux 64 n:Nat):Int))/\w'=W at hbl;generalize bitLenAux 64 n=L at*
  have hL62:L<=62:=by
   by_cases c:L<=62
   ·exact c
   ·have:2^62<=2^(L-1):=yF (by omega) (by omega)
    omega
  have hL2:2<=L:=by
   by_cases c:2<=L
   ·exact c
   ·have:L=1:=by omega
    subst this;omega
  refine zyc n s L ((L+1)/2) (2^((L+1)/2)) rfl hL62 (hid rfl) h2 (hid hn) (hid hs) (hid ⟨Nat.pos_of_ne_zero (by simp),?_,?_,?_⟩) (hid hbl) w
  ·by_cases c:s<=2^((L+1)/2)
   ·exact c
   ·exfalso
    have h1:=Nat.mul_le_mul (show 2^((L+1)/2)<=s by omega) (show 2^((L+1)/2)<=s by omega);rw[<-Nat.pow_add] at h1;have:2^L<=2^((L+1)/2+(L+1)/2):=yF (by omega) (by omega);omega
  ·exact zO (yF (by omega) (by omega)) b1
  ·have:2^((L+1)/2)<=2^32:=yF (by omega) (by omega)
   omega
 ·have hlt:(n:Int)<2:=by omega
  have hns:n=s:=by
   by_cases c:n=0
   ·subst c
    by_cases d:s=0
    ·omega
    ·have:=Nat.mul_pos (show 0<s by omega) (show 0<s by omega);omega
   ·have h1:n=1:=by omega
    subst h1;by_cases d:s=1
    ·omega
    ·by_cases d0:s=0
     ·subst d0;omega
     ·have:=Nat.mul_le_mul (show 2<=s by omega) (show 2<=s by omega);omega
  subst hns;clear hs hn h2;go_enter Tryz.func224,Tryz.ntmps224;go_wp21;go_ret;exact⟨rfl,rfl⟩
end
end Go.Proofs.YtnjiiafnneillaaGreatDoor
