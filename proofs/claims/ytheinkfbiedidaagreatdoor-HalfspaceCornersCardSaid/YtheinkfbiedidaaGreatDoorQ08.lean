/- A region that draws its order, with values that the order may decide: what has come up is named by a ghost b (the addresses of new blocks, say), which an operation may turn where nothing listed looks at it. -/
import Derived.Test.YtheinkfbiedidaaGreatDoorQ07
import Derived.Test.YtheinkfbiedidaaGreatDoorRows
import Derived.Lib.SmallJoins
import Derived.ProofKit
import Derived.Lib.LaidU8
import Derived.HandedShaped
import Derived.Lay
import Derived.Shelf.Vars
import Derived.Carry
set_option maxRecDepth 100000
set_option maxHeartbeats 8000000
open Go renaming World → zA, Calls → zC
open Go.RowKit renaming Below → zB, intOf → zL
open Go.Lib renaming decDigits → zD, itoa → zE
open Go.Proofs.Tryz renaming prog → zF
open Go.World renaming alloc_heap_new → zG, size_alloc → zH
open Go.IntWalk renaming i64_in → zI
open Go.Joins renaming cell_of_block → zJ
open Go.RowKit.Below renaming refl → zM
open Nat renaming le_refl → zN, le_trans → zO, zero_le → zR, pow_le_pow_right → yF, pow_succ → yO, mul_comm → yP, pos_of_ne_zero → yS
namespace Go.Proofs.YtheinkfbiedidaaGreatDoor
section
open Go
variable {P:Program} {ops:Array Oper} {β:Type}
def zfp (P:Program) (C:Value->zA->Prop):Result Next->Prop
 | .ok (.value u) w'=>C u w'
 | .ok .skip w'=>C undef w'
 | .ok (.enter f args) w'=>zC P f args w' (λe w''=>∃v,e=.returned v/\C v w'')
 |_=>False
theorem zwz {o:Oper} {a:Act} {w:zA} {C:Value->zA->Prop} {K:Act->zA->Prop} {Q:Exit->Act->zA->Prop} (hK:∀v w',C v w'->K (a.put o.dst v) w') (h:zfp P C ((execOp a.eval o).run P w)):o.wp P a w K Q:=by
 unfold Oper.wp;generalize (execOp a.eval o).run P w=r at*
 cases r with
 |ok x w'=>
  cases x<;>simp only[zfp] at h<;>simp only[Oper.upon]
  ·exact hK _ _ h
  ·exact hK _ _ h
  ·exact h.mono λe w'' ⟨v,he,hc⟩=>by subst he;exact hK _ _ hc
 |halt x w'=>simp only[zfp] at h
def zgx (vs:β->Nat->Value) (C:β->Array Bool->zA->Prop) (i:Nat) (L:Array Bool) (b:β) (v:Value) (w':zA):Prop:=
 ∃b',(∀j,L.getD j false=true->vs b' j=vs b j)/\vs b' i=v/\C b' (L.setIfInBounds i true) w'
def zt8 (P:Program) (ops:Array Oper) (vs:β->Nat->Value) (C:β->Array Bool->zA->Prop) (i:Nat) (o:Oper) (a:Act) (b:β):Prop:=
 ∀L w,AcAt ops i L->C b L w->if Region.wanted o (yielded ops a.tmps) then zfp P (zgx vs C i L b) ((execOp a.eval o).run P w) else zgx vs C i L b undef w
theorem ziw (vs vs':Nat->Value) (a:Act) (L:Array Bool) (h:∀j,L.getD j false=true->vs j=vs' j):∀k,zax ops vs a L k=zax ops vs' a L k
 |0=>rfl
 |k+1=>by
  simp only[zax];rw[ziw vs vs' a L h k];split
  ·rename_i hk;rw[h k hk]
  ·rfl
theorem zw0 {Q:Exit->Act->zA->Prop} {C:β->Array Bool->zA->Prop} (hB:(acB ops&&zfd ops)=true) (vs:β->Nat->Value) (a:Act)
 (step:∀b i o,ops[i]? =some o->zt8 P ops vs C i o (zax ops (vs b) a (zbw ops.size i) ops.size) b)
 (hend:∀b L w,(∀i,i<ops.size->L.getD i false=true)->C b L w->Q .normal (zax ops (vs b) a (zbw ops.size ops.size) ops.size) w):
 ∀(fuel:Nat) (L:Array Bool) (w:zA) (b:β),L.size=ops.size->zoe ops L->((List.range ops.size).filter λi=>!L.getD i false).length<=fuel->C b L w->wpAny P .any ops Q fuel L (zax ops (vs b) a L ops.size) w:=by
 obtain⟨hsel,hdist,hlook,hback⟩:=zmq hB;have hq:∀b L w,(∀i,i<ops.size->L.getD i false=true)->C b L w->Q .normal (zax ops (vs b) a L ops.size) w:=by
  intro b L w hall hC;have e:zax ops (vs b) a L ops.size=zax ops (vs b) a (zbw ops.size ops.size) ops.size:=by
   have:∀k,k<=ops.size->zax ops (vs b) a L k=zax ops (vs b) a (zbw ops.size ops.size) k:=by
    intro k
    induction k with
    |zero=>intro _;rfl
    |succ k ih=>
     intro hk;simp only[zax];rw[ih (by omega),hall k (by omega),zd5];simp[show k<ops.size by omega]
   exact this _ (zN _)
  rw[e];exact hend b L w hall hC
 have hready:∀L,L.size=ops.size->Region.ready .any ops L=[]->∀i,i<ops.size->L.getD i false=true:=by
  intro L hsz h0 i
  induction i using Nat.strongRecOn with
  |_ i ih=>
   intro hi
   cases hl:L.getD i false with
   |true=>rfl
   |false=>
    have hm:i∈Region.ready .any ops L:=by
     refine mem_ready.2 ⟨getD_in (by omega) hl,ops[i],by simp[hi],λe he hb=>?_⟩;have hlt:=hback i (ops[i]) (show ops[i]? =some (ops[i]) from Array.getElem?_eq_getElem hi) e he hb;exact ih e.on hlt (Nat.lt_trans hlt hi)
    rw[h0] at hm;cases hm
 intro fuel
 induction fuel with
 |zero=>
  intro L w b hsz hcl hcount hC;have hall:∀i,i<ops.size->L.getD i false=true:=by
   intro i hi
   cases hl:L.getD i false with
   |true=>rfl
   |false=>
    have:i∈(List.range ops.size).filter λi=>!L.getD i false:=List.mem_filter.2 ⟨List.mem_range.2 hi,by rw[hl];rfl⟩;rw[List.length_eq_zero_iff.1 (Nat.le_zero.1 hcount)] at this;cases this
  refine⟨?_,hq b L w hall hC⟩;apply List.eq_nil_iff_forall_not_mem.2;intro i hi;obtain⟨h1,o,ho,_⟩:=mem_ready.1 hi;have:=hall i (Array.getElem?_eq_some_iff.1 ho).1;rw[getD_both h1] at this;cases this
 |succ fuel ih=>
  intro L w b hsz hcl hcount hC;refine⟨λh0=>hq b L w (hready L hsz h0) hC,λi hi=>?_⟩;obtain⟨h1,o,ho,hall⟩:=mem_ready.1 hi;have hin:i<ops.size:=(Array.getElem?_eq_some_iff.1 ho).1;have hLi:=getD_both h1;have hdone:∀j,Region.waitsFor .any ops i j=true->L.getD j false=true:=by
   intro j hw;obtain⟨o',ho',e,he,hb,rfl⟩:=Region.waitsFor_spec hw;have:o'=o:=Option.some.inj (ho'.symm.trans ho);subst this;exact hall e he hb
  have hopen:∀j,Region.waitsFor .any ops j i=true->L.getD j false=false:=by
   intro j hw
   cases hl:L.getD j false with
   |false=>rfl
   |true=>rw[hcl j i hl hw] at hLi;cases hLi
  have hat:AcAt ops i L:=⟨hsz,hLi,hdone,hcl⟩;have hst:=step b i o ho L w hat hC
  have hset:=λb'=>zic (vs b') a L i (by omega) hLi (λj d hne hd hj=>by
   rcases Nat.lt_or_ge j ops.size with hjn|hjn
   ·exact hdist i j d hin hjn (Ne.symm hne) hj hd
   ·simp[zcr,Array.getElem?_eq_none hjn] at hj) ops.size
  simp only[if_pos hin] at hset;have hsame:=zit (ops:=ops) (a:=zax ops (vs b) a L ops.size) (b:=zax ops (vs b) a (zbw ops.size i) ops.size) (o:=o) (λcs b=>Region.noSelect_spec hsel i o cs b ho) (λt ht=>by
   refine zib (vs b) a L _ t ops.size λj hj hd=>?_;rw[zd5];by_cases hji:j=i
   ·subst hji;rw[hLi];simp
   ·have:=hlook i j t hin hj (Ne.symm hji) hd (by simpa [zi8,ho] using ht)
    rcases this with⟨h2,h3⟩|⟨h2,h3⟩
    ·rw[hdone j h3];simp[hj,h2]
    ·rw[hopen j h3];simp;omega)
  have hnext:∀v w',zgx vs C i L b v w'->wpAny P .any ops Q fuel (L.setIfInBounds i true) ((zax ops (vs b) a L ops.size).put o.dst v) w':=by
   rintro v w' ⟨b',hagree,rfl,hC'⟩;have hd:o.dst=zcr ops i:=by simp[zcr,ho]
   rw[hd,ziw (vs b) (vs b') a L (λj hj=>(hagree j hj).symm) ops.size,<-hset b'];refine ih _ w' b' (by simpa using hsz) ?_ ?_ hC'
   ·intro x y hx hw
    rw[zdp L i _ (by omega)] at hx⊢;split
    ·rfl
    ·split at hx
     ·rename_i h;subst h;exact hdone y hw
     ·exact hcl x y hx hw
   ·have e:((List.range ops.size).filter λx=>!(L.setIfInBounds i true).getD x false)=((List.range ops.size).filter λx=>!L.getD x false).filter λx=>decide (x≠i):=by
     rw[List.filter_filter];refine List.filter_congr λx _=>?_;rw[zdp L i x (by omega)];by_cases h:i=x
     ·subst h;simp
     ·simp[h,Ne.symm h]
    rw[e];have:=(List.length_filter_lt_length_iff_exists (l:=(List.range ops.size).filter λx=>!L.getD x false) (p:=λx=>decide (x≠i))).2 ⟨i,List.mem_filter.2 ⟨List.mem_range.2 hin,by rw[hLi];rfl⟩,by simp⟩;omega
  unfold wpOp;simp only[ho];rw[hsame.2];by_cases hw:Region.wanted o (yielded ops (zax ops (vs b) a (zbw ops.size i) ops.size).tmps)=true
  ·rw[if_pos hw] at hst⊢
   rw[<-hsame.1] at hst;exact .inl (zwz hnext hst)
  ·rw[if_neg hw] at hst⊢
   exact hnext _ _ hst
def zhn (vs:β->Nat->Value) (C:β->(Nat->Bool)->zA->Prop) (i:Nat) (f:Nat->Bool) (b:β) (v:Value) (w':zA):Prop:=
 ∃b',(∀j,f j=true->vs b' j=vs b j)/\vs b' i=v/\C b' (λj=>if i=j then true else f j) w'
def zt1 (P:Program) (ops:Array Oper) (vs:β->Nat->Value) (C:β->(Nat->Bool)->zA->Prop) (i:Nat) (o:Oper) (a:Act) (b:β):Prop:=
 ∀f w,AcF ops i f->C b f w->
  if Region.wanted o (yielded ops a.tmps) then zfp P (zhn vs C i f b) ((execOp a.eval o).run P w) else zhn vs C i f b undef w
def AcLB (P:Program) (ops:Array Oper) (vs:β->Nat->Value) (C:β->(Nat->Bool)->zA->Prop) (K:Act->zA->Prop) (b:β):Nat->List Oper->Act->Prop
 |_,[],a=>∀f w,(∀i,i<ops.size->f i=true)->C b f w->K a w
 |k,o::rest,a=>zt1 P ops vs C k o a b/\AcLB P ops vs C K b (k+1) rest (a.put o.dst (vs b k))
section
variable {vs:β->Nat->Value} {C:β->(Nat->Bool)->zA->Prop} {K:Act->zA->Prop} {k:Nat} {o:Oper} {rest:List Oper} {a:Act} {b:β}
theorem ze1 (h:∀f w,(∀i,i<ops.size->f i=true)->C b f w->K a w):AcLB P ops vs C K b k [] a:=h
theorem zag (v:Value) (hv:vs b k=v) (hw:Region.wanted o (yielded ops a.tmps)=true)
 (hset:∀f w,C b f w->C b (λj=>if k=j then true else f j) w)
 (hy:∀f w,AcF ops k f->C b f w->(execOp a.eval o).run P w=.ok (.value v) w)
 (h:AcLB P ops vs C K b (k+1) rest (a.put o.dst v)):AcLB P ops vs C K b k (o::rest) a:=by
 subst hv;refine⟨λf w hf hC=>?_,h⟩;rw[if_pos hw,hy f w hf hC];exact⟨b,λ_ _=>rfl,rfl,hset f w hC⟩
theorem qB (v:Value) (hset:∀f w,C b f w->C b (λj=>if k=j then true else f j) w) (h:AcLB P ops vs C K b (k+1) rest (a.put o.dst v)) (hv:vs b k=v:=by rfl) (hw:Region.wanted o (yielded ops a.tmps)=true:=by rfl) (hy:∀f w,AcF ops k f->C b f w->(execOp a.eval o).run P w=.ok (.value v) w:=by intro f W' hf h;go_simp):AcLB P ops vs C K b k (o::rest) a:=zag v hv hw hset hy h
theorem zbv (v:Value) (hv:vs b k=v) (hw:Region.wanted o (yielded ops a.tmps)=true)
 (hy:∀f w,AcF ops k f->C b f w->∀C':Value->zA->Prop,(∀w',C b (λj=>if k=j then true else f j) w'->C' v w')->zfp P C' ((execOp a.eval o).run P w))
 (h:AcLB P ops vs C K b (k+1) rest (a.put o.dst v)):AcLB P ops vs C K b k (o::rest) a:=by
 subst hv;refine⟨λf w hf hC=>?_,h⟩;rw[if_pos hw];exact hy f w hf hC _ λw' h'=>⟨b,λ_ _=>rfl,rfl,h'⟩
theorem zdc (v:Value) (hv:vs b k=v) (hw:Region.wanted o (yielded ops a.tmps)=true)
 (hy:∀f w,AcF ops k f->C b f w->∀C':Value->zA->Prop,(∀b' w',(∀j,f j=true->vs b' j=vs b j)->C b' (λj=>if k=j then true else f j) w'->C' (vs b' k) w')->zfp P C' ((execOp a.eval o).run P w))
 (h:AcLB P ops vs C K b (k+1) rest (a.put o.dst v)):AcLB P ops vs C K b k (o::rest) a:=by
 subst hv;refine⟨λf w hf hC=>?_,h⟩;rw[if_pos hw];exact hy f w hf hC _ λb' w' hj h'=>⟨b',hj,rfl,h'⟩
end
theorem zk6 {vs:β->Nat->Value} {C:β->(Nat->Bool)->zA->Prop} {K:Act->zA->Prop} {b:β}:∀(l:List Oper) (k:Nat) (a:Act),AcLB P ops vs C K b k l a->
 (∀i o,l[i]? =some o->zt1 P ops vs C (k+i) o (zbq (vs b) k l a i) b)/\(∀f w,(∀i,i<ops.size->f i=true)->C b f w->K (zbq (vs b) k l a l.length) w)
 |[],k,a,h=>⟨λi o h=>by simp at h,h⟩
 |o::l,k,a,⟨hv,h⟩=>by
  obtain⟨h1,h2⟩:=zk6 l (k+1) _ h;refine⟨λi o' ho=>?_,?_⟩
  ·cases i with
   |zero=>
    obtain rfl:o=o':=by simpa using ho
    simpa [zbq] using hv
   |succ i=>
    have:=h1 i o' (by simpa using ho);simp only[zbq];rw[show k+(i+1)=k+1+i by omega];exact this
  ·simp only[zbq,List.length_cons]
   exact h2
theorem znn {K:Act->zA->Prop} {Q:Exit->Act->zA->Prop} (hQ:∀a w,K a w->Q .normal a w) {l:List Oper} (vs:β->Nat->Value) (C:β->(Nat->Bool)->zA->Prop) (hB:(acB l.toArray&&zfd l.toArray)=true) {a:Act} {w:zA} (b0:β) (hC:C b0 (λ_=>false) w) (h:∀b,AcLB P l.toArray vs C K b 0 l a):
 wpAny P .any l.toArray Q l.toArray.size (Array.replicate l.toArray.size false) a w:=by
 have e0:zax l.toArray (vs b0) a (Array.replicate l.toArray.size false) l.toArray.size=a:=by
  have:∀k,zax l.toArray (vs b0) a (Array.replicate l.toArray.size false) k=a:=by
   intro k
   induction k with
   |zero=>rfl
   |succ k ih=>
    have:(Array.replicate l.toArray.size false).getD k false=false:=by
     simp only[Array.getD];split<;>simp
    simp only[zax,this,Bool.false_eq_true,if_false];exact ih
  exact this _
 have:=zw0 (P:=P) (ops:=l.toArray) (Q:=Q) (C:=λb L w=>C b (λj=>L.getD j false) w) hB vs a ?_ ?_ l.toArray.size (Array.replicate l.toArray.size false) w b0 (by simp) ?_ ?_ ?_
 ·rw[e0] at this;exact this
 ·intro b i o ho L w hat hc
  have h1:=(zk6 l 0 a (h b)).1;have hi:i<l.length:=by
   have:=(Array.getElem?_eq_some_iff.1 ho).1;simpa using this
  have hst:=h1 i o (by simpa using ho) (λj=>L.getD j false) w (by rw[Nat.zero_add];exact⟨hat.self,hat.done,hat.closed⟩) hc;have ea:zax l.toArray (vs b) a (zbw l.toArray.size i) l.toArray.size=zbq (vs b) 0 l a i:=by
   have:=zdg (vs b) l a i (by omega) l.length (zN _);rw[Nat.min_eq_left (by omega)] at this;simpa using this
  have es:(λj=>(L.setIfInBounds i true).getD j false)=(λj=>if i=j then true else L.getD j false):=by
   funext j;exact zdp L i j (by rw[hat.size];simpa using hi)
  rw[Nat.zero_add] at hst;rw[ea];unfold zhn at hst;unfold zgx;simp only[es];exact hst
 ·intro b L w hall hc
  have h2:=(zk6 l 0 a (h b)).2;have ea:zax l.toArray (vs b) a (zbw l.toArray.size l.toArray.size) l.toArray.size=zbq (vs b) 0 l a l.length:=by
   have:=zdg (vs b) l a l.length (zN _) l.length (zN _);rw[Nat.min_self] at this;simpa using this
  rw[ea];exact hQ _ _ (h2 _ w hall hc)
 ·intro i j hi
  have:(Array.replicate l.toArray.size false).getD i false=false:=by simp only[Array.getD];split<;>simp
  rw[this] at hi;cases hi
 ·refine zO (List.length_filter_le _ _) (by simp)
 ·have:(λj=>(Array.replicate l.toArray.size false).getD j false)= λ_=>false:=by
   funext j;simp only[Array.getD];split<;>simp
  simpa only[this] using hC
theorem zc4 {id:Nat} {Q:Exit->Act->zA->Prop} {a:Act} {w:zA} {l:List Oper} (vs:β->Nat->Value) (C:β->(Nat->Bool)->zA->Prop) (hm:P.follows .mixedOrders=true) (hB:(acB l.toArray&&zfd l.toArray)=true) (b0:β) (hC:C b0 (λ_=>false) {w with drawn:=w.drawn+1})
 (h:∀b,AcLB P l.toArray vs C (Q .normal) b 0 l a):(Code.region id l.toArray true).wp P Q a w:=
 wp_region_any hm (znn (λ_ _ h=>h) vs C hB b0 hC h)
theorem zgv {l n id:Nat} {Q:Exit->Act->zA->Prop} {a:Act} {w:zA} {ol:List Oper} (vs:β->Nat->Value) (C:β->(Nat->Bool)->zA->Prop) (hm:P.follows .mixedOrders=true) (hB:(acB ol.toArray&&zfd ol.toArray)=true) (hnd:zhj ol.toArray=true) (b0:β) (hC:C b0 (λ_=>false) {w with drawn:=w.drawn+1})
 (h:∀b,AcLB P ol.toArray vs C (Q .normal) b 0 ol a):(Code.region id ol.toArray true).wpIn (Fence.wide.inRound l) n P Q a w:=
 wpIn_region_any hm (zd4 hnd (Q:=λe a w=>e=.normal/\Q .normal a w) (λ_ _ _ h h'=>h h'.1) (λ_ _ h=>h.2) _ _ _ _ (znn (λ_ _ h=>⟨rfl,h⟩) vs C hB b0 hC h))
end
section
open Go.RowKit Go.Shelf Lib Str Limb Geo
attribute [local go_sem] Oper.semAt_some
section
variable {w W W':zA} {x1 y1 x2 y2 x3 y3 x4 y4 lx ly hx hy:List UInt8} {b:Nat×Nat} {f g:Nat->Bool}
end
section
variable {w W W':zA} {x1 y1 x2 y2 x3 y3 x4 y4 fx fy gx gy:List UInt8} {p q:Nat}
end
theorem zok {q:Rat} {k:Nat} (hk:0<k) (h:sz q k):digs q.num<=k/\(zD q.den).length<=k:=⟨(za3 _ _ hk).2 h.1,(zaf _ _ hk).2 h.2⟩
end
section
open Go.RowKit Go.Shelf Lib Str Limb
attribute [local go_sem] Oper.semAt_some
theorem zzg (x u v:List UInt8)
 (PA:Hid (qK 144 #[St x] (.tuple #[St u,St v,.int .i64 0]))) (w:zA) (HW:Hid (Wd w)):
 qJ 127 #[St x] w (.agg #[St u,St v]):=by
 obtain⟨W1,hW1⟩:∃W1,W1=w.alloc (.cells #[St [],St []] 173):=⟨_,rfl⟩;have hb1:qL w W1:=by rw[hW1];exact(zM _ w).alloc (zN _) _
 have A1:W1.heap[w.heap.size]? =some (.cells #[St [],St []] 173 (0,0)):=by rw[hW1];exact zG w _
 have hz:W1.heap.size=w.heap.size+1:=by rw[hW1];simp
 have HW1:=hid hW1;clear hW1;go_enter Tryz.func127,Tryz.ntmps127;go_wp2_with fail;have h9:=HW1.out;rw[<-h9];clear h9;refine(PA.out _ (HW.out.below hb1)).mono ?_;rintro e w2 ⟨rfl,hb2⟩;have hB2:=hb1.trans (hb2.mono hb1.size);have A2:w2.heap[w.heap.size]? =some (.cells #[St [],St []] 173 (0,0)):=(hb2.block _ (by omega)).trans A1;have b0:w2.cell? ⟨w.heap.size,0,none⟩=some (St []):=by rw[zJ A2];rfl
 have b1:w2.cell? ⟨w.heap.size,1,none⟩=some (St []):=by rw[zJ A2];rfl
 have f0:w2.frozen? ⟨w.heap.size,0,none⟩=false:=Go.Joins.unfrozen_of_block A2 0;have f1:w2.frozen? ⟨w.heap.size,1,none⟩=false:=Go.Joins.unfrozen_of_block A2 1;clear A1 A2 hb2;go_wp2_with fail;refine bodyPost_ret (v:=.agg #[St u,St v]) (by simp[results,Tryz.results127,go_sem,b0,b1]) rfl ⟨rfl,?_⟩
 repeat(first|exact hB2|refine Below.setCell ?_ (by simp) _)
theorem zio (q:Rat) (h:okQ q) (w:zA) (hw:Wd w):
 qJ 127 #[St (numS q)] w (.agg #[St (zE q.num),St (zD q.den)]):=
 zzg _ _ _ (hid λW hW=>zk5 q h W hW) w (hid hw)
theorem zkh (x:Int) (w:zA):
 qJ 145 #[St (zE x)] w (.int .i64 (digs x:Nat)):=by
 obtain⟨t,ht⟩:∃t:ByteArray,t=⟨(trimPrefix (⟨(zE x).toArray⟩:ByteArray).data.toList [45]).toArray⟩:=⟨_,rfl⟩;have hs:t.size=digs x:=by
  rw[ht];show(trimPrefix (zE x) [45]).toArray.size=_;rw[zbi];simp[digs]
 rw[<-hs];have HT:=hid ht;clear ht hs;show zC _ _ #[.string ⟨(zE x).toArray⟩] _ _;generalize (⟨(zE x).toArray⟩:ByteArray)=u at*
 go_enter Tryz.func145,Tryz.ntmps145;go_wp2_with fail;refine(Tryz.strings_TrimPrefix _ _ _).mono ?_;rintro e w' ⟨rfl,hw1⟩;have hw2:=hw1.symm;subst hw2;have h9:=HT.out;rw[<-show t=⟨(trimPrefix u.data.toList (⟨#[45]⟩:ByteArray).data.toList).toArray⟩ from h9];clear h9 hw1;go_wp2_with fail;go_ret;exact⟨rfl,zM _ _⟩
theorem zw3 (x u v:List UInt8) (a b:Nat) (w:zA) (HW:Hid (Wd w))
 (PA:Hid (qK 144 #[St x] (.tuple #[St u,St v,.int .i64 0])))
 (D1:Hid (∀W:zA,qJ 145 #[St u] W (.int .i64 a)))
 (D2:Hid (∀W:zA,qJ 145 #[St v] W (.int .i64 b))):
 qJ 99 #[St x] w (.int .i64 (max (a:Int) b)):=by
 go_enter Tryz.func99,Tryz.ntmps99;go_wp2_with fail;refine(PA.out _ HW.out).mono ?_;rintro e w1 ⟨rfl,hb1⟩;go_wp2_with fail;refine(D1.out _).mono ?_;rintro e w2 ⟨rfl,hb2⟩;go_wp2_with fail;refine(D2.out _).mono ?_;rintro e w3 ⟨rfl,hb3⟩;go_wp2_with fail;go_ret;have h2:=hb1.trans (hb2.mono hb1.size);exact⟨rfl,h2.trans (hb3.mono h2.size)⟩
theorem znp (q:Rat) (h:okQ q) (w:zA) (hw:Wd w):
 qJ 99 #[St (numS q)] w (.int .i64 (max (digs q.num:Int) (digs (q.den:Int):Nat))):=
 zw3 _ (zE q.num) (zD q.den) _ _ w (hid hw) (hid λW hW=>zk5 q h W hW) (hid λW=>zkh q.num W) (hid λW=>by have:=zkh (q.den:Int) W;rwa [Str.zad] at this)
end
section
open Go.RowKit Go.Shelf
attribute [local go_sem] Oper.semAt_some
def MkAt (mk:Option Nat) (W:zA):Prop:=∀D,mk=some D->W.heap[D]? =some (.deferred (some []))
section
variable {F:Fence} {n:Nat} {P:Program} {g:Operand} {ps:Array Tmp} {assign body:Code} {Q:Exit->Act->zA->Prop} {a:Act} {w:zA} {gf:Nat} {lb:Array Value}
 {Rd:zA->Prop} {R:Nat->Array Value->Prop} {len:Nat}
theorem zlw (h1:1<=n) (hg:a.eval g=.func (.func gf) #[] lb) (hFg:F.fn gf) (eg:∀args w,(callFunc gf args).run P w=.ok (.enter gf args) w)
 (hseq:IterC F (n-1) P gf lb Rd R len) (hps:∀k args,R k args->args.size=ps.size)
 {B:Nat} (hB:B<=w.heap.size) (I:Nat->zA->Prop) (Ix:Code->Nat->zA->Prop) (hI:∀k W W',I k W->CellsKept W W'->zB B W W'->I k W') (hIx:∀c k W W',Ix c k W->CellsKept W W'->zB B W W'->Ix c k W')
 (hRd:∀k W,I k W->Rd W) (h0:I 0 w)
 (Ax:Nat->Array Value->Act->zA->Prop) (hAx:∀k args a' W W',Ax k args a' W->CellsKept W W'->zB B W W'->Ax k args a' W')
 (zl:Nat) (mark:List Deferred) (mk:Option Nat) (w1:FuncId->zA) (dd:Nat)
 (hent:∀fn,(Instr.enterLoop fn a.tmps ps assign body F.round).run P w=.ok (zl,mark) (w1 fn))
 (hrec:∀fn,(w1 fn).heap[zl]? =some (.loop {state:=.ready,pending:=none,fn,tmps:=a.tmps,params:=ps,assign,body,defers:=dd}))
 (hzl:w.heap.size<=zl) (hmk:∀D,mk=some D->w.heap.size<=D/\D≠zl) (hmk1:∀fn,MkAt mk (w1 fn)) (hstart:∀fn,qL w (w1 fn)) (hck:∀fn,CellsKept w (w1 fn))
 (hassign:∀(l k:Nat) (args:Array Value) (W:zA) (K:Act->zA->Prop),w.heap.size<=l->(∃r,W.heap[l]? =some (.loop r))->I k W->k<len->R k args->
   (∀a' W',KeepsFrom w.heap.size W W'->I k W'->Ax k args a' W'->K a' W')->
   assign.wpIn (F.inRound l) (n-1-1) P (Exit.then K (λ_ _ _=>False)) {tmps:=(ps.zip args).foldl (λt (p,v)=>t.setIfInBounds p v) a.tmps,defers:=[]} W)
 (hbody:∀(l k:Nat) (args:Array Value) (a':Act) (W:zA),w.heap.size<=l->(∃r,W.heap[l]? =some (.loop r))->I k W->k<len->R k args->Ax k args a' W->body.wpIn (F.inRound l) (n-1-1) P (zja w.heap.size I Ix k W) a' W)
 (hdone:∀(W:zA),I len W->MkAt mk W->Q .normal {a with defers:=mark++a.defers} W)
 (hstop:∀(c:Code) (k:Nat) (W:zA),Ix c k W->MkAt mk W->c.wpIn F n P Q {a with defers:=mark++a.defers} W):
 (Code.rangeFunc g ps assign body).wpIn F n P Q a w:=by
 refine wpIn_rangeFunc λfn hfn=>?_;let rec':LoopState->Option Code->Obj:=λst pe=>.loop {state:=st,pending:=pe,fn,tmps:=a.tmps,params:=ps,assign,body,defers:=dd};let bk:LoopState->Option Code->zA->Prop:=λst pe W=>W.heap[zl]? =some (rec' st pe)/\MkAt mk W;have hturn:∀st pe st' pe' W,bk st pe W->bk st' pe' (W.putObj zl (rec' st' pe')):=λst pe st' pe' W h=>
  ⟨World.putObj_heap_same (Array.getElem?_eq_some_iff.1 h.1).1,λD hD=>(World.putObj_heap_other (hmk D hD).2).trans (h.2 D hD)⟩
 refine⟨zl,mark,w1 fn,{target:=.fn (.func gf) lb,args:= #[.func (.yield zl) #[] #[]]},w1 fn,gf,#[.func (.yield zl) #[] #[]]++lb,w1 fn,hent fn,?_,?_,?_,λ_=>h1,?_⟩
 ·simp only[resolve,hg]
  simp[go_sem]
 ·intro f' hf';simp[Target.leads] at hf';subst hf';exact hFg
 ·simp[invoke,go_sem,eg]
 refine(hseq zl (λk W=>I k W/\bk .ready none W) (λW=>∃c k,Ix c k W/\bk .done (some c) W) _ (λk W1 h=>hRd k W1 h.1) (λk W1 W2 h hb=>?_) ?_ ?_).mono ?_
 ·exact⟨hI k W1 W2 h.1 (zac hb) (hb.mono (by have:=(Array.getElem?_eq_some_iff.1 h.2.1).1;omega)),
   (hb.block _ (Array.getElem?_eq_some_iff.1 h.2.1).1).trans h.2.1,λD hD=>(hb.block _ (Array.getElem?_eq_some_iff.1 (h.2.2 D hD)).1).trans (h.2.2 D hD)⟩
 ·rintro k args W ⟨hi,hbW⟩ hk hR
  have hy:=run_yield (P:=P) (args:=args) hbW.1 (hps k args hR);refine⟨fn,_,assign,body,hy,roundIn_of_wpIn hfn (hassign _ k args W _ hzl ⟨_,hbW.1⟩ hi hk hR ?_)⟩;intro a' W2 hk2 hi2 hax2;have hbW2:bk .ready none W2:=⟨hk2.same _ _ hzl hbW.1 rfl,λD hD=>hk2.same _ _ (hmk D hD).1 (hbW.2 D hD) rfl⟩;refine⟨_,run_beginRound hbW2.1 rfl,?_⟩;have hb2:bk .busy none (W2.putObj zl (rec' .busy none)):=hturn _ _ _ _ _ hbW2;have hc2:=zcw (rec' .busy none) hbW2.1 rfl;have hl2:=zcx (B:=B) (rec' .busy none) hbW2.1 (by omega);refine wpIn_mono (hbody _ k args a' _ hzl ⟨_,hb2.1⟩ (hI k _ _ hi2 hc2 hl2) hk hR (hAx k args a' _ _ hax2 hc2 hl2)) ?_;have fin:∀(jump:Option Code) (W3:zA),KeepsFrom w.heap.size (W2.putObj zl (rec' .busy none)) W3->
   (Instr.endRound zl jump).run P W3=.ok (.bool jump.isNone) (W3.putObj zl (rec' (if jump.isNone then .ready else .done) jump))/\
   CellsKept W3 (W3.putObj zl (rec' (if jump.isNone then .ready else .done) jump))/\zB B W3 (W3.putObj zl (rec' (if jump.isNone then .ready else .done) jump))/\
   bk (if jump.isNone then .ready else .done) jump (W3.putObj zl (rec' (if jump.isNone then .ready else .done) jump)):=λjump W3 hk3=>by
   have hb3:bk .busy none W3:=⟨hk3.same _ _ hzl hb2.1 rfl,λD hD=>hk3.same _ _ (hmk D hD).1 (hb2.2 D hD) rfl⟩;exact⟨run_endRound jump hb3.1,zcw _ hb3.1 rfl,zcx _ hb3.1 (by omega),hturn _ _ _ _ _ hb3⟩
  rintro e a3 W3 hp
  cases e with
  |normal=>
   obtain⟨hk3,hi3⟩:=hp;obtain⟨hr,hc,hbl,hb4⟩:=fin none W3 hk3;exact⟨_,_,hr,.inl ⟨rfl,hI _ _ _ hi3 hc hbl,hb4⟩⟩
  |ret=>
   obtain⟨hk3,hi3⟩:=hp;obtain⟨hr,hc,hbl,hb4⟩:=fin (some .ret) W3 hk3;exact⟨_,_,hr,.inr ⟨rfl,_,_,hIx _ _ _ _ hi3 hc hbl,hb4⟩⟩
  |exit id=>
   obtain⟨hk3,hi3⟩:=hp;obtain⟨hr,hc,hbl,hb4⟩:=fin (some (.exit id)) W3 hk3;exact⟨_,_,hr,.inr ⟨rfl,_,_,hIx _ _ _ _ hi3 hc hbl,hb4⟩⟩
  |goto t=>
   obtain⟨hk3,hi3⟩:=hp;obtain⟨hr,hc,hbl,hb4⟩:=fin (some (.goto t)) W3 hk3;exact⟨_,_,hr,.inr ⟨rfl,_,_,hIx _ _ _ _ hi3 hc hbl,hb4⟩⟩
  |panic ch=>exact hp.elim
  |outgrown=>exact hp.elim
 ·exact⟨hI 0 _ _ h0 (hck fn) ((hstart fn).mono hB),hrec fn,hmk1 fn⟩
 ·rintro e W2 ⟨⟨v,rfl⟩,(⟨hi,hb4⟩|⟨c,k,hi,hb4⟩)⟩
  ·exact⟨none,_,run_endLoop hb4.1 (by simp),hdone _ (hI _ _ _ hi (zcw _ hb4.1 rfl) (zcx _ hb4.1 (by omega))) (λD hD=>(World.putObj_heap_other (hmk D hD).2).trans (hb4.2 D hD))⟩
  ·exact⟨some c,_,run_endLoop hb4.1 (by simp),hstop c k _ (hIx _ _ _ _ hi (zcw _ hb4.1 rfl) (zcx _ hb4.1 (by omega))) (λD hD=>(World.putObj_heap_other (hmk D hD).2).trans (hb4.2 D hD))⟩
theorem zi2 (hro:F.round=none) (h1:1<=n) (hg:a.eval g=.func (.func gf) #[] lb) (hFg:F.fn gf) (eg:∀args w,(callFunc gf args).run P w=.ok (.enter gf args) w)
 (hseq:IterC F (n-1) P gf lb Rd R len) (hps:∀k args,R k args->args.size=ps.size)
 {B:Nat} (hB:B<=w.heap.size) (I:Nat->zA->Prop) (Ix:Code->Nat->zA->Prop) (hI:∀k W W',I k W->CellsKept W W'->zB B W W'->I k W') (hIx:∀c k W W',Ix c k W->CellsKept W W'->zB B W W'->Ix c k W')
 (hRd:∀k W,I k W->Rd W) (h0:I 0 w)
 (Ax:Nat->Array Value->Act->zA->Prop) (hAx:∀k args a' W W',Ax k args a' W->CellsKept W W'->zB B W W'->Ax k args a' W')
 (hassign:∀(l k:Nat) (args:Array Value) (W:zA) (K:Act->zA->Prop),w.heap.size<=l->(∃r,W.heap[l]? =some (.loop r))->I k W->k<len->R k args->
   (∀a' W',KeepsFrom w.heap.size W W'->I k W'->Ax k args a' W'->K a' W')->
   assign.wpIn (F.inRound l) (n-1-1) P (Exit.then K (λ_ _ _=>False)) {tmps:=(ps.zip args).foldl (λt (p,v)=>t.setIfInBounds p v) a.tmps,defers:=[]} W)
 (hbody:∀(l k:Nat) (args:Array Value) (a':Act) (W:zA),w.heap.size<=l->(∃r,W.heap[l]? =some (.loop r))->I k W->k<len->R k args->Ax k args a' W->body.wpIn (F.inRound l) (n-1-1) P (zja w.heap.size I Ix k W) a' W)
 (hdone:∀(D:Nat) (W:zA),w.heap.size<=D->I len W->W.heap[D]? =some (.deferred (some []))->Q .normal {a with defers:={target:=.collected D,args:= #[]}::a.defers} W)
 (hstop:∀(D:Nat) (c:Code) (k:Nat) (W:zA),w.heap.size<=D->Ix c k W->W.heap[D]? =some (.deferred (some []))->c.wpIn F n P Q {a with defers:={target:=.collected D,args:= #[]}::a.defers} W):
 (Code.rangeFunc g ps assign body).wpIn F n P Q a w:=by
 have hst:∀o,qL w ((w.alloc (.deferred (some []))).alloc o):=λo=>((zM _ w).alloc (zN _) _).alloc (by simp) _;refine zlw h1 hg hFg eg hseq hps hB I Ix hI hIx hRd h0 Ax hAx (w.heap.size+1) [{target:=.collected w.heap.size,args:= #[]}] (some w.heap.size) (λfn=>(w.alloc (.deferred (some []))).alloc (.loop {state:=.ready,pending:=none,fn,tmps:=a.tmps,params:=ps,assign,body,defers:=w.heap.size})) w.heap.size
  (λfn=>by rw[hro];exact run_enterLoop_outer _ _ _ _ _) (λfn=>?_) (by omega) (λD hD=>by cases hD;omega) (λfn D hD=>?_) (λfn=>hst _) (λfn=>zac (hst _)) hassign hbody (λW hi hm=>hdone _ W (zN _) hi (hm _ rfl)) (λc k W hi hm=>hstop _ c k W (zN _) hi (hm _ rfl))
 ·have:=zG (w.alloc (.deferred (some []))) (.loop {state:=.ready,pending:=none,fn,tmps:=a.tmps,params:=ps,assign,body,defers:=w.heap.size});rwa [zH] at this
 ·cases hD;exact(Below.heap_alloc _ _ _ (by simp)).trans (zG w _)
end
end
section
open Go.RowKit Go.Shelf Lib Str Limb
attribute [local go_sem] Oper.semAt_some
def RowNums (p:Option Addr) (n:Nat) (q:Nat->Rat) (W:zA):Prop:=∀i,i<n->∃b off,p=some ⟨b,off,none⟩/\W.cell? ⟨b,off+i,none⟩=some (St (numS (q i)))
theorem RowNums.keep {p:Option Addr} {n:Nat} {q:Nat->Rat} {W W':zA} (h:RowNums p n q W) (hc:CellsKept W W'):RowNums p n q W':=λi hi=>let ⟨b,off,e,h1⟩:=h i hi;⟨b,off,e,hc.cell h1⟩
theorem zma (q:Rat) (h:0<=q.num) (w:zA):
 zC zF 180 #[St (numS q)] w λe w'=>e=.returned (.bool false)/\w'=w:=by
 have hp:Lib.hasPrefix (numS q) [45]=false:=by
  obtain⟨c,r,e,hc,_⟩:=dec_head q.num.natAbs;have e1:zE q.num=zD q.num.natAbs:=by
   rcases zbg q.num with⟨_,e⟩|⟨h',_⟩
   ·exact e
   ·omega
  have hc5:c≠45:=λh=>by subst h;simp at hc
  unfold numS;rw[e1,e];simp[Lib.hasPrefix,List.isPrefixOf,Ne.symm hc5]
 have hc:=Tryz.strings_HasPrefix ⟨(numS q).toArray⟩ ⟨#[45]⟩ w;rw[show(⟨(numS q).toArray⟩:ByteArray).data.toList=numS q from rfl,show(⟨#[45]⟩:ByteArray).data.toList=[45] from rfl,hp] at hc;show zC _ _ #[.string ⟨(numS q).toArray⟩] _ _;generalize (⟨(numS q).toArray⟩:ByteArray)=u at*
 have HC:=hid hc;clear hc hp;go_enter Tryz.func180,Tryz.ntmps180;go_wp2_with fail;refine HC.out.mono ?_;rintro e w' ⟨rfl,rfl⟩;go_wp2_with fail;go_ret;exact⟨rfl,rfl⟩
theorem zk7 (n:Nat) (hl:(zD n).length<=17) (w:zA) (_:Wd w):
 qJ 172 #[St (zD n)] w (.tuple #[I n,.bool true]):=by
 have hc:=znc (n:Int) (by rw[Str.zad];omega) w;rw[Str.zad] at hc;have hsz:¬(17:Int)<(⟨(zD n).toArray⟩:ByteArray).size:=by
  have:(⟨(zD n).toArray⟩:ByteArray).size=(zD n).length:=by show(zD n).toArray.size=_;simp
  omega
 show zC _ _ #[.string ⟨(zD n).toArray⟩] _ _;generalize (⟨(zD n).toArray⟩:ByteArray)=u at*
 have HC:=hid hc;clear hc hl;go_enter Tryz.func172,Tryz.ntmps172;go_wp2_with fail;refine HC.out.mono ?_;rintro e w1 ⟨rfl,hb⟩;go_wp2_with fail
 (refine wp_region_quiet_lit (by kernel_rfl) (by kernel_rfl) (WQ.out ?_);(repeat(first|(apply WQ.read (by rfl);(focus(rintro W ⟨n,rfl⟩;go_simp;try with_reducible rfl));try simp only[zzQ])|(apply WQ.skip (by rfl);try simp only[zzQ])));refine WQ.nil ?_;rintro _ ⟨nq,rfl⟩)
 go_wp2_with fail;go_ret2;exact⟨rfl,zao hb nq⟩
structure PairS (w:zA) (u v:List UInt8) (pb:Nat) (W:zA):Prop where
 bel:qL w W
 lt:pb<W.heap.size
 hp:W.heap[pb]? =some (.cells #[St u,St v] 173 (0,0))
theorem PairS.next {w:zA} {u v:List UInt8} {pb:Nat} {W W':zA} (h:PairS w u v pb W) (hb:qL W W'):PairS w u v pb W':=
 ⟨h.bel.trans (hb.mono h.bel.size),Nat.lt_of_lt_of_le h.lt hb.size,(hb.block _ h.lt).trans h.hp⟩
theorem PairS.c0 {w:zA} {u v:List UInt8} {pb:Nat} {W:zA} (h:PairS w u v pb W):W.cell? ⟨pb,0,none⟩=some (St u):=by rw[zJ h.hp];rfl
theorem PairS.c1 {w:zA} {u v:List UInt8} {pb:Nat} {W:zA} (h:PairS w u v pb W):W.cell? ⟨pb,1,none⟩=some (St v):=by rw[zJ h.hp];rfl
theorem zji (p1 p2:Option Addr) (cap1 cap2 n1 n2:Nat) (q1 q2:Nat->Rat) (h1:n1<=100) (h2:n2<=100)
 (C:Hid (∀k,k<n1->qK 77 #[St (numS (q1 k))] (.int .i64 0)))
 (O:Hid (∀k,k<n1->qK 127 #[St (numS (q1 k))] (.agg #[St (zE (q1 k).num),St (zD (q1 k).den)])))
 (Z:Hid (∀k,k<n1->digs (q1 k).num<=90/\(zD (q1 k).den).length<=90))
 (N:Hid (∀k,k<n2->∀W:zA,zC zF 180 #[St (numS (q2 k))] W λe w'=>e=.returned (.bool false)/\w'=W))
 (w:zA) (HW:Hid (Wd w)) (HP1:Hid (RowNums p1 n1 q1 w)) (HP2:Hid (RowNums p2 n2 q2 w)):
 qJ 125 #[.slice p1 n1 cap1,.slice p2 n2 cap2] w (.int .i64 0):=by
 go_enter Tryz.func125,Tryz.ntmps125;go_wp2_with fail;go_loopw [13] (λi wr=>∃(k:Nat),k<=n1/\i=.int .i64 (k:Int)/\Hid (qL w wr))
  (λi _=>n1-(zL i).toNat)
 case atStart=>exact⟨0,zR _,rfl,zM _ _⟩
 case round=>
  obtain⟨k,hk,rfl,hB⟩:=hrel;by_cases hlt:k<n1
  ·obtain⟨b,off,rfl,c0⟩:=(HP1.out.keep (zac (hB.out.mono (zN _)))) k hlt
   have HC:=hid (C.out k hlt);have HO:=hid (O.out k hlt);obtain⟨z1,z2⟩:=Z.out k hlt;obtain⟨t,ht⟩:∃t:ByteArray,t=⟨(trimPrefix (⟨(zE (q1 k).num).toArray⟩:ByteArray).data.toList (⟨#[45]⟩:ByteArray).data.toList).toArray⟩:=⟨_,rfl⟩;have hts:t.size<=90:=by
    rw[ht];show(trimPrefix (zE (q1 k).num) [45]).toArray.size<=90;rw[zbi];simpa [digs] using z1
   have hvs:(⟨(zD (q1 k).den).toArray⟩:ByteArray).size<=90:=by show(zD (q1 k).den).toArray.size<=90;simpa using z2
   have hmx:max (t.size:Int) ((zD (q1 k).den).length:Int)<=90:=by omega
   have HT0:=hid ht;clear ht z1 z2;generalize numS (q1 k)=x at*
   generalize zE (q1 k).num=u at*
   generalize zD (q1 k).den=v at*
   have HT:Hid (Value.string ⟨(trimPrefix (⟨u.toArray⟩:ByteArray).data.toList (⟨#[45]⟩:ByteArray).data.toList).toArray⟩=.string t):=hid (by rw[HT0.out]);clear HT0;go_wp2_with fail;refine(HC.out wr (HW.out.below hB.out)).mono ?_;rintro e w2 ⟨rfl,hb2⟩;have hB2:=hid (hB.out.trans (hb2.mono hB.out.size));clear hb2;go_wp2_with fail;refine(HO.out w2 (HW.out.below hB2.out)).mono ?_;rintro e w3 ⟨rfl,hb3⟩;have hB3:=hid (hB2.out.trans (hb3.mono hB2.out.size));clear hb3 hB2 hB;go_wp2_with fail;obtain⟨w4,hw4⟩:∃w4,w4=w3.alloc (.cells #[St u,St v] 173):=⟨_,rfl⟩;rw[<-hw4];obtain⟨pb,hpb⟩:∃pb,pb=w3.heap.size:=⟨_,rfl⟩;have HP5:Hid (PairS w u v pb w4):=by
    have ha:qL w3 w4:=by rw[hw4];exact(zM _ w3).alloc (zN _) _
    exact hid ⟨hB3.out.trans (ha.mono hB3.out.size),by rw[hw4,hpb];simp,by rw[hw4,hpb];exact zG w3 _⟩
   rw[<-hpb];clear hw4 hB3 hpb;refine zbl (λ_ W=>PairS w u v pb W) (by kernel_rfl) (by kernel_rfl) (by have h:=HP5.out;exact h.next (zM _ _).drew) ?_;refine qR (.pointer (some ⟨pb,0,none⟩)) ?_;simp only[zzQ];refine qR (St u) ?_ (hy:=λf W' hf h=>by have h0:=h.c0;go_simp);simp only[zzQ]
   refine zar (.string t) (by rfl) (λf W' hf h C' hC'=>by
    go_simp;refine(Tryz.strings_TrimPrefix _ _ _).mono ?_;rintro e w' ⟨rfl,hw1⟩;have hw2:=hw1.symm;subst hw2;refine⟨?_,hC' _ h⟩;rw[HT.out]) ?_
   try simp only[zzQ]
   refine qR (.int .i64 t.size) ?_;simp only[zzQ];refine qR (.pointer (some ⟨pb,1,none⟩)) ?_;simp only[zzQ];refine qR (St v) ?_ (hy:=λf W' hf h=>by have h0:=h.c1;go_simp);simp only[zzQ];refine qR (.int .i64 (⟨v.toArray⟩:ByteArray).size) ?_;simp only[zzQ];refine qR (.int .i64 (max (t.size:Int) ((⟨v.toArray⟩:ByteArray).size:Int))) ?_;simp only[zzQ];refine qR (.bool false) ?_;simp only[zzQ];refine zck λf W4 hf h=>?_;have hB4:=hid h.bel;clear h hf f HP5;go_wp2_with fail;go_roundw
   case rel=>exact⟨k+1,by omega,by go_num,hB4⟩
   case measure=>simp[zL];omega
  ·clear hk
   go_wp2_with fail;clear HP1 C O Z;go_loopw [36] (λi wr=>∃(k:Nat),k<=n2/\i=.int .i64 (k:Int)/\Hid (qL w wr))
    (λi _=>n2-(zL i).toNat)
   case atStart=>exact⟨0,zR _,rfl,hB⟩
   case round=>
    clear hB;obtain⟨j,hj,rfl,hB⟩:=hrel;by_cases hlt2:j<n2
    ·obtain⟨b,off,rfl,c0⟩:=(HP2.out.keep (zac (hB.out.mono (zN _)))) j hlt2
     have HN:=hid (N.out j hlt2);generalize numS (q2 j)=x at*
     go_wp2_with fail;refine(HN.out _).mono ?_;rintro e w2 ⟨rfl,hw1⟩;have hw2:=hw1.symm;subst hw2;clear hw1;go_wp2_with fail;go_roundw
     case rel=>exact⟨j+1,by omega,by go_num,hB⟩
     case measure=>simp[zL];omega
    ·go_wp2_with fail
     go_ret;exact⟨rfl,hB.out⟩
def prL:List Nat:=[2,3,5,7,11,13,17,19,23,29,31,37,41,43,47,53,59,61,67,71,73,79,83,89,97]
def prN (i:Nat):Nat:=prL.getD i 0
def prS (i:Nat):List UInt8:=([[50],[51],[53],[55],[49,49],[49,51],[49,55],[49,57],[50,51],[50,57],[51,49],[51,55],[52,49],[52,51],[52,55],[53,51],[53,57],[54,49],[54,55],[55,49],[55,51],[55,57],[56,51],[56,57],[57,55]]:List (List UInt8)).getD i []
def prV:Array Value:= #[.string ⟨#[50]⟩,.string ⟨#[51]⟩,.string ⟨#[53]⟩,.string ⟨#[55]⟩,.string ⟨#[49,49]⟩,.string ⟨#[49,51]⟩,.string ⟨#[49,55]⟩,.string ⟨#[49,57]⟩,.string ⟨#[50,51]⟩,.string ⟨#[50,57]⟩,.string ⟨#[51,49]⟩,.string ⟨#[51,55]⟩,.string ⟨#[52,49]⟩,.string ⟨#[52,51]⟩,.string ⟨#[52,55]⟩,.string ⟨#[53,51]⟩,.string ⟨#[53,57]⟩,.string ⟨#[54,49]⟩,.string ⟨#[54,55]⟩,.string ⟨#[55,49]⟩,.string ⟨#[55,51]⟩,.string ⟨#[55,57]⟩,.string ⟨#[56,51]⟩,.string ⟨#[56,57]⟩,.string ⟨#[57,55]⟩]
theorem z1r:∀i,i<25->prS i=zD (prN i)
 |0,_=>by show[50]=zD 2;rw[zae (by omega)];rfl
 |1,_=>by show[51]=zD 3;rw[zae (by omega)];rfl
 |2,_=>by show[53]=zD 5;rw[zae (by omega)];rfl
 |3,_=>by show[55]=zD 7;rw[zae (by omega)];rfl
 |4,_=>by show[49,49]=zD 11;rw[zav (by omega),zae (by omega)];rfl
 |5,_=>by show[49,51]=zD 13;rw[zav (by omega),zae (by omega)];rfl
 |6,_=>by show[49,55]=zD 17;rw[zav (by omega),zae (by omega)];rfl
 |7,_=>by show[49,57]=zD 19;rw[zav (by omega),zae (by omega)];rfl
 |8,_=>by show[50,51]=zD 23;rw[zav (by omega),zae (by omega)];rfl
 |9,_=>by show[50,57]=zD 29;rw[zav (by omega),zae (by omega)];rfl
 |10,_=>by show[51,49]=zD 31;rw[zav (by omega),zae (by omega)];rfl
 |11,_=>by show[51,55]=zD 37;rw[zav (by omega),zae (by omega)];rfl
 |12,_=>by show[52,49]=zD 41;rw[zav (by omega),zae (by omega)];rfl
 |13,_=>by show[52,51]=zD 43;rw[zav (by omega),zae (by omega)];rfl
 |14,_=>by show[52,55]=zD 47;rw[zav (by omega),zae (by omega)];rfl
 |15,_=>by show[53,51]=zD 53;rw[zav (by omega),zae (by omega)];rfl
 |16,_=>by show[53,57]=zD 59;rw[zav (by omega),zae (by omega)];rfl
 |17,_=>by show[54,49]=zD 61;rw[zav (by omega),zae (by omega)];rfl
 |18,_=>by show[54,55]=zD 67;rw[zav (by omega),zae (by omega)];rfl
 |19,_=>by show[55,49]=zD 71;rw[zav (by omega),zae (by omega)];rfl
 |20,_=>by show[55,51]=zD 73;rw[zav (by omega),zae (by omega)];rfl
 |21,_=>by show[55,57]=zD 79;rw[zav (by omega),zae (by omega)];rfl
 |22,_=>by show[56,51]=zD 83;rw[zav (by omega),zae (by omega)];rfl
 |23,_=>by show[56,57]=zD 89;rw[zav (by omega),zae (by omega)];rfl
 |24,_=>by show[57,55]=zD 97;rw[zav (by omega),zae (by omega)];rfl
 |n+25,h=>absurd h (by omega)
theorem zw4:∀i,i<25->2<=prN i/\prN i<=97:=by decide
theorem z25 (i:Nat) (hi:i<25) (w:zA):(Instr.index 268 (.agg prV) (.int .i64 (i:Int))).run zF w=.ok (St (prS i)) w:=
 match i,hi with
 |0,_=>by kernel_rfl
 |1,_=>by kernel_rfl
 |2,_=>by kernel_rfl
 |3,_=>by kernel_rfl
 |4,_=>by kernel_rfl
 |5,_=>by kernel_rfl
 |6,_=>by kernel_rfl
 |7,_=>by kernel_rfl
 |8,_=>by kernel_rfl
 |9,_=>by kernel_rfl
 |10,_=>by kernel_rfl
 |11,_=>by kernel_rfl
 |12,_=>by kernel_rfl
 |13,_=>by kernel_rfl
 |14,_=>by kernel_rfl
 |15,_=>by kernel_rfl
 |16,_=>by kernel_rfl
 |17,_=>by kernel_rfl
 |18,_=>by kernel_rfl
 |19,_=>by kernel_rfl
 |20,_=>by kernel_rfl
 |21,_=>by kernel_rfl
 |22,_=>by kernel_rfl
 |23,_=>by kernel_rfl
 |24,_=>by kernel_rfl
 |n+25,h=>absurd h (by omega)
structure Pw (w:zA):Prop where
 prim:w.var? zF "kingpost/root.primes" =some prV
theorem Pw.below {w w':zA} (h:Pw w) (hb:qL w w'):Pw w':=by
 have hg:Tryz.prog.globalNamed "kingpost/root.primes" =some 1:=by kernel_rfl
 exact⟨var?_below hb hg (zv5 hg h.prim) h.prim⟩
theorem Pw.block {w:zA} (h:Pw w):∃t fz,w.heap[1]? =some (.cells prV t fz):=by
 have hg:Tryz.prog.globalNamed "kingpost/root.primes" =some 1:=by kernel_rfl
 have hv:=h.prim;unfold World.var? at hv;rw[hg] at hv;simp only[Option.bind_some] at hv
 cases hb:w.heap[(1:Nat)]? with
 |none=>rw[hb] at hv;cases hv
 |some x=>
  rw[hb] at hv
  cases x with
  |cells cs t fz=>simp at hv;subst hv;exact⟨t,fz,rfl⟩
  |_=>cases hv
theorem z1s {c l p:Nat} (hp:p*p∣l):(c*p)*(c*p)*(l/(p*p))=c*c*l:=by
 obtain⟨k,rfl⟩:=hp;by_cases h:p*p=0
 ·rw[h];simp
 ·rw[Nat.mul_div_cancel_left _ (by omega)]
  simp only[Nat.mul_left_comm,yP]
end
section
open Go.RowKit Go.Shelf Lib Str Limb
open Go.ChangeShapes Go.WideShapes Go.ChangeAt
theorem zf9 {H:Type} {enc:TypeId×Value->H} {a:Assume} {C:Checked} {os:Os} {f:FuncId} {fn:Func} {s:ChangeSpec} {conds:List PathCond} {apart fresh handsOn again:Bool} {X:zA->Array Value->Prop}
 (hX:∀(w w':zA) (args:Array Value),w.heap=w'.heap->X w args->X w' args)
 (own:ownKnob C.prog.godebug=none) (started:os.Started) (noInit:C.prog.inits.idxOf? f=none) (hfn:C.prog.funcs[f]? =some fn)
 (witness:∃(w:zA) (tape:Tape) (i:Input),w.os=os/\(w.forCall tape i).Shaped C.prog/\i.vars=[]/\Input.okWide C.prog (w.forCall tape i) .any w.heap.size f i/\
   ((s.pre enc C.prog fn conds apart (w.forCall tape i).memory i.args/\X (w.forCall tape i).memory i.args)/\sizedMet enc C.prog fn (OpenSpec.ofChange s) apart (w.forCall tape i).memory i.args)/\a.holds C.prog (lone (Frame.enter C.prog f i.args .normal) [] (w.forCall tape i)))
 (contract:∀(W:zA) (args:Array Value) (ds gs:List (DataW H)) (before:List MemPlace) (base:Nat),
   (∀(j:Nat) t v,fn.params[j]? =some t->args[j]? =some v->Value.okWide C.prog W .any base t v)->
   DataW.Whole enc C.prog fn.params.toList s.vars apart W args.toList ds gs before->X W args->W.ShapedOpen C.prog->
   zC C.prog f args W λe W'=>∃v,e=.returned v/\s.post enc C.prog fn apart fresh handsOn again W args v W'):
 ReturnsInHanded a C os f .any (λw args=>(s.pre enc C.prog fn conds apart w args/\X w args)/\sizedMet enc C.prog fn (OpenSpec.ofChange s) apart w args) (s.post enc C.prog fn apart fresh handsOn again):=by
 refine returnsInHanded_of_calls own started noInit witness ?_;rintro w tape i _ hsh _ ⟨_,_,_,fn',hfn',_,_,_,_,hval⟩ ⟨⟨⟨ds,gs,before,hw,_⟩,hx⟩,_⟩ _;obtain rfl:fn'=fn:=Option.some.inj (hfn'.symm.trans hfn);refine(contract (w.forCall tape i) i.args ds gs before w.heap.size hval (DataW.Whole.of_heap (w':=w.forCall tape i) (by rfl) hw) (hX _ _ _ (by rfl) hx) hsh).mono ?_;rintro e W' ⟨v,rfl,hp⟩;exact ChangeSpec.post_blind hp
theorem zp7 {H:Type} {enc:TypeId×Value->H} {P:Program} {w:zA} {base:Nat} {sp:Nat->Bool} {held:Bool} {fuel:Nat} {t e:TypeId} {n:Nat} {cs:List Value} {ss:List (List UInt8)} {p:List MemPlace}
 (ht:P.underlying t=some (.array n e)) (he:P.underlying e=some .string) (hce:P.cellsOf e=1) (hct:P.cellsOf t=n) (hsl:ss.length=n)
 (h:DataW.trod enc P w base sp held fuel t cs=some (.agg (ss.map λs=>.lit (.string s)),p)):cs=ss.map λs=>Value.string ⟨s.toArray⟩:=by
 have hcl:cs.length=n:=by
  cases fuel with
  |zero=>simp[DataW.trod] at h
  |succ fuel=>
   have h0:=h;simp only[DataW.trod,ht,hce,hct,Nat.mul_one] at h0;split at h0
   ·rename_i hl;exact hl
   ·cases h0
 apply List.ext_getElem?;intro i;by_cases hi:i<n
 ·obtain⟨fu,d,q,hd,htr⟩:=array_elem ht h i hi
  rw[hce] at htr;obtain⟨s,hs,hx,_⟩:=DataW.trod_string he htr;simp only[Prod.mk.injEq] at hx;obtain⟨rfl,_⟩:=hx;have h1:cs[i]? =some (.string s):=by
   have:=congrArg (·[0]?) hs;simpa [List.getElem?_take,List.getElem?_drop] using this
  rw[List.getElem?_map,Option.map_eq_some_iff] at hd;obtain⟨l,hl,e⟩:=hd;simp only[DataW.lit.injEq,Lit.string.injEq] at e;rw[h1,List.getElem?_map,hl,e];rfl
 ·rw[List.getElem?_eq_none (by omega),List.getElem?_eq_none (by simp;omega)]
theorem z0v {l:List (String×DataW Unit)} {W:zA} (hL:laidMet zF l W) (hm:("internal/strconv.uint64pow10",Rows.laid_internal_strconv_uint64pow10)∈l) (hs:W.ShapedOpen zF):Wd W:=by
 obtain⟨g,t,cs,fuel,p,hg,ht,hv,hd⟩:=Lib.laidMet.reads hL hm;obtain rfl:g=3:=Option.some.inj (hg.symm.trans (by kernel_rfl));obtain rfl:t=323:=Option.some.inj (ht.symm.trans (by kernel_rfl));have e:(Rows.laid_internal_strconv_uint64pow10:DataW Unit)=Lib.tabData .u64 Lib.pow10Tab:=by kernel_rfl
 rw[e] at hd;have hc:=Lib.cells_of_tab (n:=20) Tryz.underlying323 Tryz.underlying249 (by kernel_rfl) (by kernel_rfl) hd;refine⟨?_,Proofs.cell_of_shapedOpen_int (t:=3) (zero:= #[.int .i64 0]) hs (of_decide_eq_true (by kernel_rfl)) (by kernel_rfl) rfl (by kernel_rfl) (by kernel_rfl) Tryz.underlying3⟩;unfold Lib.TabIs;rw[hv,<-hc]
theorem zzj:prV.toList=([[50],[51],[53],[55],[49,49],[49,51],[49,55],[49,57],[50,51],[50,57],[51,49],[51,55],[52,49],[52,51],[52,55],[53,51],[53,57],[54,49],[54,55],[55,49],[55,51],[55,57],[56,51],[56,57],[57,55]]:List (List UInt8)).map λs=>Value.string ⟨s.toArray⟩:=by kernel_rfl
theorem z0w {l:List (String×DataW Unit)} {W:zA} (hL:laidMet zF l W) (hm:("kingpost/root.primes",Rows.laid_kingpost_root_primes)∈l):Pw W:=by
 obtain⟨g,t,cs,fuel,p,hg,ht,hv,hd⟩:=Lib.laidMet.reads hL hm;obtain rfl:g=1:=Option.some.inj (hg.symm.trans (by kernel_rfl));obtain rfl:t=268:=Option.some.inj (ht.symm.trans (by kernel_rfl));have e:(Rows.laid_kingpost_root_primes:DataW Unit)=.agg (([[50],[51],[53],[55],[49,49],[49,51],[49,55],[49,57],[50,51],[50,57],[51,49],[51,55],[52,49],[52,51],[52,55],[53,51],[53,57],[54,49],[54,55],[55,49],[55,51],[55,57],[56,51],[56,57],[57,55]]:List (List UInt8)).map λs=>.lit (.string s)):=by kernel_rfl
 rw[e] at hd;have hc:=zp7 (n:=25) Tryz.underlying268 Tryz.underlying9 (by kernel_rfl) (by kernel_rfl) (by decide) hd;obtain rfl:cs=prV:=Array.toList_inj.1 (hc.trans zzj.symm);exact⟨hv⟩
theorem zrj:ownKnob Tryz.prog.godebug=none:=by kernel_rfl
theorem zgh:laidOutB zF=true:=by kernel_rfl
end
section
open Go.RowKit Go.Shelf Lib Str Limb
attribute [local go_sem] Oper.semAt_some
theorem zti (x u v s1 s2:ByteArray) (m d:Int) (hu:(u.toList==[48])=false) (hl:(u.size:Int)+v.size<=17) (hl0:u.size<=17/\v.size<=17)
 (CK:Hid (∀W:zA,Wd W->zC zF 125 #[.slice (some ⟨W.heap.size,0,none⟩) 1 1,.slice (some ⟨W.heap.size+1,0,none⟩) 1 1] ((W.alloc (.cells #[.string x] 22)).alloc (.cells #[.string x] 22)) λe w'=>e=.returned (.int .i64 0)/\zB W.heap.size W w'))
 (O:Hid (qK 127 #[.string x] (.agg #[.string u,.string v])))
 (NU:Hid (qK 172 #[.string u] (.tuple #[.int .i64 m,.bool true])))
 (NV:Hid (qK 172 #[.string v] (.tuple #[.int .i64 d,.bool true])))
 (NN:Hid (∀W:zA,Wd W->Pw W->qJ 173 #[.int .i64 m,.int .i64 d] W (.tuple #[.string s1,.string s2])))
 (w:zA) (HW:Hid (Wd w)) (HP:Hid (Pw w)):
 qJ 122 #[.string x] w (.tuple #[.string s1,.string s2,.int .i64 0]):=by
 have hck:=CK.out w HW.out;have HCK:=hid hck;clear hck CK;have hwl:IntKind.i64.wrap ((u.size:Int)+v.size)=(u.size:Int)+v.size:=zI _ ⟨by omega,by omega⟩;go_enter Tryz.func122,Tryz.ntmps122;go_wp2_with fail;refine HCK.out.mono ?_;rintro e w1 ⟨rfl,hb1⟩;have HB1:=hid hb1;clear hb1 HCK;go_wp2_with fail;refine(O.out w1 (HW.out.below HB1.out)).mono ?_;rintro e w2 ⟨rfl,hb2⟩;have HB2:=qT HB1 hb2;clear hb2 HB1;obtain⟨w3,hw3⟩:∃w3,w3=w2.alloc (.cells #[.string u,.string v] 173):=⟨_,rfl⟩;have ha:qL w2 w3:=by rw[hw3];exact(zM _ w2).alloc (zN _) _
 have A3:w3.heap[w2.heap.size]? =some (.cells #[.string u,.string v] 173 (0,0)):=by rw[hw3];exact zG w2 _
 have HB3:=qT HB2 ha;have c0:w3.cell? ⟨w2.heap.size,0,none⟩=some (.string u):=by rw[zJ A3];rfl
 have c1:w3.cell? ⟨w2.heap.size,1,none⟩=some (.string v):=by rw[zJ A3];rfl
 have C3:=hid (⟨c0,c1⟩:w3.cell? ⟨w2.heap.size,0,none⟩=some (.string u)/\w3.cell? ⟨w2.heap.size,1,none⟩=some (.string v));rw[hw3] at c0 c1;have HW3:=hid hw3;clear hw3 ha A3;go_wp2_with fail;rw[<-HW3.out];clear c0 c1;refine(NU.out w3 (HW.out.below HB3.out)).mono ?_;rintro e w4 ⟨rfl,hb4⟩;have HB4:=qT HB3 hb4;have c0:=(zac hb4).cell C3.out.1;have c1:=(zac hb4).cell C3.out.2;clear hb4 HW3;go_wp2_with fail;refine(NV.out w4 (HW.out.below HB4.out)).mono ?_;rintro e w5 ⟨rfl,hb5⟩;have HB5:=qT HB4 hb5;clear hb5 c0 c1;go_wp2_with fail;refine(NN.out w5 (HW.out.below HB5.out) (HP.out.below HB5.out)).mono ?_;rintro e w6 ⟨rfl,hb6⟩;have HB6:=qT HB5 hb6;clear hb6;go_wp2_with fail;go_ret3;exact⟨rfl,HB6.out⟩
theorem zc5 (n:Nat):numS ((n:Int):Rat)=zD n:=by rw[zha,Str.zad]
theorem zki {n k:Nat} (hk:0<k) (h:n<10^k):(zD n).length<=k:=(zaf n k hk).2 h
theorem z0b (W:zA) (t:TypeId) (x:List UInt8) (q:Rat) (hx:numS q=x):
 RowNums (some ⟨W.heap.size,0,none⟩) 1 (λ_=>q) ((W.alloc (.cells #[St x] t)).alloc (.cells #[St x] t))/\
 RowNums (some ⟨W.heap.size+1,0,none⟩) 1 (λ_=>q) ((W.alloc (.cells #[St x] t)).alloc (.cells #[St x] t)):=by
 have b1:=(Boxed.new W t (St x)).alloc (.cells #[St x] t);have b2:=Boxed.new (W.alloc (.cells #[St x] t)) t (St x);rw[zH] at b2;constructor
 ·intro i hi
  obtain rfl:i=0:=by omega
  exact⟨_,_,rfl,by rw[hx];exact b1.cell⟩
 ·intro i hi
  obtain rfl:i=0:=by omega
  exact⟨_,_,rfl,by rw[hx];exact b2.cell⟩
end
section
theorem ztp {n s x:Nat} (hx:0<x) (hs:s*s<=n) (hsx:s<=x):s<=(x+n/x)/2:=by
 obtain⟨d,rfl⟩:∃d,x=s+d:=⟨x-s,by omega⟩;rw[Nat.le_div_iff_mul_le (by omega)];by_cases h:d<=s
 ·obtain⟨e,rfl⟩:∃e,s=d+e:=⟨s-d,by omega⟩
  have h1:e<=n/(d+e+d):=by
   rw[Nat.le_div_iff_mul_le hx];refine zO ?_ hs;have:(d+e)*(d+e)=e*(d+e+d)+d*d:=by
    simp only[Nat.mul_add,Nat.add_mul,yP d e];omega
   omega
  generalize n/(d+e+d)=q at*
  omega
 ·generalize n/(s+d)=q
  omega
theorem zrf {n x:Nat} (hx:0<x) (h:x<=(x+n/x)/2):x*x<=n:=by
 have h2:x<=n/x:=by
  generalize n/x=q at*
  omega
 exact(Nat.le_div_iff_mul_le hx).1 h2
end
section
open Go.RowKit Go.Shelf Lib Str Limb
attribute [local go_sem] Oper.semAt_some
theorem w64 {z:Int} (h: -9223372036854775808<=z/\z<=9223372036854775807):wrap64 z=z:=by unfold wrap64;omega
theorem znv {n x q:Nat} (hn:n<1000000000000000000) (hx:1<=x) (hx2:x<=n) (hq:n/x=q):wrap64 ((n:Int)/(x:Int))=(q:Int)/\IntKind.i64.wrap ((x:Int)+(q:Int))=(x:Int)+(q:Int)/\
 wrap64 (((x:Int)+(q:Int))/2)=(((x+q)/2:Nat):Int)/\IntKind.i64.wrap ((x:Int)*2)=((x*2:Nat):Int)/\IntKind.i64.wrap ((n:Int).tdiv (x:Int))=(q:Int)/\IntKind.i64.wrap (((x:Int)+(q:Int)).tdiv 2)=(((x+q)/2:Nat):Int):=by
 have hqn:q<=n:=by rw[<-hq];exact Nat.div_le_self _ _
 have e1:(n:Int)/(x:Int)=(q:Int):=by rw[<-hq];exact(Int.natCast_ediv n x).symm
 have e2:((x:Int)+(q:Int))/2=(((x+q)/2:Nat):Int):=by omega
 have e3:(n:Int).tdiv (x:Int)=(q:Int):=by rw[Int.tdiv_eq_ediv_of_nonneg (by omega)];exact e1
 have e4:((x:Int)+(q:Int)).tdiv 2=(((x+q)/2:Nat):Int):=by rw[Int.tdiv_eq_ediv_of_nonneg (by omega)];exact e2
 refine⟨by rw[e1];exact w64 ⟨by omega,by omega⟩,zI _ ⟨by omega,by omega⟩,by rw[e2];exact w64 ⟨by omega,by omega⟩,?_,by rw[e3];exact zI _ ⟨by omega,by omega⟩,by rw[e4];exact zI _ ⟨by omega,by omega⟩⟩;rw[zI _ ⟨by omega,by omega⟩];omega
theorem z12 (t:ByteArray) (n s:Nat) (h0:1<=n) (HN:Hid (n<1000000000000000000)) (HS:Hid (s*s<=n/\n<(s+1)*(s+1)))
 (AT:Hid (∀W:zA,qJ 219 #[.string t] W (.tuple #[.int .i64 (n:Int),.nilIface])))
 (IT:Hid (qK 132 #[.int .i64 (s:Int)] (.string ⟨(zD s).toArray⟩))) (w:zA) (HW:Hid (Wd w)):
 qJ 241 #[.string t] w (.tuple #[St (zD s),.int .i64 0]):=by
 go_enter Tryz.func241,Tryz.ntmps241;go_wp2_with fail;refine(AT.out w).mono ?_;rintro e w1 ⟨rfl,hb1⟩;have HB1:=hid hb1;clear hb1 AT;go_wp2_with fail;go_loopw [6] (λi wr=>∃(x:Nat),1<=x/\x<=n/\i=.int .i64 (x:Int)/\Hid (wr=w1))
  (λi _=>n-(zL i).toNat)
 case atStart=>exact⟨1,zN _,h0,rfl,hid rfl⟩
 case round=>
  obtain⟨x,hx,hxn,rfl,hE⟩:=hrel;obtain rfl:=hE.out.symm;clear hE;have hx0:¬x=0:=by omega
  have HQ:=hid (show ∀q,n/x=q->(x<q->x*2<=n)/\(¬x<q->s<=x) from λq hq=>by
   subst hq;refine⟨λh=>?_,λh=>?_⟩
   ·have h1:x+1<=n/x:=h
    have h2:=(Nat.le_div_iff_mul_le (by omega)).1 h1;have h3:x*2<=(x+1)*x:=by
     rw[yP x 2];exact Nat.mul_le_mul (by omega) (zN _)
    omega
   ·by_cases c:s<=x
    ·exact c
    ·exfalso
     have h1:n/x<x+1:=by omega
     rw[Nat.div_lt_iff_lt_mul (by omega)] at h1;have h2:(x+1)*(x+1)<=s*s:=Nat.mul_le_mul (by omega) (by omega);have h3:(x+1)*x<=(x+1)*(x+1):=Nat.mul_le_mul (zN _) (by omega);have:=HS.out.1;omega)
  obtain⟨q,hq⟩:∃q,n/x=q:=⟨_,rfl⟩;have HQ2:=hid (HQ.out q hq);obtain⟨f1,f2,f3,f4,f5,f6⟩:=znv HN.out hx hxn hq;have HQQ:=hid hq;clear f2 f3 f6 hq HQ;by_cases hlt:x<q
  ·have hltI:(x:Int)<(q:Int):=by omega
   have hn2:=HQ2.out.1 hlt;clear hlt HQ2;go_wp2_with fail;go_roundw
   case rel=>exact⟨x*2,by omega,hn2,by rfl,hid trivial⟩
   case measure=>simp[zL];omega
  ·have hltI:¬(x:Int)<(q:Int):=by omega
   have hsx:=HQ2.out.2 hlt;clear hlt HQ2;go_wp2_with fail;clear f1 f4 f5 hx0 hltI HQQ;go_loopw [6] (λi wr=>∃(x:Nat),1<=x/\x<=n/\s<=x/\i=.int .i64 (x:Int)/\Hid (qL w wr))
    (λi _=>(zL i).toNat)
   case atStart=>exact⟨x,hx,hxn,hsx,rfl,HB1⟩
   case round=>
    clear hx hxn hsx;obtain⟨x,hx,hxn,hsx,rfl,hB⟩:=hrel;have hx0:¬x=0:=by omega
    obtain⟨q,hq⟩:∃q,n/x=q:=⟨_,rfl⟩;obtain⟨f1,f2,f3,f4,f5,f6⟩:=znv HN.out hx hxn hq;have g1:=ztp (by omega) HS.out.1 hsx;have g2:=zrf (n:=n) (x:=x) (by omega);rw[hq] at g1 g2;have g3:(x+q)/2≥x->x=s:=λh=>by
     have h1:=g2 h;by_cases c:x<=s
     ·omega
     ·have:=Nat.mul_le_mul (show s+1<=x by omega) (show s+1<=x by omega)
      have:=HS.out.2;omega
    have G:=hid (⟨g1,g3⟩:_/\_);clear g1 g2 g3 hq;generalize (x+q)/2=y at*
    by_cases hge:x<=y
    ·have hgeI:(x:Int)<=(y:Int):=by omega
     have hxs:=G.out.2 hge;subst hxs;have HI:=hid (IT.out wr (HW.out.below hB.out));clear hge G;go_wp2_with fail;refine HI.out.mono ?_;rintro e w3 ⟨rfl,hb3⟩;have HB3:=hid (hB.out.trans (hb3.mono hB.out.size));clear hb3 HI;go_wp2_with fail;go_ret2;exact⟨rfl,HB3.out⟩
    ·have hgeI:¬(x:Int)<=(y:Int):=by omega
     have hsy:=G.out.1;have hy1:1<=y:=by
      by_cases c:s=0
      ·have:=HS.out.2
       rw[c] at this;omega
      ·omega
     have hyx:y<x:=by omega
     clear hge G;go_wp2_with fail;go_roundw
     case rel=>exact⟨y,hy1,by omega,hsy,by rfl,hB⟩
     case measure=>simp[zL];omega
theorem zyc (n s L K X:Nat) (hK:(L+1)/2=K) (hL:L<=62) (HXK:Hid (X=2^K)) (h2:2<=n) (HN:Hid (n<1000000000000000000)) (HS:Hid (s*s<=n/\n<(s+1)*(s+1))) (HX:Hid (1<=X/\s<=X/\X<=n/\X<=4294967296))
 (BL:Hid (∀W:zA,zC zF 147 #[.int .u64 (n:Int)] W λe w'=>e=.returned (.int .i64 (L:Int))/\w'=W))
 (w:zA):
 zC zF 232 #[.int .i64 (n:Int)] w λe w'=>e=.returned (.int .i64 (s:Int))/\w'=w:=by
 have h2I:¬(n:Int)<2:=by omega
 have hu:IntKind.u64.wrap (n:Int)=(n:Int):=by have:=HN.out;unfold IntKind.wrap;simp[IntKind.signed,IntKind.bits];omega
 have hl1:wrap64 ((L:Int)+1)=(L:Int)+1:=by unfold wrap64;omega
 have hl2:wrap64 (((L:Int)+1).tdiv 2)=(K:Int):=by rw[Int.tdiv_eq_ediv_of_nonneg (by omega)];unfold wrap64;omega
 have hl3:wrap64 (((L:Int)+1)/2)=(K:Int):=by unfold wrap64;omega
 go_enter Tryz.func232,Tryz.ntmps232;go_wp2_with fail;refine(BL.out w).mono ?_;rintro e w1 ⟨rfl,rfl⟩;go_wp2_with fail;have hB0:w1=w1:=rfl;clear hu hl1 hl2 hl3 BL h2I hB0;go_loopw [3] (λi wr=>∃(x:Nat),1<=x/\s<=x/\x<=n/\i=.int .i64 (x:Int)/\Hid (wr=w1))
  (λi _=>(zL i).toNat)
 case atStart=>
  obtain⟨x1,x2,x3,x4⟩:=HX.out;refine⟨X,x1,x2,x3,?_,hid rfl⟩;have e:((X:Nat):Int)=2^K:=by rw[HXK.out];simp
  rw[hK,<-e];congr 1;exact w64 ⟨by omega,by omega⟩
 case round=>
  obtain⟨x,hx,hsx,hxn,rfl,hE⟩:=hrel;obtain rfl:=hE.out.symm;clear hE;have hx0:¬x=0:=by omega
  obtain⟨q,hq⟩:∃q,n/x=q:=⟨_,rfl⟩;obtain⟨f1,f2,f3,f4,f5,f6⟩:=znv HN.out hx hxn hq;have g1:=ztp (by omega) HS.out.1 hsx;have g2:=zrf (n:=n) (x:=x) (by omega);rw[hq] at g1 g2;have g3:(x+q)/2≥x->x=s:=λh=>by
   have h1:=g2 h;by_cases c:x<=s
   ·omega
   ·have:=Nat.mul_le_mul (show s+1<=x by omega) (show s+1<=x by omega)
    have:=HS.out.2;omega
  have G:=hid (⟨g1,g3⟩:_/\_);clear g1 g2 g3 hq;generalize (x+q)/2=y at*
  by_cases hge:x<=y
  ·have hgeI:(x:Int)<=(y:Int):=by omega
   have hxs:=G.out.2 hge;subst hxs;clear hge G;go_wp2_with fail;go_ret;exact⟨rfl,rfl⟩
  ·have hgeI:¬(x:Int)<=(y:Int):=by omega
   have hsy:=G.out.1;have hy1:1<=y:=by
    by_cases c:s=0
    ·have:=HS.out.2
     rw[c] at this;omega
    ·omega
   have hyx:y<x:=by omega
   clear hge G;go_wp2_with fail;go_roundw
   case rel=>exact⟨y,hy1,hsy,by omega,by rfl,hid trivial⟩
   case measure=>simp[zL];omega
theorem zsi:∀(f x:Nat),0<x->x<2^f->2^(bitLenAux f x-1)<=x/\x<2^bitLenAux f x/\1<=bitLenAux f x
 |0,x,h,k=>by simp at k;omega
 |f+1,x,h,k=>by
  unfold bitLenAux;rw[if_neg (by omega)];by_cases c:x=1
  ·subst c
   cases f with
   |zero=>simp[bitLenAux]
   |succ f=>simp[bitLenAux]
  ·have h2:0<x/2:=by omega
   obtain⟨i1,i2,i3⟩:=zsi f (x/2) h2 (by rw[yO] at k;omega);generalize bitLenAux f (x/2)=L at*
   refine⟨?_,?_,by omega⟩
   ·obtain⟨m,rfl⟩:∃m,L=m+1:=⟨L-1,by omega⟩
    rw[show 1+(m+1)-1=m+1 by omega,yO];rw[show m+1-1=m by omega] at i1;omega
   ·rw[Nat.add_comm,yO];omega
theorem ztm (n s:Nat) (hn:n<1000000000000000000) (hs:s*s<=n/\n<(s+1)*(s+1)) (w:zA):
 zC zF 232 #[.int .i64 (n:Int)] w λe w'=>e=.returned (.int .i64 (s:Int))/\w'=w:=by
 by_cases h2:2<=n
 ·obtain⟨b1,b2,b3⟩:=zsi 64 n (by omega) (by omega)
  have hbl:=λW=>Tryz.bits_Len (n:Int) W (by omega) (by omega);rw[Int.toNat_natCast] at hbl;change ∀W:zA,zC zF 147 #[.int .u64 (n:Int)] W λe w'=>e=.returned (.int .i64 ((bitLenAux 64 n:Nat):Int))/\w'=W at hbl;generalize bitLenAux 64 n=L at*
  have hL62:L<=62:=by
   by_cases c:L<=62
   ·exact c
   ·have:2^62<=2^(L-1):=yF (by omega) (by omega)
    omega
  have hL2:2<=L:=by
   by_cases c:2<=L
   ·exact c
   ·have:L=1:=by omega
    subst this;omega
  refine zyc n s L ((L+1)/2) (2^((L+1)/2)) rfl hL62 (hid rfl) h2 (hid hn) (hid hs) (hid ⟨yS (by simp),?_,?_,?_⟩) (hid hbl) w
  ·by_cases c:s<=2^((L+1)/2)
   ·exact c
   ·exfalso
    have h1:=Nat.mul_le_mul (show 2^((L+1)/2)<=s by omega) (show 2^((L+1)/2)<=s by omega);rw[<-Nat.pow_add] at h1;have:2^L<=2^((L+1)/2+(L+1)/2):=yF (by omega) (by omega);omega
  ·exact zO (yF (by omega) (by omega)) b1
  ·have:2^((L+1)/2)<=2^32:=yF (by omega) (by omega)
   omega
 ·have hlt:(n:Int)<2:=by omega
  have hns:n=s:=by
   by_cases c:n=0
   ·subst c
    by_cases d:s=0
    ·omega
    ·have:=Nat.mul_pos (show 0<s by omega) (show 0<s by omega);omega
   ·have h1:n=1:=by omega
    subst h1;by_cases d:s=1
    ·omega
    ·by_cases d0:s=0
     ·subst d0;omega
     ·have:=Nat.mul_le_mul (show 2<=s by omega) (show 2<=s by omega);omega
  subst hns;clear hs hn h2;go_enter Tryz.func232,Tryz.ntmps232;go_wp2_with fail;go_ret;exact⟨rfl,rfl⟩
theorem z7e {n s k:Nat} (hs:s*s<=n) (hn:n<10^(2*k)):s<=10^k:=by
 by_cases c:s<=10^k
 ·exact c
 ·exfalso
  have:=Nat.mul_le_mul (show 10^k<=s by omega) (show 10^k<=s by omega);rw[<-Nat.pow_add,show k+k=2*k by omega] at this;omega
theorem z4b:(zaa B9 2).map I=[I 2]:=by
 rw[<-zwd (r:=2) (by decide)];rfl
theorem z6c (W:zA):Sl (W.alloc (.cells #[I 2] 3)) (.slice (some ⟨W.heap.size,0,none⟩) 1 1) ((zaa B9 2).map I):=by
 rw[z4b];refine⟨some ⟨W.heap.size,0,none⟩,1,rfl,zN _,λi x hx=>⟨W.heap.size,0,rfl,?_⟩⟩;have A:=zG W (.cells #[I 2] 3)
 match i,hx with
 |0,hx=>exact(zJ A 0).trans (by rw[<-hx];rfl)
 |_+1,hx=>cases hx
theorem z7f (t z y:ByteArray) (n s k X:Nat) (HS:Hid (s*s<=n/\n<(s+1)*(s+1))) (hn1:1<=n) (hX:1<=X) (hsX:s<=X) (HL:Hid ((zaa B9 n).length<=400/\(zaa B9 X).length<=400/\(zaa B9 (X+n)).length<=400))
 (ht0:0<t.size) (h45:(((t[0]'ht0).toNat:Int)==45)=false) (h48:(t.toList==[48])=false) (hsz:¬(t.size:Int)<=18) (hsz2:t.size<=1000) (hk:(t.size+1)/2=k)
 (CK:Hid (∀W:zA,qJ 218 #[.string t] W (.int .i64 0)))
 (RD:Hid (∀W:zA,zC zF 163 #[.string t] W λe w'=>∃v,e=.returned (.agg #[.bool false,v])/\Sl w' v ((zaa B9 n).map I)/\zB W.heap.size W w'))
 (RP:Hid (∀W:zA,qJ 181 #[.string ⟨#[48]⟩,.int .i64 (k:Int)] W (.string z)))
 (RX:Hid (∀W:zA,zC zF 163 #[.string y] W λe w'=>∃v,e=.returned (.agg #[.bool false,v])/\Sl w' v ((zaa B9 X).map I)/\zB W.heap.size W w'))
 (hzs:z.size<=1000) (hy:(⟨#[49]⟩:ByteArray)++z=y) (hr:digs (s:Int)<=300) (w:zA) (HW:Hid (Wd w)):
 qJ 182 #[.string t] w (.tuple #[St (zD s),.int .i64 0]):=by
 have hfd:=znj;have q1:IntKind.i64.wrap ((t.size:Int)+1)=(t.size:Int)+1:=zI _ ⟨by omega,by omega⟩;have HKI:=hid (show((t.size:Int)+1)/2=(k:Int) by omega);have HK:=hid hk;have HY:=hid hy;clear hk hy;go_enter Tryz.func182,Tryz.ntmps182;go_wp2_with fail;refine(CK.out w).mono ?_;rintro e w1 ⟨rfl,hb1⟩;have HB1:=hid hb1;clear hb1 CK;go_wp2_with fail;refine(RD.out w1).mono ?_;rintro e w2 ⟨vn,rfl,hvn,hb2⟩;obtain⟨pn,kn,cn,rfl, -⟩:=zbx hvn;have HB2:=qT HB1 hb2;clear hb2 HB1 RD;have HVN:=hid hvn;clear hvn;go_wp2_with fail;simp only[HKI.out];refine(RP.out w2).mono ?_;rintro e w3 ⟨rfl,hb3⟩;have HB3:=qT HB2 hb3;have HVN3:=hid (HVN.out.below hb3);clear hb3 HB2 HVN RP;go_wp2_with fail
 try rw[HY.out]
 refine(RX.out w3).mono ?_;rintro e w4 ⟨vx,rfl,hvx,hb4⟩;obtain⟨px,kx,cx,rfl, -⟩:=zbx hvx;have HB4:=qT HB3 hb4;have HVN4:=hid (HVN3.out.below hb4);clear hb4 HB3 HVN3 RX;have HVX:=hid hvx;clear hvx;clear q1 h45 h48 hsz hsz2;have HT2:=hid (λW=>z6c W);go_wp2_with fail;go_loopg [6] X (λk0 vx wr=>∃(x:Nat) (p:Option Addr) (a c:Nat),Hid (k0=x)/\1<=x/\s<=x/\Hid (x<=X)/\vx=.slice p a c/\Hid (Sl wr (.slice p a c) ((zaa B9 x).map I))/\Hid (Sl wr (.slice pn kn cn) ((zaa B9 n).map I))/\Hid (qL w wr))
 case atStart=>exact⟨X,px,kx,cx,hid rfl,hX,hsX,hid (zN _),rfl,HVX,HVN4,HB4⟩
 case round=>
  clear hX hsX;obtain⟨x,p,a,c,hk0,hx,hsx,hxX,rfl,hvx,hvn,hB⟩:=hrel;obtain⟨l1,l2,l3⟩:=HL.out;have m1:(zaa B9 x).length<=400:=zO (zd6 (by decide) hxX.out) l2;have hq:n/x<=n:=Nat.div_le_self _ _;have m2:(zaa B9 (n/x)).length<=400:=zO (zd6 (by decide) hq) l1;have m3:(zaa B9 (x+n/x)).length<=400:=zO (zd6 (by decide) (by have:=hxX.out;omega)) l3;have m4:(zaa B9 ((x+n/x)/2)).length<=400:=zO (zd6 (by decide) (Nat.div_le_self _ _)) m3;have m5:(zaa B9 2).length<=400:=by have:=congrArg List.length z4b;simp at this;omega
  have g1:=ztp (by omega) HS.out.1 hsx;have g2:=zrf (n:=n) (x:=x) (by omega);have g3:x<=(x+n/x)/2->x=s:=λh=>by
   have h1:=g2 h;by_cases c:x<=s
   ·omega
   ·have:=Nat.mul_le_mul (show s+1<=x by omega) (show s+1<=x by omega)
    have:=HS.out.2;omega
  have hs1:1<=s\/(x+n/x)/2≥0:=.inr (zR _);have HDV:=hid (znf _ _ n x wr hvn.out hvx.out (by omega) (by omega) (by omega));have G:=hid (⟨g1,g3⟩:_/\_);have M:=hid (⟨m1,m2,m3,m4,m5⟩:_/\_/\_/\_/\_);clear l1 l2 l3 m1 m2 m3 m4 m5 hq g1 g2 g3 hs1;go_wp2_with fail;refine HDV.out.mono ?_;rintro e w5 ⟨v1,v2,rfl,hs1,hs2,hb5⟩;obtain⟨p1,k1,c1,rfl, -⟩:=zbx hs1;have HB5:=hid (hB.out.trans (hb5.mono hB.out.size));have HVX5:=hid (hvx.out.below hb5);have HVN5:=hid (hvn.out.below hb5);have HPL:=hid (z09 _ _ x (n/x) w5 HVX5.out hs1 (by have:=M.out.1;omega) (by have:=M.out.2.1;omega));clear hs1 hs2 hb5 hB hvx hvn HDV;go_wp2_with fail;refine HPL.out.mono ?_;rintro e w6 ⟨p2,k2,c2,rfl,hs2,hb6⟩;have HB6:=qT HB5 hb6;have hal:qL w6 (w6.alloc (.cells #[I 2] 3)):=(zM _ w6).alloc (zN _) _;have HVX6:=hid ((HVX5.out.below hb6).below hal);have HVN6:=hid ((HVN5.out.below hb6).below hal);have HD2:=hid (znf _ _ (x+n/x) 2 (w6.alloc (.cells #[I 2] 3)) (hs2.below hal) (z6c w6) (by have:=M.out.2.2.1;omega) (by have:=M.out.2.2.2.2;omega) (by omega));have HB6':=qT HB6 hal;clear hs2 hb6 hal HB5 HVX5 HVN5 HPL;go_wp2_with fail;refine HD2.out.mono ?_;rintro e w7 ⟨v3,v4,rfl,hs3,hs4,hb7⟩;obtain⟨p3,k3,c3,rfl, -⟩:=zbx hs3;have HB7:=hid (HB6'.out.trans (hb7.mono HB6'.out.size));have HVX7:=hid (HVX6.out.below hb7);have HVN7:=hid (HVN6.out.below hb7);have HS3:=hid hs3;have HCM:=hid (zi9 _ _ ((x+n/x)/2) x w7 hs3 HVX7.out (by have:=M.out.2.2.2.1;omega) (by have:=M.out.1;omega));clear hs3 hs4 hb7 HB6 HB6' HVX6 HVN6 HD2
  generalize (x+n/x)/2=y at*
  go_wp2_with fail;refine HCM.out.mono ?_;rintro e w8 ⟨cc,rfl,⟨hc1,hc2⟩,hb8⟩;have HB8:=qT HB7 hb8;have HVX8:=hid (HVX7.out.below hb8);have HVN8:=hid (HVN7.out.below hb8);have HS8:=hid (HS3.out.below hb8);clear hb8 HB7 HVX7 HVN7 HS3 HCM;by_cases hge:x<=y
  ·have hcI:(0:Int)<=cc:=by omega
   have hxs:=G.out.2 hge;have hres:=zez false _ x w8 (HW.out.below HB8.out) HVX8.out (by have:=M.out.1;omega);rw[zkw,hxs,zcf hr,zcg hr,Str.zad] at hres;have HRES:=hid hres;clear hge G hc1 hc2 hres hxs;go_wp2_with fail;refine HRES.out.mono ?_;rintro e w9 ⟨rfl,hb9⟩;have HB9':=qT HB8 hb9;clear hb9 HRES;go_wp2_with fail;go_ret2;exact⟨rfl,HB9'.out⟩
  ·have hcI:¬(0:Int)<=cc:=by omega
   have hsy:=G.out.1;have hy1:1<=y:=by
    by_cases c0:s=0
    ·have h1:=HS.out.2
     rw[c0] at h1;omega
    ·omega
   have hyX:y<=X:=by have:=hxX.out;omega
   have HYX:=hid (show y<x by omega);clear hge G hc1 hc2;go_wp2_with fail;go_roundg y
   case measure=>rw[hk0.out];exact HYX.out
   case rel=>exact⟨y,p3,k3,c3,hid rfl,hy1,hsy,hid hyX,rfl,HS8,HVN8,HB8⟩
theorem z6p (t:ByteArray) (n s:Nat) (ht0:0<t.size) (h45:(((t[0]'ht0).toNat:Int)==45)=false) (h48:(t.toList==[48])=false) (hsz:(t.size:Int)<=18)
 (CK:Hid (∀W:zA,qJ 218 #[.string t] W (.int .i64 0)))
 (RD:Hid (∀W:zA,zC zF 163 #[.string t] W λe w'=>∃v,e=.returned (.agg #[.bool false,v])/\Sl w' v ((zaa B9 n).map I)/\zB W.heap.size W w'))
 (SR:Hid (qK 241 #[.string t] (.tuple #[St (zD s),.int .i64 0]))) (w:zA) (HW:Hid (Wd w)):
 qJ 182 #[.string t] w (.tuple #[St (zD s),.int .i64 0]):=by
 have hfd:=znj;go_enter Tryz.func182,Tryz.ntmps182;go_wp2_with fail;refine(CK.out w).mono ?_;rintro e w1 ⟨rfl,hb1⟩;have HB1:=hid hb1;clear hb1 CK;go_wp2_with fail;refine(RD.out w1).mono ?_;rintro e w2 ⟨vn,rfl,hvn,hb2⟩;obtain⟨pn,kn,cn,rfl, -⟩:=zbx hvn;have HB2:=qT HB1 hb2;clear hb2 HB1 RD hvn;go_wp2_with fail;refine(SR.out w2 (HW.out.below HB2.out)).mono ?_;rintro e w3 ⟨rfl,hb3⟩;have HB3:=qT HB2 hb3;clear hb3;go_wp2_with fail;go_ret2;exact⟨rfl,HB3.out⟩
theorem z7g (t:ByteArray) (ht0:0<t.size) (h45:(((t[0]'ht0).toNat:Int)==45)=false) (h48:(t.toList==[48])=true)
 (CK:Hid (∀W:zA,qJ 218 #[.string t] W (.int .i64 0))) (w:zA):
 qJ 182 #[.string t] w (.tuple #[.string t,.int .i64 0]):=by
 go_enter Tryz.func182,Tryz.ntmps182;go_wp2_with fail;refine(CK.out w).mono ?_;rintro e w1 ⟨rfl,hb1⟩;have HB1:=hid hb1;clear hb1 CK;go_wp2_with fail;go_ret2;exact⟨rfl,HB1.out⟩
theorem z13:∀k:Nat,zD (10^k)=49::List.replicate k 48
 |0=>by show zD 1=[49];rw[zae (by omega)];rfl
 |k+1=>by
  have:=zi4 (n:=10^k) (d:=0) (yS (by simp)) (by omega);rw[Nat.add_zero,yP,<-yO,z13 k] at this;rw[this,List.replicate_succ'];rfl
theorem z7h (a b:List UInt8):((⟨a.toArray⟩:ByteArray)++(⟨b.toArray⟩:ByteArray))=⟨(a++b).toArray⟩:=by
 apply ByteArray.ext;rw[ByteArray.data_append];simp
theorem zvx (n s:Nat) (hs:s*s<=n/\n<(s+1)*(s+1)) (hl:(zD n).length<=200) (w:zA) (hw:Wd w):
 qJ 182 #[St (zD n)] w (.tuple #[St (zD s),.int .i64 0]):=by
 obtain⟨t,ht⟩:∃t:ByteArray,t=⟨(zD n).toArray⟩:=⟨_,rfl⟩;obtain⟨s1,s2,s3,s4⟩:=zco _ (zci n) t ht;obtain⟨c,r,hd,hc1,hc2⟩:=dec_head n;have h45:(((t[0]'s2).toNat:Int)==45)=false:=by
  rw[beq_eq_false_iff_ne,s4 s2];simp only[hd,List.head_cons];omega
 have ck:∀W:zA,qJ 218 #[.string t] W (.int .i64 0):=λW=>by
  have:=zl4 (n:Int) (by unfold digs;rw[Int.natAbs_natCast];omega) W;rw[Str.zad] at this;rw[ht];exact this
 have rd:∀W:zA,zC zF 163 #[.string t] W λe w'=>∃v,e=.returned (.agg #[.bool false,v])/\Sl w' v ((zaa B9 n).map I)/\zB W.heap.size W w':=λW=>by
  have:=zc3 (n:Int) W (by unfold digs;rw[Int.natAbs_natCast];omega);rw[Str.zad,decide_eq_false (by omega),Int.natAbs_natCast] at this;rw[ht];exact this
 show zC _ _ #[.string ⟨(zD n).toArray⟩] _ _;rw[<-ht];by_cases h0:n=0
 ·have hs0:s=0:=by
   by_cases d:s=0
   ·exact d
   ·have:=Nat.mul_pos (show 0<s by omega) (show 0<s by omega);omega
  have h48:(t.toList==[48])=true:=by rw[ht,ByteArray.toList_eq,h0,zae (by omega)];rfl
  have:=z7g t s2 h45 h48 (hid ck) w;rw[hs0];rw[show St (zD 0)=.string t by rw[ht,h0]];exact this
 ·have h48:(t.toList==[48])=false:=zhl ht 0 (by omega) h0
  by_cases hsm:(zD n).length<=18
  ·have hn18:n<1000000000000000000:=(zaf n 18 (by omega)).1 hsm
   refine z6p t n s s2 h45 h48 (by omega) (hid ck) (hid rd) (hid λW hW=>?_) w (hid hw);refine z12 t n s (by omega) (hid hn18) (hid hs) (hid λW=>?_) (hid λW hW=>?_) W (hid hW)
   ·have:=znc (n:Int) (by rw[Str.zad];exact hsm) W
    rw[Str.zad] at this;rw[ht];exact this
   ·have hsn:s<=n:=zO (Nat.le_mul_self s) hs.1
    have:=zb3 (s:Int) (by omega) (by omega) W hW;rw[Str.zad] at this;exact this
  ·obtain⟨k,hk⟩:∃k,(t.size+1)/2=k:=⟨_,rfl⟩
   have hn2:n<10^(2*k):=(zaf n (2*k) (by omega)).1 (by omega);have hk2:k<=101:=by omega
   have hX:=z7e hs.1 hn2;have hrep:=λW=>Tryz.strings_Repeat ⟨#[48]⟩ k W (by omega) (by show 1*k<=_;omega);have b9:∀m,m<10^250->(zaa B9 m).length<=400:=λm hm=>zO (zfv (k:=28) (by decide) (Nat.lt_of_lt_of_le hm (by decide+kernel))) (by omega);have n200:n<10^200:=(zaf n 200 (by omega)).1 hl;have x101:10^k<=10^101:=yF (by omega) hk2;have p1:(10:Nat)^200+10^101<=10^250:=by decide+kernel
   have y1:(⟨#[49]⟩:ByteArray)++⟨(Lib.repeatL [48] k).toArray⟩=⟨(zD (10^k)).toArray⟩:=by
    rw[z13,zhy];exact z7h [49] (List.replicate k 48)
   refine z7f t ⟨(Lib.repeatL [48] k).toArray⟩ ⟨(zD (10^k)).toArray⟩ n s k (10^k) (hid hs) (by omega) (yS (by simp)) hX (hid ⟨b9 _ (by omega),b9 _ (by omega),b9 _ (by omega)⟩) s2 h45 h48 (by omega) (by omega) hk (hid ck) (hid rd) (hid hrep) (hid λW=>?_) ?_ y1 ?_ w (hid hw)
   ·have hx2:10^k<10^102:=Nat.pow_lt_pow_right (by omega) (by omega)
    have:=zc3 ((10^k:Nat):Int) W (by unfold digs;rw[Int.natAbs_natCast];exact zO ((zaf _ 102 (by omega)).2 hx2) (by omega));rw[Str.zad,decide_eq_false (by omega),Int.natAbs_natCast] at this;exact this
   ·show(Lib.repeatL [48] k).toArray.size<=1000
    rw[zhy];simp;omega
   ·unfold digs
    rw[Int.natAbs_natCast];exact zO ((zaf _ 102 (by omega)).2 (Nat.lt_of_le_of_lt (zO hX x101) (Nat.pow_lt_pow_right (by omega) (by omega)))) (by omega)
theorem z6d (x y:Int) (hx:digs x<=300) (hy:digs y<=300) (hxy:digs (x*y)<=300) (w:zA) (hw:Wd w):
 qJ 174 #[St (zE x),St (zE y)] w (St (zE (x*y))):=by
 have hc:=zhk x y hx hy w hw;rw[zcf hxy,zcg hxy] at hc;generalize zE (x*y)=z at*
 have HC:=hid hc;clear hc;go_enter Tryz.func174,Tryz.ntmps174;go_wp2_with fail;refine HC.out.mono ?_;rintro e w1 ⟨rfl,hb⟩;go_wp2_with fail;go_ret;exact⟨rfl,hb⟩
theorem z7j (n:Nat) (hl:17<(zD n).length) (w:zA):
 qJ 172 #[St (zD n)] w (.tuple #[.int .i64 0,.bool false]):=by
 obtain⟨t,ht⟩:∃t:ByteArray,t=⟨(zD n).toArray⟩:=⟨_,rfl⟩;have h17:(17:Int)<(t.size:Int):=by rw[ht];show(17:Int)<((zD n).toArray.size:Int);simp;omega
 show zC _ _ #[.string ⟨(zD n).toArray⟩] _ _;rw[<-ht];clear ht hl;go_enter Tryz.func172,Tryz.ntmps172;go_wp2_with fail;go_ret2;exact⟨rfl,zM _ _⟩
theorem z5v (t r:ByteArray) (n s m:Nat) (b:Bool) (hm:IntKind.i64.wrap ((s:Int)*(s:Int))=(m:Int)) (hb:((m:Int)==(n:Int))=b)
 (NT:Hid (qK 172 #[.string t] (.tuple #[.int .i64 (n:Int),.bool true])))
 (NR:Hid (∀W:zA,zC zF 232 #[.int .i64 (n:Int)] W λe w'=>e=.returned (.int .i64 (s:Int))/\w'=W))
 (IT:Hid (qK 132 #[.int .i64 (s:Int)] (.string r))) (w:zA) (HW:Hid (Wd w)):
 qJ 176 #[.string t] w (.tuple #[.string r,.bool b]):=by
 go_enter Tryz.func176,Tryz.ntmps176;go_wp2_with fail;refine(NT.out w HW.out).mono ?_;rintro e w1 ⟨rfl,hb1⟩;have HB1:=hid hb1;clear hb1 NT;go_wp2_with fail;refine(NR.out w1).mono ?_;rintro e w2 ⟨rfl,hw2⟩;obtain rfl:=hw2.symm;clear hw2;go_wp2_with fail;refine(IT.out w1 (HW.out.below HB1.out)).mono ?_;rintro e w3 ⟨rfl,hb3⟩;have HB3:=qT HB1 hb3;clear hb3;go_wp2_with fail;go_ret2;exact⟨rfl,HB3.out⟩
theorem z7k (t r q:ByteArray) (b:Bool) (hb:(q.toList==t.toList)=b)
 (NT:Hid (∀W:zA,qJ 172 #[.string t] W (.tuple #[.int .i64 0,.bool false])))
 (NR:Hid (qK 182 #[.string t] (.tuple #[.string r,.int .i64 0])))
 (MU:Hid (qK 174 #[.string r,.string r] (.string q))) (w:zA) (HW:Hid (Wd w)):
 qJ 176 #[.string t] w (.tuple #[.string r,.bool b]):=by
 go_enter Tryz.func176,Tryz.ntmps176;go_wp2_with fail;refine(NT.out w).mono ?_;rintro e w1 ⟨rfl,hb1⟩;have HB1:=hid hb1;clear hb1 NT;go_wp2_with fail;refine(NR.out w1 (HW.out.below HB1.out)).mono ?_;rintro e w2 ⟨rfl,hb2⟩;have HB2:=qT HB1 hb2;clear hb2 HB1 NR;go_wp2_with fail;refine(MU.out w2 (HW.out.below HB2.out)).mono ?_;rintro e w3 ⟨rfl,hb3⟩;have HB3:=qT HB2 hb3;clear hb3;go_wp2_with fail;go_ret2;exact⟨rfl,HB3.out⟩
theorem z6f {n s:Nat} (h:s*s<=n):s<=n:=zO (Nat.le_mul_self s) h
theorem zt9 {m n:Nat} (h:m<=n):(zD m).length<=(zD n).length:=by
 have:=(zaf n (zD n).length (List.length_pos_iff.2 (zci n))).1 (zN _);exact(zaf m _ (List.length_pos_iff.2 (zci n))).2 (Nat.lt_of_le_of_lt h this)
theorem z4y (n s:Nat) (hs:s*s<=n/\n<(s+1)*(s+1)) (hl:(zD n).length<=190) (w:zA) (hw:Wd w):
 qJ 176 #[St (zD n)] w (.tuple #[St (zD s),.bool (decide (s*s=n))]):=by
 have hsn:=z6f hs.1;by_cases h17:(zD n).length<=17
 ·have hn17:n<100000000000000000:=(zaf n 17 (by omega)).1 h17
  have hss:=hs.1;refine z5v _ _ n s (s*s) _ (by rw[<-Int.natCast_mul];exact zI _ (by omega)) ?_ (hid λW hW=>zk7 n h17 W hW) (hid λW=>ztm n s (by omega) hs W) (hid λW hW=>?_) w (hid hw)
  ·rw[Bool.eq_iff_iff,beq_iff_eq,decide_eq_true_iff];omega
  ·have:=zb3 (s:Int) (by omega) (by omega) W hW
   rw[Str.zad] at this;exact this
 ·have l1:digs (s:Int)<=190:=by rw[zd9];exact zO (zt9 hsn) hl
  have l2:digs ((s:Int)*(s:Int))<=190:=by rw[<-Int.natCast_mul,zd9];exact zO (zt9 hs.1) hl
  refine z7k _ ⟨(zD s).toArray⟩ ⟨(zD (s*s)).toArray⟩ _ ?_ (hid λW=>z7j n (by omega) W) (hid λW hW=>zvx n s hs (by omega) W hW) (hid λW hW=>?_) w (hid hw)
  ·rw[ByteArray.toList_eq,ByteArray.toList_eq,Bool.eq_iff_iff,beq_iff_eq,decide_eq_true_iff]
   exact⟨λh=>zfk (by simpa using h),λh=>by rw[h]⟩
  ·have:=z6d (s:Int) (s:Int) (by omega) (by omega) (by omega) W hW
   rw[<-Int.natCast_mul,Str.zad,Str.zad] at this;exact this
theorem zhe (n:Nat):numS (n:Rat)=zD n:=by
 have:=zha (n:Int);rw[Str.zad] at this;rw[<-this];rfl
theorem zrg {n k:Nat} (hk:0<k) (h:(zD n).length<=k):sz (n:Rat) k:=by
 have h1:=(zaf n k hk).1 h;have:10^1<=10^k:=yF (by omega) hk;exact⟨by show((n:Int)).natAbs<_;rw[Int.natAbs_natCast];exact h1,by show 1<_;omega⟩
theorem z5x (n d:Nat) (hd:0<d) (h1:(zD n).length<=140) (h2:(zD d).length<=140) (w:zA) (hw:Wd w):
 qJ 177 #[St (zD n),St (zD d)] w (St (numS ((n:Rat)/(d:Rat)))):=by
 have hc:=zoj (n:Rat) (d:Rat) (by
  intro h;have:d=0:=by exact_mod_cast h
  omega) 140 140 (by omega) (by omega) (by omega) (zrg (by omega) h1) (zrg (by omega) h2) w hw
 rw[zhe,zhe] at hc;generalize numS ((n:Rat)/(d:Rat))=z at*
 have HC:=hid hc;clear hc;go_enter Tryz.func177,Tryz.ntmps177;go_wp2_with fail;refine HC.out.mono ?_;rintro e w1 ⟨rfl,hb⟩;go_wp2_with fail;go_ret;exact⟨rfl,hb⟩
theorem z4z (u v r1 r2 f:ByteArray) (b1 b2:Bool)
 (E1:Hid (qK 176 #[.string u] (.tuple #[.string r1,.bool b1])))
 (E2:Hid (qK 176 #[.string v] (.tuple #[.string r2,.bool b2])))
 (FR:Hid (b1=true->b2=true->qK 177 #[.string r1,.string r2] (.string f))) (w:zA) (HW:Hid (Wd w)):
 qJ 126 #[.agg #[.string u,.string v]] w (.tuple #[.string (if(b1&&b2)=true then f else⟨#[]⟩),.bool (b1&&b2)]):=by
 obtain⟨W1,hW1⟩:∃W1,W1=w.alloc (.cells #[.string u,.string v] 173):=⟨_,rfl⟩;have hb1:qL w W1:=by rw[hW1];exact(zM _ w).alloc (zN _) _
 have A:W1.heap[w.heap.size]? =some (.cells #[.string u,.string v] 173 (0,0)):=by rw[hW1];exact zG w _
 have a0:W1.cell? ⟨w.heap.size,0,none⟩=some (.string u):=by rw[zJ A];rfl
 have a1:W1.cell? ⟨w.heap.size,1,none⟩=some (.string v):=by rw[zJ A];rfl
 have HA:=hid (⟨a0,a1⟩:W1.cell? ⟨w.heap.size,0,none⟩=some (.string u)/\W1.cell? ⟨w.heap.size,1,none⟩=some (.string v));have HB:=hid hb1;rw[hW1] at a0 a1;have HW1:=hid hW1;clear hW1 hb1 A;go_enter Tryz.func126,Tryz.ntmps126;go_wp2_with fail;rw[<-HW1.out];refine(E1.out W1 (HW.out.below HB.out)).mono ?_;rintro e w2 ⟨rfl,hb2⟩;have HB2:=qT HB hb2;have g0:=(zac hb2).cell HA.out.1;have g1:=(zac hb2).cell HA.out.2;clear hb2 a0 a1;go_wp2_with fail;refine(E2.out w2 (HW.out.below HB2.out)).mono ?_;rintro e w3 ⟨rfl,hb3⟩;have HB3:=qT HB2 hb3;clear hb3 g0 g1;cases b1
 ·go_wp2_with fail
  all_goals first|exact(zzU ‹_›).elim|skip
  go_ret2;exact⟨rfl,HB3.out⟩
 ·cases b2
  ·go_wp2_with fail
   all_goals first|exact(zzU ‹_›).elim|skip
   go_ret2;exact⟨rfl,HB3.out⟩
  ·have HF:=hid (FR.out rfl rfl w3 (HW.out.below HB3.out))
   go_wp2_with fail
   all_goals first|exact(zzU ‹_›).elim|skip
   refine HF.out.mono ?_;rintro e w4 ⟨rfl,hb4⟩;have HB4:=qT HB3 hb4;clear hb4;go_wp2_with fail;go_ret2;exact⟨rfl,HB4.out⟩
theorem z6q (n d sn sd:Nat) (hd:0<d) (hn:sn*sn<=n/\n<(sn+1)*(sn+1)) (hd2:sd*sd<=d/\d<(sd+1)*(sd+1)) (h1:(zD n).length<=190) (h2:(zD d).length<=190) (w:zA) (hw:Wd w):
 qJ 126 #[.agg #[St (zD n),St (zD d)]] w (.tuple #[.string (if(decide (sn*sn=n)&&decide (sd*sd=d))=true then⟨(numS ((sn:Rat)/(sd:Rat))).toArray⟩ else⟨#[]⟩),.bool (decide (sn*sn=n)&&decide (sd*sd=d))]):=by
 refine z4z _ _ ⟨(zD sn).toArray⟩ ⟨(zD sd).toArray⟩ _ _ _ (hid λW hW=>z4y n sn hn h1 W hW) (hid λW hW=>z4y d sd hd2 h2 W hW) (hid λ_ hb W hW=>?_) w (hid hw);have hsd:0<sd:=by
  by_cases c:sd=0
  ·have:=hd2.2;rw[c] at this;omega
  ·omega
 have half:∀s m:Nat,s*s<=m->(zD m).length<=190->(zD s).length<=140:=λs m h hm=>by
  have k1:m<10^190:=(zaf m 190 (by omega)).1 hm;refine(zaf s 140 (by omega)).2 ?_;by_cases c:s<10^140
  ·exact c
  ·exfalso
   have:=Nat.mul_le_mul (show 10^140<=s by omega) (show 10^140<=s by omega);have e:(10:Nat)^190<=10^140*10^140:=by decide+kernel
   omega
 exact z5x sn sd hsd (half _ _ hn.1 h1) (half _ _ hd2.1 h2) W hW
theorem z40 (W:zA) (t:TypeId) (p q:Rat):
 RowNums (some ⟨W.heap.size,0,none⟩) 2 (λi=>if i=0 then p else q) ((W.alloc (.cells #[St (numS p),St (numS q)] t)).alloc (.cells #[St (numS p),St (numS q)] t))/\
 RowNums (some ⟨W.heap.size+1,0,none⟩) 2 (λi=>if i=0 then p else q) ((W.alloc (.cells #[St (numS p),St (numS q)] t)).alloc (.cells #[St (numS p),St (numS q)] t)):=by
 have A1:=(Below.heap_alloc (W.alloc (.cells #[St (numS p),St (numS q)] t)) (.cells #[St (numS p),St (numS q)] t) W.heap.size (by simp)).trans (zG W (.cells #[St (numS p),St (numS q)] t (0,0)));have A2:=zG (W.alloc (.cells #[St (numS p),St (numS q)] t)) (.cells #[St (numS p),St (numS q)] t (0,0));rw[zH] at A2;constructor
 ·intro i hi
  refine⟨_,_,rfl,?_⟩;rw[zJ A1]
  match i,hi with
  |0,_|1,_=>rfl
 ·intro i hi
  refine⟨_,_,rfl,?_⟩;rw[zJ A2]
  match i,hi with
  |0,_|1,_=>rfl
theorem z6r (x y a u v r:ByteArray) (is:Bool) (hy:(y.toList==[48])=false)
 (CK:Hid (∀W:zA,Wd W->zC zF 125 #[.slice (some ⟨W.heap.size,0,none⟩) 2 2,.slice (some ⟨W.heap.size+1,0,none⟩) 2 2] ((W.alloc (.cells #[.string x,.string y] 22)).alloc (.cells #[.string x,.string y] 22)) λe w'=>e=.returned (.int .i64 0)/\zB W.heap.size W w'))
 (DV:Hid (qK 32 #[.string x,.string y] (.tuple #[.string a,.int .i64 0])))
 (OF:Hid (qK 127 #[.string a] (.agg #[.string u,.string v])))
 (RT:Hid (qK 126 #[.agg #[.string u,.string v]] (.tuple #[.string r,.bool is]))) (w:zA) (HW:Hid (Wd w)):
 qJ 83 #[.string x,.string y] w (.tuple #[.string r,.bool is,.int .i64 0]):=by
 have HC:=hid (CK.out w HW.out);clear CK;go_enter Tryz.func83,Tryz.ntmps83;go_wp2_with fail;refine HC.out.mono ?_;rintro e w2 ⟨rfl,hb2⟩;have HB2:=hid hb2;clear hb2 HC;go_wp2_with fail;refine(DV.out w2 (HW.out.below HB2.out)).mono ?_;rintro e w3 ⟨rfl,hb3⟩;have HB3:=qT HB2 hb3;clear hb3 HB2 DV;go_wp2_with fail;refine(OF.out w3 (HW.out.below HB3.out)).mono ?_;rintro e w4 ⟨rfl,hb4⟩;have HB4:=qT HB3 hb4;clear hb4 HB3 OF;go_wp2_with fail;refine(RT.out w4 (HW.out.below HB4.out)).mono ?_;rintro e w5 ⟨rfl,hb5⟩;have HB5:=qT HB4 hb5;clear hb5 HB4 RT;go_wp2_with fail;go_ret3;exact⟨rfl,HB5.out⟩
theorem zvz (p q:Rat) (hp:0<=p) (hq:0<q) (sp:sz p 90) (sq:sz q 90) (sn sd:Nat) (hn:sn*sn<=(p/q).num.natAbs/\(p/q).num.natAbs<(sn+1)*(sn+1)) (hd:sd*sd<=(p/q).den/\(p/q).den<(sd+1)*(sd+1)) (w:zA) (hw:Wd w):
 qJ 83 #[St (numS p),St (numS q)] w (.tuple #[.string (if(decide (sn*sn=(p/q).num.natAbs)&&decide (sd*sd=(p/q).den))=true then⟨(numS ((sn:Rat)/(sd:Rat))).toArray⟩ else⟨#[]⟩),.bool (decide (sn*sn=(p/q).num.natAbs)&&decide (sd*sd=(p/q).den)),.int .i64 0]):=by
 have hq0:q≠0:=by grind
 have hpn:0<=p.num:=Rat.num_nonneg.2 hp;have hqn:0<=q.num:=Rat.num_nonneg.2 (Rat.le_of_lt hq);have h0:0<=p/q:=by rw[Rat.div_def];exact Rat.mul_nonneg hp (Rat.le_of_lt (Rat.inv_pos.2 hq))
 have han:0<=(p/q).num:=Rat.num_nonneg.2 h0;have okp:=zd0 (by omega) (by omega) sp;have okq:=zd0 (by omega) (by omega) sq;have sa:sz (p/q) 180:=z8t hq0 sp sq;have oka:=zd0 (by omega) (by omega) sa;have da:=zok (k:=180) (by omega) sa;have dp:=zok (k:=90) (by omega) sp;have dq:=zok (k:=90) (by omega) sq;refine z6r ⟨(numS p).toArray⟩ ⟨(numS q).toArray⟩ ⟨(numS (p/q)).toArray⟩ ⟨(zE (p/q).num).toArray⟩ ⟨(zD (p/q).den).toArray⟩ _ _ ?_ (hid λW hW=>?_) (hid λW hW=>zoj p q hq0 90 90 (by omega) (by omega) (by omega) sp sq W hW) (hid λW hW=>zio (p/q) oka W hW) (hid λW hW=>?_) w (hid hw)
 ·rw[ByteArray.toList_eq,beq_eq_false_iff_ne]
  exact λh=>hq0 ((zpy q).1 (by simpa using h))
 ·obtain⟨t1,t2⟩:=z40 W 22 p q
  have hal:qL W ((W.alloc (.cells #[St (numS p),St (numS q)] 22)).alloc (.cells #[St (numS p),St (numS q)] 22)):=((zM _ W).alloc (zN _) _).alloc (by simp) _;refine(zji _ _ 2 2 2 2 _ _ (by omega) (by omega) (hid λi _ W hW=>?_) (hid λi _ W hW=>?_) (hid λi _=>?_) (hid λi _ W=>?_) _ (hid (hW.below hal)) (hid t1) (hid t2)).mono ?_
  ·show zC _ _ #[St (numS (if i=0 then p else q))] _ _
   split
   ·exact zfj p okp W hW
   ·exact zfj q okq W hW
  ·by_cases c:i=0
   ·simp only[c,if_true];exact zio p okp W hW
   ·simp only[c,if_false];exact zio q okq W hW
  ·by_cases c:i=0
   ·simp only[c,if_true];exact dp
   ·simp only[c,if_false];exact dq
  ·by_cases c:i=0
   ·simp only[c,if_true];exact zma p hpn W
   ·simp only[c,if_false];exact zma q hqn W
  ·rintro e w' ⟨rfl,hb⟩
   exact⟨rfl,hal.trans (hb.mono hal.size)⟩
 ·have hi:zE (p/q).num=zD (p/q).num.natAbs:=by
   have:=Str.zad (p/q).num.natAbs;rw[Int.natAbs_of_nonneg han] at this;exact this
  rw[hi];exact z6q (p/q).num.natAbs (p/q).den sn sd (p/q).den_pos hn hd (by have:=da.1;unfold digs at this;omega) (by have:=da.2;omega) W hW
end
end Go.Proofs.YtheinkfbiedidaaGreatDoor
