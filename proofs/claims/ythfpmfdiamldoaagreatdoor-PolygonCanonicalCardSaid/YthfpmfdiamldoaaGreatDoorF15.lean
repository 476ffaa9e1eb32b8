/- The law of AcB inside a fence: operations may be calls of yield. -/
import Derived.Test.YthfpmfdiamldoaaGreatDoorF14
import Derived.OwnWalkIn
set_option maxRecDepth 100000
set_option maxHeartbeats 8000000
open Go renaming World → zA
open Go.RowKit renaming Below → zB, intOf → zL
open Go.Proofs.Tryz renaming prog → zF
open Go.World renaming alloc_heap_new → zG
open Go.IntWalk renaming i64_in → zI
open Go.RowKit.Below renaming refl → zM
open Nat renaming le_refl → zN, mod_lt → zP, mod_eq_of_lt → zQ
open List renaming size_toArray → zZ, length_cons → yA, getElem?_eq_getElem → yB, nil_append → yI, cons_append → yM
namespace Go.Proofs.YthfpmfdiamldoaaGreatDoor
section
open Go
variable {F:Fence} {n:Nat} {P:Program} {ops:Array Oper} {β:Type}
def zho (F:Fence) (n:Nat) (P:Program) (C:Value->zA->Prop):Result Next->Prop
 | .ok (.value u) w'=>C u w'
 | .ok .skip w'=>C undef w'
 | .ok (.enter f args) w'=>(F.depth.isSome=true->1<=n)/\CallsIn F (n-1) P f args w' (λe w''=>∃v,e=.returned v/\C v w'')
 | .ok (.round l f tmps assign body) w'=>(F.depth.isSome=true->1<=n)/\RoundIn F (n-1) P l f tmps assign body w' (λe w''=>∃v,e=.returned v/\C v w'')
 |_=>False
theorem zw5 {o:Oper} {a:Act} {w:zA} {C:Value->zA->Prop} {K:Act->zA->Prop} {Q:Exit->Act->zA->Prop} (hF:∀f,F.fn f) (hro:F.round=none) (hK:∀v w',C v w'->K (a.put o.dst v) w') (h:zho F n P C ((execOp a.eval o).run P w)):o.wpIn F n P a w K Q:=by
 refine⟨λf _=>hF f,?_⟩
 rw[hro,Oper.semAt_none]
 generalize (execOp a.eval o).run P w=r at*
 cases r with
 |ok x w'=>
  cases x<;>simp only[zho] at h<;>simp only[Oper.uponIn]
  ·exact hK _ _ h
  ·exact hK _ _ h
  ·exact⟨h.1,CallsIn.mono h.2 λe w'' ⟨v,he,hc⟩=>by subst he;exact hK _ _ hc⟩
  ·exact⟨h.1,RoundIn.mono h.2 λe w'' ⟨v,he,hc⟩=>by subst he;exact hK _ _ hc⟩
 |halt x w'=>simp only[zho] at h
def z1t (F:Fence) (n:Nat) (P:Program) (ops:Array Oper) (vs:β->Nat->Value) (C:β->Array Bool->zA->Prop) (i:Nat) (o:Oper) (a:Act) (b:β):Prop:=
 ∀L w,AcAt ops i L->C b L w->if Region.wanted o (yielded ops a.tmps) then zho F n P (zgx vs C i L b) ((execOp a.eval o).run P w) else zgx vs C i L b undef w
theorem zs8 (hF:∀f,F.fn f) (hro:F.round=none) {Q:Exit->Act->zA->Prop} {C:β->Array Bool->zA->Prop} (hB:(acB ops&&zfd ops)=true) (vs:β->Nat->Value) (a:Act)
 (step:∀b i o,ops[i]? =some o->z1t F n P ops vs C i o (zax ops (vs b) a (zbw ops.size i) ops.size) b)
 (hend:∀b L w,(∀i,i<ops.size->L.getD i false=true)->C b L w->Q .normal (zax ops (vs b) a (zbw ops.size ops.size) ops.size) w):
 ∀(fuel:Nat) (L:Array Bool) (w:zA) (b:β),L.size=ops.size->zoe ops L->((List.range ops.size).filter λi=>!L.getD i false).length<=fuel->C b L w->wpAnyIn F n P .any ops Q fuel L (zax ops (vs b) a L ops.size) w:=by
 obtain⟨hsel,hdist,hlook,hback⟩:=zmq hB
 have hq:∀b L w,(∀i,i<ops.size->L.getD i false=true)->C b L w->Q .normal (zax ops (vs b) a L ops.size) w:=by
  intro b L w hall hC
  have e:zax ops (vs b) a L ops.size=zax ops (vs b) a (zbw ops.size ops.size) ops.size:=by
   have:∀k,k<=ops.size->zax ops (vs b) a L k=zax ops (vs b) a (zbw ops.size ops.size) k:=by
    intro k
    induction k with
    |zero=>intro _;rfl
    |succ k ih=>
     intro hk
     simp only[zax]
     rw[ih (by omega),hall k (by omega),zd5]
     simp[show k<ops.size by omega]
   exact this _ (zN _)
  rw[e];exact hend b L w hall hC
 have hready:∀L,L.size=ops.size->Region.ready .any ops L=[]->∀i,i<ops.size->L.getD i false=true:=by
  intro L hsz h0 i
  induction i using Nat.strongRecOn with
  |_ i ih=>
   intro hi
   cases hl:L.getD i false with
   |true=>rfl
   |false=>
    have hm:i∈Region.ready .any ops L:=by
     refine mem_ready.2 ⟨getD_in (by omega) hl,ops[i],by simp[hi],λe he hb=>?_⟩
     have hlt:=hback i (ops[i]) (show ops[i]? =some (ops[i]) from Array.getElem?_eq_getElem hi) e he hb
     exact ih e.on hlt (Nat.lt_trans hlt hi)
    rw[h0] at hm;cases hm
 intro fuel
 induction fuel with
 |zero=>
  intro L w b hsz hcl hcount hC
  have hall:∀i,i<ops.size->L.getD i false=true:=by
   intro i hi
   cases hl:L.getD i false with
   |true=>rfl
   |false=>
    have:i∈(List.range ops.size).filter λi=>!L.getD i false:=List.mem_filter.2 ⟨List.mem_range.2 hi,by rw[hl];rfl⟩
    rw[List.length_eq_zero_iff.1 (Nat.le_zero.1 hcount)] at this;cases this
  refine⟨?_,hq b L w hall hC⟩
  apply List.eq_nil_iff_forall_not_mem.2
  intro i hi
  obtain⟨h1,o,ho,_⟩:=mem_ready.1 hi
  have:=hall i (Array.getElem?_eq_some_iff.1 ho).1
  rw[getD_both h1] at this;cases this
 |succ fuel ih=>
  intro L w b hsz hcl hcount hC
  refine⟨λh0=>hq b L w (hready L hsz h0) hC,λi hi=>?_⟩
  obtain⟨h1,o,ho,hall⟩:=mem_ready.1 hi
  have hin:i<ops.size:=(Array.getElem?_eq_some_iff.1 ho).1
  have hLi:=getD_both h1
  have hdone:∀j,Region.waitsFor .any ops i j=true->L.getD j false=true:=by
   intro j hw
   obtain⟨o',ho',e,he,hb,rfl⟩:=Region.waitsFor_spec hw
   have:o'=o:=Option.some.inj (ho'.symm.trans ho)
   subst this
   exact hall e he hb
  have hopen:∀j,Region.waitsFor .any ops j i=true->L.getD j false=false:=by
   intro j hw
   cases hl:L.getD j false with
   |false=>rfl
   |true=>rw[hcl j i hl hw] at hLi;cases hLi
  have hat:AcAt ops i L:=⟨hsz,hLi,hdone,hcl⟩
  have hst:=step b i o ho L w hat hC
  have hset:=λb'=>zic (vs b') a L i (by omega) hLi (λj d hne hd hj=>by
   rcases Nat.lt_or_ge j ops.size with hjn|hjn
   ·exact hdist i j d hin hjn (Ne.symm hne) hj hd
   ·simp[zcr,Array.getElem?_eq_none hjn] at hj) ops.size
  simp only[if_pos hin] at hset
  have hsame:=zit (ops:=ops) (a:=zax ops (vs b) a L ops.size) (b:=zax ops (vs b) a (zbw ops.size i) ops.size) (o:=o) (λcs b=>Region.noSelect_spec hsel i o cs b ho) (λt ht=>by
   refine zib (vs b) a L _ t ops.size λj hj hd=>?_
   rw[zd5]
   by_cases hji:j=i
   ·subst hji;rw[hLi];simp
   ·have:=hlook i j t hin hj (Ne.symm hji) hd (by simpa [zi8,ho] using ht)
    rcases this with⟨h2,h3⟩|⟨h2,h3⟩
    ·rw[hdone j h3];simp[hj,h2]
    ·rw[hopen j h3];simp;omega)
  have hnext:∀v w',zgx vs C i L b v w'->wpAnyIn F n P .any ops Q fuel (L.setIfInBounds i true) ((zax ops (vs b) a L ops.size).put o.dst v) w':=by
   rintro v w' ⟨b',hagree,rfl,hC'⟩
   have hd:o.dst=zcr ops i:=by simp[zcr,ho]
   rw[hd,ziw (vs b) (vs b') a L (λj hj=>(hagree j hj).symm) ops.size,<-hset b']
   refine ih _ w' b' (by simpa using hsz) ?_ ?_ hC'
   ·intro x y hx hw
    rw[zdp L i _ (by omega)] at hx⊢
    split
    ·rfl
    ·split at hx
     ·rename_i h;subst h;exact hdone y hw
     ·exact hcl x y hx hw
   ·have e:((List.range ops.size).filter λx=>!(L.setIfInBounds i true).getD x false)=((List.range ops.size).filter λx=>!L.getD x false).filter λx=>decide (x≠i):=by
     rw[List.filter_filter]
     refine List.filter_congr λx _=>?_
     rw[zdp L i x (by omega)]
     by_cases h:i=x
     ·subst h;simp
     ·simp[h,Ne.symm h]
    rw[e]
    have:=(List.length_filter_lt_length_iff_exists (l:=(List.range ops.size).filter λx=>!L.getD x false) (p:=λx=>decide (x≠i))).2 ⟨i,List.mem_filter.2 ⟨List.mem_range.2 hin,by rw[hLi];rfl⟩,by simp⟩
    omega
  unfold wpOpIn
  simp only[ho]
  rw[hsame.2]
  by_cases hw:Region.wanted o (yielded ops (zax ops (vs b) a (zbw ops.size i) ops.size).tmps)=true
  ·rw[if_pos hw] at hst⊢
   rw[<-hsame.1] at hst
   exact zw5 hF hro hnext hst
  ·rw[if_neg hw] at hst⊢
   exact⟨λf _=>hF f,hnext _ _ hst⟩
def zt3 (F:Fence) (n:Nat) (P:Program) (ops:Array Oper) (vs:β->Nat->Value) (C:β->(Nat->Bool)->zA->Prop) (i:Nat) (o:Oper) (a:Act) (b:β):Prop:=
 ∀f w,AcF ops i f->C b f w->
  if Region.wanted o (yielded ops a.tmps) then zho F n P (zhn vs C i f b) ((execOp a.eval o).run P w) else zhn vs C i f b undef w
def AcLN (F:Fence) (n:Nat) (P:Program) (ops:Array Oper) (vs:β->Nat->Value) (C:β->(Nat->Bool)->zA->Prop) (K:Act->zA->Prop) (b:β):Nat->List Oper->Act->Prop
 |_,[],a=>∀f w,(∀i,i<ops.size->f i=true)->C b f w->K a w
 |k,o::rest,a=>zt3 F n P ops vs C k o a b/\AcLN F n P ops vs C K b (k+1) rest (a.put o.dst (vs b k))
section
variable {vs:β->Nat->Value} {C:β->(Nat->Bool)->zA->Prop} {K:Act->zA->Prop} {k:Nat} {o:Oper} {rest:List Oper} {a:Act} {b:β}
theorem z1u (h:∀f w,(∀i,i<ops.size->f i=true)->C b f w->K a w):AcLN F n P ops vs C K b k [] a:=h
theorem zct (v:Value) (hv:vs b k=v) (hw:Region.wanted o (yielded ops a.tmps)=true)
 (hset:∀f w,C b f w->C b (λj=>if k=j then true else f j) w)
 (hy:∀f w,AcF ops k f->C b f w->(execOp a.eval o).run P w=.ok (.value v) w)
 (h:AcLN F n P ops vs C K b (k+1) rest (a.put o.dst v)):AcLN F n P ops vs C K b k (o::rest) a:=by
 subst hv
 refine⟨λf w hf hC=>?_,h⟩
 rw[if_pos hw,hy f w hf hC]
 exact⟨b,λ_ _=>rfl,rfl,hset f w hC⟩
theorem z1v (v:Value) (hv:vs b k=v) (hw:Region.wanted o (yielded ops a.tmps)=true)
 (hy:∀f w,AcF ops k f->C b f w->∀C':Value->zA->Prop,(∀b' w',(∀j,f j=true->vs b' j=vs b j)->C b' (λj=>if k=j then true else f j) w'->C' (vs b' k) w')->zho F n P C' ((execOp a.eval o).run P w))
 (h:AcLN F n P ops vs C K b (k+1) rest (a.put o.dst v)):AcLN F n P ops vs C K b k (o::rest) a:=by
 subst hv
 refine⟨λf w hf hC=>?_,h⟩
 rw[if_pos hw]
 exact hy f w hf hC _ λb' w' hj h'=>⟨b',hj,rfl,h'⟩
end
theorem zk8 {vs:β->Nat->Value} {C:β->(Nat->Bool)->zA->Prop} {K:Act->zA->Prop} {b:β}:∀(l:List Oper) (k:Nat) (a:Act),AcLN F n P ops vs C K b k l a->
 (∀i o,l[i]? =some o->zt3 F n P ops vs C (k+i) o (zbq (vs b) k l a i) b)/\(∀f w,(∀i,i<ops.size->f i=true)->C b f w->K (zbq (vs b) k l a l.length) w)
 |[],k,a,h=>⟨λi o h=>by simp at h,h⟩
 |o::l,k,a,⟨hv,h⟩=>by
  obtain⟨h1,h2⟩:=zk8 l (k+1) _ h
  refine⟨λi o' ho=>?_,?_⟩
  ·cases i with
   |zero=>
    obtain rfl:o=o':=by simpa using ho
    simpa [zbq] using hv
   |succ i=>
    have:=h1 i o' (by simpa using ho)
    simp only[zbq]
    rw[show k+(i+1)=k+1+i by omega]
    exact this
  ·simp only[zbq,yA]
   exact h2
theorem zrk (hF:∀f,F.fn f) (hro:F.round=none) {K:Act->zA->Prop} {Q:Exit->Act->zA->Prop} (hQ:∀a w,K a w->Q .normal a w) {l:List Oper} (vs:β->Nat->Value) (C:β->(Nat->Bool)->zA->Prop) (hB:(acB l.toArray&&zfd l.toArray)=true) {a:Act} {w:zA} (b0:β) (hC:C b0 (λ_=>false) w) (h:∀b,AcLN F n P l.toArray vs C K b 0 l a):
 wpAnyIn F n P .any l.toArray Q l.toArray.size (Array.replicate l.toArray.size false) a w:=by
 have e0:zax l.toArray (vs b0) a (Array.replicate l.toArray.size false) l.toArray.size=a:=by
  have:∀k,zax l.toArray (vs b0) a (Array.replicate l.toArray.size false) k=a:=by
   intro k
   induction k with
   |zero=>rfl
   |succ k ih=>
    have:(Array.replicate l.toArray.size false).getD k false=false:=by
     simp only[Array.getD];split<;>simp
    simp only[zax,this,Bool.false_eq_true,if_false];exact ih
  exact this _
 have:=zs8 (n:=n) hF hro (P:=P) (ops:=l.toArray) (Q:=Q) (C:=λb L w=>C b (λj=>L.getD j false) w) hB vs a ?_ ?_ l.toArray.size (Array.replicate l.toArray.size false) w b0 (by simp) ?_ ?_ ?_
 ·rw[e0] at this;exact this
 ·intro b i o ho L w hat hc
  have h1:=(zk8 l 0 a (h b)).1
  have hi:i<l.length:=by
   have:=(Array.getElem?_eq_some_iff.1 ho).1
   simpa using this
  have hst:=h1 i o (by simpa using ho) (λj=>L.getD j false) w (by rw[Nat.zero_add];exact⟨hat.self,hat.done,hat.closed⟩) hc
  have ea:zax l.toArray (vs b) a (zbw l.toArray.size i) l.toArray.size=zbq (vs b) 0 l a i:=by
   have:=zdg (vs b) l a i (by omega) l.length (zN _)
   rw[Nat.min_eq_left (by omega)] at this
   simpa using this
  have es:(λj=>(L.setIfInBounds i true).getD j false)=(λj=>if i=j then true else L.getD j false):=by
   funext j
   exact zdp L i j (by rw[hat.size];simpa using hi)
  rw[Nat.zero_add] at hst
  rw[ea]
  unfold zhn at hst
  unfold zgx
  simp only[es]
  exact hst
 ·intro b L w hall hc
  have h2:=(zk8 l 0 a (h b)).2
  have ea:zax l.toArray (vs b) a (zbw l.toArray.size l.toArray.size) l.toArray.size=zbq (vs b) 0 l a l.length:=by
   have:=zdg (vs b) l a l.length (zN _) l.length (zN _)
   rw[Nat.min_self] at this
   simpa using this
  rw[ea]
  exact hQ _ _ (h2 _ w hall hc)
 ·intro i j hi
  have:(Array.replicate l.toArray.size false).getD i false=false:=by simp only[Array.getD];split<;>simp
  rw[this] at hi;cases hi
 ·refine Nat.le_trans (List.length_filter_le _ _) (by simp)
 ·have:(λj=>(Array.replicate l.toArray.size false).getD j false)= λ_=>false:=by
   funext j
   simp only[Array.getD];split<;>simp
  simpa only[this] using hC
theorem zns {id:Nat} {Q:Exit->Act->zA->Prop} {a:Act} {w:zA} {l:List Oper} (hF:∀f,F.fn f) (hro:F.round=none) (vs:β->Nat->Value) (C:β->(Nat->Bool)->zA->Prop) (hm:P.follows .mixedOrders=true) (hB:(acB l.toArray&&zfd l.toArray)=true) (b0:β) (hC:C b0 (λ_=>false) {w with drawn:=w.drawn+1})
 (h:∀b,AcLN F n P l.toArray vs C (Q .normal) b 0 l a):(Code.region id l.toArray true).wpIn F n P Q a w:=
 wpIn_region_any hm (zrk hF hro (λ_ _ h=>h) vs C hB b0 hC h)
end
section
open Go.RowKit Go.Shelf Lib Str Limb
attribute [local go_sem] Oper.semAt_some
theorem zfr (v:Value) (w:zA) (p:Option Addr) (n cap:Nat) (hv:v=.slice p n cap):
 Calls zF 32 #[v] w λe w'=>e=.returned (.func (.func 82) #[] #[.pointer (some ⟨w.heap.size,0,none⟩)])/\w.alloc (.cells #[v] 22)=w':=by
 subst hv
 go_enter Tryz.func32,Tryz.ntmps32
 go_wp2
 go_ret
 exact⟨rfl,rfl⟩
theorem zai {W W':zA} (h:zB W.heap.size W W') {b o:Nat} {v:Value} (hc:W.cell? ⟨b,o,none⟩=some v):W'.cell? ⟨b,o,none⟩=some v:=(zac h).cell hc
def ptOf (l:List (List UInt8×List UInt8)) (i:Nat):List UInt8×List UInt8:=l[i]?.getD ([],[])
def zls (Bs:Nat) (p:Option Addr) (cap:Nat) (l:List (List UInt8×List UInt8)) (W:zA):Prop:=
 W.cell? ⟨Bs,0,none⟩=some (.slice p l.length cap)/\∀i,i<l.length->∃b off,p=some ⟨b,off,none⟩/\W.cell? ⟨b,off+i*2,none⟩=some (St (ptOf l i).1)/\W.cell? ⟨b,off+i*2+1,none⟩=some (St (ptOf l i).2)
def zk9 (l:List (List UInt8×List UInt8)) (k:Nat):Value:=
 .agg #[St (ptOf l k).1,St (ptOf l k).2,St (ptOf l ((k+1)%l.length)).1,St (ptOf l ((k+1)%l.length)).2]
theorem zgi (n:Nat) (hn:1<=n) (Bs:Nat) (l:List (List UInt8×List UInt8)) (hlen:l.length<=5000) (Rd:zA->Prop) (p:Option Addr) (cap:Nat) (hRd:∀W,Rd W->zls Bs p cap l W):
 IterC Fence.wide n zF 82 #[.pointer (some ⟨Bs,0,none⟩)] Rd (λk args=>args= #[I k,zk9 l k]) l.length:=by
 intro lp J Jx W hJr hJb hY h0
 refine callsIn_of_wp Tryz.func82 rfl trivial ?_ rfl
 simp only[Tryz.ntmps82,zZ,yA,List.length_nil,Nat.reduceAdd,Nat.reduceSub,Array.replicate_succ,Array.replicate_zero,List.push_toArray,List.append_toArray,yI,yM]
 obtain⟨hb,hcs⟩:=hRd W (hJr 0 W h0)
 obtain⟨N,hN⟩:∃N,N=l.length:=⟨_,rfl⟩
 have HRd:=hid λk W h=>hRd W (hJr k W h);clear hRd hJr
 have HY:=hid hY;clear hY
 have HJB:=hid hJb;clear hJb
 rw[<-hN] at hb hlen HY⊢
 have HN:=hid hN;clear hN hcs
 gi_wp2
 gi_loopw [7] (λi wr=>∃(k:Nat),k<=N/\i=.int .i64 (k:Int)/\Hid (J k wr))
  (λi _=>N-(zL i).toNat)
 case atStart=>exact⟨0,Nat.zero_le _,rfl,h0⟩
 case round=>
  clear hb
  obtain⟨k,hk,rfl,hJ⟩:=hrel
  by_cases hlt:k<N
  ·have hlN:l.length=N:=HN.out.symm
   obtain⟨hb,hc⟩:=HRd.out k wr hJ.out
   have hk2:(k+1)%N<N:=zP _ (by omega)
   obtain⟨b,off,rfl,c0,c1⟩:=hc k (by omega)
   obtain⟨b',off',e,d0,d1⟩:=hc ((k+1)%N) (by omega)
   cases e
   rw[hlN] at hb
   have HY1:=hid λW h=>HY.out k #[I k,zk9 l k] W h hlt rfl
   unfold zk9 at HY1
   rw[hlN] at HY1
   clear HY HRd hc
   generalize (ptOf l k).1=x1 at c0 HY1
   generalize (ptOf l k).2=y1 at c1 HY1
   generalize (ptOf l ((k+1)%N)).1=x2 at d0 HY1
   generalize (ptOf l ((k+1)%N)).2=y2 at d1 HY1
   clear hlN HN
   have hm:Int.tmod ((k:Int)+1) (N:Int)=((k+1)%N:Nat):=by
    rw[show((k:Int)+1)=((k+1:Nat):Int) by omega];rfl
   generalize (k+1)%N=j at hk2 d0 d1 hm
   have hN0:¬N=0:=by omega
   have hwr:IntKind.i64.wrap ((k:Int)+1)=(k:Int)+1:=zI _ ⟨by omega,by omega⟩
   obtain⟨W4,hW4⟩:∃W4,W4=wr.alloc (.cells #[St x1,St y1] 25):=⟨_,rfl⟩
   have hB4:zB wr.heap.size wr W4:=by rw[hW4];exact(zM _ wr).alloc (zN _) _
   have A4:W4.heap[wr.heap.size]? =some (.cells #[St x1,St y1] 25 (0,0)):=by rw[hW4];exact zG wr _
   have e0:W4.drew.cell? ⟨wr.heap.size,0,none⟩=some (St x1):=by show W4.cell? _=_;simp[World.cell?,A4]
   have e1:W4.drew.cell? ⟨wr.heap.size,1,none⟩=some (St y1):=by show W4.cell? _=_;simp[World.cell?,A4]
   have hb4:W4.drew.cell? ⟨Bs,0,none⟩=some (.slice (some ⟨b,off,none⟩) N cap):=zai hB4 hb
   have d04:W4.drew.cell? ⟨b,off+j*2,none⟩=some (St x2):=zai hB4 d0
   have d14:W4.drew.cell? ⟨b,off+j*2+1,none⟩=some (St y2):=zai hB4 d1
   have hJ4:=HJB.out k wr W4.drew hJ.out hB4.drew
   obtain⟨fn,tmps,assign,body,hy,hR⟩:=HY1.out W4.drew hJ4
   have HW4:=hid hW4;clear hW4 HY1 A4
   gi_wp2
   rw[<-HW4.out]
   refine zns (λ_=>trivial) rfl (λ(g:Bool) i=>([.func (.yield lp) #[] #[],.int .i64 (k:Int),.agg #[St x1,St y1],.slice (some ⟨b,off,none⟩) N cap,.int .i64 (k:Int),.int .i64 ((k:Int)+1),.slice (some ⟨b,off,none⟩) N cap,.int .i64 (N:Int),.int .i64 (j:Int),.pointer (some ⟨b,off+j*2,none⟩),.agg #[St x2,St y2],.agg #[St x1,St y1,St x2,St y2],.bool g,.bool !g]:List Value).getD i undef)
    (λg f W'=>(f 12=false->W'=W4.drew)/\(f 12=true->(g=true/\J (k+1) W')\/(g=false/\Jx W'))) (by kernel_rfl) (by kernel_rfl) true ⟨λ_=>rfl,λh=>by cases h⟩ λg=>?_
   refine zct (.func (.yield lp) #[] #[]) (by rfl) (by rfl) (λf W' h=>⟨h.1,h.2⟩) (λf W' hf h=>by
    obtain rfl:=h.1 (hf.no (j:=12) hf.self (by kernel_rfl))
    go_simp) ?_
   try simp only[zzQ]
   refine zct (.int .i64 (k:Int)) (by rfl) (by rfl) (λf W' h=>⟨h.1,h.2⟩) (λf W' hf h=>by
    obtain rfl:=h.1 (hf.no (j:=12) hf.self (by kernel_rfl))
    go_simp) ?_
   try simp only[zzQ]
   refine zct (.agg #[St x1,St y1]) (by rfl) (by rfl) (λf W' h=>⟨h.1,h.2⟩) (λf W' hf h=>by
    obtain rfl:=h.1 (hf.no (j:=12) (hf.no (j:=11) hf.self (by kernel_rfl)) (by kernel_rfl))
    go_simp) ?_
   try simp only[zzQ]
   refine zct (.slice (some ⟨b,off,none⟩) N cap) (by rfl) (by rfl) (λf W' h=>⟨h.1,h.2⟩) (λf W' hf h=>by
    obtain rfl:=h.1 (hf.no (j:=12) (hf.no (j:=11) (hf.no (j:=10) (hf.no (j:=9) hf.self (by kernel_rfl)) (by kernel_rfl)) (by kernel_rfl)) (by kernel_rfl))
    go_simp) ?_
   try simp only[zzQ]
   refine zct (.int .i64 (k:Int)) (by rfl) (by rfl) (λf W' h=>⟨h.1,h.2⟩) (λf W' hf h=>by
    obtain rfl:=h.1 (hf.no (j:=12) (hf.no (j:=11) (hf.no (j:=10) (hf.no (j:=9) (hf.no (j:=8) (hf.no (j:=5) hf.self (by kernel_rfl)) (by kernel_rfl)) (by kernel_rfl)) (by kernel_rfl)) (by kernel_rfl)) (by kernel_rfl))
    go_simp) ?_
   try simp only[zzQ]
   refine zct (.int .i64 ((k:Int)+1)) (by rfl) (by rfl) (λf W' h=>⟨h.1,h.2⟩) (λf W' hf h=>by
    obtain rfl:=h.1 (hf.no (j:=12) (hf.no (j:=11) (hf.no (j:=10) (hf.no (j:=9) (hf.no (j:=8) hf.self (by kernel_rfl)) (by kernel_rfl)) (by kernel_rfl)) (by kernel_rfl)) (by kernel_rfl))
    go_simp) ?_
   try simp only[zzQ]
   refine zct (.slice (some ⟨b,off,none⟩) N cap) (by rfl) (by rfl) (λf W' h=>⟨h.1,h.2⟩) (λf W' hf h=>by
    obtain rfl:=h.1 (hf.no (j:=12) (hf.no (j:=11) (hf.no (j:=10) (hf.no (j:=9) (hf.no (j:=8) (hf.no (j:=7) hf.self (by kernel_rfl)) (by kernel_rfl)) (by kernel_rfl)) (by kernel_rfl)) (by kernel_rfl)) (by kernel_rfl))
    go_simp) ?_
   try simp only[zzQ]
   refine zct (.int .i64 (N:Int)) (by rfl) (by rfl) (λf W' h=>⟨h.1,h.2⟩) (λf W' hf h=>by
    obtain rfl:=h.1 (hf.no (j:=12) (hf.no (j:=11) (hf.no (j:=10) (hf.no (j:=9) (hf.no (j:=8) hf.self (by kernel_rfl)) (by kernel_rfl)) (by kernel_rfl)) (by kernel_rfl)) (by kernel_rfl))
    go_simp) ?_
   try simp only[zzQ]
   refine zct (.int .i64 (j:Int)) (by rfl) (by rfl) (λf W' h=>⟨h.1,h.2⟩) (λf W' hf h=>by
    obtain rfl:=h.1 (hf.no (j:=12) (hf.no (j:=11) (hf.no (j:=10) (hf.no (j:=9) hf.self (by kernel_rfl)) (by kernel_rfl)) (by kernel_rfl)) (by kernel_rfl))
    go_simp) ?_
   try simp only[zzQ]
   refine zct (.pointer (some ⟨b,off+j*2,none⟩)) (by rfl) (by rfl) (λf W' h=>⟨h.1,h.2⟩) (λf W' hf h=>by
    obtain rfl:=h.1 (hf.no (j:=12) (hf.no (j:=11) (hf.no (j:=10) hf.self (by kernel_rfl)) (by kernel_rfl)) (by kernel_rfl))
    go_simp) ?_
   try simp only[zzQ]
   refine zct (.agg #[St x2,St y2]) (by rfl) (by rfl) (λf W' h=>⟨h.1,h.2⟩) (λf W' hf h=>by
    obtain rfl:=h.1 (hf.no (j:=12) (hf.no (j:=11) hf.self (by kernel_rfl)) (by kernel_rfl))
    go_simp) ?_
   try simp only[zzQ]
   refine zct (.agg #[St x1,St y1,St x2,St y2]) (by rfl) (by rfl) (λf W' h=>⟨h.1,h.2⟩) (λf W' hf h=>by
    obtain rfl:=h.1 (hf.no (j:=12) hf.self (by kernel_rfl))
    go_simp) ?_
   try simp only[zzQ]
   refine z1v (.bool g) (by rfl) (by rfl) (λf W' hf h C' hC'=>by
    obtain rfl:=h.1 hf.self
    go_simp
    refine⟨λ_=>by omega,hR.mono ?_⟩
    rintro e W3 (⟨rfl,hJ3⟩|⟨rfl,hJx3⟩)
    ·refine⟨_,rfl,hC' true W3 (λi hi=>?_) ⟨λh=>(by cases h),λ_=>.inl ⟨rfl,hJ3⟩⟩⟩
     match i,hi with
     |0,_|1,_|2,_|3,_|4,_|5,_|6,_|7,_|8,_|9,_|10,_|11,_=>rfl
     |12,hi=>rw[hf.self] at hi;cases hi
     |13,hi=>rw[hf.no (j:=13) hf.self (by kernel_rfl)] at hi;cases hi
     |_+14,_=>rfl
    ·refine⟨_,rfl,hC' false W3 (λi hi=>?_) ⟨λh=>(by cases h),λ_=>.inr ⟨rfl,hJx3⟩⟩⟩
     match i,hi with
     |0,_|1,_|2,_|3,_|4,_|5,_|6,_|7,_|8,_|9,_|10,_|11,_=>rfl
     |12,hi=>rw[hf.self] at hi;cases hi
     |13,hi=>rw[hf.no (j:=13) hf.self (by kernel_rfl)] at hi;cases hi
     |_+14,_=>rfl) ?_
   try simp only[zzQ]
   refine zct (.bool !g) (by rfl) (by rfl) (λf W' h=>⟨h.1,h.2⟩) (λf W' hf h=>by go_simp) ?_
   try simp only[zzQ]
   refine z1u λf W5 hf h=>?_
   rcases h.2 (hf 12 (by decide)) with⟨rfl,hJ5⟩|⟨rfl,hJx5⟩
   ·have HJ5:=hid hJ5;clear hJ5 hf h
    gi_wp2
    go_roundw
    case rel=>exact⟨k+1,by omega,by go_num,HJ5.out⟩
    case measure=>simp[zL];omega
   ·have HJx5:=hid hJx5;clear hJx5 hf h
    gi_wp2
    refine bodyPost_ret (results_none rfl _ _ _) rfl ?_
    exact⟨⟨_,rfl⟩,.inr HJx5.out⟩
  ·obtain rfl:k=N:=by omega
   gi_wp2
   go_end0
   exact⟨⟨_,rfl⟩,.inl hJ.out⟩
end
section
open Go.RowKit Go.Shelf Lib Str Limb Geo
attribute [local go_sem] Oper.semAt_some
def txt (l:List Pt):List (List UInt8×List UInt8):=l.map λp=>(numS p.x,numS p.y)
theorem za2 (l:List Pt):(txt l).length=l.length:=by simp[txt]
def cor (l:List Pt) (k:Nat):Pt:=l[k%l.length]?.getD ⟨0,0⟩
theorem zj4 (l:List Pt) (k:Nat) (hk:k<l.length):ptOf (txt l) k=(numS (cor l k).x,numS (cor l k).y):=by
 unfold ptOf txt cor
 rw[List.getElem?_map,zQ hk,yB hk];rfl
theorem zt4 (l:List Pt) (k:Nat):cor l (k%l.length)=cor l k:=by unfold cor;rw[Nat.mod_mod]
theorem zgj (l:List Pt) (k:Nat) (hk:k<l.length):zk9 (txt l) k=segV (cor l k) (cor l (k+1)):=by
 unfold zk9
 rw[za2,zj4 l k hk,zj4 l _ (zP _ (by omega)),zt4];rfl
def zea (n i k:Nat):Int:=if k=i+1\/(i=0/\k=n-1) then 1 else 0
def okS2 (l:List Pt) (i k:Nat):Prop:=meet (cor l i) (cor l (i+1)) (cor l k) (cor l (k+1))=zea l.length i k
def zbz (l:List Pt):Prop:=∀i k,i<k->k<l.length->okS2 l i k
structure SimS (w:zA) (p:Option Addr) (cap n:Nat) (l:List Pt) (W:zA):Prop where
 bel:zB w.heap.size w W
 box:W.cell? ⟨w.heap.size,0,none⟩=some (.slice p n cap)
 res:W.cell? ⟨w.heap.size+1,0,none⟩=some (.bool false)
 fr:W.frozen? ⟨w.heap.size+1,0,none⟩=false
 cbx:W.cell? ⟨w.heap.size+1+1,0,none⟩=some (.slice p n cap)
 pts:∀i,i<n->∃b off,p=some ⟨b,off,none⟩/\W.cell? ⟨b,off+i*2,none⟩=some (St (ptOf (txt l) i).1)/\W.cell? ⟨b,off+i*2+1,none⟩=some (St (ptOf (txt l) i).2)
theorem SimS.keep {w:zA} {p:Option Addr} {cap n:Nat} {l:List Pt} {W W':zA} (h:SimS w p cap n l W) (hc:CellsKept W W') (hb:zB w.heap.size W W'):SimS w p cap n l W':=
 ⟨h.bel.trans hb,hc.cell h.box,hc.cell h.res,hc.frozen h.res h.fr,hc.cell h.cbx,λi hi=>let ⟨b,off,e,h1,h2⟩:=h.pts i hi;⟨b,off,e,hc.cell h1,hc.cell h2⟩⟩
theorem SimS.ptsAt {w:zA} {p:Option Addr} {cap n:Nat} {l:List Pt} {W:zA} (hn:n=l.length) (h:SimS w p cap n l W) {B:Nat} (hB:W.cell? ⟨B,0,none⟩=some (.slice p n cap)):zls B p cap (txt l) W:=by
 refine⟨by rw[za2,<-hn];exact hB,λi hi=>h.pts i (by rw[za2] at hi;omega)⟩
structure SegAt (b:Nat) (x y:Pt) (W:zA):Prop where
 h0:W.cell? ⟨b,0,none⟩=some (St (numS x.x))
 h1:W.cell? ⟨b,1,none⟩=some (St (numS x.y))
 h2:W.cell? ⟨b,2,none⟩=some (St (numS y.x))
 h3:W.cell? ⟨b,3,none⟩=some (St (numS y.y))
theorem SegAt.new (W:zA) (x y:Pt) (t:TypeId):SegAt W.heap.size x y (W.alloc (.cells #[St (numS x.x),St (numS x.y),St (numS y.x),St (numS y.y)] t)):=by
 have A:=zG W (.cells #[St (numS x.x),St (numS x.y),St (numS y.x),St (numS y.y)] t)
 constructor<;>(rw[Go.Joins.cell_of_block A];rfl)
theorem SegAt.keep {b:Nat} {x y:Pt} {W W':zA} (h:SegAt b x y W) (hc:CellsKept W W'):SegAt b x y W':=⟨hc.cell h.h0,hc.cell h.h1,hc.cell h.h2,hc.cell h.h3⟩
theorem zs9 (p:Option Addr) (cap:Nat) (l:List Pt) (h3:3<=l.length) (hlen:l.length<=4096)
 (M:Hid (∀i k,i<l.length->k<l.length->qK 33 #[segV (cor l i) (cor l (i+1)),segV (cor l k) (cor l (k+1))] (.int .i64 (meet (cor l i) (cor l (i+1)) (cor l k) (cor l (k+1))))))
 (w:zA) (HW:Hid (Wd w))
 (HP:Hid (∀i,i<l.length->∃b off,p=some ⟨b,off,none⟩/\w.cell? ⟨b,off+i*2,none⟩=some (St (ptOf (txt l) i).1)/\w.cell? ⟨b,off+i*2+1,none⟩=some (St (ptOf (txt l) i).2))):
 Calls zF 49 #[.slice p l.length cap] w λe w'=>∃b,e=.returned (.bool b)/\(b=true↔zbz l)/\zB w.heap.size w w':=by
 refine(callsIn_wide (n:=5)).1 ?_
 refine callsIn_of_wp_marks Tryz.func49 rfl trivial ?_ rfl
 simp only[Tryz.ntmps49,zZ,yA,List.length_nil,Nat.reduceAdd,Nat.reduceSub,Array.replicate_succ,Array.replicate_zero,List.push_toArray,List.append_toArray,yI,yM]
 obtain⟨n,hn⟩:∃n,n=l.length:=⟨_,rfl⟩
 have hS0:SimS w p cap n l (((w.alloc (.cells #[.slice p n cap] 22)).alloc (.cells #[.bool false] 4)).alloc (.cells #[.slice p n cap] 22)):=by
  have b1:=Boxed.new w 22 (.slice p n cap)
  have b2:=Boxed.new (w.alloc (.cells #[.slice p n cap] 22)) 4 (.bool false)
  have b3:=Boxed.new ((w.alloc (.cells #[.slice p n cap] 22)).alloc (.cells #[.bool false] 4)) 22 (.slice p n cap)
  have b12:=(b1.alloc (.cells #[.bool false] 4)).alloc (.cells #[.slice p n cap] 22)
  have b22:=b2.alloc (.cells #[.slice p n cap] 22)
  simp only[World.size_alloc] at b3 b22
  have hbel:zB w.heap.size w (((w.alloc (.cells #[.slice p n cap] 22)).alloc (.cells #[.bool false] 4)).alloc (.cells #[.slice p n cap] 22)):=(((zM _ w).alloc (zN _) _).alloc (by simp) _).alloc (by simp;omega) _
  refine⟨hbel,b12.cell,b22.cell,b22.frozen,b3.cell,λi hi=>?_⟩
  obtain⟨b,off,e,h1,h2⟩:=HP.out i (by omega)
  exact⟨b,off,e,zai hbel h1,zai hbel h2⟩
 rw[<-hn] at h3 hlen⊢
 have HN:=hid hn;clear hn
 have HS0:=hid hS0;clear hS0 HP
 gi_wp2_with (refine⟨trivial,?_⟩;gi_at_call 32;refine(callsIn_wide.2 (zfr _ _ _ _ _ rfl)).mono ?_;rintro e w' ⟨rfl,rfl⟩)
 have hS0:=HS0.out;clear HS0
 generalize ((w.alloc (.cells #[.slice p n cap] 22)).alloc (.cells #[.bool false] 4)).alloc (.cells #[.slice p n cap] 22)=W0 at*
 have HS:=hid hS0.bel.size
 have hseq:=zgi 4 (by omega) (w.heap.size+1+1) (txt l) (by rw[za2,<-HN.out];omega) (λW=>SimS w p cap n l W) p cap (λW h=>h.ptsAt HN.out h.cbx)
 rw[za2,<-HN.out] at hseq
 refine zfq (n:=5) (B:=w.heap.size) rfl (by omega) rfl trivial (enters_of Tryz.func82 (by kernel_rfl) rfl) hseq (λk args h=>by subst h;rfl) hS0.bel.size
  (λk W=>SimS w p cap n l W/\∀i j,i<k->i<j->j<n->okS2 l i j)
  (λc _ W=>c=.ret/\zB w.heap.size w W/\W.cell? ⟨w.heap.size+1,0,none⟩=some (.bool false)/\¬zbz l)
  (λk W W' h hc hb=>⟨h.1.keep hc hb,h.2⟩) (λc k W W' h hc hb=>⟨h.1,h.2.1.trans hb,hc.cell h.2.2.1,h.2.2.2⟩) (λk W h=>h.1) ⟨hS0,λi j h=>by omega⟩
  (λk _ a' W=>∃bi bs,a'={tmps:= #[Value.slice p n cap,Value.pointer (some {block:=w.heap.size,off:=0}),Value.pointer (some {block:=w.heap.size+1,off:=0}),.pointer (some ⟨bi,0,none⟩),.pointer (some ⟨bs,0,none⟩),undef,undef,undef,Value.slice p n cap,
    Value.func (Fn.func 82) #[] #[Value.pointer (some {block:=w.heap.size+1+1,off:=0})],I k,segV (cor l k) (cor l (k+1)),undef,undef,undef,undef,undef,undef,undef,undef,undef,undef,undef,undef,undef,undef,undef,undef,undef,undef,undef,undef,undef,undef,undef,undef,undef,undef,undef],defers:=[]}/\W.cell? ⟨bi,0,none⟩=some (I k)/\SegAt bs (cor l k) (cor l (k+1)) W)
  (λk _ a' W W' h hc hb=>let ⟨bi,bs,e,h1,h2⟩:=h;⟨bi,bs,e,hc.cell h1,h2.keep hc⟩) ?assign ?body ?done ?stop
 case assign=>
  rintro lp k args W K hlp hrec ⟨hS,hP⟩ hk rfl hK
  rw[zgj l k (by rw[<-HN.out];exact hk)]
  have HK:=hid hK;clear hK
  unfold segV
  gi_wp2
  have hb1:zB W.heap.size W (W.alloc (.cells #[I k] 3)):=(zM _ W).alloc (zN _) _
  have hb2:zB W.heap.size W ((W.alloc (.cells #[I k] 3)).alloc (.cells #[St (numS (cor l k).x),St (numS (cor l k).y),St (numS (cor l (k+1)).x),St (numS (cor l (k+1)).y)] 63)):=hb1.alloc (by simp) _
  have hseg:=SegAt.new (W.alloc (.cells #[I k] 3)) (cor l k) (cor l (k+1)) 63
  rw[World.size_alloc] at hseg
  refine HK.out _ _ ((za0 hb2).from _) ⟨hS.keep (zac hb2) (hb2.mono hS.bel.size),hP⟩ ⟨W.heap.size,W.heap.size+1,rfl,?_,hseg⟩
  exact(Boxed.alloc (Boxed.new W 3 (I k)) _).cell
 case body=>
  rintro lp k args a' W hlp ⟨r,hr⟩ ⟨hS,hP⟩ hk rfl ⟨bi,bs,rfl,hi,hseg⟩
  have hbox:=hS.box
  obtain⟨W2,hW2⟩:∃W2,W2=W.alloc (.cells #[.slice p n cap] 22):=⟨_,rfl⟩
  have hb2:zB W.heap.size W W2:=by rw[hW2];exact(zM _ W).alloc (zN _) _
  have hcb:W2.cell? ⟨W.heap.size,0,none⟩=some (.slice p n cap):=by rw[hW2];exact(Boxed.new W 22 (.slice p n cap)).cell
  have hr2:W2.heap[lp]? =some (.loop r):=(hb2.block _ (Array.getElem?_eq_some_iff.1 hr).1).trans hr
  have H0:=hid (⟨hS,hP⟩:SimS w p cap n l W/\∀i j,i<k->i<j->j<n->okS2 l i j)
  have HC:=hid (⟨hi,hseg,hb2,hcb⟩:W.cell? ⟨bi,0,none⟩=some (I k)/\SegAt bs (cor l k) (cor l (k+1)) W/\zB W.heap.size W W2/\W2.cell? ⟨W.heap.size,0,none⟩=some (.slice p n cap))
  have HW2:=hid hW2;clear hW2 hS hP hi hseg hb2 hcb hr hseq hS0
  gi_wp2_with (refine⟨trivial,?_⟩;gi_at_call 32;refine(CallsIn.inRound lp (callsIn_wide.2 (zfr _ _ _ _ _ rfl))).mono ?_;rintro e w' ⟨rfl,rfl⟩)
  rw[<-HW2.out]
  obtain⟨hi,hseg,hb2,hcb⟩:=HC.out
  obtain⟨hS,hP⟩:=H0.out
  have hseq:=zgi 2 (by omega) W.heap.size (txt l) (by rw[za2,<-HN.out];omega) (λW'=>SimS w p cap n l W'/\W'.cell? ⟨W.heap.size,0,none⟩=some (.slice p n cap)) p cap (λW h=>h.1.ptsAt HN.out h.2)
  rw[za2,<-HN.out] at hseq
  refine zs7 (l₀:=lp) (r₀:=r) (n:=3) (B:=W.heap.size) rfl hr2 (by omega) rfl trivial (enters_of Tryz.func82 (by kernel_rfl) rfl) (hseq.inRound lp) (λk args h=>by subst h;rfl) hb2.size
   (λj W'=>zB W.heap.size W W'/\W'.cell? ⟨W.heap.size,0,none⟩=some (.slice p n cap)/\∀j',k<j'->j'<j->okS2 l k j')
   (λc _ W'=>c=.ret/\KeepsFrom W0.heap.size W W'/\zB w.heap.size w W'/\W'.cell? ⟨w.heap.size+1,0,none⟩=some (.bool false)/\¬zbz l)
   (λj X Y h hc hb=>⟨h.1.trans hb,hc.cell h.2.1,h.2.2⟩)
   (λc j X Y h hc hb=>⟨h.1,⟨Nat.le_trans h.2.1.size hb.size,λq o hq h0 ho=>(hb.block _ (Array.getElem?_eq_some_iff.1 h0).1).trans (h.2.1.same q o hq h0 ho)⟩,h.2.2.1.trans (hb.mono hS.bel.size),hc.cell h.2.2.2.1,h.2.2.2.2⟩)
   (λj W' h=>⟨hS.keep (zac h.1) (h.1.mono hS.bel.size),h.2.1⟩) ⟨hb2,hcb,λj' h1 h2=>by omega⟩
   (λj _ a' W'=>∃bt,a'={tmps:= #[Value.slice p n cap,Value.pointer (some {block:=w.heap.size,off:=0}),Value.pointer (some {block:=w.heap.size+1,off:=0}),.pointer (some ⟨bi,0,none⟩),.pointer (some ⟨bs,0,none⟩),I j,.pointer (some ⟨bt,0,none⟩),undef,Value.slice p n cap,Value.func (Fn.func 82) #[] #[Value.pointer (some {block:=w.heap.size+1+1,off:=0})],I k,segV (cor l k) (cor l (k+1)),Value.slice p n cap,Value.func (Fn.func 82) #[] #[Value.pointer (some {block:=W.heap.size,off:=0})],I j,segV (cor l j) (cor l (j+1)),undef,undef,undef,undef,undef,undef,undef,undef,undef,undef,undef,undef,undef,undef,undef,undef,undef,undef,undef,undef,undef,undef,undef],defers:=[]}/\SegAt bt (cor l j) (cor l (j+1)) W')
   (λj _ a' X Y h hc hb=>let ⟨bt,e,h1⟩:=h;⟨bt,e,h1.keep hc⟩) ?iassign ?ibody ?idone ?istop
  case iassign=>
   rintro lq j args W' K hlq hrec ⟨hB',hcb',hP'⟩ hj rfl hK
   rw[zgj l j (by rw[<-HN.out];exact hj)]
   have HK:=hid hK;clear hK
   unfold segV
   gi_wp2
   have hb1:zB W'.heap.size W' (W'.alloc (.cells #[St (numS (cor l j).x),St (numS (cor l j).y),St (numS (cor l (j+1)).x),St (numS (cor l (j+1)).y)] 63)):=(zM _ W').alloc (zN _) _
   refine HK.out _ _ ((za0 hb1).from _) ⟨hB'.trans (hb1.mono hB'.size),zai hb1 hcb',hP'⟩ ⟨W'.heap.size,rfl,SegAt.new W' (cor l j) (cor l (j+1)) 63⟩
  case ibody=>
   rintro lq j args a' W' hlq ⟨r',hr'⟩ ⟨hB',hcb',hP'⟩ hj rfl ⟨bt,rfl,hseg'⟩
   have hi':=zai hB' hi
   have hS':=hS.keep (zac hB') (hB'.mono hS.bel.size)
   have hbox':=hS'.box
   have hres:=hS'.res
   have hfr:=hS'.fr
   obtain⟨g0,g1,g2,g3⟩:=hseg.keep (zac hB')
   obtain⟨k0,k1,k2,k3⟩:=hseg'
   have hwd:=HW.out.below hS'.bel
   have HS2:=hid (⟨hB',hcb',hP',hS'⟩:zB W.heap.size W W'/\W'.cell? ⟨W.heap.size,0,none⟩=some (.slice p n cap)/\(∀j',k<j'->j'<j->okS2 l k j')/\SimS w p cap n l W')
   have hM:=M.out k j (by rw[<-HN.out];exact hk) (by rw[<-HN.out];exact hj) W' hwd
   obtain⟨m,hm⟩:∃m,m=meet (cor l k) (cor l (k+1)) (cor l j) (cor l (j+1)):=⟨_,rfl⟩
   rw[<-hm] at hM
   unfold segV at hM⊢
   have HM:=hid hM
   have HMM:=hid hm
   have hwk:IntKind.i64.wrap ((k:Int)+1)=(k:Int)+1:=zI _ ⟨by omega,by omega⟩
   have hwn:IntKind.i64.wrap ((n:Int)-1)=(n:Int)-1:=zI _ ⟨by omega,by omega⟩
   clear hM hm hB' hcb' hP' hS' hi hseg hb2 hcb hS hP hseq hbox hwd HW2 H0 hr2 hr'
   by_cases hle:j<=k
   ·have e1:decide ((j:Int)<=(k:Int))=true:=decide_eq_true (by omega)
    gi_wp2
    obtain⟨hB',hcb',hP',hS'⟩:=HS2.out
    exact⟨KeepsFrom.refl _ _,hB',hcb',λj' h1 h2=>hP' j' h1 (by omega)⟩
   ·have e1:decide ((j:Int)<=(k:Int))=false:=decide_eq_false (by omega)
    have hcase:(zea n k j=1/\((((j:Int)==(k:Int)+1)=true)\/(((j:Int)==(k:Int)+1)=false/\((k:Int)==0)=true/\((j:Int)==(n:Int)-1)=true)))\/
     (zea n k j=0/\((((j:Int)==(k:Int)+1)=false/\((k:Int)==0)=true/\((j:Int)==(n:Int)-1)=false)\/(((j:Int)==(k:Int)+1)=false/\((k:Int)==0)=false))):=by
     unfold zea
     simp only[beq_iff_eq,beq_eq_false_iff_ne]
     by_cases h1:j=k+1
     ·left;exact⟨if_pos (.inl h1),.inl (by omega)⟩
     ·by_cases h2:k=0
      ·by_cases h3:j=n-1
       ·left;exact⟨if_pos (.inr ⟨h2,h3⟩),.inr ⟨by omega,by omega,by omega⟩⟩
       ·right;exact⟨if_neg (by omega),.inl ⟨by omega,by omega,by omega⟩⟩
      ·right;exact⟨if_neg (by omega),.inr ⟨by omega,by omega⟩⟩
    have hgood:∀W3,zB W'.heap.size W' W3->m=zea n k j->KeepsFrom W2.heap.size W' W3/\zB W.heap.size W W3/\W3.cell? ⟨W.heap.size,0,none⟩=some (.slice p n cap)/\∀j',k<j'->j'<j+1->okS2 l k j':=by
     intro W3 hb3 hmw
     obtain⟨hB',hcb',hP',hS'⟩:=HS2.out
     refine⟨(za0 hb3).from _,hB'.trans (hb3.mono hB'.size),zai hb3 hcb',λj' h1 h2=>?_⟩
     by_cases h:j'=j
     ·subst h;unfold okS2;rw[<-HMM.out,hmw,<-HN.out]
     ·exact hP' j' h1 (by omega)
    have hbad:∀W3,zB W'.heap.size W' W3->m≠zea n k j->KeepsFrom W2.heap.size W' (W3.setCell ⟨w.heap.size+1,0,none⟩ (.bool false))/\Code.ret=Code.ret/\KeepsFrom W0.heap.size W (W3.setCell ⟨w.heap.size+1,0,none⟩ (.bool false))/\zB w.heap.size w (W3.setCell ⟨w.heap.size+1,0,none⟩ (.bool false))/\(W3.setCell ⟨w.heap.size+1,0,none⟩ (.bool false)).cell? ⟨w.heap.size+1,0,none⟩=some (.bool false)/\¬zbz l:=by
     intro W3 hb3 hmw
     obtain⟨hB',hcb',hP',hS'⟩:=HS2.out
     have k3:=KeepsOthers.setCell W3 ⟨w.heap.size+1,0,none⟩ (.bool false)
     have hS3:=hS'.keep (zac hb3) (hb3.mono hS'.bel.size)
     refine⟨((za0 hb3).from _).trans (k3.from _),rfl,(((za0 hB').from _).trans ((za0 hb3).from _)).trans (k3.from _),hS3.bel.setCell (p:=⟨w.heap.size+1,0,none⟩) (by simp) _,World.cell?_setCell_same' _ _ _ (by rw[hS3.res];rfl),λhs=>hmw ?_⟩
     have:=hs k j (by omega) (by rw[<-HN.out];exact hj)
     unfold okS2 at this
     rw[<-HMM.out,<-HN.out] at this;exact this
    have HG:=hid hgood;have HBd:=hid hbad
    clear hgood hbad
    rcases hcase with⟨hwant,f1|⟨f1,f2,f3⟩⟩|⟨hwant,⟨f1,f2,f3⟩|⟨f1,f2⟩⟩
    ·by_cases hmw:m=1
     ·have hmb:(m !=1)=false:=by simpa [hwant] using hmw
      have HWT:=hid hwant;have HMW:=hid hmw;clear hwant hmw
      gi_wp2
      all_goals first|exact(zzU ‹_›).elim|skip
      refine⟨trivial,(CallsIn.inRound lq (CallsIn.inRound lp (callsIn_wide.2 HM.out))).mono ?_⟩
      rintro e W3 ⟨rfl,hb3⟩
      have h9:=HG.out W3 hb3 (by rw[HWT.out];exact HMW.out)
      clear hb3
      gi_wp2
      exact h9
     ·have hmb:(m !=1)=true:=by simpa [hwant] using hmw
      have HWT:=hid hwant;have HMW:=hid hmw;clear hwant hmw
      gi_wp2
      all_goals first|exact(zzU ‹_›).elim|skip
      refine⟨trivial,(CallsIn.inRound lq (CallsIn.inRound lp (callsIn_wide.2 HM.out))).mono ?_⟩
      rintro e W3 ⟨rfl,hb3⟩
      have h9:=HBd.out W3 hb3 (by rw[HWT.out];exact HMW.out)
      have hres3:=zai hb3 hres
      have hfr3:W3.frozen? ⟨w.heap.size+1,0,none⟩=false:=(zac hb3).frozen hres hfr
      have H9:=hid h9
      clear hb3 h9
      gi_wp2
      exact⟨H9.out.1,rfl,H9.out.2.2⟩
    ·by_cases hmw:m=1
     ·have hmb:(m !=1)=false:=by simpa [hwant] using hmw
      have HWT:=hid hwant;have HMW:=hid hmw;clear hwant hmw
      gi_wp2
      all_goals first|exact(zzU ‹_›).elim|skip
      refine⟨trivial,(CallsIn.inRound lq (CallsIn.inRound lp (callsIn_wide.2 HM.out))).mono ?_⟩
      rintro e W3 ⟨rfl,hb3⟩
      have h9:=HG.out W3 hb3 (by rw[HWT.out];exact HMW.out)
      clear hb3
      gi_wp2
      exact h9
     ·have hmb:(m !=1)=true:=by simpa [hwant] using hmw
      have HWT:=hid hwant;have HMW:=hid hmw;clear hwant hmw
      gi_wp2
      all_goals first|exact(zzU ‹_›).elim|skip
      refine⟨trivial,(CallsIn.inRound lq (CallsIn.inRound lp (callsIn_wide.2 HM.out))).mono ?_⟩
      rintro e W3 ⟨rfl,hb3⟩
      have h9:=HBd.out W3 hb3 (by rw[HWT.out];exact HMW.out)
      have hres3:=zai hb3 hres
      have hfr3:W3.frozen? ⟨w.heap.size+1,0,none⟩=false:=(zac hb3).frozen hres hfr
      have H9:=hid h9
      clear hb3 h9
      gi_wp2
      exact⟨H9.out.1,rfl,H9.out.2.2⟩
    ·by_cases hmw:m=0
     ·have hmb:(m !=0)=false:=by simpa [hwant] using hmw
      have HWT:=hid hwant;have HMW:=hid hmw;clear hwant hmw
      gi_wp2
      all_goals first|exact(zzU ‹_›).elim|skip
      refine⟨trivial,(CallsIn.inRound lq (CallsIn.inRound lp (callsIn_wide.2 HM.out))).mono ?_⟩
      rintro e W3 ⟨rfl,hb3⟩
      have h9:=HG.out W3 hb3 (by rw[HWT.out];exact HMW.out)
      clear hb3
      gi_wp2
      exact h9
     ·have hmb:(m !=0)=true:=by simpa [hwant] using hmw
      have HWT:=hid hwant;have HMW:=hid hmw;clear hwant hmw
      gi_wp2
      all_goals first|exact(zzU ‹_›).elim|skip
      refine⟨trivial,(CallsIn.inRound lq (CallsIn.inRound lp (callsIn_wide.2 HM.out))).mono ?_⟩
      rintro e W3 ⟨rfl,hb3⟩
      have h9:=HBd.out W3 hb3 (by rw[HWT.out];exact HMW.out)
      have hres3:=zai hb3 hres
      have hfr3:W3.frozen? ⟨w.heap.size+1,0,none⟩=false:=(zac hb3).frozen hres hfr
      have H9:=hid h9
      clear hb3 h9
      gi_wp2
      exact⟨H9.out.1,rfl,H9.out.2.2⟩
    ·by_cases hmw:m=0
     ·have hmb:(m !=0)=false:=by simpa [hwant] using hmw
      have HWT:=hid hwant;have HMW:=hid hmw;clear hwant hmw
      gi_wp2
      all_goals first|exact(zzU ‹_›).elim|skip
      refine⟨trivial,(CallsIn.inRound lq (CallsIn.inRound lp (callsIn_wide.2 HM.out))).mono ?_⟩
      rintro e W3 ⟨rfl,hb3⟩
      have h9:=HG.out W3 hb3 (by rw[HWT.out];exact HMW.out)
      clear hb3
      gi_wp2
      exact h9
     ·have hmb:(m !=0)=true:=by simpa [hwant] using hmw
      have HWT:=hid hwant;have HMW:=hid hmw;clear hwant hmw
      gi_wp2
      all_goals first|exact(zzU ‹_›).elim|skip
      refine⟨trivial,(CallsIn.inRound lq (CallsIn.inRound lp (callsIn_wide.2 HM.out))).mono ?_⟩
      rintro e W3 ⟨rfl,hb3⟩
      have h9:=HBd.out W3 hb3 (by rw[HWT.out];exact HMW.out)
      have hres3:=zai hb3 hres
      have hfr3:W3.frozen? ⟨w.heap.size+1,0,none⟩=false:=(zac hb3).frozen hres hfr
      have H9:=hid h9
      clear hb3 h9
      gi_wp2
      exact⟨H9.out.1,rfl,H9.out.2.2⟩
  case idone=>
   rintro W' ⟨hB',hcb',hP'⟩
   have HX:=hid (⟨hB',hP'⟩:zB W.heap.size W W'/\∀j',k<j'->j'<n->okS2 l k j')
   clear hB' hP' hcb'
   gi_wp2
   obtain⟨hB',hP'⟩:=HX.out
   obtain⟨hS,hP⟩:=H0.out
   refine⟨(za0 hB').from _,hS.keep (zac hB') (hB'.mono hS.bel.size),λi j h1 h2 h3=>?_⟩
   by_cases h:i=k
   ·subst h;exact hP' j h2 h3
   ·exact hP i j (by omega) h2 h3
  case istop=>
   rintro c j W' ⟨rfl,h⟩
   have HX:=hid h;clear h
   gi_wp2
   exact⟨HX.out.1,rfl,HX.out.2⟩
 case done=>
  rintro D W hD ⟨hS,hP⟩ hK
  have hres:=hS.res;have hfr:=hS.fr
  have HX:=hid (⟨hS,hP⟩:SimS w p cap n l W/\∀i j,i<n->i<j->j<n->okS2 l i j);clear hS hP hseq hS0
  gi_wp2
  have hK':=(KeepsOthers.setCell W ⟨w.heap.size+1,0,none⟩ (.bool true)).same D _ hK rfl
  refine⟨by simp,.inl ⟨_,_,rfl,run_takeDeferred hK',?_⟩⟩
  have hc5:=(zbk hK').cell (World.cell?_setCell_same' W ⟨w.heap.size+1,0,none⟩ (.bool true) (by rw[hres];rfl))
  obtain⟨hS,hP⟩:=HX.out
  refine⟨.bool true,?_,true,rfl,⟨λ_ i k h1 h2=>?_,λ_=>rfl⟩,zby (hS.bel.setCell (p:=⟨w.heap.size+1,0,none⟩) (by simp) _) (by have:=HS.out;omega) hK'⟩
  ·simp[results,Tryz.f49,go_sem,hc5]
  ·have hn:=HN.out;exact hP i k (by omega) h1 (by omega)
 case stop=>
  rintro D c k W hD ⟨rfl,hbel,hres,hno⟩ hK
  have HX:=hid (⟨hbel,hno⟩:zB w.heap.size w W/\¬zbz l);clear hbel hno hseq hS0
  gi_wp2
  refine⟨by simp,.inl ⟨_,_,rfl,run_takeDeferred hK,?_⟩⟩
  have hc5:=(zbk hK).cell hres
  refine⟨.bool false,by simp[results,Tryz.f49,go_sem,hc5],false,rfl,⟨λh=>by simp at h,λh=>absurd h HX.out.2⟩,zby HX.out.1 (by have:=HS.out;omega) hK⟩
def zch (l:List Pt):Prop:=∀i,i<l.length->cor l i≠cor l (i+1)
structure ChkS (w:zA) (p:Option Addr) (n:Nat) (l:List Pt) (W:zA):Prop where
 bel:zB w.heap.size w W
 res:∃r,W.cell? ⟨w.heap.size,0,none⟩=some (.int .i64 r)
 fr:W.frozen? ⟨w.heap.size,0,none⟩=false
 pts:∀i,i<n->∃b off,p=some ⟨b,off,none⟩/\W.cell? ⟨b,off+i*2,none⟩=some (St (ptOf (txt l) i).1)/\W.cell? ⟨b,off+i*2+1,none⟩=some (St (ptOf (txt l) i).2)
theorem ChkS.keep {w:zA} {p:Option Addr} {n:Nat} {l:List Pt} {W W':zA} (h:ChkS w p n l W) (hc:CellsKept W W') (hb:zB w.heap.size W W'):ChkS w p n l W':=
 ⟨h.bel.trans hb,let ⟨r,e⟩:=h.res;⟨r,hc.cell e⟩,let ⟨_,e⟩:=h.res;hc.frozen e h.fr,λi hi=>let ⟨b,off,e,h1,h2⟩:=h.pts i hi;⟨b,off,e,hc.cell h1,hc.cell h2⟩⟩
theorem ChkS.ptsAt {w:zA} {p:Option Addr} {cap n:Nat} {l:List Pt} {W:zA} (hn:n=l.length) (h:ChkS w p n l W) {B:Nat} (hB:W.cell? ⟨B,0,none⟩=some (.slice p n cap)):zls B p cap (txt l) W:=by
 refine⟨by rw[za2,<-hn];exact hB,λi hi=>h.pts i (by rw[za2] at hi;omega)⟩
theorem zu8 (p:Option Addr) (cap:Nat) (l:List Pt) (h3:3<=l.length) (hlen:l.length<=4096)
 (CP:Hid (∀i,i<l.length->qK 31 #[ptV (cor l i)] (.int .i64 0)))
 (S:Hid (∀W:zA,Wd W->(∀i,i<l.length->∃b off,p=some ⟨b,off,none⟩/\W.cell? ⟨b,off+i*2,none⟩=some (St (ptOf (txt l) i).1)/\W.cell? ⟨b,off+i*2+1,none⟩=some (St (ptOf (txt l) i).2))->
   Calls zF 49 #[.slice p l.length cap] W λe w'=>∃b,e=.returned (.bool b)/\(b=true↔zbz l)/\zB W.heap.size W w'))
 (w:zA) (HW:Hid (Wd w))
 (HP:Hid (∀i,i<l.length->∃b off,p=some ⟨b,off,none⟩/\w.cell? ⟨b,off+i*2,none⟩=some (St (ptOf (txt l) i).1)/\w.cell? ⟨b,off+i*2+1,none⟩=some (St (ptOf (txt l) i).2))):
 Calls zF 18 #[.slice p l.length cap] w λe w'=>∃r:Int,e=.returned (.int .i64 r)/\((¬zch l/\r=12)\/(zch l/\¬zbz l/\r=15)\/(zch l/\zbz l/\r=0))/\zB w.heap.size w w':=by
 refine(callsIn_wide (n:=3)).1 ?_
 refine callsIn_of_wp_marks Tryz.func18 rfl trivial ?_ rfl
 simp only[Tryz.ntmps18,zZ,yA,List.length_nil,Nat.reduceAdd,Nat.reduceSub,Array.replicate_succ,Array.replicate_zero,List.push_toArray,List.append_toArray,yI,yM]
 obtain⟨n,hn⟩:∃n,n=l.length:=⟨_,rfl⟩
 have hS0:ChkS w p n l (w.alloc (.cells #[.int .i64 0] 28)):=by
  have b1:=Boxed.new w 28 (.int .i64 0)
  have hbel:zB w.heap.size w (w.alloc (.cells #[.int .i64 0] 28)):=(zM _ w).alloc (zN _) _
  refine⟨hbel,⟨_,b1.cell⟩,b1.frozen,λi hi=>?_⟩
  obtain⟨b,off,e,h1,h2⟩:=HP.out i (by omega)
  exact⟨b,off,e,zai hbel h1,zai hbel h2⟩
 rw[<-hn] at h3 hlen⊢
 have HN:=hid hn;clear hn
 have HS0:=hid hS0;clear hS0 HP
 have hn1:decide ((4096:Int)<(n:Int))=false:=decide_eq_false (by omega)
 have hn2:decide ((n:Int)<3)=false:=decide_eq_false (by omega)
 gi_wp2
 gi_loopw [18] (λi wr=>∃(k:Nat),k<=n/\i=.int .i64 (k:Int)/\Hid (ChkS w p n l wr))
  (λi _=>n-(zL i).toNat)
 case atStart=>exact⟨0,Nat.zero_le _,rfl,HS0.out⟩
 case round=>
  clear hn1 hn2
  obtain⟨k,hk,rfl,hS⟩:=hrel
  by_cases hlt:k<n
  ·obtain⟨b,off,rfl,c0,c1⟩:=hS.out.pts k hlt
   have hb1:zB wr.heap.size wr (wr.alloc (.cells #[St (ptOf (txt l) k).1,St (ptOf (txt l) k).2] 25)):=(zM _ wr).alloc (zN _) _
   have hS1:=hid (hS.out.keep (zac hb1) (hb1.mono hS.out.bel.size))
   have hcp:=CP.out k (by rw[<-HN.out];exact hlt) _ (HW.out.below hS1.out.bel)
   have ep:ptV (cor l k)=.agg #[St (ptOf (txt l) k).1,St (ptOf (txt l) k).2]:=by rw[zj4 l k (by rw[<-HN.out];exact hlt)];rfl
   rw[ep] at hcp
   have HCP:=hid hcp
   clear hcp ep hb1
   generalize (ptOf (txt l) k).1=x at*
   generalize (ptOf (txt l) k).2=y at*
   gi_wp2
   refine⟨trivial,(callsIn_wide.2 HCP.out).mono ?_⟩
   rintro e W2 ⟨rfl,hb2⟩
   have hS2:=hid (hS1.out.keep (zac hb2) (hb2.mono hS1.out.bel.size))
   clear hb2 HCP hS1 HS0
   gi_wp2
   go_roundw
   case rel=>exact⟨k+1,by omega,by go_num,hS2⟩
   case measure=>simp[zL];omega
  ·obtain rfl:k=n:=by omega
   clear HS0
   gi_wp2_with (refine⟨trivial,?_⟩;gi_at_call 32;refine(callsIn_wide.2 (zfr _ _ _ _ _ rfl)).mono ?_;rintro e w' ⟨rfl,rfl⟩)
   obtain⟨W1,hW1⟩:∃W1,W1=wr.alloc (.cells #[.slice p k cap] 22):=⟨_,rfl⟩
   have hb1:zB wr.heap.size wr W1:=by rw[hW1];exact(zM _ wr).alloc (zN _) _
   have hcb:W1.cell? ⟨wr.heap.size,0,none⟩=some (.slice p k cap):=by rw[hW1];exact(Boxed.new wr 22 (.slice p k cap)).cell
   have hS1:=hS.out.keep (zac hb1) (hb1.mono hS.out.bel.size)
   rw[<-hW1]
   clear hW1 hS
   have HS1:=hid hS1.bel.size
   have hseq:=zgi 2 (by omega) wr.heap.size (txt l) (by rw[za2,<-HN.out];omega) (λW=>ChkS w p k l W/\W.cell? ⟨wr.heap.size,0,none⟩=some (.slice p k cap)) p cap (λW h=>h.1.ptsAt HN.out h.2)
   rw[za2,<-HN.out] at hseq
   refine zfq (n:=3) (B:=w.heap.size) rfl (by omega) rfl trivial (enters_of Tryz.func82 (by kernel_rfl) rfl) hseq (λk args h=>by subst h;rfl) hS1.bel.size
    (λj W=>ChkS w p k l W/\W.cell? ⟨wr.heap.size,0,none⟩=some (.slice p k cap)/\∀i,i<j->cor l i≠cor l (i+1))
    (λc _ W=>c=.ret/\zB w.heap.size w W/\W.cell? ⟨w.heap.size,0,none⟩=some (.int .i64 12)/\¬zch l)
    (λj X Y h hc hb=>⟨h.1.keep hc hb,hc.cell h.2.1,h.2.2⟩) (λc j X Y h hc hb=>⟨h.1,h.2.1.trans hb,hc.cell h.2.2.1,h.2.2.2⟩) (λj W h=>⟨h.1,h.2.1⟩) ⟨hS1,hcb,λi h=>by omega⟩
    (λj _ a' W=>∃bs,a'={tmps:= #[Value.slice p k cap,undef,Value.pointer (some {block:=w.heap.size,off:=0}),undef,u4,u5,undef,.pointer (some ⟨bs,0,none⟩),Value.bool false,Value.slice p k cap,Value.int IntKind.i64 ↑k,Value.bool false,Value.bool false,Value.slice p k cap,Value.int IntKind.i64 ↑k,Value.bool false,Value.slice p k cap,Value.int IntKind.i64 ↑k,Value.int IntKind.i64 ↑k,Value.bool false,u20,u21,u22,u23,u24,u25,u26,u27,Value.slice p k cap,Value.func (Fn.func 82) #[] #[Value.pointer (some {block:=wr.heap.size,off:=0})],I j,segV (cor l j) (cor l (j+1)),undef,undef,undef,undef,undef,undef,undef,undef],defers:=[]}/\SegAt bs (cor l j) (cor l (j+1)) W)
    (λj _ a' X Y h hc hb=>let ⟨bs,e,h2⟩:=h;⟨bs,e,h2.keep hc⟩) ?assign ?body ?done ?stop
   case assign=>
    rintro lp j args W K hlp hrec ⟨hS,hcb,hP⟩ hj rfl hK
    rw[zgj l j (by rw[<-HN.out];exact hj)]
    have HK:=hid hK;clear hK
    unfold segV
    gi_wp2
    have hb1:zB W.heap.size W (W.alloc (.cells #[St (numS (cor l j).x),St (numS (cor l j).y),St (numS (cor l (j+1)).x),St (numS (cor l (j+1)).y)] 63)):=(zM _ W).alloc (zN _) _
    exact HK.out _ _ ((za0 hb1).from _) ⟨hS.keep (zac hb1) (hb1.mono hS.bel.size),zai hb1 hcb,hP⟩ ⟨W.heap.size,rfl,SegAt.new W (cor l j) (cor l (j+1)) 63⟩
   case body=>
    rintro lp j args a' W hlp ⟨r,hr⟩ ⟨hS,hcb,hP⟩ hj rfl ⟨bs,rfl,hseg⟩
    obtain⟨g0,g1,g2,g3⟩:=hseg
    obtain⟨r0,hres⟩:=hS.res
    have hfr:=hS.fr
    have H0:=hid (⟨hS,hcb,hP⟩:ChkS w p k l W/\W.cell? ⟨wr.heap.size,0,none⟩=some (.slice p k cap)/\∀i,i<j->cor l i≠cor l (i+1))
    clear hS hcb hP hseq hS1 hr
    unfold segV
    have hgood:cor l j≠cor l (j+1)->KeepsFrom W1.heap.size W W/\ChkS w p k l W/\W.cell? ⟨wr.heap.size,0,none⟩=some (.slice p k cap)/\∀i,i<j+1->cor l i≠cor l (i+1):=λhne=>by
     obtain⟨hS,hcb,hP⟩:=H0.out
     refine⟨KeepsFrom.refl _ _,hS,hcb,λi hi=>?_⟩
     by_cases h:i=j
     ·subst h;exact hne
     ·exact hP i (by omega)
    have HG:=hid hgood;clear hgood
    by_cases hx:numS (cor l j).x=numS (cor l (j+1)).x
    ·by_cases hy:numS (cor l j).y=numS (cor l (j+1)).y
     ·have HE:=hid (⟨hx,hy⟩:numS (cor l j).x=numS (cor l (j+1)).x/\numS (cor l j).y=numS (cor l (j+1)).y)
      gi_wp2
      obtain⟨hS,hcb,hP⟩:=H0.out
      refine⟨(KeepsOthers.setCell _ _ _).from _,rfl,hS.bel.setCell (p:=⟨w.heap.size,0,none⟩) (by simp) _,World.cell?_setCell_same' _ _ _ (by rw[hres];rfl),λhs=>hs j (by rw[<-HN.out];exact hj) ?_⟩
      have h1:=zh0 HE.out.1;have h2:=zh0 HE.out.2
      revert h1 h2
      generalize cor l j=a;generalize cor l (j+1)=b
      intro h1 h2
      cases a;cases b;simp at h1 h2;rw[h1,h2]
     ·have HE:=hid hy
      gi_wp2
      exact HG.out λh=>HE.out (by rw[h])
    ·have HE:=hid hx
     gi_wp2
     exact HG.out λh=>HE.out (by rw[h])
   case done=>
    rintro D W hD ⟨hS,hcb,hP⟩ hK
    have hs:=S.out W (HW.out.below hS.bel) (λi hi=>hS.pts i (by rw[HN.out];exact hi))
    rw[<-HN.out] at hs
    have HSm:=hid hs
    have HX:=hid (⟨hS,hP,hK⟩:ChkS w p k l W/\(∀i,i<k->cor l i≠cor l (i+1))/\W.heap[D]? =some (.deferred (some [])));clear hS hP hseq hS1 hs hK
    gi_wp2
    refine⟨trivial,(callsIn_wide.2 HSm.out).mono ?_⟩
    rintro e W3 ⟨b,rfl,hb,hb3⟩
    obtain⟨hS,hP,hK⟩:=HX.out
    have hS3:=hS.keep (zac hb3) (hb3.mono hS.bel.size)
    have hK3:W3.heap[D]? =some (.deferred (some [])):=(hb3.block _ (Array.getElem?_eq_some_iff.1 hK).1).trans hK
    have hside:zch l:=λi hi=>hP i (by rw[HN.out];exact hi)
    obtain⟨r3,hres⟩:=hS3.res
    have hfr:=hS3.fr
    have H3:=hid (⟨hS3.bel,hK3,hside,hb⟩:zB w.heap.size w W3/\W3.heap[D]? =some (.deferred (some []))/\zch l/\(b=true↔zbz l))
    clear HX hS hP hK hS3 hK3 hside hb hb3 HSm
    cases b
    ·gi_wp2
     obtain⟨hbel,hK3,hside,hb⟩:=H3.out
     have hK':=(KeepsOthers.setCell W3 ⟨w.heap.size,0,none⟩ (.int .i64 15)).same D _ hK3 rfl
     refine⟨by simp,.inl ⟨_,_,rfl,run_takeDeferred hK',?_⟩⟩
     have hc5:=(zbk hK').cell (World.cell?_setCell_same' W3 ⟨w.heap.size,0,none⟩ (.int .i64 15) (by rw[hres];rfl))
     refine⟨.int .i64 15,?_,15,rfl,.inr (.inl ⟨hside,λh=>(by have:=hb.2 h;simp at this),rfl⟩),zby (hbel.setCell (p:=⟨w.heap.size,0,none⟩) (by simp) _) (by have:=HS1.out;omega) hK'⟩
     simp[results,Tryz.f18,go_sem,hc5]
    ·gi_wp2
     obtain⟨hbel,hK3,hside,hb⟩:=H3.out
     have hK':=(KeepsOthers.setCell W3 ⟨w.heap.size,0,none⟩ (.int .i64 0)).same D _ hK3 rfl
     refine⟨by simp,.inl ⟨_,_,rfl,run_takeDeferred hK',?_⟩⟩
     have hc5:=(zbk hK').cell (World.cell?_setCell_same' W3 ⟨w.heap.size,0,none⟩ (.int .i64 0) (by rw[hres];rfl))
     refine⟨.int .i64 0,?_,0,rfl,.inr (.inr ⟨hside,hb.1 (by trivial),rfl⟩),zby (hbel.setCell (p:=⟨w.heap.size,0,none⟩) (by simp) _) (by have:=HS1.out;omega) hK'⟩
     simp[results,Tryz.f18,go_sem,hc5]
   case stop=>
    rintro D c j W hD ⟨rfl,hbel,hres,hno⟩ hK
    have HX:=hid (⟨hbel,hno⟩:zB w.heap.size w W/\¬zch l);clear hbel hno hseq hS1
    gi_wp2
    refine⟨by simp,.inl ⟨_,_,rfl,run_takeDeferred hK,?_⟩⟩
    have hc5:=(zbk hK).cell hres
    refine⟨.int .i64 12,by simp[results,Tryz.f18,go_sem,hc5],12,rfl,.inl ⟨HX.out.2,rfl⟩,zby HX.out.1 (by have:=HS1.out;omega) hK⟩
def RowPts (p:Option Addr) (l:List Pt) (W:zA):Prop:=
 ∀i,i<l.length->∃b off,p=some ⟨b,off,none⟩/\W.cell? ⟨b,off+i*2,none⟩=some (St (ptOf (txt l) i).1)/\W.cell? ⟨b,off+i*2+1,none⟩=some (St (ptOf (txt l) i).2)
theorem RowPts.keep {p:Option Addr} {l:List Pt} {W W':zA} (h:RowPts p l W) (hc:CellsKept W W'):RowPts p l W':=λi hi=>let ⟨b,off,e,h1,h2⟩:=h i hi;⟨b,off,e,hc.cell h1,hc.cell h2⟩
theorem zw6 (p:Option Addr) (cap:Nat) (l:List Pt) (h3:3<=l.length) (hlen:l.length<=4096) (hz:∀i,szP (cor l i) 36) (w:zA) (hw:Wd w) (hp:RowPts p l w):
 Calls zF 49 #[.slice p l.length cap] w λe w'=>∃b,e=.returned (.bool b)/\(b=true↔zbz l)/\zB w.heap.size w w':=
 zs9 p cap l h3 hlen (hid λi k _ _ W hW=>zol _ _ _ _ 36 (by omega) (by omega) (hz _) (hz _) (hz _) (hz _) W hW) w (hid hw) (hid hp)
theorem zu9 (p:Option Addr) (cap:Nat) (l:List Pt) (h3:3<=l.length) (hlen:l.length<=4096) (hz:∀i,szP (cor l i) 36) (w:zA) (hw:Wd w) (hp:RowPts p l w):
 Calls zF 18 #[.slice p l.length cap] w λe w'=>∃r:Int,e=.returned (.int .i64 r)/\((¬zch l/\r=12)\/(zch l/\¬zbz l/\r=15)\/(zch l/\zbz l/\r=0))/\zB w.heap.size w w':=
 zu8 p cap l h3 hlen (hid λi _ W hW=>zdi _ (hz i) W hW) (hid λW hW hp=>zw6 p cap l h3 hlen hz W hW hp) w (hid hw) (hid hp)
theorem zj5 (p:Option Addr) (cap:Nat) (l:List Pt) (h3:3<=l.length) (hlen:l.length<=4096) (hz:∀i,szP (cor l i) 36) (hs:zch l) (hm:zbz l) (w:zA) (hw:Wd w) (hp:RowPts p l w):
 qJ 18 #[.slice p l.length cap] w (.int .i64 0):=by
 refine(zu9 p cap l h3 hlen hz w hw hp).mono ?_
 rintro e w' ⟨r,rfl,h,hb⟩
 rcases h with⟨h,_⟩|⟨_,h,_⟩|⟨_,_,rfl⟩
 ·exact absurd hs h
 ·exact absurd hm h
 ·exact⟨rfl,hb⟩
end
section
open Go.RowKit Go.Shelf Lib Str Limb Geo
theorem z3r {l:List Pt} {k:Nat} (h:k<l.length):cor l k=l[k]:=by
 unfold cor;rw[zQ h,yB h];rfl
theorem z5j (l:List Pt) (k:Nat):cor l (k%l.length+1)=cor l (k+1):=by
 unfold cor;rw[Nat.add_mod,Nat.mod_mod,<-Nat.add_mod]
theorem z5k {a n:Nat} (h:a<n):(a+1)%n=if a+1=n then 0 else a+1:=by
 split
 ·rename_i e;rw[e,Nat.mod_self]
 ·exact zQ (by omega)
def z3q (l:List Pt):Prop:=zch l/\zbz l
theorem z38 (x:Pt) (r:List Pt) (k:Nat):cor (r++[x]) k=cor (x::r) (k+1):=by
 have hl:(r++[x]).length=r.length+1:=by simp
 have hl2:(x::r).length=r.length+1:=by simp
 unfold cor
 rw[hl,hl2]
 have hk:k%(r.length+1)<r.length+1:=zP _ (by omega)
 have e:(k+1)%(r.length+1)=(k%(r.length+1)+1)%(r.length+1):=by rw[Nat.add_mod,<-Nat.add_mod,Nat.mod_add_mod]
 rw[e]
 generalize k%(r.length+1)=a at*
 rw[z5k hk]
 by_cases h:a=r.length
 ·subst h;rw[if_pos rfl];simp
 ·rw[if_neg (by omega),List.getElem?_append_left (by omega),List.getElem?_cons_succ]
theorem z7q (n i k:Nat) (hi:i<n) (hk:k<n) (hik:i<k) (h3:3<=n):
 zea n ((i+1)%n) ((k+1)%n)=zea n i k/\(i+1)%n<(k+1)%n\/zea n ((k+1)%n) ((i+1)%n)=zea n i k/\(k+1)%n<(i+1)%n:=by
 rw[z5k hi,z5k hk,if_neg (show ¬i+1=n by omega)]
 unfold zea
 by_cases h:k+1=n
 ·rw[if_pos h]
  refine .inr ⟨?_,by omega⟩
  by_cases c:k=i+1\/i=0/\k=n-1
  ·rw[if_pos c,if_pos (by omega)]
  ·rw[if_neg c,if_neg (by omega)]
 ·rw[if_neg h]
  refine .inl ⟨?_,by omega⟩
  by_cases c:k=i+1\/i=0/\k=n-1
  ·rw[if_pos c,if_pos (by omega)]
  ·rw[if_neg c,if_neg (by omega)]
theorem z5l {l:List Pt} (h:zbz l) {i k:Nat} (hi:i<l.length) (hk:k<l.length) (hne:i≠k):meet (cor l i) (cor l (i+1)) (cor l k) (cor l (k+1))=if i<k then zea l.length i k else zea l.length k i:=by
 by_cases c:i<k
 ·rw[if_pos c];exact h i k c hk
 ·rw[if_neg c,zo7];exact h k i (by omega) hi
theorem z5y {x:Pt} {r:List Pt} (h3:3<=(x::r).length) (h:z3q (x::r)):z3q (r++[x]):=by
 have hl:(r++[x]).length=(x::r).length:=by simp
 obtain⟨hs,hm⟩:=h
 have hc:=z38 x r
 generalize hL:x::r=l at*
 refine⟨λi hi=>?_,λi k hik hk=>?_⟩
 ·rw[hl] at hi
  rw[hc,hc]
  have:=hs ((i+1)%l.length) (zP _ (by omega))
  rw[zt4,z5j] at this
  exact this
 ·unfold okS2
  rw[hl] at hk⊢
  rw[hc,hc,hc,hc]
  have hi:i<l.length:=by omega
  have e:=z5l hm (i:=(i+1)%l.length) (k:=(k+1)%l.length) (zP _ (by omega)) (zP _ (by omega))
  rw[zt4,zt4,z5j,z5j] at e
  rcases z7q l.length i k hi hk hik h3 with⟨e1,e2⟩|⟨e1,e2⟩
  ·rw[e (by omega),if_pos e2,e1]
  ·rw[e (by omega),if_neg (by omega),e1]
theorem z4e:∀(s t:List Pt),3<=(s++t).length->z3q (s++t)->z3q (t++s)
 |[],t,_,h=>by simpa using h
 |x::s,t,h3,h=>by
  have h1:z3q ((s++t)++[x]):=z5y (by simpa using h3) (by simpa using h)
  have:=z4e s (t++[x]) (by simp at h3⊢;omega) (by simpa using h1)
  simpa using this
theorem z4i (l:List Pt) {k:Nat} (h:k<l.length):cor l.reverse k=cor l (l.length-1-k):=by
 rw[z3r (by simpa using h),z3r (by omega),List.getElem_reverse]
theorem z7r {l:List Pt} (h3:3<=l.length) (h:z3q l):z3q l.reverse:=by
 obtain⟨hs,hm⟩:=h
 have hl:l.reverse.length=l.length:=List.length_reverse ..
 -- the side i of the reversed list is the side s i of the list,from its end to its beginning
 have side:∀i,i<l.length->∃s,s<l.length/\cor l.reverse i=cor l (s+1)/\cor l.reverse (i+1)=cor l s/\(s+i+2=l.length\/s+1=l.length/\i+1=l.length):=by
  intro i hi
  by_cases c:i+1=l.length
  ·refine⟨l.length-1,by omega,?_,?_,.inr ⟨by omega,c⟩⟩
   ·rw[z4i l hi,show l.length-1+1=l.length by omega]
    unfold cor;rw[Nat.mod_self,show l.length-1-i=0 by omega,Nat.zero_mod]
   ·rw[c]
    have e:cor l.reverse l.length=cor l.reverse 0:=by unfold cor;rw[hl,Nat.mod_self,Nat.zero_mod]
    rw[e,z4i l (by omega)];rfl
  ·refine⟨l.length-2-i,by omega,?_,?_,.inl (by omega)⟩
   ·rw[z4i l hi];congr 1;omega
   ·rw[z4i l (by omega)];congr 1;omega
 refine⟨λi hi=>?_,λi k hik hk=>?_⟩
 ·rw[hl] at hi
  obtain⟨s,h1,h2,h3,_⟩:=side i hi
  rw[h2,h3]
  exact λe=>hs s h1 e.symm
 ·rw[hl] at hk
  unfold okS2
  rw[hl]
  obtain⟨s,a1,a2,a3,a4⟩:=side i (by omega)
  obtain⟨t,b1,b2,b3,b4⟩:=side k hk
  rw[a2,a3,b2,b3,z4b,z4c,z5l hm a1 b1 (by omega)]
  unfold zea
  by_cases c:s<t
  ·rw[if_pos c]
   by_cases c2:k=i+1\/i=0/\k=l.length-1
   ·rw[if_pos c2,if_pos (by omega)]
   ·rw[if_neg c2,if_neg (by omega)]
  ·rw[if_neg c]
   by_cases c2:k=i+1\/i=0/\k=l.length-1
   ·rw[if_pos c2,if_pos (by omega)]
   ·rw[if_neg c2,if_neg (by omega)]
theorem z3s (l:List Pt) (k:Nat):cor l (l.length+k)=cor l k:=by unfold cor;rw[Nat.add_mod_left]
theorem z3y:∀(s t:List Pt) (k:Nat),cor (t++s) k=cor (s++t) (k+s.length)
 |[],t,k=>by simp
 |x::s,t,k=>by
  have:=z3y s (t++[x]) k
  rw[List.append_assoc,List.singleton_append] at this
  rw[this,<-List.append_assoc,z38,yM,yA,Nat.add_assoc]
end
end Go.Proofs.YthfpmfdiamldoaaGreatDoor
