/- The corners that are left turn: plain laws. -/
import Derived.Test.YtlaccnphhomdgaaGreatDoorQ15
import Derived.Test.YtlaccnphhomdgaaGreatDoorQ13
import Derived.Test.YtlaccnphhomdgaaGreatDoorQ11
import Derived.Test.YtlaccnphhomdgaaGreatDoorQ12
import Derived.Maps.AppendAt
set_option maxRecDepth 100000
set_option maxHeartbeats 8000000
open Go renaming World → zA, Calls → zC
open Go.RowKit renaming Below → zB, intOf → zL
open Go.Proofs.Tryz renaming prog → zF
open Go.World renaming alloc_heap_new → zG, size_alloc → zH
open Go.IntWalk renaming i64_in → zI
open Go.Joins renaming cell_of_block → zJ
open Go.RowKit.Below renaming refl → zM
open Nat renaming le_refl → zN, mod_lt → zP
open List renaming length_append → zU, getElem_mem → zY, cons_append → yM, take_append_drop → yN
namespace Go.Proofs.YtlaccnphhomdgaaGreatDoor
section
open Go.RowKit Go.Shelf Lib Str Limb Geo
theorem z5e {ex ey dx dy fx fy:Rat} (h:ex≠0\/ey≠0) (h1:dx*ey-dy*ex=0) (h2:ex*fy-ey*fx=0):dx*fy-dy*fx=0:=by
 rcases h with h|h
 ·have:ex*(dx*fy-dy*fx)=0:=by grind
  rcases Rat.mul_eq_zero.1 this with k|k
  ·exact absurd k h
  ·exact k
 ·have:ey*(dx*fy-dy*fx)=0:=by grind
  rcases Rat.mul_eq_zero.1 this with k|k
  ·exact absurd k h
  ·exact k
theorem z6u {p q:Pt} (h:p≠q):q.x-p.x≠0\/q.y-p.y≠0:=by
 by_cases c:q.x-p.x=0
 ·refine .inr λc2=>h ?_
  obtain⟨a,b⟩:=p;obtain⟨c',d'⟩:=q
  simp only[Pt.mk.injEq]
  simp only at c c2
  exact⟨by grind,by grind⟩
 ·exact .inl c
theorem z5n (c:Nat->Pt) (n:Nat) (hd:∀j,j<n->c j≠c (j+1)) (hf:∀j,0<j->j<n->turn (c (j-1)) (c j) (c (j+1))=0):∀j,j<=n->0<n->cr (c 0) (c 1) (c j)=0/\cr (c 0) (c 1) (c (j-1))=0
 |0,_,_=>by unfold cr;constructor<;>grind
 |1,_,_=>by
  show cr (c 0) (c 1) (c 1)=0/\cr (c 0) (c 1) (c 0)=0
  unfold cr;constructor<;>grind
 |j+2,hj,h0=>by
  obtain⟨h1,h2⟩:=z5n c n hd hf (j+1) (by omega) h0
  have hfl:=zgy.1 (hf (j+1) (by omega) (by omega))
  refine⟨?_,h1⟩
  simp only[Nat.add_sub_cancel] at hfl h2
  have hne:=z6u (hd j (by omega))
  have:=z5e (dx:=(c 1).x-(c 0).x) (dy:=(c 1).y-(c 0).y) (fx:=(c (j+1+1)).x-(c j).x) (fy:=(c (j+1+1)).y-(c j).y) hne (by unfold cr at h1 h2;grind) (by unfold cr at hfl;exact hfl)
  unfold cr at h2⊢
  show((c 1).x-(c 0).x)*((c (j+1+1)).y-(c 0).y)-((c 1).y-(c 0).y)*((c (j+1+1)).x-(c 0).x)=0
  grind
theorem z6g {p:Nat->Bool} {n x:Nat} {xs:List Nat} (h:(List.range n).filter p=x::xs):
 (∀i (hi:i<xs.length),p xs[i]=true/\x<xs[i]/\xs[i]<n)/\
 (xs=[]->∀j,x<j->j<n->p j=false)/\
 (∀(h0:0<xs.length),(∀j,x<j->j<xs[0]->p j=false)/\∀j,xs[xs.length-1]<j->j<n->p j=false):=by
 have hp:(x::xs).Pairwise (· < ·):=by rw[<-h];exact List.pairwise_lt_range.sublist List.filter_sublist
 have hm:∀j,j∈x::xs↔j<n/\p j=true:=λj=>by rw[<-h,List.mem_filter,List.mem_range]
 rw[List.pairwise_cons] at hp
 obtain⟨hx,hxs⟩:=hp
 rw[List.pairwise_iff_getElem] at hxs
 have inx:∀j,x<j->j<n->p j=true->∃i,∃hi:i<xs.length,xs[i]=j:=λj h1 h2 h3=>by
  rcases List.mem_cons.1 ((hm j).2 ⟨h2,h3⟩) with rfl|k
  ·exact absurd h1 (Nat.lt_irrefl _)
  ·exact List.mem_iff_getElem.1 k
 refine⟨λi hi=>?_,λhe j h1 h2=>?_,λh0=>⟨λj h1 h2=>?_,λj h1 h2=>?_⟩⟩
 ·have:=(hm xs[i]).1 (List.mem_cons_of_mem _ (zY hi))
  exact⟨this.2,hx _ (zY hi),this.1⟩
 ·cases k:p j with
  |false=>rfl
  |true=>
   obtain⟨i,hi,_⟩:=inx j h1 h2 k
   rw[he] at hi;simp at hi
 ·cases k:p j with
  |false=>rfl
  |true=>
   have hn:=((hm xs[0]).1 (List.mem_cons_of_mem _ (zY h0))).1
   obtain⟨i,hi,e⟩:=inx j h1 (by omega) k
   by_cases c:i=0
   ·subst c;omega
   ·have:=hxs 0 i h0 hi (by omega);omega
 ·cases k:p j with
  |false=>rfl
  |true=>
   have hl:=hx _ (zY (show xs.length-1<xs.length by omega))
   obtain⟨i,hi,e⟩:=inx j (by omega) h2 k
   by_cases c:i=xs.length-1
   ·subst c;omega
   ·have:=hxs i (xs.length-1) hi (by omega) (by omega);omega
theorem z6v {P:Pt} {r d:List Pt} (h3:3<=(P::r).length) (h:z3q (P::r)) (h0:z3m (P::r) 0=false) (hk:z3n (P::r)=P::d):
 turn (cor (P::d) d.length) P (cor (P::d) 1)≠0:=by
 intro ht
 have hinj:=λ{i k}=>z58 (i:=i) (k:=k) h3 h
 have hs:=h.1
 have hP:cor (P::r) 0=P:=rfl
 generalize hl:P::r=l at*
 -- the first corner turns
 have hn0:turn (cor l (l.length-1)) P (cor l 1)≠0:=by
  unfold z3m at h0
  rw[Nat.zero_add,Nat.zero_add,hP] at h0
  simpa using h0
 unfold z3n z3o at hk
 have hflat:∀j,(!z3m l j)=false->0<j->turn (cor l (j-1)) (cor l j) (cor l (j+1))=0:=by
  intro j hj hj0
  have:z3m l j=true:=by simpa using hj
  unfold z3m at this
  rw[show j+l.length-1=l.length+(j-1) by omega,z3s] at this
  simpa using this
 cases hF:(List.range l.length).filter (λi=>!z3m l i) with
 |nil=>rw[hF] at hk;simp at hk
 |cons x xs=>
  rw[hF,List.map_cons,List.cons.injEq] at hk
  obtain⟨hx,hd⟩:=hk
  have hx0:x=0:=by
   have m0:0∈(List.range l.length).filter (λi=>!z3m l i):=List.mem_filter.2 ⟨List.mem_range.2 (by omega),by rw[h0];rfl⟩
   have hp:(x::xs).Pairwise (· < ·):=by rw[<-hF];exact List.pairwise_lt_range.sublist List.filter_sublist
   rw[hF] at m0
   rcases List.mem_cons.1 m0 with e|e
   ·exact e.symm
   ·have:=(List.pairwise_cons.1 hp).1 _ e;omega
  subst hx0
  obtain⟨f1,f2,f3⟩:=z6g hF
  have hrun:∀m,0<m->m<=l.length-1->(∀j,0<j->j<m->(!z3m l j)=false)->cr P (cor l 1) (cor l m)=0:=by
   intro m hm0 hm hfl
   have:=(z5n (cor l) m (λj hj=>hs j (by omega)) (λj h1 h2=>hflat j (hfl j h1 h2) h1) m (zN _) hm0).1
   rwa [hP] at this
  have hn:cor l l.length=P:=by have:=z3s l 0;rw[Nat.add_zero,hP] at this;exact this
  have hrunL:∀m,m<l.length->0<m->(∀j,m<j->j<l.length->(!z3m l j)=false)->cr P (cor l (l.length-1)) (cor l m)=0:=by
   intro m hm hm0 hfl
   have:=(z5n (λj=>cor l (l.length-j)) (l.length-m) (λj hj=>by
    have:=hs (l.length-(j+1)) (by omega)
    rw[show l.length-(j+1)+1=l.length-j by omega] at this
    exact Ne.symm this) (λj h1 h2=>by
    have:=hflat (l.length-j) (hfl _ (by omega) (by omega)) (by omega)
    rw[z43,show l.length-(j+1)=l.length-j-1 by omega,show l.length-(j-1)=l.length-j+1 by omega,this];rfl) (l.length-m) (zN _) (by omega)).1
   simp only[Nat.sub_zero] at this
   rwa [hn,show l.length-(l.length-m)=m by omega] at this
  by_cases he:xs=[]
  ·-- nothing else is left:all on one line
   have:=hrun (l.length-1) (by omega) (zN _) (λj h1 h2=>f2 he j h1 (by omega))
   refine hn0 (zgy.2 ?_)
   unfold cr at this⊢
   grind
  ·have hxl:0<xs.length:=List.length_pos_iff.2 he
   obtain⟨g1,g2⟩:=f3 hxl
   obtain⟨_,a2,a3⟩:=f1 0 hxl
   obtain⟨_,b2,b3⟩:=f1 (xs.length-1) (by omega)
   have dl:d.length=xs.length:=by rw[<-hd];simp
   have c1:cor (P::d) 1=cor l xs[0]:=by
    rw[z3r (by simp;omega)]
    simp only[List.getElem_cons_succ]
    simp only[<-hd,List.getElem_map]
   have c2:cor (P::d) d.length=cor l xs[xs.length-1]:=by
    rw[z3r (by simp)]
    rw[List.getElem_cons,dif_neg (by omega)]
    simp only[<-hd,List.getElem_map,List.length_map]
   rw[c1,c2] at ht
   have k1:=hrun xs[0] (by omega) (by omega) (λj h1 h2=>g1 j h1 h2)
   have k2:=hrunL xs[xs.length-1] (by omega) (by omega) (λj h1 h2=>g2 j h1 h2)
   have n1:P≠cor l xs[0]:=by have:=hinj a2 a3;rwa [hP] at this
   have n2:P≠cor l xs[xs.length-1]:=by have:=hinj b2 b3;rwa [hP] at this
   have z:=zgy.1 ht
   generalize cor l xs[0]=B at*
   generalize cor l xs[xs.length-1]=A at*
   generalize cor l 1=u at*
   generalize cor l (l.length-1)=v at*
   refine hn0 (zgy.2 ?_)
   -- u z5e B,B z5e A,v z5e A
   have s1:(A.x-P.x)*(u.y-P.y)-(A.y-P.y)*(u.x-P.x)=0:=z5e (z6u n1) (by unfold cr at z;grind) (by unfold cr at k1;grind)
   have s2:(v.x-P.x)*(u.y-P.y)-(v.y-P.y)*(u.x-P.x)=0:=z5e (z6u n2) (by unfold cr at k2;grind) s1
   unfold cr
   grind
theorem z34 {l:List Pt} (h3:3<=l.length) (h:z3q l):z3n l≠[]:=by
 obtain⟨f1,f2⟩:=z4f (o:=l) (by omega) l.length (zN _)
 generalize z3l l l.length=f at*
 have hnf:z3m l f=false:=by
  cases hc:z3m l f with
  |false=>rfl
  |true=>
   exfalso
   unfold z3m at hc
   have hc:turn (cor l (f+l.length-1)) (cor l f) (cor l (f+1))=0:=by simpa using hc
   -- the side before
   obtain⟨g,hg,e1,e2,hgf⟩:∃g,g<l.length/\cor l (f+l.length-1)=cor l g/\cor l (g+1)=cor l f/\g≠f/\(f=g+1\/f=0/\g=l.length-1):=by
    by_cases c:f=0
    ·refine⟨l.length-1,by omega,by rw[c,Nat.zero_add],?_,by omega,.inr ⟨c,rfl⟩⟩
     rw[show l.length-1+1=l.length+0 by omega,z3s,c]
    ·refine⟨f-1,by omega,?_,by rw[show f-1+1=f by omega],by omega,.inl (by omega)⟩
     rw[show f+l.length-1=l.length+(f-1) by omega,z3s]
   have hm:=z5l h.2 hg f1 hgf.1
   rw[e2] at hm
   have hw:(if g<f then zea l.length g f else zea l.length f g)=1:=by
    unfold zea
    rcases hgf.2 with c|⟨c,c2⟩
    ·rw[if_pos (by omega),if_pos (.inl c)]
    ·rw[if_neg (by omega),if_pos (.inr ⟨c,c2⟩)]
   rw[hw] at hm
   have d1:=h.1 g hg
   rw[e2] at d1
   have d2:=h.1 f f1
   have l1:=f2 g hg
   have l2:le (cor l f) (cor l (f+1)):=by
    have:=f2 ((f+1)%l.length) (zP _ (by omega))
    rwa [zt4] at this
   rw[e1] at hc
   generalize cor l g=v at*
   generalize cor l (f+1)=u at*
   generalize cor l f=P at*
   have t1:turn P u v=0:=by rw[zj3];exact hc
   rw[z33 (zc8 v P) hc t1 (zcz P u)] at hm
   have o1:ordP P v= -1:=by unfold le at l1;have:=z41 (Ne.symm d1);omega
   have o2:ordP P u= -1:=by unfold le at l2;have:=z41 d2;omega
   have s1:=z3t P v;have s2:=z3t P u;have z:=zgw P
   have w1:low v P=P:=by unfold low;rw[if_pos (by omega)]
   have w2:low P u=P:=by unfold low;rw[if_neg (by omega)]
   have w3:high v P=v:=by unfold high;rw[if_pos (by omega)]
   have w4:high P u=u:=by unfold high;rw[if_neg (by omega)]
   have w5:maxP P P=P:=by unfold maxP;split<;>rfl
   rw[w1,w2,w3,w4,w5] at hm
   unfold minP at hm
   split at hm<;>omega
 intro he
 have:cor l f∈z3n l:=by
  unfold z3n z3o
  exact List.mem_map.2 ⟨f,List.mem_filter.2 ⟨List.mem_range.2 f1,by rw[hnf];rfl⟩,rfl⟩
 rw[he] at this
 simp at this
theorem z7v (s t:List Pt):∃A B,z3n (s++t)=A++B/\z3n (t++s)=B++A:=by
 have hl:(s++t).length=s.length+t.length:=by simp
 have hl2:(t++s).length=t.length+s.length:=by simp
 have hp:∀i,z3m (s++t) (s.length+t.length+i)=z3m (s++t) i:=by
  intro i
  by_cases hz:(s++t).length=0
  ·have:s.length=0/\t.length=0:=by omega
   rw[this.1,this.2,Nat.zero_add]
  ·unfold z3m
   rw[<-hl]
   have a0:=z3s (s++t) i;have a1:=z3s (s++t) (i+1);have a2:=z3s (s++t) (i+(s++t).length-1)
   rw[show(s++t).length+i+(s++t).length-1=(s++t).length+(i+(s++t).length-1) by omega,a2,a0,show(s++t).length+i+1=(s++t).length+(i+1) by omega,a1]
 have hf:∀i,z3m (t++s) i=z3m (s++t) (i+s.length):=by
  intro i
  by_cases hz:(s++t).length=0
  ·simp at hz;obtain⟨rfl,rfl⟩:=hz;rfl
  ·unfold z3m
   rw[z3y s t,z3y s t,z3y s t]
   congr 4
   all_goals omega
 refine⟨z3o (s++t) s.length,((List.range t.length).filter λi=>!z3m (s++t) (i+s.length)).map λi=>cor (s++t) (i+s.length),?_,?_⟩
 ·unfold z3n z3o
  rw[hl,List.range_add,List.filter_append,List.map_append,List.filter_map,List.map_map]
  simp only[Function.comp_def,Nat.add_comm s.length]
 ·unfold z3n z3o
  rw[hl2,List.range_add,List.filter_append,List.map_append,List.filter_map,List.map_map]
  simp only[Function.comp_def,hf,z3y s t]
  have e1:∀i,z3m (s++t) (t.length+i+s.length)=z3m (s++t) i:=λi=>by rw[show t.length+i+s.length=s.length+t.length+i by omega,hp]
  have e2:∀i,cor (s++t) (t.length+i+s.length)=cor (s++t) i:=λi=>by rw[show t.length+i+s.length=(s++t).length+i by omega,z3s]
  simp only[e1,e2]
  congr 1
  exact List.map_congr_left λi _=>z3y s t i
theorem z4r {P:Pt}:∀{a b a' b':List Pt},(a++P::b).Nodup->a++P::b=a'++P::b'->a=a'/\b=b'
 |[],b,[],b',_,e=>by simp at e;exact⟨rfl,e⟩
 |[],b,x::a',b',hn,e=>by
  simp at e
  obtain⟨rfl,rfl⟩:=e
  simp at hn
 |x::a,b,[],b',hn,e=>by
  simp at e
  obtain⟨rfl,rfl⟩:=e
  simp at hn
 |x::a,b,y::a',b',hn,e=>by
  simp only[yM,List.cons.injEq] at e
  obtain⟨rfl,e⟩:=e
  rw[yM,List.nodup_cons] at hn
  obtain⟨h1,h2⟩:=z4r hn.2 e
  exact⟨by rw[h1],h2⟩
theorem z68 {l:List Pt} (h3:3<=l.length) (h:z3q l):z3p l.reverse=z3p l:=by
 unfold z3p
 rw[z7u]
 refine z6r (z4t h3 h) (z34 h3 h) λa P b e=>?_
 have hn:=z4t h3 h
 -- where the corner stands in the list
 have hm:P∈z3n l:=by rw[e];simp
 unfold z3n z3o at hm
 obtain⟨i,hi,hP⟩:=List.mem_map.1 hm
 obtain⟨hi1,hi2⟩:=List.mem_filter.1 hi
 have hi1:=List.mem_range.1 hi1
 have hsplit:l=l.take i++P::l.drop (i+1):=by
  rw[<-hP,z3r hi1,List.getElem_cons_drop,yN]
 obtain⟨A,B,e1,e2⟩:=z7v (l.take i) (P::l.drop (i+1))
 rw[<-hsplit] at e1
 have hl:(P::l.drop (i+1)++l.take i).length=l.length:=by simp;omega
 have hp':z3q (P::l.drop (i+1)++l.take i):=z4e _ _ (by rw[<-hsplit];exact h3) (by rw[<-hsplit];exact h)
 have hf0:z3m (P::l.drop (i+1)++l.take i) 0=false:=by
  have c:=λk=>z3y (l.take i) (P::l.drop (i+1)) k
  rw[<-hsplit,show(l.take i).length=i by simp;omega] at c
  have:z3m l i=false:=by simpa using hi2
  unfold z3m at this⊢
  rw[c,c,c,hl,show 0+l.length-1+i=i+l.length-1 by omega,show 0+1+i=i+1 by omega,Nat.zero_add]
  exact this
 -- what is left begins with it
 obtain⟨d,hd⟩:∃d,z3n (P::l.drop (i+1)++l.take i)=P::d:=by
  have e:=z35 (P::l.drop (i+1)++l.take i) 0
  rw[if_neg (by rw[hf0];simp)] at e
  have mono:∀k,∃d,z3o (P::l.drop (i+1)++l.take i) (k+1)=P::d:=by
   intro k
   induction k with
   |zero=>exact⟨[],by rw[e];rfl⟩
   |succ k ih=>
    obtain⟨d,hd⟩:=ih
    rw[z35,hd]
    split
    ·exact⟨d,rfl⟩
    ·exact⟨d++[_],rfl⟩
  have:=mono (l.length-1)
  unfold z3n
  rwa [hl,show l.length=l.length-1+1 by omega]
 have hdb:d=b++a:=by
  rw[hd] at e2
  rw[e] at e1 hn
  cases B with
  |nil=>
   simp only[List.nil_append,List.append_nil] at e1 e2
   rw[<-e2] at e1
   obtain⟨rfl,rfl⟩:=z4r (a':=[]) hn e1
   simp
  |cons y B=>
   simp only[yM,List.cons.injEq] at e2
   obtain⟨rfl,rfl⟩:=e2
   obtain⟨rfl,rfl⟩:=z4r hn e1
   rfl
 have:=z6v (P:=P) (r:=l.drop (i+1)++l.take i) (d:=d) (by rw[<-yM,hl];exact h3) hp' hf0 hd
 rwa [hdb] at this
end
section
open Go.RowKit Go.Shelf Lib Str Limb Geo
attribute [local go_sem] Oper.semAt_some
theorem z1w:(Tryz.prog.info? 25).map (λi=>(i.zero,i.size,i.bytes))=some (some (St []),1,16):=by kernel_rfl
theorem zcj {W W':zA} (h:CellsKept W W') {B:Nat} {e:TypeId} {s:Nat} {v:Value} {n:Nat} {xs:List Value} (ho:W.ownsRow B e s v n xs):W'.ownsRow B e s v n xs:=by
 obtain⟨hl,ho⟩:=ho
 refine⟨hl,?_⟩
 rcases ho with ho|⟨g,cap,cur,e,hb,hg,hr⟩
 ·exact .inl ho
 ·exact .inr ⟨g,cap,cur,e,hb,h _ _ _ _ hg,hr⟩
theorem zmb {P:Program} (C':Value->zA->Prop) {o:Oper} {a:Act} (w:zA) (s x:Operand) (t:TypeId)
 (ho:o.op=.call {callee:=.builtin .append,args:= #[s,x],argTypes:= #[t,t]})
 (base:Nat) (e:TypeId) (i:TypeInfo) (z:Value) (size bytes:Nat) (ht:P.underlying t=some (.slice e)) (hi:P.info? e=some i) (hz:i.zero=some z)
 (hsize:i.size=size) (hby:i.bytes=bytes) (hzs:z.cells.size=size) (hsz:0<size)
 (v:Value) (n:Nat) (xs:List Value) (hs:a.eval s=v) (hown:w.ownsRow base e size v n xs)
 (ad:Addr) (m c:Nat) (news:List Value) (hx:a.eval x=.slice (some ad) m c) (hl:news.length=m*size) (hnews:∀j u,news[j]? =some u->w.cell? (ad.add j)=some u) (h1:∀u∈news,u.oneCell'=true)
 (h63:n+m<=maxLen) (hbytes:(n+m)*bytes<=140737488355328) (hbase:base<=w.heap.size)
 (h:∀v' w',w'.ownsRow base e size v' (n+m) (xs++news)->w.grownBy w' v.ownBlock->C' v' w'):zfp P C' ((execOp a.eval o).run P w):=by
 obtain⟨v',w',hr,h2,h3,h4⟩:=run_append_own (P:=P) w base t o.type e i z size bytes ht hi hz hsize hby hzs hsz v n xs hown ad m c news hl hnews h1 h63 hbytes hbase
 unfold execOp
 simp only[ho,resolve,invoke,builtin,Sem.run_bind,Sem.run_pure,Result.andThen_ok,List.map_toArray,List.map_cons,List.map_nil,hs,hx,hr]
 exact h v' w' h2 h3
def SegB (b:Nat) (x y:Pt) (W:zA):Prop:=W.heap[b]? =some (.cells #[St (numS x.x),St (numS x.y),St (numS y.x),St (numS y.y)] 80 (0,0))
theorem SegB.at {b:Nat} {x y:Pt} {W:zA} (h:SegB b x y W):SegAt b x y W:=by
 constructor<;>(rw[zJ h];rfl)
def zbh (l:List Pt) (k:Nat):Rat:=(cor l k).x*(cor l (k+1)).y-(cor l (k+1)).x*(cor l k).y
def zf4 (l:List Pt) (k:Nat):List Value:=(List.range k).map λi=>St (numS (zbh l i))
theorem zta (l:List Pt) (k:Nat):zf4 l (k+1)=zf4 l k++[St (numS (zbh l k))]:=by simp[zf4,List.range_succ]
structure AreaS (w:zA) (p:Option Addr) (cap n:Nat) (l:List Pt) (bt j:Nat) (W:zA):Prop where
 bel:zB w.heap.size w W
 bt1:w.heap.size<=bt
 pts:∀i,i<n->∃b off,p=some ⟨b,off,none⟩/\b<w.heap.size/\W.cell? ⟨b,off+i*2,none⟩=some (St (ptOf (txt l) i).1)/\W.cell? ⟨b,off+i*2+1,none⟩=some (St (ptOf (txt l) i).2)
 cbx:W.cell? ⟨bt+1,0,none⟩=some (.slice p n cap)
 box:∃v,W.cell? ⟨bt,0,none⟩=some v/\W.ownsRow (bt+2) 25 1 v j (zf4 l j)
 fr:W.frozen? ⟨bt,0,none⟩=false
theorem AreaS.keep {w:zA} {p:Option Addr} {cap n:Nat} {l:List Pt} {bt j:Nat} {W W':zA} (h:AreaS w p cap n l bt j W) (hc:CellsKept W W') (hb:zB w.heap.size W W'):AreaS w p cap n l bt j W':=
 ⟨h.bel.trans hb,h.bt1,λi hi=>let ⟨b,off,e,h0,h1,h2⟩:=h.pts i hi;⟨b,off,e,h0,hc.cell h1,hc.cell h2⟩,hc.cell h.cbx,let ⟨v,h1,h2⟩:=h.box;⟨v,hc.cell h1,zcj hc h2⟩,let ⟨_,h1,_⟩:=h.box;hc.frozen h1 h.fr⟩
theorem AreaS.ptsAt {w:zA} {p:Option Addr} {cap n:Nat} {l:List Pt} {bt j:Nat} {W:zA} (hn:n=l.length) (h:AreaS w p cap n l bt j W):zls (bt+1) p cap (txt l) W:=
 ⟨by rw[za2,<-hn];exact h.cbx,λi hi=>let ⟨b,off,e,_,h1,h2⟩:=h.pts i (by rw[za2] at hi;omega);⟨b,off,e,h1,h2⟩⟩
theorem zo9 {w:zA} {p:Option Addr} {cap n:Nat} {l:List Pt} {bt j:Nat} {W Y Z:zA} {v v':Value} (h:AreaS w p cap n l bt j W) (hv:W.cell? ⟨bt,0,none⟩=some v) (hown:W.ownsRow (bt+2) 25 1 v j (zf4 l j))
 (hY:zB W.heap.size W Y) (hZ:Y.grownBy Z v.ownBlock) (hz:Z.ownsRow (bt+2) 25 1 v' (j+1) (zf4 l (j+1))) (B:Nat):
 KeepsFrom B W (Z.setCell ⟨bt,0,none⟩ v')/\AreaS w p cap n l bt (j+1) (Z.setCell ⟨bt,0,none⟩ v'):=by
 have ck:=zac hY
 have hS:=h.keep ck (hY.mono h.bel.size)
 have ho:=zcj ck hown
 have hlt:∀q,v.ownBlock=some q->bt+2<=q:=λq e=>(ho.lt q e).1
 have hne:∀b,b<bt+2->some b≠v.ownBlock:=λb hb e=>by have:=hlt b e.symm;omega
 have hbt:=h.bt1
 have cz:∀{b o:Nat} {x:Value},b<bt+2->Y.cell? ⟨b,o,none⟩=some x->Z.cell? ⟨b,o,none⟩=some x:=λhb hc=>hZ.cell hc (hne _ hb)
 have hYs:bt<Y.heap.size:=zbe (ck.cell hv)
 refine⟨?_,?_,hbt,λi hi=>?_,?_,⟨v',?_,?_⟩,?_⟩
 ·refine((za0 hY).from B).trans (((KeepsOthers.of_grownBy hZ ?_).from B).trans ((KeepsOthers.setCell _ _ _).from B))
  intro q o e hq
  rcases ho.2 with⟨rfl,_⟩|⟨g,cp,cur,rfl,_,hg,_⟩
  ·simp[Value.ownBlock] at e
  ·simp[Value.ownBlock] at e;subst e;rw[hg] at hq;cases hq;rfl
 ·exact((hS.bel.grown hZ (by have:=zbe hS.cbx;simp at this;omega) (λq e=>by have:=hlt q e;omega))).setCell (by simpa using hbt) _
 ·obtain⟨b,off,e,h0,h1,h2⟩:=hS.pts i hi
  exact⟨b,off,e,h0,by rw[zau _ _ _ _ (by omega)];exact cz (by omega) h1,by rw[zau _ _ _ _ (by omega)];exact cz (by omega) h2⟩
 ·rw[zau _ _ _ _ (by omega)];exact cz (by omega) hS.cbx
 ·exact za9 (cz (by omega) (ck.cell hv))
 ·exact ownsRow_setCell_below hz (by simp) _
 ·rw[World.frozen?_setCell,World.frozen?_of_block (a:=⟨bt,0,none⟩) (hZ.block bt hYs (hne bt (by omega)))];exact hS.fr
structure AppS (W:zA) (v:Value) (u:List UInt8) (bt j:Nat) (xs:List Value) (b:Nat×Value) (f:Nat->Bool) (X:zA):Prop where
 pre:f 17=false->zB W.heap.size W X
 new:f 17=false->f 16=true->X.cell? ⟨b.1,0,none⟩=some (St u)
 post:f 17=true->∃Y Z,zB W.heap.size W Y/\Y.grownBy Z v.ownBlock/\Z.ownsRow (bt+2) 25 1 b.2 (j+1) (xs++[St u])/\X=if f 18=true then Z.setCell ⟨bt,0,none⟩ b.2 else Z
theorem AppS.congr {W:zA} {v:Value} {u:List UInt8} {bt j:Nat} {xs:List Value} {b:Nat×Value} {f g:Nat->Bool} {X:zA} (h:AppS W v u bt j xs b f X) (e16:g 16=f 16) (e17:g 17=f 17) (e18:g 18=f 18):AppS W v u bt j xs b g X:=
 ⟨by rw[e17];exact h.pre,by rw[e16,e17];exact h.new,by rw[e17,e18];exact h.post⟩
theorem zw7 (p:Option Addr) (cap:Nat) (l:List Pt) (h3:3<=l.length) (hlen:l.length<=4096) (r:Rat)
 (C:Hid (∀W:zA,Wd W->RowPts p l W->zC zF 34 #[.slice p l.length cap] W λe w'=>e=.returned (.int .i64 0)/\zB W.heap.size W w'))
 (M1:Hid (∀k,k<l.length->∀W:zA,Wd W->zC zF 43 #[St (numS (cor l k).x),St (numS (cor l (k+1)).y)] W λe w'=>e=.returned (St (numS ((cor l k).x*(cor l (k+1)).y)))/\zB W.heap.size W w'))
 (M2:Hid (∀k,k<l.length->∀W:zA,Wd W->zC zF 43 #[St (numS (cor l (k+1)).x),St (numS (cor l k).y)] W λe w'=>e=.returned (St (numS ((cor l (k+1)).x*(cor l k).y)))/\zB W.heap.size W w'))
 (SB:Hid (∀k,k<l.length->∀W:zA,Wd W->zC zF 42 #[St (numS ((cor l k).x*(cor l (k+1)).y)),St (numS ((cor l (k+1)).x*(cor l k).y))] W λe w'=>e=.returned (St (numS (zbh l k)))/\zB W.heap.size W w'))
 (SM:Hid (∀p cap,∀W:zA,Wd W->RowNums p l.length (zbh l) W->zC zF 44 #[.slice p l.length cap] W λe w'=>e=.returned (.tuple #[St (numS (psum (zbh l) l.length)),.int .i64 0])/\zB W.heap.size W w'))
 (DV:Hid (∀W:zA,Wd W->zC zF 7 #[St (numS (psum (zbh l) l.length)),.string ⟨#[50]⟩] W λe w'=>e=.returned (.tuple #[St (numS r),.int .i64 0])/\zB W.heap.size W w'))
 (w:zA) (HW:Hid (Wd w)) (HP:Hid (RowPts p l w)):
 zC zF 17 #[.slice p l.length cap] w λe w'=>e=.returned (.tuple #[St (numS r),.int .i64 0])/\zB w.heap.size w w':=by
 obtain⟨i0,hi,hz0,hz1,hz2⟩:=info_parts z1w
 refine(callsIn_wide (n:=3)).1 ?_
 refine callsIn_of_wp_marks Tryz.func17 rfl trivial ?_ rfl
 simp only[Tryz.ntmps17,List.size_toArray,List.length_cons,List.length_nil,Nat.reduceAdd,Nat.reduceSub,Array.replicate_succ,Array.replicate_zero,List.push_toArray,List.append_toArray,List.nil_append,yM]
 obtain⟨n,hn⟩:∃n,n=l.length:=⟨_,rfl⟩
 have hCk:=C.out w HW.out HP.out
 rw[<-hn] at h3 hlen hCk⊢
 have HN:=hid hn;clear hn
 have HCk:=hid hCk;clear hCk C
 gi_wp2
 refine⟨trivial,(callsIn_wide.2 HCk.out).mono ?_⟩
 rintro e w1 ⟨rfl,hb1⟩
 have HB1:=hid hb1;clear hb1 HCk
 gi_wp2_with (refine⟨trivial,?_⟩;gi_at_call 41;refine(callsIn_wide.2 (zfr _ _ _ _ _ rfl)).mono ?_;rintro e w' ⟨rfl,rfl⟩)
 obtain⟨W1,hW1⟩:∃W1,W1=(w1.alloc (.cells #[.slice none 0 0] 75)).alloc (.cells #[.slice p n cap] 22):=⟨_,rfl⟩
 rw[<-hW1]
 have hS1:AreaS w p cap n l w1.heap.size 0 W1:=by
  have hb:=HB1.out
  have b1:=(Boxed.new w1 75 (.slice none 0 0)).alloc (.cells #[.slice p n cap] 22)
  have b2:=Boxed.new (w1.alloc (.cells #[.slice none 0 0] 75)) 22 (.slice p n cap)
  rw[zH] at b2
  have hw:zB w1.heap.size w1 ((w1.alloc (.cells #[.slice none 0 0] 75)).alloc (.cells #[.slice p n cap] 22)):=((zM _ w1).alloc (zN _) _).alloc (by simp) _
  rw[hW1]
  refine⟨hb.trans (hw.mono hb.size),hb.size,λi hi=>?_,b2.cell,⟨_,b1.cell,World.ownsRow_nil _ _ _ _⟩,b1.frozen⟩
  obtain⟨b,off,e,h1,h2⟩:=HP.out i (by rw[<-HN.out];exact hi)
  exact⟨b,off,e,zbe h1,zai hw (zai hb h1),zai hw (zai hb h2)⟩
 have hsz1:W1.heap.size=w1.heap.size+2:=by rw[hW1];simp
 clear hW1
 have HS1:=hid hS1.bel.size
 have HZ:=hid hsz1
 have hw1:w.heap.size<=w1.heap.size:=HB1.out.size
 have hseq:=zgi 2 (by omega) (w1.heap.size+1) (txt l) (by rw[za2,<-HN.out];omega) (λW=>∃j,AreaS w p cap n l w1.heap.size j W) p cap (λW ⟨j,h⟩=>h.ptsAt HN.out)
 rw[za2,<-HN.out] at hseq
 refine zfq (n:=3) (B:=w.heap.size) rfl (by omega) rfl trivial (enters_of Tryz.func80 (by kernel_rfl) rfl) hseq (λk args h=>by subst h;rfl) hS1.bel.size
  (λj W=>AreaS w p cap n l w1.heap.size j W) (λc _ W=>False)
  (λj X Y h hc hb=>h.keep hc hb) (λc j X Y h hc hb=>h) (λj W h=>⟨j,h⟩) hS1
  (λj _ a' W=>∃bs,a'={tmps:= #[Value.slice p n cap,undef,.string ⟨#[]⟩,.int .i64 0,.pointer (some ⟨w1.heap.size,0,none⟩),undef,.pointer (some ⟨bs,0,none⟩),undef,undef,Value.slice p n cap,.int .i64 0,.bool false,Value.slice p n cap,Value.func (Fn.func 80) #[] #[.pointer (some ⟨w1.heap.size+1,0,none⟩)],I j,segV (cor l j) (cor l (j+1)),undef,undef,undef,undef,undef,undef,undef,undef,undef,undef,undef,undef,undef,undef,undef,undef,undef,undef,undef,undef,undef,undef,undef,undef,undef,undef,undef,undef,undef,undef],defers:=[]}/\SegB bs (cor l j) (cor l (j+1)) W)
  (λj _ a' X Y h hc hb=>let ⟨bs,e,h2⟩:=h;⟨bs,e,hc _ _ _ _ h2⟩) ?assign ?body ?done ?stop
 case assign=>
  rintro lp j args W K hlp hrec hS hj rfl hK
  rw[zgj l j (by rw[<-HN.out];exact hj)]
  have HK:=hid hK;clear hK
  unfold segV
  gi_wp2
  have hb1:zB W.heap.size W (W.alloc (.cells #[St (numS (cor l j).x),St (numS (cor l j).y),St (numS (cor l (j+1)).x),St (numS (cor l (j+1)).y)] 80)):=(zM _ W).alloc (zN _) _
  exact HK.out _ _ ((za0 hb1).from _) (hS.keep (zac hb1) (hb1.mono hS.bel.size)) ⟨W.heap.size,rfl,zG W _⟩
 case body=>
  rintro lp j args a' W hlp ⟨r',hr'⟩ hS hj rfl ⟨bs,rfl,hseg⟩
  have hjl:j<l.length:=by rw[<-HN.out];exact hj
  have m1:=hid (M1.out j hjl);have m2:=hid (M2.out j hjl);have sb:=hid (SB.out j hjl)
  obtain⟨v,hv,hown⟩:=hS.box
  have H0:=hid hS
  have HT:=hid (zta l j)
  have HO:=hid hown
  obtain⟨u1,hu1⟩:∃u,u=numS ((cor l j).x*(cor l (j+1)).y):=⟨_,rfl⟩
  obtain⟨u2,hu2⟩:∃u,u=numS ((cor l (j+1)).x*(cor l j).y):=⟨_,rfl⟩
  obtain⟨u3,hu3⟩:∃u,u=numS (zbh l j):=⟨_,rfl⟩
  rw[<-hu1] at m1 sb;rw[<-hu2] at m2 sb;rw[<-hu3] at sb HT
  obtain⟨q1,q2,q3,q4⟩:=hseg.at
  clear hseg
  unfold segV
  generalize numS (cor l j).x=x1 at*
  generalize numS (cor l j).y=y1 at*
  generalize numS (cor l (j+1)).x=x2 at*
  generalize numS (cor l (j+1)).y=y2 at*
  have HQ:=hid (⟨hv,q1,q2,q3,q4⟩:W.cell? ⟨w1.heap.size,0,none⟩=some v/\W.cell? ⟨bs,0,none⟩=some (St x1)/\W.cell? ⟨bs,1,none⟩=some (St y1)/\W.cell? ⟨bs,2,none⟩=some (St x2)/\W.cell? ⟨bs,3,none⟩=some (St y2))
  clear q1 q2 q3 q4 hv hown hu1 hu2 hu3 hseq hS1 hr' hS M1 M2 SB SM DV
  gi_wp2
  have hbl:=H0.out.bel
  have hks:∀w':zA,zB W.heap.size W w'->w'.cell? ⟨w1.heap.size,0,none⟩=some v/\w'.cell? ⟨bs,0,none⟩=some (St x1)/\w'.cell? ⟨bs,1,none⟩=some (St y1)/\w'.cell? ⟨bs,2,none⟩=some (St x2)/\w'.cell? ⟨bs,3,none⟩=some (St y2):=λw' hb=>
   ⟨zai hb HQ.out.1,zai hb HQ.out.2.1,zai hb HQ.out.2.2.1,zai hb HQ.out.2.2.2.1,zai hb HQ.out.2.2.2.2⟩
  have KS:=hid hks;clear hks
  have HV:=hid HQ.out.1
  refine zin (λ(b:Nat×Value) i=>([v,.pointer (some ⟨bs,0,none⟩),.pointer (some ⟨bs,0,none⟩),St x1,.pointer (some ⟨bs,2,none⟩),.pointer (some ⟨bs,3,none⟩),St y2,St u1,.pointer (some ⟨bs,2,none⟩),.pointer (some ⟨bs,2,none⟩),St x2,.pointer (some ⟨bs,0,none⟩),.pointer (some ⟨bs,1,none⟩),St y1,St u2,St u3,.slice (some ⟨b.1,0,none⟩) 1 1,b.2]:List Value).getD i undef) (AppS W v u3 w1.heap.size j (zf4 l j)) (by kernel_rfl) (by kernel_rfl) (by kernel_rfl) (0,v) ⟨λ_=>(zM _ W).drew,λ_ h=>(by cases h),λh=>(by cases h)⟩ λb=>?_
  refine zag (v) (by rfl) (by rfl) (λf W' h=>h.congr rfl rfl rfl) (λf W' hf h=>by have g:=KS.out _ (h.pre (hf.no (j:=17) hf.self (by kernel_rfl)));obtain⟨q0,q1,q2,q3,q4⟩:=g;go_simp) ?_
  try simp only[zzQ]
  refine zag (.pointer (some ⟨bs,0,none⟩)) (by rfl) (by rfl) (λf W' h=>h.congr rfl rfl rfl) (λf W' hf h=>by go_simp) ?_
  try simp only[zzQ]
  refine zag (.pointer (some ⟨bs,0,none⟩)) (by rfl) (by rfl) (λf W' h=>h.congr rfl rfl rfl) (λf W' hf h=>by go_simp) ?_
  try simp only[zzQ]
  refine zag (St x1) (by rfl) (by rfl) (λf W' h=>h.congr rfl rfl rfl) (λf W' hf h=>by have g:=KS.out _ (h.pre (hf.no (j:=17) (hf.no (j:=16) (hf.no (j:=15) (hf.no (j:=7) hf.self (by kernel_rfl)) (by kernel_rfl)) (by kernel_rfl)) (by kernel_rfl)));obtain⟨q0,q1,q2,q3,q4⟩:=g;go_simp) ?_
  try simp only[zzQ]
  refine zag (.pointer (some ⟨bs,2,none⟩)) (by rfl) (by rfl) (λf W' h=>h.congr rfl rfl rfl) (λf W' hf h=>by go_simp) ?_
  try simp only[zzQ]
  refine zag (.pointer (some ⟨bs,3,none⟩)) (by rfl) (by rfl) (λf W' h=>h.congr rfl rfl rfl) (λf W' hf h=>by go_simp) ?_
  try simp only[zzQ]
  refine zag (St y2) (by rfl) (by rfl) (λf W' h=>h.congr rfl rfl rfl) (λf W' hf h=>by have g:=KS.out _ (h.pre (hf.no (j:=17) (hf.no (j:=16) (hf.no (j:=15) (hf.no (j:=7) hf.self (by kernel_rfl)) (by kernel_rfl)) (by kernel_rfl)) (by kernel_rfl)));obtain⟨q0,q1,q2,q3,q4⟩:=g;go_simp) ?_
  try simp only[zzQ]
  refine zbv (St u1) (by rfl) (by rfl) (λf W' hf h C' hC'=>by
   have h17:=(hf.no (j:=17) (hf.no (j:=16) (hf.no (j:=15) hf.self (by kernel_rfl)) (by kernel_rfl)) (by kernel_rfl))
   have h16:=(hf.no (j:=16) (hf.no (j:=15) hf.self (by kernel_rfl)) (by kernel_rfl))
   have hp:=h.pre h17
   go_simp
   refine(m1.out _ (HW.out.below (hbl.trans (hp.mono hbl.size)))).mono ?_
   rintro e w' ⟨rfl,hb⟩
   exact⟨_,rfl,hC' _ ⟨λ_=>hp.trans (hb.mono hp.size),λ_ k=>(by have k':f 16=true:=k;rw[h16] at k';cases k'),λk=>(by have k':f 17=true:=k;rw[h17] at k';cases k')⟩⟩) ?_
  try simp only[zzQ]
  refine zag (.pointer (some ⟨bs,2,none⟩)) (by rfl) (by rfl) (λf W' h=>h.congr rfl rfl rfl) (λf W' hf h=>by go_simp) ?_
  try simp only[zzQ]
  refine zag (.pointer (some ⟨bs,2,none⟩)) (by rfl) (by rfl) (λf W' h=>h.congr rfl rfl rfl) (λf W' hf h=>by go_simp) ?_
  try simp only[zzQ]
  refine zag (St x2) (by rfl) (by rfl) (λf W' h=>h.congr rfl rfl rfl) (λf W' hf h=>by have g:=KS.out _ (h.pre (hf.no (j:=17) (hf.no (j:=16) (hf.no (j:=15) (hf.no (j:=14) hf.self (by kernel_rfl)) (by kernel_rfl)) (by kernel_rfl)) (by kernel_rfl)));obtain⟨q0,q1,q2,q3,q4⟩:=g;go_simp) ?_
  try simp only[zzQ]
  refine zag (.pointer (some ⟨bs,0,none⟩)) (by rfl) (by rfl) (λf W' h=>h.congr rfl rfl rfl) (λf W' hf h=>by go_simp) ?_
  try simp only[zzQ]
  refine zag (.pointer (some ⟨bs,1,none⟩)) (by rfl) (by rfl) (λf W' h=>h.congr rfl rfl rfl) (λf W' hf h=>by go_simp) ?_
  try simp only[zzQ]
  refine zag (St y1) (by rfl) (by rfl) (λf W' h=>h.congr rfl rfl rfl) (λf W' hf h=>by have g:=KS.out _ (h.pre (hf.no (j:=17) (hf.no (j:=16) (hf.no (j:=15) (hf.no (j:=14) hf.self (by kernel_rfl)) (by kernel_rfl)) (by kernel_rfl)) (by kernel_rfl)));obtain⟨q0,q1,q2,q3,q4⟩:=g;go_simp) ?_
  try simp only[zzQ]
  refine zbv (St u2) (by rfl) (by rfl) (λf W' hf h C' hC'=>by
   have h17:=(hf.no (j:=17) (hf.no (j:=16) (hf.no (j:=15) hf.self (by kernel_rfl)) (by kernel_rfl)) (by kernel_rfl))
   have h16:=(hf.no (j:=16) (hf.no (j:=15) hf.self (by kernel_rfl)) (by kernel_rfl))
   have hp:=h.pre h17
   go_simp
   refine(m2.out _ (HW.out.below (hbl.trans (hp.mono hbl.size)))).mono ?_
   rintro e w' ⟨rfl,hb⟩
   exact⟨_,rfl,hC' _ ⟨λ_=>hp.trans (hb.mono hp.size),λ_ k=>(by have k':f 16=true:=k;rw[h16] at k';cases k'),λk=>(by have k':f 17=true:=k;rw[h17] at k';cases k')⟩⟩) ?_
  try simp only[zzQ]
  refine zbv (St u3) (by rfl) (by rfl) (λf W' hf h C' hC'=>by
   have h17:=(hf.no (j:=17) (hf.no (j:=16) hf.self (by kernel_rfl)) (by kernel_rfl))
   have h16:=(hf.no (j:=16) hf.self (by kernel_rfl))
   have hp:=h.pre h17
   go_simp
   refine(sb.out _ (HW.out.below (hbl.trans (hp.mono hbl.size)))).mono ?_
   rintro e w' ⟨rfl,hb⟩
   exact⟨_,rfl,hC' _ ⟨λ_=>hp.trans (hb.mono hp.size),λ_ k=>(by have k':f 16=true:=k;rw[h16] at k';cases k'),λk=>(by have k':f 17=true:=k;rw[h17] at k';cases k')⟩⟩) ?_
  try simp only[zzQ]
  refine zdc (.slice (some ⟨b.1,0,none⟩) 1 1) (by rfl) (by rfl) (λf W' hf h C' hC'=>by
   have h17:=(hf.no (j:=17) hf.self (by kernel_rfl))
   have hp:=h.pre h17
   have ha:zB W'.heap.size W' (W'.alloc (.cells #[St u3] 25)):=(zM _ W').alloc (zN _) _
   have:=hC' (W'.heap.size,b.2) (W'.alloc (.cells #[St u3] 25)) (λi hi=>?_) ⟨λ_=>hp.trans (ha.mono hp.size),λ_ _=>(Boxed.new W' 25 (St u3)).cell,λk=>(by have k':f 17=true:=k;rw[h17] at k';cases k')⟩
   ·go_simp
    exact this
   ·match i,hi with
    |0,_|1,_|2,_|3,_|4,_|5,_|6,_|7,_|8,_|9,_|10,_|11,_|12,_|13,_|14,_|15,_|17,_=>rfl
    |16,hi=>rw[hf.self] at hi;cases hi
    |_+18,_=>rfl) ?_
  try simp only[zzQ]
  refine zdc b.2 (by rfl) (by rfl) (λf W' hf h C' hC'=>by
   have h17:=hf.self
   have h18:=(hf.no (j:=18) hf.self (by kernel_rfl))
   have h16:=hf.done 16 (by kernel_rfl)
   have hp:=h.pre h17
   have hn:=h.new h17 h16
   have hc:=zac hp
   refine zmb _ W' _ _ 75 rfl (w1.heap.size+2) 25 i0 (St []) 1 16 Tryz.underlying75 hi hz0 hz1 hz2 rfl (by decide) v j (zf4 l j) rfl (zcj hc HO.out) ⟨b.1,0,none⟩ 1 1 [St u3] rfl rfl (λi u hu=>?_) (λu hu=>by simp at hu;subst hu;rfl) (by unfold maxLen;omega) (by omega) (by have:=zbe (hc.cell H0.out.cbx);simp at this;omega) (λv' w' hown' hgrow=>?_)
   ·match i,hu with
    |0,hu=>simp at hu;subst hu;exact hn
    |_+1,hu=>simp at hu
   ·refine hC' (b.1,v') w' (λi hi=>?_) ⟨λk=>?_,λk=>?_,λ_=>⟨W',w',hp,hgrow,hown',?_⟩⟩
    ·match i,hi with
     |0,_|1,_|2,_|3,_|4,_|5,_|6,_|7,_|8,_|9,_|10,_|11,_|12,_|13,_|14,_|15,_|16,_=>rfl
     |17,hi=>rw[hf.self] at hi;cases hi
     |_+18,_=>rfl
    ·cases k
    ·cases k
    ·show w'=if f 18=true then _ else w'
     rw[h18];rfl) ?_
  try simp only[zzQ]
  refine zbv undef (by rfl) (by rfl) (λf W' hf h C' hC'=>by
   have h17:=hf.done 17 (by kernel_rfl)
   have h18:=hf.self
   obtain⟨Y,Z,hY,hZ,hz,rfl⟩:=h.post h17
   rw[h18,if_neg (by simp)] at*
   have hst:=zo9 H0.out HV.out HO.out hY hZ (by rw[HT.out];exact hz) 0
   have ck:=zac hY
   have hlt:some w1.heap.size≠v.ownBlock:=λe=>by have:=((zcj ck HO.out).lt _ e.symm).1;omega
   have hcell:=hZ.cell (ck.cell HV.out) hlt
   have hfr:Z.frozen? ⟨w1.heap.size,0,none⟩=false:=by
    rw[World.frozen?_of_block (a:=⟨w1.heap.size,0,none⟩) (hZ.block _ (zbe (ck.cell HV.out)) hlt)];exact ck.frozen HV.out H0.out.fr
   have:=hC' (Z.setCell ⟨w1.heap.size,0,none⟩ b.2) ⟨λk=>(by have k':f 17=false:=k;rw[h17] at k';cases k'),λk=>(by have k':f 17=false:=k;rw[h17] at k';cases k'),λ_=>⟨Y,Z,hY,hZ,hz,rfl⟩⟩
   obtain⟨q,m,c,e2⟩:∃q m c,b.2=.slice q m c:=by
    rcases hz.2 with⟨e,_⟩|⟨g,cp,cur,e,_⟩<;>exact⟨_,_,_,e⟩
   rw[e2] at this
   clear hst
   go_simp
   exact this) ?_
  try simp only[Act.put]
  refine ze1 λf X hf h=>?_
  obtain⟨Y,Z,hY,hZ,hz,rfl⟩:=h.post (hf 17 (by decide))
  rw[if_pos (hf 18 (by decide))]
  have hst:=zo9 H0.out HV.out HO.out hY hZ (by rw[HT.out];exact hz) W1.heap.size
  exact hst
 case done=>
  rintro D W hD hS hK
  obtain⟨v,hv,hown⟩:=hS.box
  obtain⟨q,c,rfl⟩:∃q c,v=.slice q n c:=by
   rcases hown.2 with⟨_,e⟩|⟨g,cp,cur,e,_⟩
   ·omega
   ·exact⟨_,_,e⟩
  have hrow:RowNums q l.length (zbh l) W:=by
   intro i hi
   obtain⟨q',cap',e,_,hc⟩:=Sl.of_own hown
   have e1:=(Value.slice.inj e).1
   subst e1
   exact hc i _ (by unfold zf4;rw[List.getElem?_map,List.getElem?_range (by rw[HN.out];exact hi)];rfl)
  have hwd:=HW.out.below hS.bel
  have hsm:=SM.out q c W hwd hrow
  rw[<-HN.out] at hsm
  have HSM:=hid hsm
  have HX:=hid (⟨hS.bel,hK⟩:zB w.heap.size w W/\W.heap[D]? =some (.deferred (some [])))
  have hdv:=DV.out;rw[<-HN.out] at hdv
  have HDV:=hid hdv
  clear hS hK hown hrow hwd hsm hdv hseq hS1 M1 M2 SB SM DV
  gi_wp2
  refine⟨trivial,(callsIn_wide.2 HSM.out).mono ?_⟩
  rintro e W2 ⟨rfl,hb2⟩
  have hbl2:=HX.out.1.trans (hb2.mono HX.out.1.size)
  have HX2:=hid (⟨hbl2,(hb2.block _ (Array.getElem?_eq_some_iff.1 HX.out.2).1).trans HX.out.2⟩:zB w.heap.size w W2/\W2.heap[D]? =some (.deferred (some [])))
  clear hb2 hbl2 HX HSM
  gi_wp2
  refine⟨trivial,(callsIn_wide.2 (HDV.out W2 (HW.out.below HX2.out.1))).mono ?_⟩
  rintro e W3 ⟨rfl,hb3⟩
  have hbl3:=HX2.out.1.trans (hb3.mono HX2.out.1.size)
  have HX3:=hid (⟨hbl3,(hb3.block _ (Array.getElem?_eq_some_iff.1 HX2.out.2).1).trans HX2.out.2⟩:zB w.heap.size w W3/\W3.heap[D]? =some (.deferred (some [])))
  clear hb3 hbl3 HX2
  gi_wp2
  refine⟨by simp,.inl ⟨_,_,rfl,run_takeDeferred HX3.out.2,?_⟩⟩
  refine⟨.tuple #[St (numS r),.int .i64 0],by simp[results,Tryz.f17,go_sem],⟨rfl,zby HX3.out.1 (by have:=HS1.out;omega) HX3.out.2⟩⟩
 case stop=>
  rintro D c j W hD h hK
  exact h.elim
theorem zzk:numS 2=[50]:=by
 have:numS ((2:Int):Rat)=[50]:=by rw[zha];show itoa ((2:Nat):Int)=_;rw[Str.zad,zae (by omega)];rfl
 exact this
theorem zw8:sz 2 1:=⟨by decide,by decide⟩
theorem zt5 (p:Option Addr) (cap:Nat) (l:List Pt) (h3:3<=l.length) (hlen:l.length<=4096) (hz:∀i,szP (cor l i) 36) (hs:zch l) (hm:zbz l)
 (ht:∀k,k<l.length->∃i j,0<i/\0<j/\i+j<300/\sz (psum (zbh l) k) i/\sz (zbh l k) j) (m:Nat) (hm0:0<m) (hm1:m+1<=300) (hmz:sz (psum (zbh l) l.length) m)
 (w:zA) (hw:Wd w) (hp:RowPts p l w):
 zC zF 17 #[.slice p l.length cap] w λe w'=>e=.returned (.tuple #[St (numS (psum (zbh l) l.length/2)),.int .i64 0])/\zB w.heap.size w w':=by
 refine zw7 p cap l h3 hlen _ (hid λW hW hp=>zj5 p cap l h3 hlen hz hs hm W hW hp)
  (hid λk _ W hW=>zhm _ _ 36 36 (by omega) (by omega) (by omega) (hz _).1 (hz _).2 W hW) (hid λk _ W hW=>zhm _ _ 36 36 (by omega) (by omega) (by omega) (hz _).1 (hz _).2 W hW)
  (hid λk _ W hW=>zgg _ _ 72 72 (by omega) (by omega) (by omega) (zca (hz _).1 (hz _).2) (zca (hz _).1 (hz _).2) W hW)
  (hid λp cap W hW hp=>z23 p cap l.length (zbh l) hlen ht W hW hp) (hid λW hW=>?_) w (hid hw) (hid hp)
 have:=zoj (psum (zbh l) l.length) 2 (by decide) m 1 hm0 (by omega) hm1 hmz zw8 W hW
 rwa [zzk] at this
end
section
open Go.RowKit Go.Shelf Lib Str Limb Geo
theorem z8n {p q:Pt} (hp:szP p 12) (hq:szP q 12):szP (midP p q) 26:=
 ⟨zwv (by decide) (zk0 hp.1 hq.1) zw8,zwv (by decide) (zk0 hp.2 hq.2) zw8⟩
def z5r (l o:List Pt):Prop:=z3q o/\z3p o=z3p l/\(∀p∈o,szP p 26)/\3<=o.length/\o.length<=l.length+1
theorem sz26 {l:List Pt} (hz:∀p∈l,szP p 12):∀p∈l,szP p 26:=λp hp=>⟨(hz p hp).1.mono (by omega),(hz p hp).2.mono (by omega)⟩
theorem z6w {l:List Pt} (h3:3<=l.length) (h:z3q l) (hz:∀p∈l,szP p 12):z5r l l:=⟨h,rfl,sz26 hz,h3,by omega⟩
theorem z6x {l:List Pt} (h3:3<=l.length) (h:z3q l) (hz:∀p∈l,szP p 12) (k:Nat):z5r l (l.drop k++l.take k):=by
 have h3':3<=(l.take k++l.drop k).length:=by rw[yN];exact h3
 have h':z3q (l.take k++l.drop k):=by rw[yN];exact h
 have e:=z4m _ _ h3' h'
 rw[yN] at e
 have hl:(l.drop k++l.take k).length=l.length:=by
  rw[zU,Nat.add_comm,<-zU,yN]
 refine⟨z4e _ _ h3' h',e,λp hp=>sz26 hz p ?_,by omega,by omega⟩
 rcases List.mem_append.1 hp with m|m
 ·exact List.mem_of_mem_drop m
 ·exact List.mem_of_mem_take m
theorem z6y {l:List Pt} (h3:3<=l.length) (h:z3q l) (hz:∀p∈l,szP p 12):z5r l l.reverse:=
 ⟨z7r h3 h,z68 h3 h,λp hp=>sz26 hz p (by simpa using hp),by simpa using h3,by simp⟩
theorem z6z {l:List Pt} (h3:3<=l.length) (h:z3q l) (hz:∀p∈l,szP p 12) {k:Nat} (hk:k<l.length):z5r l (z36 l k):=by
 have hl:(z36 l k).length=l.length+1:=by unfold z36;simp;omega
 have hc:∀i,szP (cor l i) 12:=λi=>by
  rw[<-zt4,z3r (zP _ (by omega))]
  exact hz _ (zY _)
 refine⟨z66 h3 h hk,z6t h3 h hk,λp hp=>?_,by omega,by omega⟩
 unfold z36 at hp
 rcases List.mem_append.1 hp with m|m
 ·exact sz26 hz p (List.mem_of_mem_take m)
 ·rcases List.mem_cons.1 m with rfl|m
  ·exact z8n (hc _) (hc _)
  ·exact sz26 hz p (List.mem_of_mem_drop m)
end
section
open Go.RowKit Go.Shelf Lib Str Limb Geo
attribute [local go_sem] Oper.semAt_some
theorem TurnS.start (w:zA) (x1 y1 x2 y2 x3 y3:List UInt8):TurnS w x1 y1 x2 y2 x3 y3 (((w.alloc (.cells #[St x1,St y1] 27)).alloc (.cells #[St x2,St y2] 27)).alloc (.cells #[St x3,St y3] 27)):=by
 have e1:=zG w (.cells #[St x1,St y1] 27 (0,0))
 have e2:=zG (w.alloc (.cells #[St x1,St y1] 27)) (.cells #[St x2,St y2] 27 (0,0))
 have e3:=zG ((w.alloc (.cells #[St x1,St y1] 27)).alloc (.cells #[St x2,St y2] 27)) (.cells #[St x3,St y3] 27 (0,0))
 simp only[zH] at e2 e3
 refine⟨(((zM _ w).alloc (zN _) _).alloc (by simp) _).alloc (by simp;omega) _,by simp,?_,?_,e3⟩
 ·exact(Below.heap_alloc _ _ _ (by simp only[zH];omega)).trans ((Below.heap_alloc _ _ _ (by simp only[zH];omega)).trans e1)
 ·exact(Below.heap_alloc _ _ _ (by simp only[zH];omega)).trans e2
theorem z69 (x1 y1 x2 y2 x3 y3:List UInt8) (n:Int) (fl:Bool) (hfl:(n==0)=fl)
 (T:Hid (∀W:zA,Wd W->zC zF 49 #[.agg #[St x1,St y1],.agg #[St x2,St y2],.agg #[St x3,St y3]] W λe w'=>e=.returned (.int .i64 n)/\zB W.heap.size W w'))
 (w:zA) (HW:Hid (Wd w)):
 zC zF 69 #[.agg #[St x1,St y1],.agg #[St x2,St y2],.agg #[St x3,St y3]] w λe w'=>e=.returned (.bool fl)/\zB w.heap.size w w':=by
 obtain⟨W3,hW3⟩:∃W3,W3=((w.alloc (.cells #[St x1,St y1] 27)).alloc (.cells #[St x2,St y2] 27)).alloc (.cells #[St x3,St y3] 27):=⟨_,rfl⟩
 have HI:=hid (TurnS.start w x1 y1 x2 y2 x3 y3)
 rw[<-hW3] at HI
 have HT:=hid (T.out W3 (HW.out.below HI.out.bel))
 have a0:=HI.out.a0;have a1:=HI.out.a1;have b0:=HI.out.b0;have b1:=HI.out.b1;have c0:=HI.out.c0;have c1:=HI.out.c1
 rw[hW3] at HT a0 a1 b0 b1 c0 c1
 have HW3:=hid hW3;clear hW3 T
 go_enter Tryz.func69,Tryz.ntmps69
 go_wp2_with fail
 refine HT.out.mono ?_
 rintro e w1 ⟨rfl,hb1⟩
 have HB:=hid (HI.out.bel.trans ((show zB W3.heap.size W3 w1 by rw[HW3.out];exact hb1).mono HI.out.bel.size))
 clear hb1 a0 a1 b0 b1 c0 c1 HI HW3 W3
 go_wp2_with fail
 go_ret
 exact⟨rfl,HB.out⟩
theorem z8d (l:List Pt) (k:Nat) (hz:∀i,szP (cor l i) 36) (w:zA) (hw:Wd w):
 zC zF 69 #[ptV (cor l (k+l.length-1)),ptV (cor l k),ptV (cor l (k+1))] w λe w'=>e=.returned (.bool (z3m l k))/\zB w.heap.size w w':=
 z69 _ _ _ _ _ _ (turn (cor l (k+l.length-1)) (cor l k) (cor l (k+1))) _ (by unfold z3m;cases h:decide (turn (cor l (k+l.length-1)) (cor l k) (cor l (k+1))=0)<;>simpa using h) (hid λW hW=>zjg _ _ _ 36 (by omega) (by omega) (hz _) (hz _) (hz _) W hW) w (hid hw)
def z3k:List Pt->List Value
 |[]=>[]
 |p::r=>St (numS p.x)::St (numS p.y)::z3k r
theorem z39:∀(l m:List Pt),z3k (l++m)=z3k l++z3k m
 |[],m=>rfl
 |a::r,m=>by show St (numS a.x)::St (numS a.y)::z3k (r++m)=_;rw[z39 r m];rfl
theorem z3v:∀l:List Pt,(z3k l).length=l.length*2
 |[]=>rfl
 |a::r=>by show(z3k r).length+1+1=_;rw[z3v r,List.length_cons];omega
theorem z4u:(Tryz.prog.info? 27).map (λi=>(i.zero,i.size,i.bytes))=some (some (.agg #[St [],St []]),2,32):=by kernel_rfl
theorem z3z {w:zA} {base:Nat} {e:TypeId} {s:Nat} {v:Value} {n:Nat} {xs:List Value} (h:w.ownsRow base e s v n xs):∃q c,v=.slice q n c:=by
 rcases h.2 with⟨rfl,rfl⟩|⟨g,cap,cur,rfl,_⟩
 ·exact⟨none,0,rfl⟩
 ·exact⟨_,_,rfl⟩
theorem z7w (W:zA) (x y:Value) (t:TypeId):∀i u,[x,y][i]? =some u->(W.alloc (.cells #[x,y] t)).cell? ((⟨W.heap.size,0,none⟩:Addr).add i)=some u:=λi u hu=>by
 have A:=zG W (.cells #[x,y] t)
 have:((⟨W.heap.size,0,none⟩:Addr).add i)=⟨W.heap.size,i,none⟩:=by simp only[Addr.add,Nat.zero_add];split<;>simp_all
 rw[this,zJ A]
 match i,hu with
 |0,hu=>exact hu
 |1,hu=>exact hu
theorem z4n (x y:List UInt8):∀u∈[St x,St y],u.oneCell'=true:=λu hu=>by
 simp at hu;rcases hu with rfl|rfl<;>rfl
structure WoutS (w:zA) (v:Value) (acc:List Pt) (A:Nat) (x y:List UInt8) (W:zA):Prop where
 bel:zB w.heap.size w W
 own:W.ownsRow w.heap.size 27 2 v acc.length (z3k acc)
 bx:W.heap[A]? =some (.cells #[St x,St y] 27 (0,0))
theorem WoutS.next {w:zA} {v:Value} {acc:List Pt} {A:Nat} {x y:List UInt8} {W W':zA} (h:WoutS w v acc A x y W) (hb:zB W.heap.size W W'):WoutS w v acc A x y W':=
 ⟨h.bel.trans (hb.mono h.bel.size),zcj (zac hb) h.own,(hb.block _ (Array.getElem?_eq_some_iff.1 h.bx).1).trans h.bx⟩
theorem WoutS.cx {w:zA} {v:Value} {acc:List Pt} {A:Nat} {x y:List UInt8} {W:zA} (h:WoutS w v acc A x y W):W.cell? ⟨A,0,none⟩=some (St x)/\W.cell? ⟨A,1,none⟩=some (St y):=by have:=h.bx;simp[World.cell?,this]
theorem z44 (k n:Nat):(((k:Int)+1).tmod (n:Int))=(((k+1)%n:Nat):Int):=by
 rw[show(k:Int)+1=((k+1:Nat):Int) by omega,Int.tmod_eq_emod_of_nonneg (by omega)];rfl
theorem z5z {k n:Nat} (hn:0<n):((k:Int)+n-1).tmod n=(((k+n-1)%n:Nat):Int):=by
 rw[show(k:Int)+n-1=((k+n-1:Nat):Int) by omega]
 rw[Int.tmod_eq_emod_of_nonneg (by omega)];rfl
theorem z6b (b off cap:Nat) (l:List Pt) (h3:3<=l.length) (hlen:l.length<=4096)
 (F:Hid (∀k,∀W:zA,Wd W->zC zF 69 #[ptV (cor l (k+l.length-1)),ptV (cor l k),ptV (cor l (k+1))] W λe w'=>e=.returned (.bool (z3m l k))/\zB W.heap.size W w'))
 (w:zA) (HW:Hid (Wd w)) (HC:Hid (∀W:zA,zB w.heap.size w W->∀k,W.cell? ⟨b,off+k%l.length*2,none⟩=some (St (numS (cor l k).x))/\W.cell? ⟨b,off+k%l.length*2+1,none⟩=some (St (numS (cor l k).y)))):
 zC zF 68 #[.slice (some ⟨b,off,none⟩) l.length cap,.func (.func 69) #[] #[]] w λe w'=>∃v,e=.returned v/\w'.ownsRow w.heap.size 27 2 v (z3n l).length (z3k (z3n l))/\zB w.heap.size w w':=by
 obtain⟨n,hn⟩:∃n,n=l.length:=⟨_,rfl⟩
 rw[<-hn] at h3 hlen HC⊢
 have HN:=hid hn;clear hn
 go_enter Tryz.func68,Tryz.ntmps68
 go_wp2
 go_loopw [10,5] (λi v wr=>∃(k:Nat) (q:Option Addr) (c:Nat),k<=n/\i=.int .i64 (k:Int)/\v=.slice q (z3o l k).length c/\Hid (zB w.heap.size w wr)/\Hid (wr.ownsRow w.heap.size 27 2 (.slice q (z3o l k).length c) (z3o l k).length (z3k (z3o l k))))
  (λi _ _=>n-(zL i).toNat)
 case atStart=>exact⟨0,none,0,Nat.zero_le _,rfl,rfl,zM _ _,World.ownsRow_nil _ _ _ _⟩
 case round=>
  obtain⟨k,q,c,hk,rfl,rfl,hB,hO⟩:=hrel
  by_cases hlt:k<n
  ·have hcs:=HC.out
   have HCi:=hid λW h=>hcs W h (k+n-1)
   have HCj:=hid λW h=>hcs W h k
   have HCk:=hid λW h=>hcs W h (k+1)
   obtain⟨c0,c1⟩:=HCj.out wr hB.out
   rw[Nat.mod_eq_of_lt hlt] at c0 c1
   clear hcs HCj
   have hF:=F.out k
   unfold ptV at hF
   rw[<-HN.out] at hF
   have HF:=hid hF;clear hF
   have ht:=z5z (k:=k) (n:=n) (by omega)
   have ht2:=z44 k n
   have hn0:¬n=0:=by omega
   have hw1:IntKind.i64.wrap ((k:Int)+n)=(k:Int)+n:=zI _ ⟨by omega,by omega⟩
   have hw2:IntKind.i64.wrap ((k:Int)+n-1)=(k:Int)+n-1:=zI _ ⟨by omega,by omega⟩
   have hw3:IntKind.i64.wrap ((k:Int)+1)=(k:Int)+1:=zI _ ⟨by omega,by omega⟩
   have hk1:(k+n-1)%n<n:=zP _ (by omega)
   have hk2:(k+1)%n<n:=zP _ (by omega)
   obtain⟨fl,hfl⟩:∃fl,z3m l k=fl:=⟨_,rfl⟩
   have HFL:=hid hfl
   rw[hfl] at HF
   clear hfl
   generalize (k+n-1)%n=i' at*
   generalize (k+1)%n=k' at*
   generalize hxj:numS (cor l k).x=xj at c0 HF
   generalize hyj:numS (cor l k).y=yj at c1 HF
   generalize numS (cor l (k+n-1)).x=xi at HCi HF
   generalize numS (cor l (k+n-1)).y=yi at HCi HF
   generalize numS (cor l (k+1)).x=xk at HCk HF
   generalize numS (cor l (k+1)).y=yk at HCk HF
   have HXY:=hid (⟨hxj,hyj⟩:numS (cor l k).x=xj/\numS (cor l k).y=yj);clear hxj hyj
   have HS:Hid (WoutS w (.slice q (z3o l k).length c) (z3o l k) wr.heap.size xj yj (wr.alloc (.cells #[St xj,St yj] 27))):=hid (by
    have hal:zB wr.heap.size wr (wr.alloc (.cells #[St xj,St yj] 27)):=(zM _ wr).alloc (zN _) _
    exact⟨hB.out.trans (hal.mono hB.out.size),zcj (zac hal) hO.out,zG _ _⟩)
   go_wp2_with fail
   clear hB hO c0 c1
   obtain⟨W1,hW1⟩:∃W1,W1=wr.alloc (.cells #[St xj,St yj] 27):=⟨_,rfl⟩
   rw[<-hW1] at HS
   try rw[show wr.alloc (.cells #[.string ⟨xj.toArray⟩,.string ⟨yj.toArray⟩] 27)=W1 from hW1.symm]
   clear hW1
   generalize wr.heap.size=A at*
   refine zbl (λ_ W=>WoutS w (.slice q (z3o l k).length c) (z3o l k) A xj yj W) (by kernel_rfl) (by kernel_rfl) (HS.out.next (zM _ _).drew) ?_
   refine zab (v:=.func (.func 69) #[] #[]) (by rfl) (λf W' h=>h) (λf W' hf h=>by go_simp) ?_
   try simp only[zzQ]
   refine zab (v:=.slice (some ⟨b,off,none⟩) n cap) (by rfl) (λf W' h=>h) (λf W' hf h=>by go_simp) ?_
   try simp only[zzQ]
   refine zab (v:=.int .i64 (k:Int)) (by rfl) (λf W' h=>h) (λf W' hf h=>by go_simp) ?_
   try simp only[zzQ]
   refine zab (v:=.slice (some ⟨b,off,none⟩) n cap) (by rfl) (λf W' h=>h) (λf W' hf h=>by go_simp) ?_
   try simp only[zzQ]
   refine zab (v:=.int .i64 (n:Int)) (by rfl) (λf W' h=>h) (λf W' hf h=>by go_simp) ?_
   try simp only[zzQ]
   refine zab (v:=.int .i64 ((k:Int)+n)) (by rfl) (λf W' h=>h) (λf W' hf h=>by go_simp) ?_
   try simp only[zzQ]
   refine zab (v:=.int .i64 ((k:Int)+n-1)) (by rfl) (λf W' h=>h) (λf W' hf h=>by go_simp) ?_
   try simp only[zzQ]
   refine zab (v:=.slice (some ⟨b,off,none⟩) n cap) (by rfl) (λf W' h=>h) (λf W' hf h=>by go_simp) ?_
   try simp only[zzQ]
   refine zab (v:=.int .i64 (n:Int)) (by rfl) (λf W' h=>h) (λf W' hf h=>by go_simp) ?_
   try simp only[zzQ]
   refine zab (v:=.int .i64 (i':Int)) (by rfl) (λf W' h=>h) (λf W' hf h=>by go_simp) ?_
   try simp only[zzQ]
   refine zab (v:=.pointer (some ⟨b,off+i'*2,none⟩)) (by rfl) (λf W' h=>h) (λf W' hf h=>by go_simp) ?_
   try simp only[zzQ]
   refine zab (v:=.agg #[St xi,St yi]) (by rfl) (λf W' h=>h) (λf W' hf h=>by obtain⟨c0,c1⟩:=HCi.out _ h.bel;go_simp) ?_
   try simp only[zzQ]
   refine zab (v:=.agg #[St xj,St yj]) (by rfl) (λf W' h=>h) (λf W' hf h=>by obtain⟨c0,c1⟩:=h.cx;go_simp) ?_
   try simp only[zzQ]
   refine zab (v:=.slice (some ⟨b,off,none⟩) n cap) (by rfl) (λf W' h=>h) (λf W' hf h=>by go_simp) ?_
   try simp only[zzQ]
   refine zab (v:=.int .i64 (k:Int)) (by rfl) (λf W' h=>h) (λf W' hf h=>by go_simp) ?_
   try simp only[zzQ]
   refine zab (v:=.int .i64 ((k:Int)+1)) (by rfl) (λf W' h=>h) (λf W' hf h=>by go_simp) ?_
   try simp only[zzQ]
   refine zab (v:=.slice (some ⟨b,off,none⟩) n cap) (by rfl) (λf W' h=>h) (λf W' hf h=>by go_simp) ?_
   try simp only[zzQ]
   refine zab (v:=.int .i64 (n:Int)) (by rfl) (λf W' h=>h) (λf W' hf h=>by go_simp) ?_
   try simp only[zzQ]
   refine zab (v:=.int .i64 (k':Int)) (by rfl) (λf W' h=>h) (λf W' hf h=>by go_simp) ?_
   try simp only[zzQ]
   refine zab (v:=.pointer (some ⟨b,off+k'*2,none⟩)) (by rfl) (λf W' h=>h) (λf W' hf h=>by go_simp) ?_
   try simp only[zzQ]
   refine zab (v:=.agg #[St xk,St yk]) (by rfl) (λf W' h=>h) (λf W' hf h=>by obtain⟨c0,c1⟩:=HCk.out _ h.bel;go_simp) ?_
   try simp only[zzQ]
   refine zar (.bool fl) (by rfl) (λf W' hf h C' hC'=>by
    go_simp
    refine(HF.out _ (HW.out.below h.bel)).mono ?_
    rintro e w' ⟨rfl,hb⟩
    exact⟨rfl,hC' _ (h.next hb)⟩) ?_
   try simp only[zzQ]
   refine zab (v:=.bool (!fl)) (by rfl) (λf W' h=>h) (λf W' hf h=>by go_simp) ?_
   try simp only[zzQ]
   refine zck λf W5 hf h5=>?_
   have HS5:=hid h5
   clear hf h5 HS HCi HCk HF
   cases fl
   case true=>
    have HK:=hid (show z3o l (k+1)=z3o l k by rw[z35,if_pos HFL.out])
    generalize z3o l k=acc at*
    go_wp2_with fail
    go_roundw
    case rel=>exact⟨k+1,q,c,by omega,by go_num,by rw[HK.out],HS5.out.bel,by rw[HK.out];exact HS5.out.own⟩
    case measure=>simp[zL];omega
   case false=>
    have HK:=hid (show z3o l (k+1)=z3o l k++[cor l k] by rw[z35,if_neg (by rw[HFL.out];simp)])
    have HLN:=hid (show(z3o l k).length<=k by unfold z3o;rw[List.length_map];exact Nat.le_trans (List.length_filter_le _ _) (by simp))
    generalize z3o l k=acc at*
    obtain⟨g0,g1⟩:=HS5.out.cx
    obtain⟨i0,hi,hz0,hz1,hz2⟩:=info_parts z4u
    have HD:=hid (⟨hi,hz0,hz1,hz2⟩:_/\_/\_/\_)
    clear hi hz0 hz1 hz2
    have hba:zB W5.heap.size W5 (W5.alloc (.cells #[St xj,St yj] 27)):=(zM _ W5).alloc (zN _) _
    have HLA:=hid (⟨HS5.out.next hba,(by have:=hba.size;have:=HS5.out.bel.size;omega)⟩:WoutS w (.slice q acc.length c) acc A xj yj (W5.alloc (.cells #[St xj,St yj] 27))/\w.heap.size<=(W5.alloc (.cells #[St xj,St yj] 27)).heap.size)
    clear hba
    go_wp2_with (at_builtin;refine wpList_append_own_at _ rfl _ _ 22 rfl w.heap.size 27 i0 (.agg #[St [],St []]) 2 32 Tryz.underlying22 HD.out.1 HD.out.2.1 HD.out.2.2.1 HD.out.2.2.2 rfl (by decide) (.slice q acc.length c) acc.length (z3k acc) rfl HLA.out.1.own ⟨W5.heap.size,0,none⟩ 1 1 [St xj,St yj] rfl rfl (z7w _ _ _ _) (z4n _ _) (by have:=HLN.out;unfold maxLen;omega) (by have:=HLN.out;omega) HLA.out.2 ?_)
    intro v' w1 hown' hgrow hnil hat
    obtain⟨q',c',rfl⟩:=z3z hown'
    have hbel:zB w.heap.size w w1:=HLA.out.1.bel.grown hgrow HLA.out.2 (λg e=>(HLA.out.1.own.lt g e).1)
    have HB1:=hid hbel
    have HO1:=hid (show w1.ownsRow w.heap.size 27 2 (.slice q' (acc.length+1) c') (acc++[cor l k]).length (z3k (acc++[cor l k])) by
     rw[zU,z39];show w1.ownsRow _ _ 2 _ (acc.length+1) (z3k acc++[St (numS (cor l k).x),St (numS (cor l k).y)]);rw[HXY.out.1,HXY.out.2];exact hown')
    clear hown' hgrow hnil hat hbel HLA
    go_wp2_with fail
    go_roundw
    case rel=>exact⟨k+1,q',c',by omega,by go_num,by rw[HK.out,zU];rfl,HB1,by rw[HK.out];have:=HO1.out;rw[zU] at this⊢;exact hid this⟩
    case measure=>simp[zL];omega
  ·obtain rfl:n=k:=by omega
   have HO:=hid (show wr.ownsRow w.heap.size 27 2 (.slice q (z3o l n).length c) (z3n l).length (z3k (z3n l)) by unfold z3n;rw[<-HN.out];exact hO.out)
   clear hO
   go_wp2_with fail
   go_ret
   exact⟨_,rfl,HO.out,hB.out⟩
end
end Go.Proofs.YtlaccnphhomdgaaGreatDoor
