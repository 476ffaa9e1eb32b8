/- What polygon.canonical makes of the corners that are left: plain laws of lists. -/
import Derived.Test.YthfpmfdiamldoaaGreatDoorF15
set_option maxRecDepth 100000
set_option maxHeartbeats 8000000
open Nat renaming le_refl → zN
open List renaming getElem_mem → zY, append_assoc → yL, cons_append → yM, take_append_drop → yN
namespace Go.Proofs.YthfpmfdiamldoaaGreatDoor
open Go.RowKit Go.Shelf Lib Str Limb Geo
def z3l (o:List Pt):Nat->Nat
 |0=>0
 |k+1=>if ordP (cor o k) (cor o (z3l o k))<0 then k else z3l o k
def z31 (o:List Pt):List Pt:=
 if turn (cor o (z3l o o.length+o.length-1)) (cor o (z3l o o.length)) (cor o (z3l o o.length+1))<0 then
  o.reverse.drop (o.length-1-z3l o o.length)++o.reverse.take (o.length-1-z3l o o.length)
 else o.drop (z3l o o.length)++o.take (z3l o o.length)
theorem z4f {o:List Pt} (h:0<o.length):∀k,k<=o.length->z3l o k<o.length/\∀j,j<k->le (cor o (z3l o k)) (cor o j)
 |0,_=>⟨h,λj hj=>absurd hj (by omega)⟩
 |k+1,hk=>by
  obtain⟨h1,h2⟩:=z4f h k (by omega)
  rw[z3l]
  split
  ·rename_i c
   refine⟨by omega,λj hj=>?_⟩
   by_cases e:j=k
   ·subst e;exact zhp _
   ·exact le_trans (show le _ _ by unfold le;omega) (h2 j (by omega))
  ·rename_i c
   refine⟨h1,λj hj=>?_⟩
   by_cases e:j=k
   ·subst e
    have:=z3t (cor o j) (cor o (z3l o j))
    unfold le;omega
   ·exact h2 j (by omega)
theorem z7s {a b:List Pt} {P:Pt} (hn:(a++P::b).Nodup) (hP:∀x∈a++P::b,le P x):z3l (a++P::b) (a++P::b).length=a.length:=by
 generalize ho:a++P::b=o at*
 have hl:0<o.length:=by rw[<-ho];simp;omega
 have ha:a.length<o.length:=by rw[<-ho];simp
 obtain⟨h1,h2⟩:=z4f hl o.length (zN _)
 have e1:=h2 a.length ha
 have ea:cor o a.length=P:=by rw[z3r ha];simp[<-ho]
 rw[ea] at e1
 have e2:le P (cor o (z3l o o.length)):=by rw[z3r h1];exact hP _ (zY h1)
 have e3:=le_antisymm e1 e2
 rw[<-ea,z3r h1,z3r ha] at e3
 exact(List.getElem_inj hn).1 e3
def canC (P:Pt) (d:List Pt):List Pt:=if turn (cor (P::d) d.length) P (cor (P::d) 1)<0 then P::d.reverse else P::d
theorem z3x {a b:List Pt} {P:Pt} (hn:(a++P::b).Nodup) (hP:∀x∈a++P::b,le P x):z31 (a++P::b)=canC P (b++a):=by
 have hf:=z7s hn hP
 have hl:(a++P::b).length=a.length+b.length+1:=by simp;omega
 have k0:=z3y a (P::b) 0
 have k1:=z3y a (P::b) 1
 have k2:=z3y a (P::b) (a.length+b.length)
 have kP:cor (P::(b++a)) 0=P:=rfl
 rw[yM] at k0 k1 k2
 unfold z31 canC
 rw[hf,hl,show a.length+(a.length+b.length+1)-1=a.length+b.length+a.length by omega,<-k2,show a.length+1=1+a.length by omega,<-k1,show cor (a++P::b) a.length=P by rw[Nat.zero_add,kP] at k0;exact k0.symm]
 rw[show(b++a).length=a.length+b.length by simp;omega]
 have e1:(a++P::b).reverse=b.reverse++P::a.reverse:=by simp
 rw[e1,show a.length+b.length+1-1-a.length=b.reverse.length by simp]
 split
 ·simp
 ·simp
theorem z4q:∀(o:List Pt),o≠[]->∃a P b,o=a++P::b/\∀x∈o,le P x
 |[],h=>absurd rfl h
 |[x],_=>⟨[],x,[],rfl,λy hy=>by simp at hy;subst hy;exact zhp _⟩
 |x::y::r,_=>by
  obtain⟨a,P,b,e,h⟩:=z4q (y::r) (by simp)
  rcases z7m x P with c|c
  ·refine⟨[],x,y::r,rfl,λz hz=>?_⟩
   rcases List.mem_cons.1 hz with rfl|hz
   ·exact zhp _
   ·exact le_trans c (h z hz)
  ·refine⟨x::a,P,b,by rw[e];rfl,λz hz=>?_⟩
   rcases List.mem_cons.1 hz with rfl|hz
   ·exact c
   ·exact h z hz
theorem z6q {s t:List Pt} (hn:(s++t).Nodup):z31 (t++s)=z31 (s++t):=by
 by_cases h0:s++t=[]
 ·simp at h0;obtain⟨rfl,rfl⟩:=h0;rfl
 have hn':(t++s).Nodup:=(List.perm_append_comm.nodup_iff).1 hn
 obtain⟨a,P,b,e,hP⟩:=z4q _ h0
 have hP':∀x∈t++s,le P x:=λx hx=>hP x (by simp at hx⊢;exact hx.symm)
 rw[e] at hP hn
 rcases List.append_eq_append_iff.1 e with⟨c,rfl,e2⟩|⟨c,e1,e2⟩
 ·rw[e,z3x hn hP]
  rw[e2,yL,yM] at hP' hn'⊢
  rw[z3x hn' hP',yL]
 ·cases c with
  |nil=>
   simp at e1 e2
   subst e1
   rw[e,z3x hn hP]
   rw[<-e2,yM] at hP' hn'⊢
   have:=z3x (a:=[]) hn' hP'
   simp only[List.nil_append,List.append_nil] at this
   exact this
  |cons x c=>
   simp only[yM,List.cons.injEq] at e2
   obtain⟨rfl,rfl⟩:=e2
   rw[e,z3x hn hP]
   rw[e1,<-yL] at hP' hn'⊢
   rw[z3x hn' hP',yL]
theorem z43 (a b c:Pt):turn c b a= -turn a b c:=by rw[zda,zj3]
theorem z7t {P:Pt} {d:List Pt} (h:turn (cor (P::d) d.length) P (cor (P::d) 1)≠0):canC P d.reverse=canC P d:=by
 cases hd:d with
 |nil=>rfl
 |cons x r=>
  rw[<-hd]
  have hl:0<d.length:=by rw[hd];simp
  have e1:cor (P::d.reverse) d.reverse.length=cor (P::d) 1:=by
   rw[z3r (by simp),z3r (by simp;omega)]
   simp only[List.getElem_cons_succ,List.length_reverse]
   rw[List.getElem_cons,dif_neg (by omega),List.getElem_reverse]
   congr 1;omega
  have e2:cor (P::d.reverse) 1=cor (P::d) d.length:=by
   rw[z3r (by simp;omega),z3r (by simp)]
   simp only[List.getElem_cons_succ]
   rw[List.getElem_reverse,List.getElem_cons,dif_neg (by omega)]
   congr 1
  unfold canC
  rw[e1,e2,z43,List.reverse_reverse]
  by_cases c:turn (cor (P::d) d.length) P (cor (P::d) 1)<0
  ·rw[if_pos c,if_neg (by omega)]
  ·rw[if_neg c,if_pos (by omega)]
theorem z6r {o:List Pt} (hn:o.Nodup) (h0:o≠[]) (hz:∀a P b,o=a++P::b->turn (cor (P::(b++a)) (b++a).length) P (cor (P::(b++a)) 1)≠0):z31 o.reverse=z31 o:=by
 obtain⟨a,P,b,e,hP⟩:=z4q _ h0
 have hz:=hz a P b e
 have hn':o.reverse.Nodup:=(List.reverse_perm o).nodup_iff.2 hn
 have hP':∀x∈o.reverse,le P x:=λx hx=>hP x (by simpa using hx)
 have e':o.reverse=b.reverse++P::a.reverse:=by rw[e];simp
 rw[e'] at hn' hP'⊢
 rw[z3x hn' hP',<-List.reverse_append,z7t hz,e]
 rw[e] at hn hP
 rw[z3x hn hP]
def z3m (l:List Pt) (i:Nat):Bool:=decide (turn (cor l (i+l.length-1)) (cor l i) (cor l (i+1))=0)
def z3o (l:List Pt) (k:Nat):List Pt:=((List.range k).filter λi=>!z3m l i).map (cor l)
def z3n (l:List Pt):List Pt:=z3o l l.length
theorem z35 (l:List Pt) (k:Nat):z3o l (k+1)=if z3m l k then z3o l k else z3o l k++[cor l k]:=by
 unfold z3o
 rw[List.range_succ,List.filter_append,List.map_append]
 cases h:z3m l k<;>simp[h]
def z3p (l:List Pt):List Pt:=z31 (z3n l)
theorem z58 {l:List Pt} (h3:3<=l.length) (h:z3q l) {i k:Nat} (hik:i<k) (hk:k<l.length):cor l i≠cor l k:=by
 obtain⟨hs,hm⟩:=h
 intro e
 by_cases c:k=i+1
 ·subst c;exact hs i (by omega) e
 by_cases c2:i=0/\k=l.length-1
 ·obtain⟨rfl,rfl⟩:=c2
  have:=hs (l.length-1) (by omega)
  rw[show l.length-1+1=l.length+0 by omega,z3s] at this
  exact this e.symm
 ·have:=hm i k hik hk
  unfold okS2 zea at this
  rw[if_neg (by omega),e] at this
  have:=zzf (cor l k) (cor l (i+1)) (cor l (k+1))
  omega
theorem z6s {l:List Pt} (h3:3<=l.length) (h:z3q l):l.Nodup:=by
 rw[List.nodup_iff_pairwise_ne,List.pairwise_iff_getElem]
 intro i j hi hj hij
 have:=z58 h3 h hij hj
 rwa [z3r hi,z3r hj] at this
theorem z5m (l:List Pt):(z3n l).Sublist l:=by
 have e:l=(List.range l.length).map (cor l):=by
  apply List.ext_getElem
  ·simp
  ·intro i h1 h2
   rw[List.getElem_map,List.getElem_range,z3r h1]
 unfold z3n z3o
 conv=>rhs;rw[e]
 exact List.filter_sublist.map _
theorem z4t {l:List Pt} (h3:3<=l.length) (h:z3q l):(z3n l).Nodup:=(z5m l).nodup (z6s h3 h)
theorem z67 (x:Pt) (r:List Pt):∃e M,z3n (x::r)=e++M/\z3n (r++[x])=M++e:=by
 have hl:(r++[x]).length=r.length+1:=by simp
 have hl2:(x::r).length=r.length+1:=by simp
 have hf:∀i,z3m (r++[x]) i=z3m (x::r) (i+1):=by
  intro i
  unfold z3m
  rw[hl,hl2,z38,z38,z38]
  congr 4
  all_goals omega
 have hf0:z3m (x::r) (r.length+1)=z3m (x::r) 0:=by
  unfold z3m
  rw[hl2]
  have a0:=z3s (x::r) 0;have a1:=z3s (x::r) 1;have a2:=z3s (x::r) r.length
  rw[hl2] at a0 a1 a2
  rw[show r.length+1+(r.length+1)-1=r.length+1+r.length by omega,a2,show r.length+1+1=r.length+1+1 from rfl,a1,show 0+(r.length+1)-1=r.length by omega]
  rw[show cor (x::r) (r.length+1)=cor (x::r) 0 from a0]
 refine⟨if z3m (x::r) 0 then[] else[x],((List.range r.length).filter λi=>!z3m (x::r) (i+1)).map λi=>cor (x::r) (i+1),?_,?_⟩
 ·unfold z3n z3o
  rw[hl2,List.range_succ_eq_map,List.filter_cons,List.filter_map]
  cases h:z3m (x::r) 0
  ·simp[Function.comp_def];rfl
  ·simp[Function.comp_def]
 ·unfold z3n z3o
  rw[hl,List.range_succ,List.filter_append,List.map_append]
  congr 1
  ·simp only[hf]
   congr 1
   funext i
   exact z38 x r i
  ·rw[List.filter_cons,List.filter_nil,hf,hf0]
   cases h:z3m (x::r) 0
   ·simp[z38]
    have a0:=z3s (x::r) 0
    rw[hl2] at a0
    exact a0
   ·simp
theorem z4m:∀(s t:List Pt),3<=(s++t).length->z3q (s++t)->z3p (t++s)=z3p (s++t)
 |[],t,_,_=>by simp
 |x::s,t,h3,h=>by
  obtain⟨e,M,e1,e2⟩:=z67 x (s++t)
  have h1:z3q ((s++t)++[x]):=z5y (by simpa using h3) (by simpa using h)
  have hn:=z4t (by simpa using h3) h
  rw[yM,e1] at hn
  have k1:z3p ((s++t)++[x])=z3p ((x::s)++t):=by
   unfold z3p
   rw[e2,yM,e1]
   exact z6q hn
  have:=z4m s (t++[x]) (by simp at h3⊢;omega) (by simpa using h1)
  rw[<-k1,yL,<-this]
  simp
theorem z7u (l:List Pt):z3n l.reverse=(z3n l).reverse:=by
 have hl:l.reverse.length=l.length:=List.length_reverse ..
 have hc:∀i,i<l.length->cor l.reverse i=cor l (l.length-1-i):=λi hi=>z4i l hi
 have hf:∀i,i<l.length->z3m l.reverse i=z3m l (l.length-1-i):=by
  intro i hi
  have hn:cor l.reverse (i+1)=cor l (l.length-1-i+l.length-1):=by
   by_cases c:i+1<l.length
   ·rw[hc _ c,show l.length-1-i+l.length-1=l.length+(l.length-1-(i+1)) by omega,z3s]
   ·have a0:=z3s l.reverse 0
    rw[hl] at a0
    rw[show i+1=l.length+0 by omega,a0,hc 0 (by omega)]
    congr 1;omega
  have hp:cor l.reverse (i+l.length-1)=cor l (l.length-1-i+1):=by
   by_cases c:i=0
   ·subst c
    rw[hc _ (by omega),show l.length-1-0+1=l.length+0 by omega,z3s]
    congr 1;omega
   ·have a0:=z3s l.reverse (i-1)
    rw[hl] at a0
    rw[show i+l.length-1=l.length+(i-1) by omega,a0,hc _ (by omega)]
    congr 1;omega
  unfold z3m
  rw[hl,hn,hp,hc i hi,z43]
  congr 1
  apply propext
  constructor<;>intro h<;>omega
 have er:(List.range l.length).reverse=(List.range l.length).map λi=>l.length-1-i:=by
  apply List.ext_getElem
  ·simp
  ·intro i h1 h2
   simp
 unfold z3n z3o
 rw[hl,<-List.map_reverse,<-List.filter_reverse,er,List.filter_map,List.map_map]
 have:∀i∈List.range l.length,((λi=>!z3m l i) ∘ λi=>l.length-1-i) i=(λi=>!z3m l.reverse i) i:=λi hi=>by
  simp only[Function.comp_def]
  rw[hf i (List.mem_range.1 hi)]
 rw[List.filter_congr this]
 apply List.map_congr_left
 intro i hi
 simp only[Function.comp_def]
 exact hc i (List.mem_range.1 (List.mem_filter.1 hi).1)
def uxE (l:List Pt) (e:Rat) (k:Nat):Rat:=(cor l k).x+e*(cor l k).y
def vyE (l:List Pt) (k:Nat):Rat:=(cor l k).y
theorem zvz (Q:Nat->Rat->Prop) (hd:∀k e e',0<e'->e'<=e->Q k e->Q k e') (hx:∀k,∃e,0<e/\Q k e):∀n,∃e,0<e/\∀k,k<n->Q k e
 |0=>⟨1,by grind,λk h=>absurd h (by omega)⟩
 |n+1=>by
  obtain⟨e,he,h⟩:=zvz Q hd hx n
  obtain⟨f,hf,g⟩:=hx n
  by_cases c:e<=f
  ·exact⟨e,he,λk hk=>if hkn:k=n then by rw[hkn];exact hd n f e he c g else h k (by omega)⟩
  ·have c:=Rat.not_le.1 c
   exact⟨f,hf,λk hk=>if hkn:k=n then by rw[hkn];exact g else hd k e f hf (Rat.le_of_lt c) (h k (by omega))⟩
theorem yby (X Y:Rat) (hX:0<X):∃e,0<e/\0<X+e*Y:=by
 by_cases c:0<=Y
 ·refine⟨1,by grind,?_⟩
  grind
 ·have c:=Rat.not_le.1 c
  have hne: -(2*Y)≠0:=by grind
  have e1:X/(-(2*Y))*(-(2*Y))=X:=Rat.div_mul_cancel hne
  refine⟨X/(-(2*Y)),?_,?_⟩
  ·by_cases d:0<X/(-(2*Y))
   ·exact d
   ·exfalso
    have d:=Rat.not_lt.1 d
    have:=Rat.mul_nonneg (show 0<= -(X/(-(2*Y))) by grind) (show 0<= -(2*Y) by grind)
    grind
  ·generalize X/(-(2*Y))=m at*
   grind
theorem yde (l:List Pt) (n:Nat):∃e:Rat,0<e/\∀i,i<n->∀j,j<n->(cor l i).x<(cor l j).x->uxE l e i<uxE l e j:=by
 refine zvz (λi e=>∀j,j<n->(cor l i).x<(cor l j).x->uxE l e i<uxE l e j) (λi e e' h0 h1 h j hj hx=>?_) (λi=>?_) n
 ·have h2:=h j hj hx
  unfold uxE at*
  by_cases c:0<=(cor l j).y-(cor l i).y
  ·have:=Rat.mul_nonneg (Rat.le_of_lt h0) c;grind
  ·have c:=Rat.not_le.1 c
   have:=Rat.mul_nonneg (show 0<=e-e' by grind) (show 0<= -((cor l j).y-(cor l i).y) by grind)
   grind
 ·refine zvz (λj e=>(cor l i).x<(cor l j).x->uxE l e i<uxE l e j) (λj e e' h0 h1 h hx=>?_) (λj=>?_) n
  ·have h2:=h hx
   unfold uxE at*
   by_cases c:0<=(cor l j).y-(cor l i).y
   ·have:=Rat.mul_nonneg (Rat.le_of_lt h0) c;grind
   ·have c:=Rat.not_le.1 c
    have:=Rat.mul_nonneg (show 0<=e-e' by grind) (show 0<= -((cor l j).y-(cor l i).y) by grind)
    grind
  ·by_cases c:(cor l i).x<(cor l j).x
   ·obtain⟨e,he,h⟩:=yby ((cor l j).x-(cor l i).x) ((cor l j).y-(cor l i).y) (by grind)
    refine⟨e,he,λ_=>?_⟩
    unfold uxE;grind
   ·exact⟨1,by grind,λk=>absurd k c⟩
theorem ya2 {l:List Pt} {e t:Rat} {k:Nat} (hne:uxE l e k≠uxE l e (k+1)) (h:cln (uxE l e) k t):zb7 (cor l k) (cor l (k+1)) ⟨t-e*hgt (uxE l e) (vyE l) k t,hgt (uxE l e) (vyE l) k t⟩:=by
 obtain⟨m,hm,h0,h1⟩:∃m:Rat,m*(uxE l e (k+1)-uxE l e k)=t-uxE l e k/\0<=m/\m<=1:=by
  unfold cln at h
  rcases h with⟨p,q⟩|⟨p,q⟩
  ·obtain⟨m,a,b,c⟩:=zn8 (D:=t-uxE l e k) (E:=uxE l e (k+1)-uxE l e k) (by grind) (by grind) (by grind)
   exact⟨m,a,b,c⟩
  ·obtain⟨m,a,b,c⟩:=zn8 (D:=uxE l e k-t) (E:=uxE l e k-uxE l e (k+1)) (by grind) (by grind) (by grind)
   exact⟨m,by grind,b,c⟩
 have hd:uxE l e (k+1)-uxE l e k≠0:=by grind
 have hh:hgt (uxE l e) (vyE l) k t=vyE l k+m*(vyE l (k+1)-vyE l k):=by
  unfold hgt slo
  rw[<-hm]
  have:=Rat.div_mul_cancel (a:=vyE l (k+1)-vyE l k) hd
  generalize (vyE l (k+1)-vyE l k)/(uxE l e (k+1)-uxE l e k)=s at*
  grind
 refine⟨m,h0,h1,?_⟩
 rw[hh]
 unfold ptAt
 refine zjn ?_ ?_
 ·show t-e*(vyE l k+m*(vyE l (k+1)-vyE l k))=_
  unfold uxE at hm;unfold vyE
  grind
 ·rfl
theorem zrg (l:List Pt):cor l l.length=cor l 0:=by have:=z3s l 0;simpa using this
theorem ycg {l:List Pt} (h3:3<=l.length) (h:z3q l) {e:Rat} (he:0<e) (hs:∀i,i<l.length->∀j,j<l.length->(cor l i).x<(cor l j).x->uxE l e i<uxE l e j):Swp l.length (uxE l e) (vyE l):=by
 have du:∀i j,i<l.length->j<l.length->i≠j->uxE l e i≠uxE l e j:=λi j hi hj hij=>by
  have hne:cor l i≠cor l j:=by
   rcases Nat.lt_or_ge i j with c|c
   ·exact z58 h3 h c hj
   ·exact Ne.symm (z58 h3 h (by omega) hi)
  intro k
  by_cases c:(cor l i).x<(cor l j).x
  ·have:=hs i hi j hj c;grind
  ·by_cases d:(cor l j).x<(cor l i).x
   ·have:=hs j hj i hi d;grind
   ·have ex:(cor l i).x=(cor l j).x:=by grind
    refine hne (zjn ex ?_)
    unfold uxE at k
    have k2:e*((cor l i).y-(cor l j).y)=0:=by grind
    rcases Rat.mul_eq_zero.1 k2 with z|z
    ·grind
    ·grind
 have cu:uxE l e l.length=uxE l e 0:=by unfold uxE;rw[zrg]
 have ne:∀k,k<l.length->uxE l e k≠uxE l e (k+1):=λk hk=>by
  by_cases c:k+1=l.length
  ·rw[c,cu];exact du k 0 hk (by omega) (by omega)
  ·exact du k (k+1) hk (by omega) (by omega)
 refine⟨h3,cu,by unfold vyE;rw[zrg],du,λi k hi hk hik t ht hc heq=>?_⟩
 have z1:=ya2 (ne i hi) (zyh ht)
 have z2:=ya2 (ne k hk) hc
 rw[<-heq] at z2
 have zu:∀p:Pt,(⟨t-e*hgt (uxE l e) (vyE l) i t,hgt (uxE l e) (vyE l) i t⟩:Pt)=p->t=p.x+e*p.y:=λp hp=>by rw[<-hp];grind
 have zi:(⟨t-e*hgt (uxE l e) (vyE l) i t,hgt (uxE l e) (vyE l) i t⟩:Pt)≠cor l i:=λhp=>by
  have:t=uxE l e i:=zu _ hp
  unfold spn at ht;grind
 have zj:(⟨t-e*hgt (uxE l e) (vyE l) i t,hgt (uxE l e) (vyE l) i t⟩:Pt)≠cor l (i+1):=λhp=>by
  have:t=uxE l e (i+1):=zu _ hp
  unfold spn at ht;grind
 generalize (⟨t-e*hgt (uxE l e) (vyE l) i t,hgt (uxE l e) (vyE l) i t⟩:Pt)=Z at*
 have hm:=z5l h.2 hi hk hik
 -- where the second side begins with the end of the first one
 have fwd:cor l (i+1)=cor l k->meet (cor l i) (cor l (i+1)) (cor l k) (cor l (k+1))≠1:=λq=>by
  rw[<-q] at z2⊢
  exact znu z1 z2 zj
 have bwd:cor l (k+1)=cor l i->meet (cor l i) (cor l (i+1)) (cor l k) (cor l (k+1))≠1:=λq=>by
  rw[q] at z2⊢
  rw[zo7]
  exact znu z2 z1 zi
 have non:=zl0 z1 z2
 rw[hm] at non fwd bwd
 have q0:=zrg l
 split at non
 ·rename_i c
  unfold zea at non fwd bwd
  rw[if_pos c] at fwd bwd
  split at non
  ·rename_i d
   rw[if_pos d] at fwd bwd
   rcases d with d|⟨d1,d2⟩
   ·exact fwd (by rw[d]) rfl
   ·refine bwd ?_ rfl
    rw[d2,d1,show l.length-1+1=l.length by omega];exact q0
  ·exact non rfl
 ·rename_i c
  unfold zea at non fwd bwd
  rw[if_neg c] at fwd bwd
  split at non
  ·rename_i d
   rw[if_pos d] at fwd bwd
   rcases d with d|⟨d1,d2⟩
   ·exact bwd (by rw[d]) rfl
   ·refine fwd ?_ rfl
    rw[d2,d1,show l.length-1+1=l.length by omega];exact q0
  ·exact non rfl
def zbj (l:List Pt):Rat:=sumK (λk=>(cor l k).x*(cor l (k+1)).y-(cor l (k+1)).x*(cor l k).y) l.length
theorem z91 {l:List Pt} (h3:3<=l.length) (h:z3q l) (hl:∀j,0<j->j<l.length->le (cor l 0) (cor l j)) (ht:0<turn (cor l (l.length-1)) (cor l 0) (cor l 1)):0<=zbj l:=by
 obtain⟨e,he,hs⟩:=yde l l.length
 have hw:=ycg h3 h he hs
 have:=hw.area (λj h0 hj=>by
  have h1:=hl j h0 hj
  have hne:=z58 h3 h h0 hj
  unfold le at h1
  have c:=zas (cor l 0) (cor l j)
  by_cases d:(cor l 0).x<(cor l j).x
  ·exact hs 0 (by omega) j hj d
  ·have k:(cor l 0).x=(cor l j).x/\(cor l 0).y<(cor l j).y:=by grind
   unfold uxE
   have:=zmz he (show 0<(cor l j).y-(cor l 0).y by grind)
   grind) (by
  rw[zgk] at ht
  have c:=zaw (cr (cor l (l.length-1)) (cor l 0) (cor l 1)) 0
  have hc:0<cr (cor l (l.length-1)) (cor l 0) (cor l 1):=by grind
  unfold cr at hc
  unfold uxE vyE
  grind)
 have e2:zbj l=sumK (λk=>uxE l e k*vyE l (k+1)-uxE l e (k+1)*vyE l k) l.length:=zhe λk _=>by unfold uxE vyE;grind
 rw[e2];exact this
end Go.Proofs.YthfpmfdiamldoaaGreatDoor
namespace Go.Proofs.YthfpmfdiamldoaaGreatDoor.Geo
theorem z8v {a b z:Pt} (hab:a≠b) (h:cr a b z=0):∃t,z=ptAt a b t:=by
 unfold cr at h
 by_cases c:b.x-a.x=0
 ·have d:b.y-a.y≠0:=λk=>hab (zjn (by grind) (by grind))
  have e:=Rat.div_mul_cancel (a:=z.y-a.y) d
  have hz:(b.y-a.y)*(z.x-a.x)=0:=by rw[c] at h;grind
  have hz:z.x-a.x=0:=by
   rcases Rat.mul_eq_zero.1 hz with k|k
   ·exact absurd k d
   ·exact k
  refine⟨(z.y-a.y)/(b.y-a.y),zjn ?_ ?_⟩
  ·show z.x=a.x+_*(b.x-a.x);rw[c];grind
  ·show z.y=a.y+(z.y-a.y)/(b.y-a.y)*(b.y-a.y);rw[e];grind
 ·have e:=Rat.div_mul_cancel (a:=z.x-a.x) c
  refine⟨(z.x-a.x)/(b.x-a.x),zjn ?_ ?_⟩
  ·show z.x=a.x+(z.x-a.x)/(b.x-a.x)*(b.x-a.x);rw[e];grind
  ·show z.y=a.y+(z.x-a.x)/(b.x-a.x)*(b.y-a.y)
   generalize (z.x-a.x)/(b.x-a.x)=t at*
   have k:(b.x-a.x)*(z.y-a.y-t*(b.y-a.y))=0:=by grind
   rcases Rat.mul_eq_zero.1 k with k|k
   ·exact absurd k c
   ·grind
theorem z9j {a b:Pt} (h:le a b) (hab:a≠b) {t:Rat} (ht:t<0):¬le a (ptAt a b t):=by
 intro k
 have c:a.x<b.x\/(a.x=b.x/\a.y<b.y):=by
  unfold le at h
  have:=zas a b
  grind
 unfold le at k
 have c2:=zas a (ptAt a b t)
 have ex:(ptAt a b t).x=a.x+t*(b.x-a.x):=rfl
 have ey:(ptAt a b t).y=a.y+t*(b.y-a.y):=rfl
 rcases c with c|⟨c1,c3⟩
 ·have:=zw9 ht (show 0<b.x-a.x by grind)
  grind
 ·have:=zw9 ht (show 0<b.y-a.y by grind)
  have ex':(ptAt a b t).x=a.x:=by rw[ex,c1];grind
  grind
theorem ybz (a b:Pt) (t:Rat):ptAt b a (1-t)=ptAt a b t:=by unfold ptAt;exact zjn (by grind) (by grind)
theorem z8w {a b:Pt} (h:le a b) (hab:a≠b) {t:Rat} (ht:1<t):¬le (ptAt a b t) b:=by
 intro k
 have c:a.x<b.x\/(a.x=b.x/\a.y<b.y):=by
  unfold le at h
  have:=zas a b
  grind
 unfold le at k
 have c2:=zas (ptAt a b t) b
 have ex:(ptAt a b t).x=a.x+t*(b.x-a.x):=rfl
 have ey:(ptAt a b t).y=a.y+t*(b.y-a.y):=rfl
 rcases c with c|⟨c1,c3⟩
 ·have:=zmz (show 0<t-1 by grind) (show 0<b.x-a.x by grind)
  grind
 ·have:=zmz (show 0<t-1 by grind) (show 0<b.y-a.y by grind)
  have ex':(ptAt a b t).x=b.x:=by rw[ex,c1];grind
  grind
theorem ya3 {a b z:Pt} (h:turn a b z=0) (h1:le (low a b) z) (h2:le z (high a b)):zb7 a b z:=by
 by_cases hab:a=b
 ·subst hab
  rw[z9y] at h1;rw[z9f] at h2
  rw[<-le_antisymm h1 h2];exact zo8 _ _
 ·obtain⟨t,rfl⟩:=z8v hab (zgy.1 h)
  rcases z9i a b with⟨k,e1,e2⟩|⟨k,e1,e2⟩
  ·rw[e1] at h1;rw[e2] at h2
   refine⟨t,?_,?_,rfl⟩
   ·by_cases c:0<=t
    ·exact c
    ·exact absurd h1 (z9j k hab (Rat.not_le.1 c))
   ·by_cases c:t<=1
    ·exact c
    ·exact absurd h2 (z8w k hab (Rat.not_le.1 c))
  ·rw[e1] at h1;rw[e2] at h2
   rw[<-ybz] at h1 h2⊢
   refine zot ⟨1-t,?_,?_,rfl⟩
   ·by_cases c:0<=1-t
    ·exact c
    ·exact absurd h1 (z9j k (Ne.symm hab) (Rat.not_le.1 c))
   ·by_cases c:1-t<=1
    ·exact c
    ·exact absurd h2 (z8w k (Ne.symm hab) (Rat.not_le.1 c))
theorem yc8 (p q:Pt):maxP p q=p\/maxP p q=q:=by unfold maxP;split<;>simp
theorem yc9 (p q:Pt):minP p q=p\/minP p q=q:=by unfold minP;split<;>simp
theorem yb0 (p q:Pt):low p q=p\/low p q=q:=by unfold low;split<;>simp
theorem ya4 (p q:Pt):high p q=p\/high p q=q:=by unfold high;split<;>simp
theorem zv1 {a b c d:Pt} (t1:turn a b c=0) (t2:turn a b d=0) (t3:turn c d a=0) (t4:turn c d b=0) (h:le (maxP (low a b) (low c d)) (minP (high a b) (high c d))) {z:Pt}
 (hz:z=maxP (low a b) (low c d)\/z=minP (high a b) (high c d)):zb7 a b z/\zb7 c d z:=by
 have k1:le (maxP (low a b) (low c d)) z:=by rcases hz with rfl|rfl;exact zhp _;exact h
 have k2:le z (minP (high a b) (high c d)):=by rcases hz with rfl|rfl;exact h;exact zhp _
 have hq:z=a\/z=b\/z=c\/z=d:=by
  rcases hz with rfl|rfl
  ·rcases yc8 (low a b) (low c d) with e|e<;>rw[e]
   ·rcases yb0 a b with e|e<;>rw[e]<;>simp
   ·rcases yb0 c d with e|e<;>rw[e]<;>simp
  ·rcases yc9 (high a b) (high c d) with e|e<;>rw[e]
   ·rcases ya4 a b with e|e<;>rw[e]<;>simp
   ·rcases ya4 c d with e|e<;>rw[e]<;>simp
 have s1:turn a b z=0:=by
  rcases hq with rfl|rfl|rfl|rfl
  ·exact zcz _ _
  ·exact zc8 _ _
  ·exact t1
  ·exact t2
 have s2:turn c d z=0:=by
  rcases hq with rfl|rfl|rfl|rfl
  ·exact t3
  ·exact t4
  ·exact zcz _ _
  ·exact zc8 _ _
 obtain⟨m1,m2⟩:=zt6.1 k1
 obtain⟨m3,m4⟩:=zt7.1 k2
 exact⟨ya3 s1 m1 m3,ya3 s2 m2 m4⟩
theorem z92 {a b c d:Pt} (hK:0<cr a b d-cr a b c) (h1:cr a b c<=0) (h2:0<=cr a b d) (h3:cr c d b<=0) (h4:0<=cr c d a):∃z,zb7 a b z/\zb7 c d z:=by
 have e:cr c d a-cr c d b=cr a b d-cr a b c:=by unfold cr;grind
 obtain⟨m,hm,m0,m1⟩:=zn8 hK (D:=cr c d a) h4 (by grind)
 obtain⟨w,hw,w0,w1⟩:=zn8 hK (D:= -cr a b c) (by grind) (by grind)
 refine⟨ptAt a b m,⟨m,m0,m1,rfl⟩,w,w0,w1,?_⟩
 have hne:cr a b d-cr a b c≠0:=by grind
 have ex:(cr a b d-cr a b c)*((a.x+m*(b.x-a.x))-(c.x+w*(d.x-c.x)))=0:=by
  have:(cr a b d-cr a b c)*((a.x+m*(b.x-a.x))-(c.x+w*(d.x-c.x)))=(cr a b d-cr a b c)*(a.x-c.x)+cr c d a*(b.x-a.x)+cr a b c*(d.x-c.x):=by
   generalize cr a b d-cr a b c=K at*
   grind
  rw[this];unfold cr;grind
 have ey:(cr a b d-cr a b c)*((a.y+m*(b.y-a.y))-(c.y+w*(d.y-c.y)))=0:=by
  have:(cr a b d-cr a b c)*((a.y+m*(b.y-a.y))-(c.y+w*(d.y-c.y)))=(cr a b d-cr a b c)*(a.y-c.y)+cr c d a*(b.y-a.y)+cr a b c*(d.y-c.y):=by
   generalize cr a b d-cr a b c=K at*
   grind
  rw[this];unfold cr;grind
 refine zjn ?_ ?_
 ·show a.x+m*(b.x-a.x)=c.x+w*(d.x-c.x)
  rcases Rat.mul_eq_zero.1 ex with k|k
  ·exact absurd k hne
  ·grind
 ·show a.y+m*(b.y-a.y)=c.y+w*(d.y-c.y)
  rcases Rat.mul_eq_zero.1 ey with k|k
  ·exact absurd k hne
  ·grind
theorem zyl {a b c:Pt}:(turn a b c= -1↔cr a b c<0)/\(turn a b c=1↔0<cr a b c):=by
 rw[zgk]
 have:=zaw (cr a b c) 0
 grind
theorem yb1 {a b c d:Pt} (h:meet a b c d≠0):∃z,zb7 a b z/\zb7 c d z:=by
 by_cases hz:turn a b c=0/\turn a b d=0/\turn c d a=0/\turn c d b=0
 ·obtain⟨t1,t2,t3,t4⟩:=hz
  rw[z33 t1 t2 t3 t4] at h
  have hle:le (maxP (low a b) (low c d)) (minP (high a b) (high c d)):=by
   unfold le
   have:=zas (maxP (low a b) (low c d)) (minP (high a b) (high c d));grind
  exact⟨_,zv1 t1 t2 t3 t4 hle (.inl rfl)⟩
 ·have hor:turn a b c≠0\/turn a b d≠0\/turn c d a≠0\/turn c d b≠0:=by
   by_cases q1:turn a b c=0
   ·by_cases q2:turn a b d=0
    ·by_cases q3:turn c d a=0
     ·exact .inr (.inr (.inr λq4=>hz ⟨q1,q2,q3,q4⟩))
     ·exact .inr (.inr (.inl q3))
    ·exact .inr (.inl q2)
   ·exact .inl q1
  unfold meet at h
  rw[if_pos hor] at h
  have hs:turn a b c*turn a b d<=0/\turn c d a*turn c d b<=0:=by
   by_cases c:turn a b c*turn a b d<=0/\turn c d a*turn c d b<=0
   ·exact c
   ·rw[if_neg c] at h;exact absurd rfl h
  obtain⟨h1,h2⟩:=hs
  have e:cr c d a-cr c d b=cr a b d-cr a b c:=by unfold cr;grind
  have c1:=znm a b c;have c2:=znm a b d;have c3:=znm c d a;have c4:=znm c d b
  have s1:=zyl (a:=a) (b:=b) (c:=c);have s2:=zyl (a:=a) (b:=b) (c:=d);have s3:=zyl (a:=c) (b:=d) (c:=a);have s4:=zyl (a:=c) (b:=d) (c:=b)
  have z1:=zgy (a:=a) (b:=b) (c:=c);have z2:=zgy (a:=a) (b:=b) (c:=d);have z3:=zgy (a:=c) (b:=d) (c:=a);have z4:=zgy (a:=c) (b:=d) (c:=b)
  have key:(0<cr a b d-cr a b c/\cr a b c<=0/\0<=cr a b d/\cr c d b<=0/\0<=cr c d a)\/(cr a b d-cr a b c<0/\0<=cr a b c/\cr a b d<=0/\0<=cr c d b/\cr c d a<=0):=by
   have d1:(cr a b c<=0/\0<=cr a b d)\/(0<=cr a b c/\cr a b d<=0):=by
    rcases c1 with k|k|k<;>rcases c2 with k'|k'|k'<;>rw[k,k'] at h1<;>first|(exfalso;exact absurd h1 (by decide))|skip
    all_goals grind
   have d2:(cr c d a<=0/\0<=cr c d b)\/(0<=cr c d a/\cr c d b<=0):=by
    rcases c3 with k|k|k<;>rcases c4 with k'|k'|k'<;>rw[k,k'] at h2<;>first|(exfalso;exact absurd h2 (by decide))|skip
    all_goals grind
   have d3:cr a b d-cr a b c≠0:=λk=>by
    rcases d1 with d1|d1<;>rcases d2 with d2|d2<;>refine hz ⟨z1.2 ?_,z2.2 ?_,z3.2 ?_,z4.2 ?_⟩<;>grind
   clear c1 c2 c3 c4 s1 s2 s3 s4 z1 z2 z3 z4 hz hor h h1 h2
   grind
  rcases key with⟨k,k1,k2,k3,k4⟩|⟨k,k1,k2,k3,k4⟩
  ·exact z92 k k1 k2 k3 k4
  ·have sw:∀p q r:Pt,cr q p r= -cr p q r:=λp q r=>by unfold cr;grind
   obtain⟨z,hz1,hz2⟩:=z92 (a:=b) (b:=a) (c:=c) (d:=d) (by rw[sw a b d,sw a b c];grind) (by rw[sw a b c];grind) (by rw[sw a b d];grind) (by grind) (by grind)
   exact⟨z,zot hz1,hz2⟩
theorem ya5 {a b d:Pt} (h:meet a b b d≠1):∃z,z≠b/\zb7 a b z/\zb7 b d z:=by
 have h0:meet a b b d≠0:=zl0 (zpa a b) (zo8 b d)
 by_cases hz:turn a b b=0/\turn a b d=0/\turn b d a=0/\turn b d b=0
 ·obtain⟨t1,t2,t3,t4⟩:=hz
  rw[z33 t1 t2 t3 t4] at h h0
  have hlt:ordP (maxP (low a b) (low b d)) (minP (high a b) (high b d))= -1:=by
   have:=zas (maxP (low a b) (low b d)) (minP (high a b) (high b d));grind
  have hle:le (maxP (low a b) (low b d)) (minP (high a b) (high b d)):=by unfold le;omega
  by_cases c:maxP (low a b) (low b d)=b
  ·refine⟨minP (high a b) (high b d),λk=>?_,zv1 t1 t2 t3 t4 hle (.inr rfl)⟩
   rw[c,k,zgw] at hlt;cases hlt
  ·exact⟨_,c,zv1 t1 t2 t3 t4 hle (.inl rfl)⟩
 ·exfalso
  have hor:turn a b b≠0\/turn a b d≠0\/turn b d a≠0\/turn b d b≠0:=by
   by_cases q1:turn a b b=0
   ·by_cases q2:turn a b d=0
    ·by_cases q3:turn b d a=0
     ·exact .inr (.inr (.inr λq4=>hz ⟨q1,q2,q3,q4⟩))
     ·exact .inr (.inr (.inl q3))
    ·exact .inr (.inl q2)
   ·exact .inl q1
  unfold meet at h h0
  rw[if_pos hor] at h h0
  split at h
  ·exact h rfl
  ·rename_i c;rw[if_neg c] at h0;exact h0 rfl
theorem z93 {u m q:Pt} (h1:u≠m) (h2:m≠q) (ht:turn u m q=0) (hm:meet u m m q=1):∃t,0<t/\t<1/\m=ptAt u q t:=by
 obtain⟨t,rfl⟩:=z8v h1 (zgy.1 ht)
 have t1:t≠1:=λk=>h2 (by rw[k];unfold ptAt;exact zjn (by grind) (by grind))
 by_cases c:t<1
 ·exfalso
  by_cases d:0<=t
  ·exact znu (z:=ptAt u m t) ⟨t,d,by grind,rfl⟩ (zpa _ _) (Ne.symm h2) hm
  ·have d:=Rat.not_le.1 d
   have hne:1-t≠0:=by grind
   obtain⟨w,hw,w0,w1⟩:=zn8 (D:=1) (E:=1-t) (by grind) (by grind) (by grind)
   refine znu (z:=u) (zo8 _ _) ⟨w,w0,w1,?_⟩ h1 hm
   unfold ptAt
   exact zjn (by simp only;grind) (by simp only;grind)
 ·have c:1<t:=by grind
  obtain⟨w,hw,w0,w1⟩:=zn8 (D:=1) (E:=t) (by grind) (by grind) (by grind)
  refine⟨w,?_,?_,?_⟩
  ·by_cases k:w=0
   ·rw[k] at hw;grind
   ·grind
  ·by_cases k:w=1
   ·rw[k] at hw;grind
   ·grind
  ·unfold ptAt
   exact zjn (by simp only;grind) (by simp only;grind)
theorem yal {u q z:Pt} {t:Rat} (h0:0<t) (h1:t<1) (h:zb7 u q z):zb7 u (ptAt u q t) z\/zb7 (ptAt u q t) q z:=by
 obtain⟨r,r0,r1,rfl⟩:=h
 by_cases c:r<=t
 ·obtain⟨w,hw,w0,w1⟩:=zn8 h0 r0 c
  refine .inl ⟨w,w0,w1,?_⟩
  unfold ptAt
  exact zjn (by simp only;grind) (by simp only;grind)
 ·have c:=Rat.not_le.1 c
  obtain⟨w,hw,w0,w1⟩:=zn8 (D:=r-t) (E:=1-t) (by grind) (by grind) (by grind)
  refine .inr ⟨w,w0,w1,?_⟩
  unfold ptAt
  exact zjn (by simp only;grind) (by simp only;grind)
end Go.Proofs.YthfpmfdiamldoaaGreatDoor.Geo
namespace Go.Proofs.YthfpmfdiamldoaaGreatDoor
open Go.RowKit Go.Shelf Lib Str Limb Geo
theorem along {ex ey dx dy fx fy:Rat} (h:ex≠0\/ey≠0) (h1:dx*ey-dy*ex=0) (h2:ex*fy-ey*fx=0):dx*fy-dy*fx=0:=by
 rcases h with h|h
 ·have:ex*(dx*fy-dy*fx)=0:=by grind
  rcases Rat.mul_eq_zero.1 this with k|k
  ·exact absurd k h
  ·exact k
 ·have:ey*(dx*fy-dy*fx)=0:=by grind
  rcases Rat.mul_eq_zero.1 this with k|k
  ·exact absurd k h
  ·exact k
theorem z6u {p q:Pt} (h:p≠q):q.x-p.x≠0\/q.y-p.y≠0:=by
 by_cases c:q.x-p.x=0
 ·refine .inr λc2=>h ?_
  obtain⟨a,b⟩:=p;obtain⟨c',d'⟩:=q
  simp only[Pt.mk.injEq]
  simp only at c c2
  exact⟨by grind,by grind⟩
 ·exact .inl c
theorem z5n (c:Nat->Pt) (n:Nat) (hd:∀j,j<n->c j≠c (j+1)) (hf:∀j,0<j->j<n->turn (c (j-1)) (c j) (c (j+1))=0):∀j,j<=n->0<n->cr (c 0) (c 1) (c j)=0/\cr (c 0) (c 1) (c (j-1))=0
 |0,_,_=>by unfold cr;constructor<;>grind
 |1,_,_=>by
  show cr (c 0) (c 1) (c 1)=0/\cr (c 0) (c 1) (c 0)=0
  unfold cr;constructor<;>grind
 |j+2,hj,h0=>by
  obtain⟨h1,h2⟩:=z5n c n hd hf (j+1) (by omega) h0
  have hfl:=zgy.1 (hf (j+1) (by omega) (by omega))
  refine⟨?_,h1⟩
  simp only[Nat.add_sub_cancel] at hfl h2
  have hne:=z6u (hd j (by omega))
  have:=along (dx:=(c 1).x-(c 0).x) (dy:=(c 1).y-(c 0).y) (fx:=(c (j+1+1)).x-(c j).x) (fy:=(c (j+1+1)).y-(c j).y) hne (by unfold cr at h1 h2;grind) (by unfold cr at hfl;exact hfl)
  unfold cr at h2⊢
  show((c 1).x-(c 0).x)*((c (j+1+1)).y-(c 0).y)-((c 1).y-(c 0).y)*((c (j+1+1)).x-(c 0).x)=0
  grind
theorem z6g {p:Nat->Bool} {n x:Nat} {xs:List Nat} (h:(List.range n).filter p=x::xs):
 (∀i (hi:i<xs.length),p xs[i]=true/\x<xs[i]/\xs[i]<n)/\
 (xs=[]->∀j,x<j->j<n->p j=false)/\
 (∀(h0:0<xs.length),(∀j,x<j->j<xs[0]->p j=false)/\∀j,xs[xs.length-1]<j->j<n->p j=false):=by
 have hp:(x::xs).Pairwise (· < ·):=by rw[<-h];exact List.pairwise_lt_range.sublist List.filter_sublist
 have hm:∀j,j∈x::xs↔j<n/\p j=true:=λj=>by rw[<-h,List.mem_filter,List.mem_range]
 rw[List.pairwise_cons] at hp
 obtain⟨hx,hxs⟩:=hp
 rw[List.pairwise_iff_getElem] at hxs
 have inx:∀j,x<j->j<n->p j=true->∃i,∃hi:i<xs.length,xs[i]=j:=λj h1 h2 h3=>by
  rcases List.mem_cons.1 ((hm j).2 ⟨h2,h3⟩) with rfl|k
  ·exact absurd h1 (Nat.lt_irrefl _)
  ·exact List.mem_iff_getElem.1 k
 refine⟨λi hi=>?_,λhe j h1 h2=>?_,λh0=>⟨λj h1 h2=>?_,λj h1 h2=>?_⟩⟩
 ·have:=(hm xs[i]).1 (List.mem_cons_of_mem _ (zY hi))
  exact⟨this.2,hx _ (zY hi),this.1⟩
 ·cases k:p j with
  |false=>rfl
  |true=>
   obtain⟨i,hi,_⟩:=inx j h1 h2 k
   rw[he] at hi;simp at hi
 ·cases k:p j with
  |false=>rfl
  |true=>
   have hn:=((hm xs[0]).1 (List.mem_cons_of_mem _ (zY h0))).1
   obtain⟨i,hi,e⟩:=inx j h1 (by omega) k
   by_cases c:i=0
   ·subst c;omega
   ·have:=hxs 0 i h0 hi (by omega);omega
 ·cases k:p j with
  |false=>rfl
  |true=>
   have hl:=hx _ (zY (show xs.length-1<xs.length by omega))
   obtain⟨i,hi,e⟩:=inx j (by omega) h2 k
   by_cases c:i=xs.length-1
   ·subst c;omega
   ·have:=hxs i (xs.length-1) hi (by omega) (by omega);omega
theorem z6v {P:Pt} {r d:List Pt} (h3:3<=(P::r).length) (h:z3q (P::r)) (h0:z3m (P::r) 0=false) (hk:z3n (P::r)=P::d):
 turn (cor (P::d) d.length) P (cor (P::d) 1)≠0:=by
 intro ht
 have hinj:=λ{i k}=>z58 (i:=i) (k:=k) h3 h
 have hs:=h.1
 have hP:cor (P::r) 0=P:=rfl
 generalize hl:P::r=l at*
 -- the first corner turns
 have hn0:turn (cor l (l.length-1)) P (cor l 1)≠0:=by
  unfold z3m at h0
  rw[Nat.zero_add,Nat.zero_add,hP] at h0
  simpa using h0
 unfold z3n z3o at hk
 have hflat:∀j,(!z3m l j)=false->0<j->turn (cor l (j-1)) (cor l j) (cor l (j+1))=0:=by
  intro j hj hj0
  have:z3m l j=true:=by simpa using hj
  unfold z3m at this
  rw[show j+l.length-1=l.length+(j-1) by omega,z3s] at this
  simpa using this
 cases hF:(List.range l.length).filter (λi=>!z3m l i) with
 |nil=>rw[hF] at hk;simp at hk
 |cons x xs=>
  rw[hF,List.map_cons,List.cons.injEq] at hk
  obtain⟨hx,hd⟩:=hk
  have hx0:x=0:=by
   have m0:0∈(List.range l.length).filter (λi=>!z3m l i):=List.mem_filter.2 ⟨List.mem_range.2 (by omega),by rw[h0];rfl⟩
   have hp:(x::xs).Pairwise (· < ·):=by rw[<-hF];exact List.pairwise_lt_range.sublist List.filter_sublist
   rw[hF] at m0
   rcases List.mem_cons.1 m0 with e|e
   ·exact e.symm
   ·have:=(List.pairwise_cons.1 hp).1 _ e;omega
  subst hx0
  obtain⟨f1,f2,f3⟩:=z6g hF
  have hrun:∀m,0<m->m<=l.length-1->(∀j,0<j->j<m->(!z3m l j)=false)->cr P (cor l 1) (cor l m)=0:=by
   intro m hm0 hm hfl
   have:=(z5n (cor l) m (λj hj=>hs j (by omega)) (λj h1 h2=>hflat j (hfl j h1 h2) h1) m (zN _) hm0).1
   rwa [hP] at this
  have hn:cor l l.length=P:=by have:=z3s l 0;rw[Nat.add_zero,hP] at this;exact this
  have hrunL:∀m,m<l.length->0<m->(∀j,m<j->j<l.length->(!z3m l j)=false)->cr P (cor l (l.length-1)) (cor l m)=0:=by
   intro m hm hm0 hfl
   have:=(z5n (λj=>cor l (l.length-j)) (l.length-m) (λj hj=>by
    have:=hs (l.length-(j+1)) (by omega)
    rw[show l.length-(j+1)+1=l.length-j by omega] at this
    exact Ne.symm this) (λj h1 h2=>by
    have:=hflat (l.length-j) (hfl _ (by omega) (by omega)) (by omega)
    rw[z43,show l.length-(j+1)=l.length-j-1 by omega,show l.length-(j-1)=l.length-j+1 by omega,this];rfl) (l.length-m) (zN _) (by omega)).1
   simp only[Nat.sub_zero] at this
   rwa [hn,show l.length-(l.length-m)=m by omega] at this
  by_cases he:xs=[]
  ·-- nothing else is left:all on one line
   have:=hrun (l.length-1) (by omega) (zN _) (λj h1 h2=>f2 he j h1 (by omega))
   refine hn0 (zgy.2 ?_)
   unfold cr at this⊢
   grind
  ·have hxl:0<xs.length:=List.length_pos_iff.2 he
   obtain⟨g1,g2⟩:=f3 hxl
   obtain⟨_,a2,a3⟩:=f1 0 hxl
   obtain⟨_,b2,b3⟩:=f1 (xs.length-1) (by omega)
   have dl:d.length=xs.length:=by rw[<-hd];simp
   have c1:cor (P::d) 1=cor l xs[0]:=by
    rw[z3r (by simp;omega)]
    simp only[List.getElem_cons_succ]
    simp only[<-hd,List.getElem_map]
   have c2:cor (P::d) d.length=cor l xs[xs.length-1]:=by
    rw[z3r (by simp)]
    rw[List.getElem_cons,dif_neg (by omega)]
    simp only[<-hd,List.getElem_map,List.length_map]
   rw[c1,c2] at ht
   have k1:=hrun xs[0] (by omega) (by omega) (λj h1 h2=>g1 j h1 h2)
   have k2:=hrunL xs[xs.length-1] (by omega) (by omega) (λj h1 h2=>g2 j h1 h2)
   have n1:P≠cor l xs[0]:=by have:=hinj a2 a3;rwa [hP] at this
   have n2:P≠cor l xs[xs.length-1]:=by have:=hinj b2 b3;rwa [hP] at this
   have z:=zgy.1 ht
   generalize cor l xs[0]=B at*
   generalize cor l xs[xs.length-1]=A at*
   generalize cor l 1=u at*
   generalize cor l (l.length-1)=v at*
   refine hn0 (zgy.2 ?_)
   -- u along B,B along A,v along A
   have s1:(A.x-P.x)*(u.y-P.y)-(A.y-P.y)*(u.x-P.x)=0:=along (z6u n1) (by unfold cr at z;grind) (by unfold cr at k1;grind)
   have s2:(v.x-P.x)*(u.y-P.y)-(v.y-P.y)*(u.x-P.x)=0:=along (z6u n2) (by unfold cr at k2;grind) s1
   unfold cr
   grind
theorem zkl {l:List Pt} (h3:3<=l.length) (h:z3q l):z3n l≠[]:=by
 obtain⟨f1,f2⟩:=z4f (o:=l) (by omega) l.length (zN _)
 generalize z3l l l.length=f at*
 have hnf:z3m l f=false:=by
  cases hc:z3m l f with
  |false=>rfl
  |true=>
   exfalso
   unfold z3m at hc
   have hc:turn (cor l (f+l.length-1)) (cor l f) (cor l (f+1))=0:=by simpa using hc
   -- the side before
   obtain⟨g,hg,e1,e2,hgf⟩:∃g,g<l.length/\cor l (f+l.length-1)=cor l g/\cor l (g+1)=cor l f/\g≠f/\(f=g+1\/f=0/\g=l.length-1):=by
    by_cases c:f=0
    ·refine⟨l.length-1,by omega,by rw[c,Nat.zero_add],?_,by omega,.inr ⟨c,rfl⟩⟩
     rw[show l.length-1+1=l.length+0 by omega,z3s,c]
    ·refine⟨f-1,by omega,?_,by rw[show f-1+1=f by omega],by omega,.inl (by omega)⟩
     rw[show f+l.length-1=l.length+(f-1) by omega,z3s]
   have hm:=z5l h.2 hg f1 hgf.1
   rw[e2] at hm
   have hw:(if g<f then zea l.length g f else zea l.length f g)=1:=by
    unfold zea
    rcases hgf.2 with c|⟨c,c2⟩
    ·rw[if_pos (by omega),if_pos (.inl c)]
    ·rw[if_neg (by omega),if_pos (.inr ⟨c,c2⟩)]
   rw[hw] at hm
   have d1:=h.1 g hg
   rw[e2] at d1
   have d2:=h.1 f f1
   have l1:=f2 g hg
   have l2:le (cor l f) (cor l (f+1)):=by
    have:=f2 ((f+1)%l.length) (Nat.mod_lt _ (by omega))
    rwa [zt4] at this
   rw[e1] at hc
   generalize cor l g=v at*
   generalize cor l (f+1)=u at*
   generalize cor l f=P at*
   have t1:turn P u v=0:=by rw[zj3];exact hc
   rw[z33 (zc8 v P) hc t1 (zcz P u)] at hm
   have o1:ordP P v= -1:=by unfold le at l1;have:=z41 (Ne.symm d1);omega
   have o2:ordP P u= -1:=by unfold le at l2;have:=z41 d2;omega
   have s1:=z3t P v;have s2:=z3t P u;have z:=zgw P
   have w1:low v P=P:=by unfold low;rw[if_pos (by omega)]
   have w2:low P u=P:=by unfold low;rw[if_neg (by omega)]
   have w3:high v P=v:=by unfold high;rw[if_pos (by omega)]
   have w4:high P u=u:=by unfold high;rw[if_neg (by omega)]
   have w5:maxP P P=P:=by unfold maxP;split<;>rfl
   rw[w1,w2,w3,w4,w5] at hm
   unfold minP at hm
   split at hm<;>omega
 intro he
 have:cor l f∈z3n l:=by
  unfold z3n z3o
  exact List.mem_map.2 ⟨f,List.mem_filter.2 ⟨List.mem_range.2 f1,by rw[hnf];rfl⟩,rfl⟩
 rw[he] at this
 simp at this
theorem z7v (s t:List Pt):∃A B,z3n (s++t)=A++B/\z3n (t++s)=B++A:=by
 have hl:(s++t).length=s.length+t.length:=by simp
 have hl2:(t++s).length=t.length+s.length:=by simp
 have hp:∀i,z3m (s++t) (s.length+t.length+i)=z3m (s++t) i:=by
  intro i
  by_cases hz:(s++t).length=0
  ·have:s.length=0/\t.length=0:=by omega
   rw[this.1,this.2,Nat.zero_add]
  ·unfold z3m
   rw[<-hl]
   have a0:=z3s (s++t) i;have a1:=z3s (s++t) (i+1);have a2:=z3s (s++t) (i+(s++t).length-1)
   rw[show(s++t).length+i+(s++t).length-1=(s++t).length+(i+(s++t).length-1) by omega,a2,a0,show(s++t).length+i+1=(s++t).length+(i+1) by omega,a1]
 have hf:∀i,z3m (t++s) i=z3m (s++t) (i+s.length):=by
  intro i
  by_cases hz:(s++t).length=0
  ·simp at hz;obtain⟨rfl,rfl⟩:=hz;rfl
  ·unfold z3m
   rw[z3y s t,z3y s t,z3y s t]
   congr 4
   all_goals omega
 refine⟨z3o (s++t) s.length,((List.range t.length).filter λi=>!z3m (s++t) (i+s.length)).map λi=>cor (s++t) (i+s.length),?_,?_⟩
 ·unfold z3n z3o
  rw[hl,List.range_add,List.filter_append,List.map_append,List.filter_map,List.map_map]
  simp only[Function.comp_def,Nat.add_comm s.length]
 ·unfold z3n z3o
  rw[hl2,List.range_add,List.filter_append,List.map_append,List.filter_map,List.map_map]
  simp only[Function.comp_def,hf,z3y s t]
  have e1:∀i,z3m (s++t) (t.length+i+s.length)=z3m (s++t) i:=λi=>by rw[show t.length+i+s.length=s.length+t.length+i by omega,hp]
  have e2:∀i,cor (s++t) (t.length+i+s.length)=cor (s++t) i:=λi=>by rw[show t.length+i+s.length=(s++t).length+i by omega,z3s]
  simp only[e1,e2]
  congr 1
  exact List.map_congr_left λi _=>z3y s t i
theorem z4r {P:Pt}:∀{a b a' b':List Pt},(a++P::b).Nodup->a++P::b=a'++P::b'->a=a'/\b=b'
 |[],b,[],b',_,e=>by simp at e;exact⟨rfl,e⟩
 |[],b,x::a',b',hn,e=>by
  simp at e
  obtain⟨rfl,rfl⟩:=e
  simp at hn
 |x::a,b,[],b',hn,e=>by
  simp at e
  obtain⟨rfl,rfl⟩:=e
  simp at hn
 |x::a,b,y::a',b',hn,e=>by
  simp only[yM,List.cons.injEq] at e
  obtain⟨rfl,e⟩:=e
  rw[yM,List.nodup_cons] at hn
  obtain⟨h1,h2⟩:=z4r hn.2 e
  exact⟨by rw[h1],h2⟩
theorem z68 {l:List Pt} (h3:3<=l.length) (h:z3q l):z3p l.reverse=z3p l:=by
 unfold z3p
 rw[z7u]
 refine z6r (z4t h3 h) (zkl h3 h) λa P b e=>?_
 have hn:=z4t h3 h
 -- where the corner stands in the list
 have hm:P∈z3n l:=by rw[e];simp
 unfold z3n z3o at hm
 obtain⟨i,hi,hP⟩:=List.mem_map.1 hm
 obtain⟨hi1,hi2⟩:=List.mem_filter.1 hi
 have hi1:=List.mem_range.1 hi1
 have hsplit:l=l.take i++P::l.drop (i+1):=by
  rw[<-hP,z3r hi1,List.getElem_cons_drop,yN]
 obtain⟨A,B,e1,e2⟩:=z7v (l.take i) (P::l.drop (i+1))
 rw[<-hsplit] at e1
 have hl:(P::l.drop (i+1)++l.take i).length=l.length:=by simp;omega
 have hp':z3q (P::l.drop (i+1)++l.take i):=z4e _ _ (by rw[<-hsplit];exact h3) (by rw[<-hsplit];exact h)
 have hf0:z3m (P::l.drop (i+1)++l.take i) 0=false:=by
  have c:=λk=>z3y (l.take i) (P::l.drop (i+1)) k
  rw[<-hsplit,show(l.take i).length=i by simp;omega] at c
  have:z3m l i=false:=by simpa using hi2
  unfold z3m at this⊢
  rw[c,c,c,hl,show 0+l.length-1+i=i+l.length-1 by omega,show 0+1+i=i+1 by omega,Nat.zero_add]
  exact this
 -- what is left begins with it
 obtain⟨d,hd⟩:∃d,z3n (P::l.drop (i+1)++l.take i)=P::d:=by
  have e:=z35 (P::l.drop (i+1)++l.take i) 0
  rw[if_neg (by rw[hf0];simp)] at e
  have mono:∀k,∃d,z3o (P::l.drop (i+1)++l.take i) (k+1)=P::d:=by
   intro k
   induction k with
   |zero=>exact⟨[],by rw[e];rfl⟩
   |succ k ih=>
    obtain⟨d,hd⟩:=ih
    rw[z35,hd]
    split
    ·exact⟨d,rfl⟩
    ·exact⟨d++[_],rfl⟩
  have:=mono (l.length-1)
  unfold z3n
  rwa [hl,show l.length=l.length-1+1 by omega]
 have hdb:d=b++a:=by
  rw[hd] at e2
  rw[e] at e1 hn
  cases B with
  |nil=>
   simp only[List.nil_append,List.append_nil] at e1 e2
   rw[<-e2] at e1
   obtain⟨rfl,rfl⟩:=z4r (a':=[]) hn e1
   simp
  |cons y B=>
   simp only[yM,List.cons.injEq] at e2
   obtain⟨rfl,rfl⟩:=e2
   obtain⟨rfl,rfl⟩:=z4r hn e1
   rfl
 have:=z6v (P:=P) (r:=l.drop (i+1)++l.take i) (d:=d) (by rw[<-yM,hl];exact h3) hp' hf0 hd
 rwa [hdb] at this
section
variable {l:List Pt} {m:Pt}
theorem ze2:(l++[m]).length=l.length+1:=by simp
theorem zln {k:Nat} (hk:k<l.length):cor (l++[m]) k=cor l k:=by
 rw[z3r (by rw[ze2];omega),z3r hk,List.getElem_append_left hk]
theorem zpb:cor (l++[m]) l.length=m:=by
 rw[z3r (by rw[ze2];omega),List.getElem_append_right (zN _)];simp
theorem zrn {k:Nat} (hk:k<l.length):cor (l++[m]) (l.length+1+k)=cor l k:=by
 have:=z3s (l++[m]) k
 rw[ze2] at this
 rw[this,zln hk]
theorem zt9 (h3:2<=l.length) (h:z3q (l++[m])) (hf:z3m (l++[m]) l.length=true):∃t,0<t/\t<1/\m=ptAt (cor l (l.length-1)) (cor l 0) t:=by
 obtain⟨hs,hm⟩:=h
 have e0:=zrn (l:=l) (m:=m) (k:=0) (by omega)
 rw[Nat.add_zero] at e0
 have s1:=hs (l.length-1) (by rw[ze2];omega)
 have s2:=hs l.length (by rw[ze2];omega)
 rw[zln (by omega),show l.length-1+1=l.length by omega,zpb] at s1
 rw[zpb,e0] at s2
 have k:=z5l hm (i:=l.length-1) (k:=l.length) (by rw[ze2];omega) (by rw[ze2];omega) (by omega)
 rw[if_pos (by omega),zln (by omega),show l.length-1+1=l.length by omega,zpb,e0] at k
 unfold zea at k
 rw[if_pos (.inl (by omega))] at k
 unfold z3m at hf
 have ht:=of_decide_eq_true hf
 rw[ze2,show l.length+(l.length+1)-1=l.length+1+(l.length-1) by omega,zrn (by omega),zpb,e0] at ht
 exact z93 s1 s2 ht k
theorem yb2 (h3:3<=l.length) (h:z3q (l++[m])) (hf:z3m (l++[m]) l.length=true):z3q l:=by
 obtain⟨t,t0,t1,hmt⟩:=zt9 (by omega) h hf
 obtain⟨hs,hm⟩:=h
 have e0:=zrn (l:=l) (m:=m) (k:=0) (by omega)
 rw[Nat.add_zero] at e0
 have q0:=zrg l
 have mk:=λ(i k:Nat) (hi:i<l.length+1) (hk:k<l.length+1) (hik:i<k)=>by
  have:=z5l hm (i:=i) (k:=k) (by rw[ze2];exact hi) (by rw[ze2];exact hk) (by omega)
  rw[if_pos hik,ze2] at this
  exact this
 -- the sides ahead of the last corner,and the two at the flat one
 have sa:∀i,i+1<l.length->cor (l++[m]) i=cor l i/\cor (l++[m]) (i+1)=cor l (i+1):=λi hi=>⟨zln (by omega),zln hi⟩
 have um:∀i,i+1<l.length->meet (cor l i) (cor l (i+1)) (cor l (l.length-1)) m=zea (l.length+1) i (l.length-1):=λi hi=>by
  have:=mk i (l.length-1) (by omega) (by omega) (by omega)
  rw[(sa i hi).1,(sa i hi).2,zln (by omega),show l.length-1+1=l.length by omega,zpb] at this
  exact this
 have mq:∀i,i+1<l.length->meet (cor l i) (cor l (i+1)) m (cor l 0)=zea (l.length+1) i l.length:=λi hi=>by
  have:=mk i l.length (by omega) (by omega) (by omega)
  rw[(sa i hi).1,(sa i hi).2,zpb,e0] at this
  exact this
 refine⟨λi hi=>?_,λi k hik hk=>?_⟩
 ·by_cases c:i+1<l.length
  ·have:=hs i (by rw[ze2];omega)
   rw[(sa i c).1,(sa i c).2] at this
   exact this
  ·have hi':i=l.length-1:=by omega
   subst hi'
   rw[show l.length-1+1=l.length by omega,q0]
   intro e
   have s1:=hs (l.length-1) (by rw[ze2];omega)
   rw[zln (by omega),show l.length-1+1=l.length by omega,zpb,hmt,<-e] at s1
   refine s1 ?_
   unfold ptAt
   exact zjn (by simp only;grind) (by simp only;grind)
 ·unfold okS2
  by_cases c:k+1<l.length
  ·have:=mk i k (by omega) (by omega) hik
   rw[(sa i (by omega)).1,(sa i (by omega)).2,(sa k c).1,(sa k c).2] at this
   rw[this]
   unfold zea
   by_cases d:k=i+1
   ·rw[if_pos (.inl d),if_pos (.inl d)]
   ·rw[if_neg (by omega),if_neg (by omega)]
  ·have hk':k=l.length-1:=by omega
   subst hk'
   rw[show l.length-1+1=l.length by omega,q0]
   have hu:=um i (by omega)
   have hq:=mq i (by omega)
   -- a common point lies on one of the halves
   have spl:∀z,zb7 (cor l (l.length-1)) (cor l 0) z->zb7 (cor l (l.length-1)) m z\/zb7 m (cor l 0) z:=λz hz=>by
    rw[hmt];exact yal t0 t1 hz
   by_cases c1:i+1=l.length-1
   ·-- the side ahead
    have w1:zea (l.length+1) i (l.length-1)=1:=if_pos (.inl (by omega))
    have w2:zea (l.length+1) i l.length=0:=if_neg (by omega)
    have w3:zea l.length i (l.length-1)=1:=if_pos (.inl (by omega))
    rw[w1] at hu;rw[w2] at hq;rw[w3]
    rw[c1] at hu hq⊢
    by_cases d:meet (cor l i) (cor l (l.length-1)) (cor l (l.length-1)) (cor l 0)=1
    ·exact d
    ·exfalso
     obtain⟨z,z0,z1,z2⟩:=ya5 d
     rcases spl z z2 with z3|z3
     ·exact znu z1 z3 z0 hu
     ·exact zl0 z1 z3 hq
   ·by_cases c2:i=0
    ·subst c2
     have w1:zea (l.length+1) 0 (l.length-1)=0:=if_neg (by omega)
     have w2:zea (l.length+1) 0 l.length=1:=if_pos (.inr ⟨rfl,by omega⟩)
     have w3:zea l.length 0 (l.length-1)=1:=if_pos (.inr ⟨rfl,rfl⟩)
     rw[w1] at hu;rw[w2] at hq;rw[w3]
     rw[zo7] at hq⊢
     by_cases d:meet (cor l (l.length-1)) (cor l 0) (cor l 0) (cor l (0+1))=1
     ·exact d
     ·exfalso
      obtain⟨z,z0,z1,z2⟩:=ya5 d
      rcases spl z z1 with z3|z3
      ·exact zl0 z2 z3 hu
      ·exact znu z3 z2 z0 hq
    ·have w1:zea (l.length+1) i (l.length-1)=0:=if_neg (by omega)
     have w2:zea (l.length+1) i l.length=0:=if_neg (by omega)
     have w3:zea l.length i (l.length-1)=0:=if_neg (by omega)
     rw[w1] at hu;rw[w2] at hq;rw[w3]
     by_cases d:meet (cor l i) (cor l (i+1)) (cor l (l.length-1)) (cor l 0)=0
     ·exact d
     ·exfalso
      obtain⟨z,z1,z2⟩:=yb1 d
      rcases spl z z2 with z3|z3
      ·exact zl0 z1 z3 hu
      ·exact zl0 z1 z3 hq
theorem yb3 (a b c:Pt):cr b c a=cr a b c:=by unfold cr;grind
theorem yb4 (h3:3<=l.length) (h:z3q (l++[m])) (hf:z3m (l++[m]) l.length=true):z3n (l++[m])=z3n l:=by
 obtain⟨t,t0,t1,hmt⟩:=zt9 (by omega) h hf
 have q0:=zrg l
 have hfi:∀i,i<l.length->z3m (l++[m]) i=z3m l i:=by
  intro i hi
  unfold z3m
  rw[decide_eq_decide,ze2,zln hi]
  by_cases c0:i=0
  ·subst c0
   rw[show 0+(l.length+1)-1=l.length by omega,zpb,zln (by omega),show 0+l.length-1=l.length-1 by omega,zgy,zgy,hmt,<-yb3,zyj]
   rw[<-yb3 (cor l (l.length-1))]
   have:cr (cor l 0) (cor l (0+1)) (cor l 0)=0:=ya1 _ _
   rw[this]
   have hne:1-t≠0:=by grind
   constructor
   ·intro k
    have k:(1-t)*cr (cor l 0) (cor l (0+1)) (cor l (l.length-1))=0:=by grind
    rcases Rat.mul_eq_zero.1 k with z|z
    ·exact absurd z hne
    ·exact z
   ·intro k;rw[k];grind
  ·rw[show i+(l.length+1)-1=l.length+1+(i-1) by omega,zrn (by omega),show i+l.length-1=l.length+(i-1) by omega,z3s]
   by_cases c1:i+1<l.length
   ·rw[zln c1]
   ·rw[show i+1=l.length by omega,zpb,q0,zgy,zgy,hmt,show l.length-1=i by omega,zyj,z2k]
    constructor
    ·intro k
     have k:t*cr (cor l (i-1)) (cor l i) (cor l 0)=0:=by grind
     rcases Rat.mul_eq_zero.1 k with z|z
     ·grind
     ·exact z
    ·intro k;rw[k];grind
 unfold z3n
 rw[ze2,z35,if_pos hf]
 unfold z3o
 have:∀i∈List.range l.length,(λi=>!z3m (l++[m]) i) i=(λi=>!z3m l i) i:=λi hi=>by
  simp only[hfi i (List.mem_range.1 hi)]
 rw[List.filter_congr this]
 apply List.map_congr_left
 intro i hi
 exact zln (List.mem_range.1 (List.mem_filter.1 hi).1)
theorem yb5 (h3:3<=l.length) (h:z3q (l++[m])) (hf:z3m (l++[m]) l.length=true):zbj (l++[m])=zbj l:=by
 obtain⟨t,t0,t1,hmt⟩:=zt9 (by omega) h hf
 have e0:=zrn (l:=l) (m:=m) (k:=0) (by omega)
 rw[Nat.add_zero] at e0
 obtain⟨n,hn⟩:∃n,l.length=n+1:=⟨l.length-1,by omega⟩
 have q0:=zrg l
 have em:=zpb (l:=l) (m:=m)
 have eu:=zln (l:=l) (m:=m) (k:=n) (by omega)
 have hs:sumK (λk=>(cor (l++[m]) k).x*(cor (l++[m]) (k+1)).y-(cor (l++[m]) (k+1)).x*(cor (l++[m]) k).y) n=sumK (λk=>(cor l k).x*(cor l (k+1)).y-(cor l (k+1)).x*(cor l k).y) n:=zhe λk hk=>by
  rw[zln (by omega),zln (by omega)]
 rw[hn] at q0 em e0 hmt
 rw[show n+1-1=n by omega] at hmt
 unfold zbj
 rw[ze2,hn]
 simp only[sumK]
 rw[hs,em,eu,e0,q0,hmt]
 unfold ptAt
 simp only
 grind
end
def znv (o:List Pt):Prop:=∀i,turn (cor o (i+o.length-1)) (cor o i) (cor o (i+1))≠0
theorem yc3 (o:List Pt) (k q:Nat):cor o (k+o.length*q)=cor o k:=by unfold cor;rw[Nat.add_mul_mod_self_left]
theorem z9k {o:List Pt} (h0:0<o.length) (h:∀i,i<o.length->z3m o i=false):znv o:=λi=>by
 have hi:=Nat.mod_lt i h0
 have e:=Nat.mod_add_div i o.length
 have:=h (i%o.length) hi
 unfold z3m at this
 have k:=of_decide_eq_false this
 have e1:cor o (i+o.length-1)=cor o (i%o.length+o.length-1):=by
  rw[show i+o.length-1=(i%o.length+o.length-1)+o.length*(i/o.length) by omega];exact yc3 _ _ _
 have e2:cor o i=cor o (i%o.length):=(zt4 o i).symm
 have e3:cor o (i+1)=cor o (i%o.length+1):=(z5j o i).symm
 rw[e1,e2,e3];exact k
theorem zui {s t:List Pt} (h0:0<(s++t).length) (h:znv (s++t)):znv (t++s):=λi=>by
 have hl:(t++s).length=(s++t).length:=by simp;omega
 have:=h (i+s.length)
 rw[hl,z3y s t,z3y s t,z3y s t]
 rw[show i+(s++t).length-1+s.length=i+s.length+(s++t).length-1 by omega,show i+1+s.length=i+s.length+1 by omega]
 exact this
theorem ybd {o:List Pt} (h0:0<o.length) (h:znv o):znv o.reverse:=by
 have hl:o.reverse.length=o.length:=List.length_reverse ..
 refine z9k (by rw[hl];exact h0) λi hi=>?_
 rw[hl] at hi
 unfold z3m
 refine decide_eq_false λk=>?_
 rw[hl,z4i o hi] at k
 have a1:cor o.reverse (i+o.length-1)=cor o (o.length-1-i+1):=by
  by_cases c:i=0
  ·subst c
   rw[show 0+o.length-1=o.length-1 by omega,z4i o (by omega)]
   have:=z3s o 0
   rw[show o.length-1-0+1=o.length+0 by omega,this,show o.length-1-(o.length-1)=0 by omega]
  ·have:=z3s o.reverse (i-1)
   rw[hl] at this
   rw[show i+o.length-1=o.length+(i-1) by omega,this,z4i o (by omega)]
   congr 1;omega
 have a2:cor o.reverse (i+1)=cor o (o.length-1-i+o.length-1):=by
  by_cases c:i+1=o.length
  ·have:=z3s o.reverse 0
   rw[hl] at this
   rw[show i+1=o.length+0 by omega,this,z4i o h0]
   congr 1;omega
  ·rw[z4i o (by omega)]
   have:=z3s o (o.length-1-(i+1))
   rw[show o.length-1-i+o.length-1=o.length+(o.length-1-(i+1)) by omega,this]
 rw[a1,a2,z43] at k
 exact h (o.length-1-i) (by omega)
theorem z9l {o:List Pt} (h:znv o):z3n o=o:=by
 unfold z3n z3o
 have:∀i∈List.range o.length,(λi=>!z3m o i) i=(λ_=>true) i:=λi _=>by
  simp only[z3m,decide_eq_false (h i)];rfl
 rw[List.filter_congr this,List.filter_eq_self.2 (λ_ _=>rfl)]
 apply List.ext_getElem (by simp)
 intro i h1 h2
 simp only[List.getElem_map,List.getElem_range]
 exact z3r h2
theorem yb6 (x:Pt) (r:List Pt):zbj (r++[x])=zbj (x::r):=by
 have hl:(r++[x]).length=(x::r).length:=by simp
 unfold zbj
 rw[hl]
 have e:sumK (λk=>(cor (r++[x]) k).x*(cor (r++[x]) (k+1)).y-(cor (r++[x]) (k+1)).x*(cor (r++[x]) k).y) (x::r).length=sumK (λk=>(λj=>(cor (x::r) j).x*(cor (x::r) (j+1)).y-(cor (x::r) (j+1)).x*(cor (x::r) j).y) (k+1)) (x::r).length:=zhe λk _=>by
  rw[z38,z38]
 rw[e]
 have s1:∀(f:Nat->Rat) n,sumK (λk=>f (k+1)) n=sumK f n+f n-f 0:=by
  intro f n
  induction n with
  |zero=>simp only[sumK];grind
  |succ n ih=>simp only[sumK] at*;grind
 refine(s1 (λj=>(cor (x::r) j).x*(cor (x::r) (j+1)).y-(cor (x::r) (j+1)).x*(cor (x::r) j).y) _).trans ?_
 have q0:=z3s (x::r) 0
 have q1:=z3s (x::r) 1
 rw[Nat.add_zero] at q0
 rw[q0,q1]
 grind
theorem zro:∀(s t:List Pt),zbj (t++s)=zbj (s++t)
 |[],t=>by simp
 |x::s,t=>by
  have:=zro s (t++[x])
  rw[show t++x::s=(t++[x])++s by simp,this,<-yL,yb6];rfl
theorem z8x (f:Nat->Rat):∀n,sumK f (n+1)=f 0+sumK (λk=>f (k+1)) n
 |0=>by simp only[sumK];grind
 |n+1=>by
  have:=z8x f n
  rw[show sumK f (n+1+1)=sumK f (n+1)+f (n+1) from rfl,this]
  simp only[sumK];grind
theorem z9m (f:Nat->Rat):∀n,sumK (λk=>f (n-1-k)) n=sumK f n
 |0=>rfl
 |n+1=>by
  rw[z8x]
  have e:sumK (λk=>f (n+1-1-(k+1))) n=sumK (λk=>f (n-1-k)) n:=zhe λk hk=>by congr 1;omega
  rw[e,z9m f n]
  show f (n+1-1-0)+sumK f n=sumK f n+f n
  rw[show n+1-1-0=n by omega];grind
theorem ych {l:List Pt} (h0:0<l.length):zbj l.reverse= -zbj l:=by
 obtain⟨n,hn⟩:∃n,l.length=n+1:=⟨l.length-1,by omega⟩
 have hl:l.reverse.length=l.length:=List.length_reverse ..
 obtain⟨f,hf⟩:∃f:Nat->Rat,f= λk=>(cor l k).x*(cor l (k+1)).y-(cor l (k+1)).x*(cor l k).y:=⟨_,rfl⟩
 have q0:=zrg l
 have q1:=zrg l.reverse
 rw[hl,z4i l h0] at q1
 rw[hn] at q0 q1
 have e:sumK (λk=>(cor l.reverse k).x*(cor l.reverse (k+1)).y-(cor l.reverse (k+1)).x*(cor l.reverse k).y) n=sumK (λk=>(-1:Rat)*f (n-1-k)) n:=zhe λk hk=>by
  rw[z4i l (by omega),z4i l (by omega),hf,hn]
  simp only
  rw[show n-1-k+1=n+1-1-k by omega,show n+1-1-(k+1)=n-1-k by omega]
  grind
 have el:cor l.reverse n=cor l 0:=by rw[z4i l (by omega)];congr 1;omega
 unfold zbj
 rw[hl,hn]
 rw[show sumK (λk=>(cor l.reverse k).x*(cor l.reverse (k+1)).y-(cor l.reverse (k+1)).x*(cor l.reverse k).y) (n+1)=sumK (λk=>(cor l.reverse k).x*(cor l.reverse (k+1)).y-(cor l.reverse (k+1)).x*(cor l.reverse k).y) n+((cor l.reverse n).x*(cor l.reverse (n+1)).y-(cor l.reverse (n+1)).x*(cor l.reverse n).y) from rfl,e]
 rw[ztp,z9m,el,q1,<-hf]
 show _= -(sumK f n+f n)
 rw[hf]
 simp only
 rw[q0,show n+1-1-0=n by omega]
 grind
theorem ybe {a b x:Pt} (h:z3q ([a,b]++[x])) (hf:z3m ([a,b]++[x]) 2=true):False:=by
 obtain⟨t,t0,t1,ht⟩:=zt9 (l:=[a,b]) (m:=x) (by simp) h hf
 have hm:=z5l h.2 (i:=0) (k:=1) (by simp) (by simp) (by omega)
 have hs:=h.1 1 (by simp)
 have e:meet a b b x=1:=by
  have:zea ([a,b]++[x]).length 0 1=1:=if_pos (.inl rfl)
  rw[if_pos (by omega),this] at hm
  exact hm
 have hx:x=ptAt b a t:=ht
 refine znu (z:=x) ?_ (zpa b x) (Ne.symm hs) e
 rw[hx]
 exact zot ⟨t,by grind,by grind,rfl⟩
theorem z94:∀(N:Nat) (l:List Pt),l.length<=N->3<=l.length->z3q l->z3q (z3n l)/\3<=(z3n l).length/\zbj (z3n l)=zbj l/\znv (z3n l)
 |0,l,h1,h2,_=>by omega
 |N+1,l,hN,h3,h=>by
  by_cases c:∃i,i<l.length/\z3m l i=true
  ·obtain⟨i,hi,hf⟩:=c
   obtain⟨s,x,t,rfl,hsl⟩:∃s x t,l=s++x::t/\s.length=i:=⟨l.take i,l[i],l.drop (i+1),by rw[List.getElem_cons_drop,yN],by rw[List.length_take];omega⟩
   have e1:s++x::t=(s++[x])++t:=by simp
   rw[e1] at h h3 hN hf⊢
   have h':z3q (t++(s++[x])):=z4e _ _ h3 h
   have hlen:((s++[x])++t).length=(t++s).length+1:=by simp;omega
   have hf':z3m ((t++s)++[x]) (t++s).length=true:=by
    unfold z3m at hf⊢
    have k:=of_decide_eq_true hf
    refine decide_eq_true ?_
    have hl2:((t++s)++[x]).length=((s++[x])++t).length:=by simp;omega
    rw[hl2,yL,z3y (s++[x]) t,z3y (s++[x]) t,z3y (s++[x]) t]
    have hsx:(s++[x]).length=i+1:=by simp[hsl]
    have hts:(t++s).length+(i+1)=i+((s++[x])++t).length:=by simp at*;omega
    have a1:=z3s ((s++[x])++t) (i+((s++[x])++t).length-1)
    have a2:=z3s ((s++[x])++t) i
    have a3:=z3s ((s++[x])++t) (i+1)
    rw[hsx,show(t++s).length+((s++[x])++t).length-1+(i+1)=((s++[x])++t).length+(i+((s++[x])++t).length-1) by omega,a1,
     hts,show i+((s++[x])++t).length=((s++[x])++t).length+i by omega,a2,show(t++s).length+1+(i+1)=((s++[x])++t).length+(i+1) by omega,a3]
    rw[show((s++[x])++t).length+i-1=i+((s++[x])++t).length-1 by omega]
    exact k
   rw[<-yL] at h'
   have r3:3<=(t++s).length:=by
    by_cases d:3<=(t++s).length
    ·exact d
    ·exfalso
     have d2:(t++s).length=2:=by omega
     generalize t++s=r at h' hf' d2
     match r,d2 with
     |[a,b],_=>exact ybe h' hf'
   have hr:=yb2 r3 h' hf'
   obtain⟨i1,i2,i3,i4⟩:=z94 N (t++s) (by omega) r3 hr
   have ek:=yb4 r3 h' hf'
   have ea:=yb5 r3 h' hf'
   obtain⟨A,B,f1,f2⟩:=z7v (s++[x]) t
   rw[<-yL,ek] at f2
   rw[f2] at i1 i2 i3 i4
   have hAB:(A++B).length=(B++A).length:=by simp;omega
   rw[f1]
   refine⟨z4e _ _ i2 i1,by rw[hAB];exact i2,?_,zui (by omega) i4⟩
   rw[zro,i3,<-ea,yL,zro]
  ·have hno:znv l:=z9k (by omega) λi hi=>by
    cases e:z3m l i
    ·rfl
    ·exact absurd ⟨i,hi,e⟩ c
   rw[z9l hno]
   exact⟨h,h3,rfl,hno⟩
end Go.Proofs.YthfpmfdiamldoaaGreatDoor
