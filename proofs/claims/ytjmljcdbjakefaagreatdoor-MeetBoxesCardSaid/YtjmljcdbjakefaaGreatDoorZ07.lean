/- Corners of rational solids, and -/
import Derived.Test.YtjmljcdbjakefaaGreatDoorZ06
import Derived.OwnWalkIn
import Derived.Lib.SmallJoins
import Derived.Deep.Onto
set_option maxRecDepth 100000
set_option maxHeartbeats 8000000
open Go.Value renaming slice → z7, string → z8, tuple → ze, pointer → zf, bool → zg, agg → zh, int → zj
open Go.IntKind renaming i64 → zm
open Go.Obj renaming cells → zn
open Go.Ending renaming returned → zo
open Option renaming none → zp, some → zq
open Bool renaming true → zt, false → zu
open Go renaming World → zA, Calls → zC
open Go.RowKit renaming Below → zB, intOf → zL
open Go.Lib renaming decDigits → zD
open Go.Proofs.Tryz renaming prog → zF
open Go.World renaming alloc_heap_new → zG
open Go.IntWalk renaming i64_in → zI
open Go.Joins renaming cell_of_block → zJ, block_setCell → zK
open Go.RowKit.Below renaming refl → zM, heap_setCell → yE
open Nat renaming le_refl → zN, le_trans → zO, zero_le → zR, mul_comm → yP
open List renaming getElem?_eq_getElem → yB, mem_cons_self → yD
namespace Go.Proofs.YtjmljcdbjakefaaGreatDoor
section
structure Hq where
 a:Rat
 b:Rat
 c:Rat
 d:Rat
structure Pq where
 x:Rat
 y:Rat
 z:Rat
def Hq.v (h:Hq) (p:Pq):Rat:=p.x*h.a+p.y*h.b+p.z*h.c-h.d
def Hq.s (h:Hq) (p:Pq):Int:=Geo.cmpR (h.v p) 0
def crX1 (u v:Hq):Rat:=u.b*v.c-u.c*v.b
def crX2 (u v:Hq):Rat:=u.c*v.a-u.a*v.c
def crX3 (u v:Hq):Rat:=u.a*v.b-u.b*v.a
def detQ (h k m:Hq):Rat:=h.a*crX1 k m+h.b*crX2 k m+h.c*crX3 k m
def corQ (h k m:Hq):Pq:=
 ⟨h.d*(crX1 k m*(1/detQ h k m))+k.d*(crX1 m h*(1/detQ h k m))+m.d*(crX1 h k*(1/detQ h k m)),
  h.d*(crX2 k m*(1/detQ h k m))+k.d*(crX2 m h*(1/detQ h k m))+m.d*(crX2 h k*(1/detQ h k m)),
  h.d*(crX3 k m*(1/detQ h k m))+k.d*(crX3 m h*(1/detQ h k m))+m.d*(crX3 h k*(1/detQ h k m))⟩
def inQ (s:List Hq) (p:Pq):Bool:=s.all λh=>decide (h.s p<=0)
def ordQ (p q:Pq):Int:=if Geo.cmpR p.x q.x≠0 then Geo.cmpR p.x q.x else if Geo.cmpR p.y q.y≠0 then Geo.cmpR p.y q.y else Geo.cmpR p.z q.z
def putQ:List Pq->Pq->List Pq
 |[],q=>[q]
 |p::l,q=>if ordQ p q=0 then p::l else if 0<ordQ p q then q::p::l else p::putQ l q
def addQ (s:List Hq) (l:List Pq) (t:Hq×Hq×Hq):List Pq:=if detQ t.1 t.2.1 t.2.2=0 then l else if inQ s (corQ t.1 t.2.1 t.2.2)=zt then putQ l (corQ t.1 t.2.1 t.2.2) else l
def za4 (s:List Hq) (T:List (Hq×Hq×Hq)):List Pq:=T.foldl (addQ s) []
def empQ (s:List Hq) (l:List Pq):Bool:=decide (l=[])||s.any λh=>l.all λp=>decide (h.s p=0)
theorem cmp0 {a b:Rat}:Geo.cmpR a b=0↔a=b:=by
 rcases Geo.zaw a b with⟨h,e⟩|⟨h,e⟩|⟨h,e⟩<;>rw[e]
 ·exact⟨λh=>by omega,λk=>by grind⟩
 ·exact⟨λ_=>h,λ_=>rfl⟩
 ·exact⟨λh=>by omega,λk=>by grind⟩
theorem zqf {a b:Rat}:Geo.cmpR a b<=0↔a<=b:=by
 rcases Geo.zaw a b with⟨h,e⟩|⟨h,e⟩|⟨h,e⟩<;>rw[e]
 ·exact⟨λ_=>by grind,λ_=>by omega⟩
 ·exact⟨λ_=>by grind,λ_=>by omega⟩
 ·exact⟨λh=>by omega,λk=>by grind⟩
theorem ord0 {p q:Pq}:ordQ p q=0↔p=q:=by
 unfold ordQ;constructor
 ·intro a
  by_cases h1:Geo.cmpR p.x q.x≠0
  ·rw[if_pos h1] at a;exact(h1 a).elim
  ·rw[if_neg h1] at a
   by_cases h2:Geo.cmpR p.y q.y≠0
   ·rw[if_pos h2] at a;exact(h2 a).elim
   ·rw[if_neg h2] at a
    have b:=cmp0.1 (Classical.not_not.1 h1);have c:=cmp0.1 (Classical.not_not.1 h2);have d:=cmp0.1 a;cases p;cases q;simp_all
 ·rintro rfl
  rw[if_neg (by simp[cmp0]),if_neg (by simp[cmp0])];exact cmp0.2 rfl
theorem yel {q r:Pq}:∀{l:List Pq},r∈putQ l q↔r∈l\/r=q
 |[]=>by simp[putQ]
 |c::l=>by
  unfold putQ;by_cases a:ordQ c q=0
  ·rw[if_pos a]
   have:=ord0.1 a;subst this;constructor
   ·exact .inl
   ·rintro(a|rfl)
    ·exact a
    ·exact yD
  ·rw[if_neg a]
   by_cases h2:0<ordQ c q
   ·rw[if_pos h2]
    constructor
    ·intro a;rcases List.mem_cons.1 a with a|a
     ·exact .inr a
     ·exact .inl a
    ·rintro(a|a)
     ·exact List.mem_cons_of_mem _ a
     ·rw[a];exact yD
   ·rw[if_neg h2]
    have b:=yel (q:=q) (r:=r) (l:=l);constructor
    ·intro a;rcases List.mem_cons.1 a with a|a
     ·rw[a];exact .inl yD
     ·rcases b.1 a with a|a
      ·exact .inl (List.mem_cons_of_mem _ a)
      ·exact .inr a
    ·rintro(a|a)
     ·rcases List.mem_cons.1 a with a|a
      ·rw[a];exact yD
      ·exact List.mem_cons_of_mem _ (b.2 (.inl a))
     ·exact List.mem_cons_of_mem _ (b.2 (.inr a))
theorem yem {s:List Hq} {l:List Pq} {t:Hq×Hq×Hq} {r:Pq}:r∈addQ s l t↔r∈l\/(detQ t.1 t.2.1 t.2.2≠0/\inQ s r=zt/\r=corQ t.1 t.2.1 t.2.2):=by
 unfold addQ;by_cases h:detQ t.1 t.2.1 t.2.2=0
 ·rw[if_pos h];exact⟨.inl,λk=>k.elim id λk=>(k.1 h).elim⟩
 ·rw[if_neg h]
  by_cases k:inQ s (corQ t.1 t.2.1 t.2.2)=zt
  ·rw[if_pos k,yel]
   exact⟨λm=>m.imp id λe=>⟨h,by rw[e];exact k,e⟩,λm=>m.imp id λe=>e.2.2⟩
  ·rw[if_neg k]
   exact⟨.inl,λm=>m.elim id λe=>(k (by rw[<-e.2.2];exact e.2.1)).elim⟩
theorem zzr {s:List Hq} {r:Pq}:∀{T:List (Hq×Hq×Hq)} {l:List Pq},r∈T.foldl (addQ s) l↔r∈l\/∃t∈T,detQ t.1 t.2.1 t.2.2≠0/\inQ s r=zt/\r=corQ t.1 t.2.1 t.2.2
 |[],l=>by simp
 |t::T,l=>by
  rw[List.foldl_cons,zzr,yem];simp only[List.mem_cons,exists_eq_or_imp];exact or_assoc
theorem zgy {s:List Hq} {T:List (Hq×Hq×Hq)} {r:Pq}:r∈za4 s T↔∃t∈T,detQ t.1 t.2.1 t.2.2≠0/\inQ s r=zt/\r=corQ t.1 t.2.1 t.2.2:=by
 unfold za4;rw[zzr];simp
theorem zlk {c:List Hq} {p:Pq}:inQ c p=zt↔∀h∈c,h.v p<=0:=by
 unfold inQ;rw[List.all_eq_true];exact⟨λb h a=>zqf.1 (of_decide_eq_true (b h a)),λb h a=>decide_eq_true (zqf.2 (b h a))⟩
theorem yjr {h k m:Hq} (d:detQ h k m≠0) {p:Pq} (b:h.v p=0) (e:k.v p=0) (f:m.v p=0):p=corQ h k m:=by
 obtain⟨a,c⟩:∃a,a=1/detQ h k m:=⟨_,rfl⟩;have n:detQ h k m*a=1:=by rw[c];grind
 unfold corQ;rw[<-c]
 cases p with
 |mk g i j=>
  unfold Hq.v at b e f;dsimp only at b e f;have o:h.d*crX1 k m+k.d*crX1 m h+m.d*crX1 h k=g*detQ h k m:=by unfold detQ crX1 crX2 crX3;grind
  have q:h.d*crX2 k m+k.d*crX2 m h+m.d*crX2 h k=i*detQ h k m:=by unfold detQ crX1 crX2 crX3;grind
  have r:h.d*crX3 k m+k.d*crX3 m h+m.d*crX3 h k=j*detQ h k m:=by unfold detQ crX1 crX2 crX3;grind
  generalize detQ h k m=l at*
  rw[Pq.mk.injEq];refine⟨?_,?_,?_⟩<;>grind
theorem ygr {c:List Hq} {l:List Pq} {p q:Pq} (b:p∈l) (e:q∈l) (h:∀h∈c,¬(h.v p=0/\h.v q=0)):empQ c l=zu:=by
 unfold empQ;rw[Bool.or_eq_false_iff];refine⟨decide_eq_false λa=>(by rw[a] at b;cases b),?_⟩;rw[List.any_eq_false];intro f d a;rw[List.all_eq_true] at a;exact h f d ⟨cmp0.1 (of_decide_eq_true (a p b)),cmp0.1 (of_decide_eq_true (a q e))⟩
theorem yid {a:List Hq} {d:List (Hq×Hq×Hq)} {h k:Hq} (b:h∈a) (g:k∈a) (e:∀p,k.v p= -(h.v p)):empQ a (za4 a d)=zt:=by
 unfold empQ;rw[Bool.or_eq_true];refine .inr ?_;rw[List.any_eq_true];refine⟨h,b,?_⟩;rw[List.all_eq_true];intro p i;obtain⟨l, -, -,c, -⟩:=zgy.1 i;have j:=zlk.1 c h b;have f:=zlk.1 c k g;rw[e] at f;exact decide_eq_true (cmp0.2 (by grind))
theorem ygs {a:List Hq} {c:List (Hq×Hq×Hq)} {h k:Hq} (d:h∈a) (f:k∈a) (e:∀p,0<h.v p+k.v p):za4 a c=[]:=by
 refine List.eq_nil_iff_forall_not_mem.2 λp g=>?_;obtain⟨l, -, -,b, -⟩:=zgy.1 g;have i:=zlk.1 b h d;have j:=zlk.1 b k f;have:=e p;grind
def tr2 {α:Type}:List α->List (α×α)
 |[]=>[]
 |h::s=>s.map (λk=>(h,k))++tr2 s
def tr3 {α:Type}:List α->List (α×α×α)
 |[]=>[]
 |h::s=>(tr2 s).map (λk=>(h,k))++tr3 s
theorem yen {α:Type} {h k:α}:∀{s:List α},[h,k].Sublist s->(h,k)∈tr2 s
 |[],e=>by cases e
 |x::s,e=>by
  unfold tr2;rw[List.mem_append]
  cases e with
  |cons _ e=>exact .inr (yen e)
  |cons_cons _ e=>exact .inl (List.mem_map.2 ⟨k,by simpa using e,rfl⟩)
theorem yeo {α:Type} {h k m:α}:∀{s:List α},[h,k,m].Sublist s->(h,k,m)∈tr3 s
 |[],e=>by cases e
 |x::s,e=>by
  unfold tr3;rw[List.mem_append]
  cases e with
  |cons _ e=>exact .inr (yeo e)
  |cons_cons _ e=>exact .inl (List.mem_map.2 ⟨(k,m),yen e,rfl⟩)
theorem yk0 {a:List Hq} {p:Pq} (d:inQ a p=zt) {h k m:Hq} (e:[h,k,m].Sublist a) (b:detQ h k m≠0) (c:h.v p=0) (f:k.v p=0) (g:m.v p=0):p∈za4 a (tr3 a):=
 zgy.2 ⟨(h,k,m),yeo e,b,d,yjr b c f g⟩
def boxH (l u:Pq):List Hq:=[⟨-1,0,0, -l.x⟩,⟨1,0,0,u.x⟩,⟨0, -1,0, -l.y⟩,⟨0,1,0,u.y⟩,⟨0,0, -1, -l.z⟩,⟨0,0,1,u.z⟩]
def ltP (p q:Pq):Prop:=p.x<q.x/\p.y<q.y/\p.z<q.z
def leP (p q:Pq):Prop:=p.x<=q.x/\p.y<=q.y/\p.z<=q.z
theorem zzt {l u p:Pq}:(∀h∈boxH l u,h.v p<=0)↔leP l p/\leP p u:=by
 unfold boxH leP Hq.v;simp only[List.forall_mem_cons,List.not_mem_nil,false_imp_iff,implies_true];grind
theorem zzu {l u a b p:Pq}:inQ (boxH l u++boxH a b) p=zt↔(leP l p/\leP p u)/\leP a p/\leP p b:=by
 rw[zlk,List.forall_mem_append,zzt,zzt]
def fx (e d:Rat):Hq:=⟨e,0,0,d⟩
def fy (e d:Rat):Hq:=⟨0,e,0,d⟩
def fz (e d:Rat):Hq:=⟨0,0,e,d⟩
theorem zmy (l u:Pq):boxH l u=[fx (-1) (-l.x),fx 1 u.x,fy (-1) (-l.y),fy 1 u.y,fz (-1) (-l.z),fz 1 u.z]:=rfl
theorem ye9 {α:Type} {a b x y:α} (h:[a,b].Perm [x,y]):(a=x/\b=y)\/(a=y/\b=x):=by
 have ha:=h.mem_iff.1 (show a∈[a,b] by simp);simp only[List.mem_cons,List.not_mem_nil,or_false] at ha;rcases ha with rfl|rfl
 ·exact .inl ⟨rfl,by simpa using(List.perm_cons _).1 h⟩
 ·have c:=(List.perm_cons _).1 (h.trans (List.Perm.swap _ _ _))
  exact .inr ⟨rfl,by simpa using c⟩
theorem zlw {j:List Hq} {p:Pq} (r:inQ j p=zt) {e f g:Rat} (v:e*e=1) (w:f*f=1) (x:g*g=1) {h k m:Hq} (t:[h,k,m].Sublist j)
 (a:[h,k,m].Perm [fx e (p.x*e),fy f (p.y*f),fz g (p.z*g)]):p∈za4 j (tr3 j):=by
 have l:∀n∈[h,k,m],n.v p=0:=λn s=>by
  have:=a.mem_iff.1 s;simp only[List.mem_cons,List.not_mem_nil,or_false] at this;rcases this with rfl|rfl|rfl
  ·show p.x*e+p.y*0+p.z*0-p.x*e=0;grind
  ·show p.x*0+p.y*f+p.z*0-p.y*f=0;grind
  ·show p.x*0+p.y*0+p.z*g-p.z*g=0;grind
 refine yk0 r t ?_ (l _ (by simp)) (l _ (by simp)) (l _ (by simp));have o:(e*f*g)*(e*f*g)=1:=by grind
 have q:e*f*g≠0:=λh=>by rw[h] at o;grind
 have u: -(e*f*g)≠0:=λh=>q (by grind);have cases:∀b c d:Hq,[b,c,d].Perm [fx e (p.x*e),fy f (p.y*f),fz g (p.z*g)]->detQ b c d=e*f*g\/detQ b c d= -(e*f*g):=by
  intro b c d a;have ha:=a.mem_iff.1 (show b∈[b,c,d] by simp);simp only[List.mem_cons,List.not_mem_nil,or_false] at ha;rcases ha with rfl|rfl|rfl
  ·have i:=(List.perm_cons _).1 a
   rcases ye9 i with⟨rfl,rfl⟩|⟨rfl,rfl⟩
   ·left;unfold detQ crX1 crX2 crX3 fx fy fz;grind
   ·right;unfold detQ crX1 crX2 crX3 fx fy fz;grind
  ·have i:=(List.perm_cons _).1 (a.trans (List.Perm.swap _ _ _))
   rcases ye9 i with⟨rfl,rfl⟩|⟨rfl,rfl⟩
   ·right;unfold detQ crX1 crX2 crX3 fx fy fz;grind
   ·left;unfold detQ crX1 crX2 crX3 fx fy fz;grind
  ·have i:=(List.perm_cons _).1 (a.trans ((List.Perm.cons _ (List.Perm.swap _ _ _)).trans (List.Perm.swap _ _ _)))
   rcases ye9 i with⟨rfl,rfl⟩|⟨rfl,rfl⟩
   ·left;unfold detQ crX1 crX2 crX3 fx fy fz;grind
   ·right;unfold detQ crX1 crX2 crX3 fx fy fz;grind
 rcases cases h k m a with e|e<;>rw[e]<;>assumption
theorem yjn {i B:List Hq} {a b c j b' l x y z:Hq} (n:[a,b,c].Sublist i) (o:[j,b',l].Sublist B) (w:x=a\/x=j) (hy:y=b\/y=b') (A:z=c\/z=l):
 ∃h k m,[h,k,m].Sublist (i++B)/\[h,k,m].Perm [x,y,z]:=by
 have p:∀{d e f:Hq} {g:List Hq},[d,e,f].Sublist g->([d,e].Sublist g/\[d,f].Sublist g/\[e,f].Sublist g)/\[d].Sublist g/\[e].Sublist g/\[f].Sublist g:=λ{d e f g} h=>
  ⟨⟨(show[d,e].Sublist [d,e,f] by simp).trans h,(show[d,f].Sublist [d,e,f] by simp).trans h,(show[e,f].Sublist [d,e,f] by simp).trans h⟩,
    (show[d].Sublist [d,e,f] by simp).trans h,(show[e].Sublist [d,e,f] by simp).trans h,(show[f].Sublist [d,e,f] by simp).trans h⟩
 obtain⟨⟨q,s,u⟩,C,E,G⟩:=p n;obtain⟨⟨r,t,v⟩,D,F,H⟩:=p o;rcases w with rfl|rfl<;>rcases hy with rfl|rfl<;>rcases A with rfl|rfl
 ·exact⟨_,_,_,n.trans (List.sublist_append_left _ _),.refl _⟩
 ·exact⟨_,_,_,q.append H,.refl _⟩
 ·exact⟨_,_,_,s.append F,.cons _ (.swap _ _ _)⟩
 ·exact⟨_,_,_,C.append v,.refl _⟩
 ·exact⟨_,_,_,u.append D,((List.Perm.cons _ (.swap _ _ _)).trans (.swap _ _ _))⟩
 ·exact⟨_,_,_,E.append t,.swap _ _ _⟩
 ·exact⟨_,_,_,G.append r,((List.Perm.swap _ _ _).trans (.cons _ (.swap _ _ _)))⟩
 ·exact⟨_,_,_,o.trans (List.sublist_append_right _ _),.refl _⟩
theorem zhf (l u:Pq):[fx (-1) (-l.x),fy (-1) (-l.y),fz (-1) (-l.z)].Sublist (boxH l u)/\[fx 1 u.x,fy 1 u.y,fz 1 u.z].Sublist (boxH l u):=by
 rw[zmy];exact⟨by simp,by simp⟩
def hi2 (a b:Rat):Rat:=if b<=a then a else b
def lo2 (a b:Rat):Rat:=if a<=b then a else b
theorem zjl (a b:Rat):hi2 a b=a\/hi2 a b=b:=by unfold hi2;split<;>simp
theorem zjm (a b:Rat):lo2 a b=a\/lo2 a b=b:=by unfold lo2;split<;>simp
theorem zll (a b:Rat):a<=hi2 a b/\b<=hi2 a b:=by unfold hi2;split<;>grind
theorem zlm (a b:Rat):lo2 a b<=a/\lo2 a b<=b:=by unfold lo2;split<;>grind
def hiP (p q:Pq):Pq:=⟨hi2 p.x q.x,hi2 p.y q.y,hi2 p.z q.z⟩
def loP (p q:Pq):Pq:=⟨lo2 p.x q.x,lo2 p.y q.y,lo2 p.z q.z⟩
theorem yep {l u c d:Pq} (h:leP (hiP l c) (loP u d)):hiP l c∈za4 (boxH l u++boxH c d) (tr3 (boxH l u++boxH c d)):=by
 obtain⟨r,s,t⟩:=h;have a1:=zll l.x c.x;have j:=zll l.y c.y;have k:=zll l.z c.z;have p:=zlm u.x d.x;have b2:=zlm u.y d.y;have q:=zlm u.z d.z;have m:inQ (boxH l u++boxH c d) (hiP l c)=zt:=by
  rw[zzu];unfold leP hiP loP at*
  dsimp only at*
  exact⟨⟨⟨a1.1,j.1,k.1⟩,by grind,by grind,by grind⟩,⟨a1.2,j.2,k.2⟩,by grind,by grind,by grind⟩
 have i:∀{a b:Rat} (e:Rat->Rat->Hq),(e (-1) (hi2 a b* -1)=e (-1) (-a))\/(e (-1) (hi2 a b* -1)=e (-1) (-b)):=λ{a b} e=>by
  rcases zjl a b with f|f<;>rw[f]
  ·left;congr 1;grind
  ·right;congr 1;grind
 obtain⟨h,v,w,o,n⟩:=yjn (zhf l u).1 (zhf c d).1 (i (a:=l.x) (b:=c.x) fx) (i (a:=l.y) (b:=c.y) fy) (i (a:=l.z) (b:=c.z) fz);exact zlw m (e:= -1) (f:= -1) (g:= -1) (by grind) (by grind) (by grind) o n
theorem yie {l u d c:Pq} (h:leP (hiP l d) (loP u c)):loP u c∈za4 (boxH l u++boxH d c) (tr3 (boxH l u++boxH d c)):=by
 obtain⟨r,s,t⟩:=h;have a1:=zll l.x d.x;have p:=zll l.y d.y;have q:=zll l.z d.z;have j:=zlm u.x c.x;have b2:=zlm u.y c.y;have k:=zlm u.z c.z;have m:inQ (boxH l u++boxH d c) (loP u c)=zt:=by
  rw[zzu];unfold leP hiP loP at*
  dsimp only at*
  exact⟨⟨⟨by grind,by grind,by grind⟩,j.1,b2.1,k.1⟩,⟨by grind,by grind,by grind⟩,j.2,b2.2,k.2⟩
 have i:∀{a b:Rat} (e:Rat->Rat->Hq),(e 1 (lo2 a b*1)=e 1 a)\/(e 1 (lo2 a b*1)=e 1 b):=λ{a b} e=>by
  rcases zjm a b with f|f<;>rw[f]
  ·left;congr 1;grind
  ·right;congr 1;grind
 obtain⟨h,v,w,o,n⟩:=yjn (zhf l u).2 (zhf d c).2 (i (a:=u.x) (b:=c.x) fx) (i (a:=u.y) (b:=c.y) fy) (i (a:=u.z) (b:=c.z) fz);exact zlw m (e:=1) (f:=1) (g:=1) (by grind) (by grind) (by grind) o n
theorem zpd {l u b c:Pq} (h:ltP (hiP l b) (loP u c)):empQ (boxH l u++boxH b c) (za4 (boxH l u++boxH b c) (tr3 (boxH l u++boxH b c)))=zu:=by
 have f:leP (hiP l b) (loP u c):=⟨Rat.le_of_lt h.1,Rat.le_of_lt h.2.1,Rat.le_of_lt h.2.2⟩;refine ygr (yep f) (yie f) λg a e=>?_;obtain⟨i,j,k⟩:=h;generalize hiP l b=m at*
 generalize loP u c=n at*
 have d:∀l u:Pq,g∈boxH l u->False:=λl u a=>by
  unfold boxH at a;simp only[List.mem_cons,List.not_mem_nil,or_false] at a;unfold Hq.v at e;rcases a with rfl|rfl|rfl|rfl|rfl|rfl<;>(dsimp only at e;grind)
 rcases List.mem_append.1 a with a|a
 ·exact d _ _ a
 ·exact d _ _ a
theorem zvu {l u a b:Pq} (h:¬ltP (hiP l a) (loP u b)) (H:ltP l u) (I:ltP a b):empQ (boxH l u++boxH a b) (za4 (boxH l u++boxH a b) (tr3 (boxH l u++boxH a b)))=zt:=by
 obtain⟨f,y⟩:∃f,f=boxH l u++boxH a b:=⟨_,rfl⟩;have i:∀h∈f,∀g∈f,(∃m:Rat,0<=m/\∀d,h.v d+g.v d=m)->empQ f (za4 f (tr3 f))=zt:=λh x g k ⟨m,K,j⟩=>by
  by_cases z:m=0
  ·exact yid x k λd=>by have:=j d;grind
  ·rw[ygs x k λd=>by rw[j d];grind]
   unfold empQ;simp
 rw[<-y];have c:∀g,g∈boxH l u\/g∈boxH a b->g∈f:=λg k=>by rw[y];exact List.mem_append.2 k
 have G:(b.x<=l.x\/b.y<=l.y\/b.z<=l.z)\/(u.x<=a.x\/u.y<=a.y\/u.z<=a.z):=by
  refine Classical.byContradiction λJ=>h ?_;obtain⟨a1,n,o⟩:=H;obtain⟨p,b2,q⟩:=I;unfold ltP hiP loP;dsimp only;rcases zjl l.x a.x with j|j<;>rcases zjm u.x b.x with r|r<;>rcases zjl l.y a.y with s|s<;>rcases zjm u.y b.y with t|t<;>rcases zjl l.z a.z with e|e<;>rcases zjm u.z b.z with w|w<;>rw[j,r,s,t,e,w]<;>grind
 have v:∀(l u:Pq),fx (-1) (-l.x)∈boxH l u/\fx 1 u.x∈boxH l u/\fy (-1) (-l.y)∈boxH l u/\fy 1 u.y∈boxH l u/\fz (-1) (-l.z)∈boxH l u/\fz 1 u.z∈boxH l u:=λl u=>by rw[zmy];simp
 obtain⟨a1,n,o,A,B,C⟩:=v l u;obtain⟨p,b2,q,D,E,F⟩:=v a b;rcases G with(e|e|e)|e|e|e
 ·exact i _ (c _ (.inl a1)) _ (c _ (.inr b2)) ⟨l.x-b.x,by grind,λd=>by unfold Hq.v fx;dsimp only;grind⟩
 ·exact i _ (c _ (.inl o)) _ (c _ (.inr D)) ⟨l.y-b.y,by grind,λd=>by unfold Hq.v fy;dsimp only;grind⟩
 ·exact i _ (c _ (.inl B)) _ (c _ (.inr F)) ⟨l.z-b.z,by grind,λd=>by unfold Hq.v fz;dsimp only;grind⟩
 ·exact i _ (c _ (.inr p)) _ (c _ (.inl n)) ⟨a.x-u.x,by grind,λd=>by unfold Hq.v fx;dsimp only;grind⟩
 ·exact i _ (c _ (.inr q)) _ (c _ (.inl A)) ⟨a.y-u.y,by grind,λd=>by unfold Hq.v fy;dsimp only;grind⟩
 ·exact i _ (c _ (.inr E)) _ (c _ (.inl C)) ⟨a.z-u.z,by grind,λd=>by unfold Hq.v fz;dsimp only;grind⟩
theorem ygt {l u c d:Pq}:za4 (boxH l u++boxH c d) (tr3 (boxH l u++boxH c d))≠[]↔leP (hiP l c) (loP u d):=by
 constructor
 ·intro e
  obtain⟨q,g⟩:=List.exists_mem_of_ne_nil _ e;obtain⟨r, -, -,f, -⟩:=zgy.1 g;obtain⟨⟨⟨a1,h,i⟩,j,b2,k⟩,⟨c1,c2,m⟩,n,o,p⟩:=zzu.1 f;unfold leP hiP loP;dsimp only;refine⟨?_,?_,?_⟩
  ·rcases zjl l.x c.x with a|a<;>rcases zjm u.x d.x with b|b<;>rw[a,b]<;>grind
  ·rcases zjl l.y c.y with a|a<;>rcases zjm u.y d.y with b|b<;>rw[a,b]<;>grind
  ·rcases zjl l.z c.z with a|a<;>rcases zjm u.z d.z with b|b<;>rw[a,b]<;>grind
 ·intro e a
  have:=yep e;rw[a] at this;cases this
theorem ygu {l u p:Pq}:inQ (boxH l u) p=zt↔leP l p/\leP p u:=by rw[zlk,zzt]
theorem zft {l u:Pq} (h:ltP l u):empQ (boxH l u) (za4 (boxH l u) (tr3 (boxH l u)))=zu:=by
 have i:leP l u:=⟨Rat.le_of_lt h.1,Rat.le_of_lt h.2.1,Rat.le_of_lt h.2.2⟩;have e:∀a:Rat,a* -1= -a:=λa=>by grind
 have d:∀a:Rat,a*1=a:=λa=>by grind
 have c1:l∈za4 (boxH l u) (tr3 (boxH l u)):=zlw (ygu.2 ⟨⟨Rat.le_refl,Rat.le_refl,Rat.le_refl⟩,i⟩) (e:= -1) (f:= -1) (g:= -1) (by grind) (by grind) (by grind) (zhf l u).1 (by rw[e,e,e]);have c2:u∈za4 (boxH l u) (tr3 (boxH l u)):=zlw (ygu.2 ⟨i,Rat.le_refl,Rat.le_refl,Rat.le_refl⟩) (e:=1) (f:=1) (g:=1) (by grind) (by grind) (by grind) (zhf l u).2 (by rw[d,d,d]);refine ygr c1 c2 λn c b=>?_;obtain⟨j,k,m⟩:=h;unfold boxH at c;simp only[List.mem_cons,List.not_mem_nil,or_false] at c;unfold Hq.v at b;rcases c with rfl|rfl|rfl|rfl|rfl|rfl<;>(dsimp only at b;grind)
def dotQ (h:Hq) (v:Pq):Rat:=h.a*v.x+h.b*v.y+h.c*v.z
def crQ (h k:Hq):Pq:=⟨crX1 h k,crX2 h k,crX3 h k⟩
def zjh (v:Pq):Prop:=v.x=0/\v.y=0/\v.z=0
theorem yif {a:List Hq} {l u:Pq} (d:∀h∈boxH l u,h∈a) {v:Pq} (C:¬zjh v):(∃h∈a,0<dotQ h v)/\∃h∈a,dotQ h v<0:=by
 have A:fx (-1) (-l.x)∈a/\fx 1 u.x∈a/\fy (-1) (-l.y)∈a/\fy 1 u.y∈a/\fz (-1) (-l.z)∈a/\fz 1 u.z∈a:=by
  rw[zmy] at d;refine⟨d _ ?_,d _ ?_,d _ ?_,d _ ?_,d _ ?_,d _ ?_⟩<;>simp
 obtain⟨a1,q,r,s,t,w⟩:=A;have i:∀b c,dotQ (fx b c) v=b*v.x:=λb c=>by unfold dotQ fx;dsimp only;grind
 have j:∀b c,dotQ (fy b c) v=b*v.y:=λb c=>by unfold dotQ fy;dsimp only;grind
 have k:∀b c,dotQ (fz b c) v=b*v.z:=λb c=>by unfold dotQ fz;dsimp only;grind
 have g:∀(e:Rat) (h f:Hq),e≠0->h∈a->f∈a->dotQ h v=1*e->dotQ f v= -1*e->(∃h∈a,0<dotQ h v)/\∃h∈a,dotQ h v<0:=λe h f D o p m n=>by
  rcases(show 0<e\/e<0 by grind) with B|B
  ·exact⟨⟨h,o,by rw[m];grind⟩,f,p,by rw[n];grind⟩
  ·exact⟨⟨f,p,by rw[n];grind⟩,h,o,by rw[m];grind⟩
 by_cases x:v.x=0
 ·by_cases y:v.y=0
  ·by_cases z:v.z=0
   ·exact(C ⟨x,y,z⟩).elim
   ·exact g _ _ _ z w t (k 1 _) (k (-1) _)
  ·exact g _ _ _ y s r (j 1 _) (j (-1) _)
 ·exact g _ _ _ x q a1 (i 1 _) (i (-1) _)
def getP (l:List Pq) (i:Nat):Pq:=l[i]?.getD ⟨0,0,0⟩
def onQ (h:Hq) (l:List Pq):List Nat:=(List.range l.length).filter λi=>decide (h.s (getP l i)=0)
def zdi (v:Pq):Bool:=decide (v.x=0)&&decide (v.y=0)&&decide (v.z=0)
def zkj (h k:Hq):Bool:=zdi (crQ h k)&&decide (0<h.a*k.a+h.b*k.b+h.c*k.c)&&decide (h.d*(k.a*k.a+k.b*k.b+k.c*k.c)=k.d*(h.a*k.a+h.b*k.b+h.c*k.c))
def zj1 (v p q:Pq):Int:=
 if v.x≠0 then(if v.x<0 then-Geo.cmpR p.x q.x else Geo.cmpR p.x q.x) else if v.y≠0 then(if v.y<0 then-Geo.cmpR p.y q.y else Geo.cmpR p.y q.y) else(if v.z<0 then-Geo.cmpR p.z q.z else Geo.cmpR p.z q.z)
def folQ (h:Hq) (l:List Pq) (own:List Nat):List (Hq×List Nat)->List (Nat×Nat)->List (Nat×Nat)
 |[],m=>m
 |(k,on)::r,m=>folQ h l own r (if zdi (crQ h k)=zt then m else match own.filter (λn=>on.contains n) with
  |[a,b]=>(if 0<zj1 (crQ h k) (getP l a) (getP l b) then(b,a) else(a,b))::m
  |_=>m)
def zk8 (m:List (Nat×Nat)) (first most:Nat):Nat->List Nat->Option Nat->List Nat
 |0,out,_=>out
 |f+1,out,zq n=>if n≠first/\out.length<most then zk8 m first most f (out++[n]) (m.lookup n) else out
 |_+1,out,none=>out
def zqh (s:List Hq) (l:List Pq) (i:Nat):List Nat:=
 match s[i]? with
 |none=>[]
 |some h=>
  if((s.take i).any λk=>zkj k h)||decide ((onQ h l).length<3) then[] else
   zk8 (folQ h l (onQ h l) (s.map λk=>(k,onQ k l)) []) ((onQ h l).headD 0) (onQ h l).length (onQ h l).length [(onQ h l).headD 0] ((folQ h l (onQ h l) (s.map λk=>(k,onQ k l)) []).lookup ((onQ h l).headD 0))
def triQ (f:List Nat):List (Nat×Nat×Nat):=(List.range (f.length-2)).map λi=>(f.headD 0,f[i+1]?.getD 0,f[i+2]?.getD 0)
def zc1 (a b:Rat):List Hq:=boxH ⟨a,a,a⟩ ⟨b,b,b⟩
def cbS:List Hq:=zc1 0 2++zc1 1 3
def cbL:List Pq:=[⟨1,1,1⟩,⟨1,1,2⟩,⟨1,2,1⟩,⟨1,2,2⟩,⟨2,1,1⟩,⟨2,1,2⟩,⟨2,2,1⟩,⟨2,2,2⟩]
theorem yeq:za4 cbS (tr3 cbS)=cbL:=by
 have e:(za4 cbS (tr3 cbS)).map (λp=>(p.x,p.y,p.z))=cbL.map (λp=>(p.x,p.y,p.z)):=by decide+kernel
 exact(List.map_inj_right (f:=λp:Pq=>(p.x,p.y,p.z)) λp q h=>by cases p;cases q;simpa using h).1 e
end
section
open Go.RowKit Go.Shelf Lib Str Limb
attribute [local go_sem] Oper.semAt_some
theorem zc5 (n:Nat):numS ((n:Int):Rat)=zD n:=by rw[zha,Str.zad]
theorem zfg:zD 1=[49]:=by rw[zae (by omega)];rfl
theorem ygv:Lib.itoa 1=[49]:=by show Lib.itoa ((1:Nat):Int)=_;rw[Str.zad,zfg]
theorem zfc:numS 1=[49]:=by have:=zc5 1;rw[zfg] at this;exact this
theorem zqi:okQ 1:=⟨by show(zD 1).length<=300;rw[zfg];decide,by show(zD 1).length<=300;rw[zfg];decide⟩
theorem sz_1:sz 1 1:=⟨by decide,by decide⟩
theorem zvv (w:zA) (hw:Wd w):
 qJ 247 #[z8 ⟨#[49]⟩] w (ze #[z8 ⟨#[49]⟩,zg zt]):=by
 have i:Hid (qK 243 #[z8 ⟨#[49]⟩] (ze #[zj zm 1,zg zt])):=
  hid λa b=>by have:=zk7 1 (by rw[zfg];decide) a b;rw[zfg] at this;exact this
 have h:Hid (qK 47 #[zj zm 1] (z8 ⟨#[49]⟩)):=
  hid λa b=>by have:=zb3 1 (by omega) (by omega) a b;rw[ygv] at this;exact this
 have d:=hid hw;clear hw;go_enter Tryz.func247,Tryz.ntmps247;go_wp21;refine zzM (i w d.out) λg c=>?_;go_wp21;refine zzM (zrw g) λl f=>?_;have k:=f.symm;subst k;clear f;go_wp21;refine zzM (h g (d.below c)) λl e=>?_;have j:=c.trans (e.mono c.size);clear e;go_wp21;go_ret2;exact⟨rfl,j⟩
theorem zzv (w:zA) (hw:Wd w):
 qJ 248 #[z8 ⟨#[49]⟩,z8 ⟨#[49]⟩] w (z8 ⟨#[49]⟩):=by
 have a:=zoj 1 1 (by decide) 1 1 (by omega) (by omega) (by omega) sz_1 sz_1 w hw;rw[show((1:Rat)/1)=1 by grind,zfc] at a;have b:=hid a;clear a;go_enter Tryz.func248,Tryz.ntmps248;go_wp21;refine zzM b.out λd c=>?_;go_wp21;go_ret;exact⟨rfl,c⟩
theorem zry (w:zA) (hw:Wd w):
 qJ 205 #[zh #[z8 ⟨#[49]⟩,z8 ⟨#[49]⟩]] w (ze #[z8 ⟨#[49]⟩,zg zt]):=by
 obtain⟨a,b⟩:=zzX (w.alloc (zn #[z8 ⟨#[49]⟩,z8 ⟨#[49]⟩] 285));have k:qL w a:=by rw[b];exact(zM _ w).alloc (zN _) _
 have d:a.heap[w.heap.size]? =zq (zn #[z8 ⟨#[49]⟩,z8 ⟨#[49]⟩] 285 (0,0)):=by rw[b];exact zG w _
 have g:a.cell? ⟨w.heap.size,0,zp⟩=zq (z8 ⟨#[49]⟩):=by rw[zJ d];rfl
 have a1:a.cell? ⟨w.heap.size,1,zp⟩=zq (z8 ⟨#[49]⟩):=by rw[zJ d];rfl
 have h:=hid (⟨g,a1⟩:a.cell? ⟨w.heap.size,0,zp⟩=zq (z8 ⟨#[49]⟩)/\a.cell? ⟨w.heap.size,1,zp⟩=zq (z8 ⟨#[49]⟩));have i:=hid k;rw[b] at g a1;have o:=hid b;have f:=hid hw;clear b k d hw;go_enter Tryz.func205,Tryz.ntmps205;go_wp21;rw[<-o.out];refine zzM (zvv a (f.below i.out)) λr c=>?_;have j:=qT i c;have p:=(zac c).cell h.1;have q:=(zac c).cell h.2;clear c g a1;go_wp21;refine zzM (zvv r (f.below j.out)) λs l=>?_;have e:=qT j l;clear l p q;go_wp21
 all_goals first|exact(zzU ‹_›).elim|skip
 refine zzM (zzv s (f.below e.out)) λt m=>?_;have n:=e.trans (m.mono e.size);clear m;go_wp21;go_ret2;exact⟨rfl,n⟩
theorem ydz (a:zA) (t:TypeId):
 RowNums (zq ⟨a.heap.size,0,zp⟩) 2 (λ_=>1) ((a.alloc (zn #[St [49],St [49]] t)).alloc (zn #[St [49],St [49]] t))/\
 RowNums (zq ⟨a.heap.size+1,0,zp⟩) 2 (λ_=>1) ((a.alloc (zn #[St [49],St [49]] t)).alloc (zn #[St [49],St [49]] t)):=by
 have e:=(Below.heap_alloc (a.alloc (zn #[St [49],St [49]] t)) (zn #[St [49],St [49]] t) a.heap.size (by simp)).trans (zG a (zn #[St [49],St [49]] t (0,0)));have d:=zG (a.alloc (zn #[St [49],St [49]] t)) (zn #[St [49],St [49]] t (0,0));rw[World.size_alloc] at d;constructor
 ·intro c b
  refine⟨_,_,rfl,?_⟩;rw[zfc,zJ e]
  match c,b with
  |0,_|1,_=>rfl
 ·intro c b
  refine⟨_,_,rfl,?_⟩;rw[zfc,zJ d]
  match c,b with
  |0,_|1,_=>rfl
theorem zvw (w:zA) (hw:Wd w):
 qJ 163 #[z8 ⟨#[49]⟩,z8 ⟨#[49]⟩] w (ze #[z8 ⟨#[49]⟩,zg zt,zj zm 0]):=by
 obtain⟨f,c⟩:=zzX ((w.alloc (zn #[St [49],St [49]] 22)).alloc (zn #[St [49],St [49]] 22));have g:qL w f:=by rw[c];exact((zM _ w).alloc (zN _) _).alloc (by simp) _
 have s:digs (1:Rat).num<=90/\(zD (1:Rat).den).length<=90:=⟨by show(zD 1).length<=90;rw[zfg];decide,by show(zD 1).length<=90;rw[zfg];decide⟩;obtain⟨h,i⟩:=ydz w 22;rw[<-c] at h i
 have r:=zji _ _ 2 2 2 2 (λ_=>1) (λ_=>1) (by omega) (by omega) (hid λ_ _ a b=>zfj 1 zqi a b) (hid λ_ _ a b=>zio 1 zqi a b) (hid λ_ _=>s)
  (hid λ_ _ a=>zma 1 (by decide) a) f (hid (hw.below g)) (hid h) (hid i)
 have l:=hid r;have x:Hid (qK 206 #[z8 ⟨#[49]⟩] (zh #[z8 ⟨#[49]⟩,z8 ⟨#[49]⟩])):=hid λa b=>by
  have:=zio 1 zqi a b;rw[zfc,show(1:Rat).num=1 from rfl,show(1:Rat).den=1 from rfl,ygv,zfg] at this;exact this
 have v:Hid (qK 122 #[z8 ⟨#[49]⟩,z8 ⟨#[49]⟩] (ze #[z8 ⟨#[49]⟩,zj zm 0])):=hid λa b=>by
  have:=zoj 1 1 (by decide) 1 1 (by omega) (by omega) (by omega) sz_1 sz_1 a b;rw[show((1:Rat)/1)=1 by grind,zfc] at this;exact this
 have t:=hid g;have m:=hid c;have e:=hid hw;clear c g r s h i hw;go_enter Tryz.func163,Tryz.ntmps163;go_wp21;rw[<-show f=(w.alloc (zn #[z8 ⟨#[49]⟩,z8 ⟨#[49]⟩] 22)).alloc (zn #[z8 ⟨#[49]⟩,z8 ⟨#[49]⟩] 22) from m.out];refine zzM l.out λy n=>?_;have j:=qT t n;clear n l m;go_wp21;refine zzM (v y (e.below j.out)) λz o=>?_;have k:=qT j o;clear o;go_wp21;refine zzM (x z (e.below k.out)) λA p=>?_;have d:=qT k p;clear p;go_wp21;refine zzM (zry A (e.below d.out)) λB q=>?_;have u:=d.trans (q.mono d.size);clear q;go_wp21;go_ret3;exact⟨rfl,u⟩
end
section
open Go
variable {F:Fence} {n:Nat} {P:Program} {ops:Array Oper} {β:Type}
def zhi (F:Fence) (n:Nat) (P:Program) (C:Value->zA->Prop):Result Next->Prop
 | .ok (.value u) w'=>C u w'
 | .ok .skip w'=>C undef w'
 | .ok (.enter f args) w'=>(F.depth.isSome=zt->1<=n)/\CallsIn F (n-1) P f args w' (λe w''=>∃v,e=zo v/\C v w'')
 | .ok (.round l f tmps assign body) w'=>(F.depth.isSome=zt->1<=n)/\RoundIn F (n-1) P l f tmps assign body w' (λe w''=>∃v,e=zo v/\C v w'')
 |_=>False
theorem yg2 {o:Oper} {a:Act} {w:zA} {C:Value->zA->Prop} {e:Act->zA->Prop} {Q:Exit->Act->zA->Prop} (j:∀f,F.fn f) (k:F.round=zp) (b:∀v w',C v w'->e (a.put o.dst v) w') (h:zhi F n P C ((execOp a.eval o).run P w)):o.wpIn F n P a w e Q:=by
 refine⟨λf _=>j f,?_⟩;rw[k,Oper.semAt_none];generalize (execOp a.eval o).run P w=l at*
 cases l with
 |ok g w'=>
  cases g<;>simp only[zhi] at h<;>simp only[Oper.uponIn]
  ·exact b _ _ h
  ·exact b _ _ h
  ·exact⟨h.1,CallsIn.mono h.2 λi m ⟨v,d,c⟩=>by subst d;exact b _ _ c⟩
  ·exact⟨h.1,RoundIn.mono h.2 λi m ⟨v,d,c⟩=>by subst d;exact b _ _ c⟩
 |halt g w'=>simp only[zhi] at h
def yjs (F:Fence) (n:Nat) (P:Program) (ops:Array Oper) (vs:β->Nat->Value) (C:β->Array Bool->zA->Prop) (i:Nat) (o:Oper) (a:Act) (b:β):Prop:=
 ∀L w,AcAt ops i L->C b L w->if Region.wanted o (yielded ops a.tmps) then zhi F n P (zgx vs C i L b) ((execOp a.eval o).run P w) else zgx vs C i L b undef w
theorem yd0 (T:∀f,F.fn f) (ah:F.round=zp) {Q:Exit->Act->zA->Prop} {C:β->Array Bool->zA->Prop} (a5:(acB ops&&zfd ops)=zt) (e:β->Nat->Value) (a:Act)
 (step:∀b i o,ops[i]? =zq o->yjs F n P ops e C i o (zax ops (e b) a (zbw ops.size i) ops.size) b)
 (ab:∀b c w,(∀i,i<ops.size->c.getD i zu=zt)->C b c w->Q .normal (zax ops (e b) a (zbw ops.size ops.size) ops.size) w):
 ∀(t:Nat) (c:Array Bool) (w:zA) (b:β),c.size=ops.size->zoe ops c->((List.range ops.size).filter λi=>!c.getD i zu).length<=t->C b c w->wpAnyIn F n P .any ops Q t c (zax ops (e b) a c ops.size) w:=by
 obtain⟨ai,aa,ac,a9⟩:=zmq a5;have Y:∀b c w,(∀i,i<ops.size->c.getD i zu=zt)->C b c w->Q .normal (zax ops (e b) a c ops.size) w:=by
  intro b c w r u;have m:zax ops (e b) a c ops.size=zax ops (e b) a (zbw ops.size ops.size) ops.size:=by
   have:∀q,q<=ops.size->zax ops (e b) a c q=zax ops (e b) a (zbw ops.size ops.size) q:=by
    intro q
    induction q with
    |zero=>intro _;rfl
    |succ q B=>
     intro al;simp only[zax];rw[B (by omega),r q (by omega),zd5];simp[show q<ops.size by omega]
   exact this _ (zN _)
  rw[m];exact ab b c w r u
 have ag:∀c,c.size=ops.size->Region.ready .any ops c=[]->∀i,i<ops.size->c.getD i zu=zt:=by
  intro c A H i
  induction i using Nat.strongRecOn with
  |_ i B=>
   intro j
   cases hl:c.getD i zu with
   |true=>rfl
   |false=>
    have W:i∈Region.ready .any ops c:=by
     refine mem_ready.2 ⟨getD_in (by omega) hl,ops[i],by simp[j],λm M K=>?_⟩;have V:=a9 i (ops[i]) (show ops[i]? =zq (ops[i]) from Array.getElem?_eq_getElem j) m M K;exact B m.on V (Nat.lt_trans V j)
    rw[H] at W;cases W
 intro t
 induction t with
 |zero=>
  intro c w b A D U u;have r:∀i,i<ops.size->c.getD i zu=zt:=by
   intro i j
   cases hl:c.getD i zu with
   |true=>rfl
   |false=>
    have:i∈(List.range ops.size).filter λi=>!c.getD i zu:=List.mem_filter.2 ⟨List.mem_range.2 j,by rw[hl];rfl⟩;rw[List.length_eq_zero_iff.1 (Nat.le_zero.1 U)] at this;cases this
  refine⟨?_,Y b c w r u⟩;apply List.eq_nil_iff_forall_not_mem.2;intro i j;obtain⟨I,o,k,_⟩:=mem_ready.1 j;have:=r i (Array.getElem?_eq_some_iff.1 k).1;rw[getD_both I] at this;cases this
 |succ t B=>
  intro c w b A D U u;refine⟨λH=>Y b c w (ag c A H) u,λi j=>?_⟩;obtain⟨I,o,k,r⟩:=mem_ready.1 j;have E:i<ops.size:=(Array.getElem?_eq_some_iff.1 k).1;have v:=getD_both I;have L:∀d,Region.waitsFor .any ops i d=zt->c.getD d zu=zt:=by
   intro d hw;obtain⟨ak,ae,m,M,K,rfl⟩:=Region.waitsFor_spec hw;have:ak=o:=Option.some.inj (ae.symm.trans k);subst this;exact r m M K
  have af:∀d,Region.waitsFor .any ops d i=zt->c.getD d zu=zu:=by
   intro d hw
   cases hl:c.getD d zu with
   |false=>rfl
   |true=>rw[D d i hl hw] at v;cases v
  have a8:AcAt ops i c:=⟨A,v,L,D⟩;have z:=step b i o k c w a8 u
  have a0:=λx=>zic (e x) a c i (by omega) v (λd a4 ad y s=>by
   rcases Nat.lt_or_ge d ops.size with N|N
   ·exact aa i d a4 E N (Ne.symm ad) s y
   ·simp[zcr,Array.getElem?_eq_none N] at s) ops.size
  simp only[if_pos E] at a0;have Z:=zit (ops:=ops) (a:=zax ops (e b) a c ops.size) (b:=zax ops (e b) a (zbw ops.size i) ops.size) (o:=o) (λa3 b=>Region.noSelect_spec ai i o a3 b k) (λa1 aj=>by
   refine zib (e b) a c _ a1 ops.size λd s y=>?_;rw[zd5];by_cases hji:d=i
   ·subst hji;rw[v];simp
   ·have:=ac i d a1 E s (Ne.symm hji) y (by simpa [zi8,k] using aj)
    rcases this with⟨S,J⟩|⟨S,J⟩
    ·rw[L d J];simp[s,S]
    ·rw[af d J];simp;omega)
  have X:∀R G,zgx e C i c b R G->wpAnyIn F n P .any ops Q t (c.setIfInBounds i zt) ((zax ops (e b) a c ops.size).put o.dst R) G:=by
   rintro R G ⟨x,a7,rfl,a6⟩;have y:o.dst=zcr ops i:=by simp[zcr,k]
   rw[y,ziw (e b) (e x) a c (λd s=>(a7 d s).symm) ops.size,<-a0 x];refine B _ G x (by simpa using A) ?_ ?_ a6
   ·intro g a2 O hw
    rw[zdp c i _ (by omega)] at O⊢;split
    ·rfl
    ·split at O
     ·rename_i h;subst h;exact L a2 hw
     ·exact D g a2 O hw
   ·have m:((List.range ops.size).filter λg=>!(c.setIfInBounds i zt).getD g zu)=((List.range ops.size).filter λg=>!c.getD g zu).filter λg=>decide (g≠i):=by
     rw[List.filter_filter];refine List.filter_congr λg _=>?_;rw[zdp c i g (by omega)];by_cases h:i=g
     ·subst h;simp
     ·simp[h,Ne.symm h]
    rw[m];have:=(List.length_filter_lt_length_iff_exists (l:=(List.range ops.size).filter λg=>!c.getD g zu) (p:=λg=>decide (g≠i))).2 ⟨i,List.mem_filter.2 ⟨List.mem_range.2 E,by rw[v];rfl⟩,by simp⟩;omega
  unfold wpOpIn;simp only[k];rw[Z.2];by_cases hw:Region.wanted o (yielded ops (zax ops (e b) a (zbw ops.size i) ops.size).tmps)=zt
  ·rw[if_pos hw] at z⊢
   rw[<-Z.1] at z;exact yg2 T ah X z
  ·rw[if_neg hw] at z⊢
   exact⟨λf _=>T f,X _ _ z⟩
def yer (F:Fence) (n:Nat) (P:Program) (ops:Array Oper) (vs:β->Nat->Value) (C:β->(Nat->Bool)->zA->Prop) (i:Nat) (o:Oper) (a:Act) (b:β):Prop:=
 ∀f w,AcF ops i f->C b f w->
  if Region.wanted o (yielded ops a.tmps) then zhi F n P (zhn vs C i f b) ((execOp a.eval o).run P w) else zhn vs C i f b undef w
def AcLN (F:Fence) (n:Nat) (P:Program) (ops:Array Oper) (vs:β->Nat->Value) (C:β->(Nat->Bool)->zA->Prop) (K:Act->zA->Prop) (b:β):Nat->List Oper->Act->Prop
 |_,[],a=>∀f w,(∀i,i<ops.size->f i=zt)->C b f w->K a w
 |k,o::rest,a=>yer F n P ops vs C k o a b/\AcLN F n P ops vs C K b (k+1) rest (a.put o.dst (vs b k))
section
variable {vs:β->Nat->Value} {C:β->(Nat->Bool)->zA->Prop} {K:Act->zA->Prop} {k:Nat} {o:Oper} {rest:List Oper} {a:Act} {b:β}
theorem zls (h:∀f w,(∀i,i<ops.size->f i=zt)->C b f w->K a w):AcLN F n P ops vs C K b k [] a:=h
theorem za2 (v:Value) (g:vs b k=v) (hw:Region.wanted o (yielded ops a.tmps)=zt)
 (e:∀f w,C b f w->C b (λj=>if k=j then zt else f j) w)
 (hy:∀f w,AcF ops k f->C b f w->(execOp a.eval o).run P w=.ok (.value v) w)
 (h:AcLN F n P ops vs C K b (k+1) rest (a.put o.dst v)):AcLN F n P ops vs C K b k (o::rest) a:=by
 subst g;refine⟨λf w d c=>?_,h⟩;rw[if_pos hw,hy f w d c];exact⟨b,λ_ _=>rfl,rfl,e f w c⟩
theorem zeg (v:Value) (i:vs b k=v) (hw:Region.wanted o (yielded ops a.tmps)=zt)
 (hy:∀f w,AcF ops k f->C b f w->∀c:Value->zA->Prop,(∀w',C b (λj=>if k=j then zt else f j) w'->c v w')->zhi F n P c ((execOp a.eval o).run P w))
 (h:AcLN F n P ops vs C K b (k+1) rest (a.put o.dst v)):AcLN F n P ops vs C K b k (o::rest) a:=by
 subst i;refine⟨λf w g e=>?_,h⟩;rw[if_pos hw];exact hy f w g e _ λw' d=>⟨b,λ_ _=>rfl,rfl,d⟩
theorem zjk (v:Value) (l:vs b k=v) (hw:Region.wanted o (yielded ops a.tmps)=zt)
 (hy:∀f w,AcF ops k f->C b f w->∀c:Value->zA->Prop,(∀b' w',(∀j,f j=zt->vs b' j=vs b j)->C b' (λj=>if k=j then zt else f j) w'->c (vs b' k) w')->zhi F n P c ((execOp a.eval o).run P w))
 (h:AcLN F n P ops vs C K b (k+1) rest (a.put o.dst v)):AcLN F n P ops vs C K b k (o::rest) a:=by
 subst l;refine⟨λf w g e=>?_,h⟩;rw[if_pos hw];exact hy f w g e _ λb' w' i d=>⟨b',i,rfl,d⟩
end
theorem zm1 {d:β->Nat->Value} {C:β->(Nat->Bool)->zA->Prop} {e:Act->zA->Prop} {b:β}:∀(l:List Oper) (k:Nat) (a:Act),AcLN F n P ops d C e b k l a->
 (∀i o,l[i]? =zq o->yer F n P ops d C (k+i) o (zbq (d b) k l a i) b)/\(∀f w,(∀i,i<ops.size->f i=zt)->C b f w->e (zbq (d b) k l a l.length) w)
 |[],k,a,c=>⟨λi o c=>by simp at c,c⟩
 |o::l,k,a,⟨hv,c⟩=>by
  obtain⟨j,m⟩:=zm1 l (k+1) _ c;refine⟨λi h g=>?_,?_⟩
  ·cases i with
   |zero=>
    obtain rfl:o=h:=by simpa using g
    simpa [zbq] using hv
   |succ i=>
    have:=j i h (by simpa using g);simp only[zbq];rw[show k+(i+1)=k+1+i by omega];exact this
  ·simp only[zbq,List.length_cons]
   exact m
theorem z0d (A:∀f,F.fn f) (E:F.round=zp) {r:Act->zA->Prop} {Q:Exit->Act->zA->Prop} (B:∀a w,r a w->Q .normal a w) {l:List Oper} (e:β->Nat->Value) (C:β->(Nat->Bool)->zA->Prop) (y:(acB l.toArray&&zfd l.toArray)=zt) {a:Act} {w:zA} (j:β) (z:C j (λ_=>zu) w) (h:∀b,AcLN F n P l.toArray e C r b 0 l a):
 wpAnyIn F n P .any l.toArray Q l.toArray.size (Array.replicate l.toArray.size zu) a w:=by
 have t:zax l.toArray (e j) a (Array.replicate l.toArray.size zu) l.toArray.size=a:=by
  have:∀i,zax l.toArray (e j) a (Array.replicate l.toArray.size zu) i=a:=by
   intro i
   induction i with
   |zero=>rfl
   |succ i G=>
    have:(Array.replicate l.toArray.size zu).getD i zu=zu:=by
     simp only[Array.getD];split<;>simp
    simp only[zax,this,Bool.false_eq_true,if_false];exact G
  exact this _
 have:=yd0 (n:=n) A E (P:=P) (ops:=l.toArray) (Q:=Q) (C:=λb g w=>C b (λc=>g.getD c zu) w) y e a ?_ ?_ l.toArray.size (Array.replicate l.toArray.size zu) w j (by simp) ?_ ?_ ?_
 ·rw[t] at this;exact this
 ·intro b d H s g w k p
  have v:=(zm1 l 0 a (h b)).1;have m:d<l.length:=by
   have:=(Array.getElem?_eq_some_iff.1 s).1;simpa using this
  have q:=v d H (by simpa using s) (λc=>g.getD c zu) w (by rw[Nat.zero_add];exact⟨k.self,k.done,k.closed⟩) p;have o:zax l.toArray (e b) a (zbw l.toArray.size d) l.toArray.size=zbq (e b) 0 l a d:=by
   have:=zdg (e b) l a d (by omega) l.length (zN _);rw[Nat.min_eq_left (by omega)] at this;simpa using this
  have u:(λc=>(g.setIfInBounds d zt).getD c zu)=(λc=>if d=c then zt else g.getD c zu):=by
   funext c;exact zdp g d c (by rw[k.size];simpa using m)
  rw[Nat.zero_add] at q;rw[o];unfold zhn at q;unfold zgx;simp only[u];exact q
 ·intro b g w D p
  have x:=(zm1 l 0 a (h b)).2;have o:zax l.toArray (e b) a (zbw l.toArray.size l.toArray.size) l.toArray.size=zbq (e b) 0 l a l.length:=by
   have:=zdg (e b) l a l.length (zN _) l.length (zN _);rw[Nat.min_self] at this;simpa using this
  rw[o];exact B _ _ (x _ w D p)
 ·intro d c m
  have:(Array.replicate l.toArray.size zu).getD d zu=zu:=by simp only[Array.getD];split<;>simp
  rw[this] at m;cases m
 ·refine zO (List.length_filter_le _ _) (by simp)
 ·have:(λc=>(Array.replicate l.toArray.size zu).getD c zu)= λ_=>zu:=by
   funext c;simp only[Array.getD];split<;>simp
  simpa only[this] using z
theorem zdr {m:Nat} {Q:Exit->Act->zA->Prop} {a:Act} {w:zA} {l:List Oper} (i:∀f,F.fn f) (k:F.round=zp) (d:β->Nat->Value) (C:β->(Nat->Bool)->zA->Prop) (j:P.follows .mixedOrders=zt) (e:(acB l.toArray&&zfd l.toArray)=zt) (c:β) (g:C c (λ_=>zu) {w with drawn:=w.drawn+1})
 (h:∀b,AcLN F n P l.toArray d C (Q .normal) b 0 l a):(Code.region m l.toArray zt).wpIn F n P Q a w:=
 wpIn_region_any j (z0d i k (λ_ _ h=>h) d C e c g h)
end
section
open Go.RowKit Go.Shelf Lib Str Limb
attribute [local go_sem] Oper.semAt_some
theorem zai {a c:zA} (h:qL a c) {b o:Nat} {v:Value} (d:a.cell? ⟨b,o,zp⟩=zq v):c.cell? ⟨b,o,zp⟩=zq v:=(zac h).cell d
end
section
open Go.RowKit Go.Shelf Lib Str Limb Geo
attribute [local go_sem] Oper.semAt_some
def cor (l:List Pt) (k:Nat):Pt:=l[k%l.length]?.getD ⟨0,0⟩
theorem zcj {b c:zA} (h:CellsKept b c) {B:Nat} {e:TypeId} {d:Nat} {v:Value} {n:Nat} {xs:List Value} (a:b.ownsRow B e d v n xs):c.ownsRow B e d v n xs:=by
 obtain⟨l,a⟩:=a;refine⟨l,?_⟩;rcases a with a|⟨i,f,g,e,j,k,m⟩
 ·exact .inl a
 ·exact .inr ⟨i,f,g,e,j,h _ _ _ _ k,m⟩
theorem zmb {P:Program} (l:Value->zA->Prop) {o:Oper} {a:Act} (w:zA) (p x:Operand) (t:TypeId)
 (G:o.op=.call {callee:=.builtin .append,args:= #[p,x],argTypes:= #[t,t]})
 (base:Nat) (e:TypeId) (i:TypeInfo) (z:Value) (b k:Nat) (M:P.underlying t=some (.slice e)) (D:P.info? e=some i) (O:i.zero=some z)
 (K:i.size=b) (B:i.bytes=k) (Q:z.cells.size=b) (L:0<b)
 (v:Value) (n:Nat) (xs:List Value) (J:a.eval p=v) (H:w.ownsRow base e b v n xs)
 (g:Addr) (m c:Nat) (d:List Value) (N:a.eval x=.slice (some g) m c) (E:d.length=m*b) (F:∀j u,d[j]? =some u->w.cell? (g.add j)=some u) (q:∀u∈d,u.oneCell'=true)
 (y:n+m<=maxLen) (C:(n+m)*k<=140737488355328) (A:base<=w.heap.size)
 (h:∀f w',w'.ownsRow base e b f (n+m) (xs++d)->w.grownBy w' v.ownBlock->l f w'):zfp P l ((execOp a.eval o).run P w):=by
 obtain⟨f,w',I,r,s,R⟩:=run_append_own (P:=P) w base t o.type e i z b k M D O K B Q L v n xs H g m c d E F q y C A;unfold execOp;simp only[G,resolve,invoke,builtin,Sem.run_bind,Sem.run_pure,Result.andThen_ok,List.map_toArray,List.map_cons,List.map_nil,J,N,I];exact h f w' r s
end
section
open Go.RowKit Go.Shelf Lib Str Limb
attribute [local go_sem] Oper.semAt_some
theorem zx5:(Tryz.prog.info? 257).map (λi=>(i.zero,i.size,i.bytes))=zq (zq (zh #[St [],St []]),2,32):=by kernel_rfl
end
section
theorem ztp {n c x:Nat} (e:0<x) (d:c*c<=n) (i:c<=x):c<=(x+n/x)/2:=by
 obtain⟨a,rfl⟩:∃a,x=c+a:=⟨x-c,by omega⟩;rw[Nat.le_div_iff_mul_le (by omega)];by_cases h:a<=c
 ·obtain⟨b,rfl⟩:∃b,c=a+b:=⟨c-a,by omega⟩
  have g:b<=n/(a+b+a):=by
   rw[Nat.le_div_iff_mul_le e];refine zO ?_ d;have:(a+b)*(a+b)=b*(a+b+a)+a*a:=by
    simp only[Nat.mul_add,Nat.add_mul,yP a b];omega
   omega
  generalize n/(a+b+a)=f at*
  omega
 ·generalize n/(c+a)=f
  omega
theorem zrf {n x:Nat} (b:0<x) (h:x<=(x+n/x)/2):x*x<=n:=by
 have a:x<=n/x:=by
  generalize n/x=c at*
  omega
 exact(Nat.le_div_iff_mul_le b).1 a
end
section
open Go.RowKit Go.Shelf Lib Str Limb
attribute [local go_sem] Oper.semAt_some
theorem w64 {z:Int} (h: -9223372036854775808<=z/\z<=9223372036854775807):wrap64 z=z:=by unfold wrap64;omega
theorem znv {n x q:Nat} (f:n<1000000000000000000) (h:1<=x) (i:x<=n) (c:n/x=q):wrap64 ((n:Int)/(x:Int))=(q:Int)/\zm.wrap ((x:Int)+(q:Int))=(x:Int)+(q:Int)/\
 wrap64 (((x:Int)+(q:Int))/2)=(((x+q)/2:Nat):Int)/\zm.wrap ((x:Int)*2)=((x*2:Nat):Int)/\zm.wrap ((n:Int).tdiv (x:Int))=(q:Int)/\zm.wrap (((x:Int)+(q:Int)).tdiv 2)=(((x+q)/2:Nat):Int):=by
 have g:q<=n:=by rw[<-c];exact Nat.div_le_self _ _
 have a:(n:Int)/(x:Int)=(q:Int):=by rw[<-c];exact(Int.natCast_ediv n x).symm
 have b:((x:Int)+(q:Int))/2=(((x+q)/2:Nat):Int):=by omega
 have d:(n:Int).tdiv (x:Int)=(q:Int):=by rw[Int.tdiv_eq_ediv_of_nonneg (by omega)];exact a
 have e:((x:Int)+(q:Int)).tdiv 2=(((x+q)/2:Nat):Int):=by rw[Int.tdiv_eq_ediv_of_nonneg (by omega)];exact b
 refine⟨by rw[a];exact w64 ⟨by omega,by omega⟩,zI _ ⟨by omega,by omega⟩,by rw[b];exact w64 ⟨by omega,by omega⟩,?_,by rw[d];exact zI _ ⟨by omega,by omega⟩,by rw[e];exact zI _ ⟨by omega,by omega⟩⟩;rw[zI _ ⟨by omega,by omega⟩];omega
theorem zd3 (t:ByteArray) (n b:Nat) (R:1<=n) (x:Hid (n<1000000000000000000)) (l:Hid (b*b<=n/\n<(b+1)*(b+1)))
 (u:Hid (∀Q:zA,qJ 230 #[z8 t] Q (ze #[zj zm (n:Int),.nilIface])))
 (P:Hid (qK 47 #[zj zm (b:Int)] (z8 ⟨(zD b).toArray⟩))) (w:zA) (O:Hid (Wd w)):
 qJ 280 #[z8 t] w (ze #[St (zD b),zj zm 0]):=by
 go_enter Tryz.func280,Tryz.ntmps280;go_wp2_with fail;refine zzM (u w) λZ H=>?_;have L:=hid H;clear H u;go_wp2_with fail;go_loopw [6] (λf wr=>∃(a:Nat),1<=a/\a<=n/\f=zj zm (a:Int)/\Hid (wr=Z))
  (λf _=>n-(zL f).toNat)
 case atStart=>exact⟨1,zN _,R,rfl,hid rfl⟩
 case round=>
  obtain⟨a,h,i,rfl,G⟩:=hrel;obtain rfl:=G.symm;clear G;have K:¬a=0:=by omega
  have y:=hid (show ∀d,n/a=d->(a<d->a*2<=n)/\(¬a<d->b<=a) from λd e=>by
   subst e;refine⟨λm=>?_,λm=>?_⟩
   ·have o:a+1<=n/a:=m
    have S:=(Nat.le_div_iff_mul_le (by omega)).1 o;have T:a*2<=(a+1)*a:=by
     rw[yP a 2];exact Nat.mul_le_mul (by omega) (zN _)
    omega
   ·by_cases c:b<=a
    ·exact c
    ·exfalso
     have o:n/a<a+1:=by omega
     rw[Nat.div_lt_iff_lt_mul (by omega)] at o;have S:(a+1)*(a+1)<=b*b:=Nat.mul_le_mul (by omega) (by omega);have T:(a+1)*a<=(a+1)*(a+1):=Nat.mul_le_mul (zN _) (by omega);have:=l.1;omega)
  obtain⟨d,e⟩:∃d,n/a=d:=⟨_,rfl⟩;have k:=hid (y d e);obtain⟨z,A,B,C,D,E⟩:=znv x h i e;have N:=hid e;clear A B E e y;by_cases hlt:a<d
  ·have J:(a:Int)<(d:Int):=by omega
   have V:=k.1 hlt;clear hlt k;go_wp2_with fail;go_roundw
   case rel=>exact⟨a*2,by omega,V,by rfl,hid trivial⟩
   case measure=>simp[zL];omega
  ·have J:¬(a:Int)<(d:Int):=by omega
   have q:=k.2 hlt;clear hlt k;go_wp2_with fail;clear z C D K J N;go_loopw [6] (λf wr=>∃(a:Nat),1<=a/\a<=n/\b<=a/\f=zj zm (a:Int)/\Hid (qL w wr))
    (λf _=>(zL f).toNat)
   case atStart=>exact⟨a,h,i,q,rfl,L⟩
   case round=>
    clear h i q;obtain⟨a,h,i,q,rfl,p⟩:=hrel;have K:¬a=0:=by omega
    obtain⟨d,e⟩:∃d,n/a=d:=⟨_,rfl⟩;obtain⟨z,A,B,C,D,E⟩:=znv x h i e;have r:=ztp (by omega) l.1 q;have s:=zrf (n:=n) (x:=a) (by omega);rw[e] at r s;have F:(a+d)/2≥a->a=b:=λm=>by
     have o:=s m;by_cases c:a<=b
     ·omega
     ·have:=Nat.mul_le_mul (show b+1<=a by omega) (show b+1<=a by omega)
      have:=l.2;omega
    have j:=hid (⟨r,F⟩:_/\_);clear r s F e;generalize (a+d)/2=g at*
    by_cases hge:a<=g
    ·have U:(a:Int)<=(g:Int):=by omega
     have X:=j.2 hge;subst X;have v:=hid (P wr (O.below p.out));clear hge j;go_wp2_with fail;refine zzM v.out λa1 I=>?_;have M:=hid (p.trans (I.mono p.size));clear I v;go_wp2_with fail;go_ret2;exact⟨rfl,M.out⟩
    ·have U:¬(a:Int)<=(g:Int):=by omega
     have W:=j.1;have Y:1<=g:=by
      by_cases c:b=0
      ·have:=l.2
       rw[c] at this;omega
      ·omega
     have a0:g<a:=by omega
     clear hge j;go_wp2_with fail;go_roundw
     case rel=>exact⟨g,Y,by omega,W,by rfl,p⟩
     case measure=>simp[zL];omega
theorem z7e {n a k:Nat} (d:a*a<=n) (b:n<10^(2*k)):a<=10^k:=by
 by_cases c:a<=10^k
 ·exact c
 ·exfalso
  have:=Nat.mul_le_mul (show 10^k<=a by omega) (show 10^k<=a by omega);rw[<-Nat.pow_add,show k+k=2*k by omega] at this;omega
theorem z4b:(zaa B9 2).map I=[I 2]:=by
 rw[<-zwd (r:=2) (by decide)];rfl
theorem z6c (a:zA):Sl (a.alloc (zn #[I 2] 3)) (z7 (zq ⟨a.heap.size,0,zp⟩) 1 1) ((zaa B9 2).map I):=by
 rw[z4b];refine⟨zq ⟨a.heap.size,0,zp⟩,1,rfl,zN _,λd e b=>⟨a.heap.size,0,rfl,?_⟩⟩;have c:=zG a (zn #[I 2] 3)
 match d,b with
 |0,b=>exact(zJ c 0).trans (by rw[<-b];rfl)
 |_+1,b=>cases b
theorem z7f (t z y:ByteArray) (n b k X:Nat) (B:Hid (b*b<=n/\n<(b+1)*(b+1))) (cb:1<=n) (af:1<=X) (ao:b<=X) (b2:Hid ((zaa B9 n).length<=400/\(zaa B9 X).length<=400/\(zaa B9 (X+n)).length<=400))
 (bo:0<t.size) (bf:(((t[0]'bo).toNat:Int)==45)=zu) (bg:(t.toList==[48])=zu) (bm:¬(t.size:Int)<=18) (bn:t.size<=1000) (al:(t.size+1)/2=k)
 (N:Hid (∀c:zA,qJ 229 #[z8 t] c (zj zm 0)))
 (a7:Hid (∀c:zA,zC zF 189 #[z8 t] c λe w'=>∃v,e=zo (zh #[zg zu,v])/\Sl w' v ((zaa B9 n).map I)/\zB c.heap.size c w'))
 (a8:Hid (∀c:zA,qJ 238 #[z8 ⟨#[48]⟩,zj zm (k:Int)] c (z8 z)))
 (a9:Hid (∀c:zA,zC zF 189 #[z8 y] c λe w'=>∃v,e=zo (zh #[zg zu,v])/\Sl w' v ((zaa B9 X).map I)/\zB c.heap.size c w'))
 (cd:z.size<=1000) (hy:(⟨#[49]⟩:ByteArray)++z=y) (an:digs (b:Int)<=300) (w:zA) (b8:Hid (Wd w)):
 qJ 239 #[z8 t] w (ze #[St (zD b),zj zm 0]):=by
 have ca:=znj;have bz:zm.wrap ((t.size:Int)+1)=(t.size:Int)+1:=zI _ ⟨by omega,by omega⟩;have b1:=hid (show((t.size:Int)+1)/2=(k:Int) by omega);have c8:=hid al;have b9:=hid hy;clear al hy;go_enter Tryz.func239,Tryz.ntmps239;go_wp21;refine zzM (N w) λb' ag=>?_;have O:=hid ag;clear ag N;go_wp21;refine(a7 b').mono ?_;rintro e c3 ⟨cm,rfl,f,ah⟩;obtain⟨bw,bt,bc,rfl, -⟩:=zbx f;have P:=qT O ah;clear ah O a7;have a1:=hid f;clear f;go_wp21;simp only[b1.out];refine zzM (a8 c3) λc4 G=>?_;have Q:=qT P G;have a2:=hid (a1.below G);clear G P a1 a8;go_wp21
 try rw[b9.out]
 refine(a9 c4).mono ?_;rintro e cn ⟨az,rfl,g,H⟩;obtain⟨bx,bu,bd,rfl, -⟩:=zbx g;have a':=qT Q H;have b4:=hid (a2.below H);clear H Q a2 a9;have b6:=hid g;clear g;clear bz bf bg bm bn;have c9:=hid (λc=>z6c c);go_wp21;go_loopg [6] X (λbr az wr=>∃(a:Nat) (M:Option Addr) (E o:Nat),Hid (br=a)/\1<=a/\b<=a/\Hid (a<=X)/\az=z7 M E o/\Hid (Sl wr (z7 M E o) ((zaa B9 a).map I))/\Hid (Sl wr (z7 bw bt bc) ((zaa B9 n).map I))/\Hid (qL w wr))
 case atStart=>exact⟨X,bx,bu,bd,hid rfl,af,ao,hid (zN _),rfl,b6,b4,a'⟩
 case round=>
  clear af ao;obtain⟨a,M,E,o,bi,cc,bk,K,rfl,g,f,F⟩:=hrel;obtain⟨aq,ar,au⟩:=b2.out;have av:(zaa B9 a).length<=400:=zO (zd6 (by decide) K.out) ar;have am:n/a<=n:=Nat.div_le_self _ _;have aw:(zaa B9 (n/a)).length<=400:=zO (zd6 (by decide) am) aq;have L:(zaa B9 (a+n/a)).length<=400:=zO (zd6 (by decide) (by have:=K.out;omega)) au;have ax:(zaa B9 ((a+n/a)/2)).length<=400:=zO (zd6 (by decide) (Nat.div_le_self _ _)) L;have ay:(zaa B9 2).length<=400:=by have:=congrArg List.length z4b;simp at this;omega
  have ab:=ztp (by omega) B.1 bk;have ac:=zrf (n:=n) (x:=a) (by omega);have ad:a<=(a+n/a)/2->a=b:=λbe=>by
   have ae:=ac be;by_cases o:a<=b
   ·omega
   ·have:=Nat.mul_le_mul (show b+1<=a by omega) (show b+1<=a by omega)
    have:=B.2;omega
  have j:1<=b\/(a+n/a)/2≥0:=.inr (zR _);have W:=hid (znf _ _ n a wr f g (by omega) (by omega) (by omega));have m:=hid (⟨ab,ad⟩:_/\_);have d:=hid (⟨av,aw,L,ax,ay⟩:_/\_/\_/\_/\_);clear aq ar au av aw L ax ay am ab ac ad j;go_wp21;refine W.mono ?_;rintro e c5 ⟨ci,cj,rfl,j,s,p⟩;obtain⟨cg,ce,c1,rfl, -⟩:=zbx j;have R:=hid (F.trans (p.mono F.size));have C:=hid (g.below p);have a3:=hid (f.below p);have Y:=hid (z09 _ _ a (n/a) c5 C j (by have:=d.1;omega) (by have:=d.2.1;omega));clear j s p F g f W;go_wp21;refine Y.mono ?_;rintro e l ⟨ch,cf,c2,rfl,s,q⟩;have S:=qT R q;have h:qL l (l.alloc (zn #[I 2] 3)):=(zM _ l).alloc (zN _) _;have a6:=hid ((C.below q).below h);have a4:=hid ((a3.below q).below h);have V:=hid (znf _ _ (a+n/a) 2 (l.alloc (zn #[I 2] 3)) (s.below h) (z6c l) (by have:=d.2.2.1;omega) (by have:=d.2.2.2.2;omega) (by omega));have x:=qT S h;clear s q h R C a3 Y;go_wp21;refine V.mono ?_;rintro e c6 ⟨ck,cl,rfl,u,bj,r⟩;obtain⟨bv,bs,bb,rfl, -⟩:=zbx u;have T:=hid (x.trans (r.mono x.size));have D:=hid (a6.below r);have a5:=hid (a4.below r);have a0:=hid u;have U:=hid (zi9 _ _ ((a+n/a)/2) a c6 u D (by have:=d.2.2.2.1;omega) (by have:=d.1;omega));clear u bj r S x a6 a4 V;generalize (a+n/a)/2=y at*
  go_wp21;refine U.mono ?_;rintro e c7 ⟨aa,rfl,⟨aj,ak⟩,i⟩;have A:=qT T i;have b7:=hid (D.below i);have b5:=hid (a5.below i);have b3:=hid (a0.below i);clear i T D a5 a0 U;by_cases hge:a<=y
  ·have bh:(0:Int)<=aa:=by omega
   have ap:=m.2 hge;have J:=zez zu _ a c7 (b8.below A.out) b7 (by have:=d.1;omega);rw[zkw,ap,zcf an,zcg an,Str.zad] at J;have Z:=hid J;clear hge m aj ak J ap;go_wp21;refine zzM Z.out λco ai=>?_;have b0:=qT A ai;clear ai Z;go_wp21;go_ret2;exact⟨rfl,b0.out⟩
  ·have bh:¬(0:Int)<=aa:=by omega
   have bl:=m.1;have bp:1<=y:=by
    by_cases c0:b=0
    ·have ae:=B.2
     rw[c0] at ae;omega
    ·omega
   have bq:y<=X:=by have:=K.out;omega
   have ba:=hid (show y<a by omega);clear hge m aj ak;go_wp21;go_roundg y
   case measure=>rw[bi.out];exact ba.out
   case rel=>exact⟨y,bv,bs,bb,hid rfl,bp,bl,hid bq,rfl,b3,b5,A⟩
theorem z6p (t:ByteArray) (n k:Nat) (p:0<t.size) (u:(((t[0]'p).toNat:Int)==45)=zu) (x:(t.toList==[48])=zu) (z:(t.size:Int)<=18)
 (b:Hid (∀a:zA,qJ 229 #[z8 t] a (zj zm 0)))
 (f:Hid (∀a:zA,zC zF 189 #[z8 t] a λe w'=>∃v,e=zo (zh #[zg zu,v])/\Sl w' v ((zaa B9 n).map I)/\zB a.heap.size a w'))
 (o:Hid (qK 280 #[z8 t] (ze #[St (zD k),zj zm 0]))) (w:zA) (m:Hid (Wd w)):
 qJ 239 #[z8 t] w (ze #[St (zD k),zj zm 0]):=by
 have y:=znj;go_enter Tryz.func239,Tryz.ntmps239;go_wp21;refine zzM (b w) λq g=>?_;have c:=hid g;clear g b;go_wp21;refine(f q).mono ?_;rintro e r ⟨C,rfl,j,h⟩;obtain⟨B,A,s,rfl, -⟩:=zbx j;have d:=qT c h;clear h c f j;go_wp21;refine zzM (o r (m.below d.out)) λD i=>?_;have l:=qT d i;clear i;go_wp21;go_ret2;exact⟨rfl,l.out⟩
theorem z7g (t:ByteArray) (e:0<t.size) (f:(((t[0]'e).toNat:Int)==45)=zu) (g:(t.toList==[48])=zt)
 (a:Hid (∀d:zA,qJ 229 #[z8 t] d (zj zm 0))) (w:zA):
 qJ 239 #[z8 t] w (ze #[z8 t,zj zm 0]):=by
 go_enter Tryz.func239,Tryz.ntmps239;go_wp21;refine zzM (a w) λh b=>?_;have c:=hid b;clear b a;go_wp21;go_ret2;exact⟨rfl,c.out⟩
theorem z13:∀k:Nat,zD (10^k)=49::List.replicate k 48
 |0=>by show zD 1=[49];rw[zae (by omega)];rfl
 |k+1=>by
  have:=zi4 (n:=10^k) (d:=0) (Nat.pos_of_ne_zero (by simp)) (by omega);rw[Nat.add_zero,yP,<-Nat.pow_succ,z13 k] at this;rw[this,List.replicate_succ'];rfl
theorem z7h (a b:List UInt8):((⟨a.toArray⟩:ByteArray)++(⟨b.toArray⟩:ByteArray))=⟨(a++b).toArray⟩:=by
 apply ByteArray.ext;rw[ByteArray.data_append];simp
theorem z6f {n s:Nat} (h:s*s<=n):s<=n:=zO (Nat.le_mul_self s) h
theorem zt9 {m n:Nat} (h:m<=n):(zD m).length<=(zD n).length:=by
 have:=(zaf n (zD n).length (List.length_pos_iff.2 (zci n))).1 (zN _);exact(zaf m _ (List.length_pos_iff.2 (zci n))).2 (Nat.lt_of_le_of_lt h this)
def zrn (n:Nat):Nat->Nat
 |0=>0
 |k+1=>if(k+1)*(k+1)<=n then k+1 else zrn n k
def isq (n:Nat):Nat:=zrn n n
end
section
open Go.RowKit Go.Shelf Lib Str Limb Geo
attribute [local go_sem] Oper.semAt_some
def ze5 (l:List Pt) (q:Pt) (k:Nat):Prop:=
 (cmpR (cor l k).y q.y<=0/\0<cmpR (cor l (k+1)).y q.y/\0<turn (cor l k) (cor l (k+1)) q)\/(cmpR (cor l (k+1)).y q.y<=0/\0<cmpR (cor l k).y q.y/\turn (cor l k) (cor l (k+1)) q<0)
instance (l:List Pt) (q:Pt) (k:Nat):Decidable (ze5 l q k):=by unfold ze5;infer_instance
end
section
open Go.RowKit Go.Shelf Lib Str Limb
attribute [local go_sem] Oper.semAt_some
end
section
open Go.RowKit Go.Shelf Lib Str Limb
end
section
open Go.RowKit Go.Shelf Lib Str Limb
attribute [local go_sem] Oper.semAt_some
theorem yfb (v f:Value) (m:Int) (h:decide (1<m)=zu) (w:zA):
 zC zF 253 #[v,zj zm 0,zj zm m,f] w λe w'=>(∃u,e=zo u)/\w'=w:=by
 go_enter Tryz.func253,Tryz.ntmps253;go_wp21;refine wp_loop_rounds 1 ?_;rw[rounds_succ];go_wp21;go_end0;exact⟨⟨_,rfl⟩,rfl⟩
theorem yjt (v f:Value) (n m:Int) (h:decide (1<m)=zu) (a:zm.wrap m=m) (b:decide (m<=12)=zt) (w:zA):
 zC zF 218 #[v,zj zm 0,zj zm m,zj zm n,f] w λe w'=>(∃u,e=zo u)/\w'=w:=by
 go_enter Tryz.func218,Tryz.ntmps218;go_wp21;refine wp_loop_rounds 1 ?_;rw[rounds_succ];go_wp21;refine(yfb v f m h w).mono ?_;rintro e w' ⟨⟨u,rfl⟩,rfl⟩;go_wp21;refine bodyPost_ret (results_none rfl _ _ _) rfl ?_;exact⟨⟨_,rfl⟩,rfl⟩
theorem yig (n:Nat) (i:n<=1) (p:Option Addr) (cap:Nat) (f:Value) (w:zA):
 zC zF 176 #[z7 p n cap,f] w λe w'=>(∃u,e=zo u)/\w'=w:=by
 have a:=Tryz.bits_Len (n:Int) w (by omega) (by omega);have b:=hid a;clear a;have c:=hid λ(h:Value) (g:Int) (d:zA)=>yjt h f g (n:Int) (decide_eq_false (by omega)) (zI _ ⟨by omega,by omega⟩) (decide_eq_true (by omega)) d;go_enter Tryz.func176,Tryz.ntmps176;go_wp21;refine b.mono ?_;rintro e w' ⟨rfl,rfl⟩;go_wp21;refine(c _ _ _).mono ?_;rintro e j ⟨⟨u,rfl⟩,rfl⟩;go_wp21;go_end0;exact⟨⟨_,rfl⟩,rfl⟩
theorem zsc:(Tryz.prog.info? 58).map (λi=>(i.zero,i.size,i.bytes))=zq (zq (zh #[St [],St []]),2,32):=by kernel_rfl
theorem zoq (a:zA) (x y:Value) (t:TypeId):∀i u,[x,y][i]? =zq u->(a.alloc (zn #[x,y] t)).cell? ((⟨a.heap.size,0,zp⟩:Addr).add i)=zq u:=λi u b=>by
 have c:=zG a (zn #[x,y] t);have:((⟨a.heap.size,0,zp⟩:Addr).add i)=⟨a.heap.size,i,zp⟩:=by simp only[Addr.add,Nat.zero_add];split<;>simp_all
 rw[this,zJ c]
 match i,b with
 |0,b=>exact b
 |1,b=>exact b
theorem zm4 (x y:List UInt8):∀u∈[St x,St y],u.oneCell'=zt:=λu a=>by
 simp at a;rcases a with rfl|rfl<;>rfl
theorem yfc (n:Nat) (a:zA):zC zF 172 #[St (zD n),z8 ⟨#[45]⟩] a λe w'=>e=zo (zg zu)/\w'=a:=by
 have b:=Tryz.strings_HasPrefix ⟨(zD n).toArray⟩ ⟨#[45]⟩ a;obtain⟨c,i,e,f,_⟩:=dec_head n;have g:c≠45:=λd=>by subst d;simp at f
 have h:Lib.hasPrefix (zD n) [45]=zu:=by rw[e];simp[Lib.hasPrefix,List.isPrefixOf,Ne.symm g]
 rw[show(⟨(zD n).toArray⟩:ByteArray).data.toList=zD n from rfl,show(⟨#[45]⟩:ByteArray).data.toList=[45] from rfl,h] at b;exact b
end
section
open Go.RowKit Go.Shelf Lib Str Limb Geo
attribute [local go_sem] Oper.semAt_some
theorem zye {w:zA} {base:Nat} {t:TypeId} {k:Nat} {v:Value} {n:Nat} {xs:List Value} (h:w.ownsRow base t k v n xs) (o:0<n):
 ∃g c,v=z7 (zq ⟨g,0,zp⟩) n c/\base<=g/\∀i u,xs[i]? =zq u->w.cell? ⟨g,i,zp⟩=zq u:=by
 rcases h.2 with⟨_,b⟩|⟨g,d,l,b,e,f,_,_,m,j⟩
 ·omega
 ·refine⟨g,d,b,e,λi u a=>?_⟩
  rw[zJ f,<-Array.getElem?_toList];rw[<-j,List.getElem?_take] at a;split at a
  ·exact a
  ·cases a
end
section
open Go.RowKit Go.Shelf Lib Str Limb
attribute [local go_sem] Oper.semAt_some
def zbj:List (List UInt8×List UInt8)->List Value
 |[]=>[]
 |c::l=>St c.1::St c.2::zbj l
theorem zn8:∀l,(zbj l).length=l.length*2
 |[]=>rfl
 |c::l=>by simp[zbj,zn8 l];omega
theorem zjb:∀l r,zbj (l++r)=zbj l++zbj r
 |[],_=>rfl
 |c::l,r=>by simp[zbj,zjb l r]
theorem zpb:∀(l:List (List UInt8×List UInt8)) (i:Nat) (c:List UInt8×List UInt8),l[i]? =zq c->(zbj l)[i*2]? =zq (St c.1)/\(zbj l)[i*2+1]? =zq (St c.2)
 |c::l,0,d,h=>by simp at h;subst h;exact⟨rfl,rfl⟩
 |c::l,i+1,d,h=>by
  have:=zpb l i d (by simpa using h);rw[show(i+1)*2=i*2+1+1 by omega];exact this
structure GatL (gb:Nat) (l:List (List UInt8×List UInt8)) (W:zA):Prop where
 cls:∃v,W.cell? ⟨gb,0,zp⟩=zq v/\W.ownsRow (gb+1) 257 2 v l.length (zbj l)
 fr:W.frozen? ⟨gb,0,zp⟩=zu
theorem GatL.keep {d:Nat} {l:List (List UInt8×List UInt8)} {b c:zA} (h:GatL d l b) (a:CellsKept b c):GatL d l c:=
 let ⟨g,e,f⟩:=h.cls
 ⟨⟨g,a.cell e,zcj a f⟩,a.frozen e h.fr⟩
def RowCl (p:Option Addr) (l:List (List UInt8×List UInt8)) (W:zA):Prop:=∀i c,l[i]? =zq c->∃g,p=zq ⟨g,0,zp⟩/\W.cell? ⟨g,i*2,zp⟩=zq (St c.1)/\W.cell? ⟨g,i*2+1,zp⟩=zq (St c.2)
theorem RowCl.keep {p:Option Addr} {l:List (List UInt8×List UInt8)} {a b:zA} (h:RowCl p l a) (c:CellsKept a b):RowCl p l b:=λk d j=>let ⟨f,e,g,i⟩:=h k d j;⟨f,e,c.cell g,c.cell i⟩
theorem GatL.row {g:Nat} {l:List (List UInt8×List UInt8)} {d:zA} (h:GatL g l d):∃p cap,d.cell? ⟨g,0,zp⟩=zq (z7 p l.length cap)/\d.ownsRow (g+1) 257 2 (z7 p l.length cap) l.length (zbj l)/\RowCl p l d:=by
 obtain⟨r,i,c⟩:=h.cls;rcases Nat.eq_zero_or_pos l.length with b|b
 ·rcases c.2 with⟨rfl,q⟩|⟨k,n,o,rfl,_⟩
  ·refine⟨zp,0,by rw[b];exact i,by rw[b] at c⊢;exact c,λe f a=>?_⟩
   rw[List.length_eq_zero_iff.1 b] at a;simp at a
  ·refine⟨_,n,i,c,λe f a=>?_⟩
   rw[List.length_eq_zero_iff.1 b] at a;simp at a
 ·obtain⟨k,f,rfl, -,m⟩:=zye c b
  refine⟨_,f,i,c,λe j a=>⟨k,rfl,?_,?_⟩⟩
  ·exact m _ _ (zpb l e j a).1
  ·exact m _ _ (zpb l e j a).2
structure AdnS (W:zA) (x xr:List UInt8) (l:List (List UInt8×List UInt8)) (n:Nat) (v0:Value) (gb:Nat) (b:Nat×Value) (f:Nat->Bool) (X:zA):Prop where
 pre:f 11=zu->qL W X
 new:f 11=zu->f 10=zt->X.cell? ⟨b.1,0,zp⟩=zq (St x)/\X.cell? ⟨b.1,1,zp⟩=zq (St xr)
 post:f 11=zt->∃Y Z,qL W Y/\Y.grownBy Z v0.ownBlock/\Z.ownsRow (gb+1) 257 2 b.2 (n+1) (zbj l++[St x,St xr])/\X=if f 14=zt then Z.setCell ⟨gb,0,zp⟩ b.2 else Z
theorem AdnS.congr {c:zA} {x i:List UInt8} {l:List (List UInt8×List UInt8)} {n:Nat} {e:Value} {d:Nat} {b:Nat×Value} {f g:Nat->Bool} {X:zA} (h:AdnS c x i l n e d b f X) (j:g 10=f 10) (a:g 11=f 11) (k:g 14=f 14):AdnS c x i l n e d b g X:=
 ⟨by rw[a];exact h.pre,by rw[j,a];exact h.new,by rw[a,k];exact h.post⟩
theorem zot (d:Nat) (l:List (List UInt8×List UInt8)) (x m:List UInt8) (ba:l.length<=5000)
 (R:Hid (∀(i:Nat) (c:List UInt8×List UInt8),l[i]? =zq c->∃k,qK 163 #[St m,St c.2] (ze #[z8 k,zg zu,zj zm 0])))
 (w:zA) (ai:Hid (Wd w)) (T:Hid (GatL d l w)):
 zC zF 174 #[zf (zq ⟨d,0,zp⟩),zh #[St x,St m]] w λe w'=>e=zo (zj zm 0)/\zB d w w'/\GatL d (l++[(x,m)]) w':=by
 obtain⟨bf,q,bc,bd,be⟩:=info_parts zx5;obtain⟨F,C,S,au,ay⟩:=T.row;have a6:=zbe S;obtain⟨ak,I⟩:=zzX (w.alloc (zn #[St x,St m] 58));have a0:qL w ak:=by rw[I];exact(zM _ w).alloc (zN _) _
 have G:ak.heap[w.heap.size]? =zq (zn #[St x,St m] 58 (0,0)):=by rw[I];exact zG w _
 have B:=zai a0 S;rw[I] at B;have aj:=hid I.symm;have ac:=hid a0;have ab:=hid G;have af:=hid ay;have Q:=hid au;have O:=hid S;obtain⟨o,a7⟩:=zzX l.length;rw[<-a7] at B ba Q O;have ae:=hid a7;clear I a0 G ay au S a7;go_enter Tryz.func174,Tryz.ntmps174;go_wp21;rw[aj.out];clear B aj;go_loopw [19] (λi wr=>∃(k:Nat),k<=o/\i=zj zm (k:Int)/\Hid (qL w wr)/\Hid (wr.heap[w.heap.size]? =zq (zn #[St x,St m] 58 (0,0))))
  (λi _=>o-(zL i).toNat)
 case atStart=>exact⟨0,zR _,rfl,ac,ab⟩
 case round=>
  obtain⟨k,b8,rfl,u,Y⟩:=hrel;by_cases a6:k<o
  ·obtain⟨c,a3⟩:∃c,l[k]? =zq c:=⟨_,yB (by rw[<-ae.out];exact a6)⟩
   obtain⟨A,rfl,B,c1⟩:=(af.keep (zac u.out)) k c a3;obtain⟨L,al⟩:=R k c a3;obtain⟨a',a8⟩:=c;have U:=hid al;clear al a3;simp only at B c1 U;obtain⟨M,J⟩:=zzX (wr.alloc (zn #[St a',St a8] 257));have a1:qL wr M:=by rw[J];exact(zM _ wr).alloc (zN _) _
   have G:M.heap[wr.heap.size]? =zq (zn #[St a',St a8] 257 (0,0)):=by rw[J];exact zG wr _
   have V:=zac a1 _ _ _ _ Y.out;have aq:M.cell? ⟨wr.heap.size,1,zp⟩=zq (St a8):=by rw[zJ G];rfl
   have az:M.cell? ⟨w.heap.size,1,zp⟩=zq (St m):=by rw[zJ V];rfl
   have N:=hid (u.trans (a1.mono u.size));have ag:=hid V;rw[J] at aq az;have ah:=hid J.symm;clear J a1 G V;go_wp21;rw[ah.out];clear aq az ah B c1;refine zzM (U M (ai.below N.out)) λbp a2=>?_;have b5:=hid (N.trans (a2.mono N.size));have b6:=hid (zac a2 _ _ _ _ ag.out);clear a2 U N ag;go_wp21;go_roundw
   case rel=>exact⟨k+1,by omega,by go_num,b5,b6⟩
   case measure=>simp[zL];omega
  ·have b9:k=o:=by omega
   go_wp21;have ao:∀w':zA,qL wr w'->w'.cell? ⟨d,0,zp⟩=zq (z7 F o C)/\w'.cell? ⟨w.heap.size,0,zp⟩=zq (St x)/\w'.cell? ⟨w.heap.size,1,zp⟩=zq (St m):=λw' Z=>
    ⟨zai Z (zai u O.out),zai Z (by rw[zJ Y.out];rfl),zai Z (by rw[zJ Y.out];rfl)⟩
   have z:=hid ao;have ad:=hid ((zac u.out).frozen O T.fr);have b1:=hid (zcj (zac u.out) Q.out);have bn:d<w.heap.size:=zbe O.out;have bo:=u.size;have ap:zq d≠(z7 F o C).ownBlock:=λe=>by have:=(Q.lt _ e.symm).1;omega
   have P:=hid ap;clear ao ap af T R b9 b8 a6 ai ac ab;refine zc4 (λ(n:Nat×Value) i=>([zf (zq ⟨d,0,zp⟩),zf (zq ⟨d,0,zp⟩),zf (zq ⟨d,0,zp⟩),zf (zq ⟨d,0,zp⟩),z7 F o C,zf (zq ⟨w.heap.size,0,zp⟩),St x,zf (zq ⟨w.heap.size,1,zp⟩),St m,zh #[St x,St m],z7 (zq ⟨n.1,0,zp⟩) 1 1,n.2,zf (zq ⟨d,0,zp⟩),zf (zq ⟨d,0,zp⟩)]:List Value).getD i undef) (AdnS wr x m l o (z7 F o C) d) (by kernel_rfl) (by kernel_rfl) (0,z7 zp 0 0) ⟨λ_=>(zM _ wr).drew,λ_ b=>(by cases b),λb=>(by cases b)⟩ λn=>?_;refine qB (zf (zq ⟨d,0,zp⟩)) (λh g b=>b.congr rfl rfl rfl) ?_;refine qB (zf (zq ⟨d,0,zp⟩)) (λh g b=>b.congr rfl rfl rfl) ?_;refine qB (zf (zq ⟨d,0,zp⟩)) (λh g b=>b.congr rfl rfl rfl) ?_;simp only[zzQ];refine qB (zf (zq ⟨d,0,zp⟩)) (λh g b=>b.congr rfl rfl rfl) ?_;refine qB (z7 F o C) (λh g b=>b.congr rfl rfl rfl) ?_ (hy:=λh g f b=>by have A:=z _ (b.pre (f.no (j:=11) f.self (by kernel_rfl)));obtain⟨av,aw,ax⟩:=A;go_simp);refine qB (zf (zq ⟨w.heap.size,0,zp⟩)) (λh g b=>b.congr rfl rfl rfl) ?_;simp only[zzQ];refine qB (St x) (λh g b=>b.congr rfl rfl rfl) ?_ (hy:=λh g f b=>by have A:=z _ (b.pre (f.no (j:=11) (f.no (j:=10) (f.no (j:=9) f.self (by kernel_rfl)) (by kernel_rfl)) (by kernel_rfl)));obtain⟨av,aw,ax⟩:=A;go_simp);refine qB (zf (zq ⟨w.heap.size,1,zp⟩)) (λh g b=>b.congr rfl rfl rfl) ?_;refine qB (St m) (λh g b=>b.congr rfl rfl rfl) ?_ (hy:=λh g f b=>by have A:=z _ (b.pre (f.no (j:=11) (f.no (j:=10) (f.no (j:=9) f.self (by kernel_rfl)) (by kernel_rfl)) (by kernel_rfl)));obtain⟨av,aw,ax⟩:=A;go_simp);simp only[zzQ];refine qB (zh #[St x,St m]) (λh g b=>b.congr rfl rfl rfl) ?_;simp only[zzQ]
   refine zdc (z7 (zq ⟨n.1,0,zp⟩) 1 1) (by rfl) (by rfl) (λh g f b aa H=>by
    have s:=(f.no (j:=11) f.self (by kernel_rfl));have E:=b.pre s;have ha:qL g (g.alloc (zn #[St x,St m] 257)):=(zM _ g).alloc (zN _) _;have a9:=zG g (zn #[St x,St m] 257);have:=H (g.heap.size,n.2) (g.alloc (zn #[St x,St m] 257)) (λi q=>?_) ⟨λ_=>E.trans (ha.mono E.size),λ_ _=>⟨by rw[zJ a9];rfl,by rw[zJ a9];rfl⟩,λk=>(by have y:h 11=zt:=k;rw[s] at y;cases y)⟩
    ·go_simp
     exact this
    ·match i,q with
     |0,_|1,_|2,_|3,_|4,_|5,_|6,_|7,_|8,_|9,_|11,_|12,_|13,_=>rfl
     |10,q=>rw[f.self] at q;cases q
     |_+14,_=>rfl) ?_
   try simp only[zzQ]
   refine zdc n.2 (by rfl) (by rfl) (λh g f b aa H=>by
    have s:=f.self;have X:=(f.no (j:=14) f.self (by kernel_rfl));have b4:=f.done 10 (by kernel_rfl);have E:=b.pre s;obtain⟨bg,bh⟩:=b.new s b4;refine zmb _ g _ _ 252 rfl (d+1) 257 bf (zh #[St [],St []]) 2 32 Tryz.underlying252 q bc bd be rfl (by decide) (z7 F o C) o (zbj l) rfl (zcj (zac E) b1.out) ⟨n.1,0,zp⟩ 1 1 [St x,St m] rfl rfl (λi bi p=>?_) (λbi p=>?_) (by unfold maxLen;omega) (by omega) (by have:=E.size;omega) (λbj w' bb b7=>?_)
    ·match i,p with
     |0,p=>simp at p;subst p;exact bg
     |1,p=>simp at p;subst p;exact bh
     |_+2,p=>simp at p
    ·simp at p;rcases p with rfl|rfl<;>rfl
    ·refine H (n.1,bj) w' (λi q=>?_) ⟨λk=>?_,λk=>?_,λ_=>⟨g,w',E,b7,bb,?_⟩⟩
     ·match i,q with
      |0,_|1,_|2,_|3,_|4,_|5,_|6,_|7,_|8,_|9,_|10,_|12,_|13,_=>rfl
      |11,q=>rw[f.self] at q;cases q
      |_+14,_=>rfl
     ·cases k
     ·cases k
     ·show w'=if h 14=zt then _ else w'
      rw[X];rfl) ?_
   refine qB (zf (zq ⟨d,0,zp⟩)) (λh g b=>b.congr rfl rfl rfl) ?_;refine qB (zf (zq ⟨d,0,zp⟩)) (λh g b=>b.congr rfl rfl rfl) ?_;simp only[zzQ]
   refine zbv undef (by rfl) (by rfl) (λh g f b aa H=>by
    have s:=f.done 11 (by kernel_rfl);have X:=f.self;obtain⟨W,r,t,v,K,rfl⟩:=b.post s;rw[X,if_neg (by simp)] at*
    have D:=(z _ t).1;have a4:=v.cell D P.out;have a5:r.frozen? ⟨d,0,zp⟩=zu:=by
     rw[World.frozen?_of_block (a:=⟨d,0,zp⟩) (v.block _ (zbe D) P.out)];exact(zac t).frozen (z _ (zM _ wr)).1 ad.out
    have:=H (r.setCell ⟨d,0,zp⟩ n.2) ⟨λk=>(by have y:h 11=zu:=k;rw[s] at y;cases y),λk=>(by have y:h 11=zu:=k;rw[s] at y;cases y),λ_=>⟨W,r,t,v,K,rfl⟩⟩;obtain⟨L,ar,c,b2⟩:∃L ar c,n.2=z7 L ar c:=by
     rcases K.2 with⟨e,_⟩|⟨A,bl,bm,e,_⟩<;>exact⟨_,_,_,e⟩
    rw[b2] at this;go_simp;exact this) ?_
   try simp only[Act.put]
   refine ze1 λh bk f b=>?_;obtain⟨W,r,t,v,K,rfl⟩:=b.post (f 11 (by decide));rw[if_pos (f 14 (by decide))];have D:=(z _ t).1;have a4:=v.cell D P.out;have a5:r.frozen? ⟨d,0,zp⟩=zu:=by
    rw[World.frozen?_of_block (a:=⟨d,0,zp⟩) (v.block _ (zbe D) P.out)];exact(zac t).frozen (z _ (zM _ wr)).1 ad.out
   have am:zB d w (r.setCell ⟨d,0,zp⟩ n.2):=by
    have b3:zB d w W:=(u.mono (by omega)).trans (t.mono (by omega));exact(b3.grown v (by have:=t.size;omega) (λL e=>by have:=(Q.lt L e).1;omega)).setCell (by simp) _
   have an:GatL d (l++[(x,m)]) (r.setCell ⟨d,0,zp⟩ n.2):=by
    refine⟨⟨n.2,za9 a4,?_⟩,by rw[World.frozen?_setCell];exact a5⟩;rw[zjb,List.length_append,<-ae.out];show World.ownsRow _ _ _ _ _ (o+1) (zbj l++[St x,St m]);exact ownsRow_setCell_below K (by simp) _
   have b0:=hid (⟨am,an⟩:zB d w (r.setCell ⟨d,0,zp⟩ n.2)/\GatL d (l++[(x,m)]) (r.setCell ⟨d,0,zp⟩ n.2));clear am an a4 a5 t v K b f D;go_wp21;go_ret;exact⟨rfl,b0.out⟩
theorem z4d:∀(l:List (List UInt8×List UInt8)) (k:Nat) (c:List UInt8×List UInt8),zbj (l.set k c)=((zbj l).set (k*2) (St c.1)).set (k*2+1) (St c.2)
 |[],_,_=>rfl
 |_::_,0,_=>rfl
 |d::l,k+1,c=>by
  rw[show(k+1)*2=k*2+1+1 by omega];simp[zbj,z4d l k c]
theorem z42 {b:zA} {B g n cap:Nat} {e:TypeId} {d:Nat} {xs:List Value} (h:b.ownsRow B e d (z7 (zq ⟨g,0,zp⟩) n cap) n xs) (i:Nat):b.frozen? ⟨g,i,zp⟩=zu:=by
 rcases h.2 with⟨a,_⟩|⟨k,f,j,a,_,c,_⟩
 ·cases a
 ·cases a;exact Go.Joins.unfrozen_of_block c i
theorem z6l {c:zA} {B g n cap k:Nat} {e:TypeId} {l:List (List UInt8×List UInt8)} {z b:List UInt8} (h:c.ownsRow B e 2 (z7 (zq ⟨g,0,zp⟩) n cap) n (zbj l)) (q:n=l.length) (_:k<n):
 ((c.setCell ⟨g,k*2,zp⟩ (St z)).setCell ⟨g,k*2+1,zp⟩ (St b)).ownsRow B e 2 (z7 (zq ⟨g,0,zp⟩) n cap) n (zbj (l.set k (z,b))):=by
 refine⟨by rw[zn8,List.length_set,q],?_⟩;rcases h.2 with⟨a,_⟩|⟨t,r,s,a,d,p,f,j,m,o⟩
 ·cases a
 ·cases a
  refine .inr ⟨g,cap,_,rfl,d,zK (i:=k*2+1) (zK (i:=k*2) p (St z)) (St b),f,j,by simpa using m,?_⟩;rw[z4d,<-o];simp[List.take_set]
theorem yk1 (n:Nat) (l:List (List UInt8×List UInt8)) (x h y q z r:List UInt8) (ce:ByteArray) (j:Nat) (bp:Int) (o:Bool) (cc:l.length<=5000) (an:l[j]? =zq (y,q)) (cu:decide (bp<0)=o)
 (R:Hid (∀(i:Nat) (c:List UInt8×List UInt8),i<j->l[i]? =zq c->∃k,qK 163 #[St h,St c.2] (ze #[z8 k,zg zu,zj zm 0])))
 (b4:Hid (qK 163 #[St h,St q] (ze #[z8 ce,zg zt,zj zm 0])))
 (aq:Hid (qK 160 #[St h,St q] (ze #[zj zm bp,zj zm 0])))
 (P:Hid (qK 215 #[bif o then zh #[St x,St h] else zh #[St y,St q],bif o then zh #[St y,St q] else zh #[St x,St h]] (ze #[zh #[St z,St r],zj zm 0])))
 (w:zA) (a4:Hid (Wd w)) (ac:Hid (GatL n l w)):
 zC zF 174 #[zf (zq ⟨n,0,zp⟩),zh #[St x,St h]] w λe w'=>e=zo (zj zm 0)/\zB n w w'/\GatL n (l.set j (z,r)) w':=by
 obtain⟨cw,a5,a6,bq,W⟩:=ac.row;have bg:=zbe a6;obtain⟨b6,Q⟩:=zzX (w.alloc (zn #[St x,St h] 58));have al:qL w b6:=by rw[Q];exact(zM _ w).alloc (zN _) _
 have v:b6.heap[w.heap.size]? =zq (zn #[St x,St h] 58 (0,0)):=by rw[Q];exact zG w _
 have B:=zai al a6;rw[Q] at B;have b1:=hid Q.symm;have aw:=hid al;have au:=hid v;have a2:=hid W;have a':=hid bq;have a0:=hid a6;obtain⟨F,a8⟩:=zzX l.length;have cs:j<F:=by rw[a8];exact(List.getElem?_eq_some_iff.1 an).1
 rw[<-a8] at B cc a' a0;have ae:=hid a8;have ax:=hid an;clear Q al v W bq a6 a8 an;go_enter Tryz.func174,Tryz.ntmps174;go_wp21;rw[b1.out];clear B b1;go_loopw [19] (λi wr=>∃(k:Nat),k<=j/\i=zj zm (k:Int)/\Hid (qL w wr)/\Hid (wr.heap[w.heap.size]? =zq (zn #[St x,St h] 58 (0,0))))
  (λi _=>F-(zL i).toNat)
 case atStart=>exact⟨0,zR _,rfl,aw,au⟩
 case round=>
  obtain⟨k,ct,rfl,E,ak⟩:=hrel;have bg:k<F:=by omega
  by_cases hkj:k<j
  ·obtain⟨c,am⟩:∃c,l[k]? =zq c:=⟨_,yB (by rw[<-ae.out];exact bg)⟩
   obtain⟨b,rfl,B,c1⟩:=(a2.keep (zac E.out)) k c am;obtain⟨cx,bc⟩:=R k c hkj am;obtain⟨bz,ao⟩:=c;have af:=hid bc;clear bc am;simp only at B c1 af;obtain⟨u,t⟩:=zzX (wr.alloc (zn #[St bz,St ao] 257));have a1:qL wr u:=by rw[t];exact(zM _ wr).alloc (zN _) _
   have v:u.heap[wr.heap.size]? =zq (zn #[St bz,St ao] 257 (0,0)):=by rw[t];exact zG wr _
   have I:=zac a1 _ _ _ _ ak.out;have T:u.cell? ⟨wr.heap.size,1,zp⟩=zq (St ao):=by rw[zJ v];rfl
   have J:u.cell? ⟨w.heap.size,1,zp⟩=zq (St h):=by rw[zJ I];rfl
   have A:=hid (E.trans (a1.mono E.size));have M:=hid I;rw[t] at T J;have N:=hid t.symm;clear t a1 v I;go_wp21;rw[N.out];clear T J N B c1;refine zzM (af u (a4.below A.out)) λd C=>?_;have c8:=hid (A.trans (C.mono A.size));have ca:=hid (zac C _ _ _ _ M.out);clear C af A M;go_wp21;go_roundw
   case rel=>exact⟨k+1,by omega,by go_num,c8,ca⟩
   case measure=>simp[zL];omega
  ·have cb:k=j:=by omega
   subst cb;obtain⟨b,rfl,B,c1⟩:=(a2.keep (zac E.out)) k (y,q) ax.out;simp only at B c1;obtain⟨u,t⟩:=zzX (wr.alloc (zn #[St y,St q] 257));have cv:wr.heap.size+1=u.heap.size:=by rw[t];simp
   have a1:qL wr u:=by rw[t];exact(zM _ wr).alloc (zN _) _
   have v:u.heap[wr.heap.size]? =zq (zn #[St y,St q] 257 (0,0)):=by rw[t];exact zG wr _
   have I:=zac a1 _ _ _ _ ak.out;have T:u.cell? ⟨wr.heap.size,1,zp⟩=zq (St q):=by rw[zJ v];rfl
   have J:u.cell? ⟨w.heap.size,1,zp⟩=zq (St h):=by rw[zJ I];rfl
   have A:=hid (E.trans (a1.mono E.size));have M:=hid I;have ay:=hid v;rw[t] at T J;have N:=hid t.symm;clear t a1 v I;go_wp21;rw[N.out];clear T J N B c1;refine zzM (b4 u (a4.below A.out)) λd C=>?_;have ab:=hid (A.trans (C.mono A.size));have ag:=hid (zac C _ _ _ _ M.out);have bh:wr.heap.size<d.heap.size:=Nat.lt_of_lt_of_le (by omega) C.size;have az:=hid (zac C _ _ _ _ ay.out);clear C b4 A M ay;have cl:d.cell? ⟨w.heap.size,0,zp⟩=zq (St x):=by rw[zJ ag.out];rfl
   have J:d.cell? ⟨w.heap.size,1,zp⟩=zq (St h):=by rw[zJ ag.out];rfl
   obtain⟨X,S⟩:=zzX (d.alloc (zn #[St x,St h] 257));have aj:qL d X:=by rw[S];exact(zM _ d).alloc (zN _) _
   have aa:X.heap[d.heap.size]? =zq (zn #[St x,St h] 257 (0,0)):=by rw[S];exact zG d _
   have Y:=hid (ab.trans (aj.mono ab.size));have ad:=hid (zac aj _ _ _ _ az.out);have V:X.cell? ⟨wr.heap.size,1,zp⟩=zq (St q):=by rw[zJ ad.out];rfl
   have bs:X.cell? ⟨d.heap.size,1,zp⟩=zq (St h):=by rw[zJ aa];rfl
   rw[S] at V bs;have av:=hid aa;have b2:=hid S.symm;clear S aj aa;go_wp21;rw[b2.out];clear cl J V bs b2 ab az ag;refine zzM (aq X (a4.below Y.out)) λs a7=>?_;have Z:=hid (Y.trans (a7.mono Y.size));have H:=hid (zac a7 _ _ _ _ ad.out);have G:=hid (zac a7 _ _ _ _ av.out);clear a7 Y ad av aq;have cd:=E.size;have bi:s.cell? ⟨wr.heap.size,0,zp⟩=zq (St y):=by rw[zJ H.out];rfl
   have bj:s.cell? ⟨wr.heap.size,1,zp⟩=zq (St q):=by rw[zJ H.out];rfl
   have br:s.cell? ⟨d.heap.size,0,zp⟩=zq (St x):=by rw[zJ G.out];rfl
   have V:s.cell? ⟨d.heap.size,1,zp⟩=zq (St h):=by rw[zJ G.out];rfl
   cases o
   case' true=>
    have cp:wr.heap.size<d.heap.size:=bh;have c5:s.frozen? ⟨wr.heap.size,0,zp⟩=zu:=Go.Joins.unfrozen_of_block H 0;have b9:s.frozen? ⟨wr.heap.size,1,zp⟩=zu:=Go.Joins.unfrozen_of_block H 1;have ba:s.frozen? ⟨d.heap.size,0,zp⟩=zu:=Go.Joins.unfrozen_of_block G 0;have bb:s.frozen? ⟨d.heap.size,1,zp⟩=zu:=Go.Joins.unfrozen_of_block G 1;obtain⟨K,L⟩:=zzX ((((s.setCell ⟨wr.heap.size,0,zp⟩ (St x)).setCell ⟨wr.heap.size,1,zp⟩ (St h)).setCell ⟨d.heap.size,0,zp⟩ (St y)).setCell ⟨d.heap.size,1,zp⟩ (St q));have ah:K.heap[wr.heap.size]? =zq (zn #[St x,St h] 257 (0,0)):=by
     rw[L,yE _ _ _ _ (by show wr.heap.size≠d.heap.size;omega),yE _ _ _ _ (by show wr.heap.size≠d.heap.size;omega)];exact zK (i:=1) (zK (i:=0) H _) _
    have ai:K.heap[d.heap.size]? =zq (zn #[St y,St q] 257 (0,0)):=by
     have c7:((s.setCell ⟨wr.heap.size,0,zp⟩ (St x)).setCell ⟨wr.heap.size,1,zp⟩ (St h)).heap[d.heap.size]? =zq (zn #[St x,St h] 257 (0,0)):=by
      rw[yE _ _ _ _ (by show d.heap.size≠wr.heap.size;omega),yE _ _ _ _ (by show d.heap.size≠wr.heap.size;omega)];exact G.out
     rw[L];exact zK (i:=1) (zK (i:=0) c7 _) _
    have b5:qL w K:=by
     rw[L];exact(((Z.setCell (by show w.heap.size<=wr.heap.size;omega) _).setCell (by show w.heap.size<=wr.heap.size;omega) _).setCell (by show w.heap.size<=d.heap.size;omega) _).setCell (by show w.heap.size<=d.heap.size;omega) _
    have bt:K.cell? ⟨wr.heap.size,0,zp⟩=zq (St x):=by rw[zJ ah];rfl
    have bu:K.cell? ⟨wr.heap.size,1,zp⟩=zq (St h):=by rw[zJ ah];rfl
    have bv:K.cell? ⟨d.heap.size,0,zp⟩=zq (St y):=by rw[zJ ai];rfl
    have bw:K.cell? ⟨d.heap.size,1,zp⟩=zq (St q):=by rw[zJ ai];rfl
    rw[L] at bt bu bv bw;have u1:(s.setCell ⟨wr.heap.size,0,zp⟩ (St x)).frozen? ⟨wr.heap.size,1,zp⟩=zu:=by rw[World.frozen?_setCell];exact b9
    have u2:((s.setCell ⟨wr.heap.size,0,zp⟩ (St x)).setCell ⟨wr.heap.size,1,zp⟩ (St h)).frozen? ⟨d.heap.size,0,zp⟩=zu:=by rw[World.frozen?_setCell,World.frozen?_setCell];exact ba
    have u3:(((s.setCell ⟨wr.heap.size,0,zp⟩ (St x)).setCell ⟨wr.heap.size,1,zp⟩ (St h)).setCell ⟨d.heap.size,0,zp⟩ (St y)).frozen? ⟨d.heap.size,1,zp⟩=zu:=by rw[World.frozen?_setCell,World.frozen?_setCell,World.frozen?_setCell];exact bb
    have b0:=hid L.symm;have a3:=hid b5;clear L ah ai b5;go_wp21;rw[b0.out];clear bi bj br V c5 b9 ba bb bt bu bv bw u1 u2 u3 b0 Z H G
   case' false=>
    have a3:=Z;clear Z H G cd bh;go_wp21;clear bi bj br V
   all_goals
    refine zzM (P _ (a4.below a3.out)) λD bd=>?_;have ar:=qT a3 bd;clear bd a3 P;obtain⟨g,a9⟩:=zzX (D.alloc (zn #[St z,St r] 257));have b7:qL D g:=by rw[a9];exact(zM _ D).alloc (zN _) _
    have ap:g.heap[D.heap.size]? =zq (zn #[St z,St r] 257 (0,0)):=by rw[a9];exact zG D _
    have O:=ar.trans (b7.mono ar.size);have b3:=hid a9.symm;clear a9 b7;go_wp21;rw[b3.out];clear b3;obtain⟨c6,b8,W,bx⟩:=(a2.keep (zac O)) k (y,q) ax.out;obtain rfl:b=c6:=by cases b8;rfl
    have cr:n<w.heap.size:=zbe a0.out;have bk:g.drew.cell? ⟨n,0,zp⟩=zq (z7 (zq ⟨b,0,zp⟩) F a5):=zai O a0.out;have bl:g.drew.cell? ⟨b,k*2,zp⟩=zq (St y):=W;have bm:g.drew.cell? ⟨b,k*2+1,zp⟩=zq (St q):=bx;have U:g.drew.ownsRow (n+1) 257 2 (z7 (zq ⟨b,0,zp⟩) F a5) F (zbj l):=zcj (zac O) a'.out;have cq:n<b:=(U.lt b rfl).1;have bn:g.drew.frozen? ⟨b,k*2,zp⟩=zu:=z42 U _;have bo:g.drew.frozen? ⟨b,k*2+1,zp⟩=zu:=z42 U _;have cf:g.drew.cell? ⟨D.heap.size,0,zp⟩=zq (St z):=by rw[zJ (show g.drew.heap[D.heap.size]? =_ from ap)];rfl
    have cg:g.drew.cell? ⟨D.heap.size,1,zp⟩=zq (St r):=by rw[zJ (show g.drew.heap[D.heap.size]? =_ from ap)];rfl
    have ch:g.cell? ⟨b,k*2,zp⟩=zq (St y):=bl;have ci:g.cell? ⟨b,k*2+1,zp⟩=zq (St q):=bm;have cj:g.frozen? ⟨b,k*2,zp⟩=zu:=bn;have ck:g.frozen? ⟨b,k*2+1,zp⟩=zu:=bo;have c2:=hid ((zac O).frozen a0 ac.fr);have c4:=hid U;have c3:=hid bk;have b':=hid O;clear R a2 aw au ac W bx b8 U ak E;refine zc4 (λ(_:Unit) i=>([zf (zq ⟨n,0,zp⟩),zf (zq ⟨n,0,zp⟩),zf (zq ⟨n,0,zp⟩),z7 (zq ⟨b,0,zp⟩) F a5,zj zm (k:Int),zh #[St z,St r],zf (zq ⟨b,k*2,zp⟩)]:List Value).getD i undef) (λ_ m p=>(m 7=zu->p=g.drew)/\(m 7=zt->p=((g.drew.setCell ⟨b,k*2,zp⟩ (St z)).setCell ⟨b,k*2+1,zp⟩ (St r)))) (by kernel_rfl) (by kernel_rfl) () ⟨λ_=>rfl,λa=>(by cases a)⟩ λco=>?_;refine qB (zf (zq ⟨n,0,zp⟩)) (λm p a=>⟨a.1,a.2⟩) ?_ (hy:=λm p f a=>by
     obtain rfl:=a.1 (f.no (j:=7) f.self (by kernel_rfl));go_simp)
    refine qB (zf (zq ⟨n,0,zp⟩)) (λm p a=>⟨a.1,a.2⟩) ?_ (hy:=λm p f a=>by
     obtain rfl:=a.1 (f.no (j:=7) f.self (by kernel_rfl));go_simp)
    refine qB (zf (zq ⟨n,0,zp⟩)) (λm p a=>⟨a.1,a.2⟩) ?_ (hy:=λm p f a=>by
     obtain rfl:=a.1 (f.no (j:=7) f.self (by kernel_rfl));go_simp)
    try simp only[zzQ]
    refine qB (z7 (zq ⟨b,0,zp⟩) F a5) (λm p a=>⟨a.1,a.2⟩) ?_ (hy:=λm p f a=>by
     obtain rfl:=a.1 (f.no (j:=7) f.self (by kernel_rfl));go_simp)
    refine qB (zj zm (k:Int)) (λm p a=>⟨a.1,a.2⟩) ?_ (hy:=λm p f a=>by
     obtain rfl:=a.1 (f.no (j:=7) f.self (by kernel_rfl));go_simp)
    refine qB (zh #[St z,St r]) (λm p a=>⟨a.1,a.2⟩) ?_ (hy:=λm p f a=>by
     obtain rfl:=a.1 (f.no (j:=7) f.self (by kernel_rfl));go_simp)
    try simp only[zzQ]
    refine qB (zf (zq ⟨b,k*2,zp⟩)) (λm p a=>⟨a.1,a.2⟩) ?_ (hy:=λm p f a=>by
     obtain rfl:=a.1 (f.no (j:=7) f.self (by kernel_rfl));go_simp)
    try simp only[zzQ]
    refine zbv undef (by rfl) (by rfl) (λm p f a cm c9=>by
     obtain rfl:=a.1 f.self;have:=c9 ((g.drew.setCell ⟨b,k*2,zp⟩ (St z)).setCell ⟨b,k*2+1,zp⟩ (St r)) ⟨λk=>(by cases k),λ_=>rfl⟩;go_simp;exact this) ?_
    try simp only[Act.put]
    refine ze1 λm cn f a=>?_;obtain rfl:=a.2 (f 7 (by decide));have be:zB n w ((g.drew.setCell ⟨b,k*2,zp⟩ (St z)).setCell ⟨b,k*2+1,zp⟩ (St r)):=
     (((b'.mono (by omega)).drew).setCell (by simp;omega) _).setCell (by simp;omega) _
    have bf:GatL n (l.set k (z,r)) ((g.drew.setCell ⟨b,k*2,zp⟩ (St z)).setCell ⟨b,k*2+1,zp⟩ (St r)):=by
     refine⟨⟨_,by rw[zau _ _ _ _ (by omega),zau _ _ _ _ (by omega)];exact c3.out,?_⟩,?_⟩
     ·rw[List.length_set,<-ae.out];exact z6l c4 ae (by omega)
     ·rw[World.frozen?_setCell,World.frozen?_setCell];exact c2.out
    have c0:=hid (⟨be,bf⟩:zB n w ((g.drew.setCell ⟨b,k*2,zp⟩ (St z)).setCell ⟨b,k*2+1,zp⟩ (St r))/\GatL n (l.set k (z,r)) ((g.drew.setCell ⟨b,k*2,zp⟩ (St z)).setCell ⟨b,k*2+1,zp⟩ (St r)));clear be bf bk bl bm bn bo cf cg ch ci cj ck a f;go_wp21;go_ret;exact⟨rfl,c0.out⟩
structure VisC (gb:Nat) (c r:List UInt8) (S S':zA->Prop) (one:Bool) (k n m:List UInt8) (ln:Int):Prop where
 cz:(c==[48])=zu
 rz:(r==[48])=zu
 n1:(r==[49])=one
 kn:one=zt->k=[49]/\n=r
 norm:one=zu->∀W:zA,Wd W->Pw W->qJ 201 #[St r] W (ze #[St k,St n,zj zm 0])
 lng:qK 175 #[St n] (zj zm ln)
 ln9:decide (90<ln)=zu
 mul:qK 106 #[St c,St k] (ze #[St m,zj zm 0])
 keep:∀W W':zA,S W->qL W W'->S W'
 each:∀W:zA,Wd W->S W->zC zF 174 #[zf (zq ⟨gb,0,zp⟩),zh #[St m,St n]] W λe w'=>e=zo (zj zm 0)/\zB gb W w'/\S' w'
theorem yg3 (g:Nat) (p:Option Addr) (cap n:Nat) (X I:Nat->List UInt8) (S:Nat->zA->Prop) (ae:n<=5000)
 (V:Hid (∀i,i<n->∃M k n m a2,VisC g (X i) (I i) (S i) (S (i+1)) M k n m a2))
 (w:zA) (Y:g<=w.heap.size) (q:Hid (∀t,zB g w t->Wd t)) (a7:Hid (∀t,zB g w t->Pw t)) (W:S 0 w)
 (H:Hid (∀i,i<n->∃b off,p=zq ⟨b,off,zp⟩/\b<g/\w.cell? ⟨b,off+i*2,zp⟩=zq (St (X i))/\w.cell? ⟨b,off+i*2+1,zp⟩=zq (St (I i)))):
 zC zF 173 #[z7 p n cap,.func (.func 174) #[zf (zq ⟨g,0,zp⟩)] #[]] w λe w'=>e=zo (zj zm 0)/\zB g w w'/\S n w':=by
 have a6:=hid (zM g w);have aa:=hid W;have a8:=hid Y;clear W Y;go_enter Tryz.func173,Tryz.ntmps173;go_wp21;go_loopw [13] (λi wr=>∃(k:Nat),k<=n/\i=zj zm (k:Int)/\Hid (zB g w wr)/\Hid (g<=wr.heap.size)/\Hid (S k wr))
  (λi _=>n-(zL i).toNat)
 case atStart=>exact⟨0,zR _,rfl,a6,a8,aa⟩
 case round=>
  obtain⟨k,ad,rfl,c,f,A⟩:=hrel;by_cases hlt:k<n
  ·obtain⟨b,off,rfl,K,T,c1⟩:=H k hlt
   obtain⟨M,af,ah,m,a2,s⟩:=V k hlt;have d:=hid s;generalize X k=u at*
   generalize I k=F at*
   have U:=s.cz;have a5:=s.rz;have a3:=s.n1;have ag:=s.ln9;have ab:wr.cell? ⟨b,off+k*2,zp⟩=zq (St u):=by rw[c.cell (p:=⟨b,off+k*2,zp⟩) K];exact T
   have ac:wr.cell? ⟨b,off+k*2+1,zp⟩=zq (St F):=by rw[c.cell (p:=⟨b,off+k*2+1,zp⟩) K];exact c1
   obtain⟨B,z⟩:=zzX (wr.alloc (zn #[St u,St F] 58));have a1:qL wr B:=by rw[z];exact(zM _ wr).alloc (zN _) _
   have D:B.heap[wr.heap.size]? =zq (zn #[St u,St F] 58 (0,0)):=by rw[z];exact zG wr _
   have r:B.cell? ⟨wr.heap.size,0,zp⟩=zq (St u):=by rw[zJ D];rfl
   have L:B.cell? ⟨wr.heap.size,1,zp⟩=zq (St F):=by rw[zJ D];rfl
   have Z:=r;have a0:=L;rw[z] at r L;have R:=hid z.symm;have Q:=hid a1;have P:=hid D;clear z a1 D s T c1 K;go_wp21;rw[R.out];clear ab ac r L R
   (refine wp_region_quiet_lit (by kernel_rfl) (by kernel_rfl) (WQ.out ?_);(repeat(first|(apply WQ.read (by rfl);(focus(rintro t ⟨n,rfl⟩;go_simp;try with_reducible rfl));try simp only[zzQ])|(apply WQ.skip (by rfl);try simp only[zzQ])));refine WQ.nil ?_;rintro _ ⟨a4,rfl⟩)
   have o:=hid (zao Q a4);have E:=hid (show(B.drewN a4).heap[wr.heap.size]? =_ from P.out);clear Q P;cases M
   ·go_wp21
    refine zzM (d.norm rfl _ (q _ (c.trans (o.mono f.out))) (a7 _ (c.trans (o.mono f.out)))) λai a=>?_;have j:=hid (o.trans (a.mono o.size));have v:=hid (zac a _ _ _ _ E.out);clear a o E Z a0 U a5 a3;go_wp21;refine zzM (d.lng _ (q _ (c.trans (j.mono f.out)))) λC a=>?_;have l:=hid (j.trans (a.mono j.size));have x:=hid (zac a _ _ _ _ v.out);clear a j v;have r:C.cell? ⟨wr.heap.size,0,zp⟩=zq (St u):=by rw[zJ x.out];rfl
    go_wp21;refine zzM (d.mul C (q _ (c.trans (l.mono f.out)))) λO a=>?_;have h:=hid (l.trans (a.mono l.size));clear a l x r;go_wp21;refine(d.each O (q _ (c.trans (h.mono f.out))) (d.keep _ _ A h.out)).mono ?_;rintro e u1 ⟨rfl,a,y⟩;have G:=hid ((c.trans (h.mono f.out)).trans a);have J:Hid (g<=u1.heap.size):=hid (zO f (zO h.size a.size));have N:=hid y;clear a y h A d H;go_wp21;go_roundw
    case rel=>exact⟨k+1,by omega,by go_num,G,J,N⟩
    case measure=>simp[zL];omega
   ·obtain⟨rfl,rfl⟩:=d.kn rfl
    have j:=o;have v:=E;clear o E;go_wp21;clear Z a0 U a5 a3;refine zzM (d.lng _ (q _ (c.trans (j.mono f.out)))) λC a=>?_;have l:=hid (j.trans (a.mono j.size));have x:=hid (zac a _ _ _ _ v.out);clear a j v;have r:C.cell? ⟨wr.heap.size,0,zp⟩=zq (St u):=by rw[zJ x.out];rfl
    go_wp21;refine zzM (d.mul C (q _ (c.trans (l.mono f.out)))) λO a=>?_;have h:=hid (l.trans (a.mono l.size));clear a l x r;go_wp21;refine(d.each O (q _ (c.trans (h.mono f.out))) (d.keep _ _ A h.out)).mono ?_;rintro e u1 ⟨rfl,a,y⟩;have G:=hid ((c.trans (h.mono f.out)).trans a);have J:Hid (g<=u1.heap.size):=hid (zO f (zO h.size a.size));have N:=hid y;clear a y h A d H;go_wp21;go_roundw
    case rel=>exact⟨k+1,by omega,by go_num,G,J,N⟩
    case measure=>simp[zL];omega
  ·have a9:k=n:=by omega
   subst a9;go_wp21;go_ret;exact⟨rfl,c.out,A.out⟩
def zin (l:List (List UInt8×List UInt8)):List (List UInt8×List UInt8):=l.filter λc=>!(c.1==[48])
def ziq (l:List (List UInt8×List UInt8)) (k:Nat):List (List UInt8×List UInt8):=zin (l.take k)
theorem z7n (l:List (List UInt8×List UInt8)):ziq l l.length=zin l:=by simp[ziq]
theorem z6s {l:List (List UInt8×List UInt8)} {k:Nat} {c:List UInt8×List UInt8} (h:l[k]? =zq c):ziq l (k+1)=ziq l k++(if(c.1==[48])=zt then[] else[c]):=by
 unfold ziq zin;rw[List.take_add_one,h,List.filter_append];cases hc:(c.1==[48])<;>simp[hc]
theorem z8a (l:List (List UInt8×List UInt8)) (k:Nat):(ziq l k).length<=l.length:=by
 have b:=List.length_filter_le (λa:List UInt8×List UInt8=>!(a.1==[48])) (l.take k);have c:(l.take k).length<=l.length:=by simp;omega
 unfold ziq zin;omega
theorem yih (p:Option Addr) (cap n:Nat) (X a0:Nat->List UInt8) (f a6:List (List UInt8×List UInt8)) (E:Nat) (cg:n<=256) (c7:f.length<=5000)
 (al:Hid (∀i,i<n->qK 104 #[St (X i)] (zj zm 0)))
 (b0:Hid (∀i,i<n->qK 104 #[St (a0 i)] (zj zm 0)))
 (a':Hid (∀i,i<n->∀v:zA,zC zF 172 #[St (a0 i),z8 ⟨#[45]⟩] v λe w'=>e=zo (zg zu)/\w'=v))
 (w:zA) (R:Hid (∀v,qL w v->Wd v))
 (aq:Hid (∀i,i<n->∃b off,p=zq ⟨b,off,zp⟩/\b<w.heap.size/\w.cell? ⟨b,off+i*2,zp⟩=zq (St (X i))/\w.cell? ⟨b,off+i*2+1,zp⟩=zq (St (a0 i))))
 (b1:Hid (∀u L:zA,qL w u->qL u L->L.heap.size=u.heap.size+1->GatL u.heap.size [] L->zC zF 173 #[z7 p n cap,.func (.func 174) #[zf (zq ⟨u.heap.size,0,zp⟩)] #[]] L λe w'=>e=zo (zj zm 0)/\zB u.heap.size L w'/\GatL u.heap.size f w'))
 (av:Hid (∀(i:Nat) (c:List UInt8×List UInt8),i<E->f[i]? =zq c->(c.1==[48])=zu->∃a b:Int,(qK 175 #[St c.1] (zj zm a))/\(qK 175 #[St c.2] (zj zm b))/\decide (60<a)=zu/\decide (40<b)=zu))
 (W:Hid ((E=f.length/\(zin f).length<=16/\∀(B:Nat) (v:zA) (q:Option Addr) (c:Nat),qL w v->w.heap.size<=B->B<=v.heap.size->v.ownsRow B 58 2 (z7 q (zin f).length c) (zin f).length (zbj (zin f))->zC zF 176 #[z7 q (zin f).length c,.func (.func 177) #[] #[]] v λe w'=>(∃u,e=zo u)/\zB B v w'/\w'.ownsRow B 58 2 (z7 q (zin f).length c) (zin f).length (zbj a6))\/∃(H U:List UInt8) (T:Int),f[E]? =zq (H,U)/\(H==[48])=zu/\decide (60<T)=zt/\qK 175 #[St H] (zj zm T))):
 zC zF 132 #[z7 p n cap] w λe w'=>∃q m c r,e=zo (ze #[z7 q m c,zj zm r])/\zB w.heap.size w w'/\((r=0/\E=f.length/\m=(zin f).length/\w'.ownsRow w.heap.size 58 2 (z7 q m c) m (zbj a6))\/(r=4/\E<f.length/\q=zp/\m=0/\c=0)):=by
 obtain⟨cb,c2,c8,c9,ca⟩:=info_parts zsc;have bl:=hid (zM w.heap.size w);go_enter Tryz.func132,Tryz.ntmps132;go_wp21;go_loopw [18] (λi wr=>∃(d:Nat),d<=n/\i=zj zm (d:Int)/\Hid (qL w wr))
  (λi _=>n-(zL i).toNat)
 case atStart=>exact⟨0,zR _,rfl,bl⟩
 case round=>
  obtain⟨d,c4,rfl,J⟩:=hrel;by_cases hlt:d<n
  ·obtain⟨b,off,rfl,ac,C,c1⟩:=aq d hlt
   have bi:=hid (al d hlt);have bj:=hid (b0 d hlt);have bk:=hid (a' d hlt);generalize X d=o at*
   generalize a0 d=s at*
   have cc:wr.cell? ⟨b,off+d*2,zp⟩=zq (St o):=by rw[J.cell (p:=⟨b,off+d*2,zp⟩) ac];exact C
   have cd:wr.cell? ⟨b,off+d*2+1,zp⟩=zq (St s):=by rw[J.cell (p:=⟨b,off+d*2+1,zp⟩) ac];exact c1
   obtain⟨k,h⟩:=zzX (wr.alloc (zn #[St o,St s] 58));have a1:qL wr k:=by rw[h];exact(zM _ wr).alloc (zN _) _
   have z:k.heap[wr.heap.size]? =zq (zn #[St o,St s] 58 (0,0)):=by rw[h];exact zG wr _
   have x:k.cell? ⟨wr.heap.size,0,zp⟩=zq (St o):=by rw[zJ z];rfl
   rw[h] at x;have A:=hid h.symm;have j:=hid (J.trans (a1.mono J.size));have P:=hid z;clear h a1 z C c1 ac;go_wp21;rw[A.out];clear cc cd x A;refine zzM (bi k (R _ j.out)) λN g=>?_;have t:=hid (j.trans (g.mono j.size));have I:=hid (zac g _ _ _ _ P.out);clear g j P;have K:N.cell? ⟨wr.heap.size,1,zp⟩=zq (St s):=by rw[zJ I.out];rfl
   go_wp21;refine zzM (bj N (R _ t.out)) λO g=>?_;have G:=hid (t.trans (g.mono t.size));have M:=hid (zac g _ _ _ _ I.out);clear g K t I;have K:O.cell? ⟨wr.heap.size,1,zp⟩=zq (St s):=by rw[zJ M.out];rfl
   go_wp21;refine zzM (bk O) λu1 be=>?_;have bm:Hid (qL w u1):=hid (by rw[be];exact G.out);clear be K G M;go_wp21;go_roundw
   case rel=>exact⟨d+1,by omega,by go_num,bm⟩
   case measure=>simp[zL];omega
  ·have c6:d=n:=by omega
   subst c6;go_wp21;have a7:qL wr (wr.alloc (zn #[z7 zp 0 0] 254)):=(zM _ wr).alloc (zN _) _;have a8:=zG wr (zn #[z7 zp 0 0] 254);have ay:(wr.alloc (zn #[z7 zp 0 0] 254)).heap.size=wr.heap.size+1:=by simp
   generalize wr.alloc (zn #[z7 zp 0 0] 254)=L at*
   have ar:=hid (b1 wr L J a7 ay ⟨⟨_,by rw[zJ a8];rfl,World.ownsRow_nil _ _ _ _⟩,by rw[Go.Joins.unfrozen_of_block a8]⟩);have bu:=hid a7;clear a8 ay a7 b1 aq al b0 a';refine ar.mono ?_;rintro e y ⟨rfl,bf,bb⟩;have l:Hid (qL w y):=hid (J.trans ((bu.trans bf).mono J.size));obtain⟨ck,cf,b4, -,bg⟩:=bb.row;have ap:=hid bg;obtain⟨m,aj⟩:=zzX f.length;have c3:E<=m:=by
    rcases W.out with⟨a2,_⟩|⟨_,_,_,a2,_⟩
    ·omega
    ·have:=(List.getElem?_eq_some_iff.1 a2).1;omega
   rw[<-aj] at b4 c7;have Q:=hid aj;have bx:=hid (zM y.heap.size y);have bz:=hid (show y.ownsRow y.heap.size 58 2 (z7 zp 0 0) (ziq f 0).length (zbj (ziq f 0)) from World.ownsRow_nil _ _ _ _);clear aj bg bb bf ar;go_wp21;clear b4;go_loopw [10,47] (λce i wr=>∃(d:Nat) (q:Option Addr) (c:Nat),d<=E/\i=zj zm (d:Int)/\ce=z7 q (ziq f d).length c/\Hid (qL y wr)/\Hid (wr.ownsRow y.heap.size 58 2 (z7 q (ziq f d).length c) (ziq f d).length (zbj (ziq f d))))
    (λ_ i _=>m-(zL i).toNat)
   case atStart=>exact⟨0,zp,0,zR _,rfl,rfl,bx,bz⟩
   case round=>
    obtain⟨d,q,c,c4,rfl,rfl,F,S⟩:=hrel;by_cases hlt:d<E
    ·have ah:d<m:=by omega
     obtain⟨V,a3⟩:∃V,f[d]? =zq V:=⟨_,yB (by rw[<-Q.out];exact ah)⟩;obtain⟨b',rfl,C,c1⟩:=(ap.keep (zac F.out)) d V a3;have ai:=z6s a3;have c5:=z8a f d;rw[<-Q.out] at c5;have ab:=λa2=>av d V hlt a3 a2;obtain⟨o,s⟩:=V;simp only at C c1 ai ab;obtain⟨k,h⟩:=zzX (wr.alloc (zn #[St o,St s] 257));have a1:qL wr k:=by rw[h];exact(zM _ wr).alloc (zN _) _
     have z:k.heap[wr.heap.size]? =zq (zn #[St o,St s] 257 (0,0)):=by rw[h];exact zG wr _
     have x:k.cell? ⟨wr.heap.size,0,zp⟩=zq (St o):=by rw[zJ z];rfl
     rw[h] at x;have A:=hid h.symm;have j:=hid (F.trans (a1.mono F.size));have P:=hid z;have a9:=hid (zcj (zac a1) S.out);have Z:=hid ai;have a5:=hid ab;clear h a1 z S a3 ai ab;cases a4:(o==[48])
     ·obtain⟨a,b,aw,ax,ci,cj⟩:=a5 a4
      have bs:=hid aw;have bt:=hid ax;clear aw ax;go_wp21;rw[A.out];clear C c1 x A;refine zzM (bs k (R _ (l.trans (j.mono l.size)))) λN g=>?_;have t:=hid (j.trans (g.mono j.size));have I:=hid (zac g _ _ _ _ P.out);have az:=hid (zcj (zac g) a9.out);clear g j P a9;have K:N.cell? ⟨wr.heap.size,1,zp⟩=zq (St s):=by rw[zJ I.out];rfl
      go_wp21;refine zzM (bt N (R _ (l.trans (t.mono l.size)))) λO g=>?_;have G:=hid (t.trans (g.mono t.size));have M:=hid (zac g _ _ _ _ I.out);have aa:=hid (zcj (zac g) az.out);clear g K t I az;have x:O.cell? ⟨wr.heap.size,0,zp⟩=zq (St o):=by rw[zJ M.out];rfl
      have K:O.cell? ⟨wr.heap.size,1,zp⟩=zq (St s):=by rw[zJ M.out];rfl
      go_wp2_with (at_builtin;refine wpList_append_own _ rfl _ _ 49 rfl y.heap.size 58 cb (zh #[St [],St []]) 2 32 Tryz.underlying49 c2 c8 c9 ca rfl (by decide) _ _ _ rfl (aa.alloc _) ⟨O.heap.size,0,zp⟩ 1 1 [St o,St s] rfl rfl (zoq _ _ _ _) (zm4 _ _) (by unfold maxLen;omega) (by omega) (by have:=G.size;simp;omega) (λcl w' ak bc _=>?_));obtain⟨b3,b2,rfl, -, -⟩:=zye ak (by omega);have bn:Hid (qL y w'):=hid ((G.alloc G.size _).grown bc (by have:=G.size;simp;omega) (λq e=>(aa.lt q e).1));have D:ziq f (d+1)=ziq f d++[(o,s)]:=by rw[Z.out,a4];rfl
      have ad:(ziq f (d+1)).length=(ziq f d).length+1:=by rw[D];simp
      have bo:Hid (w'.ownsRow y.heap.size 58 2 (z7 (zq ⟨b3,0,zp⟩) (ziq f (d+1)).length b2) (ziq f (d+1)).length (zbj (ziq f (d+1)))):=hid (by rw[ad,D,zjb];exact ak);have Y:=hid ad;clear bc ak x K G aa M D ad Z a5;go_roundw
      case rel=>exact⟨d+1,zq ⟨b3,0,zp⟩,b2,by omega,by go_num,by rw[Y.out],bn,bo⟩
      case measure=>simp[zL];omega
     ·have D:ziq f (d+1)=ziq f d:=by rw[Z.out,a4];simp
      have Y:=hid D;clear D Z a5;go_wp21;rw[A.out];clear C c1 x A;go_roundw
      case rel=>exact⟨d+1,q,c,by omega,by go_num,by rw[Y.out],j,by rw[Y.out];exact a9⟩
      case measure=>simp[zL];omega
    ·have ag:d=E:=by omega
     subst ag;clear av;rcases W.out with⟨af,ch,b8⟩|⟨H,U,T,ae,ba,b9,b7⟩
     ·have au:=hid af
      have ag:d=m:=by rw[Q.out];exact af
      subst ag;clear W af c3 hlt;have D:ziq f d=zin f:=by rw[au.out,z7n]
      rw[D] at S⊢;have am:=hid (l.trans (F.mono l.size));have bd:=b8 y.heap.size wr q c am l.size F.size S.out;have bv:=hid bd;clear bd D b8;go_wp21;refine bv.mono ?_;rintro e bh ⟨⟨u,rfl⟩,b5,b6⟩;have an:=hid (⟨am.trans (b5.mono l.size),b6.mono l.size⟩:qL w bh/\bh.ownsRow w.heap.size 58 2 (z7 q (zin f).length c) (zin f).length (zbj a6));clear b5 b6;go_wp21;go_ret2;exact⟨q,_,c,0,rfl,an.1,.inl ⟨rfl,au.out,rfl,an.2⟩⟩
     ·have ah:d<m:=by have:=(List.getElem?_eq_some_iff.1 ae).1;rw[Q.out];exact this
      have br:=hid (show d<f.length by rw[<-Q.out];exact ah);have bq:=hid ae;have bp:=hid ba;have ao:=hid b9;have bw:=hid b7;clear W ae ba b9 b7 hlt;obtain⟨b',rfl,C,c1⟩:=(ap.keep (zac F.out)) d (H,U) bq.out;simp only at C c1;have a4:=bp.out;obtain⟨k,h⟩:=zzX (wr.alloc (zn #[St H,St U] 257));have a1:qL wr k:=by rw[h];exact(zM _ wr).alloc (zN _) _
      have z:k.heap[wr.heap.size]? =zq (zn #[St H,St U] 257 (0,0)):=by rw[h];exact zG wr _
      have x:k.cell? ⟨wr.heap.size,0,zp⟩=zq (St H):=by rw[zJ z];rfl
      rw[h] at x;have A:=hid h.symm;have j:=hid (F.trans (a1.mono F.size));clear h a1 z S;go_wp21;rw[A.out];clear C c1 x A;refine zzM (bw k (R _ (l.trans (j.mono l.size)))) λN g=>?_;have t:=hid (l.trans ((j.trans (g.mono j.size)).mono l.size));have c0:60<T:=by first|exact of_decide_eq_true ao.out|exact ao.out
      have ha:decide (60<T)=zt:=decide_eq_true c0;clear g j;go_wp21;go_ret2;exact⟨zp,0,0,4,rfl,t.out,.inr ⟨rfl,br.out,rfl,rfl,rfl⟩⟩
end
end Go.Proofs.YtjmljcdbjakefaaGreatDoor
