/- integer.compare -/
import Derived.Test.YtjmljcdbjakefaaGreatDoorZ02
set_option maxRecDepth 100000
set_option maxHeartbeats 8000000
open Go.Value renaming slice → z7, int → zj
open Go.IntKind renaming i64 → zm
open Go.Obj renaming cells → zn
open Go.Ending renaming returned → zo
open Option renaming none → zp, some → zq
open Bool renaming false → zu
open Go renaming undef → zv
open Go renaming World → zA
open Go.RowKit renaming Below → zB, intOf → zL
open Go.Proofs.Tryz renaming prog → zF
open Go.World renaming alloc_heap_new → zG, size_alloc → zH
open Go.IntWalk renaming i64_in → zI
open Go.RowKit.Below renaming refl → zM, heap_setCell → yE
open Nat renaming le_refl → zN, le_trans → zO, mod_lt → zP, mod_eq_of_lt → zQ, zero_le → zR, pow_succ → yO, mul_comm → yP, mul_add → yZ, mul_le_mul_left → xB, eq_zero_or_pos → xD
open List renaming length_map → zV, size_toArray → zZ, length_cons → yA, nil_append → yI, cons_append → yM, length_nil → yT, push_toArray → yW, append_toArray → yX
open Array renaming replicate_succ → yU, replicate_zero → yV
open Int renaming natCast_mul → xE
namespace Go.Proofs.YtjmljcdbjakefaaGreatDoor
section
open Go.RowKit Go.Shelf Limb
attribute [local go_sem] Oper.semAt_some
theorem CellsKept.rd {b c:zA} (h:CellsKept b c) {a:Nat} {v:Value} {l:List Nat} (d:RdSl a v l b):RdSl a v l c:=⟨h.cell d.1,h.sl d.2⟩
def z2o (a b:List Nat) (c:Int):Prop:=
 (c=0/\∀i,i<a.length->a[i]?.getD 0=b[i]?.getD 0)\/
   ∃k,k<a.length/\(∀i,k<i->i<a.length->a[i]?.getD 0=b[i]?.getD 0)/\a[k]?.getD 0≠b[k]?.getD 0/\c=(a[k]?.getD 0:Nat)-(b[k]?.getD 0:Nat)
def zqv (w:zA) (P:Int->Prop) (e:Ending) (w':zA):Prop:=∃c:Int,e=zo (zj zm c)/\P c/\zB w.heap.size w w'
theorem zyq (aa ab:Value) (a b:List Nat) (w:zA) (ha:Sl w aa (a.map I)) (Z:Sl w ab (b.map I)) (E:a.length=b.length) (b9:a.length<=1000) (a8:zal B9 a) (a9:zal B9 b):
 Calls zF 262 #[aa,ab] w (zqv w (z2o a b)):=by
 have Y:=ha;have a0:=Z;obtain⟨k,i,rfl,aq,ar⟩:=ha;obtain⟨l,j,rfl,C,a1⟩:=Z;simp only[zV] at*
 have ac:=Lib.hid Y;clear Y ar aq;have U:=Lib.hid a0;clear a0 a1 C;have ag:=Lib.hid a8;clear a8;have ah:=Lib.hid a9;clear a9;rw[<-E] at U;rw[<-E];have ad:=Lib.hid E;clear E;refine(callsIn_wide (n:=3)).1 ?_;refine callsIn_of_wp_marks Tryz.func262 rfl trivial ?_ rfl;simp only[Tryz.ntmps262,zZ,yA,yT,Nat.reduceAdd,Nat.reduceSub,yU,yV,yW,yX,yI,yM];gi_wp2_with (refine⟨trivial,?_⟩;gi_at_call 266;refine(callsIn_wide.2 (zhu _ _ _ _ _ rfl)).mono ?_;rintro P bb ⟨rfl,rfl⟩);have Q:qL w (((w.alloc (zn #[z7 l a.length j] 74)).alloc (zn #[zj zm 0] 3)).alloc (zn #[z7 k a.length i] 74)):=
  (((zM _ w).alloc (zN _) _).alloc (by simp) _).alloc (by simp;omega) _
 have W:=Boxed.new w 74 (z7 l a.length j);have M:=Boxed.new (w.alloc (zn #[z7 l a.length j] 74)) 3 (zj zm 0);have L:=Boxed.new ((w.alloc (zn #[z7 l a.length j] 74)).alloc (zn #[zj zm 0] 3)) 74 (z7 k a.length i);have aj:=(W.alloc (zn #[zj zm 0] 3)).alloc (zn #[z7 k a.length i] 74);have N:=M.alloc (zn #[z7 k a.length i] 74);simp only[zH] at M L N;clear W M;generalize ((w.alloc (zn #[z7 l a.length j] 74)).alloc (zn #[zj zm 0] 3)).alloc (zn #[z7 k a.length i] 74)=ai at*
 have aw:w.heap.size+1+1<ai.heap.size:=L.lt
 refine znd w Q (w.heap.size+1+1) a.length i k (λf c=>c=((a[f]?.getD 0:Nat):Int)) (RdSl (w.heap.size+1+1) (z7 k a.length i) a) (by omega) (λd e=>e.read)
  (λd e=>⟨by rw[e.cell (by simpa using aw)];exact L.cell,(ac.below Q).below e⟩) (λd V g e=>g.rd e) rfl rfl
  (λv d=>(∀c∈v,a[c.1.1]?.getD 0=b[c.1.1]?.getD 0)/\d.cell? ⟨w.heap.size,0,zp⟩=zq (z7 l a.length j)/\Sl d (z7 l a.length j) (b.map I)/\d.cell? ⟨w.heap.size+1,0,zp⟩=zq (zj zm 0)/\d.frozen? ⟨w.heap.size+1,0,zp⟩=zu)
  (λO v d=>O=.ret/\∃z h,v=z++[h]/\(∀c∈z,a[c.1.1]?.getD 0=b[c.1.1]?.getD 0)/\a[h.1.1]?.getD 0≠b[h.1.1]?.getD 0/\d.cell? ⟨w.heap.size+1,0,zp⟩=zq (zj zm ((a[h.1.1]?.getD 0:Nat)-(b[h.1.1]?.getD 0:Nat))))
  (λay d V g e=>⟨e.1,g.cell e.2.1,g.sl e.2.2.1,g.cell e.2.2.2.1,g.frozen e.2.2.2.1 e.2.2.2.2⟩)
  (λO ay d V g e=>⟨e.1,by obtain⟨_,z,h,x,r,an,ao⟩:=e;exact⟨z,h,x,r,an,g.cell ao⟩⟩)
  ⟨by simp,aj.cell,U.below Q,N.cell,N.frozen⟩
  (λc=>{tmps:= #[z7 k a.length i,z7 l a.length j,zv,Value.pointer (zq {block:=w.heap.size,off:=0}),Value.pointer (zq {block:=w.heap.size+1,off:=0}),zj zm (c.1.1:Int),zj zm c.1.2,z7 k a.length i,
     zj zm ↑a.length,z7 l a.length j,zj zm ↑a.length,Value.bool zu,zv,zv,zv,zv,zv,z7 k a.length i,
     Value.func (Fn.func 292) #[] #[Value.pointer (zq {block:=w.heap.size+1+1,off:=0})],zj zm (c.1.1:Int),zj zm c.1.2,zv,zv,zv,zv,zv,zv,zv,zv,zv,zv,zv,zv],defers:=[]}) ?assign ?body ?done ?stop
 case assign=>
  intro ax c d b0 o;gi_wp2;exact o
 case body=>
  rintro ax v c d ⟨y,C,G,t,a2⟩ s _;have D:=c.2.1;have m:=c.2.2;obtain⟨f,q⟩:∃f,c.1.1=f:=⟨_,rfl⟩;obtain⟨A,a6⟩:∃az,c.1.2=az:=⟨_,rfl⟩;simp only[q,a6] at D m⊢;have K:=Lib.hid q;clear q;clear a6;have X:=ad.out;have a3:Sl d (z7 l b.length j) (b.map I):=by rw[<-X];exact G
  obtain⟨b1,ba,rfl,b2,b3,a1⟩:=a3.at (i:=f) (by omega);have ae:=Lib.hid G;clear G a3;have a4:=zaj ag (by decide) f;have a5:=zaj ah (by decide) f;have b6:A<1000000000:=by rw[m];exact Int.ofNat_lt.2 a4
  have b7:0<=A:=by rw[m];omega
  have b8:b[f]?.getD 0<1000000000:=a5;have J:=Lib.hid m;clear m a4 a5 X;have B:=Lib.hid y;clear y;by_cases he:A=(b[f]?.getD 0:Nat)
  ·have au:(A !=((b[f]?.getD 0:Nat):Int))=zu:=by rw[he];simp
   have H:=Lib.hid he;clear he;gi_wp2;exact⟨KeepsFrom.refl _ _,λe=>e,⟨λa' av=>(List.mem_append.1 av).elim (B a') (λP=>by simp at P;subst P;have x:=J.out;have r:=H.out;rw[K.out];omega),C,ae.out,t,a2⟩,s⟩
  ·have au:(A !=((b[f]?.getD 0:Nat):Int))=true:=by simpa using he
   have H:=Lib.hid he;clear he;gi_wp2;refine⟨(KeepsOthers.setCell _ _ _).from _,⟨rfl,v,c,rfl,B.out,?_,?_⟩,s.setCell (p:=⟨w.heap.size+1,0,zp⟩) (by simp) _⟩
   ·have x:=J.out;have r:=H.out;rw[K.out];omega
   ·rw[K.out,<-J.out];exact World.cell?_setCell_same' _ _ _ (by rw[t];rfl)
 case done=>
  rintro T bc d ap a7 ⟨y,C,G,t,a2⟩ s o;have af:=Lib.hid a7;clear a7;have B:=Lib.hid y;clear y;gi_wp2;have R:=(KeepsOthers.setCell d ⟨w.heap.size+1,0,zp⟩ (zj zm 0)).same T _ o rfl;refine⟨by simp,.inl ⟨_,_,rfl,run_takeDeferred R,?_⟩⟩;have S:=(zbk R).cell (World.cell?_setCell_same' d ⟨w.heap.size+1,0,zp⟩ (zj zm 0) (by rw[t];rfl));refine⟨zj zm 0,?_,0,rfl,.inl ⟨rfl,λf D=>?_⟩,zby (s.setCell (p:=⟨w.heap.size+1,0,zp⟩) (by simp) _) (by omega) R⟩
  ·simp[results,Tryz.f262,go_sem,S]
  ·have:=zqt D
   rw[<-af.out] at this;obtain⟨c,m,q⟩:=List.mem_map.1 this;have:=B c m;rwa [q] at this
 case stop=>
  rintro T O v d ap ⟨g,b5,F⟩ ⟨rfl,z,h,ak,al,am,t⟩ s o;gi_wp2;refine⟨by simp,.inl ⟨_,_,rfl,run_takeDeferred o,?_⟩⟩;have S:=(zbk o).cell t;rw[ak,List.map_append] at F;obtain⟨u,rfl⟩:∃u,g=u+1:=by
   cases g with
   |zero=>simp[upto] at F
   |succ u=>exact⟨u,rfl⟩
  rw[zia] at F;obtain⟨x,r⟩:=List.append_inj' F rfl;have r:h.1.1=a.length-1-u:=by simpa using r
  refine⟨_,by simp[results,Tryz.f262,go_sem,S],_,rfl,.inr ⟨h.1.1,h.2.1,λf D b4=>?_,am,rfl⟩,zby s (by omega) o⟩;have:f∈upto (λg=>a.length-1-g) u:=by
   simp only[upto,List.mem_map,List.mem_range];exact⟨a.length-1-f,by omega,by omega⟩
  rw[<-x] at this;obtain⟨c,m,q⟩:=List.mem_map.1 this;have:=al c m;rwa [q] at this
theorem zyr (d e:Value) (a b:List Nat) (w:zA) (ha:Sl w d (a.map I)) (f:Sl w e (b.map I)) (m:a.length≠b.length) (p:a.length<=1000) (q:b.length<=1000):
 Calls zF 262 #[d,e] w (zqv w (λc=>c=(a.length:Int)-b.length)):=by
 obtain⟨r,i,rfl,k,g⟩:=ha;obtain⟨s,j,rfl,l,h⟩:=f;simp only[zV] at*
 clear g h;have o:((a.length:Int) !=b.length)=true:=by simp;omega
 refine(callsIn_wide (n:=3)).1 ?_;refine callsIn_of_wp_marks Tryz.func262 rfl trivial ?_ rfl;simp only[Tryz.ntmps262,zZ,yA,yT,Nat.reduceAdd,Nat.reduceSub,yU,yV,yW,yX,yI,yM];gi_wp2;refine⟨zj zm ((a.length:Int)-b.length),?_,_,rfl,rfl,?_⟩
 ·simp[results,Tryz.f262,go_sem]
 ·exact((zM _ w).alloc (zN _) _).alloc (by simp) _
theorem zi9 (b d:Value) (m n:Nat) (w:zA) (ha:Sl w b ((zaa B9 m).map I)) (l:Sl w d ((zaa B9 n).map I)) (p:(zaa B9 m).length<=1000) (v:(zaa B9 n).length<=1000):
 Calls zF 262 #[b,d] w (zqv w (λc=>(c<0↔m<n)/\(c=0↔m=n))):=by
 have a:2<=B9:=by decide
 have j:=zak a m;have k:=zak a n;by_cases hl:(zaa B9 m).length=(zaa B9 n).length
 ·refine(zyq b d _ _ w ha l hl p j k).mono ?_
  rintro q x ⟨c,rfl,r,f⟩;refine⟨c,rfl,?_,f⟩;rcases r with⟨rfl,e⟩|⟨i,t,e,u,rfl⟩
  ·have s:=zoa hl e
   have:m=n:=by rw[<-zam a m,s,zam a]
   subst this;simp
  ·have o:=ztr hl i e
   rcases Nat.lt_or_gt_of_ne u with h|g
   ·have:=zem j k hl i t o h
    rw[zam a,zam a] at this;constructor<;>constructor<;>intro<;>omega
   ·have:=zem k j hl.symm i (by omega) o.symm g
    rw[zam a,zam a] at this;constructor<;>constructor<;>intro<;>omega
 ·refine(zyr b d _ _ w ha l hl p v).mono ?_
  rintro q x ⟨c,rfl,rfl,f⟩;refine⟨_,rfl,?_,f⟩;rcases Nat.lt_or_gt_of_ne hl with h|g
  ·have:=zc2 a h
   constructor<;>constructor<;>intro<;>omega
  ·have:=zc2 a g
   constructor<;>constructor<;>intro<;>omega
def zei (d n:Nat) {V:Nat->Int->Prop} (pre:List (At n V)):List Nat×Nat:=
 pre.foldl (λs x=>zdl B9 d s x.1.1 x.1.2.toNat) (List.replicate n 0,0)
theorem zkq (d n:Nat) {V:Nat->Int->Prop} (a:List (At n V)) (x:At n V):zei d n (a++[x])=zdl B9 d (zei d n a) x.1.1 x.1.2.toNat:=by simp[zei]
theorem Row.other {w:zA} {g cap:Nat} {l:List Nat} (h:Row w g cap l) {p:Addr} (c:g≠p.block) (u:Value):Row (w.setCell p u) g cap l:=by
 obtain⟨a,b,d⟩:=h;exact⟨a,by rw[yE _ _ _ _ c];exact b,d⟩
theorem Row.alloc {w:zA} {g cap:Nat} {l:List Nat} (h:Row w g cap l) (o:Obj):Row (w.alloc o) g cap l:=
 h.below ((zM w.heap.size w).alloc (zN _) o) h.lt
theorem zuo (d n:Nat) (i:0<d) {V:Nat->Int->Prop} (f:List (At n V)):(zei d n f).2<d/\(zei d n f).1.length=n:=by
 unfold zei;suffices h:∀(c:List (At n V)) (a:List Nat×Nat),a.2<d->a.1.length=n->(c.foldl (λa b=>zdl B9 d a b.1.1 b.1.2.toNat) a).2<d/\(c.foldl (λa b=>zdl B9 d a b.1.1 b.1.2.toNat) a).1.length=n from h f _ i (by simp);intro c
 induction c with
 |nil=>exact λa g e=>⟨g,e⟩
 |cons b k j=>intro a g e;exact j _ (zP _ i) (by simpa [zdl] using e)
theorem zg2 (a:zA) (base n:Nat) (_:base<=a.heap.size) (l:n<=3000):
 ∃w',(Instr.makeSlice 74 (zj zm (n:Int)) (zj zm (n:Int))).run zF a=.ok (z7 (zq ⟨a.heap.size,0,zp⟩) n n) w'/\Row w' a.heap.size n (List.replicate n 0)/\zB a.heap.size a w':=by
 obtain⟨k,f,h,i,j⟩:=info_parts zdv;obtain⟨w',d,b,e⟩:=run_make_full (P:=zF) a a.heap.size 74 3 k (zj zm 0) 1 Tryz.underlying74 f h i zm zm n (by rw[j];omega) (by unfold maxLen;omega) (zN _);rw[show(zj zm 0).cells= #[zj zm 0] from rfl,Nat.mul_one,toList_madeCells_one,<-show(List.replicate n 0).map I=List.replicate n (zj zm 0) by simp] at b;have g:=(Row.of_own b).1;exact⟨w',d,g,(zM _ _).grown e (zN _) (λ_ c=>by cases c)⟩
theorem zkr (d:Nat) (a:List Nat):∀(k:Nat) (b:List (At a.length λi x=>x=((a[i]?.getD 0:Nat):Int))),b.map (·.1.1)=upto (λk=>a.length-1-k) k->zei d a.length b=za8 B9 d a k
 |0,b,c=>by
  have:b=[]:=by simpa [upto] using c
  subst this;rfl
 |k+1,b,c=>by
  rw[zia] at c;obtain⟨m,h,rfl,l,e⟩:=List.map_eq_append_iff.1 c;obtain⟨x,rfl⟩:∃x,h=[x]:=by
   cases h with
   |nil=>simp at e
   |cons x j=>
    cases j with
    |cons n j=>simp at e
    |nil=>exact⟨x,rfl⟩
  ·rw[zkq,zkr d a k m l]
   have f:x.1.1=a.length-1-k:=by simpa using e
   have g:=x.2.2;rw[f] at g;rw[f,g];rfl
theorem zwc {b R n d i r:Nat} {q:List Nat} {g:Value} {a:List Nat} (w c:zA) (J:b=w.heap.size) (y:qL w c) (A:c.cell? ⟨b,0,zp⟩=zq (I d))
 (C:c.cell? ⟨b+1,0,zp⟩=zq (z7 (zq ⟨b+1+1,0,zp⟩) n n)) (E:c.frozen? ⟨b+1,0,zp⟩=zu) (D:c.cell? ⟨R,0,zp⟩=zq (I r)) (F:c.frozen? ⟨R,0,zp⟩=zu)
 (G:Row c (b+1+1) n q) (z:c.cell? ⟨R+1,0,zp⟩=zq g) (t:∀s,qL w s->Sl s g (a.map I)) (K:b+1+1<R) (_:b<=R) (e Z B:Nat) (m:List Nat×Nat) (H:m=(q.set i e,Z)):
 KeepsFrom B c ((c.setCell ⟨b+1+1,i,zp⟩ (I e)).setCell ⟨R,0,zp⟩ (I Z)).drew/\
 (RdSl (R+1) g a c->RdSl (R+1) g a ((c.setCell ⟨b+1+1,i,zp⟩ (I e)).setCell ⟨R,0,zp⟩ (I Z)).drew)/\
 (((c.setCell ⟨b+1+1,i,zp⟩ (I e)).setCell ⟨R,0,zp⟩ (I Z)).drew.cell? ⟨b,0,zp⟩=zq (I d)/\
   (((c.setCell ⟨b+1+1,i,zp⟩ (I e)).setCell ⟨R,0,zp⟩ (I Z)).drew.cell? ⟨b+1,0,zp⟩=zq (z7 (zq ⟨b+1+1,0,zp⟩) n n)/\((c.setCell ⟨b+1+1,i,zp⟩ (I e)).setCell ⟨R,0,zp⟩ (I Z)).drew.frozen? ⟨b+1,0,zp⟩=zu)/\
   Row ((c.setCell ⟨b+1+1,i,zp⟩ (I e)).setCell ⟨R,0,zp⟩ (I Z)).drew (b+1+1) n m.1/\
   (((c.setCell ⟨b+1+1,i,zp⟩ (I e)).setCell ⟨R,0,zp⟩ (I Z)).drew.cell? ⟨R,0,zp⟩=zq (I m.2)/\((c.setCell ⟨b+1+1,i,zp⟩ (I e)).setCell ⟨R,0,zp⟩ (I Z)).drew.frozen? ⟨R,0,zp⟩=zu)/\
   RdSl (R+1) g a ((c.setCell ⟨b+1+1,i,zp⟩ (I e)).setCell ⟨R,0,zp⟩ (I Z)).drew)/\
 qL w ((c.setCell ⟨b+1+1,i,zp⟩ (I e)).setCell ⟨R,0,zp⟩ (I Z)).drew:=by
 subst H;have j:qL w ((c.setCell ⟨b+1+1,i,zp⟩ (I e)).setCell ⟨R,0,zp⟩ (I Z)).drew:=
  ((y.setCell (p:=⟨b+1+1,i,zp⟩) (by show _<=b+1+1;omega) _).setCell (p:=⟨R,0,zp⟩) (by show _<=R;omega) _).drew
 have k:∀f l o,f≠b+1+1->f≠R->c.cell? ⟨f,l,zp⟩=zq o->((c.setCell ⟨b+1+1,i,zp⟩ (I e)).setCell ⟨R,0,zp⟩ (I Z)).drew.cell? ⟨f,l,zp⟩=zq o:=
  λf l o h x v=>(Go.cell_drew_own _ _).trans ((zau _ _ _ _ x).trans ((zau _ _ _ _ h).trans v))
 have u:=k (R+1) 0 _ (by omega) (by omega) z;have h:=(Row.set (w:=c) G i e).other (p:=⟨R,0,zp⟩) (by show b+1+1≠R;omega) (I Z);refine⟨((KeepsOthers.setCell c ⟨b+1+1,i,zp⟩ _).trans ((KeepsOthers.setCell _ ⟨R,0,zp⟩ _).trans (KeepsOthers.drew _))).from _,λ_=>⟨u,t _ j⟩,
  ⟨k _ _ _ (by omega) (by omega) A,⟨k _ _ _ (by omega) (by omega) C,?_⟩,h.below (Below.drew (zM ((c.setCell ⟨b+1+1,i,zp⟩ (I e)).setCell ⟨R,0,zp⟩ (I Z)).heap.size _)) h.lt,⟨?_,?_⟩,u,t _ j⟩,j⟩
 ·rw[Go.frozen_drew_own,World.frozen?_setCell,World.frozen?_setCell];exact E
 ·exact(Go.cell_drew_own _ _).trans (za9 ((zau _ _ _ _ (by omega)).trans D))
 ·rw[Go.frozen_drew_own,World.frozen?_setCell,World.frozen?_setCell];exact F
theorem Sl.trim {w:zA} {p:Option Addr} {cap:Nat} {l:List Nat} (h:Sl w (z7 p l.length cap) (l.map I)):Sl w (z7 p (zat l).length cap) ((zat l).map I):=by
 have:=h.take (k:=(zat l).length) (by simpa using zkn l);rw[<-List.map_take,<-zjo] at this;exact this
theorem zwd {r:Nat} (b:r<B9):zat [r]=zaa B9 r:=by
 rw[zbu (B:=B9) (by decide) (by intro c a;simp at a;omega)];simp[valL]
structure ShortC (w:zA) (D z R n:Nat) (q:List Nat) (r:Nat) (vq vt:Value) (f:Nat->Bool) (W:zA):Prop where
 below:qL w W
 q0:f 5=zu->W.cell? ⟨w.heap.size+1,0,zp⟩=zq vq
 q1:f 5=true->W.cell? ⟨w.heap.size+1,0,zp⟩=zq vt
 fz:W.frozen? ⟨w.heap.size+1,0,zp⟩=zu
 rr:W.cell? ⟨R,0,zp⟩=zq (I r)
 row:Row W (w.heap.size+1+1) n q
 r0:f 3=zu->W.heap.size=z
 r1:f 3=true->Row W z 1 [r]
 dk:W.heap[D]? =zq (.deferred (zq []))
theorem ShortC.set {w:zA} {D z R n:Nat} {q:List Nat} {r:Nat} {d e:Value} {f:Nat->Bool} {a:zA} (h:ShortC w D z R n q r d e f a) (k:Nat) (b:k≠3) (c:k≠5):ShortC w D z R n q r d e (λj=>if k=j then true else f j) a:=
 ⟨h.below,by rw[if_neg c];exact h.q0,by rw[if_neg c];exact h.q1,h.fz,h.rr,h.row,by rw[if_neg b];exact h.r0,by rw[if_neg b];exact h.r1,h.dk⟩
theorem ShortC.fresh {w:zA} {D z R n:Nat} {q:List Nat} {r:Nat} {c d:Value} {f:Nat->Bool} {a:zA} (h:ShortC w D z R n q r c d f a) (g:f 3=zu) (_:R<a.heap.size):
 ShortC w D z R n q r c d (λj=>if 3=j then true else f j) (a.alloc (zn #[I r] 3)):=
 have e:=h.r0 g
 ⟨h.below.alloc h.below.size _,λb=>zob (h.q0 (by simpa using b)) _,λb=>zob (h.q1 (by simpa using b)) _,by
   cases b:f 5 with
   |false=>exact zow (h.q0 b) _ h.fz
   |true=>exact zow (h.q1 b) _ h.fz,zob h.rr _,h.row.alloc _,λh=>by simp at h,λ_=>by
   rw[<-e];exact⟨#[I r],by show(a.heap.push _)[a.heap.size]? =_;simp,zN _,by decide,rfl,rfl⟩,by show(a.heap.push _)[D]? =_;have:=(Array.getElem?_eq_some_iff.1 h.dk).1;rw[Array.getElem?_push_lt this,<-Array.getElem?_eq_getElem this];exact h.dk⟩
theorem ShortC.stored {w:zA} {D z R n:Nat} {q:List Nat} {r:Nat} {d b:Value} {f:Nat->Bool} {c:zA} (h:ShortC w D z R n q r d b f c) (e:f 5=zu) (i:w.heap.size+1+1<R) (k:w.heap.size+1<z) (g:w.heap.size+1<D):
 ShortC w D z R n q r d b (λj=>if 5=j then true else f j) (c.setCell ⟨w.heap.size+1,0,zp⟩ b):=
 ⟨h.below.setCell (by simp) _,λh=>by simp at h,λ_=>za9 (h.q0 e),by rw[World.frozen?_setCell];exact h.fz,(zau _ _ _ _ (by omega)).trans h.rr,h.row.other (by show w.heap.size+1+1≠w.heap.size+1;omega) _,
   λa=>by rw[World.size_setCell];exact h.r0 (by simpa using a),λa=>(h.r1 (by simpa using a)).other (by show z≠w.heap.size+1;omega) _,by simp only[World.setCell,Array.getElem?_modify];rw[if_neg (by show ¬w.heap.size+1=D;omega)];exact h.dk⟩
theorem zoy (b4:Value) (a:List Nat) (d:Nat) (w:zA) (ha:Sl w b4 (a.map I)) (ca:a.length<=1000) (b2:zal B9 a) (W:0<d) (bf:d<B9):
 Calls zF 265 #[b4,I d] w (λe w'=>∃P Q,e=zo (.tuple #[P,Q])/\Sl w' P ((zaa B9 (valL B9 a/d)).map I)/\Sl w' Q ((zaa B9 (valL B9 a%d)).map I)/\zB w.heap.size w w'):=by
 have ao:=ha;obtain⟨o,m,rfl,bd,be⟩:=ha;simp only[zV] at*
 have a2:=Lib.hid ao;clear ao be bd;have a4:=Lib.hid b2;clear b2;obtain⟨x,au,k,V⟩:=zg2 ((w.alloc (zn #[zj zm (d:Int)] 3)).alloc (zn #[z7 zp 0 0] 74)) w.heap.size a.length (by simp;omega) (by omega);have ah:Boxed x w.heap.size 3 (I d):=(V.block _ (by simp;omega)).trans ((Boxed.new w 3 (I d)).alloc (zn #[z7 zp 0 0] 74));have U:Boxed x (w.heap.size+1) 74 (z7 zp 0 0):=(V.block _ (by simp)).trans (by have:=Boxed.new (w.alloc (zn #[zj zm (d:Int)] 3)) 74 (z7 zp 0 0);rw[zH] at this;exact this);have am:qL w x:=(((zM _ w).alloc (zN _) _).alloc (by simp) _).trans (V.mono (by simp;omega));clear V;simp only[zH] at k au;have A:=U.cell;have M:=U.frozen;refine(callsIn_wide (n:=3)).1 ?_;refine callsIn_of_wp_marks Tryz.func265 rfl trivial ?_ rfl;simp only[Tryz.ntmps265,zZ,yA,yT,Nat.reduceAdd,Nat.reduceSub,yU,yV,yW,yX,yI,yM];gi_wp2_with (refine⟨trivial,?_⟩;gi_at_call 266;refine(callsIn_wide.2 (zhu _ _ _ _ _ rfl)).mono ?_;rintro e w' ⟨rfl,rfl⟩);have aj:Boxed (x.setCell ⟨w.heap.size+1,0,zp⟩ (z7 (zq ⟨w.heap.size+1+1,0,zp⟩) a.length a.length)) (w.heap.size+1) 74 (z7 (zq ⟨w.heap.size+1+1,0,zp⟩) a.length a.length):=by
  unfold Boxed at*
  simp[World.setCell,Array.getElem?_modify,U]
 have ai:=ah.other (B':=w.heap.size+1) (by omega) (z7 (zq ⟨w.heap.size+1+1,0,zp⟩) a.length a.length);have ax:=k.other (p:=⟨w.heap.size+1,0,zp⟩) (by show w.heap.size+1+1≠w.heap.size+1;omega) (z7 (zq ⟨w.heap.size+1+1,0,zp⟩) a.length a.length);have J:=am.setCell (p:=⟨w.heap.size+1,0,zp⟩) (by simp) (z7 (zq ⟨w.heap.size+1+1,0,zp⟩) a.length a.length);have Y:w.heap.size+1+1<x.heap.size:=k.lt;have ad:(x.setCell ⟨w.heap.size+1,0,zp⟩ (z7 (zq ⟨w.heap.size+1+1,0,zp⟩) a.length a.length)).heap.size=x.heap.size:=by simp[World.setCell]
 rw[<-ad];rw[<-ad] at Y;clear ad k A M U ah au am;generalize x.setCell ⟨w.heap.size+1,0,zp⟩ (z7 (zq ⟨w.heap.size+1+1,0,zp⟩) a.length a.length)=G at*
 clear x;have a6:=(Boxed.new G 3 (zj zm 0)).alloc (zn #[z7 o a.length m] 74);have H:=Boxed.new (G.alloc (zn #[zj zm 0] 3)) 74 (z7 o a.length m);rw[zH] at H;have ak:=(aj.alloc (zn #[zj zm 0] 3)).alloc (zn #[z7 o a.length m] 74);have b9:=(ai.alloc (zn #[zj zm 0] 3)).alloc (zn #[z7 o a.length m] 74);have bn:=(ax.alloc (zn #[zj zm 0] 3)).alloc (zn #[z7 o a.length m] 74);have a8:=(J.alloc J.size (zn #[zj zm 0] 3)).alloc (by have:=J.size;simp;omega) (zn #[z7 o a.length m] 74);have az:=J.size;clear aj ai ax J;obtain⟨t,an⟩:=zzX G.heap.size;rw[<-an] at a6 H Y az⊢;clear an;generalize (G.alloc (zn #[zj zm 0] 3)).alloc (zn #[z7 o a.length m] 74)=c2 at*
 clear G;have br:=H.lt
 refine znd w a8 (t+1) a.length m o (λs l=>l=((a[s]?.getD 0:Nat):Int)) (RdSl (t+1) (z7 o a.length m) a) (by omega) (λf c=>c.read)
  (λf c=>⟨by rw[c.cell (by simpa using br)];exact H.cell,(a2.below a8).below c⟩) (λf h r c=>r.rd c) rfl rfl
  (λD f=>f.cell? ⟨w.heap.size,0,zp⟩=zq (I d)/\(f.cell? ⟨w.heap.size+1,0,zp⟩=zq (z7 (zq ⟨w.heap.size+1+1,0,zp⟩) a.length a.length)/\f.frozen? ⟨w.heap.size+1,0,zp⟩=zu)/\
    Row f (w.heap.size+1+1) a.length (zei d a.length D).1/\(f.cell? ⟨t,0,zp⟩=zq (I (zei d a.length D).2)/\f.frozen? ⟨t,0,zp⟩=zu)/\RdSl (t+1) (z7 o a.length m) a f)
  (λal D f=>False)
  (λbw f h r c=>⟨r.cell c.1,⟨r.cell c.2.1.1,r.frozen c.2.1.1 c.2.1.2⟩,r.row c.2.2.1,⟨r.cell c.2.2.2.1.1,r.frozen c.2.2.2.1.1 c.2.2.2.1.2⟩,r.rd c.2.2.2.2⟩)
  (λal bw f h r c=>c)
  ⟨b9.cell,⟨ak.cell,ak.frozen⟩,bn,⟨a6.cell,a6.frozen⟩,H.cell,a2.below a8⟩
  (λl=>{tmps:= #[z7 o a.length m,I d,zv,Value.pointer (zq {block:=w.heap.size,off:=0}),
     Value.pointer (zq {block:=w.heap.size+1,off:=0}),z7 zp 0 0,
     Value.pointer (zq {block:=t,off:=0}),zj zm (l.1.1:Int),zj zm l.1.2,z7 o a.length m,
     zj zm ↑a.length,
     z7 (zq {block:=w.heap.size+1+1,off:=0}) a.length a.length,z7 o a.length m,
     Value.func (Fn.func 292) #[] #[Value.pointer (zq {block:=t+1,off:=0})],zj zm (l.1.1:Int),zj zm l.1.2,
     zv,zv,zv,zv,zv,zv,zv,zv,zv,zv,zv,zv,zv,zv,zv,
     zv,zv,zv],defers:=[]}) ?assign ?body ?done ?stop
 case assign=>
  intro bs l f T v;gi_wp2;exact v
 case body=>
  rintro bs D l f ⟨K,⟨A,M⟩,k,⟨F,ap⟩,X⟩ a9 _;have bi:=l.2.1;have E:=l.2.2;obtain⟨s,b0⟩:∃s,l.1.1=s:=⟨_,rfl⟩;obtain⟨cb,b1⟩:∃Z,l.1.2=Z:=⟨_,rfl⟩;have O:=zkq d a.length D l;have ar:=zuo d a.length W D;simp only[b0,b1] at bi E O⊢;clear b0 b1;generalize zei d a.length D=af at*
  obtain⟨q,g⟩:=af;dsimp only at k F ar O;obtain⟨aa,N⟩:=ar;have c6:=k.cell (getD_some (show s<q.length by omega));have c7:=k.frozen s;have a3:=Lib.hid k;clear k;have a':=zaj a4 (by decide) s;subst E;generalize a[s]?.getD 0=j at*
  rw[Int.toNat_natCast] at O;have b7:=Lib.hid O;clear O;have bg:d<1000000000:=bf;have bp:j<1000000000:=a';have b':=Lib.hid N;clear N a';generalize q[s]?.getD 0=cd at*
  have b6:=Lib.hid X;clear X;have av:(0:Int)<=(j:Int)+(g:Int)*1000000000:=by omega
  have bj:(j:Int)+(g:Int)*1000000000<=1000000000000000000:=by omega
  have bh:¬d=0:=by omega
  have a7:(j:Int)+(g:Int)*1000000000=((j+g*1000000000:Nat):Int):=by simp
  have bu:(j+g*1000000000)/d<=1000000000:=by
   apply Nat.div_le_of_le_mul;have:(g+1)*1000000000<=d*1000000000:=Nat.mul_le_mul_right _ aa;omega
  have bv:(j+g*1000000000)%d<d:=zP _ W;have y:zm.wrap (((j:Int)+(g:Int)*1000000000).tdiv (d:Int))=(((j+g*1000000000)/d:Nat):Int):=by
   rw[a7,Int.tdiv_eq_ediv_of_nonneg (by omega),<-Int.natCast_ediv];generalize (j+g*1000000000)/d=b8 at*
   exact zI _ (by omega)
  have z:zm.wrap (((j:Int)+(g:Int)*1000000000).tmod (d:Int))=(((j+g*1000000000)%d:Nat):Int):=by
   rw[a7,Int.tmod_eq_emod_of_nonneg (by omega),<-Int.natCast_emod];generalize (j+g*1000000000)%d=b8 at*
   exact zI _ (by omega)
  have R:=Lib.hid y;clear y;have S:=Lib.hid z;clear z;clear a7;gi_wp2;have y:=R.out;have z:=S.out;refine zmp 9 (λf=>f.cell? ⟨w.heap.size,0,zp⟩=zq (I d)/\f.cell? ⟨w.heap.size+1,0,zp⟩=zq (z7 (zq ⟨w.heap.size+1+1,0,zp⟩) a.length a.length)) (by kernel_rfl) (by kernel_rfl) ⟨K,A⟩ ?_;simp only[List.take_succ_cons,List.take_zero,List.drop_succ_cons,List.drop_zero]
  repeat(apply zer (by rfl);(focus(rintro f ⟨c4,c5⟩;go_simp;try with_reducible rfl));try simp only[zzQ])
  refine ze6 ?_;refine zbt (by rfl) λT v=>?_;go_simp;refine v _ _ ⟨(zau _ _ _ _ (by omega)).trans K,(zau _ _ _ _ (by omega)).trans A⟩ ?_;clear v T
  try simp only[zzQ]
  refine zbt (by rfl) λT v=>?_;go_simp;refine v _ _ ⟨(zau _ _ _ _ (by omega)).trans ((zau _ _ _ _ (by omega)).trans K),(zau _ _ _ _ (by omega)).trans ((zau _ _ _ _ (by omega)).trans A)⟩ ?_;clear v T;refine ze7 ⟨rfl,?_⟩
  try simp only[zzQ]
  clear y z;gi_wp2;have P:zj zm (((j:Int)+(g:Int)*1000000000)/(d:Int))=I ((j+g*B9)/d):=by simp[I,B9]
  have Q:zj zm (((j:Int)+(g:Int)*1000000000).tmod (d:Int))=I ((j+g*B9)%d):=by rw[Int.tmod_eq_emod_of_nonneg av];simp[I,B9]
  rw[P,Q];clear P Q av bj bu bv bg bp bh R S;exact zwc (q:=q) w f rfl a9 K A M F ap a3 b6.1 (λh c=>a2.below c) Y az _ _ _ _ (b7.trans rfl)
 case done=>
  rintro a1 cc f ba ac ⟨K,⟨A,M⟩,k,⟨F,ap⟩,X⟩ a9 v;clear X;rw[zkr d a _ _ ac] at k F;obtain⟨y,z⟩:=zjq (B:=B9) (by decide) W a4.out;obtain⟨ag,b3,t3, -⟩:=zeo (B:=B9) W a4 a.length (zN _);generalize za8 B9 d a a.length=af at*
  obtain⟨q,g⟩:=af;dsimp only at*
  have bl:g<B9:=by omega
  have ab:=k.sl;rw[ag] at ab;have R:=Lib.hid y;clear y;have S:=Lib.hid z;clear z;have a5:=Lib.hid ag;clear ag;have c1:=Lib.hid b3;clear b3;have c0:=Lib.hid ac;clear ac;have a3:=Lib.hid k;clear k;have b5:=Lib.hid v;clear v;gi_wp2;refine wpIn_wide.2 ?_;have ay:∀h,qL f h->Sl h (z7 (zq ⟨w.heap.size+1+1,0,zp⟩) a.length a.length) (q.map I):=λh c=>ab.below c;have aw:∀(h:zA) (ae:Nat),ae=h.heap.size->Sl (h.alloc (zn #[I g] 3)) (z7 (zq ⟨ae,0,zp⟩) 1 1) ([g].map I):=λh ae bk=>bk▸Sl.mk (b:=h.heap.size) (off:=0) (cap:=1) (xs:=[I g]) (zN _) (λs l E=>by
   match s,E with
   |0,E=>simp at E;subst E;simp)
  have bx:=Lib.hid ay;clear ay;have bz:=Lib.hid aw;clear aw ab;have bt:w.heap.size+1<f.heap.size:=zbe A;have c9:t<f.heap.size:=zbe F;have aq:ShortC w a1 f.heap.size t a.length q g (z7 (zq ⟨w.heap.size+1+1,0,zp⟩) a.length a.length) (z7 (zq ⟨w.heap.size+1+1,0,zp⟩) (zat q).length a.length) (λ_=>zu) f.drew:=
   ⟨a9.drew,λ_=>A,(λc=>by cases c),M,F,a3.out,λ_=>rfl,(λc=>by cases c),b5.out⟩
  refine zbl (ShortC w a1 f.heap.size t a.length q g (z7 (zq ⟨w.heap.size+1+1,0,zp⟩) a.length a.length) (z7 (zq ⟨w.heap.size+1+1,0,zp⟩) (zat q).length a.length)) (by kernel_rfl) (by kernel_rfl) aq ?_;clear aq;refine zab (v:=z7 (zq ⟨w.heap.size+1+1,0,zp⟩) a.length a.length) (by rfl) (λu h c=>c.set 0 (by decide) (by decide)) (λu h i c=>by have:=c.q0 (i.no (k:=1) (i.no (k:=0) i.self (by kernel_rfl)) (by kernel_rfl));go_simp) ?_
  try simp only[zzQ]
  refine zar (z7 (zq ⟨w.heap.size+1+1,0,zp⟩) (zat q).length a.length) (by rfl) (λu h i c a0 C=>by
   go_simp;refine Calls.mono (zi6 _ _ _ q _ (by have:=c.row.sl;rw[a5.out] at this;exact this) (by rw[a5.out];omega)) ?_;rintro e w' ⟨rfl,rfl⟩;exact⟨rfl,C _ (c.set 1 (by decide) (by decide))⟩) ?_
  try simp only[zzQ]
  refine zab (v:=I g) (by rfl) (λu h c=>c.set 2 (by decide) (by decide)) (λu h i c=>by have:=c.rr;go_simp) ?_
  try simp only[zzQ]
  refine zar (z7 (zq ⟨f.heap.size,0,zp⟩) 1 1) (by rfl) (λu h i c a0 C=>by
   have bq:=c.r0 i.self;have c8:=C;go_simp;exact⟨rfl,C _ (c.fresh i.self (zbe c.rr))⟩) ?_
  try simp only[zzQ]
  refine zar (z7 (zq ⟨f.heap.size,0,zp⟩) (zat [g]).length 1) (by rfl) (λu h i c a0 C=>by
   have aa:=c.r1 (i.done 3 (by kernel_rfl));go_simp;refine Calls.mono (zi6 _ _ _ [g] _ aa.sl (by simp)) ?_;rintro e w' ⟨rfl,rfl⟩;exact⟨rfl,C _ (c.set 4 (by decide) (by decide))⟩) ?_
  try simp only[zzQ]
  refine zar zv (by rfl) (λu h i c a0 C=>by
   have N:=c.q0 i.self;have bq:=c.fz;go_simp;exact⟨rfl,C _ (c.stored i.self Y bt (by omega))⟩) ?_
  try simp only[Act.put]
  refine zab (v:=z7 (zq ⟨f.heap.size,0,zp⟩) (zat [g]).length 1) (by rfl) (λu h c=>c.set 6 (by decide) (by decide)) (λu h i c=>by go_simp) ?_
  try simp only[zzQ]
  refine zck λu h i c=>?_;have N:=c.q1 (i 5 (by decide));have bo:=c.r1 (i 3 (by decide));clear i;have bm:=c.row;have bb:=c.below;have L:=c.dk;clear c;gi_wp2;have y:=R.out;have z:=S.out;have c3:=a5.out;refine⟨by simp,.inl ⟨_,_,rfl,run_takeDeferred L,?_⟩⟩;have bc:=(zbk L).cell N;refine⟨.tuple #[z7 (zq ⟨w.heap.size+1+1,0,zp⟩) (zat q).length a.length,z7 (zq ⟨f.heap.size,0,zp⟩) (zat [g]).length 1],?_,_,_,rfl,(zbk L).sl ?_,(zbk L).sl ?_,zby bb (by omega) L⟩
  ·simp[results,Tryz.f265,go_sem,bc]
  ·rw[<-y];exact Sl.trim bm.sl
  ·rw[<-z,<-zwd bl];exact Sl.trim bo.sl
 case stop=>
  rintro a1 al D f ba _ c;exact c.elim
end
namespace Limb
def zba (B q:Nat) (v:List Nat) (j:Nat) (u:List Nat):Nat->List Nat×Nat
 |0=>(u,0)
 |k+1=>let r:=zba B q v j u k;let x:=r.1[j+k]?.getD 0;let y:=r.2+q*v[k]?.getD 0;let c:=(y-x+(B-1))/B;(r.1.set (j+k) (x+c*B-y),c)
theorem zej {B:Nat} (t:2<=B) {q:Nat} {v:List Nat} (l:zal B v) (j:Nat) {u:List Nat} (i:zal B u):∀k,j+k<=u.length->
 (zba B q v j u k).1.length=u.length/\zal B (zba B q v j u k).1/\(zba B q v j u k).2<=q/\
   valL B (zba B q v j u k).1+B^j*(q*valL B (v.take k))=valL B u+B^(j+k)*(zba B q v j u k).2
 |0,_=>⟨rfl,i,by simp[zba],by simp[zba,valL]⟩
 |k+1,J=>by
  obtain⟨s,g,H,I⟩:=zej t l j i k (by omega);have A:=zaj l (by omega) k;simp only[zba];rw[zbo];generalize zba B q v j u k=C at*
  obtain⟨m,c⟩:=C;simp only at*
  have M:=zaj g (by omega) (j+k);have z:=λD=>zgc B m (j+k) D (by omega);generalize v[k]?.getD 0=a at*
  generalize m[j+k]?.getD 0=d at*
  have K:q*a+q<=q*B:=by rw[<-Nat.mul_succ];exact xB _ A
  have w:(c+q*a-d+(B-1))/B<=q:=by
   apply Nat.le_of_lt_succ;apply Nat.div_lt_of_lt_mul;rw[yP B,Nat.succ_mul];omega
  have n:=Nat.div_add_mod (c+q*a-d+(B-1)) B;have F:=zP (c+q*a-d+(B-1)) (show 0<B by omega);rw[yP] at n;generalize (c+q*a-d+(B-1))/B=b at*
  generalize (c+q*a-d+(B-1))%B=E at*
  have h:d+b*B-(c+q*a)<B/\c+q*a<=d+b*B:=by
   rcases Nat.lt_or_ge d (c+q*a) with r|r
   ·omega
   ·have:b=0:=by
     rcases xD b with f|f
     ·exact f
     ·have:1*B<=b*B:=Nat.mul_le_mul_right _ f
      omega
    subst this;omega
  obtain⟨e,x⟩:∃e,e=d+b*B-(c+q*a):=⟨_,rfl⟩;rw[<-x] at h⊢;have y:e+(c+q*a)=d+b*B:=by omega
  refine⟨by simp[s],zfm g _ h.1,w,?_⟩;have L:=z e;have G:B^(j+k)*e+B^(j+k)*c+B^(j+k)*(q*a)=B^(j+k)*d+B^(j+k)*(b*B):=by
   rw[<-yZ,<-yZ,<-yZ,<-y,Nat.add_assoc]
  have o:B^j*(q*(valL B (v.take k)+B^k*a))=B^j*(q*valL B (v.take k))+B^(j+k)*(q*a):=by
   rw[yZ,yZ,Nat.pow_add,Nat.mul_assoc (B^j) (B^k),<-Nat.mul_assoc q,yP q (B^k),Nat.mul_assoc]
  have p:B^(j+(k+1))*b=B^(j+k)*(b*B):=by
   rw[show j+(k+1)=j+k+1 by omega,yO,Nat.mul_assoc,yP B b]
  rw[o,p];omega
theorem zfy {B q:Nat} {v:List Nat} {j:Nat} {u:List Nat} (i:Nat):∀k,(i<j\/j+k<=i)->(zba B q v j u k).1[i]? =u[i]?
 |0,_=>rfl
 |k+1,h=>by
  simp only[zba];rw[List.getElem?_set_ne (by omega)];exact zfy i k (by omega)
theorem zl3 {B q:Nat} {v:List Nat} {j:Nat} {u:List Nat} (i:Nat):∀k,(i<j\/j+k<=i)->(zay B q v j u k).1[i]? =u[i]?
 |0,_=>rfl
 |k+1,h=>by
  simp only[zay];rw[List.getElem?_set_ne (by omega)];exact zl3 i k (by omega)
theorem zks {B:Nat} (o:2<=B) {x:Nat} {b:List Nat} (g:zal B b) (i:Nat) {a:List Nat} (h:zal B a):∀k,i+k<=a.length->
 (zay B x b i a k).1.length=a.length/\zal B (zay B x b i a k).1/\(zay B x b i a k).2<=x/\
   valL B (zay B x b i a k).1+B^(i+k)*(zay B x b i a k).2=valL B a+B^i*(x*valL B (b.take k))
 |0,_=>⟨rfl,h,by simp[zay],by simp[zay,valL]⟩
 |k+1,z=>by
  obtain⟨n,f,w,y⟩:=zks o (x:=x) g i h k (by omega);have q:=zaj g (by omega) k;simp only[zay];rw[zbo];generalize zay B x b i a k=t at*
  obtain⟨j,d⟩:=t;simp only at*
  have D:=zaj f (by omega) (i+k);have p:=λu=>zgc B j (i+k) u (by omega);generalize b[k]?.getD 0=c at*
  generalize j[i+k]?.getD 0=e at*
  have C:x*c+x<=x*B:=by rw[<-Nat.mul_succ];exact xB _ q
  refine⟨by simp[n],zfm f _ (zP _ (by omega)),Nat.le_of_lt_succ (Nat.div_lt_of_lt_mul (by rw[yP B,Nat.succ_mul];omega)),?_⟩;have l:=Nat.mod_add_div (e+x*c+d) B;have A:=p ((e+x*c+d)%B);generalize (e+x*c+d)%B=r at*
  generalize (e+x*c+d)/B=s at*
  have v:B^(i+k)*r+B^(i+k)*B*s=B^(i+k)*e+B^(i+k)*(x*c)+B^(i+k)*d:=by
   rw[<-yZ,<-yZ,<-l,yZ,Nat.mul_assoc]
  rw[show i+(k+1)=i+k+1 by omega,yO];have m:B^i*(x*(valL B (b.take k)+B^k*c))=B^i*(x*valL B (b.take k))+B^(i+k)*(x*c):=by
   rw[yZ,yZ,Nat.pow_add,Nat.mul_assoc (B^i) (B^k),<-Nat.mul_assoc x,yP x (B^k),Nat.mul_assoc]
  rw[m];omega
theorem zqw {B:Nat}:∀{a b:List Nat},zal B a->zal B b->a.length=b.length->valL B a=valL B b->a=b
 |[],[],_,_,_,_=>rfl
 |[],_::_,_,_,h,_=>by cases h
 |_::_,[],_,_,h,_=>by cases h
 |d::a,y::b,ha,hb,hl,hv=>by
  have i:d<B:=ha d (by simp);have j:y<B:=hb y (by simp);simp only[valL] at hv;have f:d=y:=by
   have:=congrArg (· %B) hv;simpa [Nat.add_mul_mod_self_left,zQ i,zQ j] using this
  subst f;have g:valL B a=valL B b:=Nat.eq_of_mul_eq_mul_left (show 0<B by omega) (by omega);rw[zqw (λe c=>ha e (by simp[c])) (λe c=>hb e (by simp[c])) (by simpa using hl) g]
theorem zqx {B:Nat} {l:List Nat} (h:zal B l) {p:Nat} (d:p<=l.length):valL B l%B^p=valL B (l.take p):=by
 have a:=zc7 B l p;have c:(l.take p).length=p:=by simp;omega
 have b:=zb6 (zcu h p);rw[c] at a b;rw[a,Nat.add_mul_mod_self_left,zQ b]
theorem zps {a b:List Nat} (p:Nat) (d:a.take p=b.take p) (e:∀i,p<=i->a[i]? =b[i]?):a=b:=by
 apply List.ext_getElem?;intro i;rcases Nat.lt_or_ge i p with c|c
 ·have:=congrArg (·[i]?) d
  simpa [List.getElem?_take,c] using this
 ·exact e i c
theorem zwe {B:Nat} (c:2<=B) {q:Nat} {v:List Nat} (f:zal B v) {j:Nat} {u:List Nat} (b:zal B u) (k:Nat) (e:j+k<=u.length):
 (zay B q v j (zba B q v j u k).1 k).1=u:=by
 obtain⟨s,n,t3,t⟩:=zej c (q:=q) f j b k e;obtain⟨o,h,p,r⟩:=zks c (x:=q) f j n k (by omega);have m:∀a,j+k<=a->(zay B q v j (zba B q v j u k).1 k).1[a]? =u[a]? :=λa d=>by
  rw[zl3 a k (.inr d),zfy a k (.inr d)]
 generalize (zba B q v j u k)=i at*
 generalize (zay B q v j i.1 k)=g at*
 refine zps (j+k) ?_ m;refine zqw (zcu h _) (zcu b _) (by simp;omega) ?_;rw[<-zqx h (by omega),<-zqx b e];have l:valL B g.1+B^(j+k)*g.2=valL B u+B^(j+k)*i.2:=by omega
 have:=congrArg (· %B^(j+k)) l;simpa [Nat.add_mul_mod_self_left] using this
theorem zdb (l:List Nat) (k:Nat) (B:Nat) (h:k<l.length):valL B (l.drop k)=l[k]?.getD 0+B*valL B (l.drop (k+1)):=by
 rw[zdu l k B h];simp[h]
theorem zwf {B:Nat} (h:2<=B) {u v:List Nat} (e:zal B v) {j:Nat} (k:j+v.length+1<=u.length) (i:valL B (u.drop j)<B*valL B v):
 valL B (u.drop (j+(v.length+1)))=0:=by
 have b:=zc7 B (u.drop j) (v.length+1);have d:((u.drop j).take (v.length+1)).length=v.length+1:=by simp;omega
 rw[d,List.drop_drop] at b;have c:=zb6 e;rcases xD (valL B (u.drop (j+(v.length+1)))) with a|a
 ·exact a
 ·have f:B^(v.length+1)*1<=B^(v.length+1)*valL B (u.drop (j+(v.length+1))):=xB _ a
  have g:B*valL B v+B<=B^(v.length+1):=by
   rw[yO,yP _ B,<-Nat.mul_succ];exact xB _ c
  omega
theorem zoz {B:Nat} (e:2<=B) {q:Nat} {u v:List Nat} (t:zal B u) (g:zal B v) {j:Nat} (p:j+v.length+1<=u.length) (o:valL B (u.drop j)<B*valL B v):
 ((zba B q v j u (v.length+1)).2=0->valL B ((zba B q v j u (v.length+1)).1.drop j)+q*valL B v=valL B (u.drop j)/\
   valL B (zba B q v j u (v.length+1)).1+B^j*(q*valL B v)=valL B u)/\
 ((zba B q v j u (v.length+1)).2≠0->valL B (u.drop j)<q*valL B v):=by
 have hw:=zwf e g p o;obtain⟨y,x,t3,b⟩:=zej e (q:=q) g j t (v.length+1) (by omega);rw[List.take_of_length_le (show v.length<=v.length+1 by omega)] at b;have r:(zba B q v j u (v.length+1)).1.take j=u.take j:=by
  apply List.ext_getElem?;intro h;rw[List.getElem?_take,List.getElem?_take];split
  ·exact zfy h _ (.inl (by assumption))
  ·rfl
 have s:(zba B q v j u (v.length+1)).1.drop (j+(v.length+1))=u.drop (j+(v.length+1)):=by
  apply List.ext_getElem?;intro h;rw[List.getElem?_drop,List.getElem?_drop];exact zfy _ _ (.inr (by omega))
 generalize zba B q v j u (v.length+1)=a at*
 have l:=zc7 B a.1 j;have m:=zc7 B u j;have k:(u.take j).length=j:=by simp;omega
 rw[r,k] at l;rw[k] at m;have c:=zc7 B (a.1.drop j) (v.length+1);have w:((a.1.drop j).take (v.length+1)).length=v.length+1:=by simp;omega
 have f:=zb6 (zcu (zg5 x j) (v.length+1));rw[w] at f;rw[List.drop_drop,s,hw,Nat.mul_zero,Nat.add_zero] at c;rw[<-c] at f;have n:0<B^j:=Nat.pow_pos (by omega);have i:valL B (a.1.drop j)+q*valL B v=valL B (u.drop j)+B^(v.length+1)*a.2:=by
  apply Nat.eq_of_mul_eq_mul_left n;rw[yZ,yZ,<-Nat.mul_assoc (B^j) (B^(v.length+1)),<-Nat.pow_add];omega
 constructor
 ·intro d
  rw[d,Nat.mul_zero,Nat.add_zero] at i b;exact⟨i,b⟩
 ·intro d
  have:B^(v.length+1)*1<=B^(v.length+1)*a.2:=xB _ (by omega);omega
theorem zne {B:Nat} (c:2<=B) {u v:List Nat} (f:zal B u) (b:zal B v) {j n:Nat} (g:v.length=n+2) (e:j+v.length+1<=u.length) (d:valL B (u.drop j)<B*valL B v):
 (∃low,low<B^n/\valL B (u.drop j)=low+B^n*(u[j+n]?.getD 0+B*(u[j+n+1]?.getD 0+B*u[j+n+2]?.getD 0)))/\
 (∃low,low<B^n/\valL B v=low+B^n*(v[n]?.getD 0+B*v[n+1]?.getD 0)):=by
 have hw:=zwf c b e d;constructor
 ·refine⟨valL B ((u.drop j).take n),?_,?_⟩
  ·have:=zb6 (zcu (zg5 f j) n)
   rw[show((u.drop j).take n).length=n by simp;omega] at this;exact this
  ·have a:=zc7 B (u.drop j) n
   rw[show((u.drop j).take n).length=n by simp;omega,List.drop_drop,zdb u (j+n) B (by omega),zdb u (j+n+1) B (by omega),zdb u (j+n+1+1) B (by omega),show j+n+1+1+1=j+(v.length+1) by omega,hw] at a;simpa using a
 ·refine⟨valL B (v.take n),?_,?_⟩
  ·have:=zb6 (zcu b n)
   rw[show(v.take n).length=n by simp;omega] at this;exact this
  ·have a:=zc7 B v n
   rw[show(v.take n).length=n by simp;omega,zdb v n B (by omega),zdb v (n+1) B (by omega),List.drop_eq_nil_of_le (by omega)] at a;simpa [valL] using a
theorem zys {B:Nat} (x:2<=B) {u v:List Nat} (m:zal B u) (r:zal B v) {j n:Nat} (C:v.length=n+2) (z:j+v.length+1<=u.length) (y:valL B (u.drop j)<B*valL B v) (q:0<v[n+1]?.getD 0):
 valL B (u.drop j)/valL B v<=(u[j+n+2]?.getD 0*B+u[j+n+1]?.getD 0)/v[n+1]?.getD 0/\(u[j+n+2]?.getD 0*B+u[j+n+1]?.getD 0)/v[n+1]?.getD 0<2*B:=by
 obtain⟨⟨L,H,G⟩,⟨D,I,p⟩⟩:=zne x m r C z y;have E:=zaj m (by omega) (j+n);have M:=zaj m (by omega) (j+n+1);have F:=zaj r (by omega) n;generalize u[j+n]?.getD 0=g at*
 generalize u[j+n+1]?.getD 0=e at*
 generalize u[j+n+2]?.getD 0=c at*
 generalize v[n]?.getD 0=s at*
 generalize v[n+1]?.getD 0=b at*
 generalize valL B (u.drop j)=h at*
 generalize valL B v=i at*
 have J:0<B^n:=Nat.pow_pos (by omega);generalize B^n=a at*
 have A:c<=b:=by
  rcases Nat.lt_or_ge b c with f|f
  ·have a1:a*(B*(B*(b+1)))<=a*(B*(B*c)):=xB _ (xB _ (xB _ f))
   have k:D+a*(s+B*b)+1<=a*(B*(b+1)):=by
    have o:a*(s+1)<=a*B:=xB _ F;rw[Nat.mul_succ] at o;rw[yZ,Nat.mul_succ,yZ];omega
   have l:=xB B k;have t:a*(g+B*(e+B*c))=a*g+a*(B*e)+a*(B*(B*c)):=by rw[yZ B,<-Nat.add_assoc,yZ,yZ]
   have w:B*(a*(B*(b+1)))=a*(B*(B*(b+1))):=Nat.mul_left_comm _ _ _;rw[Nat.mul_succ,<-p,w] at l;omega
  ·exact f
 constructor
 ·rw[Nat.le_div_iff_mul_le q]
  have K:h/i*i<=h:=Nat.div_mul_le_self _ _;generalize h/i=d at*
  rcases Nat.lt_or_ge (c*B+e) (d*b) with f|f
  ·have a1:a*B*(c*B+e+1)<=a*B*(d*b):=xB _ f
   have k:a*B*(d*b)<=d*i:=by
    rw[p,yZ d,yZ a,yZ d];have:a*B*(d*b)=d*(a*(B*b)):=by
     rw[Nat.mul_left_comm,Nat.mul_assoc]
    omega
   have o:h<a*B*(c*B+e+1):=by
    have l:a*(g+1)<=a*B:=xB _ E;rw[Nat.mul_succ] at l;have t:a*(g+B*(e+B*c))=a*g+a*B*(c*B+e):=by
     rw[yZ,Nat.mul_assoc,Nat.add_comm e,yP B c]
    rw[Nat.mul_succ];omega
   omega
  ·exact f
 ·apply Nat.div_lt_of_lt_mul
  have a1:c*B<=b*B:=Nat.mul_le_mul_right _ A;have k:1*B<=b*B:=Nat.mul_le_mul_right _ q;have:b*(2*B)=b*B+b*B:=by rw[Nat.mul_left_comm,Nat.two_mul]
  omega
theorem z03 {B:Nat} (o:2<=B) {u v:List Nat} (x:zal B u) (y:zal B v) {j n q r:Nat} (t:v.length=n+2) (s:j+v.length+1<=u.length) (b:valL B (u.drop j)<B*valL B v)
 (w:q*v[n+1]?.getD 0+r=u[j+n+2]?.getD 0*B+u[j+n+1]?.getD 0) (h:B<=q\/r*B+u[j+n]?.getD 0<q*v[n]?.getD 0):valL B (u.drop j)/valL B v<q:=by
 have p:0<valL B v:=by
  rcases xD (valL B v) with h|h
  ·rw[h] at b;simp at b
  ·exact h
 rw[Nat.div_lt_iff_lt_mul p];rcases h with h|h
 ·exact Nat.lt_of_lt_of_le b (Nat.mul_le_mul_right _ h)
 ·obtain⟨⟨z,F,l⟩,⟨A,G,m⟩⟩:=zne o x y t s b
  generalize u[j+n]?.getD 0=e at*
  generalize u[j+n+1]?.getD 0=c at*
  generalize u[j+n+2]?.getD 0=d at*
  generalize v[n]?.getD 0=f at*
  generalize v[n+1]?.getD 0=g at*
  generalize valL B (u.drop j)=i at*
  generalize valL B v=k at*
  generalize B^n=a at*
  have a1:a*(r*B+e+1)<=a*(q*f):=xB _ h;rw[Nat.mul_succ] at a1;have C:q*k=q*A+a*(q*f)+a*(B*(q*g)):=by
   rw[m,yZ q,yZ a,yZ q,Nat.mul_left_comm q a,Nat.mul_left_comm q a,Nat.mul_left_comm q B,Nat.add_assoc]
  have D:a*(B*(q*g))+a*(r*B)=a*(B*(d*B+c)):=by
   rw[<-w,yZ B,yZ a,yP r B]
  have E:i=z+a*e+a*(B*(d*B+c)):=by
   rw[l,yZ a,Nat.add_comm c,yP B d,Nat.add_assoc]
  rw[yZ] at a1;omega
structure DivAt (B:Nat) (u0 v:List Nat) (m:Nat) (j:Nat) (u Q:List Nat):Prop where
 ul:u.length=u0.length
 us:zal B u
 ql:Q.length=m
 qs:zal B Q
 val:valL B u+valL B v*valL B Q=valL B u0
 high:valL B (u.drop j)<valL B v
 zero:∀i,i<j->Q[i]?.getD 0=0
theorem DivAt.below {B:Nat} (c:2<=B) {b v:List Nat} {m j:Nat} {u Q:List Nat} (h:DivAt B b v m (j+1) u Q) (a:j<u.length):valL B (u.drop j)<B*valL B v:=by
 have d:=zaj h.us (by omega) j;rw[zdb u j B a];have:=xB B h.high;rw[Nat.mul_succ] at this;omega
theorem DivAt.step {B:Nat} (a:2<=B) {i v:List Nat} {m j q:Nat} {u Q:List Nat} (h:DivAt B i v m (j+1) u Q) (g:zal B v) (o:j<m) (n:j+v.length+1<=u.length)
 (p:valL B (u.drop j)/valL B v<=q) (l:(zba B q v j u (v.length+1)).2=0):DivAt B i v m j (zba B q v j u (v.length+1)).1 (Q.set j q)/\q<B:=by
 have c:=h.below a (by omega);have d:0<valL B v:=Nat.lt_of_le_of_lt (zR _) h.high;obtain⟨w,k⟩:=(zoz a (q:=q) h.us g n c).1 l;obtain⟨s,t,t3,z⟩:=zej a (q:=q) g j h.us (v.length+1) (by omega);have f:valL B (u.drop j)/valL B v=q:=by
  refine Nat.le_antisymm p ?_;rw[Nat.le_div_iff_mul_le d];omega
 have e:q<B:=by rw[<-f];exact Nat.div_lt_of_lt_mul (by rw[yP];exact c)
 refine⟨⟨by rw[s,h.ul],t,by simp[h.ql],zfm h.qs _ e,?_,?_,λr x=>by rw[List.getElem?_set_ne (by omega)];exact h.zero r (by omega)⟩,e⟩
 ·have b:=zgc B Q j q (by rw[h.ql];exact o)
  rw[h.zero j (by omega),Nat.mul_zero,Nat.add_zero] at b;rw[b,yZ,<-h.val,<-k,Nat.mul_left_comm (valL B v),yP (valL B v) q];omega
 ·have:=Nat.div_add_mod (valL B (u.drop j)) (valL B v)
  have y:=zP (valL B (u.drop j)) d;rw[f,yP] at this;omega
theorem DivAt.out {B:Nat} {b v:List Nat} {m:Nat} {u Q:List Nat} (h:DivAt B b v m 0 u Q):valL B Q=valL B b/valL B v/\valL B u=valL B b%valL B v:=by
 have a:=h.high;rw[List.drop_zero] at a;have:=h.val;rw[Nat.add_comm] at this;constructor
 ·rw[<-this,Nat.mul_add_div (by omega),Nat.div_eq_of_lt a,Nat.add_zero]
 ·rw[<-this,Nat.mul_add_mod,zQ a]
end Limb
section
open Go.RowKit Lib Str Limb
structure Only (g:Nat) (a w:zA):Prop where
 os:w.os=a.os
 tape:w.tape=a.tape
 output:w.output=a.output
 size:a.heap.size<=w.heap.size
 block:∀k,k<a.heap.size->k≠g->w.heap[k]? =a.heap[k]?
theorem Only.refl (g:Nat) (w:zA):Only g w w:=⟨rfl,rfl,rfl,zN _,λ_ _ _=>rfl⟩
theorem Only.trans {g:Nat} {a b c:zA} (h:Only g a b) (k:Only g b c):Only g a c:=
 ⟨k.os.trans h.os,k.tape.trans h.tape,k.output.trans h.output,zO h.size k.size,λf d e=>(k.block f (Nat.lt_of_lt_of_le d h.size) e).trans (h.block f d e)⟩
theorem Only.drewN {g:Nat} {a w:zA} (h:Only g a w) (n:Nat):Only g a (w.drewN n):=⟨h.os,h.tape,h.output,h.size,h.block⟩
theorem Only.setCell {g o:Nat} {a w:zA} (h:Only g a w) (u:Value):Only g a (w.setCell ⟨g,o,zp⟩ u):=
 h.trans ⟨rfl,rfl,rfl,by simp[World.setCell],λc _ b=>yE _ _ _ _ b⟩
theorem Only.below {g B:Nat} {a b w:zA} (h:zB B a b) (e:B<=a.heap.size) (f:B<=g) (k:Only g b w):zB B a w:=
 ⟨k.os.trans h.os,k.tape.trans h.tape,k.output.trans h.output,zO h.size k.size,λc d=>(k.block c (by have:=h.size;omega) (by omega)).trans (h.block c d)⟩
theorem Only.row {g b cap:Nat} {a w:zA} {l:List Nat} (h:Only g a w) (i:Row a b cap l) (f:b≠g):Row w b cap l:=by
 obtain⟨d,c,e⟩:=i;exact⟨d,(h.block b (Array.getElem?_eq_some_iff.1 c).1 f).trans c,e⟩
theorem zyt (z c q y:Nat) (n:Int) (d:n=(z:Int)-c-(q:Int)*y) (h:n<0):
 (-n+1000000000-1)/1000000000=(((c+q*y-z+(B9-1))/B9:Nat):Int)/\zj zm (n+(-n+1000000000-1)/1000000000*1000000000)=I (z+(c+q*y-z+(B9-1))/B9*B9-(c+q*y)):=by
 rw[<-xE] at d;generalize q*y=b at*
 have a:(-n+1000000000-1)/1000000000=(((c+b-z+(B9-1))/B9:Nat):Int):=by
  unfold B9;omega
 refine⟨a,?_⟩;rw[a];unfold I B9;congr 1;omega
theorem zyu (z c q y:Nat) (n:Int) (d:n=(z:Int)-c-(q:Int)*y) (h:¬n<0):
 (c+q*y-z+(B9-1))/B9=0/\zj zm n=I (z+(c+q*y-z+(B9-1))/B9*B9-(c+q*y)):=by
 rw[<-xE] at d;generalize q*y=b at*
 have a:(c+b-z+(B9-1))/B9=0:=by
  unfold B9;omega
 refine⟨a,?_⟩;rw[a];unfold I;congr 1;omega
theorem zsp (g cap:Nat) (u v:List Nat) (S:Value) (j q:Nat) (w:zA) (b:Row w g cap u) (y:∀h,Only g w h->Sl h S (v.map I)) (Q:zal B9 u) (R:zal B9 v)
 (a3:j+v.length+1<=u.length) (a5:u.length<=2500) (am:v.length<=1000) (o:q<=2*B9):
 Calls zF 269 #[z7 (zq ⟨g,0,zp⟩) u.length cap,S,I j,I q] w λe w'=>e=zo (z7 (zq ⟨g,0,zp⟩) u.length cap)/\Row w' g cap (zay B9 q v j u (v.length+1)).1/\Only g w w':=by
 obtain⟨a6,a1,rfl,a2, -⟩:=y w (Only.refl g w);simp only[zV] at*
 have Y:=hid y;clear y a2;have a0:=hid Q;clear Q;have E:=hid R;clear R;obtain⟨D,s⟩:=zzX u.length;rw[<-s] at a3 a5⊢;have A:=hid s;clear s;go_enter Tryz.func269,Tryz.ntmps269;go_wp2;go_loopw [9,15] (λd z wr=>∃a:Nat,a<=v.length+1/\z=zj zm a/\d=I (zay B9 q v j u a).2/\Row wr g cap (zay B9 q v j u a).1/\Only g w wr)
  (λ_ z _=>v.length+1-(zL z).toNat)
 case atStart=>exact⟨0,zR _,rfl,rfl,b,Only.refl _ _⟩
 case round=>
  clear b;obtain⟨a,ah,rfl,rfl,b,t⟩:=hrel;by_cases hlk:a<v.length+1
  ·obtain⟨N,O,P, -⟩:=zks (B:=B9) (by decide) (x:=q) E j a0 a (by rw[<-A.out];omega)
   have J:=zaj E (by decide) a;have G:zay B9 q v j u (a+1)=((zay B9 q v j u a).1.set (j+a) (((zay B9 q v j u a).1[j+a]?.getD 0+q*v[a]?.getD 0+(zay B9 q v j u a).2)%B9),((zay B9 q v j u a).1[j+a]?.getD 0+q*v[a]?.getD 0+(zay B9 q v j u a).2)/B9):=rfl;have C:=hid G;clear G;generalize zay B9 q v j u a=a7 at*
   obtain⟨p,d⟩:=a7;dsimp only at*
   have F:j+a<p.length:=by rw[N,<-A.out];omega
   have ad:=b.cell (getD_some F);have ae:=b.frozen (j+a);have L:=zaj O (by decide) (j+a);have a4:q<=2000000000:=o;have ac:d<=2000000000:=zO P o;have al:p[j+a]?.getD 0<1000000000:=L;have ak:v[a]?.getD 0<1000000000:=J;have ab:j+a<D:=by omega
   have af:(0:Int)<=(j:Int)+a:=by omega
   have ag:(j:Int)+a<D:=by omega
   have H:=λh=>zfh (z7 a6 v.length a1) v a h;have Z:=hid H;clear H;have r:=hid b;have a8:=hid o;clear N O P L J b F o;generalize M:p[j+a]?.getD 0=f at*
   have aa:=hid M;clear M;have ai:(0:Int)<=(q:Int)*(v[a]?.getD 0:Nat):=by rw[<-xE];omega
   have aj:(q:Int)*(v[a]?.getD 0:Nat)<=1999999998000000000:=by
    have:=Nat.mul_le_mul a4 (show v[a]?.getD 0<=999999999 by omega);rw[<-xE];omega
   generalize K:v[a]?.getD 0=c at*
   have a9:=hid K;clear K;have i:zm.wrap ((q:Int)*c)=(q:Int)*c:=zI _ (by omega);have k:zm.wrap ((f:Int)+(q:Int)*c)=(f:Int)+(q:Int)*c:=zI _ (by omega);have l:zm.wrap ((f:Int)+(q:Int)*c+d)=(f:Int)+(q:Int)*c+d:=zI _ (by omega);have m:zm.wrap ((j:Int)+a)=(j:Int)+a:=zI _ (by omega);have n:((j:Int)+a).toNat=j+a:=by omega
   have T:=hid i;have U:=hid k;have V:=hid l;have W:=hid m;have X:=hid n;clear i k l m n;go_wp2;have i:=T.out;have k:=U.out;have l:=V.out;have m:=W.out;have n:=X.out;go_quiet ((go_at_call 234;exact Calls.quiet_of_same (zi5 (Z _ (Y _ (t.drewN _)) (by omega)))));clear i k l m n;go_wp2;go_roundw
   case rel=>
    refine⟨a+1,by omega,by go_num,?_,?_,?_⟩
    ·rw[C.out];simp[B9]
    ·rw[C.out]
     have:=Row.set (w:=wr.drewN nq) (show Row (wr.drewN nq) g cap p from r.out) (j+a) ((f+q*c+d)%B9);have e:I ((f+q*c+d)%B9)=zj zm (((f:Int)+q*c+d)%1000000000):=by simp[I,B9]
     rw[e] at this;exact this
    ·exact(t.drewN _).setCell _
   case measure=>simp[zL];omega
  ·obtain rfl:a=v.length+1:=by omega
   have r:=hid b;clear b;go_wp2;go_ret;exact⟨rfl,r.out,t⟩
theorem zyv (g cap:Nat) (u v:List Nat) (a1:Value) (j q:Nat) (w:zA) (f:Row w g cap u) (D:∀o,Only g w o->Sl o a1 (v.map I)) (Z:zal B9 u) (a0:zal B9 v)
 (a7:j+v.length+1<=u.length) (ab:u.length<=2500) (au:v.length<=1000) (x:q<=2*B9):
 Calls zF 268 #[z7 (zq ⟨g,0,zp⟩) u.length cap,a1,I j,I q] w λe w'=>e=zo (.bool (decide (0<(zba B9 q v j u (v.length+1)).2)))/\Row w' g cap (zba B9 q v j u (v.length+1)).1/\Only g w w':=by
 obtain⟨ac,a5,rfl,a6, -⟩:=D w (Only.refl g w);simp only[zV] at*
 have a2:=hid D;clear D a6;have a4:=hid Z;clear Z;have O:=hid a0;clear a0;obtain⟨N,A⟩:=zzX u.length;rw[<-A] at a7 ab⊢;have L:=hid A;clear A;go_enter Tryz.func268,Tryz.ntmps268;go_wp2;go_loopw [9,15] (λb E wr=>∃a:Nat,a<=v.length+1/\E=zj zm a/\b=I (zba B9 q v j u a).2/\Row wr g cap (zba B9 q v j u a).1/\Only g w wr)
  (λ_ E _=>v.length+1-(zL E).toNat)
 case atStart=>exact⟨0,zR _,rfl,rfl,f,Only.refl _ _⟩
 case round=>
  clear f;obtain⟨a,an,rfl,rfl,f,t⟩:=hrel;by_cases hlk:a<v.length+1
  ·obtain⟨W,X,Y, -⟩:=zej (B:=B9) (by decide) (q:=q) O j a4 a (by rw[<-L.out];omega)
   have S:=zaj O (by decide) a;have Q:zba B9 q v j u (a+1)=((zba B9 q v j u a).1.set (j+a) ((zba B9 q v j u a).1[j+a]?.getD 0+((zba B9 q v j u a).2+q*v[a]?.getD 0-(zba B9 q v j u a).1[j+a]?.getD 0+(B9-1))/B9*B9-((zba B9 q v j u a).2+q*v[a]?.getD 0)),((zba B9 q v j u a).2+q*v[a]?.getD 0-(zba B9 q v j u a).1[j+a]?.getD 0+(B9-1))/B9):=rfl;have n:=hid Q;clear Q;generalize zba B9 q v j u a=ad at*
   obtain⟨k,b⟩:=ad;dsimp only at*
   have P:j+a<k.length:=by rw[W,<-L.out];omega
   have aj:=f.cell (getD_some P);have ak:=f.frozen (j+a);have U:=zaj X (by decide) (j+a);have aa:q<=2000000000:=x;have ai:b<=2000000000:=zO Y x;have ar:k[j+a]?.getD 0<1000000000:=U;have aq:v[a]?.getD 0<1000000000:=S;have ah:j+a<N:=by omega
   have al:(0:Int)<=(j:Int)+a:=by omega
   have am:(j:Int)+a<N:=by omega
   have R:=λo=>zfh (z7 ac v.length a5) v a o;have a3:=hid R;clear R;have m:=hid f;have ae:=hid x;clear W X Y U S f P x;generalize V:k[j+a]?.getD 0=d at*
   have ag:=hid V;clear V;have a8:(0:Int)<=(q:Int)*(v[a]?.getD 0:Nat):=by rw[<-xE];omega
   have a9:(q:Int)*(v[a]?.getD 0:Nat)<=1999999998000000000:=by
    have:=Nat.mul_le_mul aa (show v[a]?.getD 0<=999999999 by omega);rw[<-xE];omega
   generalize T:v[a]?.getD 0=c at*
   have af:=hid T;clear T;have p:zm.wrap ((q:Int)*c)=(q:Int)*c:=zI _ (by omega);have r:zm.wrap ((d:Int)-b)=(d:Int)-b:=zI _ (by omega);have s:zm.wrap ((d:Int)-b-(q:Int)*c)=(d:Int)-b-(q:Int)*c:=zI _ (by omega);have h:zm.wrap ((j:Int)+a)=(j:Int)+a:=zI _ (by omega);have i:((j:Int)+a).toNat=j+a:=by omega
   have F:=hid p;have G:=hid r;have H:=hid s;have J:=hid h;have K:=hid i;clear p r s h i;go_wp2;have p:=F.out;have r:=G.out;have s:=H.out;have h:=J.out;have i:=K.out;go_quiet ((go_at_call 234;exact Calls.quiet_of_same (zi5 (a3 _ (a2 _ (t.drewN _)) (by omega)))));clear p r s h i F G H;obtain⟨l,C⟩:=zzX ((d:Int)-b-(q:Int)*c:Int);rw[<-C];have ao:l<1000000000:=by omega
   have ap: -3000000000000000000<l:=by omega
   have M:=hid C;clear C a8 a9;have h:=J.out;have i:=K.out;by_cases hneg:l<0
   ·go_wp2
    go_roundw
    case rel=>
     obtain⟨y,z⟩:=zyt d b q c l M hneg;refine⟨a+1,by omega,by go_num,?_,?_,?_⟩
     ·rw[n.out,y]
     ·rw[n.out,z]
      exact Row.set (w:=wr.drewN nq) (show Row (wr.drewN nq) g cap k from m.out) (j+a) (d+(b+q*c-d+(B9-1))/B9*B9-(b+q*c))
     ·exact(t.drewN _).setCell _
    case measure=>simp[zL];omega
   ·go_wp2
    go_roundw
    case rel=>
     obtain⟨y,z⟩:=zyu d b q c l M hneg;refine⟨a+1,by omega,by go_num,?_,?_,?_⟩
     ·rw[n.out,y];rfl
     ·rw[n.out,z]
      exact Row.set (w:=wr.drewN nq) (show Row (wr.drewN nq) g cap k from m.out) (j+a) (d+(b+q*c-d+(B9-1))/B9*B9-(b+q*c))
     ·exact(t.drewN _).setCell _
    case measure=>simp[zL];omega
  ·obtain rfl:a=v.length+1:=by omega
   have m:=hid f;clear f;go_wp2;go_ret;exact⟨by simp,m.out,t⟩
theorem zup {P:Program} {ops:Array Oper} {C:zA->Prop} {Q:Act->Prop} {a:Act} {o:Oper} {b:List Oper} {v:Value} (hw:Region.wanted o (yielded ops a.tmps)=true)
 (hy:∀w,C w->(execOp a.eval o).run P w=.ok (.value v) w) (h:wpQuiet P ops C Q b (a.put o.dst v)):wpQuiet P ops C Q (o::b) a:=by
 simp only[wpQuiet,hw,if_true];exact⟨v,λw c=>by unfold Oper.quietAt;rw[hy w c];exact⟨rfl,rfl⟩,h⟩
theorem zuq {P:Program} {ops:Array Oper} {C:zA->Prop} {Q:Act->Prop} {a:Act} {o:Oper} {b:List Oper} (hw:Region.wanted o (yielded ops a.tmps)=zu)
 (h:wpQuiet P ops C Q b (a.put o.dst zv)):wpQuiet P ops C Q (o::b) a:=by
 simp only[wpQuiet,hw,Bool.false_eq_true,if_false];exact h
structure WQ (P:Program) (ops:Array Oper) (C:zA->Prop) (Q:Act->Prop) (l:List Oper) (a:Act):Prop where
 out:wpQuiet P ops C Q l a
theorem WQ.read {P:Program} {ops:Array Oper} {C:zA->Prop} {Q:Act->Prop} {a:Act} {o:Oper} {b:List Oper} {v:Value} (hw:Region.wanted o (yielded ops a.tmps)=true)
 (hy:∀w,C w->(execOp a.eval o).run P w=.ok (.value v) w) (h:WQ P ops C Q b (a.put o.dst v)):WQ P ops C Q (o::b) a:=⟨zup hw hy h.out⟩
theorem WQ.skip {P:Program} {ops:Array Oper} {C:zA->Prop} {Q:Act->Prop} {a:Act} {o:Oper} {b:List Oper} (hw:Region.wanted o (yielded ops a.tmps)=zu)
 (h:WQ P ops C Q b (a.put o.dst zv)):WQ P ops C Q (o::b) a:=⟨zuq hw h.out⟩
theorem WQ.nil {P:Program} {ops:Array Oper} {C:zA->Prop} {Q:Act->Prop} {a:Act} (h:Q a):WQ P ops C Q [] a:=⟨wpQuiet_nil h⟩
theorem z04 (b a:Nat) (c:b<1000000000) (d:a<1000000000):
 zm.wrap ((a:Int)*1000000000)=(a:Int)*1000000000/\zm.wrap ((a:Int)*1000000000+b)=(a:Int)*1000000000+b/\(0:Int)<=(a:Int)*1000000000+b:=
 ⟨zI _ (by omega),zI _ (by omega),by omega⟩
theorem zyw (a b c:Nat) (j:a<1000000000) (k:b<1000000000) (l:c<1000000000) (g:0<c) (i:(b*1000000000+a)/c<2*1000000000):
 zm.wrap (((b:Int)*1000000000+a).tdiv (c:Int))=(((b*1000000000+a)/c:Nat):Int)/\
 zm.wrap (((b:Int)*1000000000+a).tmod (c:Int))=(((b*1000000000+a)%c:Nat):Int):=by
 have e:(0:Int)<=(b:Int)*1000000000+a:=by omega
 have d:(b:Int)*1000000000+a=((b*1000000000+a:Nat):Int):=by omega
 have h:(b*1000000000+a)%c<c:=zP _ g;constructor
 ·rw[Int.tdiv_eq_ediv_of_nonneg e,d,<-Int.natCast_ediv]
  generalize (b*1000000000+a)/c=f at*
  clear d e h;exact zI _ (by omega)
 ·rw[Int.tmod_eq_emod_of_nonneg e,d,<-Int.natCast_emod]
  generalize (b*1000000000+a)%c=f at*
  clear d e i;exact zI _ (by omega)
theorem zuf (q a:Nat) (h:q<2000000000) (t:a<1000000000):zm.wrap ((q:Int)*(a:Int))=(q:Int)*a:=by
 have c:q*a<=2000000000*999999999:=Nat.mul_le_mul (by omega) (by omega);rw[<-xE];generalize q*a=b at*
 exact zI _ (by omega)
theorem z2q (r a b:Nat) (h:r<1000000000) (t:a<1000000000) (c:b<1000000000):zm.wrap ((r:Int)*1000000000)=(r:Int)*1000000000/\zm.wrap ((r:Int)*1000000000+a)=(r:Int)*1000000000+a/\zm.wrap ((r:Int)+b)=(r:Int)+b:=
 ⟨zI _ (by omega),zI _ (by omega),zI _ (by omega)⟩
theorem z2r (q:Nat) (h:q<2000000000):zm.wrap ((q:Int)-1)=(q:Int)-1:=zI _ (by omega)
theorem z3b (q b r a:Nat) (h:¬r*1000000000+a<q*b):¬(r:Int)*1000000000+a<(q:Int)*b:=by rw[<-xE];omega
theorem z2s (q b r a:Nat) (h:r*1000000000+a<q*b):(r:Int)*1000000000+a<(q:Int)*b:=by rw[<-xE];omega
theorem z3c (q:Nat) (h:q<1000000000):decide ((1000000000:Int)<=(q:Int))=zu:=by simp;omega
theorem z2t (q:Nat) (h:1000000000<=q):decide ((1000000000:Int)<=(q:Int))=true:=by simp;omega
theorem z3d (r:Nat) (h:r<1000000000):decide ((r:Int)<1000000000)=true:=by simp;omega
theorem z0t (r a:Nat) (h:r+a<1000000000):decide ((1000000000:Int)<=(r:Int)+a)=zu:=by simp;omega
theorem zwg (r a:Nat) (h:¬r+a<1000000000):decide ((1000000000:Int)<=(r:Int)+a)=true:=by simp;omega
theorem zao {B:Nat} {a w:zA} (h:zB B a w) (n:Nat):zB B a (w.drewN n):=h.trans ⟨rfl,rfl,rfl,zN _,λ_ _=>rfl⟩
theorem z0u (r a q x:Nat) (h:q*a+r=x) (c:1<=q):(q-1)*a+(r+a)=x:=by
 obtain⟨b,rfl⟩:∃b,q=b+1:=⟨q-1,by omega⟩;rw[Nat.add_mul] at h;simp;omega
theorem zqy (g cap S O:Nat) (u v:List Nat) (j n:Nat) (w:zA) (x:Row w g cap u) (H:Row w S O v) (l:zal B9 u) (r:zal B9 v) (t:v.length=n+2)
 (V:j+v.length+1<=u.length) (bk:u.length<=2500) (bl:v.length<=1000) (G:valL B9 (u.drop j)<B9*valL B9 v) (F:0<v[n+1]?.getD 0):
 Calls zF 267 #[z7 (zq ⟨g,0,zp⟩) u.length cap,z7 (zq ⟨S,0,zp⟩) v.length O,I j] w λe w'=>
  ∃q:Nat,e=zo (I q)/\valL B9 (u.drop j)/valL B9 v<=q/\q<=2*B9/\zB w.heap.size w w':=by
 obtain⟨y,z⟩:=zys (B:=B9) (by decide) l r t V G F;have U:=λq b aj ak=>z03 (B:=B9) (q:=q) (r:=b) (by decide) l r t V G aj ak;have A:=hid U;clear U G;have a5:=zaj l (by decide) (j+n);have a6:=zaj l (by decide) (j+n+1);have a7:=zaj l (by decide) (j+n+2);have a8:=zaj r (by decide) n;have a9:=zaj r (by decide) (n+1);have a':=x.cell (getD_some (show j+n<u.length by omega));have c1:=x.cell (getD_some (show j+n+1<u.length by omega));have c2:=x.cell (getD_some (show j+n+2<u.length by omega));have b0:=H.cell (getD_some (show n<v.length by omega));have b1:=H.cell (getD_some (show n+1<v.length by omega));generalize valL B9 (u.drop j)/valL B9 v=qT at*
 generalize u[j+n]?.getD 0=h at*
 generalize u[j+n+1]?.getD 0=d at*
 generalize u[j+n+2]?.getD 0=f at*
 generalize v[n]?.getD 0=i at*
 generalize v[n+1]?.getD 0=c at*
 clear x H l r;generalize u.length=L at*
 generalize v.length=a at*
 have ax:h<1000000000:=a5;have aa:d<1000000000:=a6;have ab:f<1000000000:=a7;have t3:i<1000000000:=a8;have N:c<1000000000:=a9;have T:B9=1000000000:=rfl;rw[T] at y z A⊢;clear a5 a6 a7 a8 a9 T;have bt:zm.wrap ((j:Int)+(a:Int))=(j:Int)+a:=zI _ (by omega);have bu:zm.wrap ((j:Int)+(a:Int)-1)=(j:Int)+a-1:=zI _ (by omega);have bv:zm.wrap ((j:Int)+(a:Int)-2)=(j:Int)+a-2:=zI _ (by omega);have bw:zm.wrap ((a:Int)-1)=(a:Int)-1:=zI _ (by omega);have bx:zm.wrap ((a:Int)-2)=(a:Int)-2:=zI _ (by omega);have bm:((j:Int)+(a:Int)).toNat=j+n+2:=by omega
 have bn:((j:Int)+(a:Int)-1).toNat=j+n+1:=by omega
 have bo:((j:Int)+(a:Int)-2).toNat=j+n:=by omega
 have bp:((a:Int)-1).toNat=n+1:=by omega
 have bq:((a:Int)-2).toNat=n:=by omega
 have an:(0:Int)<=(j:Int)+a/\(j:Int)+a<L:=by omega
 have ao:(0:Int)<=(j:Int)+a-1/\(j:Int)+a-1<L:=by omega
 have ap:(0:Int)<=(j:Int)+a-2/\(j:Int)+a-2<L:=by omega
 have aq:(0:Int)<=(a:Int)-1/\(a:Int)-1<a:=by omega
 have ar:(0:Int)<=(a:Int)-2/\(a:Int)-2<a:=by omega
 obtain⟨b6,b7⟩:=an;obtain⟨b8,b9⟩:=ao;obtain⟨bb,bc⟩:=ap;obtain⟨be,bf⟩:=aq;obtain⟨bh,bi⟩:=ar;have ba:(1:Int)<=(j:Int)+a:=by omega
 have bd:(2:Int)<=(j:Int)+a:=by omega
 have bg:(1:Int)<=(a:Int):=by omega
 have bj:(2:Int)<=(a:Int):=by omega
 have b5:¬c=0:=by omega
 obtain⟨af,b2,a3⟩:=z04 d f aa ab;obtain⟨ag,ah⟩:=zyw d f c aa ab N F z;have ay:=hid t;clear t;go_enter Tryz.func267,Tryz.ntmps267;go_wp2
 (refine wp_region_quiet_lit (by kernel_rfl) (by kernel_rfl) (WQ.out ?_)
  repeat(first|(apply WQ.read (by rfl);(focus(rintro k ⟨n,rfl⟩;go_simp;try with_reducible rfl));try simp only[zzQ]))
  refine WQ.nil ?_;rintro _ ⟨br,rfl⟩)
 go_wp2
 (refine wp_region_quiet_lit (by kernel_rfl) (by kernel_rfl) (WQ.out ?_)
  repeat(first|(apply WQ.read (by rfl);(focus(rintro k ⟨n,rfl⟩;go_simp;try with_reducible rfl));try simp only[zzQ]))
  refine WQ.nil ?_;rintro _ ⟨bs,rfl⟩)
 go_wp2;have ac:zj zm (((f:Int)*1000000000+d)/(c:Int))=I ((f*1000000000+d)/c):=by simp[I]
 have ad:zj zm (((f:Int)*1000000000+d).tmod (c:Int))=I ((f*1000000000+d)%c):=by rw[Int.tmod_eq_emod_of_nonneg a3];simp[I]
 rw[ac,ad];have X:(f*1000000000+d)/c*c+(f*1000000000+d)%c=f*1000000000+d:=by rw[yP];exact Nat.div_add_mod _ _
 have a0:(f*1000000000+d)%c<1000000000:=Nat.lt_trans (zP _ F) N;clear ac ad af b2 ag ah a3;generalize (f*1000000000+d)/c=av at*
 generalize (f*1000000000+d)%c=aw at*
 go_loopw [9,10] (λE ae wr=>∃q b:Nat,E=I q/\ae=I b/\qT<=q/\q<2000000000/\b<1000000000/\q*c+b=f*1000000000+d/\∃a2,wr=w.drewN a2)
  (λE _ _=>(zL E).toNat)
 case atStart=>exact⟨av,aw,rfl,rfl,y,z,a0,X,_,World.drewN_drewN _ _ _⟩
 case round=>
  obtain⟨q,b,rfl,rfl,al,W,Z,Y,a2,rfl⟩:=hrel;have P:=zuf q i W t3;obtain⟨Q,R,b3⟩:=z2q b h c Z ax N;have b4:=z2r q W;have s:=hid Y;clear Y X;have az:=hid y;clear y z a0;by_cases hA:1000000000<=q
  ·have p:=A.out q b s.out (.inl hA)
   have J:=z2t q hA;have M:1<=q:=by omega
   have m:=hid p;clear p hA;go_wp2
   (refine wp_region_quiet_lit (by kernel_rfl) (by kernel_rfl) (WQ.out ?_)
    repeat(first|(apply WQ.read (by rfl);(focus(rintro k ⟨n,rfl⟩;go_simp;try with_reducible rfl));try simp only[zzQ])|(apply WQ.skip (by rfl);try simp only[zzQ]))
    refine WQ.nil ?_;rintro _ ⟨a4,rfl⟩)
   clear J;have o:=z0u b c q _ s.out M;have C:=hid o;clear o;go_wp2
   (refine wp_region_quiet_lit (by kernel_rfl) (by kernel_rfl) (WQ.out ?_)
    repeat(first|(apply WQ.read (by rfl);(focus(rintro k ⟨n,rfl⟩;go_simp;try with_reducible rfl));try simp only[zzQ])|(apply WQ.skip (by rfl);try simp only[zzQ]))
    refine WQ.nil ?_;rintro _ ⟨au,rfl⟩)
   clear P Q R;by_cases hR:b+c<1000000000
   ·have K:=z0t b c hR
    have D:=hid hR;clear hR;go_wp2;go_roundw
    case rel=>exact⟨q-1,b+c,by show zj zm _=zj zm _;congr 1;omega,by simp[I],by have:=m.out;omega,by omega,D.out,C.out,_,by first|exact World.drewN_drewN _ _ _|rfl⟩
    case measure=>simp[zL];omega
   ·have K:=zwg b c hR
    clear hR;go_wp2;go_ret;refine⟨q-1,?_,by have:=m.out;omega,by omega,?_⟩
    ·show Ending.returned (zj zm _)=Ending.returned (zj zm _);congr 2;omega
    ·exact zao (zM _ _) _
  ·have ai:q<1000000000:=by omega
   have J:=z3c q ai;have am:=z3d b Z;by_cases hB:b*1000000000+h<q*i
   ·have p:=A.out q b s.out (.inr hB)
    have a1:decide ((b:Int)*1000000000+h<(q:Int)*i)=true:=decide_eq_true (z2s q i b h hB);have M:1<=q:=by omega
    have m:=hid p;clear p hA hB;go_wp2
    (refine wp_region_quiet_lit (by kernel_rfl) (by kernel_rfl) (WQ.out ?_)
     repeat(first|(apply WQ.read (by rfl);(focus(rintro k ⟨n,rfl⟩;go_simp;try with_reducible rfl));try simp only[zzQ])|(apply WQ.skip (by rfl);try simp only[zzQ]))
     refine WQ.nil ?_;rintro _ ⟨a4,rfl⟩)
    clear J am a1;have o:=z0u b c q _ s.out M;have C:=hid o;clear o;go_wp2
    (refine wp_region_quiet_lit (by kernel_rfl) (by kernel_rfl) (WQ.out ?_)
     repeat(first|(apply WQ.read (by rfl);(focus(rintro k ⟨n,rfl⟩;go_simp;try with_reducible rfl));try simp only[zzQ])|(apply WQ.skip (by rfl);try simp only[zzQ]))
     refine WQ.nil ?_;rintro _ ⟨au,rfl⟩)
    clear P Q R;by_cases hR:b+c<1000000000
    ·have K:=z0t b c hR
     have D:=hid hR;clear hR;go_wp2;go_roundw
     case rel=>exact⟨q-1,b+c,by show zj zm _=zj zm _;congr 1;omega,by simp[I],by have:=m.out;omega,by omega,D.out,C.out,_,by first|exact World.drewN_drewN _ _ _|rfl⟩
     case measure=>simp[zL];omega
    ·have K:=zwg b c hR
     clear hR;go_wp2;go_ret;refine⟨q-1,?_,by have:=m.out;omega,by omega,?_⟩
     ·show Ending.returned (zj zm _)=Ending.returned (zj zm _);congr 2;omega
     ·exact zao (zM _ _) _
   ·have a1:decide ((b:Int)*1000000000+h<(q:Int)*i)=zu:=decide_eq_false (z3b q i b h hB)
    clear hA hB;go_wp2
    (refine wp_region_quiet_lit (by kernel_rfl) (by kernel_rfl) (WQ.out ?_)
     repeat(first|(apply WQ.read (by rfl);(focus(rintro k ⟨n,rfl⟩;go_simp;try with_reducible rfl));try simp only[zzQ])|(apply WQ.skip (by rfl);try simp only[zzQ]))
     refine WQ.nil ?_;rintro _ ⟨a4,rfl⟩)
    go_wp2;go_ret;exact⟨q,rfl,al,by omega,zao (zao (zM _ _) _) _⟩
end
section
open Go.RowKit Go.Shelf
attribute [local go_sem] Oper.semAt_some
def IterC (F:Fence) (n:Nat) (P:Program) (gf:Nat) (lb:Array Value) (Rd:zA->Prop) (R:Nat->Array Value->Prop) (len:Nat):Prop:=
 ∀(l:Nat) (J:Nat->zA->Prop) (Jx:zA->Prop) (W:zA),(∀k W1,J k W1->Rd W1)->(∀k W1 W2,J k W1->qL W1 W2->J k W2)->
  (∀k args W1,J k W1->k<len->R k args->YieldAt F (n-1) P l args W1 λe W'=>(e=zo (.bool true)/\J (k+1) W')\/(e=zo (.bool zu)/\Jx W'))->
  J 0 W->CallsIn F n P gf (#[.func (.yield l) #[] #[]]++lb) W λe W'=>(∃v,e=zo v)/\(J len W'\/Jx W')
def zja (B:Nat) (I:Nat->zA->Prop) (Ix:Code->Nat->zA->Prop) (k:Nat) (W:zA):Exit->Act->zA->Prop
 | .normal,_,W'=>KeepsFrom B W W'/\I (k+1) W'
 | .ret,_,W'=>KeepsFrom B W W'/\Ix .ret k W'
 | .exit id,_,W'=>KeepsFrom B W W'/\Ix (.exit id) k W'
 | .goto t,_,W'=>KeepsFrom B W W'/\Ix (.goto t) k W'
 | .panic _,_,_=>False
 | .outgrown,_,_=>False
theorem zcw {a:zA} {l:Nat} {o:Obj} (b:Obj) (h:a.heap[l]? =zq o) (d:o.isCells=zu):CellsKept a (a.putObj l b):=
 zen (grownBy_putObj' a l b) (λe c=>by cases c;exact⟨o,h,d⟩)
theorem zcx {B:Nat} {a:zA} {l:Nat} {o:Obj} (b:Obj) (h:a.heap[l]? =zq o) (d:B<=l):zB B a (a.putObj l b):=
 (zM B a).grown (grownBy_putObj' a l b) (by have:=(Array.getElem?_eq_some_iff.1 h).1;omega) (λe c=>by cases c;omega)
theorem zac {a b:zA} (h:qL a b):CellsKept a b:=λd e f fz c=>by
 rw[h.block d (Array.getElem?_eq_some_iff.1 c).1];exact c
theorem zqz {s:Fence} {n:Nat} {P:Program} {g:Operand} {T:Array Tmp} {assign body:Code} {Q:Exit->Act->zA->Prop} {a:Act} {w:zA}
 (am:s.round=zp) (aa:1<=n) {y:Nat} {S:Array Value} (aj:a.eval g=.func (.func y) #[] S) (ac:s.fn y) (a8:∀args w,(callFunc y args).run P w=.ok (.enter y args) w)
 {a1:zA->Prop} {R:Nat->Array Value->Prop} {X:Nat} (an:IterC s (n-1) P y S a1 R X) (al:∀k args,R k args->args.size=T.size)
 {B:Nat} (ab:B<=w.heap.size) (I:Nat->zA->Prop) (G:Code->Nat->zA->Prop) (H:∀k b u,I k b->CellsKept b u->zB B b u->I k u) (M:∀c k b u,G c k b->CellsKept b u->zB B b u->G c k u)
 (ad:∀k b,I k b->a1 b) (a9:I 0 w) (a₁:Nat->Array Value->Act)
 (ae:∀(l k:Nat) (args:Array Value) (b:zA) (a0:Act->zA->Prop),R k args->a0 (a₁ k args) b->
   assign.wpIn (s.inRound l) (n-1-1) P (Exit.then a0 (λ_ _ _=>False)) {tmps:=(T.zip args).foldl (λt (p,v)=>t.setIfInBounds p v) a.tmps,defers:=[]} b)
 (ag:∀(l k:Nat) (args:Array Value) (b:zA),w.heap.size<=l->(∃r,b.heap[l]? =zq (.loop r))->I k b->k<X->R k args->body.wpIn (s.inRound l) (n-1-1) P (zja w.heap.size I G k b) (a₁ k args) b)
 (ah:∀(D:Nat) (b:zA),w.heap.size<=D->I X b->b.heap[D]? =zq (.deferred (zq []))->Q .normal {a with defers:={target:=.collected D,args:= #[]}::a.defers} b)
 (ao:∀(D:Nat) (c:Code) (k:Nat) (b:zA),w.heap.size<=D->G c k b->b.heap[D]? =zq (.deferred (zq []))->c.wpIn s n P Q {a with defers:={target:=.collected D,args:= #[]}::a.defers} b):
 (Code.rangeFunc g T assign body).wpIn s n P Q a w:=by
 refine wpIn_rangeFunc λfn ai=>?_;rw[am];obtain⟨d,a7⟩:=zzX w.heap.size;let e:LoopState->Option Code->Obj:=λj q=>.loop {state:=j,pending:=q,fn,tmps:=a.tmps,params:=T,assign,body,defers:=d};have aw:∀j q,(e j q).isCells=zu:=λ_ _=>rfl;have af:∀j,((w.alloc (.deferred (zq []))).alloc (e j zp)).heap[d+1]? =zq (e j zp)/\((w.alloc (.deferred (zq []))).alloc (e j zp)).heap[d]? =zq (.deferred (zq [])):=λj=>by
  subst a7;refine⟨?_,?_⟩
  ·have:=zG (w.alloc (.deferred (zq []))) (e j zp);rwa [zH] at this
  ·exact(Below.heap_alloc _ _ _ (by simp)).trans (zG w _)
 have a5:qL w ((w.alloc (.deferred (zq []))).alloc (e .ready zp)):=((zM _ w).alloc (zN _) _).alloc (by simp) _;let x:LoopState->Option Code->zA->Prop:=λj q b=>b.heap[d+1]? =zq (e j q)/\b.heap[d]? =zq (.deferred (zq []));have a6:∀j q Z Y b,x j q b->x Z Y (b.putObj (d+1) (e Z Y)):=λj q Z Y b m=>
  ⟨World.putObj_heap_same (Array.getElem?_eq_some_iff.1 m.1).1,(World.putObj_heap_other (by omega)).trans m.2⟩
 refine⟨d+1,[{target:=.collected d,args:= #[]}],(w.alloc (.deferred (zq []))).alloc (e .ready zp),{target:=.fn (.func y) S,args:= #[.func (.yield (d+1)) #[] #[]]},(w.alloc (.deferred (zq []))).alloc (e .ready zp),y,
  #[.func (.yield (d+1)) #[] #[]]++S,(w.alloc (.deferred (zq []))).alloc (e .ready zp),?_,?_,?_,?_,λ_=>aa,?_⟩
 ·subst a7;exact run_enterLoop_outer _ _ _ _ _
 ·simp only[resolve,aj]
  simp[go_sem]
 ·intro av a4;simp[Target.leads] at a4;subst a4;exact ac
 ·simp[invoke,go_sem,a8]
 refine(an (d+1) (λk b=>I k b/\x .ready zp b) (λb=>∃c k,G c k b/\x .done (zq c) b) _ (λk U m=>ad k U m.1) (λk U a2 m N=>?_) ?_ ?_).mono ?_
 ·exact⟨H k U a2 m.1 (zac N) (N.mono (by have:=(Array.getElem?_eq_some_iff.1 m.2.2).1;omega)),
   (N.block _ (Array.getElem?_eq_some_iff.1 m.2.1).1).trans m.2.1,(N.block _ (Array.getElem?_eq_some_iff.1 m.2.2).1).trans m.2.2⟩
 ·rintro k args b ⟨K,J⟩ ak V
  have ap:=run_yield (P:=P) (args:=args) J.1 (al k args V);refine⟨fn,_,assign,body,ap,roundIn_of_wpIn ai (ae _ k args b _ V ?_)⟩;refine⟨_,run_beginRound J.1 rfl,?_⟩;have W:x .busy zp (b.putObj (d+1) (e .busy zp)):=a6 _ _ _ _ _ J;have hi2:=H k _ _ K (zcw (e .busy zp) J.1 rfl) (zcx (B:=B) (e .busy zp) J.1 (by omega));refine wpIn_mono (ag _ k args _ (by omega) ⟨_,W.1⟩ hi2 ak V) ?_;have L:∀(i:Option Code) (h:zA),KeepsFrom w.heap.size (b.putObj (d+1) (e .busy zp)) h->
   (Instr.endRound (d+1) i).run P h=.ok (.bool i.isNone) (h.putObj (d+1) (e (if i.isNone then .ready else .done) i))/\
   CellsKept h (h.putObj (d+1) (e (if i.isNone then .ready else .done) i))/\zB B h (h.putObj (d+1) (e (if i.isNone then .ready else .done) i))/\
   x (if i.isNone then .ready else .done) i (h.putObj (d+1) (e (if i.isNone then .ready else .done) i)):=λi h o=>by
   have O:x .busy zp h:=⟨o.same _ _ (by omega) W.1 rfl,o.same _ _ (by omega) W.2 rfl⟩;exact⟨run_endRound i O.1,zcw _ O.1 rfl,zcx _ O.1 (by omega),a6 _ _ _ _ _ O⟩
  rintro a3 ar h F
  cases a3 with
  |normal=>
   obtain⟨o,C⟩:=F;obtain⟨E,A,z,f⟩:=L zp h o;exact⟨_,_,E,.inl ⟨rfl,H _ _ _ C A z,f⟩⟩
  |ret=>
   obtain⟨o,C⟩:=F;obtain⟨E,A,z,f⟩:=L (zq .ret) h o;exact⟨_,_,E,.inr ⟨rfl,_,_,M _ _ _ _ C A z,f⟩⟩
  |exit aq=>
   obtain⟨o,C⟩:=F;obtain⟨E,A,z,f⟩:=L (zq (.exit aq)) h o;exact⟨_,_,E,.inr ⟨rfl,_,_,M _ _ _ _ C A z,f⟩⟩
  |goto t=>
   obtain⟨o,C⟩:=F;obtain⟨E,A,z,f⟩:=L (zq (.goto t)) h o;exact⟨_,_,E,.inr ⟨rfl,_,_,M _ _ _ _ C A z,f⟩⟩
  |panic au=>exact F.elim
  |outgrown=>exact F.elim
 ·exact⟨H 0 _ _ a9 (zac a5) (a5.mono ab),af .ready⟩
 ·rintro a3 a2 ⟨⟨v,rfl⟩,(⟨K,f⟩|⟨c,k,K,f⟩)⟩
  ·exact⟨zp,_,run_endLoop f.1 (by simp),ah d _ (by omega) (H _ _ _ K (zcw _ f.1 rfl) (zcx _ f.1 (by omega))) ((World.putObj_heap_other (by omega)).trans f.2)⟩
  ·exact⟨zq c,_,run_endLoop f.1 (by simp),ao d c k _ (by omega) (M _ _ _ _ K (zcw _ f.1 rfl) (zcx _ f.1 (by omega))) ((World.putObj_heap_other (by omega)).trans f.2)⟩
theorem z05 (g a cap:Nat) (p:Option Addr) (V:Nat->Int->Prop) (h:zA->Prop) (H:a<=3000)
 (f:∀c,h c->c.cell? ⟨g,0,zp⟩=zq (z7 p a cap)/\∀i,i<a->∃b off x,p=zq ⟨b,off,zp⟩/\V i x/\c.cell? ⟨b,off+i,zp⟩=zq (zj zm x)):
 IterC Fence.wide 2 zF 292 #[.pointer (zq ⟨g,0,zp⟩)] h (λk args=>∃x,args= #[zj zm ((a-1-k:Nat):Int),zj zm x]/\V (a-1-k) x) a:=by
 intro I w B c e _ o j;refine callsIn_of_wp Tryz.func292 rfl trivial ?_ rfl;simp only[Tryz.ntmps292,zZ,yA,yT,Nat.reduceAdd,Nat.reduceSub,yU,yV,yW,yX,yI,yM];have z:=(f c (e 0 c j)).1;have u:=Lib.hid f;clear f;have v:=Lib.hid o;clear o;have s:=Lib.hid e;clear e;gi_wp2;gi_loopw [3] (λi wr=>∃(k:Nat),k<=a/\i=zj zm ((a:Int)-1-k)/\Hid (w k wr))
  (λi _=>(zL i+1).toNat)
 case atStart=>exact⟨0,zR _,by simp,j⟩
 case round=>
  clear z;obtain⟨k,G,rfl,d⟩:=hrel;by_cases hlt:k<a
  ·obtain⟨E,q⟩:=u wr (s k wr d.out)
   obtain⟨b,off,x,rfl,n,F⟩:=q (a-1-k) (by omega);obtain⟨fn,tmps,assign,body,A,y⟩:=v k _ wr d hlt ⟨x,rfl,n⟩;clear q n;have hi2:(((a-1-k:Nat):Int))=(a:Int)-1-k:=by omega
   rw[hi2] at A;clear hi2;gi_wp2;refine y.mono ?_;rintro D C (⟨rfl,l⟩|⟨rfl,m⟩)
   ·have r:=Lib.hid l;clear l
    gi_wp2;go_roundw
    case rel=>exact⟨k+1,by omega,by first|go_num|(simp;omega),r.out⟩
    case measure=>simp[zL];omega
   ·have t:=Lib.hid m;clear m
    gi_wp2;refine bodyPost_ret (results_none rfl _ _ _) rfl ?_;exact⟨⟨_,rfl⟩,.inr t.out⟩
  ·obtain rfl:k=a:=by omega
   gi_wp2;go_end0;exact⟨⟨_,rfl⟩,.inl d.out⟩
theorem zkt {g:Operand} {u:Array Tmp} {assign body:Code} {Q:Exit->Act->zA->Prop} {a:Act} {w:zA}
 (o e cap:Nat) (p:Option Addr) (V:Nat->Int->Prop) (q:zA->Prop) (T:e<=3000)
 (M:∀d,q d->d.cell? ⟨o,0,zp⟩=zq (z7 p e cap)/\∀i,i<e->∃b off x,p=zq ⟨b,off,zp⟩/\V i x/\d.cell? ⟨b,off+i,zp⟩=zq (zj zm x))
 (S:a.eval g=.func (.func 292) #[] #[.pointer (zq ⟨o,0,zp⟩)]) (U:u.size=2)
 {B:Nat} (G:B<=w.heap.size) (I:Nat->zA->Prop) (h:Code->Nat->zA->Prop) (H:∀k d f,I k d->CellsKept d f->zB B d f->I k f) (J:∀c k d f,h c k d->CellsKept d f->zB B d f->h c k f)
 (L:∀k d,I k d->q d) (y:I 0 w) (a₁:Nat->Int->Act)
 (O:∀(l j:Nat) (x:Int) (d:zA) (m:Act->zA->Prop),m (a₁ j x) d->
   assign.wpIn (Fence.wide.inRound l) 1 zF (Exit.then m (λ_ _ _=>False)) {tmps:=(u.zip #[zj zm (j:Int),zj zm x]).foldl (λt (p,v)=>t.setIfInBounds p v) a.tmps,defers:=[]} d)
 (P:∀(l k j:Nat) (x:Int) (d:zA),w.heap.size<=l->(∃r,d.heap[l]? =zq (.loop r))->I k d->k<e->j=e-1-k->V j x->body.wpIn (Fence.wide.inRound l) 1 zF (zja w.heap.size I h k d) (a₁ j x) d)
 (R:∀(D:Nat) (d:zA),w.heap.size<=D->I e d->d.heap[D]? =zq (.deferred (zq []))->Q .normal {a with defers:={target:=.collected D,args:= #[]}::a.defers} d)
 (W:∀(D:Nat) (c:Code) (k:Nat) (d:zA),w.heap.size<=D->h c k d->d.heap[D]? =zq (.deferred (zq []))->c.wpIn Fence.wide 3 zF Q {a with defers:={target:=.collected D,args:= #[]}::a.defers} d):
 (Code.rangeFunc g u assign body).wpIn Fence.wide 3 zF Q a w:=
 zqz (n:=3) rfl (by omega) S trivial (enters_of Tryz.func292 (by kernel_rfl) rfl) (z05 o e cap p V q T M)
  (λk args s=>by obtain⟨x,rfl,_⟩:=s;exact U.symm) G I h H J L y (λ_ args=>a₁ ((args.getD 0 zv)|>zL).toNat (zL (args.getD 1 zv)))
  (λl k args d m s K=>by obtain⟨x,rfl,_⟩:=s;exact O l (e-1-k) x d m (by simpa [zL] using K))
  (λl k args d z A C E F=>by obtain⟨x,rfl,N⟩:=F;simpa [zL] using P l k (e-1-k) x d z A C E rfl N)
  R W
end
end Go.Proofs.YtjmljcdbjakefaaGreatDoor
