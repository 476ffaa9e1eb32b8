/- Package meet on solids of -/
import Derived.Test.YtjmljcdbjakefaaGreatDoorZ14
import Derived.Maps.AppendAt
import Derived.RangeFuncLeaves
import Derived.Sort.LoopGhostIn
import Derived.Maps.OwnSet
set_option maxRecDepth 100000
set_option maxHeartbeats 8000000
open Go.Value renaming slice → z7, string → z8, tuple → ze, pointer → zf, bool → zg, agg → zh, int → zj
open Go.IntKind renaming i64 → zm
open Go.Obj renaming cells → zn
open Go.Ending renaming returned → zo
open Option renaming none → zp, some → zq
open Bool renaming true → zt, false → zu
open Go renaming World → zA, Calls → zC, undef → zv
open Go.RowKit renaming Below → zB, intOf → zL
open Go.Lib renaming decDigits → zD
open Go.Proofs.Tryz renaming prog → zF
open Go.World renaming alloc_heap_new → zG
open Go.IntWalk renaming i64_in → zI
open Go.Joins renaming cell_of_block → zJ, block_setCell → zK
open Go.RowKit.Below renaming refl → zM, heap_setCell → yE
open Nat renaming le_refl → zN, le_trans → zO, zero_le → zR, lt_of_lt_of_le → zS
open List renaming length_append → zU, getElem?_eq_getElem → yB, append_toArray → yX
open Int renaming natAbs_mul → yK, natAbs_natCast → yY
open Array renaming replicate_succ → yU, replicate_zero → yV
namespace Go.Proofs.YtjmljcdbjakefaaGreatDoor
section
open Go.RowKit Go.Shelf Lib Str Limb
def fH:List Hq->(Nat->Value)->List Value
 |[],_=>[]
 |h::s,D=>St (numS h.a)::St (numS h.b)::St (numS h.c)::D 0::fH s (λi=>D (i+1))
theorem zrv:∀(s:List Hq) (D:Nat->Value),(fH s D).length=s.length*4
 |[],_=>rfl
 |h::s,D=>by show(fH s _).length+1+1+1+1=_;rw[zrv s,List.length_cons];omega
theorem ykf (h:Hq) (s:List Hq) (i:Nat):gH (h::s) (i+1)=gH s i:=by unfold gH;rw[List.getElem?_cons_succ]
theorem ygc:∀(s:List Hq) (D:Nat->Value) (i:Nat),i<s.length->(fH s D)[i*4]? =zq (St (numS (gH s i).a))/\(fH s D)[i*4+1]? =zq (St (numS (gH s i).b))/\(fH s D)[i*4+2]? =zq (St (numS (gH s i).c))/\(fH s D)[i*4+3]? =zq (D i)
 |[],_,_,h=>by simp at h
 |h::s,D,0,_=>⟨rfl,rfl,rfl,rfl⟩
 |h::s,D,i+1,hi=>by
  have:=ygc s (λi=>D (i+1)) i (by simpa using hi);rw[ykf,show(i+1)*4=i*4+1+1+1+1 by omega];exact this
theorem yc8:∀(b:List Hq) (D:Nat->Value),(∀i,isSl (D i))->∀u∈fH b D,u.oneCell'=zt
 |[],_,_,u,c=>by cases c
 |c::b,D,hD,u,a=>by
  rcases List.mem_cons.1 a with rfl|a
  ·rfl
  rcases List.mem_cons.1 a with rfl|a
  ·rfl
  rcases List.mem_cons.1 a with rfl|a
  ·rfl
  rcases List.mem_cons.1 a with rfl|a
  ·exact(hD 0).one
  ·exact yc8 b _ (λi=>hD (i+1)) u a
theorem yc9:∀(a b:List Hq) (D:Nat->Value),fH (a++b) D=fH a D++fH b (λi=>D (i+a.length))
 |[],b,D=>rfl
 |h::a,b,D=>by
  show St (numS h.a)::St (numS h.b)::St (numS h.c)::D 0::fH (a++b) (λi=>D (i+1))=St (numS h.a)::St (numS h.b)::St (numS h.c)::D 0::(fH a (λi=>D (i+1))++fH b (λi=>D (i+(a.length+1))));rw[yc9 a b];rfl
theorem zml:∀(a:List Hq) (D b:Nat->Value),(∀i,i<a.length->D i=b i)->fH a D=fH a b
 |[],_,_,_=>rfl
 |d::a,D,b,e=>by
  show _::_::_::D 0::fH a _=_::_::_::b 0::fH a _;rw[e 0 (by simp),zml a (λi=>D (i+1)) (λi=>b (i+1)) (λi c=>e (i+1) (by simpa using c))]
theorem SolW.flat {p:Option Addr} {b:List Hq} {D:Nat->Value} {f:zA} (h:SolW p b D f) (w:1<=b.length):∃g o,p=zq ⟨g,o,zp⟩/\∀j u,(fH b D)[j]? =zq u->f.cell? ⟨g,o+j,zp⟩=zq u:=by
 obtain⟨g,o,i, -⟩:=h.row 0 (by omega);refine⟨g,o,i,λj u a=>?_⟩;have x:j<b.length*4:=by rw[<-zrv b D];exact(List.getElem?_eq_some_iff.1 a).1
 obtain⟨d,e,rfl,t⟩:∃d e,j=d*4+e/\e<4:=⟨j/4,j%4,by omega,Nat.mod_lt _ (by omega)⟩;obtain⟨v,y,c,n,c1,c2,q⟩:=h.row d (by omega);rw[i] at c;injection c with c;injection c with r s;subst r;subst s;obtain⟨k,a1,l,m⟩:=ygc b D d (by omega)
 match e,t with
 |0,_=>rw[Nat.add_zero,k] at a;cases a;exact n
 |1,_=>rw[a1] at a;cases a;exact c1
 |2,_=>rw[l] at a;cases a;exact c2
 |3,_=>rw[m] at a;cases a;exact q
theorem ye1 {B:Nat} {v:Value} {a:List Hq} {D:Nat->Value} {e:zA} (h:e.ownsRow B 53 4 v a.length (fH a D)) (p:1<=a.length):∃q c,v=z7 q a.length c/\a.length<=c/\RowHf q a.length (λi=>numS (gH a i).a) (λi=>numS (gH a i).b) (λi=>numS (gH a i).c) D e:=by
 obtain⟨d,c,rfl, -,m⟩:=zgk h (by omega);refine⟨_,c,rfl,m,λi n=>⟨d,0,rfl,?_⟩⟩;have b:=λf g (o:(fH a D)[f]? =zq g)=>by
  have:=h.cells (g:=d) rfl f g o;rwa [adM,Nat.zero_add] at this
 obtain⟨j,a1,k,l⟩:=ygc a D i n;rw[Nat.zero_add];exact⟨b _ _ j,b _ _ a1,b _ _ k,b _ _ l⟩
theorem ykg {a b:List Hq} {i:Nat} (h:i<a.length):gH (a++b) i=gH a i:=by unfold gH;rw[List.getElem?_append_left h]
theorem yiz {a b:List Hq} {i:Nat} (h:a.length<=i):gH (a++b) i=gH b (i-a.length):=by unfold gH;rw[List.getElem?_append_right h]
def SolV (s:List Hq) (v:Value) (W:zA):Prop:=∃q c D,v=z7 q s.length c/\s.length<=c/\SolW q s D W
theorem SolV.below {c:List Hq} {v:Value} {a b:zA} (h:SolV c v a) (g:qL a b):SolV c v b:=by
 obtain⟨j,e,d,f,i,h⟩:=h;exact⟨j,e,d,f,i,h.below g⟩
theorem yi0 (p G:Option Addr) (cap y:Nat) (a g:List Hq) (D i:Nat->Value) (J:1<=a.length) (K:1<=g.length) (U:a.length+g.length<=32) (b:Nat) (w:zA) (v:SolW p a D w) (x:SolW G g i w)
 (B:w.heap[b]? =zq (zn #[z7 p a.length cap,z7 G g.length y] 34 (0,0))):
 zC zF 40 #[z7 (zq ⟨b,0,zp⟩) 2 2] w λe w'=>∃q m c,e=zo (z7 q m c)/\zB w.heap.size w w'/\SolV (a++g) (z7 q m c) w':=by
 obtain⟨z,E,e,L⟩:=v.flat J;obtain⟨A,F,H,M⟩:=x.flat K;subst e;subst H;have R:∀d,isSl (D d):=v.any;have S:∀d,isSl (i d):=x.any;have s:∀{k:zA} {b:Nat} {n:Nat} {h:Value},qL w k->w.cell? ⟨b,n,zp⟩=zq h->k.cell? ⟨b,n,zp⟩=zq h:=λj I=>zai j I;refine(yc7 b 2 (λf=>if f=0 then zq ⟨z,E,zp⟩ else zq ⟨A,F,zp⟩) (λf=>if f=0 then cap else y) (λf=>if f=0 then a.length else g.length) (λf=>if f=0 then fH a D else fH g i)
  (λf=>?_) (λf h r=>?_) (by omega) (by show 0+a.length+g.length<=4096;omega) w (hid λk=>?_) (hid λf O=>?_) (hid λk j f O=>?_)).mono ?_
 ·by_cases e:f=0
  ·simp only[if_pos e];exact zrv a D
  ·simp only[if_neg e];exact zrv g i
 ·by_cases e:f=0
  ·simp only[if_pos e] at r;exact yc8 a D R h r
  ·simp only[if_neg e] at r;exact yc8 g i S h r
 ·exact ygb _ (by show 1<=0+a.length+g.length;omega) (by show 0+a.length+g.length<=10000;omega) k
 ·rcases(show f=0\/f=1 by omega) with rfl|rfl
  ·exact⟨z,E,rfl,λk j n h u=>s j (L n h u)⟩
  ·exact⟨A,F,rfl,λk j n h u=>s j (M n h u)⟩
 ·rcases(show f=0\/f=1 by omega) with rfl|rfl
  ·exact s j (by rw[zJ B];rfl)
  ·exact s j (by rw[zJ B];rfl)
 ·rintro e w' ⟨T,rfl,C,t⟩
  let l:Nat->Value:=λd=>if d<a.length then D d else i (d-a.length);have P:w'.ownsRow w.heap.size 53 4 T (a++g).length (fH (a++g) l):=by
   rw[yc9,zU];rw[zml a l D (λd o=>if_pos o),zml g (λd=>l (d+a.length)) i (λd _=>by show(if d+a.length<a.length then _ else _)=_;rw[if_neg (by omega),Nat.add_sub_cancel])];have:sumH (λf=>if f=0 then a.length else g.length) 2=a.length+g.length:=by show 0+a.length+g.length=_;omega
   rw[this] at C;exact C
  obtain⟨q,c,rfl,N,Q⟩:=ye1 P (by rw[zU];omega);refine⟨q,_,c,rfl,t,q,c,l,rfl,N,Q,λd=>?_⟩;by_cases o:d<a.length
  ·rw[ykg o,show l d=D d from if_pos o]
   exact(v.sd d).below t
  ·rw[yiz (by omega),show l d=i (d-a.length) from if_neg o]
   exact(x.sd _).below t
section
variable (p:Option Addr) (cap:Nat) (s:List Hq) (g:SolG s) (D:Nat->Value) (w:zA) (hw:Hw w) (hs:SolW p s D w)
include g hw hs
theorem yhq (q:Pq) (u:sz3 q.x q.y q.z 10) (l n o:Option Addr) (i j k d f h:Nat) (t:MrkP (z7 l i d) (z7 n j f) (z7 o k h) q w):
 zC zF 43 #[z7 p s.length cap,zh #[z7 l i d,z7 n j f,z7 o k h]] w λe w'=>∃m:Int,e=zo (ze #[zj zm m,zj zm 0])/\zB w.heap.size w w'/\decide (0<=m)=inQ s q:=by
 refine(zx0 p cap s.length g.n32 _ _ _ D hs.any l n o i j k d f h (λa=>(gH s a).s q) w (hid λa _ c b=>zzo p s g D w hw hs q u a c b _ _ _ (t.below b)) (hid hs.row) (λa=>?_) (hid λc b=>zrd p cap s g D c (hw.below b) (hs.below b))).mono ?_
 ·unfold Hq.s
  rcases Geo.zaw ((gH s a).v q) 0 with⟨-,e⟩|⟨-,e⟩|⟨-,e⟩<;>rw[e]<;>omega
 ·rintro e w' ⟨rfl,r⟩
  exact⟨_,rfl,r,ylw (at':=atQ λa=>(gH s a).s q) rfl (λv=>rfl) (λa _=>rfl)⟩
theorem ykh (i j k:Nat):zC zF 81 #[zh #[St (numS (gH s i).a),St (numS (gH s i).b),St (numS (gH s i).c),D i],zh #[St (numS (gH s j).a),St (numS (gH s j).b),St (numS (gH s j).c),D j],zh #[St (numS (gH s k).a),St (numS (gH s k).b),St (numS (gH s k).c),D k]] w λe w'=>
 ∃c d f b,e=zo (ze #[zh #[c,d,f],zg b,zj zm 0])/\zB w.heap.size w w'/\((b=zu/\detQ (gH s i) (gH s j) (gH s k)=0/\c=z7 zp 0 0/\d=z7 zp 0 0/\f=z7 zp 0 0)\/(b=zt/\detQ (gH s i) (gH s j) (gH s k)≠0/\MrkP c d f (corQ (gH s i) (gH s j) (gH s k)) w')):=by
 let h:Nat->Nat:=λa=>if a=0 then i else if a=1 then j else k;refine(z34 (λa=>gH s (h a)) (λa=>g.g _) (λa=>D (h a)) w hw (λa=>hs.sd _)).mono ?_;rintro e w' ⟨c,d,f,b,rfl,m,l⟩;refine⟨c,d,f,b,rfl,m,l.imp id ?_⟩;rintro⟨h1,h2,h3,h4,h5⟩;exact⟨h1,h2,h3,h4,h5⟩
theorem ylc:qJ 23 #[z7 p s.length cap] w (ze #[zg (decide (za4 s (tr3 s)≠[])),zj zm 0]):=by
 rw[<-yj6];refine yga p cap s.length s (λb=>sz3 b.x b.y b.z 10) w (hid λz d e f a=>?_)
  (hid λj=>yec 2 (by omega) j p cap s.length s rfl g.n32 (hid g.e3) _ _ _ D hs.any _ (λh a=>⟨a.2,hs.row.keep (zac a.1),λd e f _ _ _ k c=>?_⟩))
  (hid λb m h v x y r t u n o q c l=>yhq p cap s g D h (hw.below c) (hs.below c) b m v x y r t u n o q l)
 ·have:=List.mem_of_getElem? a
  have:=(List.mem_filter.1 this).2;exact zrb (g.g d) (g.g e) (g.g f) (of_decide_eq_true this)
 ·have i:=a.1.trans (c.mono a.1.size)
  exact ykh p s g D k (hw.below i) (hs.below i) d e f
end
section
variable (p p':Option Addr) (cap cap':Nat) (s s':List Hq) (g:SolG s) (g':SolG s') (gc:SolG (s++s')) (he:empQ s (za4 s (tr3 s))=zu) (he':empQ s' (za4 s' (tr3 s'))=zu) (D D':Nat->Value) (w:zA) (hw:Hw w) (hs:SolW p s D w) (hs':SolW p' s' D' w)
include g g' he he' hw hs hs'
theorem ye2:zC zF 34 #[z7 p s.length cap,z7 p' s'.length cap'] w λe w'=>∃f j d m l k,e=zo (ze #[z7 f j d,z7 m l k,zj zm 0])/\zB w.heap.size w w'/\(∃a,zlg s (z7 f j d) a w')/\∃a,zlg s' (z7 m l k) a w':=by
 refine yd8 p p' s.length s'.length cap cap' (λh b=>∃a,zlg s h a b) (λh b=>∃a,zlg s' h a b) (λh b x t i=>?_) w (hid λb c=>zrd p cap s g D b (hw.below c) (hs.below c)) (hid λb c=>zrd p' cap' s' g' D' b (hw.below c) (hs'.below c))
  (hid λb c=>zmk p cap s g D b (hw.below c) (hs.below c) he) (hid λb c=>zmk p' cap' s' g' D' b (hw.below c) (hs'.below c) he')
 obtain⟨a,f,d,o,n,q,r,u,v⟩:=t;exact⟨a,f,d,o,n,q,r,u.below i,v.below i⟩
include gc
theorem ztf:zC zF 21 #[z7 p s.length cap,z7 p' s'.length cap'] w λe w'=>∃q m c,e=zo (ze #[z7 q m c,zj zm 0])/\zB w.heap.size w w'/\SolV (s++s') (z7 q m c) w':=by
 have a:=gc.n32;rw[zU] at a;refine yea p p' s.length s'.length cap cap' a (SolV (s++s')) w (hid ?_) (hid λf h d b=>yi0 p p' cap cap' s s' D D' g.n1 g'.n1 a h f (hs.below d) (hs'.below d) b);refine(ye2 p p' cap cap' s s' g g' he he' D D' w hw hs hs').mono ?_;rintro e w' ⟨k,j,i,o,n,l,rfl,b, -⟩;exact⟨_,_,_,_,_,_,rfl,b⟩
theorem yi1:qJ 7 #[z7 p s.length cap,z7 p' s'.length cap'] w (ze #[zg (!empQ (s++s') (za4 (s++s') (tr3 (s++s')))),zj zm 0]):=by
 refine ycx p p' s.length s'.length cap cap' _ (SolV (s++s')) w (hid (ztf p p' cap cap' s s' g g' gc he he' D D' w hw hs hs')) (hid λb i j c f h=>?_);obtain⟨i,c,a,d, -,e⟩:=h;cases d;exact yc2 _ _ (s++s') gc a b (hw.below f) e
theorem yld:qJ 8 #[z7 p s.length cap,z7 p' s'.length cap'] w (ze #[zg (empQ (s++s') (za4 (s++s') (tr3 (s++s')))&&decide (za4 (s++s') (tr3 (s++s'))≠[])),zj zm 0]):=by
 refine yf8 p p' s.length s'.length cap cap' _ _ (SolV (s++s')) (λm b l a j=>a.below j) w (hid (ztf p p' cap cap' s s' g g' gc he he' D D' w hw hs hs')) (hid λb i k d f h=>?_) (hid λb i k d f h=>?_)
 ·obtain⟨i,d,c,e, -,a⟩:=h
  cases e;exact yc2 _ _ (s++s') gc c b (hw.below f) a
 ·obtain⟨i,d,c,e, -,a⟩:=h
  cases e;exact ylc _ _ (s++s') gc c b (hw.below f) a
end
end
section
open Go.RowKit Go.Shelf Lib Str Limb
attribute [local go_sem] Oper.semAt_some
theorem zo7 (q:Rat):numS q=[48]↔q.num=0:=by
 constructor
 ·intro a
  have b:=(zvg q).1;rw[a] at b;have c:upS [48]=[48]:=by decide
  rw[c] at b;have:=congrArg val b;rw[zb2] at this;simp[val] at this;omega
 ·intro a
  have:q=0:=Rat.num_eq_zero.1 a;rw[this];decide+kernel
theorem yfm (q:Rat) (h:okN q) (w:zA):
 zC zF 75 #[St (numS q)] w λe w'=>e=zo (St (numS (-q)))/\w'=w:=by
 have s:(-q).num= -q.num:=rfl;have r:(-q).den=q.den:=rfl;have g:=z8i h;have B:∃b:List UInt8,numS q=itoa q.num++b/\numS (-q)=itoa (-q.num)++b:=⟨if q.den=1 then[] else 47::zD q.den,rfl,by unfold numS;rw[s,r]⟩;obtain⟨b,k,p⟩:=B;rcases Int.lt_trichotomy q.num 0 with m|m|m
 ·have j:itoa q.num=45::zD q.num.natAbs:=by rcases zbg q.num with⟨o,_⟩|⟨_,e⟩;omega;exact e
  have n:itoa (-q.num)=zD q.num.natAbs:=by
   rcases zbg (-q.num) with⟨_,e⟩|⟨o,_⟩
   ·rw[e,Int.natAbs_neg]
   ·omega
  rw[k,p,j,n];rw[k,j] at g;have i:¬((45::zD q.num.natAbs)++b=[48]):=by simp
  have D:(((45::zD q.num.natAbs)++b)==[48])=zu:=by rw[beq_eq_false_iff_ne];exact i
  generalize zD q.num.natAbs=d at*
  obtain⟨a,c⟩:=zzX (⟨((45::d)++b).toArray⟩:ByteArray);obtain⟨f,b2⟩:=zds ((45::d)++b) a c;have l:0<a.size:=by rw[f];simp
  have y:(((a[0]'l).toNat:Int)==45)=zt:=by rw[b2 0 (by simp) l];rfl
  have C:a.extract 1 a.size=⟨(d++b).toArray⟩:=by rw[c,zel];rfl
  have A:a.size<=1000:=by rw[f];exact g
  have E:(a.toList==[48])=zu:=by rw[zeb _ a c];simp
  obtain⟨G,u⟩:=zzX (⟨(d++b).toArray⟩:ByteArray);show zC _ _ #[z8 ⟨((45::d)++b).toArray⟩] _ (λe w'=>e=zo (z8 ⟨(d++b).toArray⟩)/\w'=w);rw[<-c,<-u];rw[<-u] at C;clear c u f b2 i D k p j n g m s r h;go_enter Tryz.func75,Tryz.ntmps75;go_wp2;go_ret;exact⟨rfl,rfl⟩
 ·have z:q=0:=Rat.num_eq_zero.1 m
  rw[z,show numS (0:Rat)=[48] by decide+kernel,show numS (-(0:Rat))=[48] by decide+kernel];go_enter Tryz.func75,Tryz.ntmps75;go_wp2;go_ret;exact⟨rfl,rfl⟩
 ·have j:itoa q.num=zD q.num.natAbs:=by rcases zbg q.num with⟨_,e⟩|⟨o,_⟩;exact e;omega
  have n:itoa (-q.num)=45::zD q.num.natAbs:=by
   rcases zbg (-q.num) with⟨o,_⟩|⟨_,e⟩
   ·omega
   ·rw[e,Int.natAbs_neg]
  have i:¬(numS q=[48]):=λo=>by have:=(zo7 q).1 o;omega
  rw[k,j] at i g⊢;rw[p,n];have v:=zan q.num.natAbs;have t:0<(zD q.num.natAbs).length:=by have:=zbn (q.num.natAbs:Int);unfold digs at this;rw[yY] at this;omega
  generalize zD q.num.natAbs=d at*
  obtain⟨a,c⟩:=zzX (⟨(d++b).toArray⟩:ByteArray);obtain⟨f,b2⟩:=zds (d++b) a c;have l:0<a.size:=by rw[f];simp;omega
  have y:(((a[0]'l).toNat:Int)==45)=zu:=by
   rw[beq_eq_false_iff_ne,b2 0 (by simp;omega) l,List.getElem_append_left t];have:=v _ (List.getElem_mem t);omega
  have A:a.size<=1000:=by rw[f];exact g
  have F:¬(9223372036854775807<1+a.size):=by omega
  have E:(a.toList==[48])=zu:=by rw[zeb _ a c];simpa using i
  show zC _ _ #[z8 ⟨(d++b).toArray⟩] _ _;rw[<-c];have x:=hid c;clear c f b2 i k p j n g m s r h v t;go_enter Tryz.func75,Tryz.ntmps75;go_wp2;go_ret;refine⟨?_,rfl⟩;show Ending.returned (z8 ((⟨#[45]⟩:ByteArray)++a))=_;rw[x.out,ztl]
  try rfl
theorem zoo {q:Rat} {k:Nat} (a:0<k) (b:k<=300) (h:sz q k):okN q:=
 ⟨zO ((za3 _ k a).2 h.1) b,zO ((zaf _ k a).2 h.2) b⟩
theorem z3g {q:Rat} (h:zm0 q):q.num.natAbs<1000000000/\q.den<1000000000:=⟨(za3 _ 9 (by omega)).1 h.1,(zaf _ 9 (by omega)).1 h.2⟩
theorem z1j {x y:Int} {i j:Nat} (a:0<i+j) (b:x.natAbs<10^i) (hy:y.natAbs<10^j):digs (x*y)<=i+j:=by
 rw[za3 _ _ a,yK,Nat.pow_add];exact Nat.mul_lt_mul'' b hy
theorem z0l (p q:Rat) (k:okN p) (l:okN q) (b:zm0 p) (c:zm0 q) (w:zA):
 qJ 74 #[St (numS p),St (numS q)] w (ze #[St (numS (p+q)),zj zm 0]):=by
 rw[zf0];have c1:=λa=>zrh p k b a;have c2:=λa=>zrh q l c a;obtain⟨x,b2⟩:=z3g b;obtain⟨y,z⟩:=z3g c;have i:=p.den_pos;have j:=q.den_pos;have B:(p.num*q.den).natAbs<=999999998000000001:=by
  rw[yK,yY];exact Nat.mul_le_mul (show p.num.natAbs<=999999999 by omega) (show q.den<=999999999 by omega)
 have C:(q.num*p.den).natAbs<=999999998000000001:=by
  rw[yK,yY];exact Nat.mul_le_mul (show q.num.natAbs<=999999999 by omega) (show p.den<=999999999 by omega)
 have D:p.den*q.den<=999999998000000001:=Nat.mul_le_mul (show p.den<=999999999 by omega) (show q.den<=999999999 by omega);have m:0<p.den*q.den:=Nat.mul_pos i j;have d:=λa=>z1w (p.num*q.den+q.num*p.den) (p.den*q.den) (by omega) m (by omega) a;have K:zm.wrap (p.num*q.den)=p.num*q.den:=zI _ (by omega);have L:zm.wrap (q.num*p.den)=q.num*p.den:=zI _ (by omega);have M:zm.wrap (p.num*q.den+q.num*p.den)=p.num*q.den+q.num*p.den:=zI _ (by omega);have A:zm.wrap ((p.den:Int)*q.den)=((p.den*q.den:Nat):Int):=by rw[<-Int.natCast_mul];exact zI _ (by omega)
 obtain⟨r,e⟩:=zzX (p.den*q.den);rw[<-e] at d A⊢;have n:=hid c1;have o:=hid c2;have v:=hid d;clear c1 c2 d b c k l x b2 y z i j B C D m e;generalize numS (Rat.divInt (p.num*q.den+q.num*p.den) (r:Int))=P at*
 generalize numS p=N at*
 generalize numS q=O at*
 generalize p.num=G at*
 generalize q.num=H at*
 generalize p.den=I at*
 generalize q.den=J at*
 go_enter Tryz.func74,Tryz.ntmps74;go_wp21;refine zzM (n w) λE f=>?_;have s:=hid f;clear f;go_wp21;refine zzM (o E) λF g=>?_;have t:=qT s g;clear g;go_wp21;refine zzM (v F) λQ h=>?_;have u:=qT t h;clear h;go_wp21;go_ret2;exact⟨rfl,u.out⟩
instance (q:Rat):Decidable (zm0 q):=by unfold zm0;infer_instance
theorem z0y (q:Rat) (h:okN q) (w:zA):
 zC zF 10 #[St (numS q)] w λe w'=>(∃a b:Int,e=zo (ze #[zj zm a,zj zm b,zg (decide (zm0 q))]))/\zB w.heap.size w w':=by
 by_cases hn:zm0 q
 ·rw[decide_eq_true hn]
  exact(zrh q h hn w).mono λe w' ⟨c,d⟩=>⟨⟨_,_,c⟩,d⟩
 ·rw[decide_eq_false hn]
  exact(yad q h hn w).mono λe w' ⟨c,d⟩=>⟨⟨_,_,c⟩,d⟩
theorem yhm {q:Rat} {k:Nat} (h:sz q k):sz (-q) k:=by
 refine⟨?_,h.2⟩;show(-q.num).natAbs<10^k;rw[Int.natAbs_neg];exact h.1
theorem yhr (p q:Rat) (h:okN p) (c:okN q) (w:zA) (hw:Wd w)
 (a:qK 74 #[St (numS p),St (numS (-q))] (ze #[St (numS (p+ -q)),zj zm 0])):
 qJ 39 #[St (numS p),St (numS q)] w (ze #[St (numS (p-q)),zj zm 0]):=by
 have c1:=λb n=>zrs p q h c b n;have c2:=λb=>yfm q c b;rw[show p+ -q=p-q from(Rat.sub_eq_add_neg p q).symm] at a;have j:=hid c1;have k:=hid c2;have l:=hid a;have e:=hid hw;clear c1 c2 a hw h c;generalize numS (p-q)=t at*
 generalize numS (-q)=s at*
 generalize numS p=u at*
 generalize numS q=v at*
 go_enter Tryz.func39,Tryz.ntmps39;go_wp21;refine zzM (j w e.out) λi f=>?_;have d:=hid f;clear f;go_wp21;refine zzM (k i) λx o=>?_;have r:=o.symm;subst r;go_wp21;refine zzM (l i (e.below d.out)) λy g=>?_;have m:=qT d g;clear g;go_wp21;go_ret2;exact⟨rfl,m.out⟩
theorem yhs (p q:Rat) (a:sz p 9) (b:sz q 9) (w:zA) (hw:Wd w):
 qJ 39 #[St (numS p),St (numS q)] w (ze #[St (numS (p-q)),zj zm 0]):=
 have d:∀{q:Rat},sz q 9->zm0 q:=λc=>⟨(za3 _ 9 (by omega)).2 c.1,(zaf _ 9 (by omega)).2 c.2⟩
 yhr p q (zoo (by omega) (by omega) a) (zoo (by omega) (by omega) b) w hw λe _=>z0l p (-q) (zoo (by omega) (by omega) a) (zoo (by omega) (by omega) (yhm b)) (d a) (d (yhm b)) e
theorem zh3 (q:Rat) (w:zA):zC zF 18 #[St (numS q)] w λe w'=>∃v:SlT,e=zo (slV v)/\zB w.heap.size w w'/\SdL (slV v) (rs q) w'/\∀a,v.1=zq a->w.heap.size<=a.block:=by
 by_cases h:q=0
 ·subst h
  rw[zie];have c:=hid (zM w.heap.size w);go_enter Tryz.func18,Tryz.ntmps18;go_wp21;go_ret;exact⟨(zp,0,0),rfl,c.out,.inl ⟨rfl,if_pos rfl⟩,λa e=>by cases e⟩
 ·obtain⟨b,f⟩:=zzX (⟨(numS q).toArray⟩:ByteArray)
  have d:St (numS q)=z8 b:=by rw[f]
  have k:(b.toList==[48])=zu:=by rw[f,ByteArray.toList_eq];exact zsf h
  have g:=SdL.laid w q 1 b ⟨#[49]⟩ d (by rw[zae (by omega)];rfl) _ rfl;have c:=hid ((zM w.heap.size w).alloc (zN _) (zn #[z8 b,z8 ⟨#[49]⟩] 58));have i:=hid g;have j:=hid (show rs q=[(q,1)] from if_neg h);rw[d];clear d f g h;go_enter Tryz.func18,Tryz.ntmps18;go_wp21;go_ret;refine⟨(zq ⟨w.heap.size,0,zp⟩,1,1),rfl,c.out,by rw[j.out];exact i.out,λa e=>?_⟩;cases e;exact zN _
theorem zx4 (q:Rat) (e:sz q 9) (w:zA) (hw:Wd w):qJ 20 #[St (numS q)] w (St (numS (-q))):=by
 have a:=yhs 0 q (zlb (by omega)) e w hw;rw[zie,show(0:Rat)-q= -q by grind] at a;have c:=hid a;clear a;generalize numS (-q)=g at*
 generalize numS q=f at*
 go_enter Tryz.func20,Tryz.ntmps20;go_wp21;refine zzM c.out λh b=>?_;have d:=hid b;clear b;go_wp21;go_ret;exact⟨rfl,d.out⟩
theorem yda {P:Program} (l:Value->zA->Prop) {o:Oper} {a:Act} (w:zA) (p x:Operand) (t:TypeId)
 (H:o.op=.call {callee:=.builtin .append,args:= #[p,x],argTypes:= #[t,t]})
 (base:Nat) (e:TypeId) (i:TypeInfo) (z:Value) (b k:Nat) (N:P.underlying t=some (.slice e)) (E:P.info? e=some i) (Q:i.zero=some z)
 (L:i.size=b) (C:i.bytes=k) (R:z.cells.size=b) (M:0<b)
 (v:Value) (n:Nat) (xs:List Value) (K:a.eval p=v) (I:w.ownsRow base e b v n xs)
 (g:Addr) (m c:Nat) (f:List Value) (O:a.eval x=.slice (some g) m c) (F:f.length=m*b) (G:∀j u,f[j]? =some u->w.cell? (g.add j)=some u) (q:∀u∈f,u.oneCell'=true)
 (A:n+m<=maxLen) (D:(n+m)*k<=140737488355328) (B:base<=w.heap.size)
 (h:∀d w',w'.ownsRow base e b d (n+m) (xs++f)->w.grownBy w' v.ownBlock->(d.ownBlock=v.ownBlock\/d.ownBlock=some w.heap.size)->l d w'):zfp P l ((execOp a.eval o).run P w):=by
 obtain⟨d,w',J,r,s, -,y⟩:=run_append_own_at (P:=P) w base t o.type e i z b k N E Q L C R M v n xs I g m c f F G q A D B;unfold execOp;simp only[H,resolve,invoke,builtin,Sem.run_bind,Sem.run_pure,Result.andThen_ok,List.map_toArray,List.map_cons,List.map_nil,K,O,J];exact h d w' r s y
theorem yi2 {a:zA} {q:Nat} {t:TypeId} {l:List Value} (h:a.heap[q]? =zq (zn l.toArray t (0,0))):∀j u,l[j]? =zq u->a.cell? ((⟨q,0,zp⟩:Addr).add j)=zq u:=λj u b=>by
 rw[adM,Nat.zero_add,zzm h];exact b
theorem yht (a b c x y z:List UInt8) (u v:SlT):∀e∈[St a,St b,St c,slV u,St x,St y,St z,slV v],e.oneCell'=zt:=λe d=>by
 simp only[List.mem_cons,List.not_mem_nil,or_false] at d;rcases d with rfl|rfl|rfl|rfl|rfl|rfl|rfl|rfl<;>rfl
structure BxG where
 q:Nat
 a:SlT
 b:SlT
 c:SlT
def zjj (B:Nat) (v:SlT):Prop:=∀a,v.1=zq a->B<=a.block
structure BxR (w0:zA) (B n:Nat) (ov:Value) (xs:List Value) (m0 m1 m2 o0 o1 o2:List UInt8) (r1 r2:List (Rat×Nat)) (g:BxG) (f:Nat->Bool) (W:zA):Prop where
 bel:f 23=zu->qL w0 W
 s1:f 23=zu->f 10=zt->SdL (slV g.a) r1 W/\zjj w0.heap.size g.a
 s2:f 23=zu->f 20=zt->SdL (slV g.b) r2 W/\zjj w0.heap.size g.b
 lai:f 23=zu->f 22=zt->W.heap[g.q]? =zq (zn [St m0,St m1,St m2,slV g.a,St o0,St o1,St o2,slV g.b].toArray 53 (0,0))
 post:f 23=zt->∃Y,qL w0 Y/\SdL (slV g.a) r1 Y/\zjj w0.heap.size g.a/\SdL (slV g.b) r2 Y/\zjj w0.heap.size g.b/\Y.grownBy W ov.ownBlock/\W.ownsRow B 53 4 (slV g.c) (n+2) (xs++[St m0,St m1,St m2,slV g.a,St o0,St o1,St o2,slV g.b])/\((slV g.c).ownBlock=ov.ownBlock\/(slV g.c).ownBlock=zq Y.heap.size)
section
variable {w0 W W':zA} {B n:Nat} {ov:Value} {xs:List Value} {m0 m1 m2 o0 o1 o2:List UInt8} {r1 r2:List (Rat×Nat)} {g:BxG} {f:Nat->Bool}
theorem BxR.step (h:BxR w0 B n ov xs m0 m1 m2 o0 o1 o2 r1 r2 g f W) (k:Nat) (b:(k !=10&&(k !=20&&(k !=22&&k !=23)))=zt):BxR w0 B n ov xs m0 m1 m2 o0 o1 o2 r1 r2 g (λj=>if k=j then zt else f j) W:=by
 simp only[Bool.and_eq_true,bne_iff_ne,ne_eq] at b;obtain⟨c,d,e,a⟩:=b;exact⟨by rw[if_neg a];exact h.bel,by rw[if_neg a,if_neg c];exact h.s1,by rw[if_neg a,if_neg d];exact h.s2,by rw[if_neg a,if_neg e];exact h.lai,by rw[if_neg a];exact h.post⟩
theorem BxR.next (h:BxR w0 B n ov xs m0 m1 m2 o0 o1 o2 r1 r2 g f W) (c:qL W W') (d:f 23=zu):BxR w0 B n ov xs m0 m1 m2 o0 o1 o2 r1 r2 g f W':=
 ⟨λa=>(h.bel a).trans (c.mono (h.bel a).size),λa b=>⟨(h.s1 a b).1.below c,(h.s1 a b).2⟩,λa b=>⟨(h.s2 a b).1.below c,(h.s2 a b).2⟩,λa b=>zac c _ _ _ _ (h.lai a b),λa=>by rw[d] at a;cases a⟩
theorem BxR.got1 (h:BxR w0 B n ov xs m0 m1 m2 o0 o1 o2 r1 r2 g f W) (e:f 23=zu) (d:f 22=zu) {v:SlT} (k:SdL (slV v) r1 W) (i:zjj w0.heap.size v):BxR w0 B n ov xs m0 m1 m2 o0 o1 o2 r1 r2 {g with a:=v} (λj=>if 10=j then zt else f j) W:=
 ⟨h.bel,λ_ _=>⟨k,i⟩,h.s2,λ_ c=>(by rw[if_neg (by decide),d] at c;cases c),λb=>(by rw[if_neg (by decide),e] at b;cases b)⟩
theorem BxR.got2 (h:BxR w0 B n ov xs m0 m1 m2 o0 o1 o2 r1 r2 g f W) (e:f 23=zu) (d:f 22=zu) {v:SlT} (k:SdL (slV v) r2 W) (i:zjj w0.heap.size v):BxR w0 B n ov xs m0 m1 m2 o0 o1 o2 r1 r2 {g with b:=v} (λj=>if 20=j then zt else f j) W:=
 ⟨h.bel,h.s1,λ_ _=>⟨k,i⟩,λ_ c=>(by rw[if_neg (by decide),d] at c;cases c),λa=>(by rw[if_neg (by decide),e] at a;cases a)⟩
theorem BxR.laid (h:BxR w0 B n ov xs m0 m1 m2 o0 o1 o2 r1 r2 g f W) (d:f 23=zu):BxR w0 B n ov xs m0 m1 m2 o0 o1 o2 r1 r2 {g with q:=W.heap.size} (λj=>if 22=j then zt else f j) (W.alloc (zn #[St m0,St m1,St m2,slV g.a,St o0,St o1,St o2,slV g.b] 53)):=by
 have c:=(zM W.heap.size W).alloc (zN _) (zn #[St m0,St m1,St m2,slV g.a,St o0,St o1,St o2,slV g.b] 53);exact⟨λa=>(h.bel a).trans (c.mono (h.bel a).size),λa b=>⟨(h.s1 a b).1.below c,(h.s1 a b).2⟩,λa b=>⟨(h.s2 a b).1.below c,(h.s2 a b).2⟩,λ_ _=>zG W _,λa=>(by rw[if_neg (by decide),d] at a;cases a)⟩
theorem BxR.app (h:BxR w0 B n ov xs m0 m1 m2 o0 o1 o2 r1 r2 g f W) (b:f 23=zu) (d:f 10=zt) (e:f 20=zt) {v:SlT} (i:W.grownBy W' ov.ownBlock) (k:W'.ownsRow B 53 4 (slV v) (n+2) (xs++[St m0,St m1,St m2,slV g.a,St o0,St o1,St o2,slV g.b])) (l:(slV v).ownBlock=ov.ownBlock\/(slV v).ownBlock=zq W.heap.size):
 BxR w0 B n ov xs m0 m1 m2 o0 o1 o2 r1 r2 {g with c:=v} (λj=>if 23=j then zt else f j) W':=
 ⟨λa=>by simp at a,λa=>by simp at a,λa=>by simp at a,λa=>by simp at a,λ_=>⟨W,h.bel b,(h.s1 b d).1,(h.s1 b d).2,(h.s2 b e).1,(h.s2 b e).2,i,k,l⟩⟩
end
theorem SdL.apart {v:Value} {l:List (Rat×Nat)} {b d:zA} {k:Option Nat} (h:SdL v l b) (u:∀a n c,v=z7 (zq a) n c->zq a.block≠k) (g:b.grownBy d k):SdL v l d:=by
 rcases h with h|⟨e,w,m,f,q,i,s⟩
 ·exact .inl h
 ·have j:=g.block e i (u _ _ _ f)
  refine .inr ⟨e,w,m,f,q,Nat.lt_of_lt_of_le i g.size,λt x r=>?_⟩;obtain⟨o,p⟩:=s t x r;constructor
  ·rw[<-o];simp[World.cell?,j]
  ·rw[<-p];simp[World.cell?,j]
theorem SdL.lt {v:Value} {l:List (Rat×Nat)} {b:zA} (h:SdL v l b) {a:Addr} {n c:Nat} (e:v=z7 (zq a) n c):a.block<b.heap.size:=by
 rcases h with⟨rfl, -⟩|⟨f,k,g,rfl,i,d,j⟩
 ·cases e
 ·cases e;exact d
structure BxS (w:zA) (l u:Pq) (k:Nat) (ov:Value) (W:zA):Prop where
 bel:qL w W
 rng:W.heap[w.heap.size+3]? =zq (zn #[St (numS l.x),St (numS u.x),St (numS l.y),St (numS u.y),St (numS l.z),St (numS u.z)] 24 (0,0))
 own:∃D,W.ownsRow (w.heap.size+4) 53 4 ov (2*k) (fH ((boxH l u).take (2*k)) D)/\(∀i,i<2*k->SdL (D i) (rs (gH (boxH l u) i).d) W/\∀a n c,D i=z7 (zq a) n c->zq a.block≠ov.ownBlock)/\∀i,2*k<=i->D i=z7 zp 0 0
theorem BxS.keep {w:zA} {l u:Pq} {k:Nat} {g:Value} {b c:zA} (h:BxS w l u k g b) (a:qL b c):BxS w l u k g c:=by
 obtain⟨i,j,d,m⟩:=h.own;exact⟨h.bel.trans (a.mono h.bel.size),zac a _ _ _ _ h.rng,i,zcj (zac a) j,λf e=>⟨(d f e).1.below a,(d f e).2⟩,m⟩
theorem yi3 (s:List Hq) (n:Nat) (h:n+1<s.length):s.take (n+2)=s.take n++[gH s n,gH s (n+1)]:=by
 rw[show n+2=n+1+1 from rfl,List.take_add_one,List.take_add_one,List.append_assoc];unfold gH;rw[yB (show n<s.length by omega),yB h];rfl
theorem yle (x y:Hq) (E:Nat->Value):fH [x,y] E=[St (numS x.a),St (numS x.b),St (numS x.c),E 0,St (numS y.a),St (numS y.b),St (numS y.c),E 1]:=rfl
theorem BxS.add {w:zA} {l u:Pq} {k:Nat} {m:Value} {g j Z:zA} {a b c:SlT} (Y:k<3) (h:BxS w l u k m g) {D:Nat->Value} (z:g.ownsRow (w.heap.size+4) 53 4 m (2*k) (fH ((boxH l u).take (2*k)) D)) (A:∀i,i<2*k->SdL (D i) (rs (gH (boxH l u) i).d) g/\∀a n c,D i=z7 (zq a) n c->zq a.block≠m.ownBlock) (O:∀i,2*k<=i->D i=z7 zp 0 0) (K:qL g j) (B:j.grownBy Z m.ownBlock)
 (ha:SdL (slV a) (rs (gH (boxH l u) (2*k)).d) j) (U:zjj g.heap.size a) (P:SdL (slV b) (rs (gH (boxH l u) (2*k+1)).d) j) (V:zjj g.heap.size b)
 (R:Z.ownsRow (w.heap.size+4) 53 4 (slV c) (2*k+2) (fH ((boxH l u).take (2*k)) D++[St (numS (gH (boxH l u) (2*k)).a),St (numS (gH (boxH l u) (2*k)).b),St (numS (gH (boxH l u) (2*k)).c),slV a,St (numS (gH (boxH l u) (2*k+1)).a),St (numS (gH (boxH l u) (2*k+1)).b),St (numS (gH (boxH l u) (2*k+1)).c),slV b]))
 (S:(slV c).ownBlock=m.ownBlock\/(slV c).ownBlock=zq j.heap.size):BxS w l u (k+1) (slV c) Z:=by
 have r:=h.keep K;have E:∀p,m.ownBlock=zq p->w.heap.size+4<=p/\p<g.heap.size:=λp e=>z.lt p e;have L:(boxH l u).length=6:=rfl;obtain⟨o,G,H,t⟩:∃o:Nat->Value,o (2*k)=slV a/\o (2*k+1)=slV b/\∀i,i≠2*k->i≠2*k+1->o i=D i:=
  ⟨λi=>if i=2*k then slV a else if i=2*k+1 then slV b else D i,if_pos rfl,(if_neg (by omega)).trans (if_pos rfl),λi z A=>(if_neg z).trans (if_neg A)⟩
 have I:∀f:SlT,zjj g.heap.size f->∀d n c,slV f=z7 (zq d) n c->zq d.block≠m.ownBlock:=λf s d n c e q=>by
  have x:f.1=zq d:=by unfold slV at e;injection e
  have:=s d x;have:=(E _ q.symm).2;omega
 have W:w.heap.size+3<j.heap.size:=(Array.getElem?_eq_some_iff.1 r.rng).1;have X:w.heap.size<=j.heap.size:=r.bel.size;refine⟨r.bel.grown B X (λp e=>by have:=(E p e).1;omega),?_,o,?_,λi C=>?_,λi C=>?_⟩
 ·rw[B.block _ W (λe=>by have:=(E _ e.symm).1;omega)];exact r.rng
 ·have x:(boxH l u).take (2*(k+1))=(boxH l u).take (2*k)++[gH (boxH l u) (2*k),gH (boxH l u) (2*k+1)]:=by
   rw[show 2*(k+1)=2*k+2 by omega];exact yi3 _ _ (by rw[L];omega)
  have J:((boxH l u).take (2*k)).length=2*k:=by rw[List.length_take,L];omega
  have N:fH ((boxH l u).take (2*(k+1))) o=fH ((boxH l u).take (2*k)) D++[St (numS (gH (boxH l u) (2*k)).a),St (numS (gH (boxH l u) (2*k)).b),St (numS (gH (boxH l u) (2*k)).c),slV a,St (numS (gH (boxH l u) (2*k+1)).a),St (numS (gH (boxH l u) (2*k+1)).b),St (numS (gH (boxH l u) (2*k+1)).c),slV b]:=by
   rw[x,yc9,J,zml _ o D (λi C=>by rw[J] at C;exact t i (by omega) (by omega)),yle];rw[Nat.zero_add,show 1+2*k=2*k+1 by omega,G,H]
  rw[N,show 2*(k+1)=2*k+2 by omega];exact R
 ·have y:∀f:Value,∀F,SdL f F j->(∀d n c,f=z7 (zq d) n c->zq d.block≠m.ownBlock)->SdL f F Z/\∀d n v,f=z7 (zq d) n v->zq d.block≠(slV c).ownBlock:=λf F s M=>by
   refine⟨s.apart M B,λd n v e q=>?_⟩;rcases S with h|h
   ·exact M d n v e (q.trans h)
   ·rw[h] at q
    injection q with q;have:=s.lt e;omega
  by_cases i0:i=2*k
  ·subst i0
   rw[G];exact y _ _ ha (I a U)
  ·by_cases i1:i=2*k+1
   ·subst i1
    rw[H];exact y _ _ P (I b V)
   ·rw[t i i0 i1]
    obtain⟨T,Q⟩:=A i (by omega);exact y _ _ (T.below K) Q
 ·rw[t i (by omega) (by omega)]
  exact O i (by omega)
theorem zho {W:zA} {A:Nat} {a b:Value} {t:TypeId} (h:W.heap[A]? =zq (zn #[a,b] t (0,0))):W.cell? ⟨A,0,zp⟩=zq a/\W.cell? ⟨A,1,zp⟩=zq b:=
 ⟨by rw[zJ h];rfl,by rw[zJ h];rfl⟩
theorem yki:numS (-1)=[45,49]:=by decide+kernel
theorem ykj (l u:Pq) (b:sz3 l.x l.y l.z 9):∀k,k<3->∃low high:Rat,sz low 9/\(#[St (numS l.x),St (numS u.x),St (numS l.y),St (numS u.y),St (numS l.z),St (numS u.z)]:Array Value)[k*2]? =zq (St (numS low))/\(#[St (numS l.x),St (numS u.x),St (numS l.y),St (numS u.y),St (numS l.z),St (numS u.z)]:Array Value)[k*2+1]? =zq (St (numS high))/\
 (gH (boxH l u) (2*k)).d= -low/\(gH (boxH l u) (2*k+1)).d=high/\
 (([z8 ⟨#[48]⟩,z8 ⟨#[48]⟩,z8 ⟨#[48]⟩]:List Value).set k (z8 ⟨#[45,49]⟩)).toArray= #[St (numS (gH (boxH l u) (2*k)).a),St (numS (gH (boxH l u) (2*k)).b),St (numS (gH (boxH l u) (2*k)).c)]/\
 (([z8 ⟨#[48]⟩,z8 ⟨#[48]⟩,z8 ⟨#[48]⟩]:List Value).set k (z8 ⟨#[49]⟩)).toArray= #[St (numS (gH (boxH l u) (2*k+1)).a),St (numS (gH (boxH l u) (2*k+1)).b),St (numS (gH (boxH l u) (2*k+1)).c)]:=λk e=>by
 have a:St (numS 0)=z8 ⟨#[48]⟩:=by rw[zie]
 have c:St (numS 1)=z8 ⟨#[49]⟩:=by rw[zfc]
 have d:St (numS (-1))=z8 ⟨#[45,49]⟩:=by rw[yki]
 match k,e with
 |0,_=>
  refine⟨l.x,u.x,b.1,rfl,rfl,rfl,rfl,?_,?_⟩
  ·show _= #[St (numS (-1)),St (numS 0),St (numS 0)]
   rw[a,d];rfl
  ·show _= #[St (numS 1),St (numS 0),St (numS 0)]
   rw[a,c];rfl
 |1,_=>
  refine⟨l.y,u.y,b.2.1,rfl,rfl,rfl,rfl,?_,?_⟩
  ·show _= #[St (numS 0),St (numS (-1)),St (numS 0)]
   rw[a,d];rfl
  ·show _= #[St (numS 0),St (numS 1),St (numS 0)]
   rw[a,c];rfl
 |2,_=>
  refine⟨l.z,u.z,b.2.2,rfl,rfl,rfl,rfl,?_,?_⟩
  ·show _= #[St (numS 0),St (numS 0),St (numS (-1))]
   rw[a,d];rfl
  ·show _= #[St (numS 0),St (numS 0),St (numS 1)]
   rw[a,c];rfl
theorem zpp (l u:Pq) (cu:sz3 l.x l.y l.z 9) (w:zA) (co:Hid (Hw w)):
 zC zF 6 #[zh #[St (numS l.x),St (numS u.x)],zh #[St (numS l.y),St (numS u.y)],zh #[St (numS l.z),St (numS u.z)]] w λe w'=>∃q c D,e=zo (z7 q 6 c)/\6<=c/\zB w.heap.size w w'/\SolW q (boxH l u) D w':=by
 obtain⟨d0,ct,cy,cz,c'⟩:=info_parts zpn;have cn:=hid (ykj l u cu);obtain⟨c9,a4⟩:=zzX (w.alloc (zn #[St (numS l.x),St (numS u.x)] 24));obtain⟨J,T⟩:=hbxU a4;have I:c9.heap.size=w.heap.size+1:=by rw[a4];simp
 obtain⟨ca,a5⟩:=zzX (c9.alloc (zn #[St (numS l.y),St (numS u.y)] 24));obtain⟨b2,F⟩:=hbxU a5;have S:ca.heap.size=w.heap.size+2:=by rw[a5];simp[I]
 obtain⟨cb,a6⟩:=zzX (ca.alloc (zn #[St (numS l.z),St (numS u.z)] 24));obtain⟨A,ah⟩:=hbxU a6;have c8:cb.heap.size=w.heap.size+3:=by rw[a6];simp[S]
 obtain⟨d6,ac⟩:=zzX (cb.alloc (zn #[St (numS l.x),St (numS u.x),St (numS l.y),St (numS u.y),St (numS l.z),St (numS u.z)] 24));obtain⟨bl,ai⟩:=hbxU ac;rw[I] at F;rw[S] at ah;rw[c8] at ai;have bf:=zac A _ _ _ _ (zac b2 _ _ _ _ T);have bg:=zac A _ _ _ _ F;have aj:=(J.trans (b2.mono J.size)).trans (A.mono (by omega));have ba:=aj.trans (bl.mono aj.size);obtain⟨bm,c1⟩:=zho bf;obtain⟨t,v⟩:=zho bg;obtain⟨K,G⟩:=zho ah;have be:=hid (show BxS w l u 0 (z7 zp 0 0) d6 from⟨ba,ai,λ_=>z7 zp 0 0,⟨rfl,.inl ⟨rfl,rfl⟩⟩,λm r=>by omega,λm r=>rfl⟩);rw[a6,a5,a4] at bm c1 t v K G;rw[a6,a5,a4] at ac;have V:=hid ac.symm;clear a4 a5 a6 ac J b2 A bl T F ah ai I S c8 bf bg aj ba;go_enter Tryz.func6,Tryz.ntmps6;go_wp21;have a2:=V.out;rw[a2];clear a2 V bm c1 t v K G;go_loopw [7,17] (λs m wr=>∃(i:Nat) (q:Option Addr) (c:Nat),i<=3/\s=z7 q (2*i) c/\m=zj zm (i:Int)/\Hid (BxS w l u i s wr))
  (λ_ m _=>3-(RowKit.intOf m).toNat)
 case atStart=>exact⟨0,zp,0,by omega,rfl,rfl,be⟩
 case round=>
  clear be;obtain⟨i,E,C,d9,rfl,rfl,H⟩:=hrel;by_cases hlt:i<3
  ·obtain⟨low,high,c6,bs,bt,bv,bw,bz,b'⟩:=cn i hlt
   have cp:wr.cell? ⟨w.heap.size+3,i*2,zp⟩=zq (St (numS low)):=by rw[zJ H.rng];exact bs
   have a1:wr.cell? ⟨w.heap.size+3,i*2+1,zp⟩=zq (St (numS high)):=by rw[zJ H.rng];exact bt
   obtain⟨D,Z,L,a0⟩:=H.own;have bj:=hid λ(p:zA) (y:qL w p)=>zx4 low c6 p (co.below y).wd;have bh:=hid (zh3 (-low));have bi:=hid (zh3 high);have c2:rs (gH (boxH l u) (2*i)).d=rs (-low):=by rw[bv]
   have c3:rs (gH (boxH l u) (2*i+1)).d=rs high:=by rw[bw]
   obtain⟨cc,ad⟩:=zzX (wr.alloc (zn #[St (numS low),St (numS high)] 24));obtain⟨J,T⟩:=hbxU ad;have I:cc.heap.size=wr.heap.size+1:=by rw[ad];simp
   obtain⟨cd,ae⟩:=zzX (cc.alloc (zn (([z8 ⟨#[48]⟩,z8 ⟨#[48]⟩,z8 ⟨#[48]⟩]:List Value).set i (z8 ⟨#[49]⟩)).toArray 61));obtain⟨b2,F⟩:=hbxU ae;have S:cd.heap.size=wr.heap.size+1+1:=by rw[ae];simp[I]
   obtain⟨n,af⟩:=zzX (cd.alloc (zn (([z8 ⟨#[48]⟩,z8 ⟨#[48]⟩,z8 ⟨#[48]⟩]:List Value).set i (z8 ⟨#[45,49]⟩)).toArray 61));obtain⟨A,a7⟩:=hbxU af;rw[I] at F;rw[S] at a7;have ag:=zac A _ _ _ _ F;have b8:=zac A _ _ _ _ (zac b2 _ _ _ _ T);rw[b'] at ag;rw[bz] at a7;have a9:qL wr n:=(J.trans (b2.mono (by omega))).trans (A.mono (by omega));have z:=hid (⟨H.keep a9,zcj (zac a9) Z,λm r=>(⟨(L m r).1.below a9,(L m r).2⟩:_/\_),a0⟩:BxS w l u i (z7 E (2*i) C) n/\_/\(∀m,m<2*i->SdL (D m) (rs (gH (boxH l u) m).d) n/\∀s d2 c,D m=z7 (zq s) d2 c->zq s.block≠(z7 E (2*i) C).ownBlock)/\_);have am:=hid λ(p:zA) (a:zB n.drew.heap.size n.drew p)=>zho (zac a _ _ _ _ (show n.drew.heap[wr.heap.size]? =_ from b8));have X:=hid λ(p:zA) (a:zB n.drew.heap.size n.drew p)=>zah (zac a _ _ _ _ (show n.drew.heap[wr.heap.size+1]? =_ from ag));have W:=hid λ(p:zA) (a:zB n.drew.heap.size n.drew p)=>zah (zac a _ _ _ _ (show n.drew.heap[wr.heap.size+1+1]? =_ from a7));have a8:=hid (show n.drew.ownsRow (w.heap.size+4) 53 4 (z7 E (2*i) C) (2*i) (fH ((boxH l u).take (2*i)) D) from z.2.1);have b9:=hid (show w.heap.size+4<=n.drew.heap.size from by
    have:=(Array.getElem?_eq_some_iff.1 z.1.rng).1;show _<=n.heap.size;omega)
   have bk:=hid λ(p:zA) (a:zB n.drew.heap.size n.drew p)=>bj p (z.1.bel.trans ((show qL n p from⟨a.os,a.tape,a.output,a.size,a.block⟩).mono z.1.bel.size));have bc:=hid c2;have bd:=hid c3;rw[ae,ad] at af;have V:=hid af.symm;clear ad ae af J b2 A T F ag a7 b8 I S a9 b' bz bs bt bv bw c2 c3 Z L a0 H bj c6;obtain⟨ce,b4⟩:=zzX (fH ((boxH l u).take (2*i)) D);rw[<-b4] at a8;have al:=hid b4;clear b4;obtain⟨M,aw⟩:=zzX (numS (gH (boxH l u) (2*i)).a);obtain⟨N,ax⟩:=zzX (numS (gH (boxH l u) (2*i)).b);obtain⟨O,ay⟩:=zzX (numS (gH (boxH l u) (2*i)).c);obtain⟨P,a'⟩:=zzX (numS (gH (boxH l u) (2*i+1)).a);obtain⟨Q,b0⟩:=zzX (numS (gH (boxH l u) (2*i+1)).b);obtain⟨R,b1⟩:=zzX (numS (gH (boxH l u) (2*i+1)).c);rw[<-aw,<-ax,<-ay] at W;rw[<-a',<-b0,<-b1] at X;have bb:=hid (⟨aw,ax,ay,a',b0,b1⟩:_/\_/\_/\_/\_/\_);clear aw ax ay a' b0 b1;generalize rs (-low)=d4 at*
   generalize rs high=d5 at*
   generalize numS (-low)=c7 at*
   generalize numS low=b5 at*
   generalize numS high=r at*
   go_wp21;have a2:=V.out;rw[show((wr.alloc (zn #[z8 ⟨b5.toArray⟩,z8 ⟨r.toArray⟩] 24)).alloc (zn (([z8 ⟨#[48]⟩,z8 ⟨#[48]⟩,z8 ⟨#[48]⟩]:List Value).set i (z8 ⟨#[49]⟩)).toArray 61)).alloc (zn (([z8 ⟨#[48]⟩,z8 ⟨#[48]⟩,z8 ⟨#[48]⟩]:List Value).set i (z8 ⟨#[45,49]⟩)).toArray 61)=n from a2];clear a2 V cp a1
   refine zc4 (λ(g:BxG) d1=>([z7 E (2*i) C,zf (zq ⟨wr.heap.size+1+1,0,zp⟩),St M,zf (zq ⟨wr.heap.size+1+1,1,zp⟩),St N,zf (zq ⟨wr.heap.size+1+1,2,zp⟩),St O,zf (zq ⟨wr.heap.size,0,zp⟩),St b5,St c7,z7 g.a.1 g.a.2.1 g.a.2.2,zh #[St M,St N,St O,z7 g.a.1 g.a.2.1 g.a.2.2],zf (zq ⟨wr.heap.size+1,0,zp⟩),St P,zf (zq ⟨wr.heap.size+1,1,zp⟩),St Q,zf (zq ⟨wr.heap.size+1,2,zp⟩),St R,zf (zq ⟨wr.heap.size,1,zp⟩),St r,z7 g.b.1 g.b.2.1 g.b.2.2,zh #[St P,St Q,St R,z7 g.b.1 g.b.2.1 g.b.2.2],z7 (zq ⟨g.q,0,zp⟩) 2 2,z7 g.c.1 g.c.2.1 g.c.2.2,z7 g.c.1 g.c.2.1 g.c.2.2]:List Value).getD d1 undef) (BxR n.drew (w.heap.size+4) (2*i) (z7 E (2*i) C) ce M N O P Q R d4 d5) (by kernel_rfl) (by kernel_rfl) ⟨0,(zp,0,0),(zp,0,0),(zp,0,0)⟩
    ⟨λ_=>zM _ _,λ_ a=>(by cases a),λ_ a=>(by cases a),λ_ a=>(by cases a),λa=>(by cases a)⟩ λg=>?_
   refine qB (z7 E (2*i) C) (λj h a=>a.step 0 (by decide)) ?_;refine qB (zf (zq ⟨wr.heap.size+1+1,0,zp⟩)) (λj h a=>a.step 1 (by decide)) ?_;refine qB (St M) (λj h a=>a.step 2 (by decide)) ?_ (hy:=λj h d a=>by obtain⟨t,v,Y, -⟩:=W h (a.bel (d.no (j:=23) (d.no (j:=22) (d.no (j:=11) d.self (by kernel_rfl)) (by kernel_rfl)) (by kernel_rfl)));go_simp);simp only[zzQ];refine qB (zf (zq ⟨wr.heap.size+1+1,1,zp⟩)) (λj h a=>a.step 3 (by decide)) ?_;refine qB (St N) (λj h a=>a.step 4 (by decide)) ?_ (hy:=λj h d a=>by obtain⟨t,v,Y, -⟩:=W h (a.bel (d.no (j:=23) (d.no (j:=22) (d.no (j:=11) d.self (by kernel_rfl)) (by kernel_rfl)) (by kernel_rfl)));go_simp);refine qB (zf (zq ⟨wr.heap.size+1+1,2,zp⟩)) (λj h a=>a.step 5 (by decide)) ?_;simp only[zzQ];refine qB (St O) (λj h a=>a.step 6 (by decide)) ?_ (hy:=λj h d a=>by obtain⟨t,v,Y, -⟩:=W h (a.bel (d.no (j:=23) (d.no (j:=22) (d.no (j:=11) d.self (by kernel_rfl)) (by kernel_rfl)) (by kernel_rfl)));go_simp);refine qB (zf (zq ⟨wr.heap.size,0,zp⟩)) (λj h a=>a.step 7 (by decide)) ?_;refine qB (St b5) (λj h a=>a.step 8 (by decide)) ?_ (hy:=λj h d a=>by obtain⟨t,v⟩:=am h (a.bel (d.no (j:=23) (d.no (j:=22) (d.no (j:=11) (d.no (j:=10) (d.no (j:=9) d.self (by kernel_rfl)) (by kernel_rfl)) (by kernel_rfl)) (by kernel_rfl)) (by kernel_rfl)));go_simp);simp only[zzQ]
   refine zbv (St c7) (by rfl) (by rfl) (λj h d a U x=>by
    have o:=(d.no (j:=23) (d.no (j:=22) (d.no (j:=11) (d.no (j:=10) d.self (by kernel_rfl)) (by kernel_rfl)) (by kernel_rfl)) (by kernel_rfl));have a3:=bk h (a.bel o);go_simp;refine zzM a3 λw' y=>?_;exact⟨_,rfl,x _ ((a.next y o).step 9 (by decide))⟩) ?_
   try simp only[zzQ]
   refine zdc (z7 g.a.1 g.a.2.1 g.a.2.2) (by rfl) (by rfl) (λj h d a U x=>by
    have o:=(d.no (j:=23) (d.no (j:=22) (d.no (j:=11) d.self (by kernel_rfl)) (by kernel_rfl)) (by kernel_rfl));have aq:=d.self;have ab:=d.no (j:=11) d.self (by kernel_rfl);have B:=d.no (j:=22) ab (by kernel_rfl);have au:=d.no (j:=24) o (by kernel_rfl);have a3:=bh h;go_simp;refine a3.mono ?_;rintro e w' ⟨b6,rfl,y,b3,az⟩;refine⟨_,rfl,x {g with a:=b6} w' (λf k=>?_) ((a.next y o).got1 o B b3 (λs e=>zO (a.bel o).size (az s e)))⟩
    match f,k with
    |0,_|1,_|2,_|3,_|4,_|5,_|6,_|7,_|8,_|9,_|12,_|13,_|14,_|15,_|16,_|17,_|18,_|19,_|20,_|21,_=>rfl
    |10,k=>rw[aq] at k;cases k
    |11,k=>rw[ab] at k;cases k
    |22,_|23,_|24,_=>rfl
    |_+25,_=>rfl) ?_
   refine qB (zh #[St M,St N,St O,z7 g.a.1 g.a.2.1 g.a.2.2]) (λj h a=>a.step 11 (by decide)) ?_;refine qB (zf (zq ⟨wr.heap.size+1,0,zp⟩)) (λj h a=>a.step 12 (by decide)) ?_;simp only[zzQ];refine qB (St P) (λj h a=>a.step 13 (by decide)) ?_ (hy:=λj h d a=>by obtain⟨t,v,Y, -⟩:=X h (a.bel (d.no (j:=23) (d.no (j:=22) (d.no (j:=21) d.self (by kernel_rfl)) (by kernel_rfl)) (by kernel_rfl)));go_simp);refine qB (zf (zq ⟨wr.heap.size+1,1,zp⟩)) (λj h a=>a.step 14 (by decide)) ?_;refine qB (St Q) (λj h a=>a.step 15 (by decide)) ?_ (hy:=λj h d a=>by obtain⟨t,v,Y, -⟩:=X h (a.bel (d.no (j:=23) (d.no (j:=22) (d.no (j:=21) d.self (by kernel_rfl)) (by kernel_rfl)) (by kernel_rfl)));go_simp);simp only[zzQ];refine qB (zf (zq ⟨wr.heap.size+1,2,zp⟩)) (λj h a=>a.step 16 (by decide)) ?_;refine qB (St R) (λj h a=>a.step 17 (by decide)) ?_ (hy:=λj h d a=>by obtain⟨t,v,Y, -⟩:=X h (a.bel (d.no (j:=23) (d.no (j:=22) (d.no (j:=21) d.self (by kernel_rfl)) (by kernel_rfl)) (by kernel_rfl)));go_simp);refine qB (zf (zq ⟨wr.heap.size,1,zp⟩)) (λj h a=>a.step 18 (by decide)) ?_;simp only[zzQ];refine qB (St r) (λj h a=>a.step 19 (by decide)) ?_ (hy:=λj h d a=>by obtain⟨t,v⟩:=am h (a.bel (d.no (j:=23) (d.no (j:=22) (d.no (j:=21) (d.no (j:=20) d.self (by kernel_rfl)) (by kernel_rfl)) (by kernel_rfl)) (by kernel_rfl)));go_simp)
   simp only[zzQ]
   refine zdc (z7 g.b.1 g.b.2.1 g.b.2.2) (by rfl) (by rfl) (λj h d a U x=>by
    have o:=(d.no (j:=23) (d.no (j:=22) (d.no (j:=21) d.self (by kernel_rfl)) (by kernel_rfl)) (by kernel_rfl));have ar:=d.self;have bq:=d.no (j:=21) d.self (by kernel_rfl);have B:=d.no (j:=22) bq (by kernel_rfl);have au:=d.no (j:=24) o (by kernel_rfl);have a3:=bi h;go_simp;refine a3.mono ?_;rintro e w' ⟨b6,rfl,y,b3,az⟩;refine⟨_,rfl,x {g with b:=b6} w' (λf k=>?_) ((a.next y o).got2 o B b3 (λs e=>zO (a.bel o).size (az s e)))⟩
    match f,k with
    |0,_|1,_|2,_|3,_|4,_|5,_|6,_|7,_|8,_|9,_|10,_|11,_|12,_|13,_|14,_|15,_|16,_|17,_|18,_|19,_=>rfl
    |20,k=>rw[ar] at k;cases k
    |21,k=>rw[bq] at k;cases k
    |22,_|23,_|24,_=>rfl
    |_+25,_=>rfl) ?_
   refine qB (zh #[St P,St Q,St R,z7 g.b.1 g.b.2.1 g.b.2.2]) (λj h a=>a.step 21 (by decide)) ?_;simp only[zzQ]
   refine zdc (z7 (zq ⟨g.q,0,zp⟩) 2 2) (by rfl) (by rfl) (λj h d a U x=>by
    have B:=d.self;have o:=(d.no (j:=23) d.self (by kernel_rfl));have cr:=x {g with q:=h.heap.size} _ (λf k=>by
     match f,k with
     |0,_|1,_|2,_|3,_|4,_|5,_|6,_|7,_|8,_|9,_|10,_|11,_|12,_|13,_|14,_|15,_|16,_|17,_|18,_|19,_|20,_|21,_|23,_|24,_=>rfl
     |22,k=>rw[B] at k;cases k
     |_+25,_=>rfl) (a.laid o)
    clear a x;go_simp;exact cr) ?_
   try simp only[zzQ]
   refine zdc (z7 g.c.1 g.c.2.1 g.c.2.2) (by rfl) (by rfl) (λj h d a U x=>by
    have o:=d.self;have au:=d.no (j:=24) d.self (by kernel_rfl);have B:=d.done 22 (by kernel_rfl);have ab:j 11=zt:=by
     cases e:j 11 with
     |true=>rfl
     |false=>have:=d.no (j:=22) e (by kernel_rfl);rw[B] at this;cases this
    have aq:j 10=zt:=by
     cases e:j 10 with
     |true=>rfl
     |false=>have:=d.no (j:=11) e (by kernel_rfl);rw[ab] at this;cases this
    have ar:=d.done 20 (by kernel_rfl);have y:=a.bel o;have cv:=a.lai o B;have cx:=zcj (zac y) a8.out;refine yda U h _ _ 34 rfl (w.heap.size+4) 53 d0 (zh #[St [],St [],St [],z7 zp 0 0]) 4 72 Tryz.underlying34 ct cy cz c' rfl (by decide) (z7 E (2*i) C) (2*i) ce rfl cx ⟨g.q,0,zp⟩ 2 2 [St M,St N,St O,slV g.a,St P,St Q,St R,slV g.b] rfl rfl (yi2 cv) (yht _ _ _ _ _ _ _ _) (by unfold maxLen;omega) (by omega) (zO b9 y.size) (λda w' c0 cs cw=>?_);obtain⟨d3,an,rfl⟩:=zpa c0;exact x {g with c:=(d3,2*i+2,an)} w' (λf k=>by
     match f,k with
     |0,_|1,_|2,_|3,_|4,_|5,_|6,_|7,_|8,_|9,_|10,_|11,_|12,_|13,_|14,_|15,_|16,_|17,_|18,_|19,_|20,_|21,_|22,_=>rfl
     |23,k=>rw[o] at k;cases k
     |24,k=>rw[au] at k;cases k
     |_+25,_=>rfl) (a.app o aq ar cs c0 cw)) ?_
   refine qB (z7 g.c.1 g.c.2.1 g.c.2.2) (λj h a=>a.step 24 (by decide)) ?_;simp only[zzQ];refine ze1 λj d7 d a=>?_;obtain⟨d8,cf,cg,ch,ci,cj,ck,b7,cl⟩:=a.post (d 23 (by decide));obtain⟨cq,an,e, -, -⟩:=zgk b7 (by omega);have ao:qL n n.drew:=(zM _ n).drew;obtain⟨G,ap,aa,bn,bo,bp⟩:=bb.out
   have c4:=BxS.add (c:=g.c) (a:=g.a) (b:=g.b) hlt (z.1.keep ao) (D:=D) (by rw[<-al.out];exact a8.out) (λm r=>⟨(z.2.2.1 m r).1.below ao,(z.2.2.1 m r).2⟩) z.2.2.2 cf ck (by rw[bc.out];exact cg) ch (by rw[bd.out];exact ci) cj
    (by rw[<-al.out,<-G,<-ap,<-aa,<-bn,<-bo,<-bp];exact b7) cl
   have ak:=hid c4;have K:=e;unfold slV at K;rw[e] at ak;rw[K];clear e K cf cg ch ci cj ck b7 cl c4 a d G ap aa bn bo bp z am X W a8 b9 bk bh bi bc bd al bb ao;go_wp21;go_roundw
   case rel=>exact⟨i+1,zq ⟨cq,0,zp⟩,an,by omega,by rw[show 2*(i+1)=2*i+2 by omega],by go_num,by rw[show 2*i+2=2*(i+1) by omega] at ak;exact ak⟩
   case measure=>simp[RowKit.intOf];omega
  ·obtain rfl:i=3:=by omega
   have av:=H.out;obtain⟨D,Z,L,a0⟩:=av.own;have bx:wr.ownsRow (w.heap.size+4) 53 4 (z7 E (2*3) C) (boxH l u).length (fH (boxH l u) D):=Z;obtain⟨q,c,e,bu,c5⟩:=ye1 bx (by show 1<=6;omega);have cm:=hid bu;have br:=hid (show qL w wr/\SolW q (boxH l u) D wr from⟨av.bel,c5,λm=>by
    by_cases r:m<6
    ·exact(L m (by omega)).1
    ·rw[a0 m (by omega)]
     have:gH (boxH l u) m=⟨1,0,0,0⟩:=by unfold gH;rw[List.getElem?_eq_none (show(boxH l u).length<=m by show 6<=m;omega)];rfl
     rw[this];exact .inl ⟨rfl,if_pos rfl⟩⟩)
   injection e with G ap aa;subst G;subst aa;clear av Z L a0 bx c5 H bu;go_wp21;go_ret;exact⟨_,_,D,rfl,cm.out,br.1,br.2⟩
end
section
open Str Geo
theorem ykk (x:Nat->List UInt8):∃q:Nat->Rat,∀i p,x i=numS p->p=q i:=by
 have a:∀i,∃q,∀p,x i=numS p->p=q:=λi=>by
  by_cases a:∃p,x i=numS p
  ·obtain⟨p,b⟩:=a
   exact⟨p,λd c=>zh0 (c.symm.trans b)⟩
  ·exact⟨0,λp b=>(a ⟨p,b⟩).elim⟩
 exact Classical.axiomOfChoice a
structure GoodR (x:Nat->List UInt8) (q:Nat->Rat) (i:Nat):Prop where
 n1:x i=numS (q i)
 n2:x (i+1)=numS (q (i+1))
 l1:(x i).length<=8
 l2:(x (i+1)).length<=8
 lt:q i<q (i+1)
def GoodX (x:Nat->List UInt8) (q:Nat->Rat) (k:Nat):Prop:=∀i,i<k->GoodR x q (i*2)/\GoodR x q (6+i*2)
theorem GoodX.zero (x:Nat->List UInt8) (q:Nat->Rat):GoodX x q 0:=λb a=>by omega
theorem GoodX.next {x:Nat->List UInt8} {q:Nat->Rat} {k:Nat} (h:GoodX x q k) (a:GoodR x q (k*2)) (b:GoodR x q (6+k*2)):GoodX x q (k+1):=λc d=>by
 by_cases e:c=k
 ·subst e;exact⟨a,b⟩
 ·exact h c (by omega)
def ovB (q:Nat->Rat):Nat->Bool
 |0=>zt
 |k+1=>ovB q k&&(decide (cmpR (q (k*2)) (q (6+k*2+1))<0)&&decide (cmpR (q (6+k*2)) (q (k*2+1))<0))
def toB (q:Nat->Rat):Nat->Bool
 |0=>zt
 |k+1=>toB q k&&(decide (cmpR (q (k*2)) (q (6+k*2+1))<=0)&&decide (cmpR (q (6+k*2)) (q (k*2+1))<=0))
theorem ydb {a b:Rat}:cmpR a b<0↔a<b:=by
 have d:=zqf (a:=a) (b:=b);have e:=cmp0 (a:=a) (b:=b);constructor
 ·intro f
  have:=d.1 (by omega);have h:a≠b:=λc=>by have:=e.2 c;omega
  grind
 ·intro f
  have a1:=d.2 (by grind);have g:cmpR a b≠0:=λc=>by have:=e.1 c;grind
  omega
theorem ygd {a b u v:Rat} (c:a<u) (d:b<v):hi2 a b<lo2 u v↔a<v/\b<u:=by
 unfold hi2 lo2;split<;>split<;>constructor<;>grind
theorem yge {a b u v:Rat} (c:a<u) (d:b<v):hi2 a b<=lo2 u v↔a<=v/\b<=u:=by
 unfold hi2 lo2;split<;>split<;>constructor<;>grind
theorem ye3 {x:Nat->List UInt8} {q:Nat->Rat} (g:GoodX x q 3):ovB q 3=zt↔ltP (hiP ⟨q 0,q 2,q 4⟩ ⟨q 6,q 8,q 10⟩) (loP ⟨q 1,q 3,q 5⟩ ⟨q 7,q 9,q 11⟩):=by
 have h:=ygd (g 0 (by omega)).1.lt (g 0 (by omega)).2.lt;have i:=ygd (g 1 (by omega)).1.lt (g 1 (by omega)).2.lt;have j:=ygd (g 2 (by omega)).1.lt (g 2 (by omega)).2.lt;simp only[ovB,Bool.and_eq_true,decide_eq_true_eq,ydb,true_and];show _↔(hi2 (q 0) (q 6)<lo2 (q 1) (q 7)/\hi2 (q 2) (q 8)<lo2 (q 3) (q 9)/\hi2 (q 4) (q 10)<lo2 (q 5) (q 11));simp only[Nat.reduceMul,Nat.reduceAdd] at h i j⊢;rw[h,i,j];constructor
 ·rintro⟨⟨⟨a,b⟩,c,d⟩,e,f⟩;exact⟨⟨a,b⟩,⟨c,d⟩,e,f⟩
 ·rintro⟨⟨a,b⟩,⟨c,d⟩,e,f⟩;exact⟨⟨⟨a,b⟩,c,d⟩,e,f⟩
theorem ykl {x:Nat->List UInt8} {q:Nat->Rat} (g:GoodX x q 3):toB q 3=zt↔leP (hiP ⟨q 0,q 2,q 4⟩ ⟨q 6,q 8,q 10⟩) (loP ⟨q 1,q 3,q 5⟩ ⟨q 7,q 9,q 11⟩):=by
 have h:=yge (g 0 (by omega)).1.lt (g 0 (by omega)).2.lt;have i:=yge (g 1 (by omega)).1.lt (g 1 (by omega)).2.lt;have j:=yge (g 2 (by omega)).1.lt (g 2 (by omega)).2.lt;simp only[toB,Bool.and_eq_true,decide_eq_true_eq,zqf,true_and];show _↔(hi2 (q 0) (q 6)<=lo2 (q 1) (q 7)/\hi2 (q 2) (q 8)<=lo2 (q 3) (q 9)/\hi2 (q 4) (q 10)<=lo2 (q 5) (q 11));simp only[Nat.reduceMul,Nat.reduceAdd] at h i j⊢;rw[h,i,j];constructor
 ·rintro⟨⟨⟨a,b⟩,c,d⟩,e,f⟩;exact⟨⟨a,b⟩,⟨c,d⟩,e,f⟩
 ·rintro⟨⟨a,b⟩,⟨c,d⟩,e,f⟩;exact⟨⟨⟨a,b⟩,c,d⟩,e,f⟩
theorem GoodR.sz {x:Nat->List UInt8} {q:Nat->Rat} {i:Nat} (g:GoodR x q i):sz (q i) 8/\sz (q (i+1)) 8:=
 ⟨z31 (by omega) (by rw[<-g.n1];exact g.l1),z31 (by omega) (by rw[<-g.n2];exact g.l2)⟩
end
section
open Go.RowKit Go.Shelf Lib Str Limb Geo
attribute [local go_sem] Oper.semAt_some
def RowX (x:Nat->List UInt8) (A:Nat) (W:zA):Prop:=W.heap[A]? =zq (zn #[St (x 0),St (x 1),St (x 2),St (x 3),St (x 4),St (x 5),St (x 6),St (x 7),St (x 8),St (x 9),St (x 10),St (x 11)] 27 (0,0))
theorem RowX.at {x:Nat->List UInt8} {a:Nat} {b:zA} (h:RowX x a b):∀i,i<12->b.cell? ⟨a,i,zp⟩=zq (St (x i)):=λi c=>by
 rw[zJ h]
 match i,c with
 |0,_|1,_|2,_|3,_|4,_|5,_|6,_|7,_|8,_|9,_|10,_|11,_=>rfl
theorem RowX.below {x:Nat->List UInt8} {a:Nat} {b c:zA} (h:RowX x a b) (d:qL b c):RowX x a c:=zac d _ _ _ _ h
structure TwoS (w0:zA) (a b c d:List UInt8) (g:Nat) (f:Nat->Bool) (W:zA):Prop where
 bel:qL w0 W
 lai:f 8=zt->W.heap[g]? =zq (zn #[St a,St b,St c,St d] 24 (0,0))
theorem TwoS.step {i:zA} {a b c d:List UInt8} {g:Nat} {f:Nat->Bool} {e:zA} (h:TwoS i a b c d g f e) (k:Nat) (l:k≠8):TwoS i a b c d g (λj=>if k=j then zt else f j) e:=⟨h.bel,by rw[if_neg l];exact h.lai⟩
theorem TwoS.laid {i:zA} {a b c d:List UInt8} {g:Nat} {f:Nat->Bool} {e:zA} (h:TwoS i a b c d g f e) (_:f 8=zu):TwoS i a b c d e.heap.size (λj=>if 8=j then zt else f j) (e.alloc (zn #[St a,St b,St c,St d] 24)):=
 ⟨h.bel.alloc h.bel.size _,λ_=>zG _ _⟩
structure BothX (KA KB:Value->zA->Prop) (w0:zA) (g:SlT×SlT) (f:Nat->Bool) (W:zA):Prop where
 bel:qL w0 W
 s1:f 9=zt->KA (slV g.1) W
 s2:f 19=zt->KB (slV g.2) W
 k1:∀v W W',KA v W->qL W W'->KA v W'
 k2:∀v W W',KB v W->qL W W'->KB v W'
section
variable {KA KB:Value->zA->Prop} {w0:zA} {g:SlT×SlT} {f:Nat->Bool} {W W':zA}
theorem BothX.step (h:BothX KA KB w0 g f W) (k:Nat) (a:(k !=9&&k !=19)=zt):BothX KA KB w0 g (λj=>if k=j then zt else f j) W:=by
 simp only[Bool.and_eq_true,bne_iff_ne,ne_eq] at a;exact⟨h.bel,by rw[if_neg a.1];exact h.s1,by rw[if_neg a.2];exact h.s2,h.k1,h.k2⟩
theorem BothX.next (h:BothX KA KB w0 g f W) (a:qL W W'):BothX KA KB w0 g f W':=⟨h.bel.trans (a.mono h.bel.size),λb=>h.k1 _ _ _ (h.s1 b) a,λb=>h.k2 _ _ _ (h.s2 b) a,h.k1,h.k2⟩
theorem BothX.got1 (h:BothX KA KB w0 g f W) {v:SlT} (a:KA (slV v) W):BothX KA KB w0 (v,g.2) (λj=>if 9=j then zt else f j) W:=⟨h.bel,λ_=>a,h.s2,h.k1,h.k2⟩
theorem BothX.got2 (h:BothX KA KB w0 g f W) {v:SlT} (a:KB (slV v) W):BothX KA KB w0 (g.1,v) (λj=>if 19=j then zt else f j) W:=⟨h.bel,h.s1,λ_=>a,h.k1,h.k2⟩
end
theorem ylf (a b:Int) (W:zA):(Builtin.max_ #[3,3] 3 #[zj zm a,zj zm b]).run zF W=.ok (zj zm (max a b)) W:=by
 have e:max a b=if b>a then b else a:=by split<;>omega
 rw[e];rfl
theorem ydc (x:Nat->List UInt8) (bq:Hid (∀i,(x i).length<=9223372036854775807)) (q:Nat->Rat) (P Q:Value->zA->Prop) (w:zA)
 (bs:Hid (∀v f b,P v f->qL f b->P v b)) (bt:Hid (∀v f b,Q v f->qL f b->Q v b))
 (b3:Hid (∀f:zA,qL w f->qJ 5 #[] f (zg zt)))
 (b6:Hid (∀i (f:zA),qL w f->zC zF 4 #[St (x i),St (x (i+1))] f λe w'=>∃m r:Int,e=zo (ze #[zj zm m,zj zm r])/\zB f.heap.size f w'/\(r=0->x i=numS (q i)/\x (i+1)=numS (q (i+1))/\m=cmpR (q i) (q (i+1)))))
 (al:Hid (∀i j,GoodR x q i->GoodR x q j->∀(f:zA),qL w f->qJ 4 #[St (x i),St (x (j+1))] f (ze #[zj zm (cmpR (q i) (q (j+1))),zj zm 0])))
 (b4:Hid (GoodX x q 3->∀(f:zA),qL w f->zC zF 6 #[zh #[St (x 0),St (x 1)],zh #[St (x 2),St (x 3)],zh #[St (x 4),St (x 5)]] f λe w'=>∃v:SlT,e=zo (slV v)/\zB f.heap.size f w'/\P (slV v) w'))
 (b5:Hid (GoodX x q 3->∀(f:zA),qL w f->zC zF 6 #[zh #[St (x 6),St (x 7)],zh #[St (x 8),St (x 9)],zh #[St (x 10),St (x 11)]] f λe w'=>∃v:SlT,e=zo (slV v)/\zB f.heap.size f w'/\Q (slV v) w'))
 (bg:Hid (GoodX x q 3->∀(f:zA) (u v:SlT),qL w f->P (slV u) f->Q (slV v) f->qJ 7 #[slV u,slV v] f (ze #[zg (ovB q 3),zj zm 0])))
 (bh:Hid (GoodX x q 3->∀(f:zA) (u v:SlT),qL w f->P (slV u) f->Q (slV v) f->qJ 8 #[slV u,slV v] f (ze #[zg (toB q 3&&!ovB q 3),zj zm 0]))):
 qJ 3 #[zh #[St (x 0),St (x 1),St (x 2),St (x 3),St (x 4),St (x 5),St (x 6),St (x 7),St (x 8),St (x 9),St (x 10),St (x 11)]] w (zg zt):=by
 obtain⟨bw,ay⟩:=zzX (w.alloc (zn #[St (x 0),St (x 1),St (x 2),St (x 3),St (x 4),St (x 5),St (x 6),St (x 7),St (x 8),St (x 9),St (x 10),St (x 11)] 27));obtain⟨bj,b1⟩:=hbxU ay;have am:=hid (⟨bj,b1⟩:qL w bw/\RowX x w.heap.size bw);have Z:=hid ay.symm;clear ay bj b1;go_enter Tryz.func3,Tryz.ntmps3;go_wp21;have X:=Z.out;simp only[St] at X;rw[X];clear X Z;go_loopg [3,4,20] 4 (λm E F az wr=>∃c:Nat,c<=3/\3-c<m/\E=zg (ovB q c)/\F=zg (toB q c)/\az=zj zm (c:Int)/\Hid (qL w wr/\RowX x w.heap.size wr/\GoodX x q c))
 case atStart=>exact⟨0,by omega,by omega,rfl,rfl,rfl,hid ⟨am.1,am.2,GoodX.zero x q⟩⟩
 case round=>
  clear am;obtain⟨c,c8,ca,rfl,rfl,rfl,l⟩:=hrel;by_cases hlt:c<3
  ·have cu:decide ((c:Int)<3)=zt:=decide_eq_true (by omega)
   have W:=hid (⟨l.1.trans ((zM _ wr).drew.mono l.1.size),l.2.1.below (zM _ wr).drew,l.2.2⟩:qL w wr.drew/\RowX x w.heap.size wr.drew/\GoodX x q c);have B:=hid (show ∀b,zB wr.drew.heap.size wr.drew b->b.cell? ⟨w.heap.size,c*2,zp⟩=zq (z8 ⟨(x (c*2)).toArray⟩)/\b.cell? ⟨w.heap.size,c*2+1,zp⟩=zq (z8 ⟨(x (c*2+1)).toArray⟩)/\b.cell? ⟨w.heap.size,6+c*2,zp⟩=zq (z8 ⟨(x (6+c*2)).toArray⟩)/\b.cell? ⟨w.heap.size,6+c*2+1,zp⟩=zq (z8 ⟨(x (6+c*2+1)).toArray⟩) from λb k=>
    have a:=W.2.1.below k
    ⟨a.at _ (by omega),a.at _ (by omega),a.at _ (by omega),a.at _ (by omega)⟩)
   clear l;go_wp21;refine zc4 (λ(g:Nat) U=>([zj zm (c:Int),zf (zq ⟨w.heap.size,0,zp⟩),zf (zq ⟨w.heap.size,c*2,zp⟩),zh #[z8 ⟨(x (c*2)).toArray⟩,z8 ⟨(x (c*2+1)).toArray⟩],zj zm (c:Int),zf (zq ⟨w.heap.size,6,zp⟩),zf (zq ⟨w.heap.size,6+c*2,zp⟩),zh #[z8 ⟨(x (6+c*2)).toArray⟩,z8 ⟨(x (6+c*2+1)).toArray⟩],z7 (zq ⟨g,0,zp⟩) 2 2,zj zm 2,zj zm 0]:List Value)[U]?.getD undef) (TwoS wr.drew (x (c*2)) (x (c*2+1)) (x (6+c*2)) (x (6+c*2+1))) (by kernel_rfl) (by kernel_rfl) 0 ⟨zM _ _,λa=>(by cases a)⟩ λg=>?_;refine qB (zj zm (c:Int)) (λd b a=>a.step 0 (by decide)) ?_;refine qB (zf (zq ⟨w.heap.size,0,zp⟩)) (λd b a=>a.step 1 (by decide)) ?_;refine qB (zf (zq ⟨w.heap.size,c*2,zp⟩)) (λd b a=>a.step 2 (by decide)) ?_ (hy:=λd b h a=>by go_simp;try(intro a;omega));simp only[zzQ];refine qB (zh #[z8 ⟨(x (c*2)).toArray⟩,z8 ⟨(x (c*2+1)).toArray⟩]) (λd b a=>a.step 3 (by decide)) ?_ (hy:=λd b h a=>by obtain⟨H,I,a0,a1⟩:=B b a.bel;go_simp);refine qB (zj zm (c:Int)) (λd b a=>a.step 4 (by decide)) ?_;refine qB (zf (zq ⟨w.heap.size,6,zp⟩)) (λd b a=>a.step 5 (by decide)) ?_;simp only[zzQ];refine qB (zf (zq ⟨w.heap.size,6+c*2,zp⟩)) (λd b a=>a.step 6 (by decide)) ?_ (hy:=λd b h a=>by go_simp;try(intro a;omega));refine qB (zh #[z8 ⟨(x (6+c*2)).toArray⟩,z8 ⟨(x (6+c*2+1)).toArray⟩]) (λd b a=>a.step 7 (by decide)) ?_ (hy:=λd b h a=>by obtain⟨H,I,a0,a1⟩:=B b a.bel;go_simp);simp only[zzQ]
   refine zdc (z7 (zq ⟨g,0,zp⟩) 2 2) (by rfl) (by rfl) (λd b h a ab N=>by
    have bm:=h.self;have X:=h.no (j:=9) h.self (by kernel_rfl);go_simp;refine N b.heap.size _ (λj n=>?_) (a.laid bm)
    match j,n with
    |0,_|1,_|2,_|3,_|4,_|5,_|6,_|7,_|10,_=>rfl
    |8,n=>rw[bm] at n;cases n
    |9,_=>rfl
    |_+11,_=>rfl) ?_
   refine qB (zj zm 2) (λd b a=>a.step 9 (by decide)) ?_;refine qB (zj zm 0) (λd b a=>a.step 10 (by decide)) ?_;simp only[zzQ];refine ze1 λd R h a=>?_;have p:=hid (⟨W.1.trans (a.bel.mono W.1.size),W.2.1.below a.bel,W.2.2,a.lai (h 8 (by decide))⟩:qL w R/\RowX x w.heap.size R/\GoodX x q c/\_);clear h a W B;obtain⟨af,rfl⟩:=zzX gk;go_wp21;go_loopg [33] 3 (λm az wr=>∃j:Nat,j<=2/\2-j<m/\az=zj zm (j:Int)/\Hid (qL w wr/\RowX x w.heap.size wr/\GoodX x q c/\wr.heap[g]? =zq (zn #[St (x (c*2)),St (x (c*2+1)),St (x (6+c*2)),St (x (6+c*2+1))] 24 (0,0))/\(1<=j->GoodR x q (c*2))/\(2<=j->GoodR x q (6+c*2))))
   case atStart=>exact⟨0,by omega,by omega,rfl,hid ⟨p.1,p.2.1,p.2.2.1,p.2.2.2,λa=>by omega,λa=>by omega⟩⟩
   case round=>
    clear p;obtain⟨j,n,cb,rfl,l⟩:=hrel;by_cases hlj:j<2
    ·obtain⟨i,bk,c1,bp⟩:∃i,wr.cell? ⟨g,j*2,zp⟩=zq (St (x i))/\wr.cell? ⟨g,j*2+1,zp⟩=zq (St (x (i+1)))/\(GoodR x q i->(1<=j+1->GoodR x q (c*2))/\(2<=j+1->GoodR x q (6+c*2))):=by
      have D:=l.2.2.2.1
      match j,hlj with
      |0,_=>exact⟨c*2,by rw[zJ D];rfl,by rw[zJ D];rfl,λa=>⟨λ_=>a,λe=>by omega⟩⟩
      |1,_=>exact⟨6+c*2,by rw[zJ D];rfl,by rw[zJ D];rfl,λa=>⟨λ_=>l.2.2.2.2.1 (by omega),λ_=>a⟩⟩
     obtain⟨K,aw⟩:=zzX (⟨(x i).toArray⟩:ByteArray);obtain⟨J,av⟩:=zzX (⟨(x (i+1)).toArray⟩:ByteArray);have bv:K.size=(x i).length:=by rw[aw];simp[ByteArray.size]
     have bu:J.size=(x (i+1)).length:=by rw[av];simp[ByteArray.size]
     have ac:=hid (b6 i);rw[show St (x i)=z8 K by rw[aw]] at bk ac;rw[show St (x (i+1))=z8 J by rw[av]] at c1 ac;obtain⟨b0,ai⟩:=zzX (wr.alloc (zn #[z8 K,z8 J] 24));obtain⟨b2,ak⟩:=hbxU ai;obtain⟨H,I⟩:=zho ak;have z:=hid (⟨l.1.trans (b2.mono l.1.size),l.2.1.below b2,l.2.2.1,zac b2 _ _ _ _ l.2.2.2.1,bp,bv,bu,ak⟩:qL w b0/\RowX x w.heap.size b0/\GoodX x q c/\_/\_/\_/\_/\_);have Z:=hid ai.symm;rw[ai] at H I;have cg:=bq i;have cf:=bq (i+1);have cn:=hid (⟨by omega,by omega⟩:(K.size:Int)<=9223372036854775807/\(J.size:Int)<=9223372036854775807);clear aw av bv bu ai b2 ak bp l cg cf;go_wp21;rw[Z.out];clear Z H I bk c1;refine(ac b0 z.1).mono ?_;rintro e V ⟨a',r,rfl,k,bn⟩;obtain⟨H,I⟩:=zho (zac k _ _ _ _ z.2.2.2.2.2.2.2);have o:=hid (⟨z.1.trans (k.mono z.1.size),z.2.1.below k,z.2.2.1,zac k _ _ _ _ z.2.2.2.1,z.2.2.2.2.1,z.2.2.2.2.2.1,z.2.2.2.2.2.2.1,bn⟩:qL w V/\RowX x w.heap.size V/\GoodX x q c/\_/\_/\_/\_/\_);clear k bn z ac;have br:qJ 5 #[] V (zg zt):=b3 V o.1;have G:=hid br;clear br;by_cases hr:r=0
     ·subst hr
      by_cases hn:a'<0
      ·have ce:decide (0<=a')=zu:=decide_eq_false (by omega)
       have aq:=hid hn;have cz:∀f:zA,(Builtin.max_ #[3,3] 3 #[zj zm (K.size:Int),zj zm (J.size:Int)]).run zF f=.ok (zj zm (max (K.size:Int) (J.size:Int))) f:=λf=>ylf _ _ f;clear hn;by_cases hl8:max (K.size:Int) (J.size:Int)<=8
       ·have c9:decide (8<max (K.size:Int) (J.size:Int))=zu:=decide_eq_false (by omega)
        have bz:=hid (show qL w V/\RowX x w.heap.size V/\GoodX x q c/\V.heap[g]? =zq (zn #[St (x (c*2)),St (x (c*2+1)),St (x (6+c*2)),St (x (6+c*2+1))] 24 (0,0))/\(1<=j+1->GoodR x q (c*2))/\(2<=j+1->GoodR x q (6+c*2)) by
         obtain⟨ci,cj,ck,cl,bx,d0,d1,cm⟩:=o.out;obtain⟨L,M,S⟩:=cm rfl;have bo:=aq.out;rw[S,ydb] at bo;have bl:GoodR x q i:=⟨L,M,by omega,by omega,bo⟩;exact⟨ci,cj,ck,cl,(bx bl).1,(bx bl).2⟩)
        clear o G aq hl8;go_wp21;go_roundg (gk-1)
        case measure=>omega
        case rel=>exact⟨j+1,by omega,by omega,by go_num,bz⟩
       ·have c9:decide (8<max (K.size:Int) (J.size:Int))=zt:=decide_eq_true (by omega)
        clear hl8 aq;go_wp21;refine zzM G.out λaj k=>?_;have Y:=hid (o.1.trans (k.mono o.1.size));clear k o G;go_wp21;go_ret;exact⟨rfl,Y.out⟩
      ·have ce:decide (0<=a')=zt:=decide_eq_true (by omega)
       clear hn;go_wp21;refine zzM G.out λaj k=>?_;have Y:=hid (o.1.trans (k.mono o.1.size));clear k o G;go_wp21;go_ret;exact⟨rfl,Y.out⟩
     ·have cy:(r==0)=zu:=by simpa using hr
      go_wp21;refine zzM G.out λaj k=>?_;have Y:=hid (o.1.trans (k.mono o.1.size));clear k o G;go_wp21;go_ret;exact⟨rfl,Y.out⟩
    ·obtain rfl:j=2:=by omega
     have ad:=l.2.2.2.2.1 (by omega);have ae:=l.2.2.2.2.2 (by omega);have y:=hid (⟨l.1.trans ((zM _ wr).drew.mono l.1.size),l.2.1.below (zM _ wr).drew,l.2.2.1.next ad ae⟩:qL w wr.drew/\RowX x w.heap.size wr.drew/\GoodX x q (c+1));obtain⟨s,ag⟩:=zzX (cmpR (q (c*2)) (q (6+c*2+1)));obtain⟨t,ah⟩:=zzX (cmpR (q (6+c*2)) (q (c*2+1)));have bb:=hid (⟨by rw[ag,ah];rfl,by rw[ag,ah];rfl⟩:ovB q (c+1)=(ovB q c&&(decide (s<0)&&decide (t<0)))/\toB q (c+1)=(toB q c&&(decide (s<=0)&&decide (t<=0))));have ap:=hid (show ∀f,qL w f->_ from al (6+c*2) (c*2) ae ad);have ao:=hid (show ∀f,qL w f->_ from al (c*2) (6+c*2) ad ae);rw[<-ag] at ao;rw[<-ah] at ap;have bd:=hid λ(b:zA) (a:zB wr.drew.heap.size wr.drew b)=>ao b (y.1.trans (a.mono y.1.size));have B:=hid (show ∀b,zB wr.drew.heap.size wr.drew b->b.cell? ⟨w.heap.size,c*2,zp⟩=zq (z8 ⟨(x (c*2)).toArray⟩)/\b.cell? ⟨w.heap.size,c*2+1,zp⟩=zq (z8 ⟨(x (c*2+1)).toArray⟩)/\b.cell? ⟨w.heap.size,6+c*2,zp⟩=zq (z8 ⟨(x (6+c*2)).toArray⟩)/\b.cell? ⟨w.heap.size,6+c*2+1,zp⟩=zq (z8 ⟨(x (6+c*2+1)).toArray⟩) from λb k=>
      have a:=y.2.1.below k
      ⟨a.at _ (by omega),a.at _ (by omega),a.at _ (by omega),a.at _ (by omega)⟩)
     clear l ao ag ah ad ae hlj n cb;go_wp21;refine zc4 (λ(_:Unit) U=>([zj zm (c:Int),zf (zq ⟨w.heap.size,0,zp⟩),zf (zq ⟨w.heap.size,c*2,zp⟩),zf (zq ⟨w.heap.size,c*2,zp⟩),z8 ⟨(x (c*2)).toArray⟩,zj zm (c:Int),zf (zq ⟨w.heap.size,6,zp⟩),zf (zq ⟨w.heap.size,6+c*2,zp⟩),zf (zq ⟨w.heap.size,6+c*2+1,zp⟩),z8 ⟨(x (6+c*2+1)).toArray⟩,ze #[zj zm (s),zj zm 0],ze #[zj zm (s),zj zm 0],zj zm (s),zj zm 0,zj zm (s),zj zm 0]:List Value)[U]?.getD undef) (λ_ _ f=>zB wr.drew.heap.size wr.drew f) (by kernel_rfl) (by kernel_rfl) () (zM _ _) λc4=>?_;refine qB (zj zm (c:Int)) (λd b a=>a) ?_;refine qB (zf (zq ⟨w.heap.size,0,zp⟩)) (λd b a=>a) ?_;refine qB (zf (zq ⟨w.heap.size,c*2,zp⟩)) (λd b a=>a) ?_ (hy:=λd b h a=>by go_simp;try(intro a;omega));simp only[zzQ];refine qB (zf (zq ⟨w.heap.size,c*2,zp⟩)) (λd b a=>a) ?_;refine qB (z8 ⟨(x (c*2)).toArray⟩) (λd b a=>a) ?_ (hy:=λd b h a=>by obtain⟨H,I,a0,a1⟩:=B b a;go_simp);refine qB (zj zm (c:Int)) (λd b a=>a) ?_;simp only[zzQ];refine qB (zf (zq ⟨w.heap.size,6,zp⟩)) (λd b a=>a) ?_;refine qB (zf (zq ⟨w.heap.size,6+c*2,zp⟩)) (λd b a=>a) ?_ (hy:=λd b h a=>by go_simp;try(intro a;omega));refine qB (zf (zq ⟨w.heap.size,6+c*2+1,zp⟩)) (λd b a=>a) ?_
     simp only[zzQ];refine qB (z8 ⟨(x (6+c*2+1)).toArray⟩) (λd b a=>a) ?_ (hy:=λd b h a=>by obtain⟨H,I,a0,a1⟩:=B b a;go_simp);simp only[zzQ]
     refine zbv (ze #[zj zm (s),zj zm 0]) (by rfl) (by rfl) (λd b h a ab N=>by
      have T:=bd b a;go_simp;refine zzM T λw' k=>?_;exact⟨_,rfl,N _ (a.trans (k.mono a.size))⟩) ?_
     refine qB (ze #[zj zm (s),zj zm 0]) (λd b a=>a) ?_;refine qB (zj zm (s)) (λd b a=>a) ?_;simp only[zzQ];refine qB (zj zm 0) (λd b a=>a) ?_;refine qB (zj zm (s)) (λd b a=>a) ?_;refine qB (zj zm 0) (λd b a=>a) ?_;simp only[zzQ];refine ze1 λd C h a=>?_;have A:=hid (⟨y.1.trans ((a.trans ((zM _ C).drew.mono a.size)).mono y.1.size),y.2.1.below (a.trans ((zM _ C).drew.mono a.size)),y.2.2⟩:qL w C.drew/\RowX x w.heap.size C.drew/\GoodX x q (c+1));have be:=hid λ(b:zA) (a:zB C.drew.heap.size C.drew b)=>ap b (A.1.trans (a.mono A.1.size));clear B;have B:=hid (show ∀b,zB C.drew.heap.size C.drew b->b.cell? ⟨w.heap.size,c*2,zp⟩=zq (z8 ⟨(x (c*2)).toArray⟩)/\b.cell? ⟨w.heap.size,c*2+1,zp⟩=zq (z8 ⟨(x (c*2+1)).toArray⟩)/\b.cell? ⟨w.heap.size,6+c*2,zp⟩=zq (z8 ⟨(x (6+c*2)).toArray⟩)/\b.cell? ⟨w.heap.size,6+c*2+1,zp⟩=zq (z8 ⟨(x (6+c*2+1)).toArray⟩) from λb k=>
      have a:=A.2.1.below k
      ⟨a.at _ (by omega),a.at _ (by omega),a.at _ (by omega),a.at _ (by omega)⟩)
     clear h a y bd ap;go_wp21;refine zc4 (λ(_:Unit) U=>([zj zm (c:Int),zf (zq ⟨w.heap.size,6,zp⟩),zf (zq ⟨w.heap.size,6+c*2,zp⟩),zf (zq ⟨w.heap.size,6+c*2,zp⟩),z8 ⟨(x (6+c*2)).toArray⟩,zj zm (c:Int),zf (zq ⟨w.heap.size,0,zp⟩),zf (zq ⟨w.heap.size,c*2,zp⟩),zf (zq ⟨w.heap.size,c*2+1,zp⟩),z8 ⟨(x (c*2+1)).toArray⟩,ze #[zj zm (t),zj zm 0],ze #[zj zm (t),zj zm 0],zj zm (t),zj zm 0,zj zm (t),zj zm 0]:List Value)[U]?.getD undef) (λ_ _ f=>zB C.drew.heap.size C.drew f) (by kernel_rfl) (by kernel_rfl) () (zM _ _) λc4=>?_;refine qB (zj zm (c:Int)) (λd b a=>a) ?_;refine qB (zf (zq ⟨w.heap.size,6,zp⟩)) (λd b a=>a) ?_;refine qB (zf (zq ⟨w.heap.size,6+c*2,zp⟩)) (λd b a=>a) ?_ (hy:=λd b h a=>by go_simp;try(intro a;omega));simp only[zzQ];refine qB (zf (zq ⟨w.heap.size,6+c*2,zp⟩)) (λd b a=>a) ?_;refine qB (z8 ⟨(x (6+c*2)).toArray⟩) (λd b a=>a) ?_ (hy:=λd b h a=>by obtain⟨H,I,a0,a1⟩:=B b a;go_simp);refine qB (zj zm (c:Int)) (λd b a=>a) ?_;simp only[zzQ];refine qB (zf (zq ⟨w.heap.size,0,zp⟩)) (λd b a=>a) ?_;refine qB (zf (zq ⟨w.heap.size,c*2,zp⟩)) (λd b a=>a) ?_ (hy:=λd b h a=>by go_simp;try(intro a;omega));refine qB (zf (zq ⟨w.heap.size,c*2+1,zp⟩)) (λd b a=>a) ?_;simp only[zzQ]
     refine qB (z8 ⟨(x (c*2+1)).toArray⟩) (λd b a=>a) ?_ (hy:=λd b h a=>by obtain⟨H,I,a0,a1⟩:=B b a;go_simp);simp only[zzQ]
     refine zbv (ze #[zj zm (t),zj zm 0]) (by rfl) (by rfl) (λd b h a ab N=>by
      have T:=be b a;go_simp;refine zzM T λw' k=>?_;exact⟨_,rfl,N _ (a.trans (k.mono a.size))⟩) ?_
     refine qB (ze #[zj zm (t),zj zm 0]) (λd b a=>a) ?_;refine qB (zj zm (t)) (λd b a=>a) ?_;simp only[zzQ];refine qB (zj zm 0) (λd b a=>a) ?_;refine qB (zj zm (t)) (λd b a=>a) ?_;refine qB (zj zm 0) (λd b a=>a) ?_;simp only[zzQ];refine ze1 λd bi h a=>?_;have an:=hid (⟨A.1.trans (a.mono A.1.size),A.2.1.below a,A.2.2⟩:qL w bi/\RowX x w.heap.size bi/\GoodX x q (c+1));clear h a A be B;have b9:=hid (show ∀E F:Bool,ovB q c=E->toB q c=F->ovB q (c+1)=(E&&(decide (s<0)&&decide (t<0)))/\toB q (c+1)=(F&&(decide (s<=0)&&decide (t<=0))) from λE F L M=>by rw[<-L,<-M];exact bb.out);clear bb;have cx:zm.wrap ((c:Int)+1)=((c+1:Nat):Int):=by rw[zI _ ⟨by omega,by omega⟩];omega
     generalize c2:ovB q c=E at*
     generalize c3:toB q c=F at*
     have ba:=hid (b9 E F rfl rfl);clear b9 c2 c3;generalize cq:decide (s<0)=b' at*
     generalize cr:decide (s<=0)=c0 at*
     generalize cs:decide (t<0)=co at*
     generalize ct:decide (t<=0)=cp at*
     have cc:3-(c+1)<af-1:=by omega
     have cd:af-1<af:=by omega
     cases E<;>cases F<;>cases b'<;>cases c0
     all_goals
      go_wp21;go_roundg (af-1)
     all_goals first|exact cd|exact⟨c+1,by omega,cc,by rw[ba.1];simp,by rw[ba.2];simp,by go_num,an⟩
  ·obtain rfl:c=3:=by omega
   have O:=hid (show ∀b,zB wr.drew.heap.size wr.drew b->b.cell? ⟨w.heap.size,0,zp⟩=zq (z8 ⟨(x 0).toArray⟩)/\b.cell? ⟨w.heap.size,1,zp⟩=zq (z8 ⟨(x 1).toArray⟩)/\b.cell? ⟨w.heap.size,2,zp⟩=zq (z8 ⟨(x 2).toArray⟩)/\b.cell? ⟨w.heap.size,3,zp⟩=zq (z8 ⟨(x 3).toArray⟩)/\
    b.cell? ⟨w.heap.size,4,zp⟩=zq (z8 ⟨(x 4).toArray⟩)/\b.cell? ⟨w.heap.size,5,zp⟩=zq (z8 ⟨(x 5).toArray⟩)/\b.cell? ⟨w.heap.size,6,zp⟩=zq (z8 ⟨(x 6).toArray⟩)/\b.cell? ⟨w.heap.size,7,zp⟩=zq (z8 ⟨(x 7).toArray⟩)/\
    b.cell? ⟨w.heap.size,8,zp⟩=zq (z8 ⟨(x 8).toArray⟩)/\b.cell? ⟨w.heap.size,9,zp⟩=zq (z8 ⟨(x 9).toArray⟩)/\b.cell? ⟨w.heap.size,10,zp⟩=zq (z8 ⟨(x 10).toArray⟩)/\b.cell? ⟨w.heap.size,11,zp⟩=zq (z8 ⟨(x 11).toArray⟩) from λb k=>by
    have a:=(l.2.1.below (zM _ wr).drew).below k;exact⟨a.at 0 (by omega),a.at 1 (by omega),a.at 2 (by omega),a.at 3 (by omega),a.at 4 (by omega),a.at 5 (by omega),a.at 6 (by omega),a.at 7 (by omega),a.at 8 (by omega),a.at 9 (by omega),a.at 10 (by omega),a.at 11 (by omega)⟩)
   have D:=l.2.2;have o:=hid (l.1.trans ((zM _ wr).drew.mono l.1.size));have b7:=hid λ(b:zA) (a:zB wr.drew.heap.size wr.drew b)=>b4 D b (o.trans (a.mono o.size));have b8:=hid λ(b:zA) (a:zB wr.drew.heap.size wr.drew b)=>b5 D b (o.trans (a.mono o.size));have bc:=hid (bg D);have bf:=hid (bh D);clear D l b4 b5 bg bh b6 al c8 ca;go_wp21;refine zc4 (λ(g:SlT×SlT) U=>([zf (zq ⟨w.heap.size,0,zp⟩),zf (zq ⟨w.heap.size,0,zp⟩),zh #[z8 ⟨(x 0).toArray⟩,z8 ⟨(x 1).toArray⟩],zf (zq ⟨w.heap.size,0,zp⟩),zf (zq ⟨w.heap.size,2,zp⟩),zh #[z8 ⟨(x 2).toArray⟩,z8 ⟨(x 3).toArray⟩],zf (zq ⟨w.heap.size,0,zp⟩),zf (zq ⟨w.heap.size,4,zp⟩),zh #[z8 ⟨(x 4).toArray⟩,z8 ⟨(x 5).toArray⟩],z7 g.1.1 g.1.2.1 g.1.2.2,zf (zq ⟨w.heap.size,6,zp⟩),zf (zq ⟨w.heap.size,6,zp⟩),zh #[z8 ⟨(x 6).toArray⟩,z8 ⟨(x 7).toArray⟩],zf (zq ⟨w.heap.size,6,zp⟩),zf (zq ⟨w.heap.size,8,zp⟩),zh #[z8 ⟨(x 8).toArray⟩,z8 ⟨(x 9).toArray⟩],zf (zq ⟨w.heap.size,6,zp⟩),zf (zq ⟨w.heap.size,10,zp⟩),zh #[z8 ⟨(x 10).toArray⟩,z8 ⟨(x 11).toArray⟩],z7 g.2.1 g.2.2.1 g.2.2.2,z7 g.1.1 g.1.2.1 g.1.2.2,z7 g.2.1 g.2.2.1 g.2.2.2]:List Value)[U]?.getD undef) (BothX P Q wr.drew) (by kernel_rfl) (by kernel_rfl) ((zp,0,0),(zp,0,0)) ⟨zM _ _,λa=>(by cases a),λa=>(by cases a),bs.out,bt.out⟩ λg=>?_
   refine qB (zf (zq ⟨w.heap.size,0,zp⟩)) (λd b a=>a.step 0 (by decide)) ?_;refine qB (zf (zq ⟨w.heap.size,0,zp⟩)) (λd b a=>a.step 1 (by decide)) ?_;refine qB (zh #[z8 ⟨(x 0).toArray⟩,z8 ⟨(x 1).toArray⟩]) (λd b a=>a.step 2 (by decide)) ?_ (hy:=λd b h a=>by obtain⟨a2,L,M,S,a5,a6,a7,a8,a9,aa,a3,a4⟩:=O b a.bel;go_simp);simp only[zzQ];refine qB (zf (zq ⟨w.heap.size,0,zp⟩)) (λd b a=>a.step 3 (by decide)) ?_;refine qB (zf (zq ⟨w.heap.size,2,zp⟩)) (λd b a=>a.step 4 (by decide)) ?_;refine qB (zh #[z8 ⟨(x 2).toArray⟩,z8 ⟨(x 3).toArray⟩]) (λd b a=>a.step 5 (by decide)) ?_ (hy:=λd b h a=>by obtain⟨a2,L,M,S,a5,a6,a7,a8,a9,aa,a3,a4⟩:=O b a.bel;go_simp);simp only[zzQ];refine qB (zf (zq ⟨w.heap.size,0,zp⟩)) (λd b a=>a.step 6 (by decide)) ?_;refine qB (zf (zq ⟨w.heap.size,4,zp⟩)) (λd b a=>a.step 7 (by decide)) ?_;refine qB (zh #[z8 ⟨(x 4).toArray⟩,z8 ⟨(x 5).toArray⟩]) (λd b a=>a.step 8 (by decide)) ?_ (hy:=λd b h a=>by obtain⟨a2,L,M,S,a5,a6,a7,a8,a9,aa,a3,a4⟩:=O b a.bel;go_simp);simp only[zzQ]
   refine zdc (z7 g.1.1 g.1.2.1 g.1.2.2) (by rfl) (by rfl) (λd b h a ab N=>by
    have X:=h.self;have c6:=h.no (j:=20) h.self (by kernel_rfl);have T:=b7 b a.bel;go_simp;refine T.mono ?_;rintro e w' ⟨v,rfl,k,ax⟩;refine⟨_,rfl,N (v,g.2) w' (λj n=>?_) ((a.next k).got1 ax)⟩
    match j,n with
    |0,_|1,_|2,_|3,_|4,_|5,_|6,_|7,_|8,_|10,_|11,_|12,_|13,_|14,_|15,_|16,_|17,_|18,_|19,_|21,_=>rfl
    |9,n=>rw[X] at n;cases n
    |20,n=>rw[c6] at n;cases n
    |_+22,_=>rfl) ?_
   refine qB (zf (zq ⟨w.heap.size,6,zp⟩)) (λd b a=>a.step 10 (by decide)) ?_;refine qB (zf (zq ⟨w.heap.size,6,zp⟩)) (λd b a=>a.step 11 (by decide)) ?_;simp only[zzQ];refine qB (zh #[z8 ⟨(x 6).toArray⟩,z8 ⟨(x 7).toArray⟩]) (λd b a=>a.step 12 (by decide)) ?_ (hy:=λd b h a=>by obtain⟨a2,L,M,S,a5,a6,a7,a8,a9,aa,a3,a4⟩:=O b a.bel;go_simp);refine qB (zf (zq ⟨w.heap.size,6,zp⟩)) (λd b a=>a.step 13 (by decide)) ?_;refine qB (zf (zq ⟨w.heap.size,8,zp⟩)) (λd b a=>a.step 14 (by decide)) ?_;simp only[zzQ];refine qB (zh #[z8 ⟨(x 8).toArray⟩,z8 ⟨(x 9).toArray⟩]) (λd b a=>a.step 15 (by decide)) ?_ (hy:=λd b h a=>by obtain⟨a2,L,M,S,a5,a6,a7,a8,a9,aa,a3,a4⟩:=O b a.bel;go_simp);refine qB (zf (zq ⟨w.heap.size,6,zp⟩)) (λd b a=>a.step 16 (by decide)) ?_;refine qB (zf (zq ⟨w.heap.size,10,zp⟩)) (λd b a=>a.step 17 (by decide)) ?_;simp only[zzQ];refine qB (zh #[z8 ⟨(x 10).toArray⟩,z8 ⟨(x 11).toArray⟩]) (λd b a=>a.step 18 (by decide)) ?_ (hy:=λd b h a=>by obtain⟨a2,L,M,S,a5,a6,a7,a8,a9,aa,a3,a4⟩:=O b a.bel;go_simp);simp only[zzQ]
   refine zdc (z7 g.2.1 g.2.2.1 g.2.2.2) (by rfl) (by rfl) (λd b h a ab N=>by
    have c5:=h.self;have c7:=h.no (j:=21) h.self (by kernel_rfl);have T:=b8 b a.bel;go_simp;refine T.mono ?_;rintro e w' ⟨v,rfl,k,ax⟩;refine⟨_,rfl,N (g.1,v) w' (λj n=>?_) ((a.next k).got2 ax)⟩
    match j,n with
    |0,_|1,_|2,_|3,_|4,_|5,_|6,_|7,_|8,_|9,_|10,_|11,_|12,_|13,_|14,_|15,_|16,_|17,_|18,_|20,_=>rfl
    |19,n=>rw[c5] at n;cases n
    |21,n=>rw[c7] at n;cases n
    |_+22,_=>rfl) ?_
   refine qB (z7 g.1.1 g.1.2.1 g.1.2.2) (λd b a=>a.step 20 (by decide)) ?_;refine qB (z7 g.2.1 g.2.2.1 g.2.2.2) (λd b a=>a.step 21 (by decide)) ?_;simp only[zzQ];refine ze1 λd R h a=>?_;have p:=hid (⟨o.trans (a.bel.mono o.size),a.s1 (h 9 (by decide)),a.s2 (h 19 (by decide))⟩:qL w R/\P (slV g.1) R/\Q (slV g.2) R);clear h a o O b7 b8;obtain⟨u,cv⟩:=zzX g.1;obtain⟨v,cw⟩:=zzX g.2;have ar:=hid (bc R g.1 g.2 p.1 p.2.1 p.2.2);simp only[slV] at ar;go_wp21;refine zzM ar.out λaj k=>?_;have y:=hid (p.1.trans (k.mono p.1.size));have au:=hid (bf aj g.1 g.2 y (bs _ _ _ p.2.1 k) (bt _ _ _ p.2.2 k));simp only[slV] at au;clear k p ar bc bf;go_wp21;refine zzM au.out λch k=>?_;have A:=qT y k;have G:=hid (b3 ch A.out);clear k y au;generalize ovB q 3=E at*
   generalize toB q 3=F at*
   cases E<;>cases F
   all_goals
    go_wp21;refine zzM G.out λc' k=>?_;have an:=qT A k;clear k;go_wp21;go_ret;exact⟨rfl,an.out⟩
end
section
open Go.RowKit Go.Shelf Lib Str Limb
attribute [local go_sem] Oper.semAt_some
def SumB (A:Nat) (tot:Value) (W:zA):Prop:=W.heap[A]? =zq (zn #[tot,zj zm 0] 114 (0,0))
theorem SumB.below {a:Nat} {d:Value} {b c:zA} (h:SumB a d b) (e:qL b c):SumB a d c:=zac e _ _ _ _ h
theorem SumB.at {a:Nat} {c:Value} {b:zA} (h:SumB a c b):b.cell? ⟨a,0,zp⟩=zq c/\b.cell? ⟨a,1,zp⟩=zq (zj zm 0)/\b.frozen? ⟨a,0,zp⟩=zu/\b.frozen? ⟨a,1,zp⟩=zu:=
 ⟨by rw[zJ h];rfl,by rw[zJ h];rfl,by simp[World.frozen?,show b.heap[a]? =_ from h],by simp[World.frozen?,show b.heap[a]? =_ from h]⟩
theorem SumB.same {b:Nat} {d:Value} {a:zA} (h:SumB b d a):qL a (a.setCell ⟨b,1,zp⟩ (zj zm 0)):=by
 refine⟨rfl,rfl,rfl,by simp,λc f=>?_⟩;by_cases e:c=b
 ·subst e
  have:=zK (i:=1) h (zj zm 0);rw[this];exact(show a.heap[c]? =_ from h).symm
 ·exact Below.heap_setCell _ _ _ _ e
theorem zlh (a:Nat) (e:Value) (p:Option Addr) (n c:Nat) (w:zA) (h:SumB a e w):qJ 91 #[zf (zq ⟨a,0,zp⟩),z7 p n c,zj zm 0] w (z7 p n c):=by
 obtain⟨d,c1,z0,z1⟩:=h.at
 have b:=hid h.same;clear h d z0;go_enter Tryz.func91,Tryz.ntmps91;go_wp21;go_ret;exact⟨rfl,b.out⟩
theorem yhu (f:Nat) (q u v:Value) (R:Value->zA->Prop) (w:zA) (h:SumB f q w) (r:isSl u) (s:isSl v) (i:Hid (∀x a m,R x a->qL a m->R x m))
 (l:Hid (∀a:zA,qL w a->zC zF 93 #[u,v] a λe w'=>∃p n c,e=zo (ze #[z7 p n c,zj zm 0])/\zB a.heap.size a w'/\R (z7 p n c) w')):
 zC zF 59 #[zf (zq ⟨f,0,zp⟩),u,v] w λe w'=>∃p n c,e=zo (z7 p n c)/\zB w.heap.size w w'/\R (z7 p n c) w':=by
 obtain⟨C,A,y,rfl⟩:=r;obtain⟨D,B,z,rfl⟩:=s;obtain⟨-,c1, -, -⟩:=h.at
 have j:=hid h;clear h;go_enter Tryz.func59,Tryz.ntmps59;go_wp21;clear c1;refine(l w (zM _ _)).mono ?_;rintro e t ⟨p,n,c,rfl,b,o⟩;have d:=hid (⟨b,o⟩:_/\_);have k:=hid (zlh f q p n c t (j.below b));clear b o l j;go_wp21;refine zzM k.out λE b=>?_;have g:=hid (⟨d.1.trans (b.mono d.1.size),i _ _ _ d.2 b⟩:_/\_);clear b d k i;go_wp21;go_ret;exact⟨_,_,_,rfl,g.1,g.2⟩
theorem yhv (f:Nat) (q u v:Value) (R:Value->zA->Prop) (w:zA) (h:SumB f q w) (r:isSl u) (s:isSl v) (i:Hid (∀x a m,R x a->qL a m->R x m))
 (l:Hid (∀a:zA,qL w a->zC zF 125 #[u,v] a λe w'=>∃p n c,e=zo (ze #[z7 p n c,zj zm 0])/\zB a.heap.size a w'/\R (z7 p n c) w')):
 zC zF 94 #[zf (zq ⟨f,0,zp⟩),u,v] w λe w'=>∃p n c,e=zo (z7 p n c)/\zB w.heap.size w w'/\R (z7 p n c) w':=by
 obtain⟨C,A,y,rfl⟩:=r;obtain⟨D,B,z,rfl⟩:=s;obtain⟨-,c1, -, -⟩:=h.at
 have j:=hid h;clear h;go_enter Tryz.func94,Tryz.ntmps94;go_wp21;clear c1;refine(l w (zM _ _)).mono ?_;rintro e t ⟨p,n,c,rfl,b,o⟩;have d:=hid (⟨b,o⟩:_/\_);have k:=hid (zlh f q p n c t (j.below b));clear b o l j;go_wp21;refine zzM k.out λE b=>?_;have g:=hid (⟨d.1.trans (b.mono d.1.size),i _ _ _ d.2 b⟩:_/\_);clear b d k i;go_wp21;go_ret;exact⟨_,_,_,rfl,g.1,g.2⟩
theorem yee (f:Nat) (q u:Value) (x:ByteArray) (R:Value->zA->Prop) (w:zA) (h:SumB f q w) (r:isSl u) (i:Hid (∀x a m,R x a->qL a m->R x m))
 (l:Hid (∀a:zA,qL w a->zC zF 134 #[u,z8 x] a λe w'=>∃p n c,e=zo (ze #[z7 p n c,zj zm 0])/\zB a.heap.size a w'/\R (z7 p n c) w')):
 zC zF 95 #[zf (zq ⟨f,0,zp⟩),u,z8 x] w λe w'=>∃p n c,e=zo (z7 p n c)/\zB w.heap.size w w'/\R (z7 p n c) w':=by
 obtain⟨y,v,t,rfl⟩:=r;obtain⟨-,c1, -, -⟩:=h.at
 have j:=hid h;clear h;go_enter Tryz.func95,Tryz.ntmps95;go_wp21;clear c1;refine(l w (zM _ _)).mono ?_;rintro e s ⟨p,n,c,rfl,b,o⟩;have d:=hid (⟨b,o⟩:_/\_);have k:=hid (zlh f q p n c s (j.below b));clear b o l j;go_wp21;refine zzM k.out λz b=>?_;have g:=hid (⟨d.1.trans (b.mono d.1.size),i _ _ _ d.2 b⟩:_/\_);clear b d k i;go_wp21;go_ret;exact⟨_,_,_,rfl,g.1,g.2⟩
theorem yhw (b:Nat) (p:Option Addr) (n c:Nat) (x:ByteArray) (R:Value->zA->Prop) (w:zA) (h:SumB b (z7 p n c) w)
 (i:Hid (∀a:zA,qL w a->zC zF 95 #[zf (zq ⟨b,0,zp⟩),z7 p n c,z8 x] a λe w'=>∃q m k,e=zo (z7 q m k)/\zB a.heap.size a w'/\R (z7 q m k) w')):
 zC zF 61 #[zf (zq ⟨b,0,zp⟩),z8 x] w λe w'=>∃q m k,e=zo (ze #[z7 q m k,zj zm 0])/\zB w.heap.size w w'/\R (z7 q m k) w':=by
 obtain⟨l, -, -, -⟩:=h.at
 have g:=hid h;clear h;go_enter Tryz.func61,Tryz.ntmps61;go_wp21;clear l;refine(i w (zM _ _)).mono ?_;rintro e o ⟨q,m,k,rfl,d,j⟩;have f:=hid (⟨d,j⟩:_/\_);obtain⟨-,c1, -, -⟩:=(g.below d).at
 clear d j i g;go_wp21;go_ret2;exact⟨_,_,_,rfl,f.1,f.2⟩
theorem yhx (d:Nat) (p q:Option Addr) (n m c k:Nat) (R:Value->zA->Prop) (w:zA) (h:SumB d (z7 p n c) w) (s:Hid (∀x b u,R x b->qL b u->R x u))
 (o:Hid (∀b:zA,qL w b->zC zF 92 #[z7 p n c,z7 q m k] b λe w'=>∃p n c,e=zo (ze #[z7 p n c,zj zm 0])/\zB b.heap.size b w'/\R (z7 p n c) w')):
 zC zF 58 #[zf (zq ⟨d,0,zp⟩),z7 q m k] w λe w'=>∃v V r,e=zo r/\zB w.heap.size w V/\R v V/\isSl v/\w'=V.setCell ⟨d,0,zp⟩ v/\SumB d (z7 p n c) V/\SumB d v w':=by
 obtain⟨z,c1, -, -⟩:=h.at
 have l:=hid h;clear h;go_enter Tryz.func58,Tryz.ntmps58;go_wp21;clear z c1;refine(o w (zM _ _)).mono ?_;rintro e D ⟨C,B,y,rfl,a,A⟩;have f:=hid (⟨a,A,l.below a⟩:_/\_/\_);have t:=hid (zlh d _ C B y D (l.below a));clear a A o l;go_wp21;refine zzM t.out λE a=>?_;have j:=f.2.2.below a;obtain⟨z, -,z0, -⟩:=j.at
 have g:=hid (⟨f.1.trans (a.mono f.1.size),s _ _ _ f.2.1 a,j,zK (i:=0) j (z7 C B y)⟩:_/\_/\_/\_);clear a f t s j;go_wp21;go_end0;exact⟨_,_,_,rfl,g.1,g.2.1,⟨_,_,_,rfl⟩,rfl,g.2.2.1,g.2.2.2⟩
structure CrzS (w0:zA) (R:Value->zA->Prop) (g:SlT) (f:Nat->Bool) (W:zA):Prop where
 bel:qL w0 W
 res:f 7=zt->R (slV g) W
theorem CrzS.step {b:zA} {R:Value->zA->Prop} {g:SlT} {f:Nat->Bool} {a:zA} (h:CrzS b R g f a) (k:Nat) (c:k≠7):CrzS b R g (λj=>if k=j then zt else f j) a:=⟨h.bel,by rw[if_neg c];exact h.res⟩
theorem za5 (o j y z:Nat) (k:j<3) (hy:y<3) (a9:z<3) (a5:(j+1)%3=y) (a6:(j+2)%3=z) (b c:Nat->SlT) (A N a0:Value->zA->Prop) (w:zA) (Y:Hid (∀x g d,A x g->qL g d->A x d))
 (L:Hid (∀g:zA,qL w g->zC zF 59 #[zf (zq ⟨o,0,zp⟩),slV (b y),slV (c z)] g λe w'=>∃p n c,e=zo (z7 p n c)/\zB g.heap.size g w'/\A (z7 p n c) w'))
 (M:Hid (∀g:zA,qL w g->zC zF 59 #[zf (zq ⟨o,0,zp⟩),slV (b z),slV (c y)] g λe w'=>∃p n c,e=zo (z7 p n c)/\zB g.heap.size g w'/\N (z7 p n c) w'))
 (a1:Hid (∀(g:zA) (u v:SlT),qL w g->A (slV u) g->N (slV v) g->zC zF 94 #[zf (zq ⟨o,0,zp⟩),slV u,slV v] g λe w'=>∃p n c,e=zo (z7 p n c)/\zB g.heap.size g w'/\a0 (z7 p n c) w')):
 zC zF 60 #[zf (zq ⟨o,0,zp⟩),zh #[slV (b 0),slV (b 1),slV (b 2)],zh #[slV (c 0),slV (c 1),slV (c 2)],zj zm (j:Int)] w λe w'=>∃p n c,e=zo (z7 p n c)/\zB w.heap.size w w'/\a0 (z7 p n c) w':=by
 obtain⟨ac,E⟩:=zzX (w.alloc (zn #[slV (b 0),slV (b 1),slV (b 2)] 119));obtain⟨a4,W⟩:=hbxU E;have ab:ac.heap.size=w.heap.size+1:=by rw[E];simp
 obtain⟨V,F⟩:=zzX (ac.alloc (zn #[slV (c 0),slV (c 1),slV (c 2)] 119));obtain⟨b2,H⟩:=hbxU F;rw[ab] at H;have O:∀{a2 a3:zA} {aa:Nat} {f:Nat->SlT},a2.heap[aa]? =zq (zn #[slV (f 0),slV (f 1),slV (f 2)] 119 (0,0))->qL a2 a3->∀l (g:zA),l<3->qL a3 g->g.cell? ⟨aa,l,zp⟩=zq (slV (f l)):=λa q l g D C=>by
  rw[zJ (zac C _ _ _ _ (zac q _ _ _ _ a))]
  match l,D with
  |0,_|1,_|2,_=>rfl
 have m:=hid (⟨O W b2,O H (zM _ _),a4.trans (b2.mono (by omega))⟩:_/\_/\zB w.heap.size w V);have al:zm.wrap ((j:Int)+1)=(j:Int)+1:=zI _ ⟨by omega,by omega⟩;have am:zm.wrap ((j:Int)+2)=(j:Int)+2:=zI _ ⟨by omega,by omega⟩;have ap:((j:Int)+1).tmod 3=(y:Int):=by rw[<-a5];rcases(by omega:j=0\/j=1\/j=2) with rfl|rfl|rfl<;>rfl
 have aq:((j:Int)+2).tmod 3=(z:Int):=by rw[<-a6];rcases(by omega:j=0\/j=1\/j=2) with rfl|rfl|rfl<;>rfl
 have an:zm.wrap (y:Int)=(y:Int):=zI _ ⟨by omega,by omega⟩;have ao:zm.wrap (z:Int)=(z:Int):=zI _ ⟨by omega,by omega⟩;clear a5 a6;rw[E] at F;have K:=hid F.symm;clear E F a4 b2 W H ab O;simp only[slV] at K L M⊢;go_enter Tryz.func60,Tryz.ntmps60;go_wp21;rw[K.out];clear K;refine zc4 (λ(f:SlT) U=>([zf (zq ⟨o,0,zp⟩),zj zm (y:Int),zf (zq ⟨w.heap.size,y,zp⟩),z7 (b y).1 (b y).2.1 (b y).2.2,zj zm (z:Int),zf (zq ⟨w.heap.size+1,z,zp⟩),z7 (c z).1 (c z).2.1 (c z).2.2,z7 f.1 f.2.1 f.2.2,z7 f.1 f.2.1 f.2.2]:List Value)[U]?.getD undef) (CrzS V A) (by kernel_rfl) (by kernel_rfl) (zp,0,0) ⟨(zM _ V).drew,λa=>by cases a⟩ λf=>?_;refine qB (zf (zq ⟨o,0,zp⟩)) (λh d a=>a.step 0 (by decide)) ?_;refine qB (zj zm (y:Int)) (λh d a=>a.step 1 (by decide)) ?_;refine qB (zf (zq ⟨w.heap.size,y,zp⟩)) (λh d a=>a.step 2 (by decide)) ?_ (hy:=λh d i a=>by go_simp;try(intro a;omega));simp only[zzQ];refine qB (z7 (b y).1 (b y).2.1 (b y).2.2) (λh d a=>a.step 3 (by decide)) ?_ (hy:=λh d i a=>by have s:=m.1 y d hy a.bel;simp only[slV] at s;go_simp);refine qB (zj zm (z:Int)) (λh d a=>a.step 4 (by decide)) ?_;refine qB (zf (zq ⟨w.heap.size+1,z,zp⟩)) (λh d a=>a.step 5 (by decide)) ?_ (hy:=λh d i a=>by go_simp;try(intro a;omega));simp only[zzQ]
 refine qB (z7 (c z).1 (c z).2.1 (c z).2.2) (λh d a=>a.step 6 (by decide)) ?_ (hy:=λh d i a=>by have s:=m.2.1 z d a9 a.bel;simp only[slV] at s;go_simp);simp only[zzQ]
 refine zdc (z7 f.1 f.2.1 f.2.2) (by rfl) (by rfl) (λh d i a ad R=>by
  have P:=i.self;have Q:=i.no (j:=8) i.self (by kernel_rfl);have T:=L d (m.2.2.trans (a.bel.mono m.2.2.size));go_simp;refine T.mono ?_;rintro e w' ⟨p,n,G,rfl,q,t⟩;refine⟨_,rfl,R (p,n,G) w' (λj k=>?_) ⟨a.bel.trans (q.mono a.bel.size),λ_=>t⟩⟩
  match j,k with
  |0,_|1,_|2,_|3,_|4,_|5,_|6,_=>rfl
  |7,k=>rw[P] at k;cases k
  |8,k=>rw[Q] at k;cases k
  |_+9,_=>rfl) ?_
 refine qB (z7 f.1 f.2.1 f.2.2) (λh d a=>a.step 8 (by decide)) ?_;simp only[zzQ];refine ze1 λh B i a=>?_;have a7:=a.res (i 7 (by decide));obtain⟨aj,ah,af⟩:=f;have r:=hid (⟨λ(l:Nat) (g:zA) (D:l<3) (C:qL B g)=>m.1 l g D (a.bel.trans (C.mono a.bel.size)),λ(l:Nat) (g:zA) (D:l<3) (C:qL B g)=>m.2.1 l g D (a.bel.trans (C.mono a.bel.size)),m.2.2.trans (a.bel.mono m.2.2.size)⟩:_/\_/\zB w.heap.size w B);have Z:=hid a7;clear i a a7 m L;go_wp21;refine zc4 (λ(f:SlT) U=>([zf (zq ⟨o,0,zp⟩),zj zm (z:Int),zf (zq ⟨w.heap.size,z,zp⟩),z7 (b z).1 (b z).2.1 (b z).2.2,zj zm (y:Int),zf (zq ⟨w.heap.size+1,y,zp⟩),z7 (c y).1 (c y).2.1 (c y).2.2,z7 f.1 f.2.1 f.2.2,z7 f.1 f.2.1 f.2.2]:List Value)[U]?.getD undef) (CrzS B N) (by kernel_rfl) (by kernel_rfl) (zp,0,0) ⟨(zM _ B).drew,λa=>by cases a⟩ λf=>?_;refine qB (zf (zq ⟨o,0,zp⟩)) (λh d a=>a.step 0 (by decide)) ?_;refine qB (zj zm (z:Int)) (λh d a=>a.step 1 (by decide)) ?_;refine qB (zf (zq ⟨w.heap.size,z,zp⟩)) (λh d a=>a.step 2 (by decide)) ?_ (hy:=λh d i a=>by go_simp;try(intro a;omega));simp only[zzQ];refine qB (z7 (b z).1 (b z).2.1 (b z).2.2) (λh d a=>a.step 3 (by decide)) ?_ (hy:=λh d i a=>by have s:=r.1 z d a9 a.bel;simp only[slV] at s;go_simp);refine qB (zj zm (y:Int)) (λh d a=>a.step 4 (by decide)) ?_;refine qB (zf (zq ⟨w.heap.size+1,y,zp⟩)) (λh d a=>a.step 5 (by decide)) ?_ (hy:=λh d i a=>by go_simp;try(intro a;omega));simp only[zzQ];refine qB (z7 (c y).1 (c y).2.1 (c y).2.2) (λh d a=>a.step 6 (by decide)) ?_ (hy:=λh d i a=>by have s:=r.2.1 y d hy a.bel;simp only[slV] at s;go_simp);simp only[zzQ]
 refine zdc (z7 f.1 f.2.1 f.2.2) (by rfl) (by rfl) (λh d i a ad R=>by
  have P:=i.self;have Q:=i.no (j:=8) i.self (by kernel_rfl);have T:=M d (r.2.2.trans (a.bel.mono r.2.2.size));go_simp;refine T.mono ?_;rintro e w' ⟨p,n,G,rfl,q,t⟩;refine⟨_,rfl,R (p,n,G) w' (λj k=>?_) ⟨a.bel.trans (q.mono a.bel.size),λ_=>t⟩⟩
  match j,k with
  |0,_|1,_|2,_|3,_|4,_|5,_|6,_=>rfl
  |7,k=>rw[P] at k;cases k
  |8,k=>rw[Q] at k;cases k
  |_+9,_=>rfl) ?_
 refine qB (z7 f.1 f.2.1 f.2.2) (λh d a=>a.step 8 (by decide)) ?_;simp only[zzQ];refine ze1 λh ae i a=>?_;have a8:=a.res (i 7 (by decide));obtain⟨ak,ai,ag⟩:=f;have S:=r.2.2.trans (a.bel.mono r.2.2.size);have J:=hid (a1 ae (aj,ah,af) (ak,ai,ag) S (Y _ _ _ Z a.bel) a8);have I:=hid S;simp only[slV] at J;clear i a a8 r M S Z Y a1;go_wp21;refine J.mono ?_;rintro e ar ⟨p,n,G,rfl,q,t⟩;have X:=hid (⟨I.trans (q.mono I.size),t⟩:_/\_);clear q t I J;go_wp21;go_ret;exact⟨_,_,_,rfl,X.1,X.2⟩
theorem ylx {a:Rat} {i:Nat} (h:i<(rs a).length):(rs a)[i]? =zq (a,1):=by
 by_cases e:a=0
 ·rw[e,yag] at h;simp at h
 ·rw[yac e] at h⊢
  obtain rfl:i=0:=by simpa using h
  rfl
theorem ylg (t u:Value) (a b:Rat) (ha:sz a 60) (h:sz b 60) (G:sz (a*b) 60) (w:zA) (hw:Hw w) (B:SdL t (rs a) w) (C:SdL u (rs b) w):
 zC zF 93 #[t,u] w λe w'=>∃m,e=zo (ze #[m,zj zm 0])/\zB w.heap.size w w'/\SdL m (rs (a*b)) w':=by
 have A:zD 1=[49]:=zfg;have K:=λc (d:qL w c)=>zda t a ha c (hw.below d).wd (hw.below d).pw (B.below d);have L:=λc (d:qL w c)=>zda u b h c (hw.below d).wd (hw.below d).pw (C.below d);have F:=z6g t u (λc=>qL w c) (λc S p h=>p.trans (h.mono p.size)) (hid K) (hid L) w (zM _ _);obtain⟨M,c1,rfl, -,Q⟩:=B.slice;obtain⟨N,c2,rfl, -,R⟩:=C.slice;have U:=zh5 a;have V:=zh5 b;have z:∀{i:Rat} {D:Option Addr},(∀f y,(rs i)[f]? =zq y->∃b g,D=zq ⟨b,g,zp⟩/\b<w.heap.size/\w.cell? ⟨b,g+f*2,zp⟩=zq (St (numS y.1))/\w.cell? ⟨b,g+f*2+1,zp⟩=zq (St (zD y.2)))->∀f,f<(rs i).length->∃b g,D=zq ⟨b,g,zp⟩/\b<w.heap.size/\w.cell? ⟨b,g+f*2,zp⟩=zq (St (numS i))/\w.cell? ⟨b,g+f*2+1,zp⟩=zq (St [49]):=λP f H=>by
  obtain⟨b,g,e,I,E,a1⟩:=P f _ (ylx H);rw[A] at a1;exact⟨b,g,e,I,E,a1⟩
 refine(yd3 M N c1 c2 (rs a).length (rs b).length (λ_=>numS a) (λ_=>[49]) (λ_=>numS b) (λ_=>[49]) (λ_ _=>numS (a*b)) (λ_ _=>[49]) (λO n c=>n=0/\SdL O (rs (a*b)) c) (by omega) (by omega) w hw.d (hid F)
  (hid λf J _ _ c d=>zjf a b 60 60 (by omega) (by omega) (by omega) ha h c d) (hid λf J _ _ c d=>?_) (hid (z Q)) (hid (z R)) (hid λc x i d k=>?_)).mono ?_
 ·have:=zjf 1 1 1 1 (by omega) (by omega) (by omega) ⟨by decide,by decide⟩ ⟨by decide,by decide⟩ c d
  rw[show(1:Rat)*1=1 by grind,zfc] at this;exact this
 ·have v:∀{l:List (Rat×Nat)},(zea (λ_ _=>numS (a*b)) (λ_ _=>[49]) (rs b).length (rs a).length)=l.map strT->(zC zF 132 #[z7 x l.length i] c λe w'=>∃m,e=zo (ze #[m,zj zm 0])/\zB c.heap.size c w'/\SdL m (rs (a*b)) w')->
   zC zF 132 #[z7 x (zea (λ_ _=>numS (a*b)) (λ_ _=>[49]) (rs b).length (rs a).length).length i] c λe w'=>∃s r o n,e=zo (ze #[z7 s r o,zj zm n])/\zB c.heap.size c w'/\n=0/\SdL (z7 s r o) (rs (a*b)) w':=λe p=>by
   rw[e,List.length_map];refine p.mono ?_;rintro e w' ⟨m,rfl,h,q⟩;obtain⟨s,r,o,rfl⟩:=q.any;exact⟨s,r,o,0,rfl,h,rfl,q⟩
  have j:=hw.below d;by_cases ea:a=0
  ·have e:(zea (λ_ _=>numS (a*b)) (λ_ _=>[49]) (rs b).length (rs a).length)=([]:List (Rat×Nat)).map strT:=by rw[ea,yag];rfl
   refine v e ?_;rw[e] at k;rw[show a*b=0 by rw[ea];grind,yag];exact z10 _ c j.d j.p (SdL.own (l:=[]) k rfl)
  ·by_cases eb:b=0
   ·have e:(zea (λ_ _=>numS (a*b)) (λ_ _=>[49]) (rs b).length (rs a).length)=([]:List (Rat×Nat)).map strT:=by rw[yac ea,eb,yag];rfl
    refine v e ?_;rw[e] at k;rw[show a*b=0 by rw[eb];grind,yag];exact z10 _ c j.d j.p (SdL.own (l:=[]) k rfl)
   ·have e:(zea (λ_ _=>numS (a*b)) (λ_ _=>[49]) (rs b).length (rs a).length)=[(a*b,1)].map strT:=by
     rw[yac ea,yac eb];show[(numS (a*b),[49])]=[(numS (a*b),zD 1)];rw[A]
    refine v e ?_;rw[e] at k;exact yjv _ (a*b) G c j.d j.p (SdL.own (l:=[(a*b,1)]) k rfl)
 ·rintro e w' ⟨x,T,i,n,rfl,h,rfl,q⟩
  exact⟨_,rfl,h,q⟩
theorem zmv (e f g:Option Addr) (b c d a c1 c2:Nat) (w:zA):qJ 90 #[zh #[z7 e b a,z7 f c c1,z7 g d c2]] w (zh #[z7 e b a,z7 f c c1,z7 g d c2]):=by
 obtain⟨q,h⟩:=zzX (w.alloc (zn #[z7 e b a,z7 f c c1,z7 g d c2] 99));obtain⟨l,r⟩:=hbxU h;have p:q.heap.size=w.heap.size+1:=by rw[h];simp
 obtain⟨s,i⟩:=zzX (q.alloc (zn #[z7 e b a,z7 f c c1,z7 g d c2] 119));obtain⟨b2,j⟩:=hbxU i;rw[p] at j;obtain⟨m,n,o, -⟩:=zah j;have k:=hid (l.trans (b2.mono (by omega)));rw[h] at i;rw[i] at m n o k;clear h i l b2 r j p;go_enter Tryz.func90,Tryz.ntmps90;go_wp21;refine bodyPost_ret (v:=zh #[z7 e b a,z7 f c c1,z7 g d c2]) (by simp[results,Tryz.results90,go_sem,m,n,o]) rfl ⟨rfl,?_⟩;exact k.out
theorem ykm (p q:Option Addr) (n c m k:Nat) (w:zA):zC zF 57 #[z7 p n c,z7 q m k] w λe w'=>e=zo (.func (.func 89) #[] #[zf (zq ⟨w.heap.size+1,0,zp⟩),zf (zq ⟨w.heap.size,0,zp⟩)])/\zB w.heap.size w w'/\w'.cell? ⟨w.heap.size,0,zp⟩=zq (z7 p n c)/\w'.cell? ⟨w.heap.size+1,0,zp⟩=zq (z7 q m k):=by
 have b:=(Boxed.new w 81 (z7 p n c)).alloc (zn #[z7 q m k] 74);have b2:=Boxed.new (w.alloc (zn #[z7 p n c] 81)) 74 (z7 q m k);rw[World.size_alloc] at b2;have d:qL w ((w.alloc (zn #[z7 p n c] 81)).alloc (zn #[z7 q m k] 74)):=((zM _ w).alloc (zN _) _).alloc (by simp) _;have a:=hid (⟨b.cell,b2.cell,d⟩:_/\_/\_);clear b b2 d;go_enter Tryz.func57,Tryz.ntmps57;go_wp21;go_ret;exact⟨rfl,a.2.2,a.1,a.2.1⟩
theorem ygf (p:Option Addr) (n cap:Nat) (o f:Value->zA->Prop) (s:∀v a r,f v a->qL a r->f v r) (w:zA)
 (l:Hid (∀a:zA,qL w a->zC zF 88 #[z7 p n cap] a λe w'=>∃q m c,e=zo (ze #[z7 q m c,zj zm 0])/\zB a.heap.size a w'/\f (z7 q m c) w'))
 (k:Hid (∀a:zA,qL w a->zC zF 63 #[z7 p n cap] a λe w'=>∃q m c,e=zo (ze #[z7 q m c,zj zm 0])/\zB a.heap.size a w'/\o (z7 q m c) w')):
 zC zF 56 #[z7 p n cap] w λe w'=>∃q m c j i h,e=zo (ze #[z7 q m c,z7 j i h,zj zm 0])/\zB w.heap.size w w'/\o (z7 q m c) w'/\f (z7 j i h) w':=by
 have x:=hid s;clear s;go_enter Tryz.func56,Tryz.ntmps56;go_wp21;refine(l w (zM _ _)).mono ?_;rintro e y ⟨q,m,c,rfl,b,t⟩;have d:=hid (⟨b,t⟩:_/\_);clear b t l;go_wp21;refine(k y d.1).mono ?_;rintro e z ⟨j,i,h,rfl,b,u⟩;have g:=hid (⟨d.1.trans (b.mono d.1.size),u,x _ _ _ d.2 b⟩:_/\_/\_);clear b u k d;go_wp21;go_ret3;exact⟨_,_,_,_,_,_,rfl,g.1,g.2.1,g.2.2⟩
end
section
open Go.RowKit Go.Shelf Lib Str Limb
attribute [local go_sem] Oper.semAt_some
def chOk (ops:Array Oper):Nat->List Nat->Bool
 |_,[]=>zt
 |k,j::l=>Region.waitsFor .any ops j k&&chOk ops j l
def zbc:Nat->List Nat->Nat
 |k,[]=>k
 |_,j::l=>zbc j l
theorem AcF.far {ops:Array Oper} {i:Nat} {f:Nat->Bool} (h:AcF ops i f):∀(l:List Nat) (k:Nat),f k=zu->chOk ops k l=zt->f (zbc k l)=zu
 |[],_,a,_=>a
 |b::l,k,a,hc=>by
  simp only[chOk,Bool.and_eq_true] at hc;exact h.far l b (h.no a hc.1) hc.2
theorem AcF.to {ops:Array Oper} {i:Nat} {f:Nat->Bool} (h:AcF ops i f) (l:List Nat) (a:chOk ops i l=zt:=by kernel_rfl):f (zbc i l)=zu:=h.far l i h.self a
def yjp (q:Option Addr) (a b c:Nat->SlT) (W:zA) (x:Nat):Prop:=∃g o,q=zq ⟨g,o,zp⟩/\W.cell? ⟨g,o+x*3,zp⟩=zq (slV (a x))/\W.cell? ⟨g,o+x*3+1,zp⟩=zq (slV (b x))/\W.cell? ⟨g,o+x*3+2,zp⟩=zq (slV (c x))
theorem ye4 {L:List Nat} {t:Nat} (h:t<L.length-2):(triQ L)[t]? =zq (L.headD 0,L[t+1]?.getD 0,L[t+2]?.getD 0):=by
 unfold triQ;rw[List.getElem?_map,List.getElem?_range h];rfl
theorem ydg (L:List Nat):(triQ L).length=L.length-2:=by unfold triQ;simp
theorem ykn (aw:Nat) (h:1<=aw) (W V:Nat) (p q:Option Addr) (F E n:Nat) (_:n<=4000) (m:List Nat) (aj:∀x∈m,x<n) (b8:m.length<=4000) (a b c:Nat->SlT) (a8:zA->Prop)
 (ak:∀u,a8 u->u.cell? ⟨W,0,zp⟩=zq (z7 p m.length F)/\u.cell? ⟨V,0,zp⟩=zq (z7 q n E)/\(∀i x,m[i]? =zq x->∃g,p=zq ⟨g,0,zp⟩/\u.cell? ⟨g,i,zp⟩=zq (zj zm ((x:Nat):Int)))/\∀x,x<n->yjp q a b c u x):
 IterC Fence.wide aw zF 89 #[zf (zq ⟨W,0,zp⟩),zf (zq ⟨V,0,zp⟩)] a8 (λt args=>∃x y z,(triQ m)[t]? =zq (x,y,z)/\args= #[zh #[slV (a x),slV (b x),slV (c x),slV (a y),slV (b y),slV (c y),slV (a z),slV (b z),slV (c z)]]) (triQ m).length:=by
 intro av a7 b0 u ah ag al ad;refine callsIn_of_wp Tryz.func89 rfl trivial ?_ rfl;simp only[Tryz.ntmps89,List.size_toArray,List.length_cons,List.length_nil,Nat.reduceAdd,Nat.reduceSub,yU,yV,List.push_toArray,yX,List.nil_append,List.cons_append];have P:=hid λr u d=>ak u (ah r u d);clear ak ah;have a6:=hid al;clear al;have T:=hid ag;clear ag;have a5:=hid ad;clear ad;obtain⟨B,a1⟩:=zzX m.length;have I:=hid (⟨aj,a1,ydg m⟩:_/\_/\_);rw[<-a1] at b8 P;clear aj a1;gi_wp2_with fail;gi_loopw [4] (λa4 wr=>∃i:Nat,1<=i/\i-1<=B-2/\a4=zj zm (i:Int)/\Hid (a7 (i-1) wr))
  (λa4 _=>B-(zL a4).toNat)
 case atStart=>exact⟨1,by omega,by omega,by first|rfl|go_num,a5⟩
 case round=>
  clear a5;obtain⟨i,bg,bh,rfl,Z⟩:=hrel;have bj:zm.wrap ((i:Int)+1)=(i:Int)+1:=zI _ ⟨by omega,by omega⟩;have aa:=(P _ _ Z.out).1;by_cases hlt:i+1<B
  ·have K:=hid (T _ wr wr.drew Z (zM _ wr).drew)
   have b6:=I.2.1;have J:m[0]? =zq (m[0]'(by omega)):=yB _;have M:m[i]? =zq (m[i]'(by omega)):=yB _;have N:m[i+1]? =zq (m[i+1]'(by omega)):=yB _;obtain⟨x,an⟩:=zzX (m[0]'(by omega));obtain⟨y,a3⟩:=zzX (m[i]'(by omega));obtain⟨z,ar⟩:=zzX (m[i+1]'(by omega));rw[<-an] at J;rw[<-a3] at M;rw[<-ar] at N;have ao:x<n:=I.1 x (List.mem_of_getElem? J);have ba:y<n:=I.1 y (List.mem_of_getElem? M);have bb:z<n:=I.1 z (List.mem_of_getElem? N);have a2:(triQ m)[i-1]? =zq (x,y,z):=by
    rw[ye4 (by omega),show i-1+1=i by omega,show i-1+2=i+1 by omega,M,N,show m.headD 0=x by rw[List.headD_eq_head?_getD,List.head?_eq_getElem?,J];rfl];rfl
   have L:=hid λu d=>a6 (i-1) _ u d (List.getElem?_eq_some_iff.1 a2).1 ⟨x,y,z,a2,rfl⟩;obtain⟨-, -,R,Q⟩:=P _ _ K.out;obtain⟨g,rfl, -⟩:=R 0 x J;obtain⟨k,l,rfl, -⟩:=Q x ao;have s:=hid (show ∀e,zB wr.drew.heap.size wr.drew e->e.cell? ⟨V,0,zp⟩=zq (z7 (zq ⟨k,l,zp⟩) n E)/\e.cell? ⟨W,0,zp⟩=zq (z7 (zq ⟨g,0,zp⟩) B F)/\
    e.cell? ⟨g,0,zp⟩=zq (zj zm (x:Int))/\e.cell? ⟨g,i,zp⟩=zq (zj zm (y:Int))/\e.cell? ⟨g,i+1,zp⟩=zq (zj zm (z:Int))/\(e.cell? ⟨k,l+x*3,zp⟩=zq (z7 (a x).1 (a x).2.1 (a x).2.2)/\e.cell? ⟨k,l+x*3+1,zp⟩=zq (z7 (b x).1 (b x).2.1 (b x).2.2)/\e.cell? ⟨k,l+x*3+2,zp⟩=zq (z7 (c x).1 (c x).2.1 (c x).2.2))/\(e.cell? ⟨k,l+y*3,zp⟩=zq (z7 (a y).1 (a y).2.1 (a y).2.2)/\e.cell? ⟨k,l+y*3+1,zp⟩=zq (z7 (b y).1 (b y).2.1 (b y).2.2)/\e.cell? ⟨k,l+y*3+2,zp⟩=zq (z7 (c y).1 (c y).2.1 (c y).2.2))/\(e.cell? ⟨k,l+z*3,zp⟩=zq (z7 (a z).1 (a z).2.1 (a z).2.2)/\e.cell? ⟨k,l+z*3+1,zp⟩=zq (z7 (b z).1 (b z).2.1 (b z).2.2)/\e.cell? ⟨k,l+z*3+2,zp⟩=zq (z7 (c z).1 (c z).2.1 (c z).2.2)) from λe j=>by
    obtain⟨bd,be,R,Q⟩:=P _ _ (T _ _ _ K j);have Y:∀D v,m[D]? =zq v->e.cell? ⟨g,D,zp⟩=zq (zj zm ((v:Nat):Int)):=λD v o=>by
     obtain⟨b3,w,d⟩:=R D v o;injection w with w;injection w with w;subst w;exact d
    have X:∀v,v<n->e.cell? ⟨k,l+v*3,zp⟩=zq (slV (a v))/\e.cell? ⟨k,l+v*3+1,zp⟩=zq (slV (b v))/\e.cell? ⟨k,l+v*3+2,zp⟩=zq (slV (c v)):=λv b9=>by
     obtain⟨b3,bk,w,d⟩:=Q v b9;injection w with w;injection w with b1 b2;subst b1;subst b2;exact d
    exact⟨be,bd,Y _ _ J,Y _ _ M,Y _ _ N,X x ao,X y ba,X z bb⟩)
   have U:=hid (λ(u:zA) (d:zB wr.drew.heap.size wr.drew u)=>T _ _ u K d);have am:i-1+1=i+1-1:=by omega
   rw[am] at L;have a0:((i:Int)+1<(B:Int)):=by omega
   simp only[slV] at L;clear R Q an a3 ar J M N a2 a6 b6 am;have ap:(x:Int)<(n:Int):=by omega
   have aq:(y:Int)<(n:Int):=by omega
   have au:(z:Int)<(n:Int):=by omega
   gi_wp2_with fail
   refine zdr (λ_=>trivial) rfl (λ(G:Bool) bc=>([.func (.yield av) #[] #[],z7 (zq ⟨k,l,zp⟩) n E,z7 (zq ⟨g,0,zp⟩) B F,zf (zq ⟨g,0,zp⟩),zj zm (x:Int),zf (zq ⟨k,l+x*3,zp⟩),zh #[z7 (a x).1 (a x).2.1 (a x).2.2,z7 (b x).1 (b x).2.1 (b x).2.2,z7 (c x).1 (c x).2.1 (c x).2.2],zh #[z7 (a x).1 (a x).2.1 (a x).2.2,z7 (b x).1 (b x).2.1 (b x).2.2,z7 (c x).1 (c x).2.1 (c x).2.2],z7 (zq ⟨k,l,zp⟩) n E,z7 (zq ⟨g,0,zp⟩) B F,zj zm (i:Int),zf (zq ⟨g,i,zp⟩),zj zm (y:Int),zf (zq ⟨k,l+y*3,zp⟩),zh #[z7 (a y).1 (a y).2.1 (a y).2.2,z7 (b y).1 (b y).2.1 (b y).2.2,z7 (c y).1 (c y).2.1 (c y).2.2],zh #[z7 (a y).1 (a y).2.1 (a y).2.2,z7 (b y).1 (b y).2.1 (b y).2.2,z7 (c y).1 (c y).2.1 (c y).2.2],z7 (zq ⟨k,l,zp⟩) n E,z7 (zq ⟨g,0,zp⟩) B F,zj zm (i:Int),zj zm ((i:Int)+1),zf (zq ⟨g,i+1,zp⟩),zj zm (z:Int),zf (zq ⟨k,l+z*3,zp⟩),zh #[z7 (a z).1 (a z).2.1 (a z).2.2,z7 (b z).1 (b z).2.1 (b z).2.2,z7 (c z).1 (c z).2.1 (c z).2.2],zh #[z7 (a z).1 (a z).2.1 (a z).2.2,z7 (b z).1 (b z).2.1 (b z).2.2,z7 (c z).1 (c z).2.1 (c z).2.2],zh #[z7 (a x).1 (a x).2.1 (a x).2.2,z7 (b x).1 (b x).2.1 (b x).2.2,z7 (c x).1 (c x).2.1 (c x).2.2,z7 (a y).1 (a y).2.1 (a y).2.2,z7 (b y).1 (b y).2.1 (b y).2.2,z7 (c y).1 (c y).2.1 (c y).2.2,z7 (a z).1 (a z).2.1 (a z).2.2,z7 (b z).1 (b z).2.1 (b z).2.2,z7 (c z).1 (c z).2.1 (c z).2.2],zg G,zg !G]:List Value)[bc]?.getD zv)
    (λG f e=>(f 26=zu->zB wr.drew.heap.size wr.drew e)/\(f 26=zt->(G=zt/\a7 (i+1-1) e)\/(G=zu/\b0 e))) (by kernel_rfl) (by kernel_rfl) zt ⟨λ_=>zM _ _,λd=>by cases d⟩ λG=>?_
   refine za2 (.func (.yield av) #[] #[]) (by rfl) (by rfl) (λf e d=>⟨d.1,d.2⟩) (λf e h d=>by
    have j:=d.1 (h.to [26]);go_simp) ?_
   try simp only[zzQ]
   refine za2 (z7 (zq ⟨k,l,zp⟩) n E) (by rfl) (by rfl) (λf e d=>⟨d.1,d.2⟩) (λf e h d=>by
    have j:=d.1 (h.to [5,6,7,25,26]);obtain⟨C, -⟩:=s e j;go_simp) ?_
   try simp only[zzQ]
   refine za2 (z7 (zq ⟨g,0,zp⟩) B F) (by rfl) (by rfl) (λf e d=>⟨d.1,d.2⟩) (λf e h d=>by
    have j:=d.1 (h.to [3,4,5,6,7,25,26]);obtain⟨-,C, -⟩:=s e j;go_simp) ?_
   try simp only[zzQ]
   refine za2 (zf (zq ⟨g,0,zp⟩)) (by rfl) (by rfl) (λf e d=>⟨d.1,d.2⟩) (λf e h d=>by
    have j:=d.1 (h.to [4,5,6,7,25,26]);go_simp;try(intro d;omega)) ?_
   try simp only[zzQ]
   refine za2 (zj zm (x:Int)) (by rfl) (by rfl) (λf e d=>⟨d.1,d.2⟩) (λf e h d=>by
    have j:=d.1 (h.to [5,6,7,25,26]);obtain⟨-, -,C, -⟩:=s e j;go_simp) ?_
   try simp only[zzQ]
   refine za2 (zf (zq ⟨k,l+x*3,zp⟩)) (by rfl) (by rfl) (λf e d=>⟨d.1,d.2⟩) (λf e h d=>by
    have j:=d.1 (h.to [6,7,25,26]);go_simp;try(intro d;omega)) ?_
   try simp only[zzQ]
   refine za2 (zh #[z7 (a x).1 (a x).2.1 (a x).2.2,z7 (b x).1 (b x).2.1 (b x).2.2,z7 (c x).1 (c x).2.1 (c x).2.2]) (by rfl) (by rfl) (λf e d=>⟨d.1,d.2⟩) (λf e h d=>by
    have j:=d.1 (h.to [7,25,26]);obtain⟨-, -, -, -, -,⟨C,ab,ac⟩, -⟩:=s e j;go_simp) ?_
   try simp only[zzQ]
   refine zeg (zh #[z7 (a x).1 (a x).2.1 (a x).2.2,z7 (b x).1 (b x).2.1 (b x).2.2,z7 (c x).1 (c x).2.1 (c x).2.2]) (by rfl) (by rfl) (λf e h d S H=>by
    have A:f 26=zu:=(h.to [25,26]);have j:=d.1 A;go_simp;refine⟨λ_=>by omega,(callsIn_wide.2 (zmv (a x).1 (b x).1 (c x).1 (a x).2.1 (b x).2.1 (c x).2.1 (a x).2.2 (b x).2.2 (c x).2.2 e)).mono ?_⟩;rintro w ax ⟨rfl,O⟩;exact⟨_,rfl,H _ ⟨λ_=>j.trans (O.mono j.size),λr=>by have r:f 26=zt:=r;rw[A] at r;cases r⟩⟩) ?_
   try simp only[zzQ]
   refine za2 (z7 (zq ⟨k,l,zp⟩) n E) (by rfl) (by rfl) (λf e d=>⟨d.1,d.2⟩) (λf e h d=>by
    have j:=d.1 (h.to [13,14,15,25,26]);obtain⟨C, -⟩:=s e j;go_simp) ?_
   try simp only[zzQ]
   refine za2 (z7 (zq ⟨g,0,zp⟩) B F) (by rfl) (by rfl) (λf e d=>⟨d.1,d.2⟩) (λf e h d=>by
    have j:=d.1 (h.to [11,12,13,14,15,25,26]);obtain⟨-,C, -⟩:=s e j;go_simp) ?_
   try simp only[zzQ]
   refine za2 (zj zm (i:Int)) (by rfl) (by rfl) (λf e d=>⟨d.1,d.2⟩) (λf e h d=>by
    have j:=d.1 (h.to [11,12,13,14,15,25,26]);go_simp;try omega) ?_
   try simp only[zzQ]
   refine za2 (zf (zq ⟨g,i,zp⟩)) (by rfl) (by rfl) (λf e d=>⟨d.1,d.2⟩) (λf e h d=>by
    have j:=d.1 (h.to [12,13,14,15,25,26]);go_simp;try(intro d;omega)) ?_
   try simp only[zzQ]
   refine za2 (zj zm (y:Int)) (by rfl) (by rfl) (λf e d=>⟨d.1,d.2⟩) (λf e h d=>by
    have j:=d.1 (h.to [13,14,15,25,26]);obtain⟨-, -, -,C, -⟩:=s e j;go_simp) ?_
   try simp only[zzQ]
   refine za2 (zf (zq ⟨k,l+y*3,zp⟩)) (by rfl) (by rfl) (λf e d=>⟨d.1,d.2⟩) (λf e h d=>by
    have j:=d.1 (h.to [14,15,25,26]);go_simp;try(intro d;omega)) ?_
   try simp only[zzQ]
   refine za2 (zh #[z7 (a y).1 (a y).2.1 (a y).2.2,z7 (b y).1 (b y).2.1 (b y).2.2,z7 (c y).1 (c y).2.1 (c y).2.2]) (by rfl) (by rfl) (λf e d=>⟨d.1,d.2⟩) (λf e h d=>by
    have j:=d.1 (h.to [15,25,26]);obtain⟨-, -, -, -, -, -,⟨C,ab,ac⟩, -⟩:=s e j;go_simp) ?_
   try simp only[zzQ]
   refine zeg (zh #[z7 (a y).1 (a y).2.1 (a y).2.2,z7 (b y).1 (b y).2.1 (b y).2.2,z7 (c y).1 (c y).2.1 (c y).2.2]) (by rfl) (by rfl) (λf e h d S H=>by
    have A:f 26=zu:=(h.to [25,26]);have j:=d.1 A;go_simp;refine⟨λ_=>by omega,(callsIn_wide.2 (zmv (a y).1 (b y).1 (c y).1 (a y).2.1 (b y).2.1 (c y).2.1 (a y).2.2 (b y).2.2 (c y).2.2 e)).mono ?_⟩;rintro w ax ⟨rfl,O⟩;exact⟨_,rfl,H _ ⟨λ_=>j.trans (O.mono j.size),λr=>by have r:f 26=zt:=r;rw[A] at r;cases r⟩⟩) ?_
   try simp only[zzQ]
   refine za2 (z7 (zq ⟨k,l,zp⟩) n E) (by rfl) (by rfl) (λf e d=>⟨d.1,d.2⟩) (λf e h d=>by
    have j:=d.1 (h.to [22,23,24,25,26]);obtain⟨C, -⟩:=s e j;go_simp) ?_
   try simp only[zzQ]
   refine za2 (z7 (zq ⟨g,0,zp⟩) B F) (by rfl) (by rfl) (λf e d=>⟨d.1,d.2⟩) (λf e h d=>by
    have j:=d.1 (h.to [20,21,22,23,24,25,26]);obtain⟨-,C, -⟩:=s e j;go_simp) ?_
   try simp only[zzQ]
   refine za2 (zj zm (i:Int)) (by rfl) (by rfl) (λf e d=>⟨d.1,d.2⟩) (λf e h d=>by
    have j:=d.1 (h.to [19,20,21,22,23,24,25,26]);go_simp;try omega) ?_
   try simp only[zzQ]
   refine za2 (zj zm ((i:Int)+1)) (by rfl) (by rfl) (λf e d=>⟨d.1,d.2⟩) (λf e h d=>by
    have j:=d.1 (h.to [20,21,22,23,24,25,26]);go_simp;try omega) ?_
   try simp only[zzQ]
   refine za2 (zf (zq ⟨g,i+1,zp⟩)) (by rfl) (by rfl) (λf e d=>⟨d.1,d.2⟩) (λf e h d=>by
    have j:=d.1 (h.to [21,22,23,24,25,26]);go_simp;try(intro d;omega)) ?_
   try simp only[zzQ]
   refine za2 (zj zm (z:Int)) (by rfl) (by rfl) (λf e d=>⟨d.1,d.2⟩) (λf e h d=>by
    have j:=d.1 (h.to [22,23,24,25,26]);obtain⟨-, -, -, -,C, -⟩:=s e j;go_simp) ?_
   try simp only[zzQ]
   refine za2 (zf (zq ⟨k,l+z*3,zp⟩)) (by rfl) (by rfl) (λf e d=>⟨d.1,d.2⟩) (λf e h d=>by
    have j:=d.1 (h.to [23,24,25,26]);go_simp;try(intro d;omega)) ?_
   try simp only[zzQ]
   refine za2 (zh #[z7 (a z).1 (a z).2.1 (a z).2.2,z7 (b z).1 (b z).2.1 (b z).2.2,z7 (c z).1 (c z).2.1 (c z).2.2]) (by rfl) (by rfl) (λf e d=>⟨d.1,d.2⟩) (λf e h d=>by
    have j:=d.1 (h.to [24,25,26]);obtain⟨-, -, -, -, -, -, -,⟨C,ab,ac⟩⟩:=s e j;go_simp) ?_
   try simp only[zzQ]
   refine zeg (zh #[z7 (a z).1 (a z).2.1 (a z).2.2,z7 (b z).1 (b z).2.1 (b z).2.2,z7 (c z).1 (c z).2.1 (c z).2.2]) (by rfl) (by rfl) (λf e h d S H=>by
    have A:f 26=zu:=(h.to [25,26]);have j:=d.1 A;go_simp;refine⟨λ_=>by omega,(callsIn_wide.2 (zmv (a z).1 (b z).1 (c z).1 (a z).2.1 (b z).2.1 (c z).2.1 (a z).2.2 (b z).2.2 (c z).2.2 e)).mono ?_⟩;rintro w ax ⟨rfl,O⟩;exact⟨_,rfl,H _ ⟨λ_=>j.trans (O.mono j.size),λr=>by have r:f 26=zt:=r;rw[A] at r;cases r⟩⟩) ?_
   try simp only[zzQ]
   refine za2 (zh #[z7 (a x).1 (a x).2.1 (a x).2.2,z7 (b x).1 (b x).2.1 (b x).2.2,z7 (c x).1 (c x).2.1 (c x).2.2,z7 (a y).1 (a y).2.1 (a y).2.2,z7 (b y).1 (b y).2.1 (b y).2.2,z7 (c y).1 (c y).2.1 (c y).2.2,z7 (a z).1 (a z).2.1 (a z).2.2,z7 (b z).1 (b z).2.1 (b z).2.2,z7 (c z).1 (c z).2.1 (c z).2.2]) (by rfl) (by rfl) (λf e d=>⟨d.1,d.2⟩) (λf e h d=>by
    have j:=d.1 (h.to [26]);go_simp) ?_
   try simp only[zzQ]
   refine zjk (zg G) (by rfl) (by rfl) (λf e h d S H=>by
    have A:=h.self;have ae:=h.no (j:=27) h.self (by kernel_rfl);obtain⟨fn,tmps,assign,body,a3,b7⟩:=L e (U e (d.1 A));go_simp;refine⟨λ_=>by omega,b7.mono ?_⟩;rintro w a9 (⟨rfl,b4⟩|⟨rfl,b5⟩)
    ·refine⟨_,rfl,H zt a9 (λD o=>?_) ⟨λd=>(by cases d),λ_=>.inl ⟨rfl,b4⟩⟩⟩
     match D,o with
     |0,_|1,_|2,_|3,_|4,_|5,_|6,_|7,_|8,_|9,_|10,_|11,_|12,_|13,_|14,_|15,_|16,_|17,_|18,_|19,_|20,_|21,_|22,_|23,_|24,_|25,_=>rfl
     |26,o=>rw[A] at o;cases o
     |27,o=>rw[ae] at o;cases o
     |_+28,_=>rfl
    ·refine⟨_,rfl,H zu a9 (λD o=>?_) ⟨λd=>(by cases d),λ_=>.inr ⟨rfl,b5⟩⟩⟩
     match D,o with
     |0,_|1,_|2,_|3,_|4,_|5,_|6,_|7,_|8,_|9,_|10,_|11,_|12,_|13,_|14,_|15,_|16,_|17,_|18,_|19,_|20,_|21,_|22,_|23,_|24,_|25,_=>rfl
     |26,o=>rw[A] at o;cases o
     |27,o=>rw[ae] at o;cases o
     |_+28,_=>rfl) ?_
   try simp only[zzQ]
   refine za2 (zg !G) (by rfl) (by rfl) (λf e d=>⟨d.1,d.2⟩) (λf e h d=>by go_simp) ?_
   try simp only[zzQ]
   refine zls λf bf h d=>?_;rcases d.2 (h 26 (by decide)) with⟨rfl,af⟩|⟨rfl,ai⟩
   ·have az:=hid af
    clear af h d s U L K ap aq au a0 aa;gi_wp2_with fail;go_roundw
    case rel=>exact⟨i+1,by omega,by omega,by first|rfl|go_num,az⟩
    case measure=>simp[zL];omega
   ·have a':=hid ai
    clear ai h d s U L K ap aq au a0 aa;gi_wp2_with fail;refine bodyPost_ret (results_none rfl _ _ _) rfl ?_;exact⟨⟨_,rfl⟩,.inr a'.out⟩
  ·have ay:=hid (show i-1=(triQ m).length by have:=I.2.1;have:=I.2.2;omega)
   have a0:¬((i:Int)+1<(B:Int)):=by omega
   gi_wp2_with fail;go_end0;exact⟨⟨_,rfl⟩,.inl (by rw[<-ay.out];exact Z.out)⟩
end
section
open Go.RowKit Go.Shelf Lib Str Limb
def cP (p:Pq):Nat->Rat
 |0=>p.x
 |1=>p.y
 |_=>p.z
def crT (b c:Pq):Nat->Rat
 |0=>b.y*c.z-b.z*c.y
 |1=>b.z*c.x-b.x*c.z
 |_=>b.x*c.y-b.y*c.x
def totJ (a b c:Pq) (q:Rat):Nat->Rat
 |0=>q
 |j+1=>totJ a b c q j+cP a j*crT b c j
def totT (l:List Pq) (L:List (Nat×Nat×Nat)) (q:Rat):Nat->Rat
 |0=>q
 |k+1=>totJ (getP l (L[k]?.getD (0,0,0)).1) (getP l (L[k]?.getD (0,0,0)).2.1) (getP l (L[k]?.getD (0,0,0)).2.2) (totT l L q k) 3
theorem yhy {l:List Pq} {L:List (Nat×Nat×Nat)} {q:Rat} {k x y z:Nat} (h:L[k]? =zq (x,y,z)):totT l L q (k+1)=totJ (getP l x) (getP l y) (getP l z) (totT l L q k) 3:=by
 show totJ (getP l (L[k]?.getD (0,0,0)).1) (getP l (L[k]?.getD (0,0,0)).2.1) (getP l (L[k]?.getD (0,0,0)).2.2) (totT l L q k) 3=_;rw[h];rfl
theorem yly {p:Pq} {k:Nat} (h:sz3 p.x p.y p.z k):∀j,sz (cP p j) k
 |0=>h.1
 |1=>h.2.1
 |_+2=>h.2.2
theorem ylh {b c:Pq} (a:sz3 b.x b.y b.z 10) (d:sz3 c.x c.y c.z 10):∀j,sz (crT b c j) 41
 |0=>zfq (zca a.2.1 d.2.2) (zca a.2.2 d.2.1)
 |1=>zfq (zca a.2.2 d.1) (zca a.1 d.2.2)
 |_+2=>zfq (zca a.1 d.2.1) (zca a.2.1 d.1)
theorem yhz (a:Nat) (g:Value) (u v:SlT) (x y:Rat) (m:sz x 60) (hy:sz y 60) (o:sz (x*y) 60) (w:zA) (hw:Hw w) (h:SumB a g w) (k:SdL (slV u) (rs x) w) (l:SdL (slV v) (rs y) w):
 zC zF 59 #[zf (zq ⟨a,0,zp⟩),slV u,slV v] w λe w'=>∃p n c,e=zo (z7 p n c)/\zB w.heap.size w w'/\SdL (z7 p n c) (rs (x*y)) w':=
 yhu a g (slV u) (slV v) (λv j=>SdL v (rs (x*y)) j) w h ⟨_,_,_,rfl⟩ ⟨_,_,_,rfl⟩ (hid λ_ _ _ q d=>q.below d) (hid λi b=>by
  refine(ylg _ _ x y m hy o i (hw.below b) (k.below b) (l.below b)).mono ?_;rintro e w' ⟨r,rfl,d,f⟩;obtain⟨p,n,c,rfl⟩:=f.any;exact⟨p,n,c,rfl,d,f⟩)
theorem yli (b:Nat) (g:Value) (u v:SlT) (x y:Rat) (m:sz x 60) (hy:sz y 60) (o:sz (x-y) 60) (w:zA) (hw:Hw w) (h:SumB b g w) (k:SdL (slV u) (rs x) w) (l:SdL (slV v) (rs y) w):
 zC zF 94 #[zf (zq ⟨b,0,zp⟩),slV u,slV v] w λe w'=>∃p n c,e=zo (z7 p n c)/\zB w.heap.size w w'/\SdL (z7 p n c) (rs (x-y)) w':=
 yhv b g (slV u) (slV v) (λv j=>SdL v (rs (x-y)) j) w h ⟨_,_,_,rfl⟩ ⟨_,_,_,rfl⟩ (hid λ_ _ _ q d=>q.below d) (hid λi a=>by
  refine(zqj _ _ x y m hy o i (hw.below a).d (hw.below a).p (k.below a) (l.below a)).mono ?_;rintro e w' ⟨r,rfl,d,f⟩;obtain⟨p,n,c,rfl⟩:=f.any;exact⟨p,n,c,rfl,d,f⟩)
theorem yko (o:Nat) (C:Value) (b c:Nat->SlT) (g i:Pq) (f:sz3 g.x g.y g.z 10) (k:sz3 i.x i.y i.z 10) (w:zA) (hw:Hw w) (h:SumB o C w) (s:MrkP (slV (b 0)) (slV (b 1)) (slV (b 2)) g w) (t:MrkP (slV (c 0)) (slV (c 1)) (slV (c 2)) i w):
 ∀j:Nat,j<3->zC zF 60 #[zf (zq ⟨o,0,zp⟩),zh #[slV (b 0),slV (b 1),slV (b 2)],zh #[slV (c 0),slV (c 1),slV (c 2)],zj zm (j:Int)] w λe w'=>∃p n c,e=zo (z7 p n c)/\zB w.heap.size w w'/\SdL (z7 p n c) (rs (crT g i j)) w':=by
 have u:∀(q d:SlT) (l m:Rat),sz l 10->sz m 10->SdL (slV q) (rs l) w->SdL (slV d) (rs m) w->∀a:zA,qL w a->zC zF 59 #[zf (zq ⟨o,0,zp⟩),slV q,slV d] a λe w'=>∃p n c,e=zo (z7 p n c)/\zB a.heap.size a w'/\SdL (z7 p n c) (rs (l*m)) w':=
  λq d l m v x z A a r=>yhz o C q d l m (v.mono (by omega)) (x.mono (by omega)) ((zca v x).mono (by omega)) a (hw.below r) (h.below r) (z.below r) (A.below r)
 have B:∀(l m:Rat),sz l 20->sz m 20->∀(a:zA) (q d:SlT),qL w a->SdL (slV q) (rs l) a->SdL (slV d) (rs m) a->zC zF 94 #[zf (zq ⟨o,0,zp⟩),slV q,slV d] a λe w'=>∃p n c,e=zo (z7 p n c)/\zB a.heap.size a w'/\SdL (z7 p n c) (rs (l-m)) w':=
  λl m v x a q d r z A=>yli o C q d l m (v.mono (by omega)) (x.mono (by omega)) ((zfq v x).mono (by omega)) a (hw.below r) (h.below r) z A
 intro j D
 match j,D with
 |0,_=>exact za5 o 0 1 2 (by omega) (by omega) (by omega) rfl rfl b c (λd a=>SdL d (rs (g.y*i.z)) a) (λd a=>SdL d (rs (g.z*i.y)) a) (λd a=>SdL d (rs (g.y*i.z-g.z*i.y)) a) w (hid λ_ _ _ y f=>y.below f) (hid (u _ _ _ _ f.2.1 k.2.2 s.y t.z)) (hid (u _ _ _ _ f.2.2 k.2.1 s.z t.y)) (hid (B _ _ (zca f.2.1 k.2.2) (zca f.2.2 k.2.1)))
 |1,_=>exact za5 o 1 2 0 (by omega) (by omega) (by omega) rfl rfl b c (λd a=>SdL d (rs (g.z*i.x)) a) (λd a=>SdL d (rs (g.x*i.z)) a) (λd a=>SdL d (rs (g.z*i.x-g.x*i.z)) a) w (hid λ_ _ _ y f=>y.below f) (hid (u _ _ _ _ f.2.2 k.1 s.z t.x)) (hid (u _ _ _ _ f.1 k.2.2 s.x t.z)) (hid (B _ _ (zca f.2.2 k.1) (zca f.1 k.2.2)))
 |2,_=>exact za5 o 2 0 1 (by omega) (by omega) (by omega) rfl rfl b c (λd a=>SdL d (rs (g.x*i.y)) a) (λd a=>SdL d (rs (g.y*i.x)) a) (λd a=>SdL d (rs (g.x*i.y-g.y*i.x)) a) w (hid λ_ _ _ y f=>y.below f) (hid (u _ _ _ _ f.1 k.2.1 s.x t.y)) (hid (u _ _ _ _ f.2.1 k.1 s.y t.x)) (hid (B _ _ (zca f.1 k.2.1) (zca f.2.1 k.1)))
theorem zpc {h:Fence} {n:Nat} {P:Program} {fn:Func} {tmps:Array Value} {R:Ending->zA->Prop} (B:Nat):∀(b:List Nat) (a:zA),(∀D∈b,B<=D/\a.heap[D]? =zq (.deferred (zq [])))->b.Nodup->
 (∀c,CellsKept a c->zB B a c->LeavesInM h n P fn tmps R [] .returning c)->LeavesInM h n P fn tmps R (b.map λD=>{target:=.collected D,args:= #[]}) .returning a
 |[],a,_,_,d=>d a (λ_ _ _ _ d=>d) (zM _ _)
 |D::b,a,hD,hn,d=>by
  obtain⟨k,f⟩:=hD D List.mem_cons_self;have i:=List.nodup_cons.1 hn;refine⟨by simp,.inl ⟨D,_,rfl,run_takeDeferred f,?_⟩⟩;refine zpc B b _ (λg e=>⟨(hD g (List.mem_cons_of_mem _ e)).1,?_⟩) i.2 (λc m l=>d c (λq p r fz o=>m _ _ _ _ (zbk f _ _ _ _ o)) ((zcx (B:=B) _ f k).trans l));rw[World.putObj_heap_other (λj=>i.1 (by rw[<-j];exact e))];exact(hD g (List.mem_cons_of_mem _ e)).2
structure VolS (w0:zA) (A:Nat) (q:Rat) (Ds:List Nat) (v:Value) (W:zA):Prop where
 bel:qL w0 W
 lo:w0.heap.size<=A
 sum:SumB A v W
 sd:SdL v (rs q) W
 ds:∀D∈Ds,w0.heap.size<=D/\W.heap[D]? =zq (.deferred (zq []))
 nd:Ds.Nodup
section
variable {w0:zA} {A:Nat} {q:Rat} {Ds:List Nat} {v:Value} {W W':zA}
theorem VolS.next (h:VolS w0 A q Ds v W) (b:qL W W'):VolS w0 A q Ds v W':=
 ⟨h.bel.trans (b.mono h.bel.size),h.lo,h.sum.below b,h.sd.below b,λa c=>⟨(h.ds a c).1,(b.block a (Array.getElem?_eq_some_iff.1 (h.ds a c).2).1).trans (h.ds a c).2⟩,h.nd⟩
theorem VolS.keep (h:VolS w0 A q Ds v W) {B:Nat} (d:w0.heap.size<=B) (e:∀D∈Ds,D<B) (c:CellsKept W W') (a:zB B W W'):VolS w0 A q Ds v W':=
 ⟨h.bel.trans (a.mono d),h.lo,c _ _ _ _ h.sum,h.sd.kept c a.size,λD b=>⟨(h.ds D b).1,(a.block D (e D b)).trans (h.ds D b).2⟩,h.nd⟩
theorem VolS.add (h:VolS w0 A q Ds v W) {i:Rat} {V:zA} {u:Value} (k:qL W V) (l:SdL u (rs i) V) (_:isSl u) (m:isSl v) (j:SumB A u (V.setCell ⟨A,0,zp⟩ u)):VolS w0 A i Ds u (V.setCell ⟨A,0,zp⟩ u):=by
 have c:=h.next k;obtain⟨p,o,c1,rfl⟩:=m;refine⟨c.bel.setCell (by dsimp only;exact h.lo) _,h.lo,j,?_,λd e=>⟨(h.ds d e).1,?_⟩,h.nd⟩
 ·refine l.setSl c.sum (λg s a r b=>?_) 0 u
  match g,a with
  |0,a=>cases a;cases b
  |1,a=>cases a;cases b
  |g+2,a=>simp at a
 ·rw[yE _ _ _ _ (λb=>?_)]
  ·exact(c.ds d e).2
  ·have b:d=A:=b
   have f:=(c.ds d e).2;rw[b,show V.heap[A]? =_ from c.sum] at f;cases f
end
end
section
open Go.RowKit Go.Shelf Lib Str Limb
attribute [local go_sem] Oper.semAt_some
theorem RowMk.funs {p:Option Addr} {l:List Pq} {e:zA} (h:RowMk p l e):∃a b c:Nat->SlT,∀x,x<l.length->yjp p a b c e x/\MrkP (slV (a x)) (slV (b x)) (slV (c x)) (getP l x) e:=by
 have o:∀x,∃d:SlT×SlT×SlT,x<l.length->(∃f j,p=zq ⟨f,j,zp⟩/\e.cell? ⟨f,j+x*3,zp⟩=zq (slV d.1)/\e.cell? ⟨f,j+x*3+1,zp⟩=zq (slV d.2.1)/\e.cell? ⟨f,j+x*3+2,zp⟩=zq (slV d.2.2))/\MrkP (slV d.1) (slV d.2.1) (slV d.2.2) (getP l x) e:=λx=>by
  by_cases i:x<l.length
  ·have k:l[x]? =zq l[x]:=yB i
   obtain⟨b,z,D,E,F,n,q,r,s,g⟩:=h x _ k;have t:getP l x=l[x]:=by unfold getP;rw[k];rfl
   obtain⟨A,v,m,rfl⟩:=g.x.any;obtain⟨B,w,c1,rfl⟩:=g.y.any;obtain⟨C,y,c2,rfl⟩:=g.z.any;exact⟨((A,v,m),(B,w,c1),(C,y,c2)),λ_=>⟨⟨b,z,n,q,r,s⟩,by rw[t];exact g⟩⟩
  ·exact⟨((zp,0,0),(zp,0,0),(zp,0,0)),λh=>(i h).elim⟩
 obtain⟨d,u⟩:=Classical.axiomOfChoice o;exact⟨λx=>(d x).1,λx=>(d x).2.1,λx=>(d x).2.2,λx i=>u x i⟩
def t3 (u v w:SlT):Nat->SlT
 |0=>u
 |1=>v
 |_=>w
theorem yi4 (u v w:SlT) (j:Nat) (b:j<3) (a:zA):(Instr.index 119 (zh #[slV u,slV v,slV w]) (zj zm (j:Int))).run zF a=.ok (slV (t3 u v w j)) a:=by
 match j,b with
 |0,_=>exact(by kernel_rfl:(Instr.index 119 (zh #[slV u,slV v,slV w]) (zj zm 0)).run zF a=.ok (slV u) a)
 |1,_=>exact(by kernel_rfl:(Instr.index 119 (zh #[slV u,slV v,slV w]) (zj zm 1)).run zF a=.ok (slV v) a)
 |2,_=>exact(by kernel_rfl:(Instr.index 119 (zh #[slV u,slV v,slV w]) (zj zm 2)).run zF a=.ok (slV w) a)
theorem ye5 {k:zA} {j:Nat} {a b c d e f g h i:Value} {t:TypeId} (l:k.heap[j]? =zq (zn #[a,b,c,d,e,f,g,h,i] t (0,0))):k.cell? ⟨j,0,zp⟩=zq a/\k.cell? ⟨j,1,zp⟩=zq b/\k.cell? ⟨j,2,zp⟩=zq c/\k.cell? ⟨j,3,zp⟩=zq d/\k.cell? ⟨j,4,zp⟩=zq e/\k.cell? ⟨j,5,zp⟩=zq f/\k.cell? ⟨j,6,zp⟩=zq g/\k.cell? ⟨j,7,zp⟩=zq h/\k.cell? ⟨j,8,zp⟩=zq i:=
 ⟨by rw[zJ l];rfl,by rw[zJ l];rfl,by rw[zJ l];rfl,by rw[zJ l];rfl,by rw[zJ l];rfl,by rw[zJ l];rfl,by rw[zJ l];rfl,by rw[zJ l];rfl,by rw[zJ l];rfl⟩
theorem ykp {a:List Nat} {t x y z:Nat} (h:(triQ a)[t]? =zq (x,y,z)):x∈a/\y∈a/\z∈a:=by
 have i:t<a.length-2:=by have:=(List.getElem?_eq_some_iff.1 h).1;rwa [ydg] at this
 rw[ye4 i] at h;have b:a[0]? =zq (a[0]'(by omega)):=yB _;have c:a[t+1]? =zq (a[t+1]'(by omega)):=yB _;have d:a[t+2]? =zq (a[t+2]'(by omega)):=yB _;rw[c,d,List.headD_eq_head?_getD,List.head?_eq_getElem?,b] at h;injection h with h;injection h with e h;injection h with f g;subst e;subst f;subst g;exact⟨List.mem_of_getElem? b,List.mem_of_getElem? c,List.mem_of_getElem? d⟩
theorem IntL.any {v:Value} {L:List Nat} {W:zA} (h:IntL v L W):∃p n c,v=z7 p n c:=by
 rcases h with⟨rfl, -⟩|⟨b,c,rfl, -⟩
 ·exact⟨_,_,_,rfl⟩
 ·exact⟨_,_,_,rfl⟩
theorem yeh (p:Option Addr) (n cap:Nat) (l:List Pq) (dt:l.length<=4000) (m:Nat) (ew:m<=4000) (S:Nat->List Nat) (u:Nat->Rat) (w:zA) (hw:Hid (Hw w)) (c2:u 0=0)
 (au:Hid (∀x,x<l.length->sz3 (getP l x).x (getP l x).y (getP l x).z 10)) (b9:Hid (∀i,i<m->(S i).length<=4000/\∀x∈S i,x<l.length)) (b3:Hid (∀i,i<m->u (i+1)=totT l (triQ (S i)) (u i) (triQ (S i)).length))
 (b4:Hid (∀i,i<m->∀k x y z,(triQ (S i))[k]? =zq (x,y,z)->∀j,j<=3->sz (totJ (getP l x) (getP l y) (getP l z) (totT l (triQ (S i)) (u i) k) j) 60)) (b1:Hid (sz (u m) 60/\sz (u m*(1/6)) 60))
 (c0:Hid (zC zF 56 #[z7 p n cap] w λe w'=>∃t v T H,e=zo (ze #[z7 t l.length v,z7 T m H,zj zm 0])/\zB w.heap.size w w'/\RowMk t l w'/\RowOn T m S w')):
 zC zF 33 #[z7 p n cap] w λe w'=>∃q k c,e=zo (ze #[z7 q k c,zj zm 0])/\zB w.heap.size w w'/\SdL (z7 q k c) (rs (u m*(1/6))) w':=by
 refine(callsIn_wide (n:=3)).1 ?_;refine callsIn_of_wp_marks Tryz.func33 rfl trivial ?_ rfl;simp only[Tryz.ntmps33,List.size_toArray,List.length_cons,List.length_nil,Nat.reduceAdd,Nat.reduceSub,yU,yV,List.push_toArray,yX,List.nil_append,List.cons_append];gi_wp2_with fail;refine⟨trivial,(callsIn_wide.2 c0.out).mono ?_⟩;rintro e a ⟨t,v,T,H,rfl,f,bh,cp⟩;obtain⟨h,o,c,cr⟩:=bh.funs;have bi:=hw.below f;have P:=hid (⟨f,cp,cr,bi⟩:_/\_/\_/\_);clear f bh cp cr bi hw c0;gi_wp2_with fail;have da:VolS a a.heap.size (u 0) [] (z7 zp 0 0) (a.alloc (zn #[z7 zp 0 0,zj zm 0] 114)):=
  ⟨(zM _ a).alloc (zN _) _,zN _,zG _ _,by rw[c2,yag];exact SdL.nil _,λK ae=>(by cases ae),List.nodup_nil⟩
 have c1:=hid da;clear da c2;refine wpIn_loop_ghost_k (λgk c4 d=>∃(k:Nat) (E:List Nat) (b u9 u25 u26 u27 u28 u29 u30 u48:Value),k<=m/\m-k<gk/\isSl b/\Hid (VolS a a.heap.size (u k) E b d)/\c4={tmps:= #[z7 p n cap,zv,z7 zp 0 0,zj zm 0,z7 t l.length v,z7 T m H,zj zm 0,zf (zq {block:=a.heap.size,off:=0}),zv,u9,zv,zv,zv,ze #[z7 t l.length v,z7 T m H,zj zm 0],z7 p n cap,ze #[z7 t l.length v,z7 T m H,zj zm 0],z7 t l.length v,z7 T m H,zj zm 0,zj zm 0,zg zu,zv,z7 T m H,zj zm (m:Int),zj zm (k:Int),u25,u26,u27,u28,u29,u30,zv,zv,zv,zv,zv,zv,zv,zv,zv,zv,zv,zv,zv,zv,zv,zv,zv,u48,zv,zv,zv],defers:=E.map λK=>{target:=.collected K,args:= #[]}}) (m+1) ?start ?round
 case start=>exact⟨0,[],_,_,_,_,_,_,_,_,_,zR _,by omega,⟨_,_,_,rfl⟩,c1,rfl⟩
 case round=>
  clear c1;rintro gk c4 s ⟨k,E,b,u9,u25,u26,u27,u28,u29,u30,u48,bh,eu,⟨ec,eb,ea,rfl⟩,C,rfl⟩ ep dg ba a6;have bi:zm.wrap ((k:Int)+1)=((k+1:Nat):Int):=by rw[zI _ ⟨by omega,by omega⟩];omega
  by_cases hlt:k<m
  ·have dw:decide ((k:Int)<(m:Int))=zt:=decide_eq_true (by omega)
   obtain⟨a4,a5,es,rfl,cq,bg⟩:=P.2.1 k hlt;obtain⟨O,d0,N,rfl⟩:=bg.any;have Y:=zai C.bel cq;have a1:=hid bg;clear cq bg;gi_wp2_with fail;clear Y;refine⟨trivial,(callsIn_wide.2 (ykm t O l.length v d0 N s)).mono ?_⟩;rintro e D ⟨rfl,f,c5,c6⟩;have Q:=hid (⟨C.next f,c5,c6,f⟩:_/\_/\_/\_);clear f c5 c6;gi_wp2_with fail;have cg:=C.bel.size;have co:∀K∈E,K<D.heap.size:=λK ae=>(Array.getElem?_eq_some_iff.1 ((Q.1.ds K ae).2)).1;have a2:=hid (⟨C.bel.size,Q.2.2.2.size,co,Q.1.bel.size⟩:a.heap.size<=s.heap.size/\s.heap.size<=D.heap.size/\_/\a.heap.size<=D.heap.size);clear cg co;obtain⟨A,cf⟩:=zzX (S k);have F:=hid (b9 k hlt);have a8:=hid (b3 k hlt);have a9:=hid (b4 k hlt);rw[<-cf] at F a8 a9 a1;clear cf;have b':=λdu=>ykn 2 (by omega) (s.heap.size+1) s.heap.size O t N v l.length dt A F.2 F.1 h o c (λd=>d.cell? ⟨s.heap.size+1,0,zp⟩=zq (z7 O A.length N)/\d.cell? ⟨s.heap.size,0,zp⟩=zq (z7 t l.length v)/\zB a.heap.size a d) du;have ds:d0=A.length:=by
    rcases a1.out with⟨e,b6⟩|⟨_,_,e,_⟩
    ·cases e;rw[b6];rfl
    ·cases e;rfl
   subst ds;have ao:=b' λd g=>⟨g.1,g.2.1,λi x bf=>by
    rcases a1.out with⟨-,b6⟩|⟨dh,a3,e,ap,ad⟩
    ·rw[b6] at bf;cases bf
    ·cases e;exact⟨dh,rfl,zai g.2.2 (ad i x bf)⟩,λx dz=>by
    obtain⟨⟨I,ai,e,dl,ap,ad⟩, -⟩:=P.2.2.1 x dz;exact⟨I,ai,e,zai g.2.2 dl,zai g.2.2 ap,zai g.2.2 ad⟩⟩
   clear b' b9 b3 b4
   refine z9z (n:=3) (B:=D.heap.size) rfl (by omega) rfl trivial (enters_of Tryz.func89 (by kernel_rfl) rfl) ao (λk args g=>by obtain⟨x,y,z, -,rfl⟩:=g;rfl) (zN _)
    (λJ d=>(∃b,isSl b/\VolS a a.heap.size (totT l (triQ A) (u k) J) E b d)/\d.cell? ⟨s.heap.size+1,0,zp⟩=zq (z7 O A.length N)/\d.cell? ⟨s.heap.size,0,zp⟩=zq (z7 t l.length v))
    (λ_ _ _=>False)
    (λJ d G g U f=>⟨let ⟨b,R,r⟩:=g.1;⟨b,R,r.keep a2.2.2.2 a2.2.2.1 U f⟩,U.cell g.2.1,U.cell g.2.2⟩) (λc k d G g U f=>g) (λJ d g=>let ⟨b,R,r⟩:=g.1;⟨g.2.1,g.2.2,r.bel⟩) ⟨⟨_,⟨_,_,_,rfl⟩,Q.1⟩,Q.2.2.1,Q.2.1⟩
    (λJ _ b5 d=>∃I x y z,(triQ A)[J]? =zq (x,y,z)/\D.heap.size<=I/\d.heap[I]? =zq (zn #[slV (h x),slV (o x),slV (c x),slV (h y),slV (o y),slV (c y),slV (h z),slV (o z),slV (c z)] 120 (0,0))/\b5=({tmps:= #[z7 p n cap,zv,z7 zp 0 0,zj zm 0,z7 t l.length v,z7 (zq {block:=a4,off:=a5}) m H,zj zm 0,zf (zq {block:=a.heap.size,off:=0}),zv,z7 O A.length N,zf (zq {block:=I,off:=0}),zv,zv,ze #[z7 t l.length v,z7 (zq {block:=a4,off:=a5}) m H,zj zm 0],z7 p n cap,ze #[z7 t l.length v,z7 (zq {block:=a4,off:=a5}) m H,zj zm 0],z7 t l.length v,z7 (zq {block:=a4,off:=a5}) m H,zj zm 0,zj zm 0,zg zu,zv,z7 (zq {block:=a4,off:=a5}) m H,zj zm (m:Int),zj zm (k:Int),zg zt,zf (zq {block:=a4,off:=a5+k}),z7 O A.length N,z7 t l.length v,z7 O A.length N,Value.func (Fn.func 89) #[] #[zf (zq {block:=s.heap.size+1,off:=0}),zf (zq {block:=s.heap.size,off:=0})],zh #[slV (h x),slV (o x),slV (c x),slV (h y),slV (o y),slV (c y),slV (h z),slV (o z),slV (c z)],zv,zv,zv,zv,zv,zv,zv,zv,zv,zv,zv,zv,zv,zv,zv,zv,u48,zv,zv,zv],defers:=[]}:Act))
    (λJ _ b5 eq er g U f=>let ⟨I,x,y,z,e,ap,ad,dm⟩:=g;⟨I,x,y,z,e,ap,U _ _ _ _ ad,dm⟩) ?assign ?body ?done ?stop
   case assign=>
    rintro av J args d dg dv dx ⟨⟨b,R,r⟩,af,ag⟩ cx ⟨x,y,z,a0,rfl⟩ a6;have bv:=hid a6;clear a6;obtain⟨aj,ar⟩:=dx;have ck:D.heap.size<=d.heap.size:=by have:=(Array.getElem?_eq_some_iff.1 ar).1;omega
    obtain⟨c3,bc⟩:=zzX (d.alloc (zn #[slV (h x),slV (o x),slV (c x),slV (h y),slV (o y),slV (c y),slV (h z),slV (o z),slV (c z)] 120));obtain⟨b2,bs⟩:=hbxU bc;have df:=hid (⟨(za0 b2).from D.heap.size,⟨b,R,r.next b2⟩,zai b2 af,zai b2 ag,a0,ck,bs⟩:KeepsFrom D.heap.size d c3/\(∃b,isSl b/\VolS a a.heap.size (totT l (triQ A) (u k) J) E b c3)/\_/\_/\_/\_/\_);have bx:=hid bc.symm;clear R r af ag ar a0 ck b2 bs bc ao a8 a9 F a1 Q ba a6;simp only[slV] at bx bv⊢;gi_wp2;rw[bx.out];obtain⟨ee,ef,eg,eh,ei,ej,ek⟩:=df.out;exact bv _ _ ee ⟨ef,eg,eh⟩ ⟨d.heap.size,x,y,z,ei,ej,ek,rfl⟩
   case body=>
    rintro av J args b5 d dv ⟨aj,ar⟩ ⟨⟨b,R,r⟩,af,ag⟩ cx dp ⟨I,x,y,z,a0,cs,b7,rfl⟩;obtain⟨f4,f3,f1,rfl⟩:=R;obtain⟨bj,bk,bn⟩:=ykp a0;obtain⟨-,d5⟩:=P.2.2.1 x (F.2 x bj);obtain⟨-,d7⟩:=P.2.2.1 y (F.2 y bk);obtain⟨-,d8⟩:=P.2.2.1 z (F.2 z bn);have am:=hid (⟨d5,d7,d8⟩:_/\_/\_);have bz:=hid (⟨au x (F.2 x bj),au y (F.2 y bk),au z (F.2 z bn)⟩:_/\_/\_);have an:=hid (a9 J x y z a0);have bw:=hid (yhy (l:=l) (q:=u k) a0);have bu:=hid (⟨cs,a2.2.1,a2.2.2.2⟩:D.heap.size<=I/\s.heap.size<=D.heap.size/\_);have de:=hid (show a.heap.size<s.heap.size from(Array.getElem?_eq_some_iff.1 (show s.heap[a.heap.size]? =_ from C.sum)).1);obtain⟨bq,cy⟩:=zzX (totT l (triQ A) (u k) J);rw[<-cy] at r an bw;have a7:=hid (⟨r,b7,af,ag⟩:_/\_/\_/\_);obtain⟨Y,ab,ac, -⟩:=ye5 b7;clear d5 d7 d8 bj bk bn r b7 af ag ar a0 dp cs ao a8 a9 F a1 Q ba a6 C cy cx;simp only[slV] at Y ab ac;gi_wp2_with fail;clear Y ab ac;gi_loopg [34] 4 (λe1 d' wr=>∃j:Nat,j<=3/\3-j<e1/\d'=zj zm (j:Int)/\Hid ((∃b,isSl b/\VolS a a.heap.size (totJ (getP l x) (getP l y) (getP l z) bq j) E b wr)/\wr.heap[I]? =zq (zn #[slV (h x),slV (o x),slV (c x),slV (h y),slV (o y),slV (c y),slV (h z),slV (o z),slV (c z)] 120 (0,0))/\wr.cell? ⟨s.heap.size+1,0,zp⟩=zq (z7 O A.length N)/\wr.cell? ⟨s.heap.size,0,zp⟩=zq (z7 t l.length v)/\KeepsFrom D.heap.size d wr))
    case atStart=>exact⟨0,by omega,by omega,rfl,hid ⟨⟨_,⟨_,_,_,rfl⟩,a7.1⟩,a7.2.1,a7.2.2.1,a7.2.2.2,KeepsFrom.refl _ _⟩⟩
    case round=>
     clear a7;obtain⟨j,dr,ex,rfl,al⟩:=hrel;by_cases hlj:j<3
     ·obtain⟨⟨f0,⟨e5,e2,e0,rfl⟩,M⟩,b8,cl,cm,ct⟩:=al.out
      have V:=P.2.2.2.below M.bel;have aw:=am.1.below M.bel;have d2:=am.2.1.below M.bel;have d3:=am.2.2.below M.bel;obtain⟨c',bl,bm⟩:=bz.out;have ak:=hid (yko a.heap.size _ (t3 (h y) (o y) (c y)) (t3 (h z) (o z) (c z)) (getP l y) (getP l z) bl bm wr V M.sum d2 d3 j hlj);have ay:=ylh bl bm j;have ax:=yly c' j;have d6:SdL (slV (t3 (h x) (o x) (c x) j)) (rs (cP (getP l x) j)) wr:=by
       match j,hlj with
       |0,_=>exact aw.x
       |1,_=>exact aw.y
       |2,_=>exact aw.z
      have b0:=hid (λ(G:zA) (p:Option Addr) (n aa:Nat) (f:qL wr G) (g:SdL (z7 p n aa) (rs (crT (getP l y) (getP l z) j)) G)=>yhz a.heap.size _ (t3 (h x) (o x) (c x) j) (p,n,aa) (cP (getP l x) j) (crT (getP l y) (getP l z) j) (ax.mono (by omega)) (ay.mono (by omega)) ((zca ax ay).mono (by omega)) G (V.below f) (M.sum.below f) (d6.below f) g);have a':=hid (show ∀(G:zA) (p:Option Addr) (n aa:Nat),qL wr G->SdL (z7 p n aa) (rs (cP (getP l x) j*crT (getP l y) (getP l z) j)) G->zC zF 58 #[zf (zq ⟨a.heap.size,0,zp⟩),z7 p n aa] G λe w'=>∃aj,e=zo aj/\(∃b,isSl b/\VolS a a.heap.size (totJ (getP l x) (getP l y) (getP l z) bq (j+1)) E b w')/\w'.heap[I]? =zq (zn #[slV (h x),slV (o x),slV (c x),slV (h y),slV (o y),slV (c y),slV (h z),slV (o z),slV (c z)] 120 (0,0))/\w'.cell? ⟨s.heap.size+1,0,zp⟩=zq (z7 O A.length N)/\w'.cell? ⟨s.heap.size,0,zp⟩=zq (z7 t l.length v)/\KeepsFrom D.heap.size d w' from λG p n a3 f g=>by
       refine(yhx a.heap.size e5 p e2 n e0 a3 (λb d=>SdL b (rs (totJ (getP l x) (getP l y) (getP l z) bq (j+1))) d) G (M.sum.below f) (hid λ_ _ _ k f=>k.below f) (hid λX Z=>?_)).mono ?_
       ·refine(zno _ _ _ _ (an j (by omega)) ((zca ax ay).mono (by omega)) (an (j+1) (by omega)) X ((V.below f).below Z).d ((V.below f).below Z).p ((M.sd.below f).below Z) (g.below Z)).mono ?_
        rintro e w' ⟨e9,rfl,bd,ah⟩;obtain⟨bp,bo,a3,rfl⟩:=ah.any;exact⟨bp,bo,a3,rfl,bd,ah⟩
       ·rintro e w' ⟨b,X,aj,rfl,cj,dy,cz,rfl,et,dq⟩
        have aq:=f.trans (cj.mono f.size);have d9:∀q:Nat,a.heap.size<q->∀ai,((X.setCell ⟨a.heap.size,0,zp⟩ b).cell? ⟨q,ai,zp⟩=X.cell? ⟨q,ai,zp⟩):=λq ey ai=>(ze3 _ _ _ (by show a.heap.size≠q;omega)).1;have cg:=de.out;refine⟨aj,rfl,⟨b,cz,(M.next f).add cj dy cz ⟨_,_,_,rfl⟩ dq⟩,?_,?_,?_,?_⟩
        ·rw[yE _ _ _ _ (show I≠a.heap.size by have:=bu.1;have:=bu.2.1;omega)]
         exact zac aq _ _ _ _ b8
        ·rw[d9 _ (by omega)];exact zai aq cl
        ·rw[d9 _ (by omega)];exact zai aq cm
        ·exact ct.trans (((za0 aq).from _).trans ((KeepsOthers.setCell X _ _).from _)))
      obtain⟨Y,ab,ac,c7,c8,c9,ca,cb,cc⟩:=ye5 b8;simp only[slV] at Y ab ac c7 c8 c9 ca cb cc;clear M b8 cl cm ct V aw d2 d3 c' bl bm ay ax d6 al bz am an dr;have ez:zm.wrap ((j:Int)+1)=((j+1:Nat):Int):=by rw[zI _ ⟨by omega,by omega⟩];omega
      have ev:decide ((j:Int)<3)=zt:=decide_eq_true (by omega);have e8:=yi4 (h x) (o x) (c x) j hlj;have cn:3-(j+1)<gk-1/\gk-1<gk:=by omega
      have bt:=hid cn;clear cn;simp only[slV] at e8 ak b0 a';generalize (t3 (h x) (o x) (c x) j)=f2 at*
      simp only[t3] at ak;gi_wp2_with fail;clear Y ab ac c7 c8 c9 ca cb cc;refine⟨trivial,(CallsIn.inRound av (callsIn_wide.2 ak.out)).mono ?_⟩;rintro e br ⟨e6,e3,di,rfl,ch,cv⟩;have L:=hid (⟨ch,cv⟩:_/\_);clear ch cv ak;gi_wp2_with fail;refine⟨trivial,(CallsIn.inRound av (callsIn_wide.2 (b0 br e6 e3 di L.1 L.2))).mono ?_⟩;rintro e ed ⟨e7,e4,dj,rfl,ci,cw⟩;have az:=hid (⟨L.1.trans (ci.mono L.1.size),cw⟩:_/\_);clear ci cw L b0;gi_wp2_with fail;refine⟨trivial,(CallsIn.inRound av (callsIn_wide.2 (a' ed e7 e4 dj az.1 az.2))).mono ?_⟩;rintro e f5 ⟨e',rfl,cd⟩;have dc:=hid cd;clear cd az a';gi_wp2_with fail;gi_roundg (gk-1)
      case measure=>exact bt.2
      case rel=>exact⟨j+1,by omega,bt.1,by go_num,dc⟩
     ·obtain rfl:j=3:=by omega
      have W:=hid (show KeepsFrom D.heap.size d wr/\(∃b,isSl b/\VolS a a.heap.size (totT l (triQ A) (u k) (J+1)) E b wr)/\wr.cell? ⟨s.heap.size+1,0,zp⟩=zq (z7 O A.length N)/\wr.cell? ⟨s.heap.size,0,zp⟩=zq (z7 t l.length v) by
       rw[bw.out];obtain⟨el, -,em,en,eo⟩:=al.out;exact⟨eo,el,em,en⟩)
      clear al;gi_wp2_with fail;exact⟨W.1,W.2.1,W.2.2.1,W.2.2.2⟩
   case done=>
    rintro K d ae ⟨⟨b,R,r⟩, -, -⟩ ce;have cu:VolS a a.heap.size (u (k+1)) (K::E) b d:=⟨r.bel,r.lo,r.sum,by rw[a8.out];exact r.sd,λdb dn=>(List.mem_cons.1 dn).elim (λe=>by rw[e];exact⟨by have:=a2.2.2.2;omega,ce⟩) (r.ds db),List.nodup_cons.2 ⟨λg=>by have:=a2.2.2.1 K g;omega,r.nd⟩⟩;have dd:=hid cu;clear r cu ce ao a8 a9 F a1 Q C;have be:m-(k+1)<gk-1/\gk-1<gk/\k+1<=m:=by omega
    gi_wp2_with fail;exact Handed.intro (gk-1) be.2.1 (ba _ _ _ ⟨k+1,K::E,b,_,_,_,_,_,_,_,_,be.2.2,be.1,R,dd,rfl⟩)
   case stop=>
    rintro K c k d ae g a6;exact g.elim
  ·obtain rfl:k=m:=by omega
   have dw:decide ((k:Int)<(k:Int))=zu:=decide_eq_false (by omega);have W:=hid (yhw a.heap.size ec eb ea ⟨#[49,47,54]⟩ (λb d=>SdL b (rs (u k*(1/6))) d) s C.sum (hid λd bb=>yee a.heap.size _ _ ⟨#[49,47,54]⟩ (λb d=>SdL b (rs (u k*(1/6))) d) d (C.sum.below bb) ⟨_,_,_,rfl⟩ (hid λ_ _ _ k f=>k.below f) (hid λX Z=>by
    have V:=((P.2.2.2.below C.bel).below bb).below Z;have dk:St (numS (1/6))=z8 ⟨#[49,47,54]⟩:=by rw[show numS (1/6)=[49,47,54] by decide+kernel]
    rw[<-dk];refine(ze2 _ (u k) (1/6) b1.1 ⟨by decide+kernel,by decide+kernel⟩ b1.2 X V.d V.p ((C.sd.below bb).below Z)).mono ?_;rintro e w' ⟨e9,rfl,bd,ah⟩;obtain⟨bp,bo,a3,rfl⟩:=ah.any;exact⟨bp,bo,a3,rfl,bd,ah⟩)))
   clear b9 b3 b4 b1 au;gi_wp2_with fail;refine⟨trivial,(callsIn_wide.2 W.out).mono ?_⟩;rintro e br ⟨q,d4,d1,rfl,f,r⟩;have L:=hid (⟨C.next f,r⟩:_/\_);clear f r W C;gi_wp2_with fail;refine zpc a.heap.size E br L.1.ds L.1.nd λG U f=>?_;exact⟨ze #[z7 q d4 d1,zj zm 0],by simp[results,Tryz.f33,go_sem],q,d4,d1,rfl,P.1.trans ((L.1.bel.trans f).mono P.1.size),L.2.kept U f.size⟩
end
section
open Go.RowKit Go.Shelf Lib Str Limb Go.Maps
theorem ye6:Keyed zF 3:=int_keyed Tryz.underlying3
theorem yi5 (w:zA):(zeroValue 3).run zF w=.ok (zj zm 0) w:=by kernel_rfl
abbrev kN (k:Nat):Lit:=.int zm k
def MapN (m:List (Nat×Nat)) (b:Nat) (W:zA):Prop:=
 ∃(n:Nat) (D:DataW Unit),W.ownsMap zF 3 (plainElem zF 3) b n D/\n<=m.length/\IsMap D/\
  ∀k:Nat,Maps.has D (kN k)=(m.lookup k).isSome/\D.atKey (kN k) (.lit (kN 0))=.lit (kN ((m.lookup k).getD 0))
theorem ygg {k:Nat} (h:k<2^62):(kN k).wf=zt:=WalkArith.wf_i64 (by omega)
theorem MapN.made (w:zA):MapN [] w.heap.size (w.alloc (.map #[] 0)):=⟨0,.map [],World.ownsMap_made _ _ _ _,zN _,isMap_empty,λ_=>⟨rfl,rfl⟩⟩
theorem MapN.lt {m:List (Nat×Nat)} {b:Nat} {a:zA} (h:MapN m b a):b<a.heap.size:=by obtain⟨e,d,c,_⟩:=h;exact c.lt
theorem MapN.below {m:List (Nat×Nat)} {b B:Nat} {a c:zA} (h:MapN m b a) (l:zB B a c) (k:b<B):MapN m b c:=by
 obtain⟨n,d,⟨f,e,g,i⟩,j⟩:=h;exact⟨n,d,⟨f,e,(l.block b k).trans g,i⟩,j⟩
theorem MapN.look {m:List (Nat×Nat)} {b:Nat} {a:zA} (h:MapN m b a) {k:Nat} (l:k<2^62):
 (Instr.lookup 203 (.map (some b)) (.int .i64 k) true).run zF a=.ok (.tuple #[.int .i64 (((m.lookup k).getD 0:Nat):Int),.bool (m.lookup k).isSome]) a:=by
 obtain⟨r,n,j,p,q,d⟩:=h;obtain⟨t,s,e,f⟩:=j.look_ok ye6 Tryz.underlying203 (yi5 a) (plainElem_int Tryz.underlying3 (by decide)) (keyOf_int_mk Tryz.underlying3 (ygg l));obtain⟨o,rfl,g,_⟩:=plainElem_int_inv Tryz.underlying3 f;have i:=(d k).2;have c:=(congrArg Prod.fst g).symm.trans i;rw[e,(d k).1];simp only[DataW.lit.injEq,Lit.int.injEq,true_and] at c;rw[c]
theorem MapN.put {m:List (Nat×Nat)} {b:Nat} {c:zA} (h:MapN m b c) {k v:Nat} (p:k<2^62) (q:v<2^62) (u:m.length<2^40):
 ∃a,(Instr.mapUpdate 203 (.map (zq b)) (zj zm k) (zj zm v)).run zF c=.ok () a/\MapN ((k,v)::m) b a/\c.grownBy a (zq b):=by
 obtain⟨r,s,n,t,d,o⟩:=h;obtain⟨a,i,j,l⟩:=n.update ye6 Tryz.underlying203 (by unfold maxLen;omega) (keyOf_int_mk Tryz.underlying3 (ygg p)) (plainElem_int Tryz.underlying3 (ygg q));refine⟨a,i,⟨r+1,_,j,by simp;omega,d.put _ _,λe=>?_⟩,l⟩;by_cases hj:e=k
 ·subst hj
  rw[List.lookup_cons_self];exact⟨has_put_same d (by trivial) _,atKey_put_same d (by trivial) _ _⟩
 ·have f:kN e≠kN k:=λg=>hj (by simp only[Lit.int.injEq,true_and] at g;omega)
  rw[has_put_other f,atKey_put_other f,List.lookup_cons,beq_false_of_ne hj];exact o e
end
section
open Go.RowKit Go.Shelf Lib Str Limb
theorem zw6 {L:List Nat} {x:Nat}:x∈L↔∃k:Nat,L[k]? =zq x:=List.mem_iff_getElem?
theorem yei (v:Value) (a:List Nat) (x:Nat) (H:a.length<=4096) (w:zA) (l:Hid (IntL v a w)):
 zC zF 213 #[v,zj zm (x:Int)] w λe w'=>∃r:Int,e=zo (zj zm r)/\(0<=r↔x∈a)/\zB w.heap.size w w':=by
 have s:=hid (zM w.heap.size w);obtain⟨I,C,rfl⟩:=l.slice;go_enter Tryz.func213,Tryz.ntmps213;go_wp21;go_loopw [8] (λq wr=>∃(b:Nat),b<=a.length/\q=zj zm (b:Int)/\Hid (qL w wr/\∀c,c<b->a[c]? ≠zq x))
  (λq _=>a.length-(zL q).toNat)
 case atStart=>exact⟨0,zR _,rfl,hid ⟨s.out,λc j=>by omega⟩⟩
 case round=>
  clear s;obtain⟨b,G,rfl,o⟩:=hrel;obtain⟨f,i⟩:=o.out;by_cases hlt:b<a.length
  ·obtain⟨g,p⟩:∃g,a[b]? =zq g:=⟨_,yB hlt⟩
   rcases l.out with⟨-,t⟩|⟨A,D,n,y,z⟩
   ·subst t;simp at hlt
   injection n with n E u;subst n;subst u;have B:=(f.cell y).trans (z b g p);have d:=hid (⟨f,i⟩:_/\_);have m:=hid p;clear f i o p l;by_cases he:x=g
   ·subst he
    have k:=hid (show x∈a from zw6.2 ⟨b,m.out⟩);clear m;go_wp21;go_ret;exact⟨_,rfl,⟨λ_=>k.out,λ_=>by omega⟩,d.1⟩
   ·have F:¬(x:Int)=(g:Int):=by omega
    go_wp21;go_roundw
    case rel=>exact⟨b+1,by omega,by go_num,hid ⟨d.1,λc j e=>by
     by_cases h:c=b
     ·subst h;rw[m.out] at e;exact he (Option.some.inj e).symm
     ·exact d.2 c (by omega) e⟩⟩
    case measure=>simp[zL];omega
  ·obtain rfl:b=a.length:=by omega
   have d:=hid (⟨f,i⟩:_/\_);clear f i o;have k:=hid (show ¬x∈a from λe=>by
    obtain⟨c,j⟩:=zw6.1 e;exact absurd j (d.2 c (List.getElem?_eq_some_iff.1 j).1))
   go_wp21;go_ret;exact⟨_,rfl,⟨λh=>by omega,λh=>absurd h k.out⟩,d.1⟩
theorem zua (v:Value) (a:List Nat) (x:Nat) (g:a.length<=4096) (w:zA) (b:Hid (IntL v a w)):
 qJ 170 #[v,zj zm (x:Int)] w (zg (a.contains x)):=by
 have c:=hid (yei v a x g w b);obtain⟨k,i,rfl⟩:=b.slice;clear b;go_enter Tryz.func170,Tryz.ntmps170;go_wp21;refine c.mono ?_;rintro j l ⟨h,rfl,d,f⟩;have e:=hid d;clear c d;go_wp21;go_ret;exact⟨by rw[show a.contains x=decide (0<=h) from by rw[List.contains_eq_mem];exact(decide_eq_decide.2 e.out).symm];rfl,f⟩
end
section
open Go.RowKit Go.Shelf Lib Str Limb
attribute [local go_sem] Oper.semAt_some
theorem zx6 (p:Option Addr) (cap n i:Nat) (ap:i<n) (b1:n<=32) (ay:n<=cap) (X k Z:Nat->List UInt8) (D:Nat->Value) (a9:∀i,∃q m c,D i=z7 q m c) (S:Nat->Bool) (w:zA)
 (a2:Hid (∀j,j<i->∀a4:zA,qL w a4->qJ 169 #[zh #[St (X j),St (k j),St (Z j),D j],zh #[St (X i),St (k i),St (Z i),D i]] a4 (ze #[zg (S j),zj zm 0])))
 (J:Hid (RowHf p n X k Z D w)):
 qJ 129 #[z7 p n cap,zj zm (i:Int)] w (ze #[zg (anyK S i),zj zm 0]):=by
 obtain⟨l,v⟩:=zzX (anyK S);have a5:=hid (show l 0=zu by rw[v];rfl);have ae:=hid (show ∀b,l (b+1)=(l b||S b) from λb=>by rw[v];rfl);have af:=hid (show ∀b,b<i->S b=zt->l i=zt from λb aa a=>by rw[v];exact(zmi _ _).2 ⟨b,aa,a⟩);rw[<-v];clear v;have V:=hid (zM w.heap.size w);have az:(0:Int)<=(i:Int):=by omega
 have b0:(i:Int)<=(cap:Int):=by omega
 have a':i<=cap:=by omega
 go_enter Tryz.func129,Tryz.ntmps129;go_wp21;go_loopw [14] (λj wr=>∃(b:Nat),b<=i/\j=zj zm (b:Int)/\Hid (qL w wr/\l b=zu))
  (λj _=>i-(zL j).toNat)
 case atStart=>exact⟨0,zR _,rfl,hid ⟨V.out,a5.out⟩⟩
 case round=>
  clear V a5;obtain⟨b,aa,rfl,N⟩:=hrel;obtain⟨r,C⟩:=N.out;by_cases hlt:b<i
  ·obtain⟨g,h,rfl,ai,c1,c2,a7⟩:=(J.keep (zac r)) b (by omega)
   have F:=hid (a2 b hlt);obtain⟨y,x,s,O⟩:=a9 b;obtain⟨T,R,M,P⟩:=a9 i;have W:=hid (show ∀d,qL w d->d.cell? ⟨g,h+i*4,zp⟩=zq (St (X i))/\d.cell? ⟨g,h+i*4+1,zp⟩=zq (St (k i))/\d.cell? ⟨g,h+i*4+2,zp⟩=zq (St (Z i))/\d.cell? ⟨g,h+i*4+3,zp⟩=zq (z7 T R M) from λd E=>by
    obtain⟨ax,b2,t,a1,ag,ah,a6⟩:=(J.keep (zac E)) i ap;injection t with t;injection t with t an;subst t;subst an;rw[P] at a6;exact⟨a1,ag,ah,a6⟩)
   have K:=hid (ae b);have L:=hid (af b hlt);rw[O] at a7;rw[O,P] at F;generalize X b=z at*;generalize k b=A at*;generalize Z b=B at*
   generalize X i=ab at*;generalize k i=ac at*;generalize Z i=ad at*
   generalize S b=f at*
   obtain⟨au,Q⟩:=zzX (wr.alloc (zn #[St z,St A,St B,z7 y x s] 53));obtain⟨a1,U⟩:=hbxU Q;have G:=hid (⟨r.trans (a1.mono r.size),U⟩:_/\_);have H:=hid C;have Y:=hid Q.symm;clear Q a1 U O P r C N J a2;go_wp21;have o:=Y.out;rw[show wr.alloc (zn #[z8 ⟨z.toArray⟩,z8 ⟨A.toArray⟩,z8 ⟨B.toArray⟩,z7 y x s] 53)=au from o];clear o Y ai c1 c2 a7;refine zc4 (λ(_:Unit) ar=>([zh #[St z,St A,St B,z7 y x s],z7 (zq ⟨g,h,zp⟩) n cap,zj zm (i:Int),zf (zq ⟨g,h+i*4,zp⟩),zh #[St ab,St ac,St ad,z7 T R M],ze #[zg f,zj zm 0],ze #[zg f,zj zm 0],zg f,zj zm 0,zg f,zj zm 0]:List Value)[ar]?.getD zv) (λ(_:Unit) _ a3=>qL w a3/\a3.heap[wr.heap.size]? =zq (zn #[St z,St A,St B,z7 y x s] 53 (0,0))) (by kernel_rfl) (by kernel_rfl) () ⟨G.1.drew,G.2⟩ λ_=>?_;refine qB (zh #[St z,St A,St B,z7 y x s]) (λe d a=>a) ?_ (hy:=λe d u a=>by obtain⟨aj,ak,al,am⟩:=yap a.2;go_simp);refine qB (z7 (zq ⟨g,h,zp⟩) n cap) (λe d a=>a) ?_;refine qB (zj zm (i:Int)) (λe d a=>a) ?_;simp only[zzQ];refine qB (zf (zq ⟨g,h+i*4,zp⟩)) (λe d a=>a) ?_ (hy:=λe d u a=>by go_simp;try(intro a;omega));refine qB (zh #[St ab,St ac,St ad,z7 T R M]) (λe d a=>a) ?_ (hy:=λe d u a=>by obtain⟨aj,ak,al,am⟩:=W d a.1;go_simp);simp only[zzQ]
   refine zbv (ze #[zg f,zj zm 0]) (by rfl) (by rfl) (λe d u a av ao=>by
    have aq:=F d a.1;go_simp;refine zzM aq λb3 E=>?_;exact⟨_,rfl,ao _ ⟨a.1.trans (E.mono a.1.size),zac E _ _ _ _ a.2⟩⟩) ?_
   refine qB (ze #[zg f,zj zm 0]) (λe d a=>a) ?_;refine qB (zg f) (λe d a=>a) ?_;simp only[zzQ];refine qB (zj zm 0) (λe d a=>a) ?_;refine qB (zg f) (λe d a=>a) ?_;refine qB (zj zm 0) (λe d a=>a) ?_;simp only[zzQ];refine ze1 λe aw u a=>?_;have a8:=hid a.1;clear u a G W F;cases f
   ·have I:=hid (show l (b+1)=zu by rw[K.out,H.out];rfl)
    clear K L H;go_wp21;go_roundw
    case rel=>exact⟨b+1,by omega,by go_num,hid ⟨a8.out,I.out⟩⟩
    case measure=>simp[zL];omega
   ·have I:=hid (L rfl)
    clear K L H;go_wp21;go_ret2;exact⟨by have o:=I.out;rw[o];rfl,a8.out⟩
  ·obtain rfl:b=i:=by omega
   have a0:=hid (⟨r,C⟩:_/\_);clear r C N;go_wp21;go_ret2;exact⟨by have o:=a0.2;rw[o];rfl,a0.1⟩
theorem zt2 (x y z:ByteArray) (E F G H I J:Option Addr) (B C D u v A o p q r s t:Nat) (X Y Z a0 a1:Bool) (K L M:Int) (w:zA)
 (ao:(x.toList==[48])=X) (hy:(y.toList==[48])=Y)
 (ah:Hid (∃h:0<x.size,(((x[0]'h).toNat:Int)==45)=Z)) (ai:Hid (∃h:0<y.size,(((y[0]'h).toNat:Int)==45)=a0)) (aj:Hid (∃h:0<z.size,(((z[0]'h).toNat:Int)==45)=a1))
 (ak:(-9<=K/\K<=9)/\(-9<=L/\L<=9)/\(-9<=M/\M<=9))
 (ae:Hid (∀m:zA,qL w m->qJ 108 #[z7 E B o,z7 H u r] m (ze #[zj zm K,zj zm 0])))
 (af:Hid (∀m:zA,qL w m->qJ 108 #[z7 F C p,z7 I v s] m (ze #[zj zm L,zj zm 0])))
 (ag:Hid (∀m:zA,qL w m->qJ 108 #[z7 G D q,z7 J A t] m (ze #[zj zm M,zj zm 0]))):
 zC zF 171 #[zh #[z8 x,z8 y,z8 z],zh #[z7 E B o,z7 F C p,z7 G D q],zh #[z7 H u r,z7 I v s,z7 J A t]] w λe w'=>
  e=zo (ze #[zj zm (if X=zu then(if Z=zt then-K else K) else if Y=zu then(if a0=zt then-L else L) else(if a1=zt then-M else M)),zj zm 0])/\zB w.heap.size w w':=by
 have al:zm.wrap (-K)= -K:=zI _ (by omega);have am:zm.wrap (-L)= -L:=zI _ (by omega);have an:zm.wrap (-M)= -M:=zI _ (by omega);clear ak;obtain⟨ab,R⟩:=zzX (w.alloc (zn #[z8 x,z8 y,z8 z] 137));obtain⟨a7,a4⟩:=hbxU R;have a2:ab.heap.size=w.heap.size+1:=by rw[R];simp
 obtain⟨ac,S⟩:=zzX (ab.alloc (zn #[z7 E B o,z7 F C p,z7 G D q] 99));obtain⟨b2,V⟩:=hbxU S;have aa:ac.heap.size=w.heap.size+1+1:=by rw[S];simp[a2]
 obtain⟨U,T⟩:=zzX (ac.alloc (zn #[z7 H u r,z7 I v s,z7 J A t] 99));obtain⟨Q,W⟩:=hbxU T;rw[a2] at V;rw[aa] at W;have c:=hid (⟨zac Q _ _ _ _ (zac b2 _ _ _ _ a4),zac Q _ _ _ _ V,W,(a7.trans (b2.mono (by omega))).trans (Q.mono (by omega))⟩:_/\_/\_/\zB w.heap.size w U);rw[S,R] at T;have a6:=hid T.symm;clear R S T a7 b2 Q a4 V W a2 aa;go_enter Tryz.func171,Tryz.ntmps171;go_wp21;rw[show((w.alloc (zn #[z8 x,z8 y,z8 z] 137)).alloc (zn #[z7 E B o,z7 F C p,z7 G D q] 99)).alloc (zn #[z7 H u r,z7 I v s,z7 J A t] 99)=U from a6.out];clear a6;refine zc4 (λ(_:Unit) P=>([zf (zq ⟨w.heap.size,0,zp⟩),z8 x,zf (zq ⟨w.heap.size+1,0,zp⟩),z7 E B o,zf (zq ⟨w.heap.size+1+1,0,zp⟩),z7 H u r,z8 x,z7 E B o,z7 H u r]:List Value)[P]?.getD zv) (λ(_:Unit) _ O=>qL U O) (by kernel_rfl) (by kernel_rfl) () (zM _ U).drew λ_=>?_;refine qB (zf (zq ⟨w.heap.size,0,zp⟩)) (λa b h=>h) ?_;refine qB (z8 x) (λa b h=>h) ?_ (hy:=λa b d h=>by obtain⟨f,g,i, -⟩:=zah (zac h _ _ _ _ c.1);go_simp);refine qB (zf (zq ⟨w.heap.size+1,0,zp⟩)) (λa b h=>h) ?_;simp only[zzQ];refine qB (z7 E B o) (λa b h=>h) ?_ (hy:=λa b d h=>by obtain⟨f,g,i, -⟩:=zah (zac h _ _ _ _ c.2.1);go_simp);refine qB (zf (zq ⟨w.heap.size+1+1,0,zp⟩)) (λa b h=>h) ?_
 refine qB (z7 H u r) (λa b h=>h) ?_ (hy:=λa b d h=>by obtain⟨f,g,i, -⟩:=zah (zac h _ _ _ _ c.2.2.1);go_simp);simp only[zzQ];refine qB (z8 x) (λa b h=>h) ?_;refine qB (z7 E B o) (λa b h=>h) ?_;refine qB (z7 H u r) (λa b h=>h) ?_;simp only[zzQ];refine ze1 λa N d h=>?_;have a5:=hid (⟨zac h _ _ _ _ c.1,zac h _ _ _ _ c.2.1,zac h _ _ _ _ c.2.2.1,c.2.2.2.trans (h.mono c.2.2.2.size)⟩:_/\_/\_/\zB w.heap.size w N);clear d h c;have c:=a5;clear a5;obtain⟨f,g,i, -⟩:=zah c.1;cases X
 ·have j:=hid c.2.2.2
  clear c;obtain⟨a9,a8⟩:=ah.out;have l:=hid (ae N j.out);go_wp21;refine zzM l.out λad n=>?_;have k:=qT j n;clear n j l f g i;cases Z
  ·go_wp21
   go_ret2;exact⟨by simp,k.out⟩
  ·go_wp21
   go_ret2;exact⟨by simp,k.out⟩
 ·cases Y
  ·go_wp21
   clear f g i;refine zc4 (λ(_:Unit) P=>([zf (zq ⟨w.heap.size,1,zp⟩),z8 y,zf (zq ⟨w.heap.size+1,1,zp⟩),z7 F C p,zf (zq ⟨w.heap.size+1+1,1,zp⟩),z7 I v s,z8 y,z7 F C p,z7 I v s]:List Value)[P]?.getD zv) (λ(_:Unit) _ O=>qL N O) (by kernel_rfl) (by kernel_rfl) () (zM _ N).drew λ_=>?_;refine qB (zf (zq ⟨w.heap.size,1,zp⟩)) (λa b h=>h) ?_;refine qB (z8 y) (λa b h=>h) ?_ (hy:=λa b d h=>by obtain⟨f,g,i, -⟩:=zah (zac h _ _ _ _ c.1);go_simp);refine qB (zf (zq ⟨w.heap.size+1,1,zp⟩)) (λa b h=>h) ?_;simp only[zzQ];refine qB (z7 F C p) (λa b h=>h) ?_ (hy:=λa b d h=>by obtain⟨f,g,i, -⟩:=zah (zac h _ _ _ _ c.2.1);go_simp);refine qB (zf (zq ⟨w.heap.size+1+1,1,zp⟩)) (λa b h=>h) ?_;refine qB (z7 I v s) (λa b h=>h) ?_ (hy:=λa b d h=>by obtain⟨f,g,i, -⟩:=zah (zac h _ _ _ _ c.2.2.1);go_simp);simp only[zzQ];refine qB (z8 y) (λa b h=>h) ?_;refine qB (z7 F C p) (λa b h=>h) ?_;refine qB (z7 I v s) (λa b h=>h) ?_;simp only[zzQ];refine ze1 λa a3 d h=>?_;have j:=hid (c.2.2.2.trans (h.mono c.2.2.2.size));clear d h c;obtain⟨a9,a8⟩:=ai.out;have l:=hid (af a3 j.out);go_wp21;refine zzM l.out λad n=>?_;have k:=qT j n;clear n j l;cases a0
   ·go_wp21
    go_ret2;exact⟨by simp,k.out⟩
   ·go_wp21
    go_ret2;exact⟨by simp,k.out⟩
  ·go_wp21
   clear f g i;refine zc4 (λ(_:Unit) P=>([zf (zq ⟨w.heap.size,2,zp⟩),z8 z,zf (zq ⟨w.heap.size+1,2,zp⟩),z7 G D q,zf (zq ⟨w.heap.size+1+1,2,zp⟩),z7 J A t,z8 z,z7 G D q,z7 J A t]:List Value)[P]?.getD zv) (λ(_:Unit) _ O=>qL N O) (by kernel_rfl) (by kernel_rfl) () (zM _ N).drew λ_=>?_;refine qB (zf (zq ⟨w.heap.size,2,zp⟩)) (λa b h=>h) ?_;refine qB (z8 z) (λa b h=>h) ?_ (hy:=λa b d h=>by obtain⟨f,g,i, -⟩:=zah (zac h _ _ _ _ c.1);go_simp);refine qB (zf (zq ⟨w.heap.size+1,2,zp⟩)) (λa b h=>h) ?_;simp only[zzQ];refine qB (z7 G D q) (λa b h=>h) ?_ (hy:=λa b d h=>by obtain⟨f,g,i, -⟩:=zah (zac h _ _ _ _ c.2.1);go_simp);refine qB (zf (zq ⟨w.heap.size+1+1,2,zp⟩)) (λa b h=>h) ?_;refine qB (z7 J A t) (λa b h=>h) ?_ (hy:=λa b d h=>by obtain⟨f,g,i, -⟩:=zah (zac h _ _ _ _ c.2.2.1);go_simp);simp only[zzQ];refine qB (z8 z) (λa b h=>h) ?_;refine qB (z7 G D q) (λa b h=>h) ?_;refine qB (z7 J A t) (λa b h=>h) ?_;simp only[zzQ];refine ze1 λa a3 d h=>?_;have j:=hid (c.2.2.2.trans (h.mono c.2.2.2.size));clear d h c;obtain⟨a9,a8⟩:=aj.out;have l:=hid (ag a3 j.out);go_wp21;refine zzM l.out λad n=>?_;have k:=qT j n;clear n j l;cases a1
   ·go_wp21
    go_ret2;exact⟨by simp,k.out⟩
   ·go_wp21
    go_ret2;exact⟨by simp,k.out⟩
def filK (own on:List Nat) (j:Nat):List Nat:=(own.take j).filter λn=>on.contains n
theorem yh0 (a on:List Nat):filK a on 0=[]:=rfl
theorem ydh (a on:List Nat):filK a on a.length=a.filter λn=>on.contains n:=by rw[filK,List.take_length]
theorem yh1 {a on:List Nat} {j x:Nat} (h:a[j]? =zq x):filK a on (j+1)=if on.contains x=zt then filK a on j++[x] else filK a on j:=by
 rw[filK,List.take_add_one,h,Option.toList_some,List.filter_append];cases e:on.contains x
 ·rw[List.filter_cons_of_neg (by rw[e];decide),List.filter_nil,List.append_nil,if_neg (by simp)];rfl
 ·rw[List.filter_cons_of_pos e,List.filter_nil,if_pos rfl];rfl
theorem ydi (a on:List Nat) (j:Nat):(filK a on j).length<=a.length:=Nat.le_trans (List.length_filter_le _ _) (by rw[List.length_take];exact Nat.min_le_right _ _)
theorem yi6 {a on:List Nat} {j x:Nat} (h:x∈filK a on j):x∈a:=List.mem_of_mem_take (List.mem_filter.1 h).1
structure SwS (w0:zA) (g a b:Nat) (f:Nat->Bool) (W:zA):Prop where
 bel:zB g w0 W
 blk:∃cur,W.heap[g]? =zq (zn cur 3 (0,0))/\cur[0]? =zq (zj zm ((if f 9=zt then b else a:Nat):Int))/\cur[1]? =zq (zj zm ((if f 11=zt then a else b:Nat):Int))
section
variable {w0 W:zA} {g a b:Nat} {f:Nat->Bool}
theorem SwS.step (h:SwS w0 g a b f W) (k:Nat) (c:k≠9) (d:k≠11):SwS w0 g a b (λj=>if k=j then zt else f j) W:=⟨h.bel,by simp only[if_neg c,if_neg d];exact h.blk⟩
theorem SwS.c0 (h:SwS w0 g a b f W) (e:f 9=zu):W.cell? ⟨g,0,zp⟩=zq (zj zm (a:Int)):=by
 obtain⟨i,c,d, -⟩:=h.blk;rw[zJ c,d,e];rfl
theorem SwS.c1 (h:SwS w0 g a b f W) (e:f 11=zu):W.cell? ⟨g,1,zp⟩=zq (zj zm (b:Int)):=by
 obtain⟨i,c, -,d⟩:=h.blk;rw[zJ c,d,e];rfl
theorem SwS.open (h:SwS w0 g a b f W):(∃d,W.cell? ⟨g,0,zp⟩=zq d)/\(∃d,W.cell? ⟨g,1,zp⟩=zq d)/\W.frozen? ⟨g,0,zp⟩=zu/\W.frozen? ⟨g,1,zp⟩=zu:=by
 obtain⟨j,c,e,i⟩:=h.blk;exact⟨⟨_,by rw[zJ c,e]⟩,⟨_,by rw[zJ c,i]⟩,by simp[World.frozen?,c],by simp[World.frozen?,c]⟩
theorem SwS.put0 (h:SwS w0 g a b f W):SwS w0 g a b (λj=>if 9=j then zt else f j) (W.setCell ⟨g,0,zp⟩ (zj zm (b:Int))):=by
 obtain⟨l,c,d,e⟩:=h.blk;have k:=(Array.getElem?_eq_some_iff.1 d).1;refine⟨h.bel.setCell (p:=⟨g,0,zp⟩) (zN _) _,_,zK (i:=0) c _,?_,?_⟩
 ·simp[k]
 ·simpa using e
theorem SwS.put1 (h:SwS w0 g a b f W):SwS w0 g a b (λj=>if 11=j then zt else f j) (W.setCell ⟨g,1,zp⟩ (zj zm (a:Int))):=by
 obtain⟨l,c,d,e⟩:=h.blk;have k:=(Array.getElem?_eq_some_iff.1 e).1;refine⟨h.bel.setCell (p:=⟨g,1,zp⟩) (zN _) _,_,zK (i:=1) c _,?_,?_⟩
 ·simpa using d
 ·simp[k]
end
structure UpS (w:zA) (mb g a b:Nat) (m:List (Nat×Nat)) (f:Nat->Bool) (W:zA):Prop where
 bel:zB mb w W
 ne:g≠mb
 gl:g<W.heap.size
 c0:W.cell? ⟨g,0,zp⟩=zq (zj zm (a:Int))
 c1:W.cell? ⟨g,1,zp⟩=zq (zj zm (b:Int))
 mp0:f 7=zu->MapN m mb W
 mp1:f 7=zt->MapN ((a,b)::m) mb W
section
variable {w W W':zA} {mb g a b:Nat} {m:List (Nat×Nat)} {f:Nat->Bool}
theorem UpS.step (h:UpS w mb g a b m f W) (k:Nat) (c:k≠7):UpS w mb g a b m (λj=>if k=j then zt else f j) W:=⟨h.bel,h.ne,h.gl,h.c0,h.c1,by rw[if_neg c];exact h.mp0,by rw[if_neg c];exact h.mp1⟩
theorem UpS.puts (h:UpS w mb g a b m f W) (i:MapN ((a,b)::m) mb W') (d:W.grownBy W' (zq mb)) (k:mb<=W.heap.size):UpS w mb g a b m (λj=>if 7=j then zt else f j) W':=by
 have e:=d.block g h.gl (λc=>h.ne (Option.some.inj c));exact⟨h.bel.grown d k (λl c=>by cases c;exact zN _),h.ne,zS h.gl d.size,by rw[<-h.c0];simp[World.cell?,e],by rw[<-h.c1];simp[World.cell?,e],λc=>by simp at c,λ_=>i⟩
end
theorem yej (e5 e3 e4:Option Addr) (cap n i an ew:Nat) (bj:i<n) (ga:n<=32) (X ae Z:Nat->List UInt8) (D:Nat->Value) (de:∀i,∃q m c,D i=z7 q m c) (bd V bc:Nat->List UInt8) (az:Nat->Bool) (s:List Pq) (g1:s.length<=4000)
 (F:Nat->List Nat) (c4:Hid (∀k,k<n->(F k).length<=4000/\∀x∈F k,x<s.length)) (b':Nat->Nat->Nat->Int) (t:Nat->List (Nat×Nat)) (w:zA)
 (cj:Hid (t 0=[]/\∀k,k<n->(t k).length<2^40))
 (en:Hid (∀k,k<n->az k=zt\/(filK (F i) (F k) (F i).length).length≠2->t (k+1)=t k))
 (eo:Hid (∀k,k<n->az k=zu->∀a b,filK (F i) (F k) (F i).length=[a,b]->t (k+1)=(if 0<b' k a b then(b,a) else(a,b))::t k))
 (er:Hid (∀k,k<n->(bd k==[48]&&(V k==[48]&&bc k==[48]))=az k))
 (el:Hid (∀k,k<n->∀N:zA,qL w N->qJ 70 #[zh #[St (X i),St (ae i),St (Z i)],zh #[St (X k),St (ae k),St (Z k)]] N (ze #[zh #[St (bd k),St (V k),St (bc k)],zj zm 0])))
 (ej:Hid (∀k a b,k<n->a<s.length->b<s.length->∀(N:zA) (e0 e1 e2 ai aj a8:Option Addr) (dy dz d' dv dw dx ag ah dp dq dr ds:Nat),qL w N->MrkP (z7 e0 dy ag) (z7 e1 dz ah) (z7 e2 d' dp) (getP s a) N->MrkP (z7 ai dv dq) (z7 aj dw dr) (z7 a8 dx ds) (getP s b) N->
   qJ 171 #[zh #[St (bd k),St (V k),St (bc k)],zh #[z7 e0 dy ag,z7 e1 dz ah,z7 e2 d' dp],zh #[z7 ai dv dq,z7 aj dw dr,z7 a8 dx ds]] N (ze #[zj zm (b' k a b),zj zm 0])))
 (d0:Hid (RowHf e5 n X ae Z D w)) (ep:Hid (RowMk e3 s w)) (cz:Hid (RowOn e4 n F w)):
 zC zF 130 #[z7 e5 n cap,zj zm (i:Int),z7 e3 s.length an,z7 e4 n ew] w λe w'=>e=zo (ze #[.map (zq w.heap.size),zj zm 0])/\zB w.heap.size w w'/\MapN (t n) w.heap.size w':=by
 have f8:= @run_makeMap zF;obtain⟨fm,f6,fi,fj,fk⟩:=info_parts zdv;have d4:=hid (show MapN (t 0) w.heap.size (w.alloc (.map #[] 0)) by rw[cj.1];exact MapN.made w);have ci:=hid ((zM w.heap.size w).alloc (zN _) (.map #[] 0));obtain⟨bn,bm,bf,f4⟩:=de i;go_enter Tryz.func130,Tryz.ntmps130;go_wp21;clear f8;go_loopw [22] (λy wr=>∃(k:Nat),k<=n/\y=zj zm (k:Int)/\Hid (qL w wr/\MapN (t k) w.heap.size wr))
  (λy _=>n-(zL y).toNat)
 case atStart=>exact⟨0,zR _,rfl,hid ⟨ci.out,d4.out⟩⟩
 case round=>
  clear ci d4;obtain⟨k,g8,rfl,c5⟩:=hrel;obtain⟨af,ao⟩:=c5.out;by_cases hlt:k<n
  ·obtain⟨W,a2,rfl,ev,c1,c2,da⟩:=(d0.keep (zac af)) k hlt
   obtain⟨ar,mk,am,df⟩:=de k;rw[df] at da;have cw:=hid (show ∀f,qL w f->f.cell? ⟨W,a2+i*4,zp⟩=zq (St (X i))/\f.cell? ⟨W,a2+i*4+1,zp⟩=zq (St (ae i))/\f.cell? ⟨W,a2+i*4+2,zp⟩=zq (St (Z i))/\f.cell? ⟨W,a2+i*4+3,zp⟩=zq (z7 bn bm bf) from λf u=>by
    obtain⟨et,gd,C,a1,be,es,d7⟩:=(d0.keep (zac u)) i bj;injection C with C;injection C with C a6;subst C;subst a6;rw[f4] at d7;exact⟨a1,be,es,d7⟩)
   have cr:=hid (el k hlt);have d3:=hid (er k hlt);have b3:=hid (λa b=>ej k a b hlt);have bv:=hid (en k hlt);have b6:=hid (eo k hlt);have cv:=hid (cj.2 k hlt);have HOk:=hid (c4 k hlt);generalize fe:X i=aw at*;generalize fg:ae i=ax at*;generalize fl:Z i=ay at*
   generalize ff:X k=a9 at*;generalize fh:ae k=aa at*;generalize dn:Z k=S at*
   generalize bd k=J at*;generalize V k=K at*;generalize bc k=L at*
   obtain⟨bo,P⟩:=zzX (wr.alloc (zn #[St a9,St aa,St S,z7 ar mk am] 53));obtain⟨a1,cg⟩:=hbxU P;have a5:=hid (af.trans (a1.drew.mono af.size));have bw:=hid (ao.below a1.drew ao.lt);have cx:=hid (show bo.drew.heap[wr.heap.size]? =_ from cg);have d1:=hid P.symm;clear P a1 cg af ao c5 fe fg fl ff fh dn df;go_wp21;have dd:=d1.out;rw[show wr.alloc (zn #[z8 ⟨a9.toArray⟩,z8 ⟨aa.toArray⟩,z8 ⟨S.toArray⟩,z7 ar mk am] 53)=bo from dd];clear dd d1 ev c1 c2 da;refine zc4 (λ(q:Nat->Nat) Q=>([z7 (zq ⟨W,a2,zp⟩) n cap,zj zm (i:Int),zf (zq ⟨W,a2+i*4,zp⟩),zh #[St aw,St ax,St ay,z7 bn bm bf],zh #[St aw,St ax,St ay],zh #[St a9,St aa,St S,z7 ar mk am],zh #[St a9,St aa,St S],ze #[zh #[St J,St K,St L],zj zm 0],ze #[zh #[St J,St K,St L],zj zm 0],zh #[St J,St K,St L],zj zm 0,zf (zq ⟨q 0,0,zp⟩),zv,zj zm 0]:List Value)[Q]?.getD zv) (BoxS 1 11 12 #[z8 ⟨#[]⟩,z8 ⟨#[]⟩,z8 ⟨#[]⟩] (λ_=> #[St J,St K,St L]) 137 bo.drew) (by kernel_rfl) (by kernel_rfl) (λ_=>0) (BoxS.start (zM _ _)) λq=>?_;refine qB (z7 (zq ⟨W,a2,zp⟩) n cap) (λg f d=>d.step 0 (by decide) (by decide)) ?_;refine qB (zj zm (i:Int)) (λg f d=>d.step 1 (by decide) (by decide)) ?_;refine qB (zf (zq ⟨W,a2+i*4,zp⟩)) (λg f d=>d.step 2 (by decide) (by decide)) ?_ (hy:=λg f h d=>by go_simp;try(intro d;omega));simp only[zzQ]
   refine qB (zh #[St aw,St ax,St ay,z7 bn bm bf]) (λg f d=>d.step 3 (by decide) (by decide)) ?_ (hy:=λg f h d=>by obtain⟨p,A,G,ey⟩:=cw f (a5.trans (d.bel.mono a5.size));go_simp);simp only[zzQ]
   refine zbv (zh #[St aw,St ax,St ay]) (by rfl) (by rfl) (λg f h d O l=>by
    have a7:=zec aw ax ay bn bm bf f;go_simp;refine zzM a7 λw' u=>?_;exact⟨_,rfl,l _ ((d.next u).step 4 (by decide) (by decide))⟩) ?_
   refine qB (zh #[St a9,St aa,St S,z7 ar mk am]) (λg f d=>d.step 5 (by decide) (by decide)) ?_ (hy:=λg f h d=>by obtain⟨p,A,G,ey⟩:=yap (zac d.bel _ _ _ _ cx.out);go_simp);simp only[zzQ]
   refine zbv (zh #[St a9,St aa,St S]) (by rfl) (by rfl) (λg f h d O l=>by
    have a7:=zec a9 aa S ar mk am f;go_simp;refine zzM a7 λw' u=>?_;exact⟨_,rfl,l _ ((d.next u).step 6 (by decide) (by decide))⟩) ?_
   try simp only[zzQ]
   refine zbv (ze #[zh #[St J,St K,St L],zj zm 0]) (by rfl) (by rfl) (λg f h d O l=>by
    have a7:=cr f (a5.trans (d.bel.mono a5.size));go_simp;refine zzM a7 λw' u=>?_;exact⟨_,rfl,l _ ((d.next u).step 7 (by decide) (by decide))⟩) ?_
   refine qB (ze #[zh #[St J,St K,St L],zj zm 0]) (λg f d=>d.step 8 (by decide) (by decide)) ?_;refine qB (zh #[St J,St K,St L]) (λg f d=>d.step 9 (by decide) (by decide)) ?_;simp only[zzQ];refine qB (zj zm 0) (λg f d=>d.step 10 (by decide) (by decide)) ?_;simp only[zzQ]
   refine zdc (zf (zq ⟨q 0,0,zp⟩)) (by rfl) (by rfl) (λg f h d O l=>by
    have I:=h.self;have Y:=h.no (j:=12) h.self (by kernel_rfl);have B:=l (λy=>if y=0 then f.heap.size else q y) _ (λy bk=>by
     match y,bk with
     |0,_|1,_|2,_|3,_|4,_|5,_|6,_|7,_|8,_|9,_|10,_|12,_|13,_=>rfl
     |11,bk=>rw[I] at bk;cases bk
     |_+14,_=>rfl) (d.new 0 (by decide) Y (by decide))
    clear d l;go_simp;exact B) ?_
   try simp only[zzQ]
   refine zbv zv (by rfl) (by rfl) (λg f h d O l=>by
    have I:=h.done 11 (by kernel_rfl);obtain⟨⟨au,p⟩,⟨av,A⟩,⟨ce,G⟩,z0,z1,z2⟩:=d.open 0 (by decide) I rfl rfl;have B:=l _ (d.put 0 (by decide) I (by decide) (St J) (St K) (St L) rfl rfl);clear d l;go_simp;exact B) ?_
   refine qB (zj zm 0) (λg f d=>d.step 13 (by decide) (by decide)) ?_;simp only[zzQ];refine ze1 λg fr h d=>?_;have c3:=d.blk 0 (by decide) (h 11 (by decide));rw[if_pos (h 12 (by decide))] at c3;have f7:=d.lo 0 (by decide) (h 11 (by decide));have bx:=hid (bw.below d.bel (by have:=bw.lt;exact this));have ct:=hid (a5.trans (d.bel.mono a5.size));have bs:=hid c3;clear d h c3 a5 bw cx cw cr;generalize q 0=g0 at*
   obtain⟨p,A,G, -⟩:=zah bs.out;have dm:=yez J K L (az k) d3 fr;generalize dn:az k=S at*
   go_wp21;refine zzM dm λa3 bh=>?_;have ab:=qT ct bh;have ak:=hid (bx.below bh bx.lt);have bt:=hid (zac bh _ _ _ _ bs.out);clear bh ct bx bs p A G dm d3 f7;cases S
   ·obtain⟨fu,gf,gm,rfl,C,cb⟩:=(cz.below ab.out) i bj
    obtain⟨gh,fy,rfl⟩:=cb.slice;have d2:=hid cb;have c':=hid (cz.below ab k hlt);have g2:=(c4 i bj).1;have d5:=hid (c4 i bj).2;have g3:=HOk.1;clear cb;generalize fa:F i=o at*
    generalize fb:F k=r at*
    clear fa fb;have ch:=hid (zM a3.heap.size a3);have cm:=hid (show a3.ownsRow a3.heap.size 3 1 (z7 zp 0 0) (filK o r 0).length (natV (filK o r 0)) from⟨by simp[yh0,natV],.inl ⟨rfl,rfl⟩⟩);have c8:decide ((k:Int)<n)=zt:=decide_eq_true (by omega);go_wp21;clear C c8;go_loopw [15,47] (λfp y eb=>∃(m:Nat) (q:Option Addr) (c:Nat),m<=o.length/\y=zj zm (m:Int)/\fp=z7 q (filK o r m).length c/\Hid (qL a3 eb)/\Hid (eb.ownsRow a3.heap.size 3 1 (z7 q (filK o r m).length c) (filK o r m).length (natV (filK o r m))))
     (λ_ y _=>o.length-(zL y).toNat)
    case atStart=>exact⟨0,zp,0,zR _,rfl,rfl,ch,cm⟩
    case round=>
     clear ch cm;obtain⟨m,q,c,bl,rfl,rfl,E,a'⟩:=hrel;by_cases hmj:m<o.length
     ·obtain⟨x,cd⟩:∃x,o[m]? =zq x:=⟨_,yB hmj⟩
      rcases d2.out with⟨-,I⟩|⟨et,fx,Y,dk,dl⟩
      ·subst I;simp at hmj
      injection Y with Y bg f2;subst Y;subst f2;obtain⟨fv,gg,gn,H,a6,cc⟩:=c'.out;injection H with H;injection H with H c0;subst H;subst c0;obtain⟨fo,ex,rfl⟩:=cc.slice;have C:=(E.cell dk).trans (dl m x cd);have e':=zai E a6;have cs:=hid (zua (z7 fo r.length ex) r x (by omega) wr (hid (cc.below E.out)));have ba:=hid (yh1 (on:=r) cd);have g5:=ydi o r m;have c8:decide ((m:Int)<o.length)=zt:=decide_eq_true (by omega);clear cc a6 dl dk bg cd;go_wp21;refine zzM cs.out λfs u=>?_;have a4:=hid (E.trans (u.mono E.size));have b0:=hid (zcj (zac u) a'.out);clear u E a' cs C e' c8;cases hcx:r.contains x
      ·have z:=hid (show filK o r (m+1)=filK o r m by rw[ba.out,hcx];rfl)
       clear ba;go_wp21;go_roundw
       case rel=>exact⟨m+1,q,c,by omega,by go_num,by rw[z.out],a4,hid (by rw[z.out];exact b0.out)⟩
       case measure=>simp[zL];omega
      ·have z:=hid (show filK o r (m+1)=filK o r m++[x] by rw[ba.out,hcx];rfl)
       clear ba hcx;generalize filK o r m=ad at*
       have fd:=a4.size;go_wp2_with (at_builtin;refine wpList_append_own_at _ rfl _ _ 74 rfl a3.heap.size 3 fm (zj zm 0) 1 8 Tryz.underlying74 f6 fi fj fk rfl (by decide) _ _ (natV ad) rfl (b0.alloc _) ⟨fs.heap.size,0,zp⟩ 1 1 [zj zm (x:Int)] rfl rfl (zep _ _ _) (zfn _) (by unfold maxLen;omega) (by omega) (by have:=a4.size;simp;omega) (λgi w' c9 dg _ f9=>?_));obtain⟨f0,eu,rfl, -, -⟩:=zgk c9 (by omega);have ek:=hid (show qL a3 w' from(a4.alloc a4.size _).grown dg (by have:=a4.size;simp;omega) (λq e=>(b0.lt q e).1));have em:=hid c9;clear dg c9 f9 a4 b0 fd;go_roundw
       case rel=>exact⟨m+1,zq ⟨f0,0,zp⟩,eu,by omega,by go_num,by rw[z.out];simp,ek,hid (by rw[z.out];have:=em.out;simpa [natV] using this)⟩
       case measure=>simp[zL];omega
     ·obtain rfl:m=o.length:=by omega
      have f3:=ydi o r o.length;have ac:=hid (ab.trans (E.mono ab.size));have b8:=hid (ak.below E ak.lt);have bu:=hid (zac E _ _ _ _ bt.out);have b7:=hid (ep.below ac.out);have bb:=hid (λef (v:ef∈filK o r o.length)=>d5 ef (yi6 v));have bz:=hid a'.out;have g7:=ak.lt;have g9:=E.size;clear ab ak bt E a' d2 c' d5;generalize filK o r o.length=ad at*
      by_cases bg:ad.length=2
      ·obtain⟨a,b,rfl⟩:∃a b,ad=[a,b]:=by
        match ad,bg with
        |[a,b],_=>exact⟨a,b,rfl⟩
       have dt:=bb a (by simp);have du:=bb b (by simp);have ck:=hid (show a<2^62 by omega);have cl:=hid (show b<2^62 by omega);rcases bz.2 with⟨-,I⟩|⟨j,fw,db,e,g6,bi,B, -, -,ca⟩
       ·cases I
       injection e with e f' ez;subst e;subst ez;have ag:db[0]? =zq (zj zm (a:Int)):=by
        have P:(natV [a,b])[0]? =zq (zj zm (a:Int)):=rfl;rw[<-ca,List.getElem?_take,if_pos (by simp),Array.getElem?_toList] at P;exact P
       have ah:db[1]? =zq (zj zm (b:Int)):=by
        have P:(natV [a,b])[1]? =zq (zj zm (b:Int)):=rfl;rw[<-ca,List.getElem?_take,if_pos (by simp),Array.getElem?_toList] at P;exact P
       have e6:s[a]? =zq (getP s a):=by rw[getP,yB dt];rfl
       have e7:s[b]? =zq (getP s b):=by rw[getP,yB du];rfl
       obtain⟨U,a0,u0,u1,u2,rfl,ec,ed,ee,ap⟩:=b7 a _ e6;obtain⟨ft,ge,gj,bo,gl,H,eg,eh,ei,aq⟩:=b7 b _ e7;injection H with H;injection H with H c0;subst H;subst c0;obtain⟨d6,dc,au,rfl⟩:=ap.x.any;obtain⟨a1,C,av,rfl⟩:=ap.y.any;obtain⟨be,a6,ce,rfl⟩:=ap.z.any;obtain⟨d8,I,e8,rfl⟩:=aq.x.any;obtain⟨d9,Y,e9,rfl⟩:=aq.y.any;obtain⟨b2,dh,ea,rfl⟩:=aq.z.any;have cn:=hid bu.out;have br:=hid (show wr.cell? ⟨j,0,zp⟩=zq (zj zm (a:Int))/\wr.cell? ⟨j,1,zp⟩=zq (zj zm (b:Int)) from⟨by rw[zJ bi,ag],by rw[zJ bi,ah]⟩);have co:=hid (⟨ec,ed,ee⟩:_/\_/\_);have cp:=hid (⟨eg,eh,ei⟩:_/\_/\_);have cq:=hid (λ(N:zA) (u:qL wr N)=>b3 a b dt du N _ _ _ _ _ _ _ _ _ _ _ _ _ _ _ _ _ _ (ac.trans (u.mono ac.size)) (ap.below u) (aq.below u));have b1:=hid (⟨bi,ag,ah⟩:_/\_/\_);have b5:=hid (b6 trivial a b rfl);have f5:w.heap.size<j:=by omega
       have g4:2<=c:=B;have gb:(a:Int)<(s.length:Int):=by omega
       have gc:(b:Int)<(s.length:Int):=by omega
       have f1:(([a,b].length:Nat):Int)=2:=rfl;clear b3 bu b7 bb bz bv b6 bi ca ag ah ec ed ee eg eh ei ap aq e6 e7 f3;generalize b' k a b=R at*
       go_wp21;refine zc4 (λ(_:Unit) Q=>([zh #[St J,St K,St L],z7 (zq ⟨U,a0,zp⟩) s.length an,z7 (zq ⟨j,0,zp⟩) 2 c,zf (zq ⟨j,0,zp⟩),zj zm (a:Int),zf (zq ⟨U,a0+a*3,zp⟩),zh #[z7 d6 dc au,z7 a1 C av,z7 be a6 ce],z7 (zq ⟨U,a0,zp⟩) s.length an,z7 (zq ⟨j,0,zp⟩) 2 c,zf (zq ⟨j,1,zp⟩),zj zm (b:Int),zf (zq ⟨U,a0+b*3,zp⟩),zh #[z7 d8 I e8,z7 d9 Y e9,z7 b2 dh ea],ze #[zj zm R,zj zm 0],ze #[zj zm R,zj zm 0],zj zm R,zj zm 0,zj zm R,zj zm 0]:List Value)[Q]?.getD zv) (λ(_:Unit) _ V=>qL wr V) (by kernel_rfl) (by kernel_rfl) () (zM _ wr).drew λ_=>?_;refine qB (zh #[St J,St K,St L]) (λg f d=>d) ?_ (hy:=λg f h d=>by obtain⟨p,A,G, -⟩:=zah (zac d _ _ _ _ cn.out);go_simp);refine qB (z7 (zq ⟨U,a0,zp⟩) s.length an) (λg f d=>d) ?_;refine qB (z7 (zq ⟨j,0,zp⟩) 2 c) (λg f d=>d) ?_;simp only[zzQ];refine qB (zf (zq ⟨j,0,zp⟩)) (λg f d=>d) ?_;refine qB (zj zm (a:Int)) (λg f d=>d) ?_ (hy:=λg f h d=>by have p:=zai d br.1;go_simp);refine qB (zf (zq ⟨U,a0+a*3,zp⟩)) (λg f d=>d) ?_ (hy:=λg f h d=>by go_simp;try(intro d;omega));simp only[zzQ]
       refine qB (zh #[z7 d6 dc au,z7 a1 C av,z7 be a6 ce]) (λg f d=>d) ?_ (hy:=λg f h d=>by obtain⟨p,A,G⟩:=co.out;have p:=zai d p;have A:=zai d A;have G:=zai d G;go_simp);refine qB (z7 (zq ⟨U,a0,zp⟩) s.length an) (λg f d=>d) ?_;refine qB (z7 (zq ⟨j,0,zp⟩) 2 c) (λg f d=>d) ?_;simp only[zzQ];refine qB (zf (zq ⟨j,1,zp⟩)) (λg f d=>d) ?_;refine qB (zj zm (b:Int)) (λg f d=>d) ?_ (hy:=λg f h d=>by have p:=zai d br.2;go_simp);refine qB (zf (zq ⟨U,a0+b*3,zp⟩)) (λg f d=>d) ?_ (hy:=λg f h d=>by go_simp;try(intro d;omega));simp only[zzQ];refine qB (zh #[z7 d8 I e8,z7 d9 Y e9,z7 b2 dh ea]) (λg f d=>d) ?_ (hy:=λg f h d=>by obtain⟨p,A,G⟩:=cp.out;have p:=zai d p;have A:=zai d A;have G:=zai d G;go_simp);simp only[zzQ]
       refine zbv (ze #[zj zm R,zj zm 0]) (by rfl) (by rfl) (λg f h d O l=>by
        have a7:=cq f d;go_simp;refine zzM a7 λw' u=>?_;exact⟨_,rfl,l _ (d.trans (u.mono d.size))⟩) ?_
       refine qB (ze #[zj zm R,zj zm 0]) (λg f d=>d) ?_;refine qB (zj zm R) (λg f d=>d) ?_;simp only[zzQ];refine qB (zj zm 0) (λg f d=>d) ?_;refine qB (zj zm R) (λg f d=>d) ?_;refine qB (zj zm 0) (λg f d=>d) ?_;simp only[zzQ];refine ze1 λg bp h d=>?_;have b4:=qT ac d;have b9:=hid (b8.below d b8.lt);have M:=hid (⟨zac d _ _ _ _ b1.1,b1.2.1,b1.2.2⟩:_/\_/\_);clear h d ac b8 cn br co cp cq b1;by_cases hway:0<R
       ·have z:=hid (show t (k+1)=(b,a)::t k by rw[b5.out,if_pos hway])
        clear b5;go_wp21;refine zc4 (λ(_:Unit) Q=>([z7 (zq ⟨j,0,zp⟩) 2 c,z7 (zq ⟨j,0,zp⟩) 2 c,z7 (zq ⟨j,0,zp⟩) 2 c,zf (zq ⟨j,1,zp⟩),zj zm (b:Int),z7 (zq ⟨j,0,zp⟩) 2 c,zf (zq ⟨j,0,zp⟩),zj zm (a:Int),zf (zq ⟨j,0,zp⟩),zv,zf (zq ⟨j,1,zp⟩),zv]:List Value)[Q]?.getD zv) (λ(_:Unit) g V=>SwS bp j a b g V) (by kernel_rfl) (by kernel_rfl) () ⟨(zM _ _).drew,_,M.1,M.2.1,M.2.2⟩ λ_=>?_;refine qB (z7 (zq ⟨j,0,zp⟩) 2 c) (λg f d=>d.step 0 (by decide) (by decide)) ?_;refine qB (z7 (zq ⟨j,0,zp⟩) 2 c) (λg f d=>d.step 1 (by decide) (by decide)) ?_;refine qB (z7 (zq ⟨j,0,zp⟩) 2 c) (λg f d=>d.step 2 (by decide) (by decide)) ?_;simp only[zzQ];refine qB (zf (zq ⟨j,1,zp⟩)) (λg f d=>d.step 3 (by decide) (by decide)) ?_;refine qB (zj zm (b:Int)) (λg f d=>d.step 4 (by decide) (by decide)) ?_ (hy:=λg f h d=>by have p:=d.c1 (h.no (j:=11) h.self (by kernel_rfl));go_simp);refine qB (z7 (zq ⟨j,0,zp⟩) 2 c) (λg f d=>d.step 5 (by decide) (by decide)) ?_;simp only[zzQ];refine qB (zf (zq ⟨j,0,zp⟩)) (λg f d=>d.step 6 (by decide) (by decide)) ?_;refine qB (zj zm (a:Int)) (λg f d=>d.step 7 (by decide) (by decide)) ?_ (hy:=λg f h d=>by have p:=d.c0 (h.no (j:=9) h.self (by kernel_rfl));go_simp);refine qB (zf (zq ⟨j,0,zp⟩)) (λg f d=>d.step 8 (by decide) (by decide)) ?_;simp only[zzQ]
        refine zbv zv (by rfl) (by rfl) (λg f h d O l=>by
         obtain⟨⟨au,p⟩,⟨av,A⟩,z0,z1⟩:=d.open;have B:=l _ d.put0;clear d l;go_simp;exact B) ?_
        refine qB (zf (zq ⟨j,1,zp⟩)) (λg f d=>d.step 10 (by decide) (by decide)) ?_;simp only[zzQ]
        refine zbv zv (by rfl) (by rfl) (λg f h d O l=>by
         obtain⟨⟨au,p⟩,⟨av,A⟩,z0,z1⟩:=d.open;have B:=l _ d.put1;clear d l;go_simp;exact B) ?_
        try simp only[zzQ]
        refine ze1 λg cf h d=>?_;have dj:=h 9 (by decide);have di:=h 11 (by decide);obtain⟨fz,a8,ai,aj⟩:=d.blk;rw[dj,if_pos rfl] at ai;rw[di,if_pos rfl] at aj;have cu:=hid (b4.trans (d.bel.mono (by omega)));have cy:=hid (b9.below d.bel f5);have bq:=hid cv.out;have c7:=(Array.getElem?_eq_some_iff.1 a8).1
        have al:=hid (show UpS w w.heap.size j b a (t k) (λ_=>zu) cf.drew from⟨cu.drew,by omega,c7,by
         show cf.cell? _=_;rw[zJ a8,ai],by
         show cf.cell? _=_;rw[zJ a8,aj],λ_=>cy.out,λe=>(by cases e)⟩)
        clear h d b4 b9 M a8 ai aj dj di;go_wp21;refine zc4 (λ(_:Unit) Q=>([.map (zq w.heap.size),z7 (zq ⟨j,0,zp⟩) 2 c,zf (zq ⟨j,0,zp⟩),zj zm (b:Int),z7 (zq ⟨j,0,zp⟩) 2 c,zf (zq ⟨j,1,zp⟩),zj zm (a:Int),zv]:List Value)[Q]?.getD zv) (λ(_:Unit) g V=>UpS w w.heap.size j b a (t k) g V) (by kernel_rfl) (by kernel_rfl) () al.out λ_=>?_;refine qB (.map (zq w.heap.size)) (λg f d=>d.step 0 (by decide)) ?_;refine qB (z7 (zq ⟨j,0,zp⟩) 2 c) (λg f d=>d.step 1 (by decide)) ?_;refine qB (zf (zq ⟨j,0,zp⟩)) (λg f d=>d.step 2 (by decide)) ?_;simp only[zzQ];refine qB (zj zm (b:Int)) (λg f d=>d.step 3 (by decide)) ?_ (hy:=λg f h d=>by have p:=d.c0;go_simp);refine qB (z7 (zq ⟨j,0,zp⟩) 2 c) (λg f d=>d.step 4 (by decide)) ?_;refine qB (zf (zq ⟨j,1,zp⟩)) (λg f d=>d.step 5 (by decide)) ?_;simp only[zzQ];refine qB (zj zm (a:Int)) (λg f d=>d.step 6 (by decide)) ?_ (hy:=λg f h d=>by have p:=d.c1;go_simp);simp only[zzQ]
        refine zbv zv (by rfl) (by rfl) (λg f h d O l=>by
         obtain⟨eq,fc,bl,c6⟩:=(d.mp0 h.self).put cl ck bq.out;have B:=l _ (d.puts bl c6 (Nat.le_of_lt (d.mp0 h.self).lt));clear d l;go_simp;exact B) ?_
        try simp only[zzQ]
        refine ze1 λg fq h d=>?_;have T:=hid (⟨d.bel,d.mp1 (h 7 (by decide))⟩:_/\_);clear h d al cu cy;go_wp21;go_roundw
        case rel=>exact⟨k+1,by omega,by go_num,hid ⟨T.1,by rw[z.out];exact T.2⟩⟩
        case measure=>simp[zL];omega
       ·have z:=hid (show t (k+1)=(a,b)::t k by rw[b5.out,if_neg hway])
        clear b5;have bq:=hid cv.out;have c7:=(Array.getElem?_eq_some_iff.1 M.1).1
        have al:=hid (show UpS w w.heap.size j a b (t k) (λ_=>zu) bp.drew from⟨b4.drew,by omega,c7,by
         show bp.cell? _=_;rw[zJ M.1,M.2.1],by
         show bp.cell? _=_;rw[zJ M.1,M.2.2],λ_=>b9.out,λe=>(by cases e)⟩)
        clear b4 b9 M;go_wp21;refine zc4 (λ(_:Unit) Q=>([.map (zq w.heap.size),z7 (zq ⟨j,0,zp⟩) 2 c,zf (zq ⟨j,0,zp⟩),zj zm (a:Int),z7 (zq ⟨j,0,zp⟩) 2 c,zf (zq ⟨j,1,zp⟩),zj zm (b:Int),zv]:List Value)[Q]?.getD zv) (λ(_:Unit) g V=>UpS w w.heap.size j a b (t k) g V) (by kernel_rfl) (by kernel_rfl) () al.out λ_=>?_;refine qB (.map (zq w.heap.size)) (λg f d=>d.step 0 (by decide)) ?_;refine qB (z7 (zq ⟨j,0,zp⟩) 2 c) (λg f d=>d.step 1 (by decide)) ?_;refine qB (zf (zq ⟨j,0,zp⟩)) (λg f d=>d.step 2 (by decide)) ?_;simp only[zzQ];refine qB (zj zm (a:Int)) (λg f d=>d.step 3 (by decide)) ?_ (hy:=λg f h d=>by have p:=d.c0;go_simp);refine qB (z7 (zq ⟨j,0,zp⟩) 2 c) (λg f d=>d.step 4 (by decide)) ?_;refine qB (zf (zq ⟨j,1,zp⟩)) (λg f d=>d.step 5 (by decide)) ?_;simp only[zzQ];refine qB (zj zm (b:Int)) (λg f d=>d.step 6 (by decide)) ?_ (hy:=λg f h d=>by have p:=d.c1;go_simp);simp only[zzQ]
        refine zbv zv (by rfl) (by rfl) (λg f h d O l=>by
         obtain⟨eq,fc,bl,c6⟩:=(d.mp0 h.self).put ck cl bq.out;have B:=l _ (d.puts bl c6 (Nat.le_of_lt (d.mp0 h.self).lt));clear d l;go_simp;exact B) ?_
        try simp only[zzQ]
        refine ze1 λg fq h d=>?_;have T:=hid (⟨d.bel,d.mp1 (h 7 (by decide))⟩:_/\_);clear h d al;go_wp21;go_roundw
        case rel=>exact⟨k+1,by omega,by go_num,hid ⟨T.1,by rw[z.out];exact T.2⟩⟩
        case measure=>simp[zL];omega
      ·have z:=hid (bv (.inr bg))
       have f1:¬((ad.length:Int)=2):=by omega
       clear b6 b3 bu b7 bb bz;go_wp21;go_roundw
       case rel=>exact⟨k+1,by omega,by go_num,hid ⟨ac.out,by rw[z.out];exact b8.out⟩⟩
       case measure=>simp[zL];omega
   ·have z:=hid (bv (.inl rfl))
    clear b6 bt b3;go_wp21;go_roundw
    case rel=>exact⟨k+1,by omega,by go_num,hid ⟨ab.out,by rw[z.out];exact ak.out⟩⟩
    case measure=>simp[zL];omega
  ·obtain rfl:k=n:=by omega
   have T:=hid (⟨af,ao⟩:_/\_);clear af ao c5;go_wp21;go_ret2;exact⟨rfl,T.1,T.2⟩
end
section
open Go.RowKit Go.Shelf Lib Str Limb
def IntG (G B:Nat) (v:Value) (L:List Nat) (W:zA):Prop:=(v=z7 zp 0 0/\L=[])\/∃b cap,v=z7 (zq ⟨b,0,zp⟩) L.length cap/\b<B/\b≠G/\b<W.heap.size/\∀(i x:Nat),L[i]? =zq x->W.cell? ⟨b,i,zp⟩=zq (zj zm (x:Int))
section
variable {G B:Nat} {v:Value} {L:List Nat} {W W':zA}
theorem IntG.mono (h:IntG G B v L W) {B':Nat} (e:B<=B'):IntG G B' v L W:=h.imp id λ⟨a,b,c,d,f⟩=>⟨a,b,c,zS d e,f⟩
theorem IntG.below (h:IntG G B v L W) (c:zB B W W'):IntG G B v L W':=h.imp id λ⟨a,d,e,b,f,g,i⟩=>⟨a,d,e,b,f,zS g c.size,λk l j=>by
 rw[<-i k l j];simp[World.cell?,c.block a b]⟩
theorem IntG.setCell (h:IntG G B v L W) (k:Nat) (u:Value):IntG G B v L (W.setCell ⟨G,k,zp⟩ u):=h.imp id λ⟨a,c,d,e,b,f,g⟩=>⟨a,c,d,e,b,by simpa using f,λj m i=>by
 have l:=yE W ⟨G,k,zp⟩ u a b;rw[<-g j m i];simp[World.cell?,l]⟩
theorem IntG.out (h:IntG G B v L W):IntL v L W:=h.imp id λ⟨a,b,c,_,_,d,e⟩=>⟨a,b,c,d,e⟩
theorem IntG.own {a:Nat} (h:W.ownsRow a 3 1 v L.length (natV L)) (j:G<a):IntG G W.heap.size v L W:=by
 rcases IntL.of h with f|⟨b,e,c,d,g⟩
 ·exact .inl f
 ·exact .inr ⟨b,e,c,d,λi=>by have:=(h.lt b (by rw[c];rfl)).1;omega,d,g⟩
end
structure FcS (w0:zA) (G B n i:Nat) (C:Nat->List Nat) (v:Value) (W:zA):Prop where
 bel:qL w0 W
 lo:w0.heap.size<=G
 lt:G<B
 sz:B<=W.heap.size
 blk:∃arr,W.heap[G]? =zq (zn arr 74 (0,0))/\arr.size=n/\arr[i]? =zq v/\(∀j,j<n->i<j->arr[j]? =zq (z7 zp 0 0))/\∀j,j<i->∃u,arr[j]? =zq u/\IntG G B u (C j) W
section
variable {w0 W W':zA} {G B n i:Nat} {C:Nat->List Nat} {v:Value}
theorem FcS.below (h:FcS w0 G B n i C v W) (a:zB B W W'):FcS w0 G B n i C v W':=by
 obtain⟨c,d,e,f,g,j⟩:=h.blk;exact⟨h.bel.trans (a.mono (by have:=h.lo;have:=h.lt;omega)),h.lo,h.lt,Nat.le_trans h.sz a.size,c,(a.block _ h.lt).trans d,e,f,g,λl k=>(j l k).imp λm b=>⟨b.1,b.2.below a⟩⟩
theorem FcS.cell (h:FcS w0 G B n i C v W):W.cell? ⟨G,i,zp⟩=zq v/\W.frozen? ⟨G,i,zp⟩=zu:=by
 obtain⟨c,a,d,b,e,f⟩:=h.blk;exact⟨by rw[zJ a,b],by simp[World.frozen?,a]⟩
theorem FcS.put (h:FcS w0 G B n i C v W) (u:Value):FcS w0 G B n i C u (W.setCell ⟨G,i,zp⟩ u):=by
 obtain⟨q,e,f,g,j,k⟩:=h.blk;have m:=(Array.getElem?_eq_some_iff.1 g).1;refine⟨h.bel.setCell (p:=⟨G,i,zp⟩) h.lo _,h.lo,h.lt,by have:=h.sz;simpa using this,_,zK (i:=i) e _,by simpa using f,by simp[m],λb a l=>?_,λb a=>?_⟩
 ·have:=j b a l
  rw[Array.getElem?_setIfInBounds_ne (by omega)];exact this
 ·obtain⟨o,c,d⟩:=k b a
  exact⟨o,by rw[Array.getElem?_setIfInBounds_ne (by omega)];exact c,d.setCell i u⟩
theorem FcS.next (h:FcS w0 G B n i C v W) (m:IntG G W.heap.size v (C i) W) (l:i+1<n):FcS w0 G W.heap.size n (i+1) C (z7 zp 0 0) W:=by
 obtain⟨f,b,g,j,c,k⟩:=h.blk;refine⟨h.bel,h.lo,zS h.lt h.sz,zN _,f,b,g,c _ l (by omega),λa d o=>c a d (by omega),λa d=>?_⟩;by_cases b:a=i
 ·subst b;exact⟨v,j,m⟩
 ·exact(k a (by omega)).imp λp e=>⟨e.1,e.2.mono h.sz⟩
theorem FcS.all (h:FcS w0 G B n i C v W) (g:IntG G W.heap.size v (C i) W) (o:i+1=n):RowOn (zq ⟨G,0,zp⟩) n C W:=λb p=>by
 obtain⟨k,a,l,e,m,f⟩:=h.blk;by_cases ek:b=i
 ·subst ek
  exact⟨G,0,v,rfl,by rw[Nat.zero_add,zJ a,e],g.out⟩
 ·obtain⟨j,c,d⟩:=f b (by omega)
  exact⟨G,0,j,rfl,by rw[Nat.zero_add,zJ a,c],d.out⟩
end
theorem ygh (w:zA) (n:Nat) (j:n<=4096):(Instr.makeSlice 92 (zj zm (n:Int)) (zj zm (n:Int))).run zF w=.ok (z7 (zq ⟨w.heap.size,0,zp⟩) n n) (w.alloc (zn (Array.replicate n (z7 zp 0 0)) 74)):=by
 obtain⟨g,c,d,e,f⟩:=info_parts onfo;have b:=run_make (P:=zF) w 92 74 g _ Tryz.underlying92 c d zm zm (n:Int) (n:Int) (by omega) (Int.le_refl _) (by rw[f];omega) (by omega);have a:madeCells (z7 zp 0 0).cells n=Array.replicate n (z7 zp 0 0):=by
  rw[show(z7 zp 0 0).cells= #[z7 zp 0 0] from rfl];apply Array.ext
  ·simp[madeCells]
  ·intro k h i
   simp[madeCells,Nat.mod_one]
 rw[b,e];simp only[Int.toNat_natCast,Nat.mul_one];rw[a]
theorem FcS.start (w:zA) {n:Nat} (b:0<n) (C:Nat->List Nat):FcS w w.heap.size (w.heap.size+1) n 0 C (z7 zp 0 0) (w.alloc (zn (Array.replicate n (z7 zp 0 0)) 74)):=
 ⟨(zM _ w).alloc (zN _) _,zN _,Nat.lt_succ_self _,by simp,_,zG _ _,by simp,by simp[b],λc a _=>by simp[a],λc a=>by omega⟩
end
end Go.Proofs.YtjmljcdbjakefaaGreatDoor
