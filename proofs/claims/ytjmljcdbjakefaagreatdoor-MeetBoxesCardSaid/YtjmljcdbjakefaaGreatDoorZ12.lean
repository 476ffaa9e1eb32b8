/- vector.Dot, Cross, Scale of -/
import Derived.Test.YtjmljcdbjakefaaGreatDoorZ11
set_option maxRecDepth 100000
set_option maxHeartbeats 8000000
open Go.Value renaming slice → z7, string → z8, tuple → ze, pointer → zf, bool → zg, agg → zh, int → zj
open Go.IntKind renaming i64 → zm
open Go.Obj renaming cells → zn
open Go.Ending renaming returned → zo
open Option renaming none → zp, some → zq
open Bool renaming true → zt, false → zu
open Go renaming undef → zv
open Go renaming World → zA, Calls → zC
open Go.RowKit renaming Below → zB, intOf → zL
open Go.Proofs.Tryz renaming prog → zF
open Go.World renaming alloc_heap_new → zG, size_alloc → zH
open Go.IntWalk renaming i64_in → zI
open Go.Joins renaming cell_of_block → zJ, block_setCell → zK
open Go.RowKit.Below renaming refl → zM, heap_setCell → yE
open Nat renaming le_refl → zN, zero_le → zR
open List renaming length_cons → yA, getElem?_eq_getElem → yB, append_toArray → yX, take_of_length_le → xC
open Array renaming replicate_succ → yU, replicate_zero → yV
namespace Go.Proofs.YtjmljcdbjakefaaGreatDoor
section
open Go.RowKit Go.Shelf Lib Str Limb
theorem yaq:∀args w,(callFunc 106 args).run zF w=.ok (.enter 106 args) w:=enters_of Tryz.func106 (by kernel_rfl) rfl
def sz3 (a b c:Rat) (k:Nat):Prop:=sz a k/\sz b k/\sz c k
theorem sz3.mono {a b c:Rat} {i j:Nat} (h:sz3 a b c i) (d:i<=j):sz3 a b c j:=⟨h.1.mono d,h.2.1.mono d,h.2.2.mono d⟩
theorem zcl (a b c:Rat) (h:sz3 a b c 140) (w:zA) (hw:Wd w):qJ 103 #[zh #[St (numS a),St (numS b),St (numS c)]] w (zj zm 0):=
 z3t _ _ _ (hid λd e=>zfj a (zd0 (by omega) (by omega) h.1) d e) (hid λd e=>zfj b (zd0 (by omega) (by omega) h.2.1) d e) (hid λd e=>zfj c (zd0 (by omega) (by omega) h.2.2) d e) w (hid hw)
theorem z4t (a b c d e f:Rat) (h:sz3 a b c 60) (j:sz3 d e f 60) (w:zA) (hw:Wd w):qJ 101 #[zh #[St (numS a),St (numS b),St (numS c)],zh #[St (numS d),St (numS e),St (numS f)]] w (zj zm 0):=
 z7t _ _ _ _ _ _ w (hid λg i=>zcl a b c (h.mono (by omega)) g (hw.below i)) (hid λg i=>zcl d e f (j.mono (by omega)) g (hw.below i))
theorem zr6 (a b c d e f:Rat) (h:sz3 a b c 140) (j:sz3 d e f 140) (w:zA) (hw:Wd w):zC zF 105 #[zh #[St (numS a),St (numS b),St (numS c)],zh #[St (numS d),St (numS e),St (numS f)],.func (.func 106) #[] #[]] w λk w'=>k=zo (ze #[zh #[St (numS (a*d)),St (numS (b*e)),St (numS (c*f))],zj zm 0])/\zB w.heap.size w w':=
 zmw _ _ _ _ _ _ _ _ _ _ yaq w (hid λg i=>zjf a d 140 140 (by omega) (by omega) (by omega) h.1 j.1 g (hw.below i)) (hid λg i=>zjf b e 140 140 (by omega) (by omega) (by omega) h.2.1 j.2.1 g (hw.below i)) (hid λg i=>zjf c f 140 140 (by omega) (by omega) (by omega) h.2.2 j.2.2 g (hw.below i))
theorem zq7 (a b c d e f:Rat) (h:sz3 a b c 40) (g:sz3 d e f 40) (w:zA) (hw:Wd w):zC zF 121 #[zh #[St (numS a),St (numS b),St (numS c)],zh #[St (numS d),St (numS e),St (numS f)]] w λm w'=>m=zo (ze #[St (numS (a*d+b*e+c*f)),zj zm 0])/\zB w.heap.size w w':=
 yd6 _ _ _ _ _ _ _ w (hid λl k=>z4t a b c d e f (h.mono (by omega)) (g.mono (by omega)) l (hw.below k))
  (hid λl k=>z8y _ _ _ _ _ _ _ _ _ (numS (a*d+b*e)) _ l (hid λi j=>zr6 a b c d e f (h.mono (by omega)) (g.mono (by omega)) i ((hw.below k).below j))
    (hid λi j=>zje (a*d) (b*e) 80 80 (by omega) (by omega) (by omega) (zca h.1 g.1) (zca h.2.1 g.2.1) i ((hw.below k).below j))
    (hid λi j=>zje (a*d+b*e) (c*f) 161 80 (by omega) (by omega) (by omega) (zk0 (zca h.1 g.1) (zca h.2.1 g.2.1)) (zca h.2.2 g.2.2) i ((hw.below k).below j)))
theorem zmc (a b c d e f:Rat) (h:sz3 a b c 30) (g:sz3 d e f 30) (w:zA) (hw:Wd w):zC zF 70 #[zh #[St (numS a),St (numS b),St (numS c)],zh #[St (numS d),St (numS e),St (numS f)]] w λu w'=>u=zo (ze #[zh #[St (numS (b*f-c*e)),St (numS (c*d-a*f)),St (numS (a*e-b*d))],zj zm 0])/\zB w.heap.size w w':=
 zxt _ _ _ _ _ _ _ _ _ w (hid λm p=>z4t a b c d e f (h.mono (by omega)) (g.mono (by omega)) m (hw.below p))
  (hid λm p=>by
    have l:∀(i j:Rat),sz i 30->sz j 30->Hid (∀k:zA,qL m k->qJ 106 #[St (numS i),St (numS j)] k (ze #[St (numS (i*j)),zj zm 0])):=λi j s t=>hid λk r=>zjf i j 30 30 (by omega) (by omega) (by omega) s t k ((hw.below p).below r);have q:∀(i j o n:Rat),sz i 30->sz j 30->sz o 30->sz n 30->Hid (∀k:zA,qL m k->qJ 138 #[St (numS (i*j)),St (numS (o*n))] k (ze #[St (numS (i*j-o*n)),zj zm 0])):=λi j o n s t x v=>hid λk r=>ztz (i*j) (o*n) 60 60 (by omega) (by omega) (by omega) (zca s t) (zca x v) k ((hw.below p).below r);exact yfw _ _ _ _ _ _ _ _ _ _ _ _ _ _ _ m (l b f h.2.1 g.2.2) (l c e h.2.2 g.2.1) (q b f c e h.2.1 g.2.2 h.2.2 g.2.1) (l c d h.2.2 g.1) (l a f h.1 g.2.2) (q c d a f h.2.2 g.1 h.1 g.2.2) (l a e h.1 g.2.1) (l b d h.2.1 g.1) (q a e b d h.1 g.2.1 h.2.1 g.1))
theorem z7v (a b c x:Rat) (h:sz3 a b c 140) (f:sz x 140) (w:zA) (hw:Wd w):zC zF 72 #[zh #[St (numS a),St (numS b),St (numS c)],St (numS x)] w λg w'=>g=zo (ze #[zh #[St (numS (a*x)),St (numS (b*x)),St (numS (c*x))],zj zm 0])/\zB w.heap.size w w':=
 z1k _ _ _ _ _ _ _ w (hid λd e=>zcl a b c h d (hw.below e)) (hid λd e=>zfj x (zd0 (by omega) (by omega) f) d (hw.below e)) (hid λd e=>zr6 a b c x x x h ⟨f,f,f⟩ d (hw.below e))
end
section
open Go.RowKit Lib Str Limb
def zfr (e:Rat):Prop:=e=1\/e= -1
structure HOk (h:Hq):Prop where
 ax:(zfr h.a/\h.b=0/\h.c=0)\/(h.a=0/\zfr h.b/\h.c=0)\/(h.a=0/\h.b=0/\zfr h.c)
 d:sz h.d 10
theorem zse {e:Rat} (h:zfr e):sz e 1:=by rcases h with rfl|rfl<;>exact⟨by decide,by decide⟩
theorem zlb {k:Nat} (a:1<=k):sz (0:Rat) k:=(show sz (0:Rat) 1 from⟨by decide,by decide⟩).mono a
theorem HOk.s3 {h:Hq} (ok:HOk h):sz3 h.a h.b h.c 1:=by
 rcases ok.ax with⟨a,b,c⟩|⟨a,b,c⟩|⟨a,b,c⟩
 ·exact⟨zse a,by rw[b];exact zlb (by omega),by rw[c];exact zlb (by omega)⟩
 ·exact⟨by rw[a];exact zlb (by omega),zse b,by rw[c];exact zlb (by omega)⟩
 ·exact⟨by rw[a];exact zlb (by omega),by rw[b];exact zlb (by omega),zse c⟩
theorem HOk.nz {h:Hq} (ok:HOk h):h.a≠0\/h.b≠0\/h.c≠0:=by
 have a:∀{b:Rat},zfr b->b≠0:=λh=>by rcases h with rfl|rfl<;>decide
 rcases ok.ax with⟨c, -, -⟩|⟨-,d, -⟩|⟨-, -,e⟩
 ·exact .inl (a c)
 ·exact .inr (.inl (a d))
 ·exact .inr (.inr (a e))
theorem yk5 {h k m:Hq} (d:detQ h k m≠0):h.v (corQ h k m)=0/\k.v (corQ h k m)=0/\m.v (corQ h k m)=0:=by
 obtain⟨b,a⟩:=zzX (1/detQ h k m);have e:detQ h k m*b=1:=by rw[a];grind
 unfold corQ Hq.v;rw[<-a];dsimp only;have f:h.a*crX1 k m+h.b*crX2 k m+h.c*crX3 k m=detQ h k m:=rfl;have g:k.a*crX1 m h+k.b*crX2 m h+k.c*crX3 m h=detQ h k m:=by unfold detQ crX1 crX2 crX3;grind
 have i:m.a*crX1 h k+m.b*crX2 h k+m.c*crX3 h k=detQ h k m:=by unfold detQ crX1 crX2 crX3;grind
 have z1:h.a*crX1 m h+h.b*crX2 m h+h.c*crX3 m h=0:=by unfold crX1 crX2 crX3;grind
 have z2:h.a*crX1 h k+h.b*crX2 h k+h.c*crX3 h k=0:=by unfold crX1 crX2 crX3;grind
 have z3:k.a*crX1 k m+k.b*crX2 k m+k.c*crX3 k m=0:=by unfold crX1 crX2 crX3;grind
 have z4:k.a*crX1 h k+k.b*crX2 h k+k.c*crX3 h k=0:=by unfold crX1 crX2 crX3;grind
 have j:m.a*crX1 k m+m.b*crX2 k m+m.c*crX3 k m=0:=by unfold crX1 crX2 crX3;grind
 have l:m.a*crX1 m h+m.b*crX2 m h+m.c*crX3 m h=0:=by unfold crX1 crX2 crX3;grind
 generalize detQ h k m=c at*
 refine⟨?_,?_,?_⟩<;>grind
theorem zrb {h k m:Hq} (u:HOk h) (v:HOk k) (w:HOk m) (d:detQ h k m≠0):sz3 (corQ h k m).x (corQ h k m).y (corQ h k m).z 10:=by
 obtain⟨o,p,q⟩:=yk5 d;have B:∀{f:Rat},zfr f->f≠0:=λh=>by rcases h with rfl|rfl<;>decide
 have val:∀{f n l:Rat},zfr f->sz l 10->n*f-l=0->sz n 10:=λ{f n l} z y A=>by
  rcases z with rfl|rfl
  ·rw[show n=l by grind];exact y
  ·rw[show n= -l by grind];exact zm3 y
 obtain⟨g,x⟩:=zzX (corQ h k m);rw[<-x] at o p q⊢;clear x;have r:∀b:Hq,HOk b->b.v g=0->b.a≠0->sz g.x 10:=λb ok e c=>by
  rcases ok.ax with⟨a,i,j⟩|⟨a, -, -⟩|⟨a, -, -⟩
  ·exact val a ok.d (by unfold Hq.v at e;rw[i,j] at e;grind)
  ·exact(c a).elim
  ·exact(c a).elim
 have s:∀b:Hq,HOk b->b.v g=0->b.b≠0->sz g.y 10:=λb ok e c=>by
  rcases ok.ax with⟨-,a, -⟩|⟨a,i,j⟩|⟨-,a, -⟩
  ·exact(c a).elim
  ·exact val i ok.d (by unfold Hq.v at e;rw[a,j] at e;grind)
  ·exact(c a).elim
 have t:∀b:Hq,HOk b->b.v g=0->b.c≠0->sz g.z 10:=λb ok e c=>by
  rcases ok.ax with⟨-, -,a⟩|⟨-, -,a⟩|⟨a,i,j⟩
  ·exact(c a).elim
  ·exact(c a).elim
  ·exact val j ok.d (by unfold Hq.v at e;rw[a,i] at e;grind)
 refine⟨?_,?_,?_⟩
 ·by_cases a0:h.a=0
  ·by_cases a1:k.a=0
   ·by_cases a2:m.a=0
    ·exact(d (by unfold detQ crX1 crX2 crX3;rw[a0,a1,a2];grind)).elim
    ·exact r m w q a2
   ·exact r k v p a1
  ·exact r h u o a0
 ·by_cases a0:h.b=0
  ·by_cases a1:k.b=0
   ·by_cases a2:m.b=0
    ·exact(d (by unfold detQ crX1 crX2 crX3;rw[a0,a1,a2];grind)).elim
    ·exact s m w q a2
   ·exact s k v p a1
  ·exact s h u o a0
 ·by_cases a0:h.c=0
  ·by_cases a1:k.c=0
   ·by_cases a2:m.c=0
    ·exact(d (by unfold detQ crX1 crX2 crX3;rw[a0,a1,a2];grind)).elim
    ·exact t m w q a2
   ·exact t k v p a1
  ·exact t h u o a0
theorem z15 {l u:Pq} (b:sz3 l.x l.y l.z 10) (c:sz3 u.x u.y u.z 10):∀h∈boxH l u,HOk h:=λh a=>by
 obtain⟨d,e,f⟩:=b;obtain⟨g,i,j⟩:=c;unfold boxH at a;simp only[List.mem_cons,List.not_mem_nil,or_false] at a;rcases a with rfl|rfl|rfl|rfl|rfl|rfl
 ·exact⟨.inl ⟨.inr rfl,rfl,rfl⟩,zm3 d⟩
 ·exact⟨.inl ⟨.inl rfl,rfl,rfl⟩,g⟩
 ·exact⟨.inr (.inl ⟨rfl,.inr rfl,rfl⟩),zm3 e⟩
 ·exact⟨.inr (.inl ⟨rfl,.inl rfl,rfl⟩),i⟩
 ·exact⟨.inr (.inr ⟨rfl,rfl,.inr rfl⟩),zm3 f⟩
 ·exact⟨.inr (.inr ⟨rfl,rfl,.inl rfl⟩),j⟩
end
section
open Go.RowKit Go.Shelf Lib Str Limb
attribute [local go_sem] Oper.semAt_some
def h12 (X Y Z:Nat->List UInt8) (D:Nat->Value):Array Value:= #[St (X 0),St (Y 0),St (Z 0),D 0,St (X 1),St (Y 1),St (Z 1),D 1,St (X 2),St (Y 2),St (Z 2),D 2]
theorem zsh (v:Array Value) (w:zA) (h:∃a b c d e f g h i j k l,v= #[a,b,c,d,e,f,g,h,i,j,k,l]):
 zC zF 119 #[zh v] w λe w'=>e=zo (.func (.func 154) #[] #[zf (zq ⟨w.heap.size,0,zp⟩)])/\w.alloc (zn v 185)=w':=by
 obtain⟨a,b,c,d,e,f,g,h,i,j,k,l,rfl⟩:=h;go_enter Tryz.func119,Tryz.ntmps119;go_wp2;go_ret;exact⟨rfl,rfl⟩
theorem zme {b:zA} {a:Nat} {t:TypeId} {X c Z:Nat->List UInt8} {D:Nat->Value} (h:b.heap[a]? =zq (zn (h12 X c Z D) t (0,0))) (j:Nat) (d:j<3):
 b.cell? ⟨a,j*4,zp⟩=zq (St (X j))/\b.cell? ⟨a,j*4+1,zp⟩=zq (St (c j))/\b.cell? ⟨a,j*4+2,zp⟩=zq (St (Z j))/\b.cell? ⟨a,j*4+3,zp⟩=zq (D j):=by
 refine⟨?_,?_,?_,?_⟩<;>(rw[zJ h];match j,d with|0,_|1,_|2,_=>rfl)
def twoH (X Y Z:Nat->List UInt8) (D:Nat->Value) (i j:Nat):Value:=zh #[St (X i),St (Y i),St (Z i),D i,St (X j),St (Y j),St (Z j),D j]
theorem yhb (n:Nat) (an:1<=n) (p:Nat) (X s Z:Nat->List UInt8) (D:Nat->Value) (G:∀i,∃q m c,D i=z7 q m c) (t:TypeId) (M:zA->Prop) (a3:∀l,M l->l.heap[p]? =zq (zn (h12 X s Z D) t (0,0))):
 IterC Fence.wide n zF 154 #[zf (zq ⟨p,0,zp⟩)] M (λk args=>args= #[I k,twoH X s Z D ((k+1)%3) ((k+2)%3)]) 3:=by
 intro a5 L a9 l a1 a0 a4 aa;refine callsIn_of_wp Tryz.func154 rfl trivial ?_ rfl;simp only[Tryz.ntmps154,List.size_toArray,yA,List.length_nil,Nat.reduceAdd,Nat.reduceSub,yU,yV,List.push_toArray,yX,List.nil_append,List.cons_append];have J:=hid λk l a=>a3 l (a1 k l a);clear a3 a1;have K:=hid a4;clear a4;have a7:=hid a0;clear a0;gi_wp2;gi_loopw [4] (λi wr=>∃(k:Nat),k<=3/\i=zj zm (k:Int)/\Hid (L k wr))
  (λi _=>3-(zL i).toNat)
 case atStart=>exact⟨0,zR _,rfl,aa⟩
 case round=>
  obtain⟨k,ak,rfl,H⟩:=hrel;by_cases hlt:k<3
  ·have C:=J k wr H.out
   have af:(k+1)%3<3:=Nat.mod_lt _ (by omega);have ag:(k+2)%3<3:=Nat.mod_lt _ (by omega);obtain⟨O,P,Q,E⟩:=zme C _ af;obtain⟨R,S,T,F⟩:=zme C _ ag;have r:=hid λl a=>K k #[I k,twoH X s Z D ((k+1)%3) ((k+2)%3)] l a hlt rfl;unfold twoH at r;have al:Int.tmod ((k:Int)+1) 3=((k+1)%3:Nat):=by
    rw[show((k:Int)+1)=((k+1:Nat):Int) by omega];rfl
   have am:Int.tmod ((k:Int)+2) 3=((k+2)%3:Nat):=by
    rw[show((k:Int)+2)=((k+2:Nat):Int) by omega];rfl
   clear K J C;generalize (k+1)%3=g at*
   generalize (k+2)%3=h at*
   obtain⟨w,u,c1,U⟩:=G g;obtain⟨x,v,c2,V⟩:=G h;rw[U] at E r;rw[V] at F r;generalize X g=y at*
   generalize s g=A at*
   generalize Z g=z1 at*
   generalize X h=z at*
   generalize s h=B at*
   generalize Z h=z2 at*
   clear G U V;have ao:zm.wrap ((k:Int)+1)=(k:Int)+1:=zI _ ⟨by omega,by omega⟩;have ap:zm.wrap ((k:Int)+2)=(k:Int)+2:=zI _ ⟨by omega,by omega⟩;have aq:zm.wrap (g:Int)=(g:Int):=zI _ ⟨by omega,by omega⟩;have ar:zm.wrap (h:Int)=(h:Int):=zI _ ⟨by omega,by omega⟩;have ac:=a7 k wr wr.drew H (zM _ wr).drew;obtain⟨fn,tmps,assign,body,au,ae⟩:=r wr.drew ac;clear r;gi_wp2;refine zdr (λ_=>trivial) rfl (λ(o:Bool) i=>([.func (.yield a5) #[] #[],zj zm (k:Int),zj zm (k:Int),zj zm ((k:Int)+1),zj zm (g:Int),zf (zq ⟨p,g*4,zp⟩),zh #[St y,St A,St z1,z7 w u c1],zj zm (k:Int),zj zm ((k:Int)+2),zj zm (h:Int),zf (zq ⟨p,h*4,zp⟩),zh #[St z,St B,St z2,z7 x v c2],zh #[St y,St A,St z1,z7 w u c1,St z,St B,St z2,z7 x v c2],zg o,zg !o]:List Value).getD i zv)
    (λo e d=>(e 13=zu->d=wr.drew)/\(e 13=zt->(o=zt/\L (k+1) d)\/(o=zu/\a9 d))) (by kernel_rfl) (by kernel_rfl) zt ⟨λ_=>rfl,λa=>by cases a⟩ λo=>?_
   refine za2 (.func (.yield a5) #[] #[]) (by rfl) (by rfl) (λe d a=>⟨a.1,a.2⟩) (λe d b a=>by
    obtain rfl:=a.1 (b.no (j:=13) b.self (by kernel_rfl));go_simp) ?_
   try simp only[zzQ]
   refine za2 (zj zm (k:Int)) (by rfl) (by rfl) (λe d a=>⟨a.1,a.2⟩) (λe d b a=>by
    obtain rfl:=a.1 (b.no (j:=13) b.self (by kernel_rfl));go_simp) ?_
   try simp only[zzQ]
   refine za2 (zj zm (k:Int)) (by rfl) (by rfl) (λe d a=>⟨a.1,a.2⟩) (λe d b a=>by
    obtain rfl:=a.1 (b.no (j:=13) (b.no (j:=12) (b.no (j:=6) (b.no (j:=5) (b.no (j:=4) (b.no (j:=3) b.self (by kernel_rfl)) (by kernel_rfl)) (by kernel_rfl)) (by kernel_rfl)) (by kernel_rfl)) (by kernel_rfl));go_simp) ?_
   try simp only[zzQ]
   refine za2 (zj zm ((k:Int)+1)) (by rfl) (by rfl) (λe d a=>⟨a.1,a.2⟩) (λe d b a=>by
    obtain rfl:=a.1 (b.no (j:=13) (b.no (j:=12) (b.no (j:=6) (b.no (j:=5) (b.no (j:=4) b.self (by kernel_rfl)) (by kernel_rfl)) (by kernel_rfl)) (by kernel_rfl)) (by kernel_rfl));go_simp) ?_
   try simp only[zzQ]
   refine za2 (zj zm (g:Int)) (by rfl) (by rfl) (λe d a=>⟨a.1,a.2⟩) (λe d b a=>by
    obtain rfl:=a.1 (b.no (j:=13) (b.no (j:=12) (b.no (j:=6) (b.no (j:=5) b.self (by kernel_rfl)) (by kernel_rfl)) (by kernel_rfl)) (by kernel_rfl));go_simp) ?_
   try simp only[zzQ]
   refine za2 (zf (zq ⟨p,g*4,zp⟩)) (by rfl) (by rfl) (λe d a=>⟨a.1,a.2⟩) (λe d b a=>by
    obtain rfl:=a.1 (b.no (j:=13) (b.no (j:=12) (b.no (j:=6) b.self (by kernel_rfl)) (by kernel_rfl)) (by kernel_rfl));go_simp;intro a;omega) ?_
   try simp only[zzQ]
   refine za2 (zh #[St y,St A,St z1,z7 w u c1]) (by rfl) (by rfl) (λe d a=>⟨a.1,a.2⟩) (λe d b a=>by
    obtain rfl:=a.1 (b.no (j:=13) (b.no (j:=12) b.self (by kernel_rfl)) (by kernel_rfl));have O:wr.drew.cell? _=_:=O;have P:wr.drew.cell? _=_:=P;have Q:wr.drew.cell? _=_:=Q;have E:wr.drew.cell? _=_:=E;go_simp) ?_
   try simp only[zzQ]
   refine za2 (zj zm (k:Int)) (by rfl) (by rfl) (λe d a=>⟨a.1,a.2⟩) (λe d b a=>by
    obtain rfl:=a.1 (b.no (j:=13) (b.no (j:=12) (b.no (j:=11) (b.no (j:=10) (b.no (j:=9) (b.no (j:=8) b.self (by kernel_rfl)) (by kernel_rfl)) (by kernel_rfl)) (by kernel_rfl)) (by kernel_rfl)) (by kernel_rfl));go_simp) ?_
   try simp only[zzQ]
   refine za2 (zj zm ((k:Int)+2)) (by rfl) (by rfl) (λe d a=>⟨a.1,a.2⟩) (λe d b a=>by
    obtain rfl:=a.1 (b.no (j:=13) (b.no (j:=12) (b.no (j:=11) (b.no (j:=10) (b.no (j:=9) b.self (by kernel_rfl)) (by kernel_rfl)) (by kernel_rfl)) (by kernel_rfl)) (by kernel_rfl));go_simp) ?_
   try simp only[zzQ]
   refine za2 (zj zm (h:Int)) (by rfl) (by rfl) (λe d a=>⟨a.1,a.2⟩) (λe d b a=>by
    obtain rfl:=a.1 (b.no (j:=13) (b.no (j:=12) (b.no (j:=11) (b.no (j:=10) b.self (by kernel_rfl)) (by kernel_rfl)) (by kernel_rfl)) (by kernel_rfl));go_simp) ?_
   try simp only[zzQ]
   refine za2 (zf (zq ⟨p,h*4,zp⟩)) (by rfl) (by rfl) (λe d a=>⟨a.1,a.2⟩) (λe d b a=>by
    obtain rfl:=a.1 (b.no (j:=13) (b.no (j:=12) (b.no (j:=11) b.self (by kernel_rfl)) (by kernel_rfl)) (by kernel_rfl));go_simp;intro a;omega) ?_
   try simp only[zzQ]
   refine za2 (zh #[St z,St B,St z2,z7 x v c2]) (by rfl) (by rfl) (λe d a=>⟨a.1,a.2⟩) (λe d b a=>by
    obtain rfl:=a.1 (b.no (j:=13) (b.no (j:=12) b.self (by kernel_rfl)) (by kernel_rfl));have R:wr.drew.cell? _=_:=R;have S:wr.drew.cell? _=_:=S;have T:wr.drew.cell? _=_:=T;have F:wr.drew.cell? _=_:=F;go_simp) ?_
   try simp only[zzQ]
   refine za2 (zh #[St y,St A,St z1,z7 w u c1,St z,St B,St z2,z7 x v c2]) (by rfl) (by rfl) (λe d a=>⟨a.1,a.2⟩) (λe d b a=>by
    obtain rfl:=a.1 (b.no (j:=13) b.self (by kernel_rfl));go_simp) ?_
   try simp only[zzQ]
   refine zjk (zg o) (by rfl) (by rfl) (λe d b a ah W=>by
    obtain rfl:=a.1 b.self;go_simp;refine⟨λ_=>by omega,ae.mono ?_⟩;rintro aj N (⟨rfl,ab⟩|⟨rfl,ad⟩)
    ·refine⟨_,rfl,W zt N (λi f=>?_) ⟨λa=>(by cases a),λ_=>.inl ⟨rfl,ab⟩⟩⟩
     match i,f with
     |0,_|1,_|2,_|3,_|4,_|5,_|6,_|7,_|8,_|9,_|10,_|11,_|12,_=>rfl
     |13,f=>rw[b.self] at f;cases f
     |14,f=>rw[b.no (j:=14) b.self (by kernel_rfl)] at f;cases f
     |_+15,_=>rfl
    ·refine⟨_,rfl,W zu N (λi f=>?_) ⟨λa=>(by cases a),λ_=>.inr ⟨rfl,ad⟩⟩⟩
     match i,f with
     |0,_|1,_|2,_|3,_|4,_|5,_|6,_|7,_|8,_|9,_|10,_|11,_|12,_=>rfl
     |13,f=>rw[b.self] at f;cases f
     |14,f=>rw[b.no (j:=14) b.self (by kernel_rfl)] at f;cases f
     |_+15,_=>rfl) ?_
   try simp only[zzQ]
   refine za2 (zg !o) (by rfl) (by rfl) (λe d a=>⟨a.1,a.2⟩) (λe d b a=>by go_simp) ?_
   try simp only[zzQ]
   refine zls λe ai b a=>?_;rcases a.2 (b 13 (by decide)) with⟨rfl,Y⟩|⟨rfl,a2⟩
   ·have a6:=hid Y;clear Y b a
    gi_wp2;go_roundw
    case rel=>exact⟨k+1,by omega,by go_num,a6.out⟩
    case measure=>simp[zL];omega
   ·have a8:=hid a2;clear a2 b a
    gi_wp2;refine bodyPost_ret (results_none rfl _ _ _) rfl ?_;exact⟨⟨_,rfl⟩,.inr a8.out⟩
  ·obtain rfl:k=3:=by omega
   gi_wp2;go_end0;exact⟨⟨_,rfl⟩,.inl H.out⟩
structure CoS (w:zA) (ha hb hc:Array Value) (T:Nat) (D:Option Nat) (X:Array Value) (W:zA):Prop where
 bel:qL w W
 h0:W.heap[w.heap.size]? =zq (zn ha 53 (0,0))
 h1:W.heap[w.heap.size+1]? =zq (zn hb 53 (0,0))
 h2:W.heap[w.heap.size+1+1]? =zq (zn hc 53 (0,0))
 r0:W.heap[w.heap.size+1+1+1]? =zq (zn #[z7 zp 0 0,z7 zp 0 0,z7 zp 0 0] 99 (0,0))
 r1:W.heap[w.heap.size+1+1+1+1]? =zq (zn #[zg zu] 4 (0,0))
 r2:W.heap[w.heap.size+1+1+1+1+1]? =zq (zn #[zj zm 0] 29 (0,0))
 lo:w.heap.size+1+1+1+1+1<T
 x:W.heap[T]? =zq (zn X 189 (0,0))
 hd:∀d,D=zq d->W.heap[d]? =zq (.deferred (zq []))
section
variable {w W W':zA} {ha hb hc X X':Array Value} {T:Nat} {D:Option Nat}
theorem CoS.keep (h:CoS w ha hb hc T zp X W) (a:CellsKept W W') (c:zB w.heap.size W W'):CoS w ha hb hc T zp X W':=
 ⟨h.bel.trans c,a _ _ _ _ h.h0,a _ _ _ _ h.h1,a _ _ _ _ h.h2,a _ _ _ _ h.r0,a _ _ _ _ h.r1,a _ _ _ _ h.r2,h.lo,a _ _ _ _ h.x,λ_ b=>by cases b⟩
theorem CoS.next (h:CoS w ha hb hc T D X W) (b:qL W W'):CoS w ha hb hc T D X W':=
 have a:=zac b
 ⟨h.bel.trans (b.mono h.bel.size),a _ _ _ _ h.h0,a _ _ _ _ h.h1,a _ _ _ _ h.h2,a _ _ _ _ h.r0,a _ _ _ _ h.r1,a _ _ _ _ h.r2,h.lo,a _ _ _ _ h.x,λc d=>(b.block _ (Array.getElem?_eq_some_iff.1 (h.hd c d)).1).trans (h.hd c d)⟩
theorem CoS.put1 (h:CoS w ha hb hc T D X W) (i:Nat) (a:Value) (j:X.setIfInBounds i a=X'):CoS w ha hb hc T D X' (W.setCell ⟨T,i,zp⟩ a):=by
 have k:=h.lo;have b:∀{c:Nat},c≠T->(W.setCell ⟨T,i,zp⟩ a).heap[c]? =W.heap[c]? :=λhb=>yE _ _ _ _ (by exact hb);refine⟨h.bel.setCell (p:=⟨T,i,zp⟩) (by show _<=T;omega) _,(b (by omega)).trans h.h0,(b (by omega)).trans h.h1,(b (by omega)).trans h.h2,(b (by omega)).trans h.r0,(b (by omega)).trans h.r1,(b (by omega)).trans h.r2,h.lo,by rw[<-j];exact zK h.x a,λe f=>?_⟩;have d:=h.hd e f;exact(b (λg=>by rw[g,h.x] at d;cases d)).trans d
theorem CoS.put (h:CoS w ha hb hc T D X W) (i:Nat) (a b c:Value) (d:((X.setIfInBounds i a).setIfInBounds (i+1) b).setIfInBounds (i+2) c=X'):CoS w ha hb hc T D X' (((W.setCell ⟨T,i,zp⟩ a).setCell ⟨T,i+1,zp⟩ b).setCell ⟨T,i+2,zp⟩ c):=
 ((h.put1 i a rfl).put1 (i+1) b rfl).put1 (i+2) c d
theorem CoS.at3 (h:CoS w ha hb hc T D X W) (j:Nat) (b:j<3) (a:X.size=9):(∃u,W.cell? ⟨T,j*3,zp⟩=zq u)/\(∃u,W.cell? ⟨T,j*3+1,zp⟩=zq u)/\(∃u,W.cell? ⟨T,j*3+2,zp⟩=zq u)/\W.frozen? ⟨T,j*3,zp⟩=zu/\W.frozen? ⟨T,j*3+1,zp⟩=zu/\W.frozen? ⟨T,j*3+2,zp⟩=zu:=by
 refine⟨?_,?_,?_,Go.Joins.unfrozen_of_block h.x _,Go.Joins.unfrozen_of_block h.x _,Go.Joins.unfrozen_of_block h.x _⟩<;>
  (rw[zJ h.x];exact⟨_,Array.getElem?_eq_getElem (by omega)⟩)
end
section
variable {w W:zA} {hb hc:Array Value} {T:Nat} {D:Option Nat}
theorem CoS.half0 {a b c d:Value} {X:Array Value} (h:CoS w #[a,b,c,d] hb hc T D X W):W.cell? ⟨w.heap.size,0,zp⟩=zq a/\W.cell? ⟨w.heap.size,1,zp⟩=zq b/\W.cell? ⟨w.heap.size,2,zp⟩=zq c/\W.cell? ⟨w.heap.size,3,zp⟩=zq d:=
 ⟨by rw[zJ h.h0];rfl,by rw[zJ h.h0];rfl,by rw[zJ h.h0];rfl,by rw[zJ h.h0];rfl⟩
theorem CoS.dd {a b c d a1 i c1 e g b2 c2 f:Value} {X:Array Value} (h:CoS w #[a,b,c,d] #[a1,i,c1,e] #[g,b2,c2,f] T D X W):W.cell? ⟨w.heap.size,3,zp⟩=zq d/\W.cell? ⟨w.heap.size+1,3,zp⟩=zq e/\W.cell? ⟨w.heap.size+1+1,3,zp⟩=zq f:=
 ⟨by rw[zJ h.h0];rfl,by rw[zJ h.h1];rfl,by rw[zJ h.h2];rfl⟩
theorem CoS.c9 {ha:Array Value} {a b c d e f g j k:Value} (h:CoS w ha hb hc T D #[a,b,c,d,e,f,g,j,k] W):W.cell? ⟨T,0,zp⟩=zq a/\W.cell? ⟨T,1,zp⟩=zq b/\W.cell? ⟨T,2,zp⟩=zq c/\W.cell? ⟨T,3,zp⟩=zq d/\W.cell? ⟨T,4,zp⟩=zq e/\W.cell? ⟨T,5,zp⟩=zq f/\W.cell? ⟨T,6,zp⟩=zq g/\W.cell? ⟨T,7,zp⟩=zq j/\W.cell? ⟨T,8,zp⟩=zq k/\(∀i,W.frozen? ⟨T,i,zp⟩=zu):=
 ⟨by rw[zJ h.x];rfl,by rw[zJ h.x];rfl,by rw[zJ h.x];rfl,by rw[zJ h.x];rfl,by rw[zJ h.x];rfl,by rw[zJ h.x];rfl,by rw[zJ h.x];rfl,by rw[zJ h.x];rfl,by rw[zJ h.x];rfl,λi=>Go.Joins.unfrozen_of_block h.x i⟩
end
theorem zs3 (a b c d e f g h i:List UInt8) (w:zA):(Instr.index 189 (zh #[St a,St b,St c,St d,St e,St f,St g,St h,St i]) (zj zm 0)).run zF w=.ok (zh #[St a,St b,St c]) w/\(Instr.index 189 (zh #[St a,St b,St c,St d,St e,St f,St g,St h,St i]) (zj zm 1)).run zF w=.ok (zh #[St d,St e,St f]) w/\(Instr.index 189 (zh #[St a,St b,St c,St d,St e,St f,St g,St h,St i]) (zj zm 2)).run zF w=.ok (zh #[St g,St h,St i]) w:=
 ⟨by kernel_rfl,by kernel_rfl,by kernel_rfl⟩
def cr9 (cx cy cz:Nat->List UInt8) (k:Nat):Array Value:=
 #[St (if 0<k then cx 0 else[]),St (if 0<k then cy 0 else[]),St (if 0<k then cz 0 else[]),St (if 1<k then cx 1 else[]),St (if 1<k then cy 1 else[]),St (if 1<k then cz 1 else[]),St (if 2<k then cx 2 else[]),St (if 2<k then cy 2 else[]),St (if 2<k then cz 2 else[])]
theorem yjx (a b c:Nat->List UInt8) (k:Nat) (d:k<3):(((cr9 a b c k).setIfInBounds (k*3) (St (a k))).setIfInBounds (k*3+1) (St (b k))).setIfInBounds (k*3+2) (St (c k))=cr9 a b c (k+1):=by
 match k,d with
 |0,_|1,_|2,_=>rfl
structure CoT (w:zA) (ha hb hc:Array Value) (T D:Nat) (X:Array Value) (O:Nat) (o0 o1 o2:Value) (V:Array Value) (W:zA):Prop where
 s:CoS w ha hb hc T (zq D) X W
 o:W.heap[O]? =zq (zn #[o0,o1,o2] 118 (0,0))
 v:W.heap[O+1]? =zq (zn V 137 (0,0))
 lt:T<O
theorem SdL.keptC {v:Value} {l:List (Rat×Nat)} {a b:zA} (h:SdL v l a) (c:CellsKept a b) (p:a.heap.size<=b.heap.size):SdL v l b:=by
 rcases h with h|⟨i,n,j,k,m,o,e⟩
 ·exact .inl h
 ·exact .inr ⟨i,n,j,k,m,by omega,λf g d=>⟨c.cell (e f g d).1,c.cell (e f g d).2⟩⟩
section
variable {w W W':zA} {ha hb hc X V:Array Value} {T D O:Nat} {o0 o1 o2:Value}
theorem CoT.next (h:CoT w ha hb hc T D X O o0 o1 o2 V W) (a:qL W W'):CoT w ha hb hc T D X O o0 o1 o2 V W':=
 have b:=zac a
 ⟨h.s.next a,b _ _ _ _ h.o,b _ _ _ _ h.v,h.lt⟩
theorem CoT.ne (_:CoT w ha hb hc T D X O o0 o1 o2 V W) (i:Nat) (u:Value):(∀b,b≠O->(W.setCell ⟨O,i,zp⟩ u).heap[b]? =W.heap[b]?)/\W.heap.size<=(W.setCell ⟨O,i,zp⟩ u).heap.size:=
 ⟨λb hb=>yE _ _ _ _ (by exact hb),by simp[World.setCell]⟩
theorem CoT.putS (h:CoT w ha hb hc T D X O o0 o1 o2 V W) (i:Nat) (u:Value):CoS w ha hb hc T (zq D) X (W.setCell ⟨O,i,zp⟩ u)/\(W.setCell ⟨O,i,zp⟩ u).heap[O+1]? =zq (zn V 137 (0,0)):=by
 obtain⟨a, -⟩:=h.ne i u;have f:=h.s.lo;have g:=h.lt;refine⟨⟨h.s.bel.setCell (p:=⟨O,i,zp⟩) (by show _<=O;omega) _,(a _ (by omega)).trans h.s.h0,(a _ (by omega)).trans h.s.h1,(a _ (by omega)).trans h.s.h2,(a _ (by omega)).trans h.s.r0,(a _ (by omega)).trans h.s.r1,(a _ (by omega)).trans h.s.r2,f,(a _ (by omega)).trans h.s.x,λc d=>?_⟩,(a _ (by omega)).trans h.v⟩;have b:=h.s.hd c d;exact(a _ (λe=>by rw[e,h.o] at b;cases b)).trans b
theorem CoT.put0 (h:CoT w ha hb hc T D X O o0 o1 o2 V W) (u:Value):CoT w ha hb hc T D X O u o1 o2 V (W.setCell ⟨O,0,zp⟩ u):=⟨(h.putS 0 u).1,zK (i:=0) h.o u,(h.putS 0 u).2,h.lt⟩
theorem CoT.put1 (h:CoT w ha hb hc T D X O o0 o1 o2 V W) (u:Value):CoT w ha hb hc T D X O o0 u o2 V (W.setCell ⟨O,1,zp⟩ u):=⟨(h.putS 1 u).1,zK (i:=1) h.o u,(h.putS 1 u).2,h.lt⟩
theorem CoT.put2 (h:CoT w ha hb hc T D X O o0 o1 o2 V W) (u:Value):CoT w ha hb hc T D X O o0 o1 u V (W.setCell ⟨O,2,zp⟩ u):=⟨(h.putS 2 u).1,zK (i:=2) h.o u,(h.putS 2 u).2,h.lt⟩
end
theorem CoS.fin {w l:zA} {ha d J X:Array Value} {F D:Nat} {i j k:Value} {o:Bool} {x:Int} (h:CoS w ha d J F (zq D) X l) (f:zA) (r:f=((((l.setCell ⟨w.heap.size+1+1+1,0,zp⟩ i).setCell ⟨w.heap.size+1+1+1,1,zp⟩ j).setCell ⟨w.heap.size+1+1+1,2,zp⟩ k).setCell ⟨w.heap.size+1+1+1+1,0,zp⟩ (zg o)).setCell ⟨w.heap.size+1+1+1+1+1,0,zp⟩ (zj zm x)):
 qL w f/\f.heap[D]? =zq (.deferred (zq []))/\f.heap[w.heap.size+1+1+1]? =zq (zn #[i,j,k] 99 (0,0))/\f.heap[w.heap.size+1+1+1+1]? =zq (zn #[zg o] 4 (0,0))/\f.heap[w.heap.size+1+1+1+1+1]? =zq (zn #[zj zm x] 29 (0,0))/\
 ((∃q m c,i=z7 q m c)->(∃q m c,j=z7 q m c)->(∃q m c,k=z7 q m c)->∀u B,SdL u B l->SdL u B f):=by
 obtain⟨n,s⟩:=zzX (((l.setCell ⟨w.heap.size+1+1+1,0,zp⟩ i).setCell ⟨w.heap.size+1+1+1,1,zp⟩ j).setCell ⟨w.heap.size+1+1+1,2,zp⟩ k);obtain⟨v,t⟩:=zzX (n.setCell ⟨w.heap.size+1+1+1+1,0,zp⟩ (zg o));rw[<-s,<-t] at r;have z:∀b,b≠w.heap.size+1+1+1->n.heap[b]? =l.heap[b]? :=λb d=>by
  rw[s,yE _ _ _ _ (by exact d),yE _ _ _ _ (by exact d),yE _ _ _ _ (by exact d)]
 have A:∀b,b≠w.heap.size+1+1+1+1->v.heap[b]? =n.heap[b]? :=λb d=>by rw[t,yE _ _ _ _ (by exact d)]
 have y:∀b,b≠w.heap.size+1+1+1+1+1->f.heap[b]? =v.heap[b]? :=λb d=>by rw[r,yE _ _ _ _ (by exact d)]
 have M:n.heap[w.heap.size+1+1+1]? =zq (zn #[i,j,k] 99 (0,0)):=by rw[s];exact zK (i:=2) (zK (i:=1) (zK (i:=0) h.r0 i) j) k
 have C:n.heap[w.heap.size+1+1+1+1]? =zq (zn #[zg zu] 4 (0,0)):=(z _ (by omega)).trans h.r1;have E:v.heap[w.heap.size+1+1+1+1+1]? =zq (zn #[zj zm 0] 29 (0,0)):=(A _ (by omega)).trans ((z _ (by omega)).trans h.r2);have N:v.heap[w.heap.size+1+1+1+1]? =zq (zn #[zg o] 4 (0,0)):=by rw[t];exact zK (i:=0) C (zg o)
 have L:f.heap[w.heap.size+1+1+1+1+1]? =zq (zn #[zj zm x] 29 (0,0)):=by rw[r];exact zK (i:=0) E (zj zm x)
 have g:=h.hd D rfl;have G:D≠w.heap.size+1+1+1:=λa=>by rw[a,h.r0] at g;cases g
 have H:D≠w.heap.size+1+1+1+1:=λa=>by rw[a,h.r1] at g;cases g
 have I:D≠w.heap.size+1+1+1+1+1:=λa=>by rw[a,h.r2] at g;cases g
 refine⟨?_,(y _ I).trans ((A _ H).trans ((z _ G).trans g)),(y _ (by omega)).trans ((A _ (by omega)).trans M),(y _ (by omega)).trans N,L,λO P Q u B K=>?_⟩
 ·rw[r,t,s]
  exact((((h.bel.setCell (p:=⟨w.heap.size+1+1+1,0,zp⟩) (by show _<=w.heap.size+1+1+1;omega) _).setCell (p:=⟨w.heap.size+1+1+1,1,zp⟩) (by show _<=w.heap.size+1+1+1;omega) _).setCell (p:=⟨w.heap.size+1+1+1,2,zp⟩) (by show _<=w.heap.size+1+1+1;omega) _).setCell (p:=⟨w.heap.size+1+1+1+1,0,zp⟩) (by show _<=w.heap.size+1+1+1+1;omega) _).setCell (p:=⟨w.heap.size+1+1+1+1+1,0,zp⟩) (by show _<=w.heap.size+1+1+1+1+1;omega) _
 ·have ha:=K.other z (by rw[s];simp[World.setCell]) (zf7 h.r0 ⟨_,_,_,rfl⟩ ⟨_,_,_,rfl⟩ ⟨_,_,_,rfl⟩)
  have d:=ha.other A (by rw[t];simp[World.setCell]) (λe q a=>by
   rw[zJ C] at a
   match e,a with
   |0,a=>cases Option.some.inj a
   |e+1,a=>simp at a)
  exact d.other y (by rw[r];simp[World.setCell]) (λe q a=>by
   rw[zJ E] at a
   match e,a with
   |0,a=>cases Option.some.inj a
   |e+1,a=>simp at a)
theorem CoS.outs {w a:zA} {ha c d X:Array Value} {b:Nat} {D:Option Nat} (h:CoS w ha c d b D X a):(a.cell? ⟨w.heap.size+1+1+1,0,zp⟩=zq (z7 zp 0 0)/\a.cell? ⟨w.heap.size+1+1+1,1,zp⟩=zq (z7 zp 0 0)/\a.cell? ⟨w.heap.size+1+1+1,2,zp⟩=zq (z7 zp 0 0)/\a.frozen? ⟨w.heap.size+1+1+1,0,zp⟩=zu/\a.frozen? ⟨w.heap.size+1+1+1,1,zp⟩=zu/\a.frozen? ⟨w.heap.size+1+1+1,2,zp⟩=zu)/\a.cell? ⟨w.heap.size+1+1+1+1,0,zp⟩=zq (zg zu)/\a.cell? ⟨w.heap.size+1+1+1+1+1,0,zp⟩=zq (zj zm 0)/\a.frozen? ⟨w.heap.size+1+1+1+1,0,zp⟩=zu/\a.frozen? ⟨w.heap.size+1+1+1+1+1,0,zp⟩=zu:=
 ⟨zah h.r0,by rw[zJ h.r1];rfl,by rw[zJ h.r2];rfl,Go.Joins.unfrozen_of_block h.r1 0,Go.Joins.unfrozen_of_block h.r2 0⟩
theorem CoS.fin9 {w f:zA} {ha x z X:Array Value} {r D:Nat} (h:CoS w ha x z r (zq D) X f) (g i j:Value) (k:Bool) (l:Int):∃b,((((f.setCell ⟨w.heap.size+1+1+1,0,zp⟩ g).setCell ⟨w.heap.size+1+1+1,1,zp⟩ i).setCell ⟨w.heap.size+1+1+1,2,zp⟩ j).setCell ⟨w.heap.size+1+1+1+1,0,zp⟩ (zg k)).setCell ⟨w.heap.size+1+1+1+1+1,0,zp⟩ (zj zm l)=b/\zB w.heap.size w b/\b.heap[D]? =zq (.deferred (zq []))/\(∀a,a=b.putObj D (.deferred zp)->a.cell? ⟨w.heap.size+1+1+1,0,zp⟩=zq g/\a.cell? ⟨w.heap.size+1+1+1,1,zp⟩=zq i/\a.cell? ⟨w.heap.size+1+1+1,2,zp⟩=zq j/\a.cell? ⟨w.heap.size+1+1+1+1,0,zp⟩=zq (zg k)/\a.cell? ⟨w.heap.size+1+1+1+1+1,0,zp⟩=zq (zj zm l)/\
 ((∃q m c,g=z7 q m c)->(∃q m c,i=z7 q m c)->(∃q m c,j=z7 q m c)->∀u e,SdL u e f->SdL u e a)):=by
 obtain⟨b,p⟩:=zzX (((((f.setCell ⟨w.heap.size+1+1+1,0,zp⟩ g).setCell ⟨w.heap.size+1+1+1,1,zp⟩ i).setCell ⟨w.heap.size+1+1+1,2,zp⟩ j).setCell ⟨w.heap.size+1+1+1+1,0,zp⟩ (zg k)).setCell ⟨w.heap.size+1+1+1+1+1,0,zp⟩ (zj zm l));obtain⟨y,o,C,E,F,A⟩:=h.fin b p;refine⟨b,p.symm,y,o,λa n=>?_⟩;have d:=zbk o;rw[<-n] at d;obtain⟨s,t,v, -, -, -⟩:=zah (d _ _ _ _ C);exact⟨s,t,v,by rw[zJ (d _ _ _ _ E)];rfl,by rw[zJ (d _ _ _ _ F)];rfl,λG H I u e B=>(A G H I u e B).keptC d (by rw[n];simp[World.putObj])⟩
structure CoL (w:zA) (X Y Z cx cy cz:Nat->List UInt8) (Dv:Nat->Value) (T B k:Nat) (W:zA):Prop where
 s:CoS w #[St (X 0),St (Y 0),St (Z 0),Dv 0] #[St (X 1),St (Y 1),St (Z 1),Dv 1] #[St (X 2),St (Y 2),St (Z 2),Dv 2] T zp (cr9 cx cy cz k) W
 b:W.heap[B]? =zq (zn (h12 X Y Z Dv) 185 (0,0))
 ne:B≠T
section
variable {w W W':zA} {X Y Z cx cy cz:Nat->List UInt8} {Dv:Nat->Value} {T B k:Nat}
theorem CoL.keep (h:CoL w X Y Z cx cy cz Dv T B k W) (a:CellsKept W W') (b:zB w.heap.size W W'):CoL w X Y Z cx cy cz Dv T B k W':=⟨h.s.keep a b,a _ _ _ _ h.b,h.ne⟩
theorem CoL.put (h:CoL w X Y Z cx cy cz Dv T B k W) (a:k<3):CoL w X Y Z cx cy cz Dv T B (k+1) (((W.setCell ⟨T,k*3,zp⟩ (St (cx k))).setCell ⟨T,k*3+1,zp⟩ (St (cy k))).setCell ⟨T,k*3+2,zp⟩ (St (cz k))):=
 ⟨h.s.put (k*3) _ _ _ (yjx cx cy cz k a),by rw[yE _ _ _ _ (by exact h.ne),yE _ _ _ _ (by exact h.ne),yE _ _ _ _ (by exact h.ne)];exact h.b,h.ne⟩
end
theorem yhc (w x:zA) (X b Z:Nat->List UInt8) (a:Nat->Value) (H:x=((((((w).alloc (zn #[St (X 0),St (b 0),St (Z 0),a 0] 53)).alloc (zn #[St (X 1),St (b 1),St (Z 1),a 1] 53)).alloc (zn #[St (X 2),St (b 2),St (Z 2),a 2] 53)).alloc (zn #[z7 zp 0 0,z7 zp 0 0,z7 zp 0 0] 99)).alloc (zn #[zg zu] 4)).alloc (zn #[zj zm 0] 29)):qL w x/\x.heap[w.heap.size]? =zq (zn #[St (X 0),St (b 0),St (Z 0),a 0] 53 (0,0))/\x.heap[w.heap.size+1]? =zq (zn #[St (X 1),St (b 1),St (Z 1),a 1] 53 (0,0))/\x.heap[w.heap.size+1+1]? =zq (zn #[St (X 2),St (b 2),St (Z 2),a 2] 53 (0,0))/\x.heap[w.heap.size+1+1+1]? =zq (zn #[z7 zp 0 0,z7 zp 0 0,z7 zp 0 0] 99 (0,0))/\x.heap[w.heap.size+1+1+1+1]? =zq (zn #[zg zu] 4 (0,0))/\x.heap[w.heap.size+1+1+1+1+1]? =zq (zn #[zj zm 0] 29 (0,0))/\x.heap.size=w.heap.size+1+1+1+1+1+1:=by
 obtain⟨i,q⟩:=zzX (w.alloc (zn #[St (X 0),St (b 0),St (Z 0),a 0] 53));have B:i.heap.size=w.heap.size+1:=by rw[q,zH]
 have A:qL w i:=by rw[q];exact(zM _ w).alloc (zN _) _
 have c:i.heap[w.heap.size]? =zq (zn #[St (X 0),St (b 0),St (Z 0),a 0] 53 (0,0)):=by rw[q];exact zG w _
 obtain⟨j,r⟩:=zzX (i.alloc (zn #[St (X 1),St (b 1),St (Z 1),a 1] 53));have C:j.heap.size=w.heap.size+1+1:=by rw[r,zH,B]
 have p:qL i j:=by rw[r];exact(zM _ i).alloc (zN _) _
 have d:j.heap[w.heap.size+1]? =zq (zn #[St (X 1),St (b 1),St (Z 1),a 1] 53 (0,0)):=by rw[r,<-B];exact zG i _
 replace c:=zac p _ _ _ _ c;replace p:=A.trans (p.mono A.size);obtain⟨k,s⟩:=zzX (j.alloc (zn #[St (X 2),St (b 2),St (Z 2),a 2] 53));have D:k.heap.size=w.heap.size+1+1+1:=by rw[s,zH,C]
 have n:qL j k:=by rw[s];exact(zM _ j).alloc (zN _) _
 have g:k.heap[w.heap.size+1+1]? =zq (zn #[St (X 2),St (b 2),St (Z 2),a 2] 53 (0,0)):=by rw[s,<-C];exact zG j _
 replace c:=zac n _ _ _ _ c;replace d:=zac n _ _ _ _ d;replace n:=p.trans (n.mono p.size);obtain⟨l,t⟩:=zzX (k.alloc (zn #[z7 zp 0 0,z7 zp 0 0,z7 zp 0 0] 99));have E:l.heap.size=w.heap.size+1+1+1+1:=by rw[t,zH,D]
 have h:qL k l:=by rw[t];exact(zM _ k).alloc (zN _) _
 have o:l.heap[w.heap.size+1+1+1]? =zq (zn #[z7 zp 0 0,z7 zp 0 0,z7 zp 0 0] 99 (0,0)):=by rw[t,<-D];exact zG k _
 replace c:=zac h _ _ _ _ c;replace d:=zac h _ _ _ _ d;replace g:=zac h _ _ _ _ g;replace h:=n.trans (h.mono n.size);obtain⟨m,u⟩:=zzX (l.alloc (zn #[zg zu] 4));have F:m.heap.size=w.heap.size+1+1+1+1+1:=by rw[u,zH,E]
 have e:qL l m:=by rw[u];exact(zM _ l).alloc (zN _) _
 have z:m.heap[w.heap.size+1+1+1+1]? =zq (zn #[zg zu] 4 (0,0)):=by rw[u,<-E];exact zG l _
 replace c:=zac e _ _ _ _ c;replace d:=zac e _ _ _ _ d;replace g:=zac e _ _ _ _ g;replace o:=zac e _ _ _ _ o;replace e:=h.trans (e.mono h.size);obtain⟨y,v⟩:=zzX (m.alloc (zn #[zj zm 0] 29));have I:y.heap.size=w.heap.size+1+1+1+1+1+1:=by rw[v,zH,F]
 have f:qL m y:=by rw[v];exact(zM _ m).alloc (zN _) _
 have G:y.heap[w.heap.size+1+1+1+1+1]? =zq (zn #[zj zm 0] 29 (0,0)):=by rw[v,<-F];exact zG m _
 replace c:=zac f _ _ _ _ c;replace d:=zac f _ _ _ _ d;replace g:=zac f _ _ _ _ g;replace o:=zac f _ _ _ _ o;replace z:=zac f _ _ _ _ z;replace f:=e.trans (f.mono e.size);obtain rfl:x=y:=by rw[H,v,u,t,s,r,q]
 exact⟨f,c,d,g,o,z,G,I⟩
theorem yfx (X p Z ak al am cj ck cl:Nat->List UInt8) (o:Nat->Value) (c9:∀i,∃q m c,o i=z7 q m c) (d hg:List UInt8) (gh gi gj:List (Rat×Nat)) (g6 g7 g8 ar:Prop) (w:zA)
 (g4:Hid (∀g:zA,qL w g->∀g3,g.heap[g3]? =zq (zn (h12 X p Z o) 53 (0,0))->qJ 98 #[z7 (zq ⟨g3,0,zp⟩) 3 3] g (zj zm 0)))
 (ei:Hid (∀j,j<3->∀g:zA,qL w g->qJ 70 #[zh #[St (X ((j+1)%3)),St (p ((j+1)%3)),St (Z ((j+1)%3))],zh #[St (X ((j+2)%3)),St (p ((j+2)%3)),St (Z ((j+2)%3))]] g (ze #[zh #[St (ak j),St (al j),St (am j)],zj zm 0])))
 (em:Hid (∀g:zA,qL w g->qJ 121 #[zh #[St (X 0),St (p 0),St (Z 0)],zh #[St (ak 0),St (al 0),St (am 0)]] g (ze #[St d,zj zm 0])))
 (da:Hid ((d==[48])=zu->∀g:zA,qL w g->qJ 122 #[z8 ⟨#[49]⟩,St d] g (ze #[St hg,zj zm 0])))
 (ch:Hid ((d==[48])=zu->∀j,j<3->∀g:zA,qL w g->qJ 72 #[zh #[St (ak j),St (al j),St (am j)],St hg] g (ze #[zh #[St (cj j),St (ck j),St (cl j)],zj zm 0])))
 (ep:Hid ((d==[48])=zu->∀g:zA,qL w g->zC zF 123 #[zh #[o 0,o 1,o 2],zh #[St (cj 0),St (cj 1),St (cj 2)]] g λe w'=>∃q n c r,e=zo (ze #[z7 q n c,zj zm r])/\zB g.heap.size g w'/\OutR gh g6 ar (z7 q n c) r w'))
 (eq:Hid ((d==[48])=zu->∀g:zA,qL w g->zC zF 123 #[zh #[o 0,o 1,o 2],zh #[St (ck 0),St (ck 1),St (ck 2)]] g λe w'=>∃q n c r,e=zo (ze #[z7 q n c,zj zm r])/\zB g.heap.size g w'/\OutR gi g7 ar (z7 q n c) r w'))
 (er:Hid ((d==[48])=zu->∀g:zA,qL w g->zC zF 123 #[zh #[o 0,o 1,o 2],zh #[St (cl 0),St (cl 1),St (cl 2)]] g λe w'=>∃q n c r,e=zo (ze #[z7 q n c,zj zm r])/\zB g.heap.size g w'/\OutR gj g8 ar (z7 q n c) r w')):
 zC zF 81 #[zh #[St (X 0),St (p 0),St (Z 0),o 0],zh #[St (X 1),St (p 1),St (Z 1),o 1],zh #[St (X 2),St (p 2),St (Z 2),o 2]] w λe w'=>∃b9 aw ap fk ci,e=zo (ze #[zh #[b9,aw,ap],zg fk,zj zm ci])/\zB w.heap.size w w'/\((fk=zu/\b9=z7 zp 0 0/\aw=z7 zp 0 0/\ap=z7 zp 0 0/\((ci=0/\(d==[48])=zt)\/(ci=4/\(d==[48])=zu/\ar)))\/(fk=zt/\ci=0/\(d==[48])=zu/\SdL b9 gh w'/\SdL aw gi w'/\SdL ap gj w'/\g6/\g7/\g8)):=by
 obtain⟨P,O,N,dq⟩:=c9 0;obtain⟨a8,a6,a4,dr⟩:=c9 1;obtain⟨a9,a7,a5,ds⟩:=c9 2;obtain⟨d9,ft⟩:=zzX (((((((w).alloc (zn #[St (X 0),St (p 0),St (Z 0),o 0] 53)).alloc (zn #[St (X 1),St (p 1),St (Z 1),o 1] 53)).alloc (zn #[St (X 2),St (p 2),St (Z 2),o 2] 53)).alloc (zn #[z7 zp 0 0,z7 zp 0 0,z7 zp 0 0] 99)).alloc (zn #[zg zu] 4)).alloc (zn #[zj zm 0] 29));have ez:=yhc w d9 X p Z o ft;have fz:=ez.1;have hh:=ez.2.2.2.2.2.2.2;have ar:=hid ez;obtain⟨ec,f1⟩:=zzX (d9.alloc (zn (h12 X p Z o) 53));have f':qL d9 ec:=by rw[f1];exact(zM _ d9).alloc (zN _) _
 have gu:ec.heap[w.heap.size+1+1+1+1+1+1]? =zq (zn (h12 X p Z o) 53 (0,0)):=by rw[f1,<-hh];exact zG d9 _
 have hf:=fz.trans (f'.mono fz.size);have L:=hid (g4 ec hf _ gu);have d':ec=(((((((w.alloc (zn #[St (X 0),St (p 0),St (Z 0),o 0] 53)).alloc (zn #[St (X 1),St (p 1),St (Z 1),o 1] 53)).alloc (zn #[St (X 2),St (p 2),St (Z 2),o 2] 53)).alloc (zn #[z7 zp 0 0,z7 zp 0 0,z7 zp 0 0] 99)).alloc (zn #[zg zu] 4)).alloc (zn #[zj zm 0] 29)).alloc (zn (h12 X p Z o) 53)):=by rw[f1,ft]
 rw[dq,dr,ds] at d';unfold h12 at d';rw[dq,dr,ds] at d';have s:=hid d'.symm;have fi:=hid f';clear ft d' f1 hh fz f' hf gu g4 ez;rw[dq,dr,ds];refine(callsIn_wide (n:=3)).1 ?_;refine callsIn_of_wp_marks Tryz.func81 rfl trivial ?_ rfl;simp only[Tryz.ntmps81,List.size_toArray,yA,List.length_nil,Nat.reduceAdd,Nat.reduceSub,yU,yV,List.push_toArray,yX,List.nil_append,List.cons_append];have dd:=hid dq;have de:=hid dr;have df:=hid ds;clear dq dr ds;have cs:=hid c9;clear c9;generalize h6:X 0=F at s⊢;generalize h9:p 0=G at s⊢;generalize hb:Z 0=H at s⊢;generalize h7:X 1=a1 at s⊢;generalize ha:p 1=U at s⊢;generalize hc:Z 1=c1 at s⊢;generalize h8:X 2=T at s⊢;generalize cm:p 2=b2 at s⊢;generalize he:Z 2=c2 at s⊢;have db:=hid (⟨h6,h9,hb,h7,ha,hc,h8,cm,he⟩:_/\_/\_/\_/\_/\_/\_/\_/\_);clear h6 h9 hb h7 ha hc h8 cm he;gi_wp2_with fail;have v:=s.out
 rw[show(((((((w.alloc (zn #[z8 ⟨F.toArray⟩,z8 ⟨G.toArray⟩,z8 ⟨H.toArray⟩,z7 P O N] 53)).alloc (zn #[z8 ⟨a1.toArray⟩,z8 ⟨U.toArray⟩,z8 ⟨c1.toArray⟩,z7 a8 a6 a4] 53)).alloc (zn #[z8 ⟨T.toArray⟩,z8 ⟨b2.toArray⟩,z8 ⟨c2.toArray⟩,z7 a9 a7 a5] 53)).alloc (zn #[z7 zp 0 0,z7 zp 0 0,z7 zp 0 0] 99)).alloc (zn #[zg zu] 4)).alloc (zn #[zj zm 0] 29)).alloc (zn #[z8 ⟨F.toArray⟩,z8 ⟨G.toArray⟩,z8 ⟨H.toArray⟩,z7 P O N,z8 ⟨a1.toArray⟩,z8 ⟨U.toArray⟩,z8 ⟨c1.toArray⟩,z7 a8 a6 a4,z8 ⟨T.toArray⟩,z8 ⟨b2.toArray⟩,z8 ⟨c2.toArray⟩,z7 a9 a7 a5] 53))=ec from v];clear v s;refine⟨trivial,(callsIn_wide.2 L.out).mono ?_⟩;rintro e b ⟨rfl,l⟩;have ew:qL d9 b:=fi.trans (l.mono fi.size);have h4:=ar.1.trans (ew.mono ar.1.size);obtain⟨br,bs,bt,cw,cy,c',cx,cz,d0⟩:=db.out;have a0:=zac ew
 have y:=a0 _ _ _ _ ar.2.1;have z:=a0 _ _ _ _ ar.2.2.1;have E:=a0 _ _ _ _ ar.2.2.2.1;have dw:=a0 _ _ _ _ ar.2.2.2.2.1;have dx:=a0 _ _ _ _ ar.2.2.2.2.2.1;have dy:=a0 _ _ _ _ ar.2.2.2.2.2.2.1;have h':b.cell? ⟨w.heap.size,0,zp⟩=zq (St F):=by rw[zJ y,<-br];rfl
 have i0:b.cell? ⟨w.heap.size,1,zp⟩=zq (St G):=by rw[zJ y,<-bs];rfl
 have i1:b.cell? ⟨w.heap.size,2,zp⟩=zq (St H):=by rw[zJ y,<-bt];rfl
 have i2:b.cell? ⟨w.heap.size,3,zp⟩=zq (z7 P O N):=by rw[zJ y,<-dd.out];rfl
 have i3:b.cell? ⟨w.heap.size+1,0,zp⟩=zq (St a1):=by rw[zJ z,<-cw];rfl
 have i4:b.cell? ⟨w.heap.size+1,1,zp⟩=zq (St U):=by rw[zJ z,<-cy];rfl
 have i5:b.cell? ⟨w.heap.size+1,2,zp⟩=zq (St c1):=by rw[zJ z,<-c'];rfl
 have i6:b.cell? ⟨w.heap.size+1,3,zp⟩=zq (z7 a8 a6 a4):=by rw[zJ z,<-de.out];rfl
 have i7:b.cell? ⟨w.heap.size+1+1,0,zp⟩=zq (St T):=by rw[zJ E,<-cx];rfl
 have i8:b.cell? ⟨w.heap.size+1+1,1,zp⟩=zq (St b2):=by rw[zJ E,<-cz];rfl
 have i9:b.cell? ⟨w.heap.size+1+1,2,zp⟩=zq (St c2):=by rw[zJ E,<-d0];rfl
 have ia:b.cell? ⟨w.heap.size+1+1,3,zp⟩=zq (z7 a9 a7 a5):=by rw[zJ E,<-df.out];rfl
 clear br bs bt cw cy c' cx cz d0;have g9:=hid (⟨h4,y,z,E,dw,dx,dy,by have:=ew.size;have:=ar.2.2.2.2.2.2.2;omega⟩:_/\_/\_/\_/\_/\_/\_/\w.heap.size+1+1+1+1+1<b.heap.size);clear l ew h4 a0 y z E dw dx dy L fi ar;gi_wp2_with (refine⟨trivial,?_⟩;gi_at_call 119;refine(callsIn_wide.2 (zsh _ _ ⟨_,_,_,_,_,_,_,_,_,_,_,_,rfl⟩)).mono ?_;rintro e w' ⟨rfl,rfl⟩);obtain⟨bn,fr⟩:=zzX (((b.alloc (zn #[St F,St G,St H,z7 P O N,St a1,St U,St c1,z7 a8 a6 a4,St T,St b2,St c2,z7 a9 a7 a5] 185)).alloc (zn #[St [],St [],St [],St [],St [],St [],St [],St [],St []] 189)).alloc (zn #[St F,St G,St H,z7 P O N,St a1,St U,St c1,z7 a8 a6 a4,St T,St b2,St c2,z7 a9 a7 a5] 185));have gf:=hid fr.symm;have h5:=gf.out;rw[show((b.alloc (zn #[z8 ⟨F.toArray⟩,z8 ⟨G.toArray⟩,z8 ⟨H.toArray⟩,z7 P O N,z8 ⟨a1.toArray⟩,z8 ⟨U.toArray⟩,z8 ⟨c1.toArray⟩,z7 a8 a6 a4,z8 ⟨T.toArray⟩,z8 ⟨b2.toArray⟩,z8 ⟨c2.toArray⟩,z7 a9 a7 a5] 185)).alloc (zn #[z8 ⟨#[]⟩,z8 ⟨#[]⟩,z8 ⟨#[]⟩,z8 ⟨#[]⟩,z8 ⟨#[]⟩,z8 ⟨#[]⟩,z8 ⟨#[]⟩,z8 ⟨#[]⟩,z8 ⟨#[]⟩] 189)).alloc (zn #[z8 ⟨F.toArray⟩,z8 ⟨G.toArray⟩,z8 ⟨H.toArray⟩,z7 P O N,z8 ⟨a1.toArray⟩,z8 ⟨U.toArray⟩,z8 ⟨c1.toArray⟩,z7 a8 a6 a4,z8 ⟨T.toArray⟩,z8 ⟨b2.toArray⟩,z8 ⟨c2.toArray⟩,z7 a9 a7 a5] 185)=bn from h5]
 clear h5 gf h' i0 i1 i2 i3 i4 i5 i6 i7 i8 i9 ia;obtain⟨ax,f0⟩:=zzX (b.alloc (zn #[St F,St G,St H,z7 P O N,St a1,St U,St c1,z7 a8 a6 a4,St T,St b2,St c2,z7 a9 a7 a5] 185));obtain⟨ao,e2⟩:=zzX (ax.alloc (zn (cr9 ak al am 0) 189));have fo:h12 X p Z o= #[St F,St G,St H,z7 P O N,St a1,St U,St c1,z7 a8 a6 a4,St T,St b2,St c2,z7 a9 a7 a5]:=by
  obtain⟨br,bs,bt,cw,cy,c',cx,cz,d0⟩:=db.out;unfold h12;rw[br,bs,bt,cw,cy,c',cx,cz,d0,dd.out,de.out,df.out]
 have fs:bn=ao.alloc (zn (h12 X p Z o) 185):=by rw[fo,fr,e2,f0];rfl
 have cr:ax.heap.size=b.heap.size+1:=by rw[f0,zH]
 have bz:ao.heap.size=b.heap.size+1+1:=by rw[e2,zH,cr]
 have aw:qL b ax:=by rw[f0];exact(zM _ b).alloc (zN _) _
 have ap:qL ax ao:=by rw[e2];exact(zM _ ax).alloc (zN _) _
 have g2:qL ao bn:=by rw[fs];exact(zM _ ao).alloc (zN _) _
 have hj:ao.heap[b.heap.size+1]? =zq (zn (cr9 ak al am 0) 189 (0,0)):=by rw[e2,<-cr];exact zG ax _
 have hi:bn.heap[b.heap.size+1+1]? =zq (zn (h12 X p Z o) 185 (0,0)):=by rw[fs,<-bz];exact zG ao _
 have g1:=aw.trans ((ap.trans (g2.mono ap.size)).mono aw.size);have a0:=zac g1;obtain⟨fp,y,z,E,dw,dx,dy,hx⟩:=g9.out;have dz:CoL w X p Z ak al am o (b.heap.size+1) (b.heap.size+1+1) 0 bn:=
  ⟨⟨fp.trans (g1.mono fp.size),a0 _ _ _ _ y,a0 _ _ _ _ z,a0 _ _ _ _ E,a0 _ _ _ _ dw,a0 _ _ _ _ dx,a0 _ _ _ _ dy,by omega,zac g2 _ _ _ _ hj,λd e=>by cases e⟩,hi,by omega⟩
 clear fr f0 e2 fs cr bz aw ap g2 hj hi g1 a0 fp y z E dw dx dy hx g9;clear ax ao;have hk:=hid fo;clear fo;have e':=yhb 2 (by omega) (b.heap.size+1+1) X p Z o cs 185 (λg=>∃j,CoL w X p Z ak al am o (b.heap.size+1) (b.heap.size+1+1) j g) (λg ⟨j,a⟩=>a.b)
 refine z9z (n:=3) (B:=w.heap.size) rfl (by omega) rfl trivial (enters_of Tryz.func154 (by kernel_rfl) rfl) e' (λd3 args a=>by subst a;rfl) dz.s.bel.size
  (λj g=>CoL w X p Z ak al am o (b.heap.size+1) (b.heap.size+1+1) j g) (λc _ g=>False)
  (λj _ _ a Y l=>a.keep Y l) (λc j _ _ a Y l=>a) (λj g a=>⟨j,a⟩) dz
  (λj _ fj g=>∃aj,fj={tmps:= #[zh #[St F,St G,St H,z7 P O N],zh #[St a1,St U,St c1,z7 a8 a6 a4],zh #[St T,St b2,St c2,z7 a9 a7 a5],zf (zq ⟨w.heap.size,0,zp⟩),zf (zq ⟨w.heap.size+1,0,zp⟩),zf (zq ⟨w.heap.size+1+1,0,zp⟩),zf (zq ⟨w.heap.size+1+1+1,0,zp⟩),zf (zq ⟨w.heap.size+1+1+1+1,0,zp⟩),zf (zq ⟨w.heap.size+1+1+1+1+1,0,zp⟩),zj zm 0,zf (zq ⟨b.heap.size,0,zp⟩),zf (zq ⟨b.heap.size+1,0,zp⟩),I j,zf (zq ⟨aj,0,zp⟩),zv,zv,zv,zv,zv,zv,zv,zv,zv,zv,zv,zv,zv,zh #[St F,St G,St H,z7 P O N],zh #[St a1,St U,St c1,z7 a8 a6 a4],zh #[St T,St b2,St c2,z7 a9 a7 a5],z7 (zq ⟨w.heap.size+1+1+1+1+1+1,0,zp⟩) 3 3,zj zm 0,zj zm 0,zg zu,zv,zv,zh #[St F,St G,St H,z7 P O N],zh #[St a1,St U,St c1,z7 a8 a6 a4],zh #[St T,St b2,St c2,z7 a9 a7 a5],zh #[St F,St G,St H,z7 P O N,St a1,St U,St c1,z7 a8 a6 a4,St T,St b2,St c2,z7 a9 a7 a5],zh #[St F,St G,St H,z7 P O N,St a1,St U,St c1,z7 a8 a6 a4,St T,St b2,St c2,z7 a9 a7 a5],.func (.func 154) #[] #[zf (zq ⟨b.heap.size+1+1,0,zp⟩)],I j,twoH X p Z o ((j+1)%3) ((j+2)%3),zv,zv,zv,zv,zv,zv,zv,zv,zv,zv,zv,zv,zv,zv,zv,zv,zv,zv,zv,zv,zv,zv,zv,zv,zv,zv,zv,zv,zv,zv,zv,zv,zv,zv,zv,zv,zv,zv,zv,zv,zv,zv,zv,zv,zv,zv,zv,zv,zv,zv,zv,zv,zv,zv,zv,zv,zv,zv,zv,zv,zv,zv,zv,zv,zv,zv,zv,zv,zv,zv,zv,zv,zv,zv,zv,zv,zv,zv,zv,zv,zv,zv,zv,zv,zv,zv,zv,zv,zv,zv,zv,zv,zv,zv,zv,zv,zv,zv,zv,zv,zv,zv,zv,zv,zv,zv,zv,zv,zv,zv,zv,zv,zv,zv,zv,zv,zv,zv,zv],defers:=[]}/\g.heap[aj]? =zq (zn #[St (X ((j+1)%3)),St (p ((j+1)%3)),St (Z ((j+1)%3)),o ((j+1)%3),St (X ((j+2)%3)),St (p ((j+2)%3)),St (Z ((j+2)%3)),o ((j+2)%3)] 193 (0,0)))
  (λj _ fj _ _ a Y l=>let ⟨aj,e,ab⟩:=a;⟨aj,e,Y _ _ _ _ ab⟩) ?assign ?body ?done ?stop
 case assign=>
  rintro ib j args g ii hy ik bv K rfl d1;have f7:=hid d1;clear d1;clear ep eq er ch da em ei e';have ex:=cs ((j+1)%3);have ey:=cs ((j+2)%3);unfold twoH at f7⊢;generalize (j+1)%3=cn at*
  generalize (j+2)%3=co at*
  obtain⟨d7,b7,d4,R⟩:=ex;obtain⟨d8,bf,d5,S⟩:=ey;rw[R,S] at f7⊢;generalize X cn=ce at*
  generalize p cn=b5 at*
  generalize Z cn=z1 at*
  generalize X co=cf at*
  generalize p co=aq at*
  generalize Z co=z2 at*
  clear R S;gi_wp2;have fu:qL g (g.alloc (zn #[St ce,St b5,St z1,z7 d7 b7 d4,St cf,St aq,St z2,z7 d8 bf d5] 193)):=(zM _ g).alloc (zN _) _;exact f7 _ _ ((za0 fu).from _) (bv.keep (zac fu) (fu.mono bv.s.bel.size)) ⟨g.heap.size,rfl,zG g _⟩
 case body=>
  rintro ib j args fj g hy ⟨im,hz⟩ bv K rfl ⟨aj,rfl,be⟩;have av:=ei j K;have f6:=hid bv;have dk:=hid λ(f:zA) (a:CoL w X p Z ak al am o (b.heap.size+1) (b.heap.size+1+1) j f)=>a.put K;have h3:=bv.s.bel;clear ep eq er ch da em ei e' hz bv dz;have ex:=cs ((j+1)%3);have ey:=cs ((j+2)%3);unfold twoH;generalize (j+1)%3=cn at be av ex⊢;generalize (j+2)%3=co at be av ey⊢;obtain⟨d7,b7,d4,R⟩:=ex;obtain⟨d8,bf,d5,S⟩:=ey;rw[R,S] at be⊢;generalize X cn=ce at be av⊢;generalize p cn=b5 at be av⊢;generalize Z cn=z1 at be av⊢;generalize X co=cf at be av⊢;generalize p co=aq at be av⊢;generalize Z co=z2 at be av⊢;generalize ak j=c4 at av dk;generalize al j=c5 at av dk;generalize am j=b' at av dk;clear R S;have hl:=hid av;clear av;have gg:=hid λf (a:qL g f)=>(show(f.cell? ⟨aj,0,zp⟩=zq (St ce)/\f.cell? ⟨aj,1,zp⟩=zq (St b5)/\f.cell? ⟨aj,2,zp⟩=zq (St z1)/\f.cell? ⟨aj,3,zp⟩=zq (z7 d7 b7 d4))/\f.cell? ⟨aj,4,zp⟩=zq (St cf)/\f.cell? ⟨aj,5,zp⟩=zq (St aq)/\f.cell? ⟨aj,6,zp⟩=zq (St z2)/\f.cell? ⟨aj,7,zp⟩=zq (z7 d8 bf d5) by
   have:=zac a _ _ _ _ be;refine⟨⟨?_,?_,?_,?_⟩,?_,?_,?_,?_⟩<;>(rw[zJ this];rfl))
  have gb:=hid h3;clear be h3;gi_wp2;refine zqb (λ(q:Nat->Nat) i=>([zf (zq ⟨aj,0,zp⟩),zh #[St ce,St b5,St z1,z7 d7 b7 d4],zh #[St ce,St b5,St z1],zf (zq ⟨aj,4,zp⟩),zh #[St cf,St aq,St z2,z7 d8 bf d5],zh #[St cf,St aq,St z2],ze #[zh #[St c4,St c5,St b'],zj zm 0],ze #[zh #[St c4,St c5,St b'],zj zm 0],zh #[St c4,St c5,St b'],zj zm 0,zf (zq ⟨q 0,0,zp⟩),zv,zj zm 0]:List Value).getD i zv) (BoxS 1 10 11 #[St [],St [],St []] (λ_=> #[St c4,St c5,St b']) 137 g) (by kernel_rfl) (by kernel_rfl) (by kernel_rfl) (λ_=>0) (BoxS.start (zM _ g).drew) λq=>?_;refine qB (zf (zq ⟨aj,0,zp⟩)) (λk f a=>a.step 0 (by decide) (by decide)) ?_;refine qB (zh #[St ce,St b5,St z1,z7 d7 b7 d4]) (λk f a=>a.step 1 (by decide) (by decide)) ?_ (hy:=λk f h a=>by obtain⟨⟨A,C,D,b6⟩, -⟩:=gg f a.bel;go_simp);simp only[zzQ]
  refine zbv (zh #[St ce,St b5,St z1]) (by rfl) (by rfl) (λk f h a b8 t=>by
   go_simp;refine zzM (zc9 ce b5 z1 d7 b7 d4 f) λw' l=>?_;exact⟨_,rfl,t _ ((a.next l).step 2 (by decide) (by decide))⟩) ?_
  refine qB (zf (zq ⟨aj,4,zp⟩)) (λk f a=>a.step 3 (by decide) (by decide)) ?_;refine qB (zh #[St cf,St aq,St z2,z7 d8 bf d5]) (λk f a=>a.step 4 (by decide) (by decide)) ?_ (hy:=λk f h a=>by obtain⟨-,A,C,D,b6⟩:=gg f a.bel;go_simp);simp only[zzQ]
  refine zbv (zh #[St cf,St aq,St z2]) (by rfl) (by rfl) (λk f h a b8 t=>by
   go_simp;refine zzM (zc9 cf aq z2 d8 bf d5 f) λw' l=>?_;exact⟨_,rfl,t _ ((a.next l).step 5 (by decide) (by decide))⟩) ?_
  try simp only[zzQ]
  refine zbv (ze #[zh #[St c4,St c5,St b'],zj zm 0]) (by rfl) (by rfl) (λk f h a b8 t=>by
   have fy:=hl f (gb.trans (a.bel.mono gb.size));go_simp;refine zzM (fy) λw' l=>?_;exact⟨_,rfl,t _ ((a.next l).step 6 (by decide) (by decide))⟩) ?_
  refine qB (ze #[zh #[St c4,St c5,St b'],zj zm 0]) (λk f a=>a.step 7 (by decide) (by decide)) ?_;refine qB (zh #[St c4,St c5,St b']) (λk f a=>a.step 8 (by decide) (by decide)) ?_;simp only[zzQ];refine qB (zj zm 0) (λk f a=>a.step 9 (by decide) (by decide)) ?_;simp only[zzQ]
  refine zdc (zf (zq ⟨q 0,0,zp⟩)) (by rfl) (by rfl) (λk f h a b8 t=>by
   have J:=h.self;have W:=h.no (j:=11) h.self (by kernel_rfl);have Y:=t (λj=>if j=0 then f.heap.size else q j) _ (λj K=>by
    match j,K with
    |0,_|1,_|2,_|3,_|4,_|5,_|6,_|7,_|8,_|9,_|11,_|12,_=>rfl
    |10,K=>rw[J] at K;cases K
    |_+13,_=>rfl) (a.new 0 (by decide) W (by decide))
   clear a t;go_simp;exact Y) ?_
  try simp only[zzQ]
  refine zbv zv (by rfl) (by rfl) (λk f h a b8 t=>by
   have J:=h.done 10 (by kernel_rfl);obtain⟨⟨g0,A⟩,⟨cr,C⟩,⟨bz,D⟩,z0,ig,ih⟩:=a.open 0 (by decide) J rfl rfl;have Y:=t _ (a.put 0 (by decide) J (by decide) (St c4) (St c5) (St b') rfl rfl);clear a t;go_simp;exact Y) ?_
  refine qB (zj zm 0) (λk f a=>a.step 12 (by decide) (by decide)) ?_;simp only[zzQ];refine ze1 λk x h a=>?_;have bu:=a.blk 0 (by decide) (h 10 (by decide));rw[if_pos (h 11 (by decide))] at bu;obtain⟨ij,gy⟩:=zzX (q 0);rw[<-gy] at bu⊢;obtain⟨A,C,D, -, -, -⟩:=zah bu;have fq:CoL w X p Z ak al am o (b.heap.size+1) (b.heap.size+1+1) j x:=f6.keep (zac a.bel) (a.bel.mono f6.s.bel.size);have gv:=dk x fq;have gw:=((((za0 a.bel).from bn.heap.size).trans ((KeepsOthers.setCell x ⟨b.heap.size+1,j*3,zp⟩ (St c4)).from bn.heap.size)).trans ((KeepsOthers.setCell _ ⟨b.heap.size+1,j*3+1,zp⟩ (St c5)).from bn.heap.size)).trans ((KeepsOthers.setCell _ ⟨b.heap.size+1,j*3+2,zp⟩ (St b')).from bn.heap.size);obtain⟨⟨bm,c0⟩,⟨R,cc⟩,⟨S,c3⟩,z0,ig,ih⟩:=fq.s.at3 j K rfl;have hn:=hid (⟨gw,gv⟩:_/\_);clear bu gy a h fq gv gw f6 dk;gi_wp2;exact hn.out
 case done=>
  rintro cg g c9 bv d1;have av:=ch.out;have bd:CoS w #[St F,St G,St H,z7 P O N] #[St a1,St U,St c1,z7 a8 a6 a4] #[St T,St b2,St c2,z7 a9 a7 a5] (b.heap.size+1) (zq cg) #[St (ak 0),St (al 0),St (am 0),St (ak 1),St (al 1),St (am 1),St (ak 2),St (al 2),St (am 2)] g:=by
   obtain⟨br,bs,bt,cw,cy,c',cx,cz,d0⟩:=db.out;have a:=bv.s;rw[br,bs,bt,cw,cy,c',cx,cz,d0,dd.out,de.out,df.out] at a;exact⟨a.bel,a.h0,a.h1,a.h2,a.r0,a.r1,a.r2,a.lo,a.x,λd e=>by cases e;exact d1⟩
  have d2:=em.out;have ac:=λd3=>ch d3 0 (by omega);have ad:=λd3=>ch d3 1 (by omega);have ae:=λd3=>ch d3 2 (by omega);have ct:=ep.out;have cu:=eq.out;have cv:=er.out;rw[dd.out,de.out,df.out] at ct cu cv;obtain⟨br,bs,bt, -, -, -, -, -, -⟩:=db.out;rw[br,bs,bt] at d2;generalize ak 0=b9 at bd d2 ac;generalize al 0=cd at bd d2 ac;generalize am 0=c0 at bd d2 ac;generalize ak 1=aw at bd ad;generalize al 1=ax at bd ad;generalize am 1=cc at bd ad;generalize ak 2=ap at bd ae;generalize al 2=ao at bd ae;generalize am 2=c3 at bd ae;generalize cj 0=aa at ac ct;generalize ck 0=y at ac cu;generalize cl 0=J at ac cv;generalize cj 1=af at ad ct;generalize ck 1=z at ad cu;generalize cl 1=W at ad cv;generalize cj 2=an at ae ct;generalize ck 2=E at ae cu;generalize cl 2=ab at ae cv;have ge:=hid bd;have g5:=hid d2;have ef:=hid ac;have eg:=hid ad;have eh:=hid ae;have ej:=hid ct;have ek:=hid cu;have el:=hid cv;have dc:=hid (Nat.le_trans dz.s.bel.size c9);clear br bs bt bd d2 ac ad ae ct cu cv av d1 bv ch ep eq er em ei e' dz cs dd de df db hk;gi_step;gi_step;refine wpIn_wide.2 ?_;go_wp21
  refine zc4 (λ(_:Unit) i=>([zh #[St F,St G,St H,z7 P O N],zh #[St F,St G,St H],zf (zq ⟨b.heap.size+1,0,zp⟩),zh #[St b9,St cd,St c0],ze #[St d,zj zm 0],ze #[St d,zj zm 0],St d,zj zm 0,St d,zj zm 0]:List Value).getD i zv) (λ_ _ hv=>CoS w #[St F,St G,St H,z7 P O N] #[St a1,St U,St c1,z7 a8 a6 a4] #[St T,St b2,St c2,z7 a9 a7 a5] (b.heap.size+1) (zq cg) #[St b9,St cd,St c0,St aw,St ax,St cc,St ap,St ao,St c3] hv) (by kernel_rfl) (by kernel_rfl) () (ge.next (zM _ g).drew) λ_=>?_;refine qB (zh #[St F,St G,St H,z7 P O N]) (λk f a=>a) ?_ (hy:=λk f h a=>by obtain⟨A,C,D,b6⟩:=a.half0;go_simp);simp only[zzQ]
  refine zbv (zh #[St F,St G,St H]) (by rfl) (by rfl) (λk f h a b8 t=>by
   go_simp;refine zzM (zc9 F G H P O N f) λw' l=>?_;exact⟨_,rfl,t _ (a.next l)⟩) ?_
  refine qB (zf (zq ⟨b.heap.size+1,0,zp⟩)) (λk f a=>a) ?_;refine qB (zh #[St b9,St cd,St c0]) (λk f a=>a) ?_ (hy:=λk f h a=>by obtain⟨A,C,D, -⟩:=a.c9;go_simp);simp only[zzQ]
  refine zbv (ze #[St d,zj zm 0]) (by rfl) (by rfl) (λk f h a b8 t=>by
   have fy:=g5 f a.bel;go_simp;refine zzM (fy) λw' l=>?_;exact⟨_,rfl,t _ (a.next l)⟩) ?_
  refine qB (ze #[St d,zj zm 0]) (λk f a=>a) ?_;refine qB (St d) (λk f a=>a) ?_;simp only[zzQ];refine qB (zj zm 0) (λk f a=>a) ?_;refine qB (St d) (λk f a=>a) ?_;refine qB (zj zm 0) (λk f a=>a) ?_;simp only[zzQ];refine ze1 λk hw h a=>?_;have dl:=hid a;clear a h ge g5;cases hd:d==[48]
  rotate_left
  ·have hr:=hid hd
   clear da ef eg eh ej ek el;obtain⟨⟨bm,R,S,z0,z1,z2⟩,au,bq,z3,z4⟩:=dl.outs;go_wp21;clear bm R S z0 z1 z2 au bq z3 z4;obtain⟨et,b0,bw,a',bx⟩:=dl.fin9 (z7 zp 0 0) (z7 zp 0 0) (z7 zp 0 0) zu 0;rw[b0];clear b0;refine⟨by simp,.inl ⟨_,_,rfl,run_takeDeferred a',?_⟩⟩;obtain⟨ac,ad,ae,bo,bp, -⟩:=bx _ rfl;refine⟨ze #[zh #[z7 zp 0 0,z7 zp 0 0,z7 zp 0 0],zg zu,zj zm 0],?_,_,_,_,_,_,rfl,zby bw dc a',.inl ⟨rfl,rfl,rfl,rfl,.inl ⟨rfl,hr.out⟩⟩⟩;simp[results,Tryz.f81,go_sem,ac,ad,ae,bo,bp]
  have hm:=hid (da hd);have ef:=hid (ef hd);have eg:=hid (eg hd);have eh:=hid (eh hd);have ej:=hid (ej hd);have ek:=hid (ek hd);have el:=hid (el hd);have en:=hid hd;clear da;go_wp21;clear hd;refine zzM (hm hw dl.bel) λes l=>?_;have fc:=hid (dl.next l);clear l dl;obtain⟨A,C,D,b6,bh,bi,bj,bk,bl, -⟩:=fc.c9;go_wp21;clear A C D b6 bh bi bj bk bl;have ic:=λw=>(zs3 b9 cd c0 aw ax cc ap ao c3 w).1;have id:=λw=>(zs3 b9 cd c0 aw ax cc ap ao c3 w).2.1;have ie:=λw=>(zs3 b9 cd c0 aw ax cc ap ao c3 w).2.2;refine wp_loop_rounds 4 ?_;rw[rounds_succ];obtain⟨Q,u⟩:=zzX (es.alloc (zn #[St b9,St cd,St c0] 137));have V:qL es Q:=by rw[u];exact(zM _ es).alloc (zN _) _
  have ff:=hid (fc.next V);have L:=hid (ef Q ff.bel);have s:=hid u.symm;clear u V fc;go_wp21;have v:=s.out;rw[show es.alloc (zn #[z8 ⟨b9.toArray⟩,z8 ⟨cd.toArray⟩,z8 ⟨c0.toArray⟩] 137)=Q from v];clear v s;refine zzM L.out λf3 l=>?_;have f9:=hid (ff.next l);clear l L ff;obtain⟨A,C,D,b6,bh,bi,bj,bk,bl,az⟩:=f9.c9;have z0:=az 0;have z1:=az 1;have z2:=az 2;obtain⟨d6,fv⟩:=zzX (((f3.setCell ⟨b.heap.size+1,0,zp⟩ (St aa)).setCell ⟨b.heap.size+1,1,zp⟩ (St y)).setCell ⟨b.heap.size+1,2,zp⟩ (St J));have a2:CoS w #[St F,St G,St H,z7 P O N] #[St a1,St U,St c1,z7 a8 a6 a4] #[St T,St b2,St c2,z7 a9 a7 a5] (b.heap.size+1) (zq cg) #[St aa,St y,St J,St aw,St ax,St cc,St ap,St ao,St c3] d6:=by rw[fv];exact f9.put 0 _ _ _ rfl
  have gc:=hid a2;have ag:=hid fv.symm;clear a2 fv az;go_wp21;have v:=ag.out;rw[show((f3.setCell ⟨b.heap.size+1,0,zp⟩ (z8 ⟨aa.toArray⟩)).setCell ⟨b.heap.size+1,1,zp⟩ (z8 ⟨y.toArray⟩)).setCell ⟨b.heap.size+1,2,zp⟩ (z8 ⟨J.toArray⟩)=d6 from v];clear v ag A C D b6 bh bi bj bk bl z0 z1 z2 f9;rw[rounds_succ];obtain⟨Q,u⟩:=zzX (d6.alloc (zn #[St aw,St ax,St cc] 137));have V:qL d6 Q:=by rw[u];exact(zM _ d6).alloc (zN _) _
  have fg:=hid (gc.next V);have L:=hid (eg Q fg.bel);have s:=hid u.symm;clear u V gc;go_wp21;have v:=s.out;rw[show d6.alloc (zn #[z8 ⟨aw.toArray⟩,z8 ⟨ax.toArray⟩,z8 ⟨cc.toArray⟩] 137)=Q from v];clear v s;refine zzM L.out λf4 l=>?_;have fa:=hid (fg.next l);clear l L fg;obtain⟨A,C,D,b6,bh,bi,bj,bk,bl,az⟩:=fa.c9;have z0:=az 3;have z1:=az 4;have z2:=az 5;obtain⟨b7,fw⟩:=zzX (((f4.setCell ⟨b.heap.size+1,3,zp⟩ (St af)).setCell ⟨b.heap.size+1,4,zp⟩ (St z)).setCell ⟨b.heap.size+1,5,zp⟩ (St W));have a2:CoS w #[St F,St G,St H,z7 P O N] #[St a1,St U,St c1,z7 a8 a6 a4] #[St T,St b2,St c2,z7 a9 a7 a5] (b.heap.size+1) (zq cg) #[St aa,St y,St J,St af,St z,St W,St ap,St ao,St c3] b7:=by rw[fw];exact fa.put 3 _ _ _ rfl
  have gd:=hid a2;have ag:=hid fw.symm;clear a2 fw az;go_wp21;have v:=ag.out;rw[show((f4.setCell ⟨b.heap.size+1,3,zp⟩ (z8 ⟨af.toArray⟩)).setCell ⟨b.heap.size+1,4,zp⟩ (z8 ⟨z.toArray⟩)).setCell ⟨b.heap.size+1,5,zp⟩ (z8 ⟨W.toArray⟩)=b7 from v];clear v ag A C D b6 bh bi bj bk bl z0 z1 z2 fa;rw[rounds_succ];obtain⟨Q,u⟩:=zzX (b7.alloc (zn #[St ap,St ao,St c3] 137));have V:qL b7 Q:=by rw[u];exact(zM _ b7).alloc (zN _) _
  have fh:=hid (gd.next V);have L:=hid (eh Q fh.bel);have s:=hid u.symm;clear u V gd;go_wp21;have v:=s.out;rw[show b7.alloc (zn #[z8 ⟨ap.toArray⟩,z8 ⟨ao.toArray⟩,z8 ⟨c3.toArray⟩] 137)=Q from v];clear v s;refine zzM L.out λf5 l=>?_;have fb:=hid (fh.next l);clear l L fh;obtain⟨A,C,D,b6,bh,bi,bj,bk,bl,az⟩:=fb.c9;have z0:=az 6;have z1:=az 7;have z2:=az 8;obtain⟨bf,fx⟩:=zzX (((f5.setCell ⟨b.heap.size+1,6,zp⟩ (St an)).setCell ⟨b.heap.size+1,7,zp⟩ (St E)).setCell ⟨b.heap.size+1,8,zp⟩ (St ab));have a2:CoS w #[St F,St G,St H,z7 P O N] #[St a1,St U,St c1,z7 a8 a6 a4] #[St T,St b2,St c2,z7 a9 a7 a5] (b.heap.size+1) (zq cg) #[St aa,St y,St J,St af,St z,St W,St an,St E,St ab] bf:=by rw[fx];exact fb.put 6 _ _ _ rfl
  have dh:=hid a2;have ag:=hid fx.symm;clear a2 fx az;go_wp21;have v:=ag.out;rw[show((f5.setCell ⟨b.heap.size+1,6,zp⟩ (z8 ⟨an.toArray⟩)).setCell ⟨b.heap.size+1,7,zp⟩ (z8 ⟨E.toArray⟩)).setCell ⟨b.heap.size+1,8,zp⟩ (z8 ⟨ab.toArray⟩)=bf from v];clear v ag A C D b6 bh bi bj bk bl z0 z1 z2 fb;clear ic id ie;rw[rounds_succ];go_wp21;refine zc4 (λ(q:Nat->Nat) i=>([zf (zq ⟨b.heap.size+1,0,zp⟩),zh #[St aa,St y,St J],zf (zq ⟨b.heap.size+1,3,zp⟩),zh #[St af,St z,St W],zf (zq ⟨b.heap.size+1,6,zp⟩),zh #[St an,St E,St ab],zf (zq ⟨q 0,0,zp⟩),zf (zq ⟨q 1,0,zp⟩),zf (zq ⟨q 2,0,zp⟩),zv,zv,zv]:List Value).getD i zv) (BoxS 3 6 9 #[St [],St [],St []] (λi=>if i=0 then #[St aa,St y,St J] else if i=1 then #[St af,St z,St W] else #[St an,St E,St ab]) 137 bf) (by kernel_rfl) (by kernel_rfl) (λ_=>0) (BoxS.start (zM _ bf).drew) λq=>?_;refine qB (zf (zq ⟨b.heap.size+1,0,zp⟩)) (λk f a=>a.step 0 (by decide) (by decide)) ?_;refine qB (zh #[St aa,St y,St J]) (λk f a=>a.step 1 (by decide) (by decide)) ?_ (hy:=λk f h a=>by obtain⟨A,C,D,b6,bh,bi,bj,bk,bl, -⟩:=(dh.next a.bel).c9;go_simp);refine qB (zf (zq ⟨b.heap.size+1,3,zp⟩)) (λk f a=>a.step 2 (by decide) (by decide)) ?_;simp only[zzQ]
  refine qB (zh #[St af,St z,St W]) (λk f a=>a.step 3 (by decide) (by decide)) ?_ (hy:=λk f h a=>by obtain⟨A,C,D,b6,bh,bi,bj,bk,bl, -⟩:=(dh.next a.bel).c9;go_simp);refine qB (zf (zq ⟨b.heap.size+1,6,zp⟩)) (λk f a=>a.step 4 (by decide) (by decide)) ?_;refine qB (zh #[St an,St E,St ab]) (λk f a=>a.step 5 (by decide) (by decide)) ?_ (hy:=λk f h a=>by obtain⟨A,C,D,b6,bh,bi,bj,bk,bl, -⟩:=(dh.next a.bel).c9;go_simp);simp only[zzQ]
  refine zdc (zf (zq ⟨q 0,0,zp⟩)) (by rfl) (by rfl) (λk f h a b8 t=>by
   have b3:=h.self;have e1:=h.no (j:=9) h.self (by kernel_rfl);have Y:=t (λj=>if j=0 then f.heap.size else q j) _ (λj K=>by
    match j,K with
    |0,_|1,_|2,_|3,_|4,_|5,_|7,_|8,_|9,_|10,_|11,_=>rfl
    |6,K=>rw[b3] at K;cases K
    |_+12,_=>rfl) (a.new 0 (by decide) e1 (by decide))
   clear a t;go_simp;exact Y) ?_
  try simp only[zzQ]
  refine zdc (zf (zq ⟨q 1,0,zp⟩)) (by rfl) (by rfl) (λk f h a b8 t=>by
   have b3:=h.self;have e1:=h.no (j:=10) h.self (by kernel_rfl);have Y:=t (λj=>if j=1 then f.heap.size else q j) _ (λj K=>by
    match j,K with
    |0,_|1,_|2,_|3,_|4,_|5,_|6,_|8,_|9,_|10,_|11,_=>rfl
    |7,K=>rw[b3] at K;cases K
    |_+12,_=>rfl) (a.new 1 (by decide) e1 (by decide))
   clear a t;go_simp;exact Y) ?_
  try simp only[zzQ]
  refine zdc (zf (zq ⟨q 2,0,zp⟩)) (by rfl) (by rfl) (λk f h a b8 t=>by
   have b3:=h.self;have e1:=h.no (j:=11) h.self (by kernel_rfl);have Y:=t (λj=>if j=2 then f.heap.size else q j) _ (λj K=>by
    match j,K with
    |0,_|1,_|2,_|3,_|4,_|5,_|6,_|7,_|9,_|10,_|11,_=>rfl
    |8,K=>rw[b3] at K;cases K
    |_+12,_=>rfl) (a.new 2 (by decide) e1 (by decide))
   clear a t;go_simp;exact Y) ?_
  try simp only[zzQ]
  refine zbv zv (by rfl) (by rfl) (λk f h a b8 t=>by
   have b3:=h.done 6 (by kernel_rfl);obtain⟨⟨g0,A⟩,⟨cr,C⟩,⟨bz,D⟩,z0,z1,z2⟩:=a.open 0 (by decide) b3 rfl rfl;have Y:=t _ (a.put 0 (by decide) b3 (by decide) (St aa) (St y) (St J) rfl rfl);clear a t;go_simp;exact Y) ?_
  try simp only[zzQ]
  refine zbv zv (by rfl) (by rfl) (λk f h a b8 t=>by
   have b3:=h.done 7 (by kernel_rfl);obtain⟨⟨g0,A⟩,⟨cr,C⟩,⟨bz,D⟩,z0,z1,z2⟩:=a.open 1 (by decide) b3 rfl rfl;have Y:=t _ (a.put 1 (by decide) b3 (by decide) (St af) (St z) (St W) rfl rfl);clear a t;go_simp;exact Y) ?_
  try simp only[zzQ]
  refine zbv zv (by rfl) (by rfl) (λk f h a b8 t=>by
   have b3:=h.done 8 (by kernel_rfl);obtain⟨⟨g0,A⟩,⟨cr,C⟩,⟨bz,D⟩,z0,z1,z2⟩:=a.open 2 (by decide) b3 rfl rfl;have Y:=t _ (a.put 2 (by decide) b3 (by decide) (St an) (St E) (St ab) rfl rfl);clear a t;go_simp;exact Y) ?_
  try simp only[zzQ]
  refine ze1 λk x h a=>?_;have bu:=a.blk 0 (by decide) (h 6 (by decide));have eu:=a.blk 1 (by decide) (h 7 (by decide));have ev:=a.blk 2 (by decide) (h 8 (by decide));rw[if_pos (h 9 (by decide))] at bu;rw[if_pos (h 10 (by decide))] at eu;rw[if_pos (h 11 (by decide))] at ev;obtain⟨hs,gz⟩:=zzX (q 0);obtain⟨ht,g'⟩:=zzX (q 1);obtain⟨hu,h0⟩:=zzX (q 2);rw[<-gz] at bu⊢;rw[<-g'] at eu⊢;rw[<-h0] at ev⊢;have fd:=hid (dh.next a.bel);have eo:=hid (⟨bu,eu,ev⟩:x.heap[hs]? =zq (zn #[St aa,St y,St J] 137 (0,0))/\x.heap[ht]? =zq (zn #[St af,St z,St W] 137 (0,0))/\x.heap[hu]? =zq (zn #[St an,St E,St ab] 137 (0,0)));clear bu eu ev gz g' h0 a h dh;obtain⟨aq,cm⟩:=zzX (x.alloc (zn #[z7 zp 0 0,z7 zp 0 0,z7 zp 0 0] 118));have fl:qL x aq:=by rw[cm];exact(zM _ x).alloc (zN _) _
  have a0:=zac fl;obtain⟨gl,gm,gn, -⟩:=zah (a0 _ _ _ _ eo.1);obtain⟨go,gp,gq, -⟩:=zah (a0 _ _ _ _ eo.2.1);obtain⟨gr,gs,gt, -⟩:=zah (a0 _ _ _ _ eo.2.2);have s:=hid cm.symm;have ga:=hid fl;clear a0 fl;rw[cm] at gl gm gn go gp gq gr gs gt;clear cm eo;go_wp21;obtain⟨ba,f2⟩:=zzX (aq.alloc (zn #[St aa,St af,St an,St y,St z,St E,St J,St W,St ab] 137));have fm:qL aq ba:=by rw[f2];exact(zM _ aq).alloc (zN _) _
  have bz:aq.heap.size=x.heap.size+1:=by rw[<-s.out,zH]
  have gx:aq.heap[x.heap.size]? =zq (zn #[z7 zp 0 0,z7 zp 0 0,z7 zp 0 0] 118 (0,0)):=by rw[<-s.out];exact zG x _
  have h2:ba.heap[x.heap.size+1]? =zq (zn #[St aa,St af,St an,St y,St z,St E,St J,St W,St ab] 137 (0,0)):=by rw[f2,<-bz];exact zG aq _
  have h1:=(Array.getElem?_eq_some_iff.1 fd.x).1;have ay:=hid (⟨(fd.next ga.out).next fm,zac fm _ _ _ _ gx,h2,h1⟩:CoT w #[St F,St G,St H,z7 P O N] #[St a1,St U,St c1,z7 a8 a6 a4] #[St T,St b2,St c2,z7 a9 a7 a5] (b.heap.size+1) cg #[St aa,St y,St J,St af,St z,St W,St an,St E,St ab] x.heap.size (z7 zp 0 0) (z7 zp 0 0) (z7 zp 0 0) #[St aa,St af,St an,St y,St z,St E,St J,St W,St ab] ba);have v:(x.alloc (zn #[z7 zp 0 0,z7 zp 0 0,z7 zp 0 0] 118)).alloc (zn #[St aa,St af,St an,St y,St z,St E,St J,St W,St ab] 137)=ba:=by rw[f2,<-s.out]
  rw[show(x.alloc (zn #[z7 zp 0 0,z7 zp 0 0,z7 zp 0 0] 118)).alloc (zn #[z8 ⟨aa.toArray⟩,z8 ⟨af.toArray⟩,z8 ⟨an.toArray⟩,z8 ⟨y.toArray⟩,z8 ⟨z.toArray⟩,z8 ⟨E.toArray⟩,z8 ⟨J.toArray⟩,z8 ⟨W.toArray⟩,z8 ⟨ab.toArray⟩] 137)=ba from v];clear v f2 fm bz gx h2 h1 s ga fd gl gm gn go gp gq gr gs gt;refine wp_loop_rounds 4 ?_;rw[rounds_succ];obtain⟨Q,u⟩:=zzX (ba.alloc (zn #[St aa,St af,St an] 137));have V:qL ba Q:=by rw[u];exact(zM _ ba).alloc (zN _) _
  have ai:=hid (ay.next V);have L:=hid (ej Q ai.s.bel);obtain⟨c6,c7,c8⟩:=ai.s.dd;have e6:ba.cell? ⟨x.heap.size+1,0,zp⟩=zq (St aa):=by rw[zJ ay.v];rfl
  have e7:ba.cell? ⟨x.heap.size+1,1,zp⟩=zq (St af):=by rw[zJ ay.v];rfl
  have e8:ba.cell? ⟨x.heap.size+1,2,zp⟩=zq (St an):=by rw[zJ ay.v];rfl
  have s:=hid u.symm;rw[u] at c6 c7 c8;clear u V ay;go_wp21;have v:=s.out;rw[show ba.alloc (zn #[z8 ⟨aa.toArray⟩,z8 ⟨af.toArray⟩,z8 ⟨an.toArray⟩] 137)=Q from v];clear v s c6 c7 c8 e6 e7 e8;refine L.mono ?_;rintro e f3 ⟨dm,e9,e3,ci,rfl,l,a3⟩;have M:=hid (ai.next l);rcases a3 with⟨rfl,a3,ca⟩|⟨rfl,a3,cb⟩
  rotate_left
  ·injection a3 with R S au
   subst R;subst S;subst au;have dg:=hid cb;clear l L cb ai;obtain⟨dt,du,dv,ed,b5,ee⟩:=zah M.o;have ay:=hid (M.put0 (z7 zp 0 0));obtain⟨⟨bm,R,S,z0,z1,z2⟩,au,bq,z3,z4⟩:=ay.s.outs;go_wp21;clear dt du dv ed b5 ee bm R S z0 z1 z2 au bq z3 z4;obtain⟨et,b0,bw,a',bx⟩:=ay.s.fin9 (z7 zp 0 0) (z7 zp 0 0) (z7 zp 0 0) zu 4;rw[b0];clear b0;refine⟨by simp,.inl ⟨_,_,rfl,run_takeDeferred a',?_⟩⟩;obtain⟨ac,ad,ae,bo,bp, -⟩:=bx _ rfl;refine⟨ze #[zh #[z7 zp 0 0,z7 zp 0 0,z7 zp 0 0],zg zu,zj zm 4],?_,_,_,_,_,_,rfl,zby bw dc a',.inl ⟨rfl,rfl,rfl,rfl,.inr ⟨rfl,en.out,dg.out⟩⟩⟩;simp[results,Tryz.f81,go_sem,ac,ad,ae,bo,bp]
  have ho:=hid ca;clear ca;have ah:=hid a3;clear l a3 L ai;obtain⟨A,C,D,z0,z1,z2⟩:=zah M.o;obtain⟨cp,bb⟩:=zzX (f3.setCell ⟨x.heap.size,0,zp⟩ (z7 dm e9 e3));have a2:=M.put0 (z7 dm e9 e3);obtain⟨b1,b4⟩:=M.ne 0 (z7 dm e9 e3);have bc:=zf7 M.o ⟨_,_,_,rfl⟩ ⟨_,_,_,rfl⟩ ⟨_,_,_,rfl⟩;rw[<-bb] at a2 b1 b4;have di:=hid a2;have ah:=hid (ah.other b1 b4 bc);have ag:=hid bb.symm;clear a2 b1 b4 bc bb;go_wp21
  try rw[ag.out]
  clear ag A C D z0 z1 z2 M;rw[rounds_succ];obtain⟨Q,u⟩:=zzX (cp.alloc (zn #[St y,St z,St E] 137));have V:qL cp Q:=by rw[u];exact(zM _ cp).alloc (zN _) _
  have ai:=hid (di.next V);have ah:=hid (ah.below V);have L:=hid (ek Q ai.s.bel);obtain⟨c6,c7,c8⟩:=ai.s.dd;have e6:cp.cell? ⟨x.heap.size+1,3,zp⟩=zq (St y):=by rw[zJ di.v];rfl
  have e7:cp.cell? ⟨x.heap.size+1,4,zp⟩=zq (St z):=by rw[zJ di.v];rfl
  have e8:cp.cell? ⟨x.heap.size+1,5,zp⟩=zq (St E):=by rw[zJ di.v];rfl
  have s:=hid u.symm;rw[u] at c6 c7 c8;clear u V di;go_wp21;have v:=s.out;rw[show cp.alloc (zn #[z8 ⟨y.toArray⟩,z8 ⟨z.toArray⟩,z8 ⟨E.toArray⟩] 137)=Q from v];clear v s c6 c7 c8 e6 e7 e8;refine L.mono ?_;rintro e f4 ⟨dn,ea,e4,ci,rfl,l,a3⟩;have M:=hid (ai.next l);rcases a3 with⟨rfl,a3,ca⟩|⟨rfl,a3,cb⟩
  rotate_left
  ·injection a3 with R S au
   subst R;subst S;subst au;have dg:=hid cb;clear l L cb ai ah;obtain⟨dt,du,dv,ed,b5,ee⟩:=zah M.o;have ay:=hid (M.put1 (z7 zp 0 0));obtain⟨⟨bm,R,S,z0,z1,z2⟩,au,bq,z3,z4⟩:=ay.s.outs;go_wp21;clear dt du dv ed b5 ee bm R S z0 z1 z2 au bq z3 z4;obtain⟨et,b0,bw,a',bx⟩:=ay.s.fin9 (z7 zp 0 0) (z7 zp 0 0) (z7 zp 0 0) zu 4;rw[b0];clear b0;refine⟨by simp,.inl ⟨_,_,rfl,run_takeDeferred a',?_⟩⟩;obtain⟨ac,ad,ae,bo,bp, -⟩:=bx _ rfl;refine⟨ze #[zh #[z7 zp 0 0,z7 zp 0 0,z7 zp 0 0],zg zu,zj zm 4],?_,_,_,_,_,_,rfl,zby bw dc a',.inl ⟨rfl,rfl,rfl,rfl,.inr ⟨rfl,en.out,dg.out⟩⟩⟩;simp[results,Tryz.f81,go_sem,ac,ad,ae,bo,bp]
  have hp:=hid ca;clear ca;have bg:=hid a3;have ah:=hid (ah.below l);clear l a3 L ai;obtain⟨A,C,D,z0,z1,z2⟩:=zah M.o;obtain⟨cq,bb⟩:=zzX (f4.setCell ⟨x.heap.size,1,zp⟩ (z7 dn ea e4));have a2:=M.put1 (z7 dn ea e4);obtain⟨b1,b4⟩:=M.ne 1 (z7 dn ea e4);have bc:=zf7 M.o ⟨_,_,_,rfl⟩ ⟨_,_,_,rfl⟩ ⟨_,_,_,rfl⟩;rw[<-bb] at a2 b1 b4;have dj:=hid a2;have bg:=hid (bg.other b1 b4 bc);have ah:=hid (ah.other b1 b4 bc);have ag:=hid bb.symm;clear a2 b1 b4 bc bb;go_wp21
  try rw[ag.out]
  clear ag A C D z0 z1 z2 M;rw[rounds_succ];obtain⟨Q,u⟩:=zzX (cq.alloc (zn #[St J,St W,St ab] 137));have V:qL cq Q:=by rw[u];exact(zM _ cq).alloc (zN _) _
  have ai:=hid (dj.next V);have ah:=hid (ah.below V);have bg:=hid (bg.below V);have L:=hid (el Q ai.s.bel);obtain⟨c6,c7,c8⟩:=ai.s.dd;have e6:cq.cell? ⟨x.heap.size+1,6,zp⟩=zq (St J):=by rw[zJ dj.v];rfl
  have e7:cq.cell? ⟨x.heap.size+1,7,zp⟩=zq (St W):=by rw[zJ dj.v];rfl
  have e8:cq.cell? ⟨x.heap.size+1,8,zp⟩=zq (St ab):=by rw[zJ dj.v];rfl
  have s:=hid u.symm;rw[u] at c6 c7 c8;clear u V dj;go_wp21;have v:=s.out;rw[show cq.alloc (zn #[z8 ⟨J.toArray⟩,z8 ⟨W.toArray⟩,z8 ⟨ab.toArray⟩] 137)=Q from v];clear v s c6 c7 c8 e6 e7 e8;refine L.mono ?_;rintro e f5 ⟨dp,eb,e5,ci,rfl,l,a3⟩;have M:=hid (ai.next l);rcases a3 with⟨rfl,a3,ca⟩|⟨rfl,a3,cb⟩
  rotate_left
  ·injection a3 with R S au
   subst R;subst S;subst au;have dg:=hid cb;clear l L cb ai ah bg;obtain⟨dt,du,dv,ed,b5,ee⟩:=zah M.o;have ay:=hid (M.put2 (z7 zp 0 0));obtain⟨⟨bm,R,S,z0,z1,z2⟩,au,bq,z3,z4⟩:=ay.s.outs;go_wp21;clear dt du dv ed b5 ee bm R S z0 z1 z2 au bq z3 z4;obtain⟨et,b0,bw,a',bx⟩:=ay.s.fin9 (z7 zp 0 0) (z7 zp 0 0) (z7 zp 0 0) zu 4;rw[b0];clear b0;refine⟨by simp,.inl ⟨_,_,rfl,run_takeDeferred a',?_⟩⟩;obtain⟨ac,ad,ae,bo,bp, -⟩:=bx _ rfl;refine⟨ze #[zh #[z7 zp 0 0,z7 zp 0 0,z7 zp 0 0],zg zu,zj zm 4],?_,_,_,_,_,_,rfl,zby bw dc a',.inl ⟨rfl,rfl,rfl,rfl,.inr ⟨rfl,en.out,dg.out⟩⟩⟩;simp[results,Tryz.f81,go_sem,ac,ad,ae,bo,bp]
  have hq:=hid ca;clear ca;have fe:=hid a3;have ah:=hid (ah.below l);have bg:=hid (bg.below l);clear l a3 L ai;obtain⟨A,C,D,z0,z1,z2⟩:=zah M.o;obtain⟨il,bb⟩:=zzX (f5.setCell ⟨x.heap.size,2,zp⟩ (z7 dp eb e5));have a2:=M.put2 (z7 dp eb e5);obtain⟨b1,b4⟩:=M.ne 2 (z7 dp eb e5);have bc:=zf7 M.o ⟨_,_,_,rfl⟩ ⟨_,_,_,rfl⟩ ⟨_,_,_,rfl⟩;rw[<-bb] at a2 b1 b4;have f8:=hid a2;have fe:=hid (fe.other b1 b4 bc);have ah:=hid (ah.other b1 b4 bc);have bg:=hid (bg.other b1 b4 bc);have ag:=hid bb.symm;clear a2 b1 b4 bc bb;go_wp21
  try rw[ag.out]
  clear ag A C D z0 z1 z2 M;rw[rounds_succ];obtain⟨A,C,D, -, -, -⟩:=zah f8.o;obtain⟨⟨bm,R,S,z0,z1,z2⟩,au,bq,z3,z4⟩:=f8.s.outs;go_wp21;clear A C D bm R S z0 z1 z2 au bq z3 z4;obtain⟨et,b0,bw,a',bx⟩:=f8.s.fin9 (z7 dm e9 e3) (z7 dn ea e4) (z7 dp eb e5) zt 0;rw[b0];clear b0;refine⟨by simp,.inl ⟨_,_,rfl,run_takeDeferred a',?_⟩⟩;obtain⟨ac,ad,ae,bo,bp,e0⟩:=bx _ rfl;have e0:=e0 ⟨_,_,_,rfl⟩ ⟨_,_,_,rfl⟩ ⟨_,_,_,rfl⟩;refine⟨ze #[zh #[z7 dm e9 e3,z7 dn ea e4,z7 dp eb e5],zg zt,zj zm 0],?_,_,_,_,_,_,rfl,zby bw dc a',.inr ⟨rfl,rfl,en.out,e0 _ _ ah.out,e0 _ _ bg.out,e0 _ _ fe.out,ho.out,hp.out,hq.out⟩⟩;simp[results,Tryz.f81,go_sem,ac,ad,ae,bo,bp]
 case stop=>
  rintro cg c j g c9 a d1;exact a.elim
theorem z9m (p g:Option Addr) (c k n:Nat) (X d:Nat->ByteArray) (u:n<=5000) (w:zA) (h:Hid (RowTm p n X d w)) (i:Hid (RowTm g n X d w)):
 qJ 17 #[z7 p n c,z7 g n k] w (zg zt):=by
 have f:=hid (zM w.heap.size w);go_enter Tryz.func17,Tryz.ntmps17;go_wp21;go_loopw [13] (λe wr=>∃(a:Nat),a<=n/\e=zj zm (a:Int)/\Hid (qL w wr))
  (λe _=>n-(zL e).toNat)
 case atStart=>exact⟨0,zR _,rfl,f⟩
 case round=>
  clear f;obtain⟨a,t,rfl,b⟩:=hrel;by_cases hlt:a<n
  ·obtain⟨m,v,rfl,q,c1⟩:=(h.keep (zac b.out)) a hlt
   obtain⟨o,x,rfl,r,s⟩:=(i.keep (zac b.out)) a hlt;have j:=hid λl=>b.trans ((zao (zM _ wr) l).mono b.size);clear b;generalize X a=y at*
   generalize d a=z at*
   go_wp21;go_quiet (fail);go_wp21;go_roundw
   case rel=>exact⟨a+1,by omega,by go_num,hid (j _)⟩
   case measure=>simp[zL];omega
  ·go_wp21
   go_ret;exact⟨rfl,b.out⟩
theorem eq_l (v m:Value) (l:List (Rat×Nat)) (q:l.length<=5000) (w:zA) (h:SdL v l w) (p:SdL m l w):
 qJ 17 #[v,m] w (zg zt):=by
 obtain⟨t,n,rfl, -,r⟩:=h.slice;obtain⟨u,o,rfl, -,s⟩:=p.slice;have k:∀a,a<l.length->∃d,l[a]? =zq d:=λa c=>⟨_,yB c⟩;refine z9m t u n o l.length (λa=>⟨(numS ((l[a]?.getD (1,1)).1)).toArray⟩) (λa=>⟨(decDigits ((l[a]?.getD (1,1)).2)).toArray⟩) q w (hid λa c=>?_) (hid λa c=>?_)
 ·obtain⟨d,b⟩:=k a c
  obtain⟨e,j,f, -,g,i⟩:=r a d b;refine⟨e,j,f,?_,?_⟩
  ·simp only[b,Option.getD_some];exact g
  ·simp only[b,Option.getD_some];exact i
 ·obtain⟨d,b⟩:=k a c
  obtain⟨e,j,f, -,g,i⟩:=s a d b;refine⟨e,j,f,?_,?_⟩
  ·simp only[b,Option.getD_some];exact g
  ·simp only[b,Option.getD_some];exact i
theorem SdL.laid (w:zA) (q:Rat) (r:Nat) (x y:ByteArray) (f:St (numS q)=z8 x) (hy:St (decDigits r)=z8 y) (b:zA) (c:b=w.alloc (zn #[z8 x,z8 y] 58)):SdL (z7 (zq ⟨w.heap.size,0,zp⟩) 1 1) [(q,r)] b:=by
 refine .inr ⟨w.heap.size,0,1,rfl,zN _,by rw[c,zH];omega,λe g a=>?_⟩;have d:b.heap[w.heap.size]? =zq (zn #[z8 x,z8 y] 58 (0,0)):=by rw[c];exact zG w _
 match e,a with
 |0,a=>
  simp at a;subst a;refine⟨?_,?_⟩
  ·rw[zJ d,f];rfl
  ·rw[zJ d,hy];rfl
 |e+1,a=>simp at a
end
section
open Go.RowKit Go.Shelf Lib Str Limb
theorem hbxU {w y:zA} {a:Array Value} {t:TypeId} (hy:y=w.alloc (zn a t)):qL w y/\y.heap[w.heap.size]? =zq (zn a t (0,0)):=by
 rw[hy];exact⟨(zM _ w).alloc (zN _) _,zG w _⟩
theorem yio {h k m:Hq} (n:HOk h) (o:HOk k) (p:HOk m) (d:detQ h k m≠0):zfr (detQ h k m):=by
 have a:∀{b:Rat},zfr b->b*b=1:=λh=>by rcases h with rfl|rfl<;>grind
 have b:detQ h k m=0\/detQ h k m*detQ h k m=1:=by
  unfold detQ crX1 crX2 crX3;rcases n.ax with⟨a1,c,e⟩|⟨a1,c,e⟩|⟨a1,c,e⟩<;>rcases o.ax with⟨f,b2,g⟩|⟨f,b2,g⟩|⟨f,b2,g⟩<;>rcases p.ax with⟨c1,c2,i⟩|⟨c1,c2,i⟩|⟨c1,c2,i⟩<;>
   (first|replace a1:=a a1|replace c:=a c|replace e:=a e)<;>(first|replace f:=a f|replace b2:=a b2|replace g:=a g)<;>(first|replace c1:=a c1|replace c2:=a c2|replace i:=a i)<;>
   (generalize h.a=q at*;generalize h.b=r at*;generalize h.c=s at*;generalize k.a=t at*;generalize k.b=u at*;generalize k.c=v at*;generalize m.a=z0 at*;generalize m.b=z1 at*;generalize m.c=z2 at*;subst_eqs;grind)
 rcases b with b|b
 ·exact(d b).elim
 ·generalize detQ h k m=j at*
  rcases(show j-1=0\/j+1=0 from Rat.mul_eq_zero.1 (by grind)) with l|l
  ·exact .inl (by grind)
  ·exact .inr (by grind)
theorem yfy {h k:Hq} (g:HOk h) (i:HOk k):sz3 (crX1 h k) (crX2 h k) (crX3 h k) 5:=by
 obtain⟨a,c,e⟩:=g.s3;obtain⟨b,d,f⟩:=i.s3;exact⟨zfq (zca c f) (zca e d),zfq (zca e b) (zca a f),zfq (zca a d) (zca c b)⟩
theorem zol (h:Hq) (ok:HOk h) (d:Value) (a:zA) (c:Hw a) (e:SdL d (rs h.d) a):qJ 96 #[zh #[St (numS h.a),St (numS h.b),St (numS h.c),d]] a (zj zm 0):=by
 obtain⟨j,i,g,rfl⟩:=e.any;exact znw h.a h.b h.c (ok.s3.1.mono (by omega)) (ok.s3.2.1.mono (by omega)) (ok.s3.2.2.mono (by omega)) ok.nz j i g a c λf b=>zda _ h.d (ok.d.mono (by omega)) f (c.below b).wd (c.below b).pw (e.below b)
theorem yk6 (h:Hq) (ok:HOk h) (p:Pq) (q:sz3 p.x p.y p.z 10) (v a b c:Value) (w:zA) (hw:Hw w) (u:SdL v (rs h.d) w) (r:SdL a (rs p.x) w) (s:SdL b (rs p.y) w) (t:SdL c (rs p.z) w):
 qJ 82 #[zh #[St (numS h.a),St (numS h.b),St (numS h.c),v],zh #[a,b,c]] w (ze #[zj zm (h.s p),zj zm 0]):=by
 obtain⟨d,e,f⟩:=ok.s3;obtain⟨m,n,o⟩:=q;have g:=zca m d;have i:=zca n e;have j:=zca o f;have k:=zk0 g i;have l:=zk0 k j
 exact yjw h.a h.b h.c h.d p.x p.y p.z (d.mono (by omega)) (e.mono (by omega)) (f.mono (by omega)) ok.nz (ok.d.mono (by omega)) (m.mono (by omega)) (n.mono (by omega)) (o.mono (by omega))
  (g.mono (by omega)) (i.mono (by omega)) (j.mono (by omega)) (k.mono (by omega)) (l.mono (by omega)) ((zfq l ok.d).mono (by omega)) v a b c w hw u r s t
theorem z34 (a:Nat->Hq) (ok:∀i,HOk (a i)) (v:Nat->Value) (w:zA) (hw:Hw w) (m:∀i,SdL (v i) (rs (a i).d) w):
 zC zF 81 #[zh #[St (numS (a 0).a),St (numS (a 0).b),St (numS (a 0).c),v 0],zh #[St (numS (a 1).a),St (numS (a 1).b),St (numS (a 1).c),v 1],zh #[St (numS (a 2).a),St (numS (a 2).b),St (numS (a 2).c),v 2]] w λe w'=>
  ∃q r s z,e=zo (ze #[zh #[q,r,s],zg z,zj zm 0])/\zB w.heap.size w w'/\((z=zu/\detQ (a 0) (a 1) (a 2)=0/\q=z7 zp 0 0/\r=z7 zp 0 0/\s=z7 zp 0 0)\/
   (z=zt/\detQ (a 0) (a 1) (a 2)≠0/\SdL q (rs (corQ (a 0) (a 1) (a 2)).x) w'/\SdL r (rs (corQ (a 0) (a 1) (a 2)).y) w'/\SdL s (rs (corQ (a 0) (a 1) (a 2)).z) w')):=by
 have g:=λ(b:zA) (t:qL w b)=>hw.below t;have u:∀i,∃n am o,v i=z7 n am o:=λi=>(m i).any;have C:(numS (detQ (a 0) (a 1) (a 2))==[48])=zu->detQ (a 0) (a 1) (a 2)≠0:=λy e=>by rw[e,zie] at y;cases y
 have F:detQ (a 0) (a 1) (a 2)≠0->sz (1/detQ (a 0) (a 1) (a 2)) 1:=λt=>by
  rcases yio (ok 0) (ok 1) (ok 2) t with e|e<;>rw[e]<;>exact⟨by decide+kernel,by decide+kernel⟩
 have j:∀{n:Rat} {y:Nat},sz n y->y<=60->sz n 60:=λt ai=>t.mono ai;have l:∀c,sz3 (crX1 (a ((c+1)%3)) (a ((c+2)%3))) (crX2 (a ((c+1)%3)) (a ((c+2)%3))) (crX3 (a ((c+1)%3)) (a ((c+2)%3))) 5:=λc=>yfy (ok _) (ok _);have a8:sz (detQ (a 0) (a 1) (a 2)) 20:=by
  obtain⟨a6,a7,o⟩:=(ok 0).s3;obtain⟨aw,ax,b0⟩:=yfy (ok 1) (ok 2);exact(zk0 (zk0 (zca a6 aw) (zca a7 ax)) (zca o b0)).mono (by omega)
 generalize X:1/detQ (a 0) (a 1) (a 2)=h at F;have D:∀p c1 c2:Rat,sz p 5->sz c1 5->sz c2 5->Hid ((numS (detQ (a 0) (a 1) (a 2))==[48])=zu->∀b:zA,qL w b->zC zF 123 #[zh #[v 0,v 1,v 2],zh #[St (numS (p*h)),St (numS (c1*h)),St (numS (c2*h))]] b λe w'=>∃n Y o Z,e=zo (ze #[z7 n Y o,zj zm Z])/\zB b.heap.size b w'/\OutR (rs ((a 0).d*(p*h)+(a 1).d*(c1*h)+(a 2).d*(c2*h))) True False (z7 n Y o) Z w'):=λp c1 c2 ac ad ae=>hid λx b d=>by
  have O:=F (C x);have a0:=zca ac O;have a1:=zca ad O;have a2:=zca ae O;have K:=zca (ok 0).d a0;have L:=zca (ok 1).d a1;have M:=zca (ok 2).d a2;have N:=zk0 K L;have av:=zk0 N M;obtain⟨aq,an,ak,a9⟩:=u 0;obtain⟨ar,ao,al,A⟩:=u 1;obtain⟨au,ap,G,aa⟩:=u 2;have a3:=(m 0).below d;have a4:=(m 1).below d;have a5:=(m 2).below d;rw[a9] at a3⊢;rw[A] at a4⊢;rw[aa] at a5⊢;exact zeu (zns aq ar au an ao ap ak al G _ _ _ (rs ((a 0).d*(p*h))) (rs ((a 1).d*(c1*h))) (rs ((a 2).d*(c2*h))) (rs ((a 0).d*(p*h)+(a 1).d*(c1*h))) _ b
   (hid λk f=>ze2 _ _ _ (j (ok 0).d (by omega)) (a0.mono (by omega)) (j K (by omega)) k ((g b d).below f).d ((g b d).below f).p (a3.below f))
   (hid λk f=>ze2 _ _ _ (j (ok 1).d (by omega)) (a1.mono (by omega)) (j L (by omega)) k ((g b d).below f).d ((g b d).below f).p (a4.below f))
   (hid λk f=>ze2 _ _ _ (j (ok 2).d (by omega)) (a2.mono (by omega)) (j M (by omega)) k ((g b d).below f).d ((g b d).below f).p (a5.below f))
   (hid λk P v f E m=>zno P v _ _ (j K (by omega)) (j L (by omega)) (j N (by omega)) k ((g b d).below f).d ((g b d).below f).p E m)
   (hid λk P v f E m=>zno P v _ _ (j N (by omega)) (j M (by omega)) (j av (by omega)) k ((g b d).below f).d ((g b d).below f).p E m))
 refine(yfx (λi=>numS (a i).a) (λi=>numS (a i).b) (λi=>numS (a i).c) (λc=>numS (crX1 (a ((c+1)%3)) (a ((c+2)%3)))) (λc=>numS (crX2 (a ((c+1)%3)) (a ((c+2)%3)))) (λc=>numS (crX3 (a ((c+1)%3)) (a ((c+2)%3))))
  (λc=>numS (crX1 (a ((c+1)%3)) (a ((c+2)%3))*h)) (λc=>numS (crX2 (a ((c+1)%3)) (a ((c+2)%3))*h)) (λc=>numS (crX3 (a ((c+1)%3)) (a ((c+2)%3))*h)) v u (numS (detQ (a 0) (a 1) (a 2))) (numS h) _ _ _ True True True False w
  (hid λb d T ag=>?_) (hid λc ah b d=>?_) (hid λb d=>?_) (hid λx b d=>?_) (hid λx c ah b d=>?_) (D _ _ _ (l 0).1 (l 1).1 (l 2).1) (D _ _ _ (l 0).2.1 (l 1).2.1 (l 2).2.1) (D _ _ _ (l 0).2.2 (l 1).2.2 (l 2).2.2)).mono ?_
 ·refine zgo (zq ⟨T,0,zp⟩) 3 3 _ _ _ v (by omega) (λi _=>u i) b (hid λi W k f=>zol (a i) (ok i) _ k ((g b d).below f) (((m i).below d).below f)) (hid λi W=>?_)
  have V:=zme ag i W;rw[show i*4=0+i*4 by omega] at V;exact⟨T,0,rfl,V⟩
 ·obtain⟨Q,R,S⟩:=(ok ((c+1)%3)).s3
  obtain⟨ay,az,a'⟩:=(ok ((c+2)%3)).s3;exact zmc _ _ _ _ _ _ ⟨Q.mono (by omega),R.mono (by omega),S.mono (by omega)⟩ ⟨ay.mono (by omega),az.mono (by omega),a'.mono (by omega)⟩ b (g b d).wd
 ·obtain⟨Q,R,S⟩:=(ok 0).s3
  exact zq7 _ _ _ _ _ _ ⟨Q.mono (by omega),R.mono (by omega),S.mono (by omega)⟩ ((l 0).mono (by omega)) b (g b d).wd
 ·have:=zoj 1 (detQ (a 0) (a 1) (a 2)) (C x) 1 20 (by omega) (by omega) (by omega) (zb7.2.1.mono (by omega)) a8 b (g b d).wd
  rw[zfc,X] at this;exact this
 ·exact z7v _ _ _ _ ((l c).mono (by omega)) ((F (C x)).mono (by omega)) b (g b d).wd
 ·rintro e w' ⟨q,r,s,z,b1,A,U,af⟩
  rcases af with⟨rfl,G,H,I,J⟩|⟨rfl,rfl,H,I,J,B, -⟩
  ·rcases J with⟨rfl,B⟩|⟨-, -,ab⟩
   ·refine⟨q,r,s,zu,A,U,.inl ⟨rfl,Classical.byContradiction λaj=>?_,G,H,I⟩⟩
    rw[zsf aj] at B;cases B
   ·exact ab.elim
  ·refine⟨q,r,s,zt,A,U,.inr ⟨rfl,C H,?_⟩⟩
   unfold corQ;rw[X];exact⟨I,J,B⟩
end
section
def ltT (t u:Nat×Nat×Nat):Bool:=decide (t.1<u.1)||(decide (t.1=u.1)&&(decide (t.2.1<u.2.1)||(decide (t.2.1=u.2.1)&&decide (t.2.2<u.2.2))))
def ix3 (n:Nat):List (Nat×Nat×Nat):=tr3 (List.range n)
def cn3 (n i j k:Nat):Nat:=(ix3 n).countP λt=>ltT t (i,j,k)
def okE3 (n:Nat):Bool:=
 decide (cn3 n 0 1 2=0)&&((List.range n).all λi=>(List.range n).all λj=>!decide (i<j)||((List.range n).all λk=>!decide (j<k)||(decide ((ix3 n)[cn3 n i j k]? =zq (i,j,k))&&decide (cn3 n i j (k+1)=cn3 n i j k+1))))&&
 ((List.range n).all λi=>(List.range n).all λj=>!decide (i<j)||decide (cn3 n i j n=cn3 n i (j+1) (j+2)))&&((List.range n).all λi=>decide (cn3 n i n (n+1)=cn3 n (i+1) (i+2) (i+3)))&&decide (cn3 n n (n+1) (n+2)=(ix3 n).length)
theorem yk7:okE3 6=zt:=by decide+kernel
theorem yjy:okE3 12=zt:=by decide+kernel
structure Enum3 (n:Nat):Prop where
 start:cn3 n 0 1 2=0
 at_:∀i j k,i<j->j<k->k<n->(ix3 n)[cn3 n i j k]? =zq (i,j,k)/\cn3 n i j (k+1)=cn3 n i j k+1
 ek:∀i j,i<j->j<n->cn3 n i j n=cn3 n i (j+1) (j+2)
 ej:∀i,i<n->cn3 n i n (n+1)=cn3 n (i+1) (i+2) (i+3)
 ei:cn3 n n (n+1) (n+2)=(ix3 n).length
theorem Enum3.of {n:Nat} (h:okE3 n=zt):Enum3 n:=by
 unfold okE3 at h;simp only[Bool.and_eq_true,decide_eq_true_eq,List.all_eq_true,List.mem_range,Bool.or_eq_true,Bool.not_eq_true',decide_eq_false_iff_not] at h;obtain⟨⟨⟨⟨g,i⟩,j⟩,k⟩,l⟩:=h;refine⟨g,λd e m b c f=>?_,λd e b c=>?_,k,l⟩
 ·rcases i d (by omega) e (by omega) with a|a
  ·exact(a b).elim
  ·rcases a m f with a|a
   ·exact(a c).elim
   ·exact a
 ·rcases j d (by omega) e c with a|a
  ·exact(a b).elim
  ·exact a
theorem yeu {α β:Type} (f:α->β):∀l:List α,tr2 (l.map f)=(tr2 l).map λt=>(f t.1,f t.2)
 |[]=>rfl
 |h::s=>by
  show((s.map f).map λk=>(f h,k))++tr2 (s.map f)=_;rw[yeu f s,show tr2 (h::s)=(s.map λk=>(h,k))++tr2 s from rfl];rw[List.map_append,List.map_map,List.map_map];rfl
theorem yey {α β:Type} (f:α->β):∀l:List α,tr3 (l.map f)=(tr3 l).map λt=>(f t.1,f t.2.1,f t.2.2)
 |[]=>rfl
 |h::s=>by
  show((tr2 (s.map f)).map λk=>(f h,k))++tr3 (s.map f)=_;rw[yey f s,yeu f s,show tr3 (h::s)=((tr2 s).map λk=>(h,k))++tr3 s from rfl];rw[List.map_append,List.map_map,List.map_map];rfl
def gH (s:List Hq) (i:Nat):Hq:=s[i]?.getD ⟨1,0,0,0⟩
theorem yjz (s:List Hq):(List.range s.length).map (gH s)=s:=by
 apply List.ext_getElem?;intro i;rw[List.getElem?_map];by_cases h:i<s.length
 ·rw[List.getElem?_range h]
  show zq (gH s i)=_;unfold gH;rw[yB h];rfl
 ·rw[List.getElem?_eq_none (by simp;omega),List.getElem?_eq_none (by omega)];rfl
theorem yck (s:List Hq):tr3 s=(ix3 s.length).map λt=>(gH s t.1,gH s t.2.1,gH s t.2.2):=by
 unfold ix3;rw[<-yey,yjz]
theorem ylv {s:List Hq} (h:∀x∈s,HOk x) (i:Nat):HOk (gH s i):=by
 unfold gH;by_cases hi:i<s.length
 ·rw[yB hi];exact h _ (List.getElem_mem hi)
 ·rw[List.getElem?_eq_none (by omega)]
  exact⟨.inl ⟨.inl rfl,rfl,rfl⟩,zlb (by omega)⟩
def ix2 (n:Nat):List (Nat×Nat):=(List.range n).flatMap λk=>(List.range k).map λi=>(i,k)
def cn2 (i k:Nat):Nat:=k*(k-1)/2+i
def okE2 (n:Nat):Bool:=((List.range n).all λk=>(List.range k).all λi=>decide ((ix2 n)[cn2 i k]? =zq (i,k)))&&((List.range n).all λk=>decide (cn2 k k=cn2 0 (k+1)))&&decide (cn2 0 n=(ix2 n).length)
theorem yk8:okE2 6=zt:=by decide+kernel
theorem yj0:okE2 12=zt:=by decide+kernel
end
section
open Go.RowKit Go.Shelf Lib Str Limb
attribute [local go_sem] Oper.semAt_some
theorem zxw (p:Option Addr) (cap n:Nat) (X f Z:Nat->List UInt8) (D:Nat->Value) (L:1<=n) (M:n<=32) (J:∀i,i<n->∃q m c,D i=z7 q m c) (w:zA)
 (A:Hid (∀i,i<n->∀l:zA,qL w l->qJ 96 #[zh #[St (X i),St (f i),St (Z i),D i]] l (zj zm 0))) (B:Hid (RowHf p n X f Z D w)):
 qJ 62 #[z7 p n cap] w (zj zm 0):=by
 have h:=hid (zM w.heap.size w);have E:((n:Int)==0)=zu:=beq_eq_false_iff_ne.2 (by omega);have F:decide ((32:Int)<(n:Int))=zu:=decide_eq_false (by omega);have G:¬n=0:=by omega
 have H:¬32<n:=by omega
 go_enter Tryz.func62,Tryz.ntmps62;go_wp21;clear E F G H;go_loopw [16] (λi wr=>∃(a:Nat),a<=n/\i=zj zm (a:Int)/\Hid (qL w wr))
  (λi _=>n-(zL i).toNat)
 case atStart=>exact⟨0,zR _,rfl,h⟩
 case round=>
  clear h;obtain⟨a,N,rfl,b⟩:=hrel;by_cases hlt:a<n
  ·obtain⟨K,O,rfl,C,c1,c2,o⟩:=(B.keep (zac b.out)) a hlt
   have d:=hid (A a hlt);obtain⟨q,m,c,t⟩:=J a hlt;rw[t] at o d;generalize X a=v at*
   generalize f a=x at*
   generalize Z a=y at*
   obtain⟨u,g⟩:=zzX (wr.alloc (zn #[St v,St x,St y,z7 q m c] 53));obtain⟨a1,z⟩:=hbxU g;have e:=hid (b.trans (a1.mono b.size));have j:=hid (d u e.out);have k:=hid g.symm;clear g a1 z t d;go_wp21;have r:=k.out;rw[show wr.alloc (zn #[z8 ⟨v.toArray⟩,z8 ⟨x.toArray⟩,z8 ⟨y.toArray⟩,z7 q m c] 53)=u from r];clear r k C c1 c2 o;refine zzM j.out λP s=>?_;have I:=qT e s;clear s j e;go_wp21;go_roundw
   case rel=>exact⟨a+1,by omega,by go_num,I⟩
   case measure=>simp[zL];omega
  ·go_wp21
   go_ret;exact⟨rfl,b.out⟩
theorem zec (x y z:List UInt8) (q:Option Addr) (m k:Nat) (w:zA):
 qJ 151 #[zh #[St x,St y,St z,z7 q m k]] w (zh #[St x,St y,St z]):=by
 obtain⟨c,b⟩:=zzX (w.alloc (zn #[St x,St y,St z,z7 q m k] 53));obtain⟨n,l⟩:=hbxU b;have a:=λi j (o:(#[St x,St y,St z,z7 q m k]:Array Value)[i]? =zq j)=>(show c.cell? ⟨w.heap.size,i,zp⟩=zq j by rw[zJ l];exact o);have r:=a 0 _ rfl;have s:=a 1 _ rfl;have t:=a 2 _ rfl;have e:=hid (show qL w (c.alloc (zn #[St x,St y,St z] 137)) from n.alloc (by rw[b];simp) _);have d:=zG c (zn #[St x,St y,St z] 137);have p:c.heap.size=w.heap.size+1:=by rw[b];simp
 rw[p] at d;obtain⟨f,g,h,z0,z1,z2⟩:=zah d;rw[b] at f g h e;clear a;go_enter Tryz.func151,Tryz.ntmps151;go_wp21;refine bodyPost_ret (v:=zh #[St x,St y,St z]) (by simp[results,Tryz.results151,go_sem,f,g,h]) rfl ⟨rfl,?_⟩;exact e.out
end
section
def corK (s:List Hq) (k:Nat):List Pq:=((ix3 s.length).take k).foldl (λl t=>addQ s l (gH s t.1,gH s t.2.1,gH s t.2.2)) []
theorem zvy (s:List Hq):corK s 0=[]:=rfl
theorem zny {s:List Hq} {k i j m:Nat} (h:(ix3 s.length)[k]? =zq (i,j,m)):corK s (k+1)=addQ s (corK s k) (gH s i,gH s j,gH s m):=by
 unfold corK;rw[List.take_add_one,h,List.foldl_append];rfl
theorem zj9 (s:List Hq):corK s (ix3 s.length).length=za4 s (tr3 s):=by
 unfold corK za4;rw[xC (zN _),yck,List.foldl_map]
theorem yj1 (c:List Hq) (l:List Pq) (t:Hq×Hq×Hq):(addQ c l t).length<=l.length+1:=by
 have b:∀(a:Pq) (l:List Pq),(putQ l a).length<=l.length+1:=λa l=>by
  induction l with
  |nil=>simp[putQ]
  |cons e l d=>
   unfold putQ;split
   ·simp
   ·split
    ·simp
    ·simp only[yA];omega
 unfold addQ;split
 ·omega
 ·split
  ·exact b _ _
  ·omega
theorem zmf (a:List Hq):∀k,(corK a k).length<=k
 |0=>by simp[zvy]
 |k+1=>by
  have h:=zmf a k
  cases e:(ix3 a.length)[k]? with
  |none=>
   have b:(ix3 a.length).length<=k:=List.getElem?_eq_none_iff.1 e;have:corK a (k+1)=corK a k:=by unfold corK;rw[xC b,xC (by omega)]
   rw[this];omega
  |some g=>
   obtain⟨c,d,f⟩:=g;rw[zny e];have:=yj1 a (corK a k) (gH a c,gH a d,gH a f);omega
theorem yhd {n t i j k:Nat} (h:(ix3 n)[t]? =zq (i,j,k)):i<n/\j<n/\k<n:=by
 have l:∀(b:List Nat) (a:Nat×Nat),a∈tr2 b->a.1∈b/\a.2∈b:=λb=>by
  induction b with
  |nil=>intro a h;cases h
  |cons f c d=>
   intro a h;have h:a∈(c.map λk=>(f,k))++tr2 c:=h;rcases List.mem_append.1 h with h|h
   ·obtain⟨g,e,rfl⟩:=List.mem_map.1 h
    exact⟨List.mem_cons_self,List.mem_cons_of_mem _ e⟩
   ·exact⟨List.mem_cons_of_mem _ (d a h).1,List.mem_cons_of_mem _ (d a h).2⟩
 have p:∀(b:List Nat) (a:Nat×Nat×Nat),a∈tr3 b->a.1∈b/\a.2.1∈b/\a.2.2∈b:=λb=>by
  induction b with
  |nil=>intro a h;cases h
  |cons f c d=>
   intro a h;have h:a∈((tr2 c).map λk=>(f,k))++tr3 c:=h;rcases List.mem_append.1 h with h|h
   ·obtain⟨g,e,rfl⟩:=List.mem_map.1 h
    exact⟨List.mem_cons_self,List.mem_cons_of_mem _ (l c g e).1,List.mem_cons_of_mem _ (l c g e).2⟩
   ·exact⟨List.mem_cons_of_mem _ (d a h).1,List.mem_cons_of_mem _ (d a h).2.1,List.mem_cons_of_mem _ (d a h).2.2⟩
 obtain⟨a,m,o⟩:=p _ _ (List.mem_of_getElem? h);exact⟨List.mem_range.1 a,List.mem_range.1 m,List.mem_range.1 o⟩
theorem yk9 {n t i k:Nat} (h:(ix2 n)[t]? =zq (i,k)):i<k/\k<n:=by
 have:=List.mem_of_getElem? h;unfold ix2 at this;obtain⟨d,ha,a⟩:=List.mem_flatMap.1 this;obtain⟨e,b,c⟩:=List.mem_map.1 a;cases c;exact⟨List.mem_range.1 b,List.mem_range.1 ha⟩
def bndK (s:List Hq) (k:Nat):Bool:=((ix2 s.length).take k).any λt=>!zdi (crQ (gH s t.1) (gH s t.2))
theorem yhe (s:List Hq):bndK s 0=zu:=rfl
theorem yhf {s:List Hq} {k i j:Nat} (h:(ix2 s.length)[k]? =zq (i,j)):bndK s (k+1)=(bndK s k||!zdi (crQ (gH s i) (gH s j))):=by
 unfold bndK;rw[List.take_add_one,h,List.any_append];simp
structure Enum2 (n:Nat):Prop where
 start:cn2 0 0=0
 at_:∀i k,i<k->k<n->(ix2 n)[cn2 i k]? =zq (i,k)
 next:∀k,k<n->cn2 k k=cn2 0 (k+1)
 end_:cn2 0 n=(ix2 n).length
theorem Enum2.of {n:Nat} (h:okE2 n=zt):Enum2 n:=by
 unfold okE2 at h;simp only[Bool.and_eq_true,decide_eq_true_eq,List.all_eq_true,List.mem_range] at h;exact⟨by rfl,λi k a b=>h.1.1 k b i a,h.1.2,h.2⟩
theorem zlc {v:Pq}:zdi v=zt↔zjh v:=by
 unfold zdi zjh;simp only[Bool.and_eq_true,decide_eq_true_eq,and_assoc]
theorem zlv {a:List Hq} {h:Hq} (d:h∈a):∃i,i<a.length/\gH a i=h:=by
 obtain⟨i,b,c⟩:=List.mem_iff_getElem.1 d;exact⟨i,b,by unfold gH;rw[yB b,c];rfl⟩
end
end Go.Proofs.YtjmljcdbjakefaaGreatDoor
