/- surd.both and -/
import Derived.Test.YtjmljcdbjakefaaGreatDoorZ07
import Derived.Maps.AppendAt
import Derived.Sort.LoopGhostIn
import Derived.Lib.IndexAny
set_option maxRecDepth 100000
set_option maxHeartbeats 8000000
open Go.Value renaming slice → z7, string → z8, tuple → ze, bool → zg, int → zj
open Go.IntKind renaming i64 → zm
open Go.Obj renaming cells → zn
open Go.Ending renaming returned → zo
open Option renaming none → zp, some → zq
open Bool renaming true → zt, false → zu
open Go renaming World → zA, Calls → zC
open Go.RowKit renaming Below → zB, intOf → zL
open Go.Lib renaming decDigits → zD, itoa → zE
open Go.Proofs.Tryz renaming prog → zF
open Go.World renaming alloc_heap_new → zG, size_alloc → zH
open Go.IntWalk renaming i64_in → zI
open Go.Joins renaming cell_of_block → zJ
open Go.RowKit.Below renaming refl → zM
open Nat renaming le_refl → zN, le_trans → zO, zero_le → zR, pow_le_pow_right → yF
open List renaming getElem_mem → zY, getElem?_eq_getElem → yB
open Int renaming natAbs_natCast → yY, natCast_mul → xE
namespace Go.Proofs.YtjmljcdbjakefaaGreatDoor
section
open Go.RowKit Go.Shelf Lib Str Limb
attribute [local go_sem] Oper.semAt_some
theorem z6g (i j:Value) (C:zA->Prop) (e:∀a d,C a->qL a d->C d)
 (m:Hid (∀a:zA,C a->qJ 124 #[i] a (zj zm 0)))
 (n:Hid (∀a:zA,C a->qJ 124 #[j] a (zj zm 0)))
 (w:zA) (h:C w):
 qJ 131 #[i,j] w (zg zt):=by
 have l:=hid e;have c:=hid h;clear e h;go_enter Tryz.func131,Tryz.ntmps131;go_wp21;refine zzM (m w c.out) λo f=>?_;have b:=hid f;clear f;go_wp21;refine zzM (n o (l _ _ c b.out)) λp g=>?_;have k:=hid (b.trans (g.mono b.size));clear g;go_wp21;go_ret;exact⟨rfl,k.out⟩
def zla (C D:Nat->Nat->List UInt8) (i:Nat):Nat->List (List UInt8×List UInt8)
 |0=>[]
 |j+1=>zla C D i j++[(C i j,D i j)]
def zea (C D:Nat->Nat->List UInt8) (m:Nat):Nat->List (List UInt8×List UInt8)
 |0=>[]
 |i+1=>zea C D m i++zla C D i m
theorem zj3 (C D:Nat->Nat->List UInt8) (i:Nat):∀j,(zla C D i j).length=j
 |0=>rfl
 |j+1=>by simp[zla,zj3 C D i j]
theorem zm2 (C D:Nat->Nat->List UInt8) (m:Nat):∀i,(zea C D m i).length=i*m
 |0=>by simp[zea]
 |i+1=>by simp[zea,zm2 C D m i,zj3,Nat.succ_mul]
def zce (C D:Nat->Nat->List UInt8) (m i j:Nat):List (List UInt8×List UInt8):=zea C D m i++zla C D i j
theorem yfs (C D:Nat->Nat->List UInt8) (m i j:Nat):(zce C D m i j).length=i*m+j:=by simp[zce,zm2,zj3]
theorem yd1 (C D:Nat->Nat->List UInt8) (m i j:Nat):zce C D m i (j+1)=zce C D m i j++[(C i j,D i j)]:=by simp[zce,zla]
theorem yft (C D:Nat->Nat->List UInt8) (m i:Nat):zce C D m i m=zce C D m (i+1) 0:=by simp[zce,zea,zla]
theorem yd2 (C D:Nat->Nat->List UInt8) (m i:Nat):zce C D m i 0=zea C D m i:=by simp[zce,zla]
theorem z0e (C D:Nat->Nat->List UInt8) {n m i j:Nat} (b:i<n) (c:j<=m) (d:n<=16) (a:m<=16):(zce C D m i j).length<=256:=by
 rw[yfs];have:=Nat.mul_le_mul (show i+1<=16 by omega) a;rw[Nat.succ_mul] at this;omega
theorem yd3 (a7 a8:Option Addr) (b1 b3 n m:Nat) (K M L N:Nat->List UInt8) (C D:Nat->Nat->List UInt8) (R:Value->Int->zA->Prop) (bt:n<=16) (bs:m<=16)
 (w:zA) (al:Hid (∀l,qL w l->Wd l))
 (ae:Hid (qJ 131 #[z7 a7 n b1,z7 a8 m b3] w (zg zt)))
 (bd:Hid (∀i j,i<n->j<m->qK 106 #[St (K i),St (L j)] (ze #[St (C i j),zj zm 0])))
 (be:Hid (∀i j,i<n->j<m->qK 106 #[St (M i),St (N j)] (ze #[St (D i j),zj zm 0])))
 (bl:Hid (∀i,i<n->∃b off,a7=zq ⟨b,off,zp⟩/\b<w.heap.size/\w.cell? ⟨b,off+i*2,zp⟩=zq (St (K i))/\w.cell? ⟨b,off+i*2+1,zp⟩=zq (St (M i))))
 (bm:Hid (∀i,i<m->∃b off,a8=zq ⟨b,off,zp⟩/\b<w.heap.size/\w.cell? ⟨b,off+i*2,zp⟩=zq (St (L i))/\w.cell? ⟨b,off+i*2+1,zp⟩=zq (St (N i))))
 (ao:Hid (∀(l:zA) (q:Option Addr) (c:Nat),qL w l->l.ownsRow w.heap.size 58 2 (z7 q (zea C D m n).length c) (zea C D m n).length (zbj (zea C D m n))->zC zF 132 #[z7 q (zea C D m n).length c] l λe w'=>∃B A f r,e=zo (ze #[z7 B A f,zj zm r])/\zB l.heap.size l w'/\R (z7 B A f) r w')):
 zC zF 93 #[z7 a7 n b1,z7 a8 m b3] w λe w'=>∃q k c r,e=zo (ze #[z7 q k c,zj zm r])/\zB w.heap.size w w'/\R (z7 q k c) r w':=by
 obtain⟨bx,bo,bu,bv,bw⟩:=info_parts zsc;go_enter Tryz.func93,Tryz.ntmps93;go_wp21;refine zzM ae.out λc2 d=>?_;have af:=hid d;have au:=hid (show c2.ownsRow w.heap.size 58 2 (z7 zp 0 0) (zce C D m 0 0).length (zbj (zce C D m 0 0)) from World.ownsRow_nil _ _ _ _);clear d ae;go_wp21;go_loopw [6,20] (λa9 i wr=>∃(k:Nat) (q:Option Addr) (c:Nat),k<=n/\i=zj zm (k:Int)/\a9=z7 q (zce C D m k 0).length c/\Hid (qL w wr)/\Hid (wr.ownsRow w.heap.size 58 2 (z7 q (zce C D m k 0).length c) (zce C D m k 0).length (zbj (zce C D m k 0))))
  (λ_ i _=>n-(zL i).toNat)
 case atStart=>exact⟨0,zp,0,zR _,rfl,rfl,af,au⟩
 case round=>
  clear af au;obtain⟨k,q,c,c7,rfl,rfl,h,x⟩:=hrel;by_cases hlt:k<n
  ·obtain⟨b,off,rfl,o,y,c1⟩:=bl k hlt
   have bz:wr.cell? ⟨b,off+k*2,zp⟩=zq (St (K k)):=by rw[h.cell (p:=⟨b,off+k*2,zp⟩) o];exact y
   have b':wr.cell? ⟨b,off+k*2+1,zp⟩=zq (St (M k)):=by rw[h.cell (p:=⟨b,off+k*2+1,zp⟩) o];exact c1
   have b6:=λj=>bd k j hlt;have b7:=λj=>be k j hlt;have bj:=hid b6;have bk:=hid b7;clear b6 b7;generalize K k=F at*
   generalize M k=G at*
   obtain⟨bb,g⟩:=zzX (wr.alloc (zn #[St F,St G] 58));have a1:qL wr bb:=by rw[g];exact(zM _ wr).alloc (zN _) _
   have s:bb.heap[wr.heap.size]? =zq (zn #[St F,St G] 58 (0,0)):=by rw[g];exact zG wr _
   have v:=hid g.symm;have ag:=hid (h.trans (a1.mono h.size));have W:=hid s;have Y:=hid (zcj (zac a1) x.out);have ap:Hid (∀b,(z7 q (zce C D m k 0).length c).ownBlock=zq b->b<wr.heap.size):=hid (λb e=>(x.lt b e).2);obtain⟨a,P⟩:=zzX wr.heap.size;have c5:=hid (show w.heap.size<=a by rw[P];exact h.size);rw[<-P] at W;have ak:=hid P;clear g a1 s y c1 o x P;go_wp21;rw[v.out];clear bz b' v;obtain⟨ca,ba⟩:=zzX (wr:zA);have c6:=hid ba;clear ba;rw[<-ak.out];have aq:Hid (zq a≠(z7 q (zce C D m k 0).length c).ownBlock):=hid (λe=>by
    have:=(Y.lt a e.symm).2;have:=ap a e.symm;rw[ak.out] at this;omega)
   clear ap;go_loopw [6,26] (λa9 i wr=>∃(j:Nat) (q:Option Addr) (c:Nat),j<=m/\i=zj zm (j:Int)/\a9=z7 q (zce C D m k j).length c/\Hid (qL w wr)/\Hid (wr.ownsRow w.heap.size 58 2 (z7 q (zce C D m k j).length c) (zce C D m k j).length (zbj (zce C D m k j)))/\Hid (wr.heap[a]? =zq (zn #[St F,St G] 58 (0,0)))/\Hid (zq a≠(z7 q (zce C D m k j).length c).ownBlock))
    (λ_ i _=>m-(zL i).toNat)
   case atStart=>exact⟨0,q,c,zR _,rfl,rfl,ag,Y,W,aq⟩
   case round=>
    clear ag Y W aq;obtain⟨j,q,c,bp,rfl,rfl,t,Z,ad,X⟩:=hrel;by_cases hjm:j<m
    ·obtain⟨b2,U,rfl,o,y,c1⟩:=bm j hjm
     have c0:wr.cell? ⟨b2,U+j*2,zp⟩=zq (St (L j)):=by rw[t.cell (p:=⟨b2,U+j*2,zp⟩) o];exact y
     have t3:wr.cell? ⟨b2,U+j*2+1,zp⟩=zq (St (N j)):=by rw[t.cell (p:=⟨b2,U+j*2+1,zp⟩) o];exact c1
     have am:=hid (bj j hjm);have an:=hid (bk j hjm);have b9:=yd1 C D m k j;have c8:=z0e C D hlt bp bt bs;have aj:=hid b9;generalize L j=aa at*
     generalize N j=ac at*
     generalize C k j=c3 at*
     generalize D k j=c4 at*
     generalize zce C D m k j=b0 at*
     obtain⟨E,g⟩:=zzX (wr.alloc (zn #[St aa,St ac] 58));have a1:qL wr E:=by rw[g];exact(zM _ wr).alloc (zN _) _
     have s:E.heap[wr.heap.size]? =zq (zn #[St aa,St ac] 58 (0,0)):=by rw[g];exact zG wr _
     have V:=zac a1 _ _ _ _ ad.out;have S:E.cell? ⟨a,0,zp⟩=zq (St F):=by rw[zJ V];rfl
     have T:E.cell? ⟨wr.heap.size,0,zp⟩=zq (St aa):=by rw[zJ s];rfl
     rw[g] at S T;have v:=hid g.symm;have H:=hid (t.trans (a1.mono t.size));have av:=hid (zcj (zac a1) Z.out);have ax:=hid s;have ay:=hid V;clear g a1 s V y c1 o Z t ad b9;go_wp21;rw[v.out];clear c0 t3 S T v;refine zzM (am E (al _ H.out)) λab d=>?_;have I:=hid (H.trans (d.mono H.size));have aw:=hid (zcj (zac d) av.out);have az:=hid (zac d _ _ _ _ ax.out);have a2:=hid (zac d _ _ _ _ ay.out);clear d H av ax ay am;have S:ab.cell? ⟨a,1,zp⟩=zq (St G):=by rw[zJ a2.out];rfl
     have T:ab.cell? ⟨wr.heap.size,1,zp⟩=zq (St ac):=by rw[zJ az.out];rfl
     go_wp21;refine zzM (an ab (al _ I.out)) λu1 d=>?_;have u:=hid (I.trans (d.mono I.size));have a0:=hid (zcj (zac d) aw.out);have a3:=hid (zac d _ _ _ _ a2.out);clear d I aw az a2 an S T;go_wp2_with (at_builtin;refine wpList_append_own_at _ rfl _ _ 48 rfl w.heap.size 58 bx (.agg #[St [],St []]) 2 32 Tryz.underlying48 bo bu bv bw rfl (by decide) _ _ _ rfl (a0.alloc _) ⟨u1.heap.size,0,zp⟩ 1 1 [St c3,St c4] rfl rfl (zoq _ _ _ _) (zm4 _ _) (by unfold maxLen;omega) (by omega) (by have:=u.size;simp;omega) (λc9 w' a6 a5 _ b8=>?_));obtain⟨O,f,rfl, -, -⟩:=zye a6 (by omega);have bf:Hid (qL w w'):=hid ((u.alloc u.size _).grown a5 (by have:=u.size;simp;omega) (λq e=>(a0.lt q e).1));have bn:a<u1.heap.size:=(Array.getElem?_eq_some_iff.1 a3.out).1;have a':w'.heap[a]? =zq (zn #[St F,St G] 58 (0,0)):=by
      rw[a5.block a (by simp;omega) X.out];exact zac (show qL u1 (u1.alloc _) from(zM _ u1).alloc (zN _) _) _ _ _ _ a3.out
     have ar:zq a≠(z7 (zq ⟨O,0,zp⟩) (b0.length+1) f).ownBlock:=λe=>by
      rcases b8 with a4|a4
      ·exact X (e.trans a4)
      ·have:=e.trans a4
       simp at this;omega
     have Q:(zce C D m k (j+1)).length=b0.length+1:=by rw[aj.out];simp
     have bg:Hid (w'.ownsRow w.heap.size 58 2 (z7 (zq ⟨O,0,zp⟩) (zce C D m k (j+1)).length f) (zce C D m k (j+1)).length (zbj (zce C D m k (j+1)))):=hid (by rw[Q,aj.out,zjb];exact a6);have J:=hid Q;have bh:=hid a';have bi:Hid (zq a≠(z7 (zq ⟨O,0,zp⟩) (zce C D m k (j+1)).length f).ownBlock):=hid (by rw[Q];exact ar);clear a5 a6 b8 bn a' ar Q u a0 a3 X;go_roundw
     case rel=>exact⟨j+1,zq ⟨O,0,zp⟩,f,by omega,by go_num,by rw[J.out],bf,bg,bh,bi⟩
     case measure=>simp[zL];omega
    ·have bq:j=m:=by omega
     subst bq;have z:=yft C D j k;have J:=hid z;clear z;go_wp21;go_roundw
     case rel=>exact⟨k+1,q,c,by omega,by go_num,by rw[J.out],t,by rw[<-J.out];exact Z⟩
     case measure=>simp[zL];omega
  ·have br:k=n:=by omega
   subst br;have z:=yd2 C D m k;rw[z] at x⊢;have ai:=hid (ao wr q c h x.out);clear z ao;go_wp21;refine ai.mono ?_;rintro e bc ⟨B,A,f,r,rfl,b4,b5⟩;have ah:=hid (⟨h.trans (b4.mono h.size),b5⟩:qL w bc/\R (z7 B A f) r bc);clear b4 b5 ai;go_wp21;go_ret2;exact⟨B,A,f,r,rfl,ah.1,ah.2⟩
end
section
open Go.RowKit Go.Shelf Lib Str Limb
end
section
open Go.RowKit Go.Shelf Lib Str Limb
attribute [local go_sem] Oper.semAt_some
structure PlsS (w:zA) (x xr y yr:List UInt8) (W:zA):Prop where
 bel:qL w W
 h0:W.heap[w.heap.size]? =zq (zn #[St x,St xr] 257 (0,0))
 h1:W.heap[w.heap.size+1]? =zq (zn #[St y,St yr] 257 (0,0))
 h2:W.heap[w.heap.size+1+1]? =zq (zn #[St [],St []] 257 (0,0))
theorem PlsS.next {w:zA} {x e y f:List UInt8} {b c:zA} (h:PlsS w x e y f b) (d:qL b c):PlsS w x e y f c:=
 have a:=zac d
 ⟨h.bel.trans (d.mono h.bel.size),a _ _ _ _ h.h0,a _ _ _ _ h.h1,a _ _ _ _ h.h2⟩
theorem PlsS.cells {w:zA} {x b y c:List UInt8} {a:zA} (h:PlsS w x b y c a):
 a.cell? ⟨w.heap.size,0,zp⟩=zq (St x)/\a.cell? ⟨w.heap.size,1,zp⟩=zq (St b)/\a.cell? ⟨w.heap.size+1,0,zp⟩=zq (St y)/\a.cell? ⟨w.heap.size+1,1,zp⟩=zq (St c)/\
 a.cell? ⟨w.heap.size+1+1,0,zp⟩=zq (St [])/\a.cell? ⟨w.heap.size+1+1,1,zp⟩=zq (St [])/\a.frozen? ⟨w.heap.size+1+1,0,zp⟩=zu/\a.frozen? ⟨w.heap.size+1+1,1,zp⟩=zu:=by
 refine⟨?_,?_,?_,?_,?_,?_,Go.Joins.unfrozen_of_block h.h2 0,Go.Joins.unfrozen_of_block h.h2 1⟩
 ·rw[zJ h.h0];rfl
 ·rw[zJ h.h0];rfl
 ·rw[zJ h.h1];rfl
 ·rw[zJ h.h1];rfl
 ·rw[zJ h.h2];rfl
 ·rw[zJ h.h2];rfl
theorem PlsS.start (w:zA) (x a y b:List UInt8):PlsS w x a y b (((w.alloc (zn #[St x,St a] 257)).alloc (zn #[St y,St b] 257)).alloc (zn #[St [],St []] 257)):=by
 refine⟨(((zM _ w).alloc (zN _) _).alloc (by simp) _).alloc (by simp;omega) _,?_,?_,?_⟩
 ·exact(Below.heap_alloc _ _ _ (by simp;omega)).trans ((Below.heap_alloc _ _ _ (by simp)).trans (zG w _))
 ·have:=zG (w.alloc (zn #[St x,St a] 257)) (zn #[St y,St b] 257)
  rw[zH] at this;exact(Below.heap_alloc _ _ _ (by simp)).trans this
 ·have:=zG ((w.alloc (zn #[St x,St a] 257)).alloc (zn #[St y,St b] 257)) (zn #[St [],St []] 257)
  simp only[zH] at this;exact this
theorem zvt (x g y l k m z:List UInt8) (F:Bool)
 (R:Hid (qK 163 #[St l,St g] (ze #[St k,zg F,zj zm 0])))
 (C:Hid (qK 106 #[St y,St k] (ze #[St m,zj zm 0])))
 (B:Hid (qK 199 #[St x,St m] (ze #[St z,zj zm 0])))
 (w:zA) (o:Hid (Wd w)):
 qJ 215 #[.agg #[St x,St g],.agg #[St y,St l]] w (ze #[.agg #[St z,St g],zj zm 0]):=by
 have j:=PlsS.start w x g y l;obtain⟨c,c1,c2,d,a,b,e,f⟩:=j.cells;obtain⟨D,p⟩:=zzX (((w.alloc (zn #[St x,St g] 257)).alloc (zn #[St y,St l] 257)).alloc (zn #[St [],St []] 257));rw[<-p] at j;have n:=hid j;have r:=hid p;clear j p;go_enter Tryz.func215,Tryz.ntmps215;go_wp21;have s:=r.out;rw[<-s];clear s c c1 c2 d a b e f;refine zzM (R D (o.below n.bel)) λG t=>?_;have h:=hid (n.next t);clear t n r;obtain⟨c,c1,c2,d,a,b,e,f⟩:=h.cells;go_wp21;refine zzM (C G (o.below h.bel)) λH u=>?_;have i:=hid (h.next u);clear u h c c1 c2 d a b e f;obtain⟨c,c1,c2,d,a,b,e,f⟩:=i.cells;go_wp21;refine zzM (B H (o.below i.bel)) λI A=>?_;have q:=hid (i.next A);clear A i c c1 c2 d a b e f;obtain⟨c,c1,c2,d,a,b,e,f⟩:=q.cells;have E:=q.bel;go_wp21;refine bodyPost_ret (v:=ze #[.agg #[St z,St g],zj zm 0]) (by simp[results,Tryz.results215,go_sem,a,b]) rfl ⟨rfl,?_⟩
 repeat(first|exact E|refine Below.setCell ?_ (by simp;omega) _)
theorem nm_1:numS (-1)=[45,49]:=by have:=zha (-1);rw[show((-1:Int):Rat)= -1 from rfl] at this;rw[this];decide+kernel
theorem zb7:sz 0 1/\sz 1 1/\sz 2 1/\sz 4 1/\sz (-1) 1/\sz (-2) 1:=⟨⟨by decide,by decide⟩,⟨by decide,by decide⟩,⟨by decide,by decide⟩,⟨by decide,by decide⟩,⟨by decide,by decide⟩,⟨by decide,by decide⟩⟩
theorem yk2 {q:Rat} (h:sz q 1):okQ q:=zd0 (by omega) (by omega) h
def scK (C Y:Nat->List UInt8):Nat->List (List UInt8×List UInt8)
 |0=>[]
 |k+1=>scK C Y k++[(C k,Y k)]
theorem z6y (p:Option Addr) (cap n:Nat) (X f C:Nat->List UInt8) (c:List UInt8) (a6:n<=256)
 (w:zA) (P:Hid (∀G,qL w G->Wd G))
 (Q:Hid (∀i,i<n->qK 106 #[St (X i),St c] (ze #[St (C i),zj zm 0])))
 (R:Hid (∀i,i<n->∃b off,p=zq ⟨b,off,zp⟩/\b<w.heap.size/\w.cell? ⟨b,off+i*2,zp⟩=zq (St (X i))/\w.cell? ⟨b,off+i*2+1,zp⟩=zq (St (f i)))):
 zC zF 164 #[z7 p n cap,St c] w λe w'=>∃q d,e=zo (ze #[z7 q n d,zj zm 0])/\zB w.heap.size w w'/\w'.ownsRow w.heap.size 58 2 (z7 q n d) n (zbj (scK C f n)):=by
 obtain⟨Y,S,U,V,W⟩:=info_parts zsc;have A:=hid (zM w.heap.size w);have E:=hid (show w.ownsRow w.heap.size 58 2 (z7 zp 0 0) 0 (zbj (scK C f 0)) from World.ownsRow_nil _ _ _ _);go_enter Tryz.func164,Tryz.ntmps164;go_wp21;go_loopw [6,13] (λa3 i wr=>∃(a:Nat) (q:Option Addr) (d:Nat),a<=n/\i=zj zm (a:Int)/\a3=z7 q a d/\Hid (qL w wr)/\Hid (wr.ownsRow w.heap.size 58 2 (z7 q a d) a (zbj (scK C f a))))
  (λ_ i _=>n-(zL i).toNat)
 case atStart=>exact⟨0,zp,0,zR _,rfl,rfl,A,E⟩
 case round=>
  clear A E;obtain⟨a,q,d,a5,rfl,rfl,g,s⟩:=hrel;by_cases hlt:a<n
  ·obtain⟨b,off,rfl,u,I,c1⟩:=R a hlt
   have a0:wr.cell? ⟨b,off+a*2,zp⟩=zq (St (X a)):=by rw[g.cell (p:=⟨b,off+a*2,zp⟩) u];exact I
   have a2:wr.cell? ⟨b,off+a*2+1,zp⟩=zq (St (f a)):=by rw[g.cell (p:=⟨b,off+a*2+1,zp⟩) u];exact c1
   have D:=hid (Q a hlt);have O:=hid (show scK C f (a+1)=scK C f a++[(C a,f a)] from rfl);generalize X a=x at*
   generalize f a=o at*
   generalize C a=a4 at*
   obtain⟨m,j⟩:=zzX (wr.alloc (zn #[St x,St o] 58));have a1:qL wr m:=by rw[j];exact(zM _ wr).alloc (zN _) _
   have r:m.heap[wr.heap.size]? =zq (zn #[St x,St o] 58 (0,0)):=by rw[j];exact zG wr _
   have L:m.cell? ⟨wr.heap.size,0,zp⟩=zq (St x):=by rw[zJ r];rfl
   rw[j] at L;have B:=hid j.symm;have k:=hid (g.trans (a1.mono g.size));have y:=hid r;have F:=hid (zcj (zac a1) s.out);clear j a1 r I c1 u s;go_wp21;rw[B.out];clear a0 a2 L B;refine zzM (D m (P _ k.out)) λu1 l=>?_;have h:=hid (k.trans (l.mono k.size));have t:=hid (zcj (zac l) F.out);have z:=hid (zac l _ _ _ _ y.out);clear l k F y D;have Z:u1.cell? ⟨wr.heap.size,1,zp⟩=zq (St o):=by rw[zJ z.out];rfl
   go_wp2_with (at_builtin;refine wpList_append_own _ rfl _ _ 48 rfl w.heap.size 58 Y (.agg #[St [],St []]) 2 32 Tryz.underlying48 S U V W rfl (by decide) _ _ _ rfl (t.alloc _) ⟨u1.heap.size,0,zp⟩ 1 1 [St a4,St o] rfl rfl (zoq _ _ _ _) (zm4 _ _) (by unfold maxLen;omega) (by omega) (by have:=h.size;simp;omega) (λa7 w' v K _=>?_));obtain⟨J,H,rfl, -, -⟩:=zye v (by omega);have M:Hid (qL w w'):=hid ((h.alloc h.size _).grown K (by have:=h.size;simp;omega) (λq e=>(t.lt q e).1));have N:Hid (w'.ownsRow w.heap.size 58 2 (z7 (zq ⟨J,0,zp⟩) (a+1) H) (a+1) (zbj (scK C f (a+1)))):=hid (by rw[O.out,zjb];exact v);clear K v h t z Z;go_roundw
   case rel=>exact⟨a+1,zq ⟨J,0,zp⟩,H,by omega,by go_num,rfl,M,N⟩
   case measure=>simp[zL];omega
  ·have T:a=n:=by omega
   subst T;go_wp21;go_ret2;exact⟨q,d,rfl,g.out,s.out⟩
def spV:Array Value:= #[zj zm 4,zj zm 16,zj zm 64]
structure Spw (w:zA):Prop where
 pl:w.var? zF "kingpost/surd.signPlaces" =zq spV
theorem Spw.below {w w':zA} (h:Spw w) (b:qL w w'):Spw w':=by
 have a:Tryz.prog.globalNamed "kingpost/surd.signPlaces" =zq 0:=by kernel_rfl
 exact⟨var?_below b a (zv5 a h.pl) h.pl⟩
theorem Spw.block {w:zA} (h:Spw w):∃t fz,w.heap[0]? =zq (zn spV t fz):=by
 have b:Tryz.prog.globalNamed "kingpost/surd.signPlaces" =zq 0:=by kernel_rfl
 have a:=h.pl;unfold World.var? at a;rw[b] at a;simp only[Option.bind_some] at a
 cases hb:w.heap[(0:Nat)]? with
 |none=>rw[hb] at a;cases a
 |some c=>
  rw[hb] at a
  cases c with
  |cells d t fz=>simp at a;subst a;exact⟨t,fz,rfl⟩
  |_=>cases a
def plN:Nat->Nat
 |0=>4
 |1=>16
 |_=>64
theorem z8x (i:Nat) (a:i<3) (w:zA):(Instr.index 275 (.agg spV) (zj zm (i:Int))).run zF w=.ok (zj zm (plN i:Int)) w:=
 match i,a with
 |0,_=>by kernel_rfl
 |1,_=>by kernel_rfl
 |2,_=>by kernel_rfl
structure BxT (w:zA) (x y:ByteArray) (W:zA):Prop where
 bel:qL w W
 bx:W.heap[w.heap.size]? =zq (zn #[z8 x,z8 y] 58 (0,0))
section
variable {w W W':zA} {x y:ByteArray}
theorem BxT.next (h:BxT w x y W) (a:qL W W'):BxT w x y W':=
 ⟨h.bel.trans (a.mono h.bel.size),(a.block _ (Array.getElem?_eq_some_iff.1 h.bx).1).trans h.bx⟩
theorem BxT.cx (h:BxT w x y W):W.cell? ⟨w.heap.size,0,zp⟩=zq (z8 x)/\W.cell? ⟨w.heap.size,1,zp⟩=zq (z8 y):=by have:=h.bx;simp[World.cell?,this]
theorem BxT.start (w:zA) (x y:ByteArray):BxT w x y (w.alloc (zn #[z8 x,z8 y] 58)):=⟨(zM _ w).alloc (zN _) _,zG _ _⟩
end
theorem z6v (x y:ByteArray) (a b:Int) (S:(x.toList==[48])=zu) (ha:¬60<a) (R:¬40<b)
 (r:Hid (qK 104 #[z8 x] (zj zm 0)))
 (s:Hid (qK 104 #[z8 y] (zj zm 0)))
 (v:Hid (qK 175 #[z8 x] (zj zm a)))
 (z:Hid (qK 175 #[z8 y] (zj zm b)))
 (q:Hid ((y.toList==[49])=zt\/((y.toList==[49])=zu/\(y.toList==[48])=zu/\
   (qK 172 #[z8 y,z8 ⟨#[45]⟩] (zg zu))/\
   (qK 200 #[z8 y,z8 ⟨#[47]⟩] (zg zu))/\
   (∀p:zA,Wd p->Pw p->qJ 201 #[z8 y] p (ze #[z8 ⟨#[49]⟩,z8 y,zj zm 0])))))
 (w:zA) (d:Hid (Wd w)) (I:Hid (Pw w)):
 qJ 159 #[.agg #[z8 x,z8 y]] w (zj zm 0):=by
 obtain⟨A,o⟩:=zzX (w.alloc (zn #[z8 x,z8 y] 58));have i:=hid (show BxT w x y A by rw[o];exact BxT.start w x y);obtain⟨c,c1⟩:=i.cx;rw[o] at c c1;have t:=hid o.symm;clear o;go_enter Tryz.func159,Tryz.ntmps159;go_wp21;rw[t.out];clear c c1 t;refine zzM (r A (d.below i.bel)) λK B=>?_;have j:=hid (i.next B);clear B i r;obtain⟨c,c1⟩:=j.cx;go_wp21;clear c c1;refine zzM (s K (d.below j.bel)) λL C=>?_;have k:=hid (j.next C);clear C j s;obtain⟨c,c1⟩:=k.cx;go_wp21;clear c c1;refine zzM (v L (d.below k.bel)) λM D=>?_;have l:=hid (k.next D);clear D k v;obtain⟨c,c1⟩:=l.cx;go_wp21;clear c c1;refine zzM (z M (d.below l.bel)) λN E=>?_;have e:=hid (l.next E);clear E l z;obtain⟨c,c1⟩:=e.cx;rcases q.out with J|⟨J,Q,h,g,n⟩
 ·clear q
  go_wp21;go_ret;exact⟨rfl,e.bel⟩
 ·have h:=hid h;have g:=hid g;have n:=hid n
  clear q;go_wp21;clear c c1;refine zzM (h N (d.below e.bel)) λO F=>?_;have m:=hid (e.next F);clear F e h;obtain⟨c,c1⟩:=m.cx;go_wp21;clear c c1;refine zzM (g O (d.below m.bel)) λP G=>?_;have f:=hid (m.next G);clear G m g;obtain⟨c,c1⟩:=f.cx;go_wp21;clear c c1;refine zzM (n P (d.below f.bel) (I.below f.bel)) λT H=>?_;have u:=hid (f.next H);clear H f n;obtain⟨c,c1⟩:=u.cx;go_wp21;go_ret;exact⟨rfl,u.bel⟩
theorem zxf (a b:Nat) (ha:a<1000000000000000000) (n:b<1000000000000000000) (w:zA):
 zC zF 45 #[I a,I b] w λe w'=>∃g,e=zo (I (Nat.gcd a b))/\w'=w.drewN g:=by
 obtain⟨m,j⟩:=zzX (Nat.gcd a b);rw[<-j];have r:=hid j;clear j;go_enter Tryz.func45,Tryz.ntmps45;go_wp2;go_loopw [0,1] (λv l wr=>∃d c:Nat,v=I d/\l=I c/\Hid (Nat.gcd d c=m)/\d<1000000000000000000/\c<1000000000000000000/\∃g,wr=w.drewN g)
  (λ_ l _=>(zL l).toNat)
 case atStart=>exact⟨a,b,rfl,rfl,r.symm,ha,n,0,rfl⟩
 case round=>
  clear ha n;obtain⟨d,c,rfl,rfl,o,B,u,g,rfl⟩:=hrel;by_cases h0:c=0
  ·subst h0
   have p:d=m:=by have:=o.out;rw[Nat.gcd_zero_right] at this;exact this
   have t:=hid p;clear p;go_wp2;go_ret;exact⟨g,by rw[t.out];rfl,rfl⟩
  ·have y:((c:Int) !=0)=zt:=by simp;omega
   obtain⟨h,f⟩:=zzX (d%c);have z:h<c:=by rw[f];exact Nat.mod_lt _ (by omega)
   have k:=zh1 d c;rw[<-f] at k;have A:zm.wrap ((d:Int).tmod c)=(h:Int):=by
    rw[Int.tmod_eq_emod_of_nonneg (by omega),<-Int.natCast_emod,<-f];exact zI _ (by omega)
   have q:((d:Int).tmod c)=(h:Int):=by rw[Int.tmod_eq_emod_of_nonneg (by omega),<-Int.natCast_emod,<-f]
   have s:=hid k;have i:=hid q;clear k f q;go_wp2
   (refine wp_region_quiet_lit (by kernel_rfl) (by kernel_rfl) (WQ.out ?_);(repeat(first|(apply WQ.read (by rfl);(focus(rintro x ⟨c,rfl⟩;go_simp;try with_reducible rfl));try simp only[zzQ])|(apply WQ.skip (by rfl);try simp only[zzQ])));refine WQ.nil ?_;rintro _ ⟨C,rfl⟩)
   go_wp2;go_roundw
   case rel=>exact⟨c,h,rfl,by first|rfl|(rw[i.out])|(show zj zm _=zj zm _;congr 1;have:=i.out;rw[<-this,Int.tmod_eq_emod_of_nonneg (by omega)]),s.trans o.out,u,by omega,_,World.drewN_drewN _ _ _⟩
   case measure=>first|(show((d:Int).tmod c).toNat<(c:Int).toNat;rw[i.out];omega)|(simp[zL];omega)
theorem zds (l:List UInt8) (a:ByteArray) (d:a=⟨l.toArray⟩):a.size=l.length/\∀k (c:k<l.length) (b:k<a.size),a[k]'b=l[k]'c:=by
 subst d;exact⟨by show l.toArray.size=_;simp,λk c b=>rfl⟩
theorem zsa (l:List UInt8):zcb l↔l.length≠0/\¬(1<l.length/\l.head? =zq 48)/\∀k (a:k<l.length),48<=(l[k]'a).toNat/\(l[k]'a).toNat<=57:=by
 constructor
 ·rintro⟨h1,h2,h3⟩
  exact⟨λb=>h1 (List.length_eq_zero_iff.1 b),λ⟨c,d⟩=>by have:=h3 d;omega,λk a=>h2 _ (zY a)⟩
 ·rintro⟨h1,h2,h3⟩
  refine⟨λb=>h1 (by rw[b];rfl),λf e=>?_,λb=>?_⟩
  ·obtain⟨k,a,rfl⟩:=List.getElem_of_mem e
   exact h3 k a
  ·exact Nat.le_antisymm (Nat.le_of_not_lt λc=>h2 ⟨c,b⟩) (by omega)
theorem zsg (l:List UInt8) (L:l.length<=9223372036854775807) (w:zA):
 zC zF 44 #[St l] w λe w'=>∃b,e=zo (zg b)/\(b=zt↔zcb l)/\w'=w:=by
 rw[zsa];obtain⟨a,z⟩:=zzX (⟨l.toArray⟩:ByteArray);obtain⟨H,b2⟩:=zds l a z;show zC _ _ #[z8 ⟨l.toArray⟩] _ _;rw[<-z];have y:∀f:0<a.size,l.head? =zq 48↔(a[0]'f).toNat=48:=λf=>by
  have k:0<l.length:=by omega
  rw[b2 0 k f,List.head?_eq_getElem?,yB k];constructor
  ·intro d;injection d with d;rw[d];rfl
  ·intro d;congr 1;exact UInt8.toNat_inj.1 (by rw[d];rfl)
 obtain⟨j,n⟩:∃j:Prop,j=(l.length≠0/\¬(1<l.length/\l.head? =zq 48)/\∀c (o:c<l.length),48<=(l[c]'o).toNat/\(l[c]'o).toNat<=57):=⟨_,rfl⟩;rw[<-n];have B:a.size=0->¬j:=λd=>by rw[n];exact λc=>c.1 (by omega)
 have C:∀f:0<a.size,1<a.size->(a[0]'f).toNat=48->¬j:=λf d x=>by rw[n];exact λc=>c.2.1 ⟨by omega,(y f).2 x⟩
 have D:∀c (f:c<a.size),((a[c]'f).toNat<48\/57<(a[c]'f).toNat)->¬j:=λc f d=>by
  rw[n];intro M;have:=M.2.2 c (by omega);rw[b2 c (by omega) f] at d;omega
 have E:∀f:0<a.size,¬(1<a.size/\(a[0]'f).toNat=48)->(∀c (f:c<a.size),48<=(a[c]'f).toNat/\(a[c]'f).toNat<=57)->j:=λf d x=>by
  rw[n];exact⟨by omega,λ⟨P,N⟩=>d ⟨by omega,(y f).1 N⟩,λc o=>by have:=x c (by omega);rwa [b2 c o (by omega)] at this⟩
 have O:a.size<=9223372036854775807:=by omega
 have F:=hid B;have G:=hid C;have u:=hid D;have A:=hid E;clear B C D E y n H b2 z L;go_enter Tryz.func44,Tryz.ntmps44;by_cases k:a.size=0
 ·have I:((a.size:Int)==0)=zt:=by simpa using k
  go_wp2;go_ret;exact⟨zu,rfl,⟨λd=>by simp at d,λd=>absurd d (F k)⟩,rfl⟩
 ·have I:((a.size:Int)==0)=zu:=by simpa using k
  have m:0<a.size:=by omega
  by_cases h1:1<a.size
  ·have J:(1:Int)<a.size:=by omega
   by_cases h2:(a[0]'m).toNat=48
   ·have K:(((a[0]'m).toNat:Int)==48)=zt:=by rw[h2];rfl
    have h:=hid (G m h1 h2);clear h2;go_wp2;go_ret;exact⟨zu,rfl,⟨λd=>by simp at d,λd=>absurd d h.out⟩,rfl⟩
   ·have K:(((a[0]'m).toNat:Int)==48)=zu:=by rw[beq_eq_false_iff_ne];omega
    have h:=hid h2;clear h2;go_wp2;go_loop [3] (λi=>∃c:Nat,c<=a.size/\i=zj zm c/\Hid (∀g (f:g<a.size),g<c->48<=(a[g]'f).toNat/\(a[g]'f).toNat<=57)) (λi=>a.size-(zL i).toNat)
    case atStart=>exact⟨0,zR _,rfl,λg _ d=>by omega⟩
    case round=>
     obtain⟨c,o,rfl,r⟩:=hrel;by_cases hlt:c<a.size
     ·by_cases d1:(a[c]'hlt).toNat<48
      ·have q:(((a[c]'hlt).toNat:Int))<48:=by omega
       have h:=hid (u c hlt (.inl d1));clear d1;go_wp2;go_ret
       first|exact .inl ⟨rfl,h.out,rfl⟩|exact⟨zu,rfl,⟨λd=>by simp at d,λd=>absurd d h.out⟩,rfl⟩
      ·by_cases d2:57<(a[c]'hlt).toNat
       ·have q:(48:Int)<=(a[c]'hlt).toNat:=by omega
        have v:(57:Int)<(a[c]'hlt).toNat:=by omega
        have h:=hid (u c hlt (.inr d2));clear d1 d2;go_wp2;go_ret
        first|exact .inl ⟨rfl,h.out,rfl⟩|exact⟨zu,rfl,⟨λd=>by simp at d,λd=>absurd d h.out⟩,rfl⟩
       ·have q:(48:Int)<=(a[c]'hlt).toNat:=by omega
        have v:((a[c]'hlt).toNat:Int)<=57:=by omega
        have s:∀g (f:g<a.size),g<c+1->48<=(a[g]'f).toNat/\(a[g]'f).toNat<=57:=λg f d=>by
         by_cases e:g=c
         ·subst e;omega
         ·exact r g f (by omega)
        have h:=hid s;clear s d1 d2;go_wp2;go_round
        case rel=>exact⟨c+1,by omega,by go_num,h⟩
        case measure=>simp[zL];omega
     ·have t:=A m (λd=>h d.2) (λg f=>r g f (by omega))
      have p:=hid t;clear t;go_wp2;go_ret
      first|exact .inr ⟨rfl,p.out,rfl⟩|exact⟨zt,rfl,⟨λ_=>p.out,λ_=>rfl⟩,rfl⟩
  ·have J:¬(1:Int)<a.size:=by omega
   go_wp2;go_loop [3] (λi=>∃c:Nat,c<=a.size/\i=zj zm c/\Hid (∀g (f:g<a.size),g<c->48<=(a[g]'f).toNat/\(a[g]'f).toNat<=57)) (λi=>a.size-(zL i).toNat)
   case atStart=>exact⟨0,zR _,rfl,λg _ d=>by omega⟩
   case round=>
    obtain⟨c,o,rfl,r⟩:=hrel;by_cases hlt:c<a.size
    ·by_cases d1:(a[c]'hlt).toNat<48
     ·have q:(((a[c]'hlt).toNat:Int))<48:=by omega
      have h:=hid (u c hlt (.inl d1));clear d1;go_wp2;go_ret
      first|exact .inl ⟨rfl,h.out,rfl⟩|exact⟨zu,rfl,⟨λd=>by simp at d,λd=>absurd d h.out⟩,rfl⟩
     ·by_cases d2:57<(a[c]'hlt).toNat
      ·have q:(48:Int)<=(a[c]'hlt).toNat:=by omega
       have v:(57:Int)<(a[c]'hlt).toNat:=by omega
       have h:=hid (u c hlt (.inr d2));clear d1 d2;go_wp2;go_ret
       first|exact .inl ⟨rfl,h.out,rfl⟩|exact⟨zu,rfl,⟨λd=>by simp at d,λd=>absurd d h.out⟩,rfl⟩
      ·have q:(48:Int)<=(a[c]'hlt).toNat:=by omega
       have v:((a[c]'hlt).toNat:Int)<=57:=by omega
       have s:∀g (f:g<a.size),g<c+1->48<=(a[g]'f).toNat/\(a[g]'f).toNat<=57:=λg f d=>by
        by_cases e:g=c
        ·subst e;omega
        ·exact r g f (by omega)
       have h:=hid s;clear s d1 d2;go_wp2;go_round
       case rel=>exact⟨c+1,by omega,by go_num,h⟩
       case measure=>simp[zL];omega
    ·have t:=A m (λd=>h1 d.1) (λg f=>r g f (by omega))
     have p:=hid t;clear t;go_wp2;go_ret
     first|exact .inr ⟨rfl,p.out,rfl⟩|exact⟨zt,rfl,⟨λ_=>p.out,λ_=>rfl⟩,rfl⟩
theorem zlj (l:List UInt8) (i:∀c∈l,48<=c.toNat/\c.toNat<=57) (E:l.length<=9) (w:zA):
 zC zF 26 #[St l] w λe w'=>e=zo (I (val l))/\w'=w:=by
 obtain⟨b,j⟩:=zzX (⟨l.toArray⟩:ByteArray);obtain⟨m,b2⟩:=zds l b j;have u:=λa f=>ziu (l:=l) i (k:=a) f;have r:∀a (d:a<b.size),48<=(b[a]'d).toNat/\(b[a]'d).toNat<=57/\val (l.take (a+1))=10*val (l.take a)+((b[a]'d).toNat-48):=λa d=>by
  have f:a<l.length:=by omega
  rw[b2 a f d,List.take_succ_eq_append_getElem f,zde];exact⟨(i _ (zY f)).1,(i _ (zY f)).2,rfl⟩
 have o:val (l.take b.size)=val l:=by rw[m,List.take_length]
 show zC _ _ #[z8 ⟨l.toArray⟩] _ _;rw[<-j];have H:b.size<=9:=by omega
 generalize h:(λa=>val (l.take a))=g at*
 have v:∀a,a<=9->g a<1000000000:=by rw[<-h];exact u
 have s:∀a (d:a<b.size),48<=(b[a]'d).toNat/\(b[a]'d).toNat<=57/\g (a+1)=10*g a+((b[a]'d).toNat-48):=by rw[<-h];exact r
 have p:g b.size=val l:=by rw[<-h];exact o
 have t:g 0=0:=by rw[<-h];rfl
 generalize val l=L at*
 have C:=hid v;have A:=hid s;have y:=hid p;have B:=hid t;clear v s p t u r o h m b2 j i E;go_enter Tryz.func26,Tryz.ntmps26;go_wp2;go_loop [3,4] (λD k=>∃a:Nat,a<=b.size/\k=zj zm a/\D=zj zm (g a:Nat)) (λ_ k=>b.size-(zL k).toNat)
 case atStart=>exact⟨0,zR _,rfl,by rw[B.out];rfl⟩
 case round=>
  obtain⟨a,f,rfl,rfl⟩:=hrel;by_cases hlt:a<b.size
  ·obtain⟨c1,c2,n⟩:=A a hlt
   have J:=C a (by omega);generalize g a=K at*
   have x:=hid n;clear n;have F:(48:Int)<=(b[a].toNat:Int):=by omega
   have G:(b[a].toNat:Int)<=57:=by omega
   go_wp2;go_round
   case rel=>exact⟨a+1,by omega,by go_num,by rw[x.out];show zj zm _=zj zm _;congr 1;omega⟩
   case measure=>simp[zL];omega
  ·have q:a=b.size:=by omega
   have z:=hid q;clear q;go_wp2;go_ret;exact⟨by rw[z.out,y.out];rfl,rfl⟩
theorem zi1 (l:List UInt8) (k:Nat):((⟨l.toArray⟩:ByteArray).extract 0 k)=⟨(l.take k).toArray⟩:=by
 apply ByteArray.ext;rw[ByteArray.data_extract];simp
theorem zel (l:List UInt8) (k:Nat):((⟨l.toArray⟩:ByteArray).extract k (⟨l.toArray⟩:ByteArray).size)=⟨(l.drop k).toArray⟩:=by
 have:(⟨l.toArray⟩:ByteArray).size=l.length:=by show l.toArray.size=_;simp
 rw[this];apply ByteArray.ext;rw[ByteArray.data_extract];simp[List.take_of_length_le]
theorem zjy (b:List UInt8) (k:Nat) (g:k<b.length) (e:∀j (c:j<b.length),j<k->b[j]'c≠47) (f:b[k]'g=47):
 b.takeWhile (· !=47)=b.take k/\(b.dropWhile (· !=47)).tail=b.drop (k+1)/\(47:UInt8)∈b:=by
 have a:b=b.take k++47::b.drop (k+1):=by
  rw[<-f,List.getElem_cons_drop,List.take_append_drop]
 have h:(47:UInt8)∉b.take k:=by
  intro d;obtain⟨j,c,a⟩:=List.getElem_of_mem d;rw[List.getElem_take] at a;simp at c;exact e j (by omega) (by omega) a
 obtain⟨i,l⟩:=zs9 (b:=b.drop (k+1)) h;refine⟨?_,?_,by rw[a];simp⟩
 ·conv=>lhs;rw[a]
  exact i
 ·conv=>lhs;rw[a]
  rw[l];rfl
theorem zpm (b:List UInt8) (g:∀j (a:j<b.length),b[j]'a≠47):b.takeWhile (· !=47)=b/\(b.dropWhile (· !=47)).tail=[]/\(47:UInt8)∉b:=by
 have c:(47:UInt8)∉b:=λf=>by
  obtain⟨j,a,e⟩:=List.getElem_of_mem f;exact g j a e
 refine⟨zgl c,?_,c⟩;have:b.dropWhile (· !=47)=[]:=by
  have d:=List.takeWhile_append_dropWhile (p:=(· !=(47:UInt8))) (l:=b);rw[zgl c] at d;exact List.append_right_eq_self.1 d
 rw[this];rfl
def zc6 (m:Bool) (b:List UInt8):Value:=ze #[zg m,St (b.takeWhile (· !=47)),St ((b.dropWhile (· !=47)).tail),zg (decide ((47:UInt8)∈b))]
theorem zpq (b:List UInt8) (A:b.head? ≠zq 45) (K:b.length<=9223372036854775807) (w:zA):
 qJ 25 #[St b] w (zc6 zu b):=by
 obtain⟨a,j⟩:=zzX (⟨b.toArray⟩:ByteArray);obtain⟨F,b2⟩:=zds b a j;have C:∀c (m:c<a.size),(a[c]'m).toNat=47->(∀d (f:d<a.size),d<c->(a[d]'f).toNat≠47)->zc6 zu b=ze #[zg zu,z8 (a.extract 0 c),z8 (a.extract (c+1) a.size),zg zt]:=λc m l q=>by
  have z:c<b.length:=by omega
  obtain⟨i,n,o⟩:=zjy b c z (λd t J s=>q d (by omega) J (by rw[b2 d t (by omega),s];rfl)) (UInt8.toNat_inj.1 (by rw[<-b2 c z m,l];rfl));unfold zc6;rw[i,n,decide_eq_true o,j,zi1,zel]
 have D:(∀d (f:d<a.size),(a[d]'f).toNat≠47)->zc6 zu b=ze #[zg zu,z8 a,z8 ⟨#[]⟩,zg zu]:=λq=>by
  obtain⟨i,n,o⟩:=zpm b (λd t s=>q d (by omega) (by rw[b2 d t (by omega),s];rfl));unfold zc6;rw[i,n,decide_eq_false o,j]
 have E:=hid C;have x:=hid D;clear C D;have k:a.size=0\/0<a.size/\∀f:0<a.size,(((a[0]'f).toNat:Int)==45)=zu:=by
  by_cases p:a.size=0
  ·exact .inl p
  ·refine .inr ⟨by omega,λf=>?_⟩
   rw[beq_eq_false_iff_ne];intro G;have y:0<b.length:=by omega
   refine A ?_;rw[List.head?_eq_getElem?,yB y];congr 1;rw[b2 0 y f] at G;exact UInt8.toNat_inj.1 (by have:(45:UInt8).toNat=45:=rfl;omega)
 have P:a.size<=9223372036854775807:=by omega
 show zC _ _ #[z8 ⟨b.toArray⟩] _ _;rw[<-j];clear F b2 j K A;generalize zc6 zu b=v at*
 go_enter Tryz.func25,Tryz.ntmps25;rcases k with k|⟨k,l⟩
 ·have H:¬(0:Int)<a.size:=by omega
  have g:=x.out λd f=>by omega
  have h:=hid g;clear g;go_wp2;refine wp_loop_rounds 1 ?_;rw[rounds_succ];go_wp2;refine bodyPost_ret (v:=ze #[zg zu,z8 a,z8 ⟨#[]⟩,zg zu]) (by simp[results,Tryz.results25,go_sem]) rfl ⟨by rw[h.out],zM _ _⟩
 ·have I:=l k
  have H:(0:Int)<a.size:=by omega
  clear l;go_wp2;go_loop [8] (λu=>∃c:Nat,c<=a.size/\u=zj zm c/\Hid (∀d (f:d<a.size),d<c->(a[d]'f).toNat≠47)) (λu=>a.size-(zL u).toNat)
  case atStart=>exact⟨0,zR _,rfl,λd _ p=>by omega⟩
  case round=>
   clear I;obtain⟨c,m,rfl,r⟩:=hrel;by_cases hlt:c<a.size
   ·by_cases d1:(a[c]'hlt).toNat=47
    ·have i:(((a[c]'hlt).toNat:Int)==47)=zt:=by rw[d1];rfl
     have g:=E c hlt d1 r.out;have h:=hid g;clear d1 g;have N:(c:Int)<=a.size:=by omega
     have O:(c:Int)+1<=a.size:=by omega
     have M:(0:Int)<=(c:Int)+1:=by omega
     have Q:zm.wrap ((c:Int)+1)=(c:Int)+1:=zI _ ⟨by omega,by omega⟩;go_wp2
     (refine wp_region_quiet_lit (by kernel_rfl) (by kernel_rfl) (WQ.out ?_);(repeat(first|(apply WQ.read (by rfl);(focus(rintro L ⟨R,rfl⟩;go_simp;try with_reducible rfl));try simp only[zzQ])|(apply WQ.skip (by rfl);try simp only[zzQ])));refine WQ.nil ?_;rintro _ ⟨S,rfl⟩)
     go_wp2;refine bodyPost_ret (v:=ze #[zg zu,z8 (a.extract 0 c),z8 (a.extract (c+1) a.size),zg zt]) (by simp[results,Tryz.results25,go_sem]) rfl ⟨by rw[h.out],zao (zM _ _) _⟩
    ·have i:(((a[c]'hlt).toNat:Int)==47)=zu:=by rw[beq_eq_false_iff_ne];omega
     have B:∀d (f:d<a.size),d<c+1->(a[d]'f).toNat≠47:=λd f p=>by
      by_cases e:d=c
      ·subst e;exact d1
      ·exact r d f (by omega)
     have h:=hid B;clear B d1;go_wp2;go_round
     case rel=>exact⟨c+1,by omega,by go_num,h⟩
     case measure=>simp[zL];omega
   ·have g:=x.out λd f=>r d f (by omega)
    have h:=hid g;clear g;go_wp2;refine bodyPost_ret (v:=ze #[zg zu,z8 a,z8 ⟨#[]⟩,zg zu]) (by simp[results,Tryz.results25,go_sem]) rfl ⟨by rw[h.out],zM _ _⟩
theorem zqd (b:List UInt8) (J:b.length<=9223372036854775806) (w:zA):
 qJ 25 #[St (45::b)] w (zc6 zt b):=by
 obtain⟨c,j⟩:=zzX (⟨b.toArray⟩:ByteArray);obtain⟨E,b2⟩:=zds b c j;have x:∀a (k:a<c.size),(c[a]'k).toNat=47->(∀d (f:d<c.size),d<a->(c[d]'f).toNat≠47)->zc6 zt b=ze #[zg zt,z8 (c.extract 0 a),z8 (c.extract (a+1) c.size),zg zt]:=λa k G n=>by
  have u:a<b.length:=by omega
  obtain⟨h,l,m⟩:=zjy b a u (λd q I p=>n d (by omega) I (by rw[b2 d q (by omega),p];rfl)) (UInt8.toNat_inj.1 (by rw[<-b2 a u k,G];rfl));unfold zc6;rw[h,l,decide_eq_true m,j,zi1,zel]
 have y:(∀d (f:d<c.size),(c[d]'f).toNat≠47)->zc6 zt b=ze #[zg zt,z8 c,z8 ⟨#[]⟩,zg zu]:=λn=>by
  obtain⟨h,l,m⟩:=zpm b (λd q p=>n d (by omega) (by rw[b2 d q (by omega),p];rfl));unfold zc6;rw[h,l,decide_eq_false m,j]
 have C:=hid x;have D:=hid y;clear x y;obtain⟨t,r⟩:=zzX (⟨((45:UInt8)::b).toArray⟩:ByteArray);obtain⟨M,N,O,z,A⟩:=zgu b t r;have H:=z N;have L:(1:Int)<=t.size:=by omega
 have K:(0:Int)<t.size:=by omega
 rw[<-j] at A;have T:c.size<=9223372036854775807:=by omega
 show zC _ _ #[z8 ⟨((45:UInt8)::b).toArray⟩] _ _;rw[<-r];clear E b2 j J M O z r;generalize zc6 zt b=B at*
 go_enter Tryz.func25,Tryz.ntmps25;go_wp2;go_loop [8] (λs=>∃a:Nat,a<=c.size/\s=zj zm a/\Hid (∀d (f:d<c.size),d<a->(c[d]'f).toNat≠47)) (λs=>c.size-(zL s).toNat)
 case atStart=>exact⟨0,zR _,rfl,λd _ F=>by omega⟩
 case round=>
  clear H L K A;obtain⟨a,k,rfl,o⟩:=hrel;by_cases hlt:a<c.size
  ·by_cases d1:(c[a]'hlt).toNat=47
   ·have h:(((c[a]'hlt).toNat:Int)==47)=zt:=by rw[d1];rfl
    have i:=C a hlt d1 o.out;have g:=hid i;clear d1 i;have R:(a:Int)<=c.size:=by omega
    have S:(a:Int)+1<=c.size:=by omega
    have Q:(0:Int)<=(a:Int)+1:=by omega
    have U:zm.wrap ((a:Int)+1)=(a:Int)+1:=zI _ ⟨by omega,by omega⟩;go_wp2
    (refine wp_region_quiet_lit (by kernel_rfl) (by kernel_rfl) (WQ.out ?_);(repeat(first|(apply WQ.read (by rfl);(focus(rintro P ⟨V,rfl⟩;go_simp;try with_reducible rfl));try simp only[zzQ])|(apply WQ.skip (by rfl);try simp only[zzQ])));refine WQ.nil ?_;rintro _ ⟨W,rfl⟩)
    go_wp2;refine bodyPost_ret (v:=ze #[zg zt,z8 (c.extract 0 a),z8 (c.extract (a+1) c.size),zg zt]) (by simp[results,Tryz.results25,go_sem]) rfl ⟨by rw[g.out],zao (zM _ _) _⟩
   ·have h:(((c[a]'hlt).toNat:Int)==47)=zu:=by rw[beq_eq_false_iff_ne];omega
    have v:∀d (f:d<c.size),d<a+1->(c[d]'f).toNat≠47:=λd f F=>by
     by_cases e:d=a
     ·subst e;exact d1
     ·exact o d f (by omega)
    have g:=hid v;clear v d1;go_wp2;go_round
    case rel=>exact⟨a+1,by omega,by go_num,g⟩
    case measure=>simp[zL];omega
  ·have i:=D.out λd f=>o d f (by omega)
   have g:=hid i;clear i;go_wp2;refine bodyPost_ret (v:=ze #[zg zt,z8 c,z8 ⟨#[]⟩,zg zu]) (by simp[results,Tryz.results25,go_sem]) rfl ⟨by rw[g.out],zM _ _⟩
theorem zlq (l:List UInt8) (c:l.length<=9223372036854775807) (w:zA):
 qJ 25 #[St l] w (ze #[zg (decide (l.head? =zq 45)),St (upS l),St (dnS l),zg (decide ((47:UInt8)∈bare l))]):=by
 rcases zgm l with⟨b,a⟩|⟨b,a⟩
 ·rw[decide_eq_true b]
  have:=zqd (bare l) (by have:=congrArg List.length a;simp at this;omega) w;rw[<-a] at this;exact this
 ·rw[decide_eq_false b]
  have:=zpq (bare l) (by rw[<-a];exact b) (by rw[<-a];exact c) w;rw[<-a] at this;unfold upS dnS;rw[<-a];exact this
theorem zsj (n:Nat) (r:(zD n).length<=300) (w:zA):
 zC zF 50 #[St (zD n)] w λe w'=>e=zo (zj zm 0)/\w'=w:=by
 obtain⟨a,f⟩:=zzX (⟨(zD n++[]).toArray⟩:ByteArray);obtain⟨g,b2, -⟩:=zii (zd7 n) a f;have i:(zD n).length<=1\/∀c:0<a.size,(a[0]'c).toNat≠48:=zjz n [] a f;have m:∀b (c:b<a.size),48<=(a[b]'c).toNat/\(a[b]'c).toNat<=57:=λb c=>⟨(b2 b (by simp at g;omega) c).1,(b2 b (by simp at g;omega) c).2.1⟩;have s:1<=(zD n).length:=by have:=zbn (n:Int);unfold digs at this;simpa using this
 rw[List.append_nil] at f;have o:(zD n).length=a.size:=by rw[g];simp
 show zC _ _ #[z8 ⟨(zD n).toArray⟩] _ _;rw[o] at r i s;rw[<-f];have k:=hid m;clear g b2 m f o;have d:0<a.size:=by omega
 have x:(0:Int)<a.size:=by omega
 have D:((0:Int)==a.size)=zu:=by rw[beq_eq_false_iff_ne];omega
 have z:(((a[0]'d).toNat:Int)==45)=zu:=by rw[beq_eq_false_iff_ne];have:=(k 0 d).1;omega
 have q:(((a[0]'d).toNat:Int)==48)=zt/\¬(1:Int)<a.size\/(((a[0]'d).toNat:Int)==48)=zu:=by
  by_cases h:(a[0]'d).toNat=48
  ·left
   refine⟨by rw[h];rfl,?_⟩;rcases i with l|l
   ·omega
   ·exact absurd h (l d)
  ·right;rw[beq_eq_false_iff_ne];omega
 have B:zm.wrap ((a.size:Int)-0)=(a.size:Int):=by rw[Int.sub_zero];exact zI _ ⟨by omega,by omega⟩
 have C:zm.wrap (a.size:Int)=(a.size:Int):=zI _ ⟨by omega,by omega⟩;have y:¬(300:Int)<a.size:=by omega
 clear i;go_enter Tryz.func50,Tryz.ntmps50;rcases q with⟨p,v⟩|p
 all_goals (
 go_wp2;go_loop [4] (λj=>∃b:Nat,b<=a.size/\j=zj zm b) (λj=>a.size-(zL j).toNat)
 case atStart=>exact⟨0,zR _,rfl⟩
 case round=>
  obtain⟨b,A,rfl⟩:=hrel;by_cases hlt:b<a.size
  ·obtain⟨c1,c2⟩:=k b hlt
   have t:(48:Int)<=(a[b].toNat:Int):=by omega
   have u:(a[b].toNat:Int)<=57:=by omega
   go_wp2;go_round
   case rel=>exact⟨b+1,by omega,by go_num⟩
   case measure=>simp[zL];omega
  ·go_wp2
   go_ret
   first|exact⟨rfl,rfl⟩|exact rfl|trivial)
theorem zhb {l:List UInt8} (h:∀c∈l,48<=c.toNat/\c.toNat<=57) {k:Nat} (e:k<=17):val (l.take k)<100000000000000000:=by
 have a:=zjc (l.take k) (λc d=>h c (List.mem_of_mem_take d));have b:(10:Nat)^(l.take k).length<=10^17:=yF (by omega) (by simp;omega);exact Nat.lt_of_lt_of_le a b
theorem zsk (n:Nat) (t:(zD n).length<=17) (w:zA):
 zC zF 51 #[St (zD n)] w λe w'=>e=zo (ze #[I n,zg zt])/\w'=w:=by
 obtain⟨c,u⟩:=zzX (zD n);have h:=zan n;have l:=zb2 n;have v:1<=(zD n).length:=by have:=zbn (n:Int);unfold digs at this;simpa using this
 rw[<-u] at h l t v⊢;obtain⟨b,j⟩:=zzX (⟨c.toArray⟩:ByteArray);obtain⟨o,b2⟩:=zds c b j;have A:=λa f=>zhb (l:=c) h (k:=a) f;have y:∀a (d:a<b.size),48<=(b[a]'d).toNat/\(b[a]'d).toNat<=57/\val (c.take (a+1))=10*val (c.take a)+((b[a]'d).toNat-48):=λa d=>by
  have f:a<c.length:=by omega
  rw[b2 a f d,List.take_succ_eq_append_getElem f,zde];exact⟨(h _ (zY f)).1,(h _ (zY f)).2,rfl⟩
 have q:val (c.take b.size)=n:=by rw[o,List.take_length];exact l
 show zC _ _ #[z8 ⟨c.toArray⟩] _ _;rw[<-j];have O:b.size<=17:=by omega
 have x:0<b.size:=by omega
 generalize i:(λa=>val (c.take a))=g at*
 have B:∀a,a<=17->g a<100000000000000000:=by rw[<-i];exact A
 have k:∀a (d:a<b.size),48<=(b[a]'d).toNat/\(b[a]'d).toNat<=57/\g (a+1)=10*g a+((b[a]'d).toNat-48):=by rw[<-i];exact y
 have r:g b.size=n:=by rw[<-i];exact q
 have z:g 0=0:=by rw[<-i];rfl
 have H:=hid B;have F:=hid k;have D:=hid r;have G:=hid z;have N:(((b[0]'x).toNat:Int)==45)=zu:=by rw[beq_eq_false_iff_ne];have:=(k 0 x).1;omega
 clear B k r z A y q i o b2 j h t u l v;go_enter Tryz.func51,Tryz.ntmps51;go_wp2;go_loop [4,5] (λJ m=>∃a:Nat,a<=b.size/\m=zj zm a/\J=zj zm (g a:Nat)) (λ_ m=>b.size-(zL m).toNat)
 case atStart=>exact⟨0,zR _,rfl,by rw[G.out];rfl⟩
 case round=>
  obtain⟨a,f,rfl,rfl⟩:=hrel;by_cases hlt:a<b.size
  ·obtain⟨c1,c2,p⟩:=F a hlt
   have P:=H a (by omega);generalize g a=Q at*
   have C:=hid p;clear p;have K:(48:Int)<=(b[a].toNat:Int):=by omega
   have L:(b[a].toNat:Int)<=57:=by omega
   have M:((b[a].toNat:Int) !=45)=zt:=by simp;omega
   go_wp2;go_round
   case rel=>exact⟨a+1,by omega,by go_num,by rw[C.out];show zj zm _=zj zm _;congr 1;omega⟩
   case measure=>simp[zL];omega
  ·have s:a=b.size:=by omega
   have E:=hid s;clear s;go_wp2;go_ret2;exact⟨by rw[E.out,D.out];rfl,rfl⟩
theorem zuh (l:List UInt8):okS l↔zcb (upS l)/\¬(l.head? =zq 45/\upS l=[48])/\((47:UInt8)∉bare l\/(zcb (dnS l)/\dnS l≠[48]/\dnS l≠[49]/\Nat.gcd (val (upS l)) (val (dnS l))=1)):=by
 unfold okS hasS;constructor
 ·rintro⟨h1,h2,a⟩
  refine⟨h1,h2,?_⟩;by_cases b:(47:UInt8)∈bare l
  ·exact .inr (a b)
  ·exact .inl b
 ·rintro⟨h1,h2,a⟩
  refine⟨h1,h2,λb=>?_⟩;rcases a with a|a
  ·exact absurd b a
  ·exact a
theorem zeb (l:List UInt8) (a:ByteArray) (b:a=⟨l.toArray⟩) (k:List UInt8):(a.toList==k)=decide (l=k):=by
 rw[b,ByteArray.toList_eq];by_cases h:l=k
 ·subst h;simp
 ·rw[decide_eq_false h];simpa using h
theorem zsl (x u v:ByteArray) (m K q b2 z1 z2 z3:Bool) (g:Nat) (Q:Prop) (T:u.size<=300) (U:v.size<=300)
 (f:Hid (Q↔q=zt/\¬(m=zt/\z3=zt)/\(K=zu\/(b2=zt/\z1=zu/\z2=zu/\g=1))))
 (P:(v.toList==[48])=z1) (R:(v.toList==[49])=z2) (S:(u.toList==[48])=z3)
 (O:Hid (∀i:zA,qJ 25 #[z8 x] i (ze #[zg m,z8 u,z8 v,zg K])))
 (M:Hid (∀i:zA,zC zF 44 #[z8 u] i λe w'=>e=zo (zg q)/\w'=i))
 (N:Hid (∀i:zA,zC zF 44 #[z8 v] i λe w'=>e=zo (zg b2)/\w'=i))
 (L:Hid (q=zt->b2=zt->u.size<=9->v.size<=9->∃n d:Nat,(∀i:zA,zC zF 26 #[z8 u] i λe w'=>e=zo (I n)/\w'=i)/\(∀i:zA,zC zF 26 #[z8 v] i λe w'=>e=zo (I d)/\w'=i)/\
   ∀i:zA,qJ 45 #[I n,I d] i (I g)))
 (C:Hid (q=zt->b2=zt->∃t:ByteArray,(t.toList==[49])=decide (g=1)/\qK 46 #[z8 u,z8 v] (ze #[z8 t,zj zm 0])))
 (w:zA) (D:Hid (Wd w)):
 zC zF 24 #[z8 x] w λe w'=>∃r:Int,e=zo (zj zm r)/\(r=0↔Q)/\zB w.heap.size w w':=by
 have V:¬(300:Int)<u.size:=by omega
 have W:¬(300:Int)<v.size:=by omega
 go_enter Tryz.func24,Tryz.ntmps24;go_wp21;refine zzM (O w) λB b=>?_;go_wp21;refine zzM (M B) λp hw=>?_;have k:=hw.symm;subst k;clear hw;cases q
 ·have c:=hid (by rw[f.out];simp:¬Q)
  go_wp21
  all_goals first|exact(zzU ‹_›).elim|skip
  go_ret;exact⟨11,rfl,⟨λa=>by simp at a,λa=>absurd a c.out⟩,b⟩
 ·cases K
  ·cases m
   ·have c:=hid (by rw[f.out];simp:Q)
    go_wp21
    all_goals first|exact(zzU ‹_›).elim|skip
    go_ret;exact⟨0,rfl,⟨λ_=>c.out,λ_=>rfl⟩,b⟩
   ·cases z3
    ·have c:=hid (by rw[f.out];simp:Q)
     go_wp21
     all_goals first|exact(zzU ‹_›).elim|skip
     go_ret;exact⟨0,rfl,⟨λ_=>c.out,λ_=>rfl⟩,b⟩
    ·have c:=hid (by rw[f.out];simp:¬Q)
     go_wp21
     all_goals first|exact(zzU ‹_›).elim|skip
     go_ret;exact⟨11,rfl,⟨λa=>by simp at a,λa=>absurd a c.out⟩,b⟩
  ·go_wp21
   all_goals first|exact(zzU ‹_›).elim|skip
   refine zzM (N _) λp hw=>?_;have k:=hw.symm;subst k;clear hw;cases b2
   ·have c:=hid (by rw[f.out];simp:¬Q)
    go_wp21
    all_goals first|exact(zzU ‹_›).elim|skip
    go_ret;exact⟨11,rfl,⟨λa=>by simp at a,λa=>absurd a c.out⟩,b⟩
   ·cases z1
    ·cases z2
     ·cases m
      ·by_cases h9:u.size<=9
       ·by_cases k9:v.size<=9
        ·have s:(u.size:Int)<=9:=by omega
         have J:(v.size:Int)<=9:=by omega
         obtain⟨n,d,y,z,A⟩:=L (by simp) (by simp) (by omega) (by omega);have E:=hid y;have F:=hid z;have G:=hid A;clear y z A;go_wp21
         all_goals first|exact(zzU ‹_›).elim|skip
         refine zzM (E _) λp hw=>?_;have k:=hw.symm;subst k;clear hw;go_wp21;refine zzM (F _) λp hw=>?_;have k:=hw.symm;subst k;clear hw;go_wp21;refine zzM (G _) λp h=>?_;have b:=b.trans (h.mono b.size);clear h;by_cases hg:g=1
         ·have c:=hid (by rw[f.out];simp[hg]:Q)
          have H:((g:Int) !=1)=zu:=by subst hg;rfl
          clear hg;go_wp21;go_ret;exact⟨0,rfl,⟨λ_=>c.out,λ_=>rfl⟩,b⟩
         ·have c:=hid (by rw[f.out];simp[hg]:¬Q)
          have H:((g:Int) !=1)=zt:=by simp;omega
          clear hg;go_wp21;go_ret;exact⟨11,rfl,⟨λa=>by simp at a,λa=>absurd a c.out⟩,b⟩
        ·have s:(u.size:Int)<=9:=by omega
         have J:¬(v.size:Int)<=9:=by omega
         obtain⟨t,l,o⟩:=C (by simp) (by simp);have j:=hid (o B (D.below b));clear o;go_wp21
         all_goals first|exact(zzU ‹_›).elim|skip
         refine zzM j.out λp h=>?_;have b:=b.trans (h.mono b.size);clear h j;by_cases hg:g=1
         ·have c:=hid (by rw[f.out];simp[hg]:Q)
          rw[decide_eq_true hg] at l;clear hg;go_wp21;go_ret;exact⟨0,rfl,⟨λ_=>c.out,λ_=>rfl⟩,b⟩
         ·have c:=hid (by rw[f.out];simp[hg]:¬Q)
          rw[decide_eq_false hg] at l;clear hg;go_wp21;go_ret;exact⟨11,rfl,⟨λa=>by simp at a,λa=>absurd a c.out⟩,b⟩
       ·have s:¬(u.size:Int)<=9:=by omega
        obtain⟨t,l,o⟩:=C (by simp) (by simp);have j:=hid (o B (D.below b));clear o;go_wp21
        all_goals first|exact(zzU ‹_›).elim|skip
        refine zzM j.out λp h=>?_;have b:=b.trans (h.mono b.size);clear h j;by_cases hg:g=1
        ·have c:=hid (by rw[f.out];simp[hg]:Q)
         rw[decide_eq_true hg] at l;clear hg;go_wp21;go_ret;exact⟨0,rfl,⟨λ_=>c.out,λ_=>rfl⟩,b⟩
        ·have c:=hid (by rw[f.out];simp[hg]:¬Q)
         rw[decide_eq_false hg] at l;clear hg;go_wp21;go_ret;exact⟨11,rfl,⟨λa=>by simp at a,λa=>absurd a c.out⟩,b⟩
      ·cases z3
       ·by_cases h9:u.size<=9
        ·by_cases k9:v.size<=9
         ·have s:(u.size:Int)<=9:=by omega
          have J:(v.size:Int)<=9:=by omega
          obtain⟨n,d,y,z,A⟩:=L (by simp) (by simp) (by omega) (by omega);have E:=hid y;have F:=hid z;have G:=hid A;clear y z A;go_wp21
          all_goals first|exact(zzU ‹_›).elim|skip
          refine zzM (E _) λp hw=>?_;have k:=hw.symm;subst k;clear hw;go_wp21;refine zzM (F _) λp hw=>?_;have k:=hw.symm;subst k;clear hw;go_wp21;refine zzM (G _) λp h=>?_;have b:=b.trans (h.mono b.size);clear h;by_cases hg:g=1
          ·have c:=hid (by rw[f.out];simp[hg]:Q)
           have H:((g:Int) !=1)=zu:=by subst hg;rfl
           clear hg;go_wp21;go_ret;exact⟨0,rfl,⟨λ_=>c.out,λ_=>rfl⟩,b⟩
          ·have c:=hid (by rw[f.out];simp[hg]:¬Q)
           have H:((g:Int) !=1)=zt:=by simp;omega
           clear hg;go_wp21;go_ret;exact⟨11,rfl,⟨λa=>by simp at a,λa=>absurd a c.out⟩,b⟩
         ·have s:(u.size:Int)<=9:=by omega
          have J:¬(v.size:Int)<=9:=by omega
          obtain⟨t,l,o⟩:=C (by simp) (by simp);have j:=hid (o B (D.below b));clear o;go_wp21
          all_goals first|exact(zzU ‹_›).elim|skip
          refine zzM j.out λp h=>?_;have b:=b.trans (h.mono b.size);clear h j;by_cases hg:g=1
          ·have c:=hid (by rw[f.out];simp[hg]:Q)
           rw[decide_eq_true hg] at l;clear hg;go_wp21;go_ret;exact⟨0,rfl,⟨λ_=>c.out,λ_=>rfl⟩,b⟩
          ·have c:=hid (by rw[f.out];simp[hg]:¬Q)
           rw[decide_eq_false hg] at l;clear hg;go_wp21;go_ret;exact⟨11,rfl,⟨λa=>by simp at a,λa=>absurd a c.out⟩,b⟩
        ·have s:¬(u.size:Int)<=9:=by omega
         obtain⟨t,l,o⟩:=C (by simp) (by simp);have j:=hid (o B (D.below b));clear o;go_wp21
         all_goals first|exact(zzU ‹_›).elim|skip
         refine zzM j.out λp h=>?_;have b:=b.trans (h.mono b.size);clear h j;by_cases hg:g=1
         ·have c:=hid (by rw[f.out];simp[hg]:Q)
          rw[decide_eq_true hg] at l;clear hg;go_wp21;go_ret;exact⟨0,rfl,⟨λ_=>c.out,λ_=>rfl⟩,b⟩
         ·have c:=hid (by rw[f.out];simp[hg]:¬Q)
          rw[decide_eq_false hg] at l;clear hg;go_wp21;go_ret;exact⟨11,rfl,⟨λa=>by simp at a,λa=>absurd a c.out⟩,b⟩
       ·have c:=hid (by rw[f.out];simp:¬Q)
        go_wp21
        all_goals first|exact(zzU ‹_›).elim|skip
        go_ret;exact⟨11,rfl,⟨λa=>by simp at a,λa=>absurd a c.out⟩,b⟩
     ·have c:=hid (by rw[f.out];simp:¬Q)
      go_wp21
      all_goals first|exact(zzU ‹_›).elim|skip
      go_ret;exact⟨11,rfl,⟨λa=>by simp at a,λa=>absurd a c.out⟩,b⟩
    ·have c:=hid (by rw[f.out];simp:¬Q)
     go_wp21
     all_goals first|exact(zzU ‹_›).elim|skip
     go_ret;exact⟨11,rfl,⟨λa=>by simp at a,λa=>absurd a c.out⟩,b⟩
theorem zta (g:Nat):zD g=[49]↔g=1:=by
 have e:zD 1=[49]:=by rw[zae (by omega)];rfl
 constructor
 ·intro h;exact zfk (h.trans e.symm)
 ·rintro rfl;exact e
end
section
open Go.RowKit Go.Shelf Lib Str Limb Geo
attribute [local go_sem] Oper.semAt_some
end
namespace Geo
def onR (a b p:Pt):Prop:=cmpR p.x a.x*cmpR p.x b.x<=0/\cmpR p.y a.y*cmpR p.y b.y<=0
instance (a b p:Pt):Decidable (onR a b p):=by unfold onR;infer_instance
def cr (a b c:Pt):Rat:=(b.x-a.x)*(c.y-a.y)-(b.y-a.y)*(c.x-a.x)
def le (p q:Pt):Prop:=ordP p q<=0
theorem le_trans {p q r:Pt} (h:le p q) (k:le q r):le p r:=by unfold le at*;have:=zas p q;have:=zas q r;have:=zas p r;grind
theorem le_antisymm {p q:Pt} (h:le p q) (k:le q p):p=q:=by unfold le at*;have:=zas p q;have:=zas q p;grind
end Geo
namespace Geo
end Geo
namespace Geo
end Geo
section
open Go.RowKit Go.Shelf Lib Str Limb Geo
end
section
open Go.RowKit Go.Shelf Lib Str Limb Geo
attribute [local go_sem] Oper.semAt_some
end
section
open Go.RowKit Go.Shelf Lib Str Limb
attribute [local go_sem] Oper.semAt_some
abbrev BolQ (w:zA) (b:Bool) (e:Ending) (w':zA):Prop:=e=zo (zg b)/\zB w.heap.size w w'
def RowTm (p:Option Addr) (n:Nat) (X Y:Nat->ByteArray) (W:zA):Prop:=∀i,i<n->∃b off,p=zq ⟨b,off,zp⟩/\W.cell? ⟨b,off+i*2,zp⟩=zq (z8 (X i))/\W.cell? ⟨b,off+i*2+1,zp⟩=zq (z8 (Y i))
theorem RowTm.keep {p:Option Addr} {n:Nat} {X c:Nat->ByteArray} {a b:zA} (h:RowTm p n X c a) (d:CellsKept a b):RowTm p n X c b:=λk j=>let ⟨e,l,f,g,i⟩:=h k j;⟨e,l,f,d.cell g,d.cell i⟩
structure BxA (w:zA) (A:Nat) (x y:ByteArray) (W:zA):Prop where
 bel:qL w W
 bx:W.heap[A]? =zq (zn #[z8 x,z8 y] 58 (0,0))
section
variable {w W W':zA} {A:Nat} {x y:ByteArray}
theorem BxA.next (h:BxA w A x y W) (a:qL W W'):BxA w A x y W':=
 ⟨h.bel.trans (a.mono h.bel.size),(a.block _ (Array.getElem?_eq_some_iff.1 h.bx).1).trans h.bx⟩
theorem BxA.cx (h:BxA w A x y W):W.cell? ⟨A,0,zp⟩=zq (z8 x)/\W.cell? ⟨A,1,zp⟩=zq (z8 y):=by have:=h.bx;simp[World.cell?,this]
end
theorem z2l (p:Option Addr) (cap n:Nat) (X c:Nat->ByteArray) (ak:n<=16) (ag:n<=cap)
 (S:Hid (∀i,i<n->∀a:zA,Wd a->Pw a->qJ 159 #[.agg #[z8 (X i),z8 (c i)]] a (zj zm 0)))
 (M:Hid (∀i,i+1<n->qK 160 #[z8 (c i),z8 (c (i+1))] (ze #[zj zm (-1),zj zm 0])))
 (N:Hid (∀k e,0<k->k<n->∀a:zA,Wd a->RowTm p n X c a->a.cell? ⟨e,1,zp⟩=zq (z8 (c k))->zC zF 161 #[z7 p k cap,.func (.func 162) #[] #[.pointer (zq ⟨e,0,zp⟩)]] a (BolQ a zu)))
 (w:zA) (z:Hid (Wd w)) (Q:Hid (Pw w)) (P:Hid (RowTm p n X c w)):
 qJ 124 #[z7 p n cap] w (zj zm 0):=by
 have a9:decide ((16:Int)<(n:Int))=zu:=decide_eq_false (by omega);go_enter Tryz.func124,Tryz.ntmps124;go_wp21;clear a9;go_loopw [13] (λi wr=>∃(k:Nat),k<=n/\i=zj zm (k:Int)/\Hid (qL w wr))
  (λi _=>n-(zL i).toNat)
 case atStart=>exact⟨0,zR _,rfl,zM _ _⟩
 case round=>
  obtain⟨k,ah,rfl,o⟩:=hrel;by_cases hlt:k<n
  ·have v:=hid λa (d:qL w a)=>P.keep (zac d)
   obtain⟨m,q,aa,s,c1⟩:=v wr o k hlt;subst aa;have x:=hid (S k hlt);have j:=hid λ(a1:0<k) e a a3 ab a6=>N k e a1 hlt a a3 ab a6;have A:=hid (show ∀b,b+1=k->(qK 160 #[z8 (c b),z8 (c k)] (ze #[zj zm (-1),zj zm 0])) from λb u=>by subst u;exact M b hlt);obtain⟨b,u⟩:=zzX (k-1);have O:=hid u;obtain⟨r,C⟩:=zzX (X k);obtain⟨h,g⟩:=zzX (c k);rw[<-C,<-g] at x;rw[<-g] at j A;rw[<-C] at s;rw[<-g] at c1;clear u C g;have f:Hid (BxA w wr.heap.size r h (wr.alloc (zn #[z8 r,z8 h] 58))):=hid (by
    have a4:qL wr (wr.alloc (zn #[z8 r,z8 h] 58)):=(zM _ wr).alloc (zN _) _;exact⟨o.trans (a4.mono o.size),zG _ _⟩)
   obtain⟨Z,a0⟩:=f.cx;go_wp21;clear o s c1 Z a0;obtain⟨T,I⟩:=zzX (wr.alloc (zn #[z8 r,z8 h] 58));rw[<-I] at f⊢;clear I;generalize wr.heap.size=e at*
   refine zzM (x T (z.below f.bel) (Q.below f.bel)) λan J=>?_;have y:=hid (f.next J);clear J f x;by_cases hk0:k=0
   ·have a8:((k:Int)==0)=zt:=by rw[hk0];rfl
    clear hk0;go_wp21;go_roundw
    case rel=>exact⟨k+1,by omega,by go_num,hid y.bel⟩
    case measure=>simp[zL];omega
   ·have a8:((k:Int)==0)=zu:=beq_eq_false_iff_ne.2 (by omega)
    have L:b+1=k:=by have:=O.out;omega
    replace j:=hid (j (by omega));have E:=hid (A b L);have al:zm.wrap ((k:Int)-1)=(b:Int):=by rw[zI _ ⟨by omega,by omega⟩];omega
    have a7:b<n:=by omega
    have ai:(k:Int)<=(cap:Int):=by omega
    have F:=hid (λa d=>(by
     obtain⟨V,ac,Y,af,W⟩:=v a d b a7;obtain⟨rfl,rfl⟩:m=V/\q=ac:=by simpa using Y
     exact W):∀a,qL w a->a.cell? ⟨m,q+b*2+1,zp⟩=zq (z8 (c b)))
    generalize c b=ad at*
    clear A L hk0;go_wp21;refine zbl (λ_ a=>BxA w e r h a) (by kernel_rfl) (by kernel_rfl) (y.next (zM _ _).drew) ?_;refine qR (z7 (zq ⟨m,q,zp⟩) n cap) ?_;refine qR (zj zm (k:Int)) ?_;refine qR (zj zm (b:Int)) ?_;simp only[zzQ];refine qR (.pointer (zq ⟨m,q+b*2,zp⟩)) ?_;refine qR (.pointer (zq ⟨m,q+b*2+1,zp⟩)) ?_;refine qR (z8 ad) ?_ (hy:=λB G t d=>by have s:=F _ d.bel;go_simp);simp only[zzQ];refine qR (.pointer (zq ⟨e,1,zp⟩)) ?_;refine qR (z8 h) ?_ (hy:=λB G t d=>by obtain⟨s,c1⟩:=d.cx;go_simp);simp only[zzQ]
    refine zar (ze #[zj zm (-1),zj zm 0]) (by rfl) (λB G t d ae a2=>by
     go_simp;refine zzM (E _ (z.below d.bel)) λam a5=>?_;exact⟨rfl,a2 _ (d.next a5)⟩) ?_
    refine qR (ze #[zj zm (-1),zj zm 0]) ?_;refine qR (zj zm (-1)) ?_;simp only[zzQ];refine qR (zj zm 0) ?_;refine qR (zj zm (-1)) ?_;refine qR (zj zm 0) ?_;simp only[zzQ];refine zck λB U t H=>?_;have l:=hid H;clear t H y E F;have D:=hid (j e U (z.below l.bel) (v _ l.bel) l.cx.2);clear j;go_wp21;refine zzM D.out λao K=>?_;have R:=hid (l.next K);clear K l D;go_wp21;go_roundw
    case rel=>exact⟨k+1,by omega,by go_num,hid R.bel⟩
    case measure=>simp[zL];omega
  ·have aj:k=n:=by omega
   go_wp21;go_ret;exact⟨rfl,o.out⟩
end
section
open Go.RowKit Go.Shelf
attribute [local go_sem] Oper.semAt_some
end
section
open Go.RowKit Go.Shelf Lib Str Limb
attribute [local go_sem] Oper.semAt_some
theorem z4o (x y q r:Int) (u:0<=x) (T:0<y) (g:x.tdiv y=q) (b:x.tmod y=r) (R:0<=r) (J:¬r=0) (G:q.natAbs<=x.natAbs) (H:r.natAbs<=x.natAbs) (i:(zE x).length<=18) (hy:(zE y).length<=18) (w:zA) (hw:Wd w):
 qJ 193 #[St (zE x),St (zE y)] w (ze #[St (zE q),St (zE r),zj zm 0]):=by
 obtain⟨a0,a1⟩:=lt18 i;obtain⟨a2,a3⟩:=lt18 hy;have l:=λa=>zdh x y (zO (zbf (by omega)) (by omega)) (zO (zbf (by omega)) (by omega)) a;have t:=λa=>zdy x y i hy a;have p:=λa f=>zb3 q (by omega) (by omega) a f;have s:=λa f=>zb3 r (by omega) (by omega) a f;have X:zm.wrap (x.tdiv y)=q:=by rw[g];exact zI _ (by omega)
 have Y:zm.wrap (x.tmod y)=r:=by rw[b];exact zI _ (by omega)
 have P:¬x%y=0:=by rw[<-Int.tmod_eq_emod_of_nonneg u,b];exact J
 have h:x%y=r:=by rw[<-Int.tmod_eq_emod_of_nonneg u,b]
 have S:decide (x%y<0)=zu:=decide_eq_false (by rw[h];omega);have C:=hid h;clear h;have V:decide (y<0)=zu:=decide_eq_false (by omega);have I:(zE y==[48])=zu:=by rw[beq_eq_false_iff_ne,<-zb9];exact λE=>by have:=zdo E;omega
 have Q:¬zE y=[48]:=by simpa using I
 have U:¬y=0:=by omega
 have z:=hid l;clear l;have A:=hid p;clear p;have B:=hid s;clear s;have D:=hid t;have O:=hid g;have N:=hid b;clear t i hy g b G H;have j:=hid hw;clear hw;go_enter Tryz.func193,Tryz.ntmps193;go_wp21;refine zzM (z w) λK e=>?_;go_wp21;refine zzM (D K) λL m=>?_;have k:=e.trans (m.mono e.size);clear m e;go_wp21
 (refine wp_region_quiet_lit (by kernel_rfl) (by kernel_rfl) (WQ.out ?_);(repeat(first|(apply WQ.read (by rfl);(focus(rintro a ⟨W,rfl⟩;go_simp;try with_reducible rfl));try simp only[zzQ])|(apply WQ.skip (by rfl);try simp only[zzQ])));refine WQ.nil ?_;rintro _ ⟨v,rfl⟩)
 go_wp21;have c:=zao k v;refine zzM (A (L.drewN v) (j.below c)) λM n=>?_;have d:=c.trans (n.mono c.size);clear n c k;go_wp21;rw[C.out];refine zzM (B M (j.below d)) λZ o=>?_;have F:=d.trans (o.mono d.size);clear o d;go_wp21;go_ret3;exact⟨rfl,F⟩
theorem z58 (x y q r:Int) (av:0<=x) (aw:0<y) (J:((x.natAbs/y.natAbs:Nat):Int)=q) (K:((x.natAbs%y.natAbs:Nat):Int)=r) (f:digs x<=300) (hy:digs y<=300) (h:18<(zE x).length\/18<(zE y).length) (w:zA) (hw:Wd w):
 qJ 193 #[St (zE x),St (zE y)] w (ze #[St (zE q),St (zE r),zj zm 0]):=by
 have S:=λb=>zdh x y f hy b;have Z:=λb=>ze8 x y h b;have a0:=λb=>zc3 x b (by omega);have a1:=λb=>zc3 y b (by omega);have ax:=zb4 (z:=x) (k:=100) (by omega) (by omega);have ay:=zb4 (z:=y) (k:=100) (by omega) (by omega);have X:digs q<=300:=by
  have ah:q.natAbs<=x.natAbs:=by rw[<-J,yY];exact Nat.div_le_self _ _
  rw[za3 _ _ (by omega)] at f⊢;exact Nat.lt_of_le_of_lt ah f
 have Y:digs r<=300:=by
  have ai:r.natAbs<=x.natAbs:=by rw[<-K,yY];exact Nat.mod_le _ _
  rw[za3 _ _ (by omega)] at f⊢;exact Nat.lt_of_le_of_lt ai f
 have a':=zd6 (B:=B9) (by decide) (Nat.mod_le x.natAbs y.natAbs);have aj:(zE y==[48])=zu:=by rw[beq_eq_false_iff_ne,<-zb9];exact λh=>by have:=zdo h;omega
 have au:¬zE y=[48]:=by simpa using aj
 have ag:y.natAbs≠0:=by omega
 have az:=zd6 (B:=B9) (by decide) (Nat.div_le_self x.natAbs y.natAbs);have a4:=hid S;clear S;have a5:=hid Z;clear Z f hy h;have P:=hid hw;clear hw;have a8:=hid a0;have a9:=hid a1;clear a0 a1;have ac:=hid J;have ad:=hid K;clear J K;go_enter Tryz.func193,Tryz.ntmps193;go_wp21;refine zzM (a4 w) λa2 E=>?_;go_wp21;refine(a5 a2).mono ?_;rintro D a3 ⟨rfl,rfl⟩;go_wp21;refine(a8 a2).mono ?_;rintro D a3 ⟨b2,rfl,e,T⟩;have F:=E.trans (T.mono E.size);clear T E;obtain⟨i,g,d,rfl, -⟩:=zbx e;have j:=hid e;clear e;go_wp21;refine(a9 a3).mono ?_;rintro D a ⟨b3,rfl,N,H⟩;have e:=j.below H;have u:=F.trans (H.mono F.size);clear H F j;obtain⟨o,n,l,rfl, -⟩:=zbx N;have j:=hid e;have O:=hid N;clear e N;have W:decide (y<0)=zu:=by simp;omega
 have V:decide (x<0)=zu:=by simp;omega
 rw[W,V] at*
 clear V W;go_wp21;have G:=(u.alloc u.size (zn #[zg zu,z7 i g d] 271)).alloc (by have:=u.size;simp;omega) (zn #[zg zu,z7 o n l] 271);have I:qL a ((a.alloc (zn #[zg zu,z7 i g d] 271)).alloc (zn #[zg zu,z7 o n l] 271)):=((zM _ _).alloc (zN _) _).alloc (by simp) _;have t:=(Below.heap_alloc (a.alloc (zn #[zg zu,z7 i g d] 271)) (zn #[zg zu,z7 o n l] 271) a.heap.size (by simp)).trans (zG a (zn #[zg zu,z7 i g d] 271));have c:=zG (a.alloc (zn #[zg zu,z7 i g d] 271)) (zn #[zg zu,z7 o n l] 271);rw[zH] at c;refine(znf (z7 i g d) (z7 o n l) _ _ _ (j.below I) (O.below I) (by omega) (by omega) ag).mono ?_;rintro D s ⟨b0,b1,rfl,L,M,C⟩;obtain⟨an,ak,c1,rfl, -⟩:=zbx L;obtain⟨ao,al,c2,rfl,af⟩:=zbx M;clear af;have v:=G.trans (C.mono G.size);have t:=(C.block a.heap.size (by simp only[zH];omega)).trans t;have c:=(C.block (a.heap.size+1) (by simp only[zH];omega)).trans c;have Q:s.cell? ⟨a.heap.size,0,zp⟩=zq (zg zu):=by simp[World.cell?,t]
 have R:s.cell? ⟨a.heap.size+1,0,zp⟩=zq (zg zu):=by simp[World.cell?,c]
 have am:a.heap.size+1<s.heap.size:=(Array.getElem?_eq_some_iff.1 c).1;have a6:=hid L;have a7:=hid M;clear I G C L M u j O t c;have rs:=zez (zu !=zu) (z7 an ak c1) (x.natAbs/y.natAbs) s (P.below v) a6 (by omega);rw[show sgn (zu !=zu) (x.natAbs/y.natAbs)=q from ac.out,zcf X,zcg X] at rs;rw[Bool.bne_false] at rs;have aa:=hid rs;clear rs;go_wp21;refine zzM aa.out λap m=>?_;have A:=v.trans (m.mono v.size);have aq:=(m.cell (p:=⟨a.heap.size,0,zp⟩) (by show a.heap.size<s.heap.size;omega)).trans Q;have ar:=(m.cell (p:=⟨a.heap.size+1,0,zp⟩) am).trans R;have rt:=zez zu (z7 ao al c2) (x.natAbs%y.natAbs) ap (P.below A) (a7.below m) (by omega);rw[show sgn zu (x.natAbs%y.natAbs)=r from ad.out,zcf Y,zcg Y] at rt;have ab:=hid rt;clear rt m Q R v;go_wp21;refine zzM ab.out λb4 U=>?_;have ae:=A.trans (U.mono A.size);clear U A;go_wp21;go_ret3;exact⟨rfl,ae⟩
theorem zzn (a b:Nat) (i:0<b) (ha:(zD a).length<=300) (e:(zD b).length<=300) (w:zA) (hw:Wd w):
 qJ 193 #[St (zD a),St (zD b)] w (ze #[St (zD (a/b)),St (zD (a%b)),zj zm 0]):=by
 have c:digs (a:Int)<=300:=by rw[zd9];exact ha
 have d:digs (b:Int)<=300:=by rw[zd9];exact e
 rw[<-Str.zad a,<-Str.zad b,<-Str.zad (a/b),<-Str.zad (a%b)];by_cases hz:a%b=0
 ·rw[hz,show zE ((0:Nat):Int)=[48] from zb9]
  refine zky a b ((a/b:Nat):Int) ?_ (by omega) c d w hw;have:=Nat.div_add_mod a b;rw[hz,Nat.add_zero,Nat.mul_comm] at this;rw[<-xE,this]
 by_cases h:(zE a).length<=18/\(zE b).length<=18
 ·have f:=Nat.div_le_self a b
  have g:=Nat.mod_le a b;exact z4o a b ((a/b:Nat):Int) ((a%b:Nat):Int) (by omega) (by omega) (by rw[Int.ofNat_tdiv]) (by rw[Int.ofNat_tmod]) (by omega) (by omega) (by rw[yY,yY];exact f) (by rw[yY,yY];exact g) h.1 h.2 w hw
 ·exact z58 a b ((a/b:Nat):Int) ((a%b:Nat):Int) (by omega) (by omega) rfl rfl c d (by omega) w hw
end
section
open Go.RowKit Go.Shelf Lib Str Limb Geo
attribute [local go_sem] Oper.semAt_some
end
section
open Go.RowKit Go.Shelf Lib Str Limb
attribute [local go_sem] Oper.semAt_some
theorem znq (n c:Nat) (i:c*c<=n/\n<(c+1)*(c+1)) (y:(zD n).length<=290) (w:zA) (hw:Wd w):
 qJ 239 #[St (zD n)] w (ze #[St (zD c),zj zm 0]):=by
 obtain⟨e,f⟩:=zzX (⟨(zD n).toArray⟩:ByteArray);obtain⟨Q,g,R,F⟩:=zco _ (zci n) e f;obtain⟨J,P,u,K,L⟩:=dec_head n;have l:(((e[0]'g).toNat:Int)==45)=zu:=by
  rw[beq_eq_false_iff_ne,F g];simp only[u,List.head_cons];omega
 have k:∀a:zA,qJ 229 #[z8 e] a (zj zm 0):=λa=>by
  have:=zl4 (n:Int) (by unfold digs;rw[yY];omega) a;rw[Str.zad] at this;rw[f];exact this
 have q:∀a:zA,zC zF 189 #[z8 e] a λt s=>∃r,t=zo (.agg #[zg zu,r])/\Sl s r ((zaa B9 n).map I)/\zB a.heap.size a s:=λa=>by
  have:=zc3 (n:Int) a (by unfold digs;rw[yY];omega);rw[Str.zad,decide_eq_false (by omega),yY] at this;rw[f];exact this
 show zC _ _ #[z8 ⟨(zD n).toArray⟩] _ _;rw[<-f];by_cases h0:n=0
 ·have D:c=0:=by
   by_cases d:c=0
   ·exact d
   ·have:=Nat.mul_pos (show 0<c by omega) (show 0<c by omega);omega
  have h:(e.toList==[48])=zt:=by rw[f,ByteArray.toList_eq,h0,zae (by omega)];rfl
  have:=z7g e g l h (hid k) w;rw[D];rw[show St (zD 0)=z8 e by rw[f,h0]];exact this
 ·have h:(e.toList==[48])=zu:=zhl f 0 (by omega) h0
  by_cases hsm:(zD n).length<=18
  ·have A:n<1000000000000000000:=(zaf n 18 (by omega)).1 hsm
   refine z6p e n c g l h (by omega) (hid k) (hid q) (hid λa m=>?_) w (hid hw);refine zd3 e n c (by omega) (hid A) (hid i) (hid λa=>?_) (hid λa m=>?_) a (hid m)
   ·have:=znc (n:Int) (by rw[Str.zad];exact hsm) a
    rw[Str.zad] at this;rw[f];exact this
   ·have M:c<=n:=zO (Nat.le_mul_self c) i.1
    have:=zb3 (c:Int) (by omega) (by omega) a m;rw[Str.zad] at this;exact this
  ·obtain⟨b,v⟩:∃b,(e.size+1)/2=b:=⟨_,rfl⟩
   have B:n<10^(2*b):=(zaf n (2*b) (by omega)).1 (by omega);have x:b<=146:=by omega
   have p:=z7e i.1 B;have C:=λa=>Tryz.strings_Repeat ⟨#[48]⟩ b a (by omega) (by show 1*b<=_;omega);have j:∀o,o<10^320->(zaa B9 o).length<=400:=λo z=>zO (zfv (k:=36) (by decide) (Nat.lt_of_lt_of_le z (by decide+kernel))) (by omega);have N:n<10^290:=(zaf n 290 (by omega)).1 y;have G:10^b<=10^146:=yF (by omega) x;have O:(10:Nat)^290+10^146<=10^320:=by decide+kernel
   have H:(⟨#[49]⟩:ByteArray)++⟨(Lib.repeatL [48] b).toArray⟩=⟨(zD (10^b)).toArray⟩:=by
    rw[z13,zhy];exact z7h [49] (List.replicate b 48)
   refine z7f e ⟨(Lib.repeatL [48] b).toArray⟩ ⟨(zD (10^b)).toArray⟩ n c b (10^b) (hid i) (by omega) (Nat.pos_of_ne_zero (by simp)) p (hid ⟨j _ (by omega),j _ (by omega),j _ (by omega)⟩) g l h (by omega) (by omega) v (hid k) (hid q) (hid C) (hid λa=>?_) ?_ H ?_ w (hid hw)
   ·have E:10^b<10^147:=Nat.pow_lt_pow_right (by omega) (by omega)
    have:=zc3 ((10^b:Nat):Int) a (by unfold digs;rw[yY];exact zO ((zaf _ 147 (by omega)).2 E) (by omega));rw[Str.zad,decide_eq_false (by omega),yY] at this;exact this
   ·show(Lib.repeatL [48] b).toArray.size<=1000
    rw[zhy];simp;omega
   ·unfold digs
    rw[yY];exact zO ((zaf _ 147 (by omega)).2 (Nat.lt_of_le_of_lt (zO p G) (Nat.pow_lt_pow_right (by omega) (by omega)))) (by omega)
theorem z3j (c r d a1 V Y j rt q L A:List UInt8) (n y M:ByteArray) (aj:M.size<=1000) (o:Nat) (ah:o<=100) (a9:0<n.size) (m:Bool)
 (ag:(((n[0]'a9).toNat:Int)==45)=m)
 (P:Hid (qK 216 #[St c] (ze #[z8 n,St d,zj zm 0])))
 (a0:Hid (qK 145 #[z8 n,z8 n] (ze #[St a1,zj zm 0])))
 (a2:Hid (qK 145 #[St a1,St r] (ze #[St V,zj zm 0])))
 (a4:Hid (∀a6:zA,qJ 238 #[z8 ⟨#[48]⟩,zj zm (2*(o:Int))] a6 (z8 M)))
 (a5:Hid ((⟨#[49]⟩:ByteArray)++M=⟨Y.toArray⟩))
 (a3:Hid (qK 145 #[St V,St Y] (ze #[St j,zj zm 0])))
 (R:Hid (qK 239 #[St j] (ze #[St rt,zj zm 0])))
 (D:Hid (qK 193 #[St rt,St d] (ze #[St q,St L,zj zm 0])))
 (W:m=zu->q=A)
 (J:Hid (m=zt->qK 145 #[St rt,St rt] (ze #[z8 y,zj zm 0])))
 (F:Hid (m=zt->((y.toList==j)=zt/\(L==[48])=zt/\qK 181 #[z8 ⟨#[48]⟩,St q] (ze #[St A,zj zm 0]))\/
   (((y.toList==j)=zu\/(L==[48])=zu)/\∃K,(qK 194 #[St q,z8 ⟨#[49]⟩] (ze #[St K,zj zm 0]))/\qK 181 #[z8 ⟨#[48]⟩,St K] (ze #[St A,zj zm 0]))))
 (w:zA) (b:Hid (Wd w)):
 qJ 195 #[.agg #[St c,St r],zj zm (o:Int)] w (St A):=by
 have ai:zm.wrap (2*(o:Int))=2*(o:Int):=zI _ (by omega);obtain⟨B,l⟩:=zzX (w.alloc (zn #[St c,St r] 58));have U:qL w B:=by rw[l];exact(zM _ w).alloc (zN _) _
 have E:B.heap[w.heap.size]? =zq (zn #[St c,St r] 58 (0,0)):=by rw[l];exact zG w _
 have X:B.cell? ⟨w.heap.size,0,zp⟩=zq (St c):=by rw[zJ E];rfl
 rw[l] at X;have T:=hid l.symm;have p:=hid U;have N:=hid E;clear l U E;go_enter Tryz.func195,Tryz.ntmps195;go_wp21;rw[T.out];clear X T;refine zzM (P B (b.below p.out)) λaa a=>?_;have s:=hid (p.trans (a.mono p.size));have O:=hid (zac a _ _ _ _ N.out);clear a p N;go_wp21;refine zzM (a0 aa (b.below s.out)) λZ a=>?_;have t:=hid (s.trans (a.mono s.size));have Q:=hid (zac a _ _ _ _ O.out);clear a s O;have a8:Z.cell? ⟨w.heap.size,1,zp⟩=zq (St r):=by rw[zJ Q.out];rfl
 go_wp21;refine zzM (a2 Z (b.below t.out)) λab a=>?_;have G:=hid (t.trans (a.mono t.size));clear a t Q a8;go_wp21;refine zzM (a4 ab) λac a=>?_;have u:=hid (G.trans (a.mono G.size));clear a G;go_wp21;rw[a5.out];refine zzM (a3 ac (b.below u.out)) λad a=>?_;have v:=hid (u.trans (a.mono u.size));clear a u;go_wp21;refine zzM (R ad (b.below v.out)) λae a=>?_;have x:=hid (v.trans (a.mono v.size));clear a v;go_wp21;refine zzM (D ae (b.below x.out)) λaf a=>?_;have g:=hid (x.trans (a.mono x.size));clear a x;cases m
 ·obtain rfl:=W rfl
  clear J F;go_wp21;go_ret;exact⟨rfl,g.out⟩
 ·have S:=hid (J rfl);have I:=hid (F rfl)
  clear J F W;go_wp21;refine zzM (S af (b.below g.out)) λC a=>?_;have f:=hid (g.trans (a.mono g.size));clear a g S;rcases I.out with⟨z,a7,k⟩|⟨z,K,ha,k⟩
  ·have i:=hid k;clear I k
   go_wp21;refine zzM (i C (b.below f.out)) λak a=>?_;have e:=hid (f.trans (a.mono f.size));clear a;go_wp21;go_ret;exact⟨rfl,e.out⟩
  ·have i:=hid k;have H:=hid ha;clear I k ha
   rcases z with z|z
   ·go_wp21
    refine zzM (H C (b.below f.out)) λz1 a=>?_;have e:=hid (f.trans (a.mono f.size));clear a;go_wp21;refine zzM (i z1 (b.below e.out)) λz2 a=>?_;have h:=hid (e.trans (a.mono e.size));clear a;go_wp21;go_ret;exact⟨rfl,h.out⟩
   ·cases a7:(y.toList==j)
    ·go_wp21
     refine zzM (H C (b.below f.out)) λz1 a=>?_;have e:=hid (f.trans (a.mono f.size));clear a;go_wp21;refine zzM (i z1 (b.below e.out)) λz2 a=>?_;have h:=hid (e.trans (a.mono e.size));clear a;go_wp21;go_ret;exact⟨rfl,h.out⟩
    ·go_wp21
     refine zzM (H C (b.below f.out)) λz1 a=>?_;have e:=hid (f.trans (a.mono f.size));clear a;go_wp21;refine zzM (i z1 (b.below e.out)) λz2 a=>?_;have h:=hid (e.trans (a.mono e.size));clear a;go_wp21;go_ret;exact⟨rfl,h.out⟩
def floT (c:Rat) (s N:Nat):Int:=if c.num<0 then-((s/c.den+(if s*s=N/\s%c.den=0 then 0 else 1):Nat):Int) else((s/c.den:Nat):Int)
theorem z3u (x y:Nat) (b:(zD x).length<=300) (hy:(zD y).length<=300) (c:(zD (x*y)).length<=300) (w:zA) (hw:Wd w):
 qJ 145 #[St (zD x),St (zD y)] w (ze #[St (zD (x*y)),zj zm 0]):=by
 have a:digs ((x:Int)*(y:Int))<=300:=by rw[<-xE,zd9];exact c
 have:=zhk (x:Int) (y:Int) (by rw[zd9];exact b) (by rw[zd9];exact hy) w hw;rw[zcf a,zcg a,<-xE,Str.zad,Str.zad,Str.zad] at this;exact this
theorem zva (x y:Int) (b:digs x<=300) (hy:digs y<=300) (a:digs (x+y)<=300) (w:zA) (hw:Wd w):
 qJ 194 #[St (zE x),St (zE y)] w (ze #[St (zE (x+y)),zj zm 0]):=by
 have:=z1c x y b hy w hw;rwa [zcf a,zcg a] at this
theorem z6j (x y:Int) (b:digs x<=300) (hy:digs y<=300) (a:digs (x-y)<=300) (w:zA) (hw:Wd w):
 qJ 181 #[St (zE x),St (zE y)] w (ze #[St (zE (x-y)),zj zm 0]):=by
 have:=z1e x y b hy w hw;rwa [zcf a,zcg a] at this
theorem z6a (x:Int) (b:0<(⟨(zE x).toArray⟩:ByteArray).size):((((⟨(zE x).toArray⟩:ByteArray)[0]'b).toNat:Int)==45)=decide (x<0):=by
 obtain⟨j,k,l,e⟩:=zco (zE x) (by rcases zbg x with⟨_,a⟩|⟨_,a⟩<;>rw[a];exact zci _;simp) _ rfl;rw[e b];rcases zbg x with⟨d,a⟩|⟨d,a⟩
 ·obtain⟨f,i,c,g,h⟩:=dec_head x.natAbs
  rw[decide_eq_false (by omega),beq_eq_false_iff_ne];simp only[a,c,List.head_cons];omega
 ·rw[decide_eq_true (by omega)]
  simp only[a,List.head_cons];rfl
theorem zul (c:Rat) (r k a e:Nat) (o:okQ c) (J:c≠0) (E:0<r) (M:k<=100) (s:c.num.natAbs*c.num.natAbs*r*10^(2*k)=e) (C:(zD e).length<=290) (u:a*a<=e/\e<(a+1)*(a+1)) (w:zA) (hw:Wd w):
 qJ 195 #[.agg #[St (numS c),St (zD r)],zj zm (k:Int)] w (St (zE (floT c a e))):=by
 obtain⟨d,t⟩:=zzX c.num.natAbs;have p:0<d:=by
  have:c.num≠0:=λi=>J (Rat.num_eq_zero.1 i);omega
 obtain⟨m,x⟩:=zzX (10^(2*k));have O:0<m:=by rw[x];exact Nat.pos_of_ne_zero (by simp)
 rw[<-t,<-x] at s;have S:d<=d*d:=Nat.le_mul_self d;have T:d*d<=d*d*r:=Nat.le_mul_of_pos_right _ E;have z:d*d*r<=d*d*r*m:=Nat.le_mul_of_pos_right _ O;have U:r<=d*d*r:=Nat.le_mul_of_pos_left _ (Nat.mul_pos p p);have F:m<=d*d*r*m:=Nat.le_mul_of_pos_left _ (Nat.mul_pos (Nat.mul_pos p p) E);rw[s] at z F;have j:∀{G:Nat},G<=e->(zD G).length<=300:=λl=>by have:=zt9 l;omega
 have v:a<=e:=z6f u.1;have R:=Nat.div_le_self a c.den;have Q:e<10^290:=(zaf e 290 (by omega)).1 C;have V:(10:Nat)^290+1<10^291:=by decide+kernel
 have h:∀q:Int,q.natAbs<=e+1->digs q<=300:=λq y=>by
  have:=(zaf q.natAbs 291 (by omega)).2 (by omega);unfold digs;omega
 have D:∀g:Nat,g<=e+1->((0:Int)-(g:Int)).natAbs<=e+1:=λg l=>by omega
 have L:∀g:Nat,g<=e->((g:Int)+1).natAbs<=e+1:=λg l=>by omega
 have A:zE 0=[48]:=zb9;have P:zE 1=[49]:=by rw[show(1:Int)=((1:Nat):Int) from rfl,Str.zad,zae (by omega)];rfl
 have K:(zD c.den).length<=300:=o.2;have N:=λb=>Tryz.strings_Repeat ⟨#[48]⟩ (2*k) b (by omega) (by show 1*(2*k)<=_;omega);have B:0<(⟨(zE c.num).toArray⟩:ByteArray).size:=(zco (zE c.num) (by rcases zbg c.num with⟨_,i⟩|⟨_,i⟩<;>rw[i];exact zci _;simp) _ rfl).2.1
 refine z3j (numS c) (zD r) (zD c.den) (zD (d*d)) (zD (d*d*r)) (zD m) (zD e) (zD a) (zD (a/c.den)) (zD (a%c.den)) (zE (floT c a e)) ⟨(zE c.num).toArray⟩ ⟨(zD (a*a)).toArray⟩ ⟨(Lib.repeatL [48] (2*k)).toArray⟩ (by show(Lib.repeatL [48] (2*k)).toArray.size<=1000;rw[zhy];simp;omega) k M B (decide (c.num<0)) (z6a c.num B)
  (hid λb f=>zk5 c o b f) (hid λb f=>?_) (hid λb f=>z3u _ _ (j (by omega)) (j (by omega)) (j z) b f) (hid λb=>?_) (hid ?_) (hid λb f=>?_) (hid λb f=>znq e a u C b f) (hid λb f=>zzn a c.den c.den_pos (j v) K b f)
  (λl=>?_) (hid λ_ b f=>z3u _ _ (j v) (j v) (j u.1) b f) (hid λl=>?_) w (hid hw)
 ·have y:digs (c.num*c.num)<=300:=h _ (by rw[Int.natAbs_mul,<-t];omega)
  have:=zhk c.num c.num o.1 o.1 b f;rw[zcf y,zcg y,<-Int.natAbs_mul_self,Str.zad,<-t] at this;exact this
 ·have:=N b
  exact this
 ·rw[x,z13,zhy]
  exact z7h [49] (List.replicate (2*k) 48)
 ·have:=z3u (d*d*r) m (j z) (j F) (j (by omega)) b f
  rw[s] at this;exact this
 ·have n:¬c.num<0:=by simpa using l
  unfold floT;rw[if_neg n,Str.zad]
 ·have n:c.num<0:=by simpa using l
  have I:(zD (a*a)).toArray.toList=zD (a*a):=by simp
  by_cases i:a*a=e/\a%c.den=0
  ·left
   refine⟨by rw[ByteArray.toList_eq,i.1];simp,by rw[i.2,zae (by omega)];rfl,λb f=>?_⟩;have:=z6j 0 ((a/c.den:Nat):Int) (by rw[show(0:Int)=((0:Nat):Int) from rfl];exact h _ (by omega)) (h _ (by rw[yY];omega)) (h _ (D _ (by omega))) b f;rw[A,Str.zad] at this;unfold floT;rw[if_pos n,if_pos i,Nat.add_zero,<-Int.zero_sub];exact this
  ·right
   refine⟨?_,zD (a/c.den+1),λb f=>?_,λb f=>?_⟩
   ·by_cases e1:a*a=e
    ·right
     have H:a%c.den≠0:=λg=>i ⟨e1,g⟩;rw[beq_eq_false_iff_ne,<-A,<-Str.zad];exact λg=>H (by have:=zdo g;omega)
    ·left
     rw[ByteArray.toList_eq,beq_eq_false_iff_ne,I,<-Str.zad,<-Str.zad];exact λg=>e1 (by have:=zdo g;omega)
   ·have:=zva ((a/c.den:Nat):Int) 1 (h _ (by rw[yY];omega)) (h _ (by show(1:Nat)<=_;omega)) (h _ (L _ (by omega))) b f
    rw[P,show((a/c.den:Nat):Int)+1=((a/c.den+1:Nat):Int) by omega,Str.zad,Str.zad] at this;exact this
   ·have:=z6j 0 ((a/c.den+1:Nat):Int) (by rw[show(0:Int)=((0:Nat):Int) from rfl];exact h _ (by omega)) (h _ (by rw[yY];omega)) (h _ (D _ (by omega))) b f
    rw[A,Str.zad] at this;unfold floT;rw[if_pos n,if_neg i,<-Int.zero_sub];exact this
def zap (n k:Nat) (z:Int):Int:=if 0<z then 1 else if z+n<0\/(z+n=0/\k=2) then-1 else 0
def sgnP (n:Nat) (Z:Nat->Int):Int:=if zap n 0 (Z 0)≠0 then zap n 0 (Z 0) else if zap n 1 (Z 1)≠0 then zap n 1 (Z 1) else zap n 2 (Z 2)
theorem zhp {n:Nat} {Z:Nat->Int}:∀{k:Nat},k<3->(∀j,j<k->zap n j (Z j)=0)->zap n k (Z k)≠0->sgnP n Z=zap n k (Z k)
 |0,_,_,b=>by unfold sgnP;rw[if_pos b]
 |1,_,a,b=>by unfold sgnP;rw[if_neg (by simp[a 0 (by omega)]),if_pos b]
 |2,_,a,_=>by unfold sgnP;rw[if_neg (by simp[a 0 (by omega)]),if_neg (by simp[a 1 (by omega)])]
theorem znr {n:Nat} {Z:Nat->Int} (h:∀j,j<3->zap n j (Z j)=0):sgnP n Z=0:=by
 unfold sgnP;rw[if_neg (by simp[h 0 (by omega)]),if_neg (by simp[h 1 (by omega)]),h 2 (by omega)]
def errP (s:Int):Int:=if s=0 then 4 else 0
theorem zj5 (p:Option Addr) (cap n:Nat) (ax:0<n) (b4:n<=100) (X E:Nat->List UInt8) (K Z:Nat->Nat->Int) (an:Hid (∀k,Z k 0=0))
 (aj:Hid (∀k i,k<3->i<n->qK 195 #[.agg #[St (X i),St (E i)],zj zm (plN k:Int)] (St (zE (K k i)))))
 (ah:Hid (∀k i,k<3->i<n->qK 194 #[St (zE (Z k i)),St (zE (K k i))] (ze #[St (zE (Z k (i+1))),zj zm 0])))
 (v:Hid (∀k j,k<3->j<n->qK 194 #[St (zE (Z k n+(j:Int))),z8 ⟨#[49]⟩] (ze #[St (zE (Z k n+((j+1:Nat):Int))),zj zm 0])))
 (ai:Hid (∀k j,k<3->j<=n->qK 196 #[St (zE (Z k n+(j:Int))),z8 ⟨#[48]⟩] (ze #[zj zm (cmpZ (Z k n+(j:Int)) 0),zj zm 0])))
 (w:zA) (q:Hid (Wd w)) (ak:Hid (Spw w))
 (am:Hid (∀i,i<n->∃b off,p=zq ⟨b,off,zp⟩/\b<w.heap.size/\w.cell? ⟨b,off+i*2,zp⟩=zq (St (X i))/\w.cell? ⟨b,off+i*2+1,zp⟩=zq (St (E i)))):
 qJ 147 #[z7 p n cap] w (ze #[zj zm (sgnP n λk=>Z k n),zj zm (errP (sgnP n λk=>Z k n))]):=by
 obtain⟨aw,fz,ac⟩:=ak.block;have I:((n:Int)==0)=zu:=by rw[beq_eq_false_iff_ne];omega
 have V:=hid (zM w.heap.size w);go_enter Tryz.func147,Tryz.ntmps147;go_wp2_with (refine wpList_load_row rfl 275 (.global 0) rfl 0 rfl aw spV fz (.array 3 3) ac (by kernel_rfl) rfl (by kernel_rfl) ?_);go_loopw [17] (λi wr=>∃(k:Nat),k<=3/\i=zj zm (k:Int)/\Hid (∀j,j<k->zap n j (Z j n)=0)/\Hid (qL w wr))
  (λi _=>3-(zL i).toNat)
 case atStart=>exact⟨0,by omega,rfl,hid (λj a9=>by omega),V⟩
 case round=>
  clear V ac;obtain⟨k,b3,rfl,x,J⟩:=hrel;by_cases hlk:k<3
  ·have ar:=λw=>z8x k hlk w
   have a3:=hid (λi=>aj k i hlk);have Y:=hid (λi=>ah k i hlk);have W:=hid (λi=>v k i hlk);have L:=hid (λj=>ai k j hlk);have aa:z8 ⟨#[48]⟩=St (zE (Z k 0)):=by rw[an.out,zb9]
   have H:((k:Int)+1==3)=decide (k=2):=by
    by_cases e:k=2
    ·subst e;rfl
    ·rw[decide_eq_false e,beq_eq_false_iff_ne];omega
   have b5:zm.wrap ((k:Int)+1)=(k:Int)+1:=zI _ (by omega);generalize plN k=b6 at*
   have a4:=hid H;clear H;go_wp21;rw[aa]
   try rw[show decide ((k:Int)<3)=zt from decide_eq_true (by omega)]
   clear aa ar;go_loopw [6,23] (λR i wr=>∃(a:Nat),a<=n/\i=zj zm (a:Int)/\R=St (zE (Z k a))/\Hid (qL w wr))
    (λ_ i _=>n-(zL i).toNat)
   case atStart=>exact⟨0,zR _,rfl,rfl,J⟩
   case round=>
    clear J;obtain⟨a,b1,rfl,rfl,l⟩:=hrel;by_cases hlt:a<n
    ·obtain⟨b,off,rfl,Q,a8,c1⟩:=am a hlt
     have au:wr.cell? ⟨b,off+a*2,zp⟩=zq (St (X a)):=by rw[l.cell (p:=⟨b,off+a*2,zp⟩) Q];exact a8
     have av:wr.cell? ⟨b,off+a*2+1,zp⟩=zq (St (E a)):=by rw[l.cell (p:=⟨b,off+a*2+1,zp⟩) Q];exact c1
     have a7:=hid (a3 a hlt);have y:=hid (Y a hlt);generalize X a=S at*
     generalize E a=T at*
     generalize zE (K k a)=g at*
     generalize zE (Z k a)=b7 at*
     obtain⟨B,A⟩:=zzX (wr.alloc (zn #[St S,St T] 58));have a1:qL wr B:=by rw[A];exact(zM _ wr).alloc (zN _) _
     have v:B.heap[wr.heap.size]? =zq (zn #[St S,St T] 58 (0,0)):=by rw[A];exact zG wr _
     have af:B.cell? ⟨wr.heap.size,0,zp⟩=zq (St S):=by rw[zJ v];rfl
     have ag:B.cell? ⟨wr.heap.size,1,zp⟩=zq (St T):=by rw[zJ v];rfl
     rw[A] at af ag;have a6:=hid A.symm;have m:=hid (l.trans (a1.mono l.size));clear A a1 v a8 c1 Q;go_wp21;rw[a6.out];clear au av af ag a6;refine zzM (a7 B (q.below m.out)) λU c=>?_;have D:=hid (m.trans (c.mono m.size));clear c m a7;go_wp21;refine zzM (y U (q.below D.out)) λC c=>?_;have h:=hid (D.trans (c.mono D.size));clear c D y;go_wp21;go_roundw
     case rel=>exact⟨a+1,by omega,by go_num,rfl,h⟩
     case measure=>simp[zL];omega
    ·have aq:a=n:=by omega
     subst aq;have P:=L 0 (zR _);rw[show Z k a+((0:Nat):Int)=Z k a by omega] at P;have t:=hid P;clear P;obtain⟨z,F⟩:=zzX ( λ(j:Nat)=>zE (Z k a+(j:Int)):Nat->List UInt8);have ab:St (zE (Z k a))=St (z 0):=by rw[F];show St (zE (Z k a))=St (zE (Z k a+((0:Nat):Int)));rw[show Z k a+((0:Nat):Int)=Z k a by omega]
     have a5:=hid ab;clear ab;have a0:Hid (∀j,j<a->qK 194 #[St (z j),z8 ⟨#[49]⟩] (ze #[St (z (j+1)),zj zm 0])):=hid (by rw[F];exact W.out);have a2:Hid (qK 196 #[St (z a),z8 ⟨#[48]⟩] (ze #[zj zm (cmpZ (Z k a+(a:Int)) 0),zj zm 0])):=hid (by rw[F];exact L a (zN _));clear a3 Y W L F;by_cases hp:0<Z k a
     ·have u:decide (0<cmpZ (Z k a) 0)=zt:=by unfold cmpZ;rw[if_neg (by omega),if_pos (by omega)];rfl
      have ad:cmpZ (Z k a) 0=1:=by unfold cmpZ;rw[if_neg (by omega),if_pos (by omega)]
      have f:zap a k (Z k a)=1:=by unfold zap;rw[if_pos hp]
      have r:(sgnP a λk=>Z k a)=1:=by rw[zhp hlk x (by show zap a k (Z k a)≠0;rw[f];decide)];exact f
      have s:=hid r;rw[ad] at t;generalize zE (Z k a)=b8 at*
      clear hp u ad f r;go_wp21;refine zzM (t wr (q.below l.out)) λU c=>?_;have m:=hid (l.trans (c.mono l.size));clear c t;go_wp21;go_ret2;exact⟨by rw[s.out];rfl,m.out⟩
     ·have u:decide (0<cmpZ (Z k a) 0)=zu:=by
       unfold cmpZ;by_cases h2:Z k a<0
       ·rw[if_pos h2];rfl
       ·rw[if_neg h2,if_neg (by omega)];rfl
      have M:=hid hp;clear hp;obtain⟨O,G⟩:=zzX (cmpZ (Z k a) 0);rw[<-G] at u t;clear G;go_wp21;refine zzM (t wr (q.below l.out)) λU c=>?_;have m:=hid (l.trans (c.mono l.size));clear c t;go_wp21;rw[a5.out];clear u;go_loopw [6,45] (λR i wr=>∃(j:Nat),j<=a/\i=zj zm (j:Int)/\R=St (z j)/\Hid (qL w wr))
       (λ_ i _=>a-(zL i).toNat)
      case atStart=>exact⟨0,zR _,rfl,rfl,m⟩
      case round=>
       clear m;obtain⟨j,b2,rfl,rfl,d⟩:=hrel;by_cases hlt:j<a
       ·have y:=hid (a0 j hlt)
        go_wp21;refine zzM (y _ (q.below d.out)) λC c=>?_;have h:=hid (d.trans (c.mono d.size));clear c y;go_wp21;go_roundw
        case rel=>exact⟨j+1,by omega,by go_num,rfl,h⟩
        case measure=>simp[zL];omega
       ·have ap:j=a:=by omega
        subst ap;have o:=a2;clear a2 a0 a5;obtain⟨g,I⟩:=zzX (Z k j+(j:Int));rw[<-I] at o;have N:=hid I;clear I;by_cases hneg:g<0
        ·have u:decide (cmpZ g 0<0)=zt:=by unfold cmpZ;rw[if_pos hneg];rfl
         have f:zap j k (Z k j)= -1:=by unfold zap;rw[if_neg (by have:=M.out;omega),if_pos (.inl (by rw[<-N.out];exact hneg))]
         have r:(sgnP j λk=>Z k j)= -1:=by rw[zhp hlk x (by show zap j k (Z k j)≠0;rw[f];decide)];exact f
         have s:=hid r;generalize cmpZ g 0=O at*
         clear f r hneg;go_wp21;refine zzM (o _ (q.below d.out)) λC c=>?_;have h:=hid (d.trans (c.mono d.size));clear c o;go_wp21;go_ret2;exact⟨by rw[s.out];rfl,h.out⟩
        ·have u:decide (cmpZ g 0<0)=zu:=by
          unfold cmpZ;rw[if_neg hneg];split<;>rfl
         by_cases hl:g=0/\k=2
         ·have az:(cmpZ g 0==0)=zt:=by rw[hl.1];rfl
          have a':((k:Int)+1==3)=zt:=by rw[a4.out,decide_eq_true hl.2]
          have f:zap j k (Z k j)= -1:=by unfold zap;rw[if_neg (by have:=M.out;omega),if_pos (.inr ⟨by rw[<-N.out];exact hl.1,hl.2⟩)]
          have r:(sgnP j λk=>Z k j)= -1:=by rw[zhp hlk x (by show zap j k (Z k j)≠0;rw[f];decide)];exact f
          have s:=hid r;generalize cmpZ g 0=O at*
          clear f r hneg hl;go_wp21;refine zzM (o _ (q.below d.out)) λC c=>?_;have h:=hid (d.trans (c.mono d.size));clear c o;go_wp21;go_ret2;exact⟨by rw[s.out];rfl,h.out⟩
         ·have f:zap j k (Z k j)=0:=by unfold zap;rw[if_neg (by have:=M.out;omega),if_neg (by rw[<-N.out];omega)]
          have al:=hid f;have ae:Hid (∀i,i<k+1->zap j i (Z i j)=0):=hid λi b0=>by
           by_cases e:i=k
           ·rw[e];exact al.out
           ·exact x i (by omega)
          have ao:(cmpZ g 0==0)=zu\/((cmpZ g 0==0)=zt/\((k:Int)+1==3)=zu):=by
           by_cases e:g=0
           ·right
            exact⟨by rw[e];rfl,by rw[a4.out,decide_eq_false (λa9=>hl ⟨e,a9⟩)]⟩
           ·left
            unfold cmpZ;rw[if_neg hneg,if_pos (by omega)];rfl
          generalize cmpZ g 0=O at*
          clear f hneg hl;rcases ao with G|⟨G,ay⟩
          ·go_wp21
           refine zzM (o _ (q.below d.out)) λC c=>?_;have h:=hid (d.trans (c.mono d.size));clear c o;go_wp21;go_roundw
           case rel=>exact⟨k+1,by omega,by go_num,ae,h⟩
           case measure=>simp[zL];omega
          ·go_wp21
           refine zzM (o _ (q.below d.out)) λC c=>?_;have h:=hid (d.trans (c.mono d.size));clear c o;go_wp21;go_roundw
           case rel=>exact⟨k+1,by omega,by go_num,ae,h⟩
           case measure=>simp[zL];omega
  ·have H:k=3:=by omega
   subst H;have s:=hid (znr (Z:=λk=>Z k n) x.out);go_wp21;go_ret2;exact⟨by rw[s.out];rfl,J.out⟩
theorem zjn (p s:Value) (o j:Int) (R:Value->zA->Prop) (f i:Prop) (w:zA)
 (S:Hid (zC zF 125 #[p,s] w λe w'=>∃q n c r,e=zo (ze #[z7 q n c,zj zm r])/\zB w.heap.size w w'/\((r=0/\R (z7 q n c) w'/\f)\/(r=4/\i))))
 (G:Hid (∀(g:zA) (u:Value),f->qL w g->R u g->qJ 147 #[u] g (ze #[zj zm o,zj zm j]))):
 zC zF 108 #[p,s] w λe w'=>∃m r,e=zo (ze #[zj zm m,zj zm r])/\zB w.heap.size w w'/\((r=4/\m=0/\i)\/(m=o/\r=j/\f)):=by
 go_enter Tryz.func108,Tryz.ntmps108;go_wp21;refine S.mono ?_;rintro e z ⟨q,n,c,r,rfl,a,b⟩;have d:=hid a;rcases b with⟨rfl,b,h⟩|⟨rfl,k⟩
 ·have y:=hid (G z _ h a b)
  have v:=hid h;clear a b G S h;go_wp21;refine zzM y.out λA l=>?_;have t:=hid (d.trans (l.mono d.size));clear l;go_wp21;go_ret2;exact⟨_,_,rfl,t.out,.inr ⟨rfl,rfl,v.out⟩⟩
 ·have x:=hid k
  clear a G S k;go_wp21;go_ret2;exact⟨_,_,rfl,d.out,.inl ⟨rfl,rfl,x.out⟩⟩
theorem zj4 (i j:Value) (b:Nat) (h:Int) (R:Option Addr->Nat->zA->Prop) (w:zA)
 (S:Hid (zC zF 125 #[i,j] w λe w'=>∃q d,e=zo (ze #[z7 q b d,zj zm 0])/\zB w.heap.size w w'/\R q d w'))
 (G:Hid (∀(a:zA) (q:Option Addr) (d:Nat),qL w a->R q d a->qJ 147 #[z7 q b d] a (ze #[zj zm h,zj zm 0]))):
 qJ 108 #[i,j] w (ze #[zj zm h,zj zm 0]):=
 (zjn i j h 0 (λk a=>∃q d,k=z7 q b d/\R q d a) True False w (hid (S.mono λe w' ⟨q,d,c,f,g⟩=>⟨q,b,d,0,c,f,.inl ⟨rfl,⟨q,d,rfl,g⟩,trivial⟩⟩)) (hid λa k _ m ⟨q,d,o,n⟩=>by subst o;exact G a q d m n)).mono λe w' ⟨p,r,c,f,g⟩=>by
   rcases g with⟨_,_,l⟩|⟨rfl,rfl, -⟩
   ·exact l.elim
   ·exact⟨c,f⟩
theorem z0o (j v:Option Addr) (i g c1 c2 G:Nat) (R H:Option Addr->Nat->zA->Prop) (t:Value->Int->zA->Prop) (w:zA)
 (B:Hid (qJ 131 #[z7 j i c1,z7 v g c2] w (zg zt)))
 (S:Hid (∀a:zA,qL w a->zC zF 164 #[z7 v g c2,z8 ⟨#[45,49]⟩] a λe w'=>∃q d,e=zo (ze #[z7 q g d,zj zm 0])/\zB a.heap.size a w'/\R q d w'))
 (y:Hid (∀(a:zA) (q:Option Addr) (d b:Nat),qL w a->w.heap.size<=b->(∃k,qL w k/\R q d k/\zB k.heap.size k a)->a.cell? ⟨b,0,zp⟩=zq (z7 j i c1)->a.cell? ⟨b,1,zp⟩=zq (z7 q g d)->zC zF 133 #[z7 (zq ⟨b,0,zp⟩) 2 2] a λe w'=>∃T I,e=zo (z7 T G I)/\zB a.heap.size a w'/\H T I w'))
 (F:Hid (∀(a:zA) (q:Option Addr) (d:Nat),qL w a->H q d a->zC zF 132 #[z7 q G d] a λe w'=>∃q n c r,e=zo (ze #[z7 q n c,zj zm r])/\zB a.heap.size a w'/\t (z7 q n c) r w')):
 zC zF 125 #[z7 j i c1,z7 v g c2] w λe w'=>∃q n c r,e=zo (ze #[z7 q n c,zj zm r])/\zB w.heap.size w w'/\t (z7 q n c) r w':=by
 go_enter Tryz.func125,Tryz.ntmps125;go_wp21;refine zzM B.out λZ u=>?_;have o:=hid u;have D:=hid (S Z u);clear u B S;go_wp21;refine D.mono ?_;rintro e h ⟨q,d,rfl,K,N⟩;have f:=o.trans (K.mono o.size);obtain⟨x,l⟩:=zzX (h.alloc (zn #[z7 j i c1,z7 q g d] 49));have a1:qL h x:=by rw[l];exact(zM _ h).alloc (zN _) _
 have m:x.heap[h.heap.size]? =zq (zn #[z7 j i c1,z7 q g d] 49 (0,0)):=by rw[l];exact zG h _
 have A:=hid (y x q d h.heap.size (f.trans (a1.mono f.size)) f.size ⟨h,f,N,a1⟩ (by rw[zJ m];rfl) (by rw[zJ m];rfl));have E:=hid l.symm;have p:=hid (f.trans (a1.mono f.size));clear l a1 m y f K N D o;go_wp21;rw[E.out];clear E;refine A.mono ?_;rintro e a0 ⟨Y,X,rfl,L,O⟩;have f:=p.trans (L.mono p.size);have s:=hid f;have C:=hid (F a0 Y X f O);clear f L O F A p;go_wp21;refine C.mono ?_;rintro e W ⟨U,Q,J,V,rfl,M,P⟩;have z:=hid (⟨s.trans (M.mono s.size),P⟩:qL w W/\t (z7 U Q J) V W);clear M P C s;go_wp21;go_ret2;exact⟨U,Q,J,V,rfl,z.1,z.2⟩
theorem z61 (a b c:Rat) (i j:Nat) (g:0<i) (l:0<j) (k:i+j<=300) (ha:sz a i) (f:sz b j) (h:a*b=c) (d:zA) (e:Wd d):qJ 106 #[St (numS a),St (numS b)] d (ze #[St (numS c),zj zm 0]):=by
 rw[<-h];exact zjf a b i j g l k ha f d e
theorem zsf {a:Rat} (h:a≠0):(numS a==[48])=zu:=by rw[beq_eq_false_iff_ne];exact λe=>h ((zpy a).1 e)
def strT (t:Rat×Nat):List UInt8×List UInt8:=(numS t.1,zD t.2)
end
end Go.Proofs.YtjmljcdbjakefaaGreatDoor
