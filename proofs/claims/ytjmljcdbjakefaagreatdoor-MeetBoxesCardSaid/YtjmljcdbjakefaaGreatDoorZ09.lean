/- slices.Grow and slices.Concat -/
import Derived.Test.YtjmljcdbjakefaaGreatDoorZ08
import Derived.Lib.AppendZerosOnto
import Derived.Laws.AppendOwnNone
set_option maxRecDepth 100000
set_option maxHeartbeats 8000000
open Go.Value renaming slice → z7, string → z8, tuple → ze, pointer → zf, agg → zh, int → zj
open Go.IntKind renaming i64 → zm
open Go.Obj renaming cells → zn
open Go.Ending renaming returned → zo
open Option renaming none → zp, some → zq
open Bool renaming false → zu
open Go renaming World → zA, Calls → zC
open Go.RowKit renaming Below → zB, intOf → zL
open Go.Lib renaming decDigits → zD
open Go.Proofs.Tryz renaming prog → zF
open Go.World renaming alloc_heap_new → zG, size_alloc → zH
open Go.Joins renaming cell_of_block → zJ, block_setCell → zK
open Go.RowKit.Below renaming refl → zM, heap_setCell → yE
open Nat renaming le_refl → zN, le_trans → zO, zero_le → zR, pow_le_pow_right → yF
open List renaming length_append → zU, getElem?_eq_getElem → yB, append_nil → yH
namespace Go.Proofs.YtjmljcdbjakefaaGreatDoor
section
open Go.RowKit Go.Shelf Lib Str Limb
attribute [local go_sem] Oper.semAt_some
theorem zui:∀(l:List (List UInt8×List UInt8)),∀u∈zbj l,u.oneCell'=true
 |[],u,h=>by simp[zbj] at h
 |a::r,u,h=>by
  rcases List.mem_cons.1 h with rfl|h
  ·rfl
  ·rcases List.mem_cons.1 h with rfl|h
   ·rfl
   ·exact zui r u h
theorem zpa {w:zA} {base:Nat} {e:TypeId} {b:Nat} {v:Value} {n:Nat} {xs:List Value} (h:w.ownsRow base e b v n xs):∃q c,v=z7 q n c:=by
 rcases h.2 with⟨rfl,rfl⟩|⟨f,a,d,rfl,_⟩
 ·exact⟨zp,0,rfl⟩
 ·exact⟨_,a,rfl⟩
def catL (L:Nat->List (List UInt8×List UInt8)):Nat->List (List UInt8×List UInt8)
 |0=>[]
 |k+1=>catL L k++L k
theorem zih (a:Nat->List (List UInt8×List UInt8)) {k:Nat}:∀{m:Nat},k<=m->(catL a k).length<=(catL a m).length
 |0,c=>by rw[show k=0 by omega];exact zN _
 |m+1,c=>by
  rcases Nat.lt_or_ge m k with b|b
  ·obtain rfl:k=m+1:=by omega
   exact zN _
  ·have:=zih a b
   show _<=(catL a m++a m).length;rw[zU];omega
theorem z62 (n:Nat) (m:1<=n) (r:n<=10000) (w:zA):
 zC zF 178 #[z7 zp 0 0,zj zm (n:Int)] w λe w'=>∃v,e=zo v/\w'.ownsRow w.heap.size 58 2 v 0 []/\zB w.heap.size w w':=by
 obtain⟨j,g,i,p,c⟩:=info_parts zsc;have h:∀d,(Builtin.append_ #[49,3] d #[z7 zp 0 0,zj zm (n:Int)]).run zF w=
  .ok (z7 (zq ⟨w.heap.size,0,zp⟩) n (grownCap w n 0 58)) (w.drew.alloc (zn (#[]++Builtin.zeroCells (zh #[St [],St []]).cells n++Builtin.zeroCells (zh #[St [],St []]).cells (grownCap w n 0 58-n)) 58)):=λd=>by
  have l:=Lib.run_append_grow_zeros w 49 3 d 58 j (zh #[St [],St []]) zm zm Tryz.underlying49 Tryz.underlying3 g i zp 0 0 [] (run_firstCells_none w.drew j.size 0 0 0) n m (by omega) (by omega) (by omega) (by rw[c];omega) (by rw[c];exact growslice_fits (by omega) (by omega));simpa using l
 have o:n<=grownCap w n 0 58:=grownCap_ge w _ _ _;have b:grownCap w n 0 58<=maxLen:=grownCap_le_maxLen w n 0 58 (by unfold maxLen;omega);generalize grownCap w n 0 58=a at*
 have k:=hid (h);clear h;have f:=hid (⟨o,b⟩:n<=a/\a<=maxLen);have q:a<=9223372036854775807:=by unfold maxLen at b;omega
 clear g i p c b;have s:¬(n:Int)<0:=by omega
 have t:(0:Int)<n:=by omega
 have u:zm.wrap (n:Int)=n:=IntWalk.i64_in _ ⟨by omega,by omega⟩;go_enter Tryz.func178,Tryz.ntmps178;go_wp2_with (at_builtin;refine Lib.wpList_append_run _ rfl _ _ _ _ rfl _ _ rfl rfl _ _ (k _) ?_);go_ret;refine⟨_,rfl,⟨rfl,.inr ⟨w.heap.size,a,_,rfl,zN _,zG w _,zR _,f.2,?_,by simp⟩⟩,((zM _ w).alloc (zN _) _).drew⟩;have:=f.1;rw[Array.size_append,size_zeroCells,size_zeroCells];show n*2+(a-n)*2=a*2;omega
theorem z5g (b m:Nat) (p:Nat->Option Addr) (c:Nat->Nat) (a:Nat->List (List UInt8×List UInt8)) (ai:m<=4096) (B:(catL a m).length<=4096) (w:zA)
 (y:Hid (∀f:zA,zC zF 178 #[z7 zp 0 0,zj zm ((catL a m).length:Int)] f λe w'=>∃v,e=zo v/\w'.ownsRow f.heap.size 58 2 v 0 []/\zB f.heap.size f w'))
 (a1:Hid (∀k,k<m->(p k=zp/\(a k).length=0/\c k=0)\/∃g o,p k=zq ⟨g,o,zp⟩/\∀f:zA,qL w f->∀j u,(zbj (a k))[j]? =zq u->f.cell? ⟨g,o+j,zp⟩=zq u))
 (G:Hid (∀f:zA,qL w f->∀k,k<m->f.cell? ⟨b,k,zp⟩=zq (z7 (p k) (a k).length (c k)))):
 zC zF 133 #[z7 (zq ⟨b,0,zp⟩) m m] w λe w'=>∃v,e=zo v/\w'.ownsRow w.heap.size 58 2 v (catL a m).length (zbj (catL a m))/\zB w.heap.size w w':=by
 obtain⟨ae,C⟩:=zzX ((catL a m).length);rw[<-C] at y B⊢;have t:=hid C;clear C;go_enter Tryz.func133,Tryz.ntmps133;go_wp21;go_loopw [11,3] (λd x wr=>∃(k:Nat),k<=m/\d=zj zm (k:Int)/\x=zj zm ((catL a k).length:Int)/\Hid (wr=w))
  (λd _ _=>m-(zL d).toNat)
 case atStart=>exact⟨0,zR _,rfl,rfl,hid rfl⟩
 case round=>
  obtain⟨k,ah,rfl,rfl,h⟩:=hrel;obtain rfl:=h.symm;clear h;by_cases hlt:k<m
  ·have q:=G w (zM _ _) k hlt
   have Q:(catL a k).length+(a k).length=(catL a (k+1)).length:=(zU ..).symm;have P:(catL a (k+1)).length<=4096:=zO (zih a hlt) (by rw[<-t.out];exact B);obtain⟨x,F⟩:=zzX ((catL a (k+1)).length);rw[<-F] at Q P;have a2:=hid F;clear F;generalize (catL a k).length=ac at*
   generalize (a k).length=ad at*
   generalize p k=al at q;generalize c k=af at q;have ak:zm.wrap ((ac:Int)+(ad:Int))=(x:Int):=by rw[IntWalk.i64_in _ ⟨by omega,by omega⟩];omega
   have aj:¬(x:Int)<0:=by omega
   clear Q P;go_wp21;go_roundw
   case rel=>exact⟨k+1,by omega,by go_num,by rw[a2.out],hid trivial⟩
   case measure=>simp[zL];omega
  ·have a7:k=m:=by omega
   subst a7;rw[<-t.out];go_wp21;refine(y w).mono ?_;rintro e an ⟨v,rfl,D,L⟩;obtain⟨aa,a3,rfl⟩:=zpa D;have Z:=hid D;have W:=hid L;clear D L y;go_wp21;go_loopw [27,6] (λd v wr=>∃(j:Nat) (l:Option Addr) (i:Nat),j<=k/\d=zj zm (j:Int)/\v=z7 l (catL a j).length i/\Hid (qL w wr)/\Hid (wr.ownsRow w.heap.size 58 2 (z7 l (catL a j).length i) (catL a j).length (zbj (catL a j))))
    (λd _ _=>k-(zL d).toNat)
   case atStart=>exact⟨0,aa,a3,zR _,rfl,rfl,W,Z⟩
   case round=>
    obtain⟨j,l,i,ag,rfl,rfl,h,s⟩:=hrel;by_cases hjk:j<k
    ·have q:=G wr h j hjk
     obtain⟨U,O,R,S,T⟩:=info_parts zsc;have n:=hid (⟨O,R,S,T⟩:_/\_/\_/\_);have z:=hid (show(catL a j).length+(a j).length=(catL a (j+1)).length from(zU ..).symm);have I:=hid (show(catL a j).length+(a j).length<=4096 by rw[z.out];exact zO (zih a hjk) (by rw[<-t.out];exact B));clear O R S T;rcases a1 j hjk with⟨r,A,K⟩|⟨g,o,r,M⟩
     ·rw[r,A,K] at q
      have H:=hid (show catL a (j+1)=catL a j by show catL a j++a j=_;rw[List.length_eq_zero_iff.1 A,yH]);clear r A K;go_wp2_with (at_builtin;refine wpList_append_own_none rfl _ _ 49 rfl w.heap.size 58 U 2 Tryz.underlying49 n.1 (z7 l (catL a j).length i) (catL a j).length (zbj (catL a j)) rfl s rfl ?_);go_wp21;go_roundw
      case rel=>exact⟨j+1,l,i,by omega,by go_num,by rw[H.out],h,by rw[H.out];exact s⟩
      case measure=>simp[zL];omega
     ·rw[r] at q
      have Y:=hid (show ∀d u,(zbj (a j))[d]? =zq u->wr.cell? ((⟨g,o,zp⟩:Addr).add d)=zq u from λd u a9=>by
       have a4:(⟨g,o,zp⟩:Addr).add d=⟨g,o+d,zp⟩:=by unfold Addr.add;split<;>simp_all
       rw[a4];exact M wr h _ _ a9)
      clear r M;go_wp2_with (at_builtin;refine wpList_append_own_at _ rfl _ _ 49 rfl w.heap.size 58 U (zh #[St [],St []]) 2 32 Tryz.underlying49 n.1 n.2.1 n.2.2.1 n.2.2.2 rfl (by decide) (z7 l (catL a j).length i) (catL a j).length (zbj (catL a j)) rfl s ⟨g,o,zp⟩ (a j).length (c j) (zbj (a j)) rfl (by rw[zn8]) Y (zui _) (by have:=I.out;unfold maxLen;omega) (by have:=I.out;omega) h.size ?_);intro am ab E N a8 a5
      obtain⟨V,J,rfl⟩:=zpa E;have X:=hid (h.grown N h.size (λg e=>(s.lt g e).1));have a0:=hid (show ab.ownsRow w.heap.size 58 2 (z7 V (catL a (j+1)).length J) (catL a (j+1)).length (zbj (catL a (j+1))) by
       rw[<-z.out,show catL a (j+1)=catL a j++a j from rfl,zjb];exact E)
      clear E N a8 a5
      go_wp21;go_roundw
      case rel=>exact⟨j+1,V,J,by omega,by go_num,by rw[<-z.out],X,a0⟩
      case measure=>simp[zL];omega
    ·have a6:j=k:=by omega
     subst a6;go_wp21;go_ret;refine⟨_,rfl,?_,h.out⟩;rw[t.out];exact s.out
theorem zl9 (w:zA):
 zC zF 178 #[z7 zp 0 0,zj zm ((0:Nat):Int)] w λe w'=>∃v,e=zo v/\w'.ownsRow w.heap.size 58 2 v 0 []/\zB w.heap.size w w':=by
 go_enter Tryz.func178,Tryz.ntmps178;go_wp21;go_ret;exact⟨_,rfl,World.ownsRow_nil _ _ _ _,zM _ _⟩
theorem yfu (p:Option Addr) (cap n:Nat) (m:Nat->List UInt8) (f:Value) (y:n<=5000) (w:zA)
 (r:Hid (∀i,i<n->∃b off,p=zq ⟨b,off,zp⟩/\w.cell? ⟨b,off+i*2,zp⟩=zq (z8 ⟨#[48]⟩)/\w.cell? ⟨b,off+i*2+1,zp⟩=zq (St (m i)))):
 qJ 173 #[z7 p n cap,f] w (zj zm 0):=by
 have j:=hid (zM w.heap.size w);go_enter Tryz.func173,Tryz.ntmps173;go_wp21;go_loopw [13] (λi wr=>∃(a:Nat),a<=n/\i=zj zm (a:Int)/\Hid (qL w wr))
  (λi _=>n-(zL i).toNat)
 case atStart=>exact⟨0,zR _,rfl,j⟩
 case round=>
  clear j;obtain⟨a,x,rfl,c⟩:=hrel;by_cases hlt:a<n
  ·obtain⟨b,off,rfl,o,c1⟩:=r a hlt
   generalize m a=g at*
   have u:wr.cell? ⟨b,off+a*2,zp⟩=zq (z8 ⟨#[48]⟩):=zai c o;have v:wr.cell? ⟨b,off+a*2+1,zp⟩=zq (St g):=zai c c1;obtain⟨e,d⟩:=zzX (wr.alloc (zn #[z8 ⟨#[48]⟩,St g] 58));have a1:qL wr e:=by rw[d];exact(zM _ wr).alloc (zN _) _
   have h:e.heap[wr.heap.size]? =zq (zn #[z8 ⟨#[48]⟩,St g] 58 (0,0)):=by rw[d];exact zG wr _
   have s:e.cell? ⟨wr.heap.size,0,zp⟩=zq (z8 ⟨#[48]⟩):=by rw[zJ h];rfl
   have t:e.cell? ⟨wr.heap.size,1,zp⟩=zq (St g):=by rw[zJ h];rfl
   rw[d] at s t;have l:=hid d.symm;have k:=hid a1;clear d a1 h o c1;go_wp21;rw[l.out] at*
   clear u v l;have q:=hid (c.trans (k.mono c.size));clear k;go_roundw
   case rel=>exact⟨a+1,by omega,by go_num,q⟩
   case measure=>simp[zL];omega
  ·go_wp21
   go_ret;exact⟨rfl,c.out⟩
def SdL (v:Value) (l:List (Rat×Nat)) (W:zA):Prop:=
 (v=z7 zp 0 0/\l=[])\/∃b off cap,v=z7 (zq ⟨b,off,zp⟩) l.length cap/\l.length<=cap/\b<W.heap.size/\
   ∀i t,l[i]? =zq t->W.cell? ⟨b,off+i*2,zp⟩=zq (St (numS t.1))/\W.cell? ⟨b,off+i*2+1,zp⟩=zq (St (zD t.2))
theorem SdL.below {v:Value} {l:List (Rat×Nat)} {b c:zA} (h:SdL v l b) (a:qL b c):SdL v l c:=by
 rcases h with h|⟨i,o,j,k,m,n,e⟩
 ·exact .inl h
 ·exact .inr ⟨i,o,j,k,m,Nat.lt_of_lt_of_le n a.size,λf g d=>⟨zai a (e f g d).1,zai a (e f g d).2⟩⟩
theorem SdL.slice {v:Value} {l:List (Rat×Nat)} {a:zA} (h:SdL v l a):∃p cap,v=z7 p l.length cap/\l.length<=cap/\∀i t,l[i]? =zq t->∃b off,p=zq ⟨b,off,zp⟩/\b<a.heap.size/\a.cell? ⟨b,off+i*2,zp⟩=zq (St (numS t.1))/\a.cell? ⟨b,off+i*2+1,zp⟩=zq (St (zD t.2)):=by
 rcases h with⟨rfl,rfl⟩|⟨b,off,cap,d,e,f,g⟩
 ·exact⟨zp,0,rfl,zN _,λi t c=>by simp at c⟩
 ·exact⟨_,cap,d,e,λi t c=>⟨b,off,rfl,f,g i t c⟩⟩
theorem SdL.nil (W:zA):SdL (z7 zp 0 0) [] W:=.inl ⟨rfl,rfl⟩
theorem SdL.own {B n c:Nat} {q:Option Addr} {l:List (Rat×Nat)} {f:zA} (h:f.ownsRow B 58 2 (z7 q n c) n (zbj (l.map strT))) (u:n=l.length):SdL (z7 q n c) l f:=by
 subst u;rcases h.2 with⟨a,g⟩|⟨p,z,A,a,D,s,E,_⟩
 ·injection a with b i e
  subst b;subst e;exact .inl ⟨by rw[g],List.length_eq_zero_iff.1 g⟩
 ·have r:l.length<=c:=by injection a with b i e;omega
  injection a with b i e;subst b;refine .inr ⟨p,0,c,rfl,r,(Array.getElem?_eq_some_iff.1 s).1,λm x j=>?_⟩;have t:(l.map strT)[m]? =zq (strT x):=by rw[List.getElem?_map,j];rfl
  obtain⟨v,w⟩:=zpb _ m _ t;obtain⟨C,y,o, -,k⟩:=zye h (by have:=(List.getElem?_eq_some_iff.1 j).1;omega);injection o with d _ _;injection d with d;cases d;rw[Nat.zero_add];exact⟨k _ _ v,k _ _ w⟩
def OutR (l:List (Rat×Nat)) (E F:Prop) (v:Value) (r:Int) (W:zA):Prop:=(r=0/\SdL v l W/\E)\/(r=4/\v=z7 zp 0 0/\F)
theorem OutR.of {l:List (Rat×Nat)} {v:Value} {W:zA} (h:SdL v l W):OutR l True False v 0 W:=.inl ⟨rfl,h,trivial⟩
theorem OutR.below {l:List (Rat×Nat)} {a b:Prop} {v:Value} {r:Int} {c d:zA} (h:OutR l a b v r c) (e:qL c d):OutR l a b v r d:=h.imp (λh=>⟨h.1,h.2.1.below e,h.2.2⟩) id
theorem SdL.any {v:Value} {l:List (Rat×Nat)} {a:zA} (h:SdL v l a):∃q n c,v=z7 q n c:=by
 obtain⟨e,d,b, -⟩:=h.slice;exact⟨_,_,_,b⟩
theorem zeu {P:Program} {f:FuncId} {a:Array Value} {w:zA} {l:List (Rat×Nat)} (h:zC P f a w λe w'=>∃v,e=zo (ze #[v,zj zm 0])/\zB w.heap.size w w'/\SdL v l w'):zC P f a w λe w'=>∃q n c r,e=zo (ze #[z7 q n c,zj zm r])/\zB w.heap.size w w'/\OutR l True False (z7 q n c) r w':=
 h.mono λe w' ⟨v,d,g,b⟩=>by
  obtain⟨q,n,c,rfl⟩:=b.any;exact⟨q,n,c,0,d,g,OutR.of b⟩
theorem zj8 (b:Nat) (G H:Value) (i j:List (Rat×Nat)) (C:i.length+j.length<=4096) (w:zA) (M:SdL G i w) (N:SdL H j w) (S:w.cell? ⟨b,0,zp⟩=zq G) (T:w.cell? ⟨b,1,zp⟩=zq H):
 zC zF 133 #[z7 (zq ⟨b,0,zp⟩) 2 2] w λe w'=>∃v,e=zo v/\zB w.heap.size w w'/\SdL v (i++j) w':=by
 have L:∀q:Nat,q<=4096->∀a:zA,zC zF 178 #[z7 zp 0 0,zj zm (q:Int)] a λe w'=>∃v,e=zo v/\w'.ownsRow a.heap.size 58 2 v 0 []/\zB a.heap.size a w':=λq X a=>by
  rcases Nat.eq_zero_or_pos q with rfl|n
  ·exact zl9 a
  ·exact z62 q n (by omega) a
 have W:∀(g x:Nat) (f:List (Rat×Nat)),(∀A h,f[A]? =zq h->w.cell? ⟨g,x+A*2,zp⟩=zq (St (numS h.1))/\w.cell? ⟨g,x+A*2+1,zp⟩=zq (St (zD h.2)))->∀a:zA,qL w a->∀c k,(zbj (f.map strT))[c]? =zq k->a.cell? ⟨g,x+c,zp⟩=zq k:=λg x f n a o c k p=>by
  have P:c<(f.map strT).length*2:=by have:=(List.getElem?_eq_some_iff.1 p).1;rwa [zn8] at this
  rw[List.length_map] at P;obtain⟨h,E⟩:∃h,f[c/2]? =zq h:=⟨_,yB (by omega)⟩;have Q:(f.map strT)[c/2]? =zq (strT h):=by rw[List.getElem?_map,E];rfl
  obtain⟨s,t⟩:=zpb _ _ _ Q;obtain⟨I,c1⟩:=n _ h E;rcases Nat.mod_two_eq_zero_or_one c with e|e
  ·have m:c=c/2*2:=by omega
   rw[m] at p;rw[p] at s;injection s with s;rw[s,m];exact zai o I
  ·have m:c=c/2*2+1:=by omega
   rw[m] at p;rw[p] at t;injection t with t;rw[t,m,<-Nat.add_assoc];exact zai o c1
 have F:∀{v:Value} {f:List (Rat×Nat)},SdL v f w->∃B l,v=z7 B (f.map strT).length l/\((B=zp/\(f.map strT).length=0/\l=0)\/∃g r,B=zq ⟨g,r,zp⟩/\∀a:zA,qL w a->∀c k,(zbj (f.map strT))[c]? =zq k->a.cell? ⟨g,r+c,zp⟩=zq k):=λn=>by
  rcases n with⟨rfl,rfl⟩|⟨g,r,l,rfl,_,_,R⟩
  ·exact⟨zp,0,rfl,.inl ⟨rfl,rfl,rfl⟩⟩
  ·exact⟨_,l,by rw[List.length_map],.inr ⟨g,r,rfl,W g r _ R⟩⟩
 obtain⟨U,c1,rfl,J⟩:=F M;obtain⟨V,c2,rfl,K⟩:=F N;have u:catL (λd=>if d=0 then i.map strT else j.map strT) 2=(i++j).map strT:=by rw[List.map_append];rfl
 refine(z5g b 2 (λd=>if d=0 then U else V) (λd=>if d=0 then c1 else c2) (λd=>if d=0 then i.map strT else j.map strT) (by omega) (by rw[u];simpa using C) w (hid (L _ (by rw[u];simpa using C))) (hid λd y=>?_) (hid λa o d y=>?_)).mono λe w' ⟨v,D,z,O⟩=>?_
 ·match d,y with
  |0,_=>exact J
  |1,_=>exact K
 ·match d,y with
  |0,_=>exact zai o S
  |1,_=>exact zai o T
 ·obtain⟨Y,l,rfl⟩:=zpa z
  rw[u] at z;rw[u] at D;exact⟨_,D,O,SdL.own z (by simp)⟩
theorem yd4 (d i:Value) (m:Value->zA->Prop) (o:Value->Int->zA->Prop) (w:zA)
 (B:Hid (qJ 131 #[d,i] w (.bool true)))
 (z:Hid (∀(a:zA) (b:Nat),qL w a->a.cell? ⟨b,0,zp⟩=zq d->a.cell? ⟨b,1,zp⟩=zq i->zC zF 133 #[z7 (zq ⟨b,0,zp⟩) 2 2] a λe w'=>∃v,e=zo v/\zB a.heap.size a w'/\m v w'))
 (F:Hid (∀(a:zA) (v:Value),qL w a->m v a->zC zF 132 #[v] a λe w'=>∃q n c r,e=zo (ze #[z7 q n c,zj zm r])/\zB a.heap.size a w'/\o (z7 q n c) r w'))
 (x y:Option Addr) (t u c1 c2:Nat) (M:d=z7 x t c1) (N:i=z7 y u c2) (O:Hid (∀v a,m v a->∃q n c,v=z7 q n c)):
 zC zF 92 #[d,i] w λe w'=>∃q n c r,e=zo (ze #[z7 q n c,zj zm r])/\zB w.heap.size w w'/\o (z7 q n c) r w':=by
 subst M;subst N;go_enter Tryz.func92,Tryz.ntmps92;go_wp21;refine zzM B.out λg p=>?_;obtain⟨d,h⟩:=zzX (g.alloc (zn #[z7 x t c1,z7 y u c2] 49));have a1:qL g d:=by rw[h];exact(zM _ g).alloc (zN _) _
 have j:d.heap[g.heap.size]? =zq (zn #[z7 x t c1,z7 y u c2] 49 (0,0)):=by rw[h];exact zG g _
 have f:=p.trans (a1.mono p.size);have C:=hid (z d g.heap.size f (by rw[zJ j];rfl) (by rw[zJ j];rfl));have E:=hid h.symm;have k:=hid f;clear h a1 j z f p;go_wp21;rw[E.out];clear E;refine C.mono ?_;rintro e J ⟨R,rfl,G,s⟩;obtain⟨q,n,c,rfl⟩:=O R J s;have f:=k.trans (G.mono k.size);have l:=hid f;have D:=hid (F J _ f s);clear f G s F C k;go_wp21;refine D.mono ?_;rintro e K ⟨Q,P,L,S,rfl,H,I⟩;have A:=hid (⟨l.trans (H.mono l.size),I⟩:qL w K/\o (z7 Q P L) S K);clear H I D l;go_wp21;go_ret2;exact⟨_,_,_,_,rfl,A.1,A.2⟩
def sclL (l:List (Rat×Nat)) (c:Rat):List (Rat×Nat):=l.map λt=>(t.1*c,t.2)
theorem zkb (v:Value) (l:List (Rat×Nat)) (c:Rat) (A:l.length<=256) (B:∀t∈l,sz t.1 150) (z:sz c 150) (w:zA) (r:Hid (∀k,qL w k->Wd k)) (h:SdL v l w):
 zC zF 164 #[v,St (numS c)] w λe w'=>∃q,e=zo (ze #[q,zj zm 0])/\zB w.heap.size w w'/\SdL q (sclL l c) w':=by
 obtain⟨E,s,rfl, -,C⟩:=h.slice;let o:Nat->List UInt8:=λa=>numS ((l[a]?.getD (1,1)).1);let i:Nat->List UInt8:=λa=>zD ((l[a]?.getD (1,1)).2);let g:Nat->List UInt8:=λa=>numS ((l[a]?.getD (1,1)).1*c);have m:∀a,a<l.length->∃t,l[a]? =zq t:=λa j=>⟨_,yB j⟩;have f:∀(a:Nat) (t:Rat×Nat),l[a]? =zq t->o a=numS t.1/\i a=zD t.2/\g a=numS (t.1*c):=λa t h=>⟨by show numS ((l[a]?.getD (1,1)).1)=_;rw[h];rfl,by show zD ((l[a]?.getD (1,1)).2)=_;rw[h];rfl,by show numS ((l[a]?.getD (1,1)).1*c)=_;rw[h];rfl⟩;have p:∀b,b<=l.length->scK g i b=((sclL l c).take b).map strT:=by
  intro b
  induction b with
  |zero=>intro _;rfl
  |succ b D=>
   intro p;obtain⟨t,d⟩:=m b (by omega);have e:(sclL l c)[b]? =zq (t.1*c,t.2):=by unfold sclL;rw[List.getElem?_map,d];rfl
   show scK g i b++[(g b,i b)]=_;rw[D (by omega),(f b t d).2.1,(f b t d).2.2,List.take_add_one,e,List.map_append];rfl
 refine(z6y E s l.length o i g (numS c) A w r (hid λa j k x=>?_) (hid λa j=>?_)).mono λe w' ⟨G,F,u,y,n⟩=>⟨_,u,y,?_⟩
 ·obtain⟨t,d⟩:=m a j
  rw[(f a t d).1,(f a t d).2.2];exact zjf t.1 c 150 150 (by omega) (by omega) (by omega) (B t (List.mem_of_getElem? d)) z k x
 ·obtain⟨t,d⟩:=m a j
  rw[(f a t d).1,(f a t d).2.1];exact C a t d
 ·rw[p _ (zN _)] at n
  rw[List.take_of_length_le (by simp[sclL])] at n;exact SdL.own n (by simp[sclL])
theorem zxs (v:Value) (x:List UInt8) (h:Value->zA->Prop) (i:Value->Int->zA->Prop) (w:zA)
 (E:Hid (qJ 124 #[v] w (zj zm 0)))
 (t:Hid (∀a:zA,qL w a->qJ 104 #[St x] a (zj zm 0)))
 (S:Hid (∀a:zA,qL w a->zC zF 164 #[v,St x] a λe w'=>∃B,e=zo (ze #[B,zj zm 0])/\zB a.heap.size a w'/\h B w'))
 (s:Hid (∀(a:zA) (v:Value),qL w a->h v a->zC zF 132 #[v] a λe w'=>∃q n c r,e=zo (ze #[z7 q n c,zj zm r])/\zB a.heap.size a w'/\i (z7 q n c) r w'))
 (K:Option Addr) (J c1:Nat) (G:v=z7 K J c1) (H:Hid (∀v a,h v a->∃q n c,v=z7 q n c)):
 zC zF 134 #[v,St x] w λe w'=>∃q n c r,e=zo (ze #[z7 q n c,zj zm r])/\zB w.heap.size w w'/\i (z7 q n c) r w':=by
 subst G;go_enter Tryz.func134,Tryz.ntmps134;go_wp21;refine zzM E.out λO j=>?_;have d:=hid j;have o:=hid (t O j);clear j t;go_wp21;refine zzM o.out λP u=>?_;have b:=d.trans (u.mono d.size);have p:=hid (S P b);have f:=hid b;clear b u S o d;go_wp21;refine p.mono ?_;rintro e C ⟨M,rfl,y,k⟩;obtain⟨q,n,c,rfl⟩:=H M C k;have b:=f.trans (y.mono f.size);have g:=hid b;have m:=hid (s C _ b k);clear b y k s p f;go_wp21;refine m.mono ?_;rintro e D ⟨L,I,F,N,rfl,z,A⟩;have l:=hid (⟨g.trans (z.mono g.size),A⟩:qL w D/\i (z7 L I F) N D);clear z A m g;go_wp21;go_ret2;exact⟨_,_,_,_,rfl,l.1,l.2⟩
end
section
open Go.RowKit Go.Shelf Lib Str Limb
def rt (q:Rat):Rat:=((isq q.num.natAbs:Nat):Rat)/((isq q.den:Nat):Rat)
theorem div_pos {p q:Rat} (a:0<p) (b:0<q):0<p/q:=by
 rw[Rat.div_def];exact Rat.mul_pos a (Rat.inv_pos.2 b)
end
section
open Go.RowKit Go.Shelf Lib Str Limb
attribute [local go_sem] Oper.semAt_some
instance szDec (q:Rat) (k:Nat):Decidable (sz q k):=inferInstanceAs (Decidable (_/\_))
def rs (q:Rat):List (Rat×Nat):=if q=0 then[] else[(q,1)]
theorem yag:rs 0=[]:=by unfold rs;rw[if_pos rfl]
theorem yac {q:Rat} (h:q≠0):rs q=[(q,1)]:=by unfold rs;rw[if_neg h]
theorem yg4 {q:Rat} {t:Rat×Nat} (h:t∈rs q):t=(q,1)/\q≠0:=by
 unfold rs at h;split at h
 ·cases h
 ·simp at h;exact⟨h,by assumption⟩
theorem zrz (a:Rat) {c:Rat} (d:c≠0):sclL (rs a) c=rs (a*c):=by
 by_cases h:a=0
 ·rw[h,Rat.zero_mul,yag];rfl
 ·rw[yac h,yac (λb=>by rcases Rat.mul_eq_zero.1 b with b|b;exact h b;exact d b)];rfl
theorem zh5 (q:Rat):(rs q).length<=1:=by unfold rs;split<;>simp
theorem zm3 {q:Rat} {k:Nat} (h:sz q k):sz (-q) k:=⟨by rw[show(-q).num= -q.num from rfl,Int.natAbs_neg];exact h.1,h.2⟩
def one1 (C:List Rat):List (Rat×Nat):=C.map λc=>(c,1)
def sm1:List Rat->Rat
 |[]=>0
 |c::r=>r.foldl (· + ·) c
def gS:List Rat->List (List UInt8×List UInt8)
 |[]=>[]
 |c::r=>[(numS (sm1 (c::r)),[49])]
theorem yk3 (a:zA) (b:Wd a):qJ 160 #[St [49],St [49]] a (ze #[zj zm 0,zj zm 0]):=by
 have:=zgq 1 1 1 1 (by omega) (by omega) (by omega) sz_1 sz_1 a b;rw[zfc,Geo.ygq] at this;exact this
theorem z0f (a:zA) (c:Wd a):qJ 175 #[St [49]] a (zj zm 1):=by
 have:=znp 1 zqi a c;have b:(max (digs (Rat.num 1):Int) (digs ((Rat.den 1:Nat):Int):Int))=1:=by decide+kernel
 rw[zfc,b] at this;exact this
theorem yg5 {b:Rat} (h:sz b 60):∃a:Int,decide (60<a)=zu/\qK 175 #[St (numS b)] (zj zm a):=by
 have c:=zok (k:=60) (by omega) h;refine⟨max (digs b.num:Int) (digs (b.den:Int):Nat),decide_eq_false ?_,λd e=>znp b (zd0 (by omega) (by omega) h) d e⟩;have f:digs (b.den:Int)<=60:=by rw[zd9];exact c.2
 have:=c.1;omega
theorem z0h (a:zA) (b:Wd a):qJ 104 #[St [49]] a (zj zm 0):=by
 have:=zfj 1 zqi a b;rw[zfc] at this;exact this
theorem yk4 (d:Nat) (C:List Rat) (t:Rat) (p:sz (sm1 C) 140) (m:sz t 140) (c:zA) (k:Wd c) (h:GatL d (gS C) c):
 zC zF 174 #[zf (zq ⟨d,0,zp⟩),zh #[St (numS t),St [49]]] c λe w'=>e=zo (zj zm 0)/\zB d c w'/\GatL d (gS (C++[t])) w':=by
 cases C with
 |nil=>exact zot d [] (numS t) [49] (by simp) (hid λq n o=>(by cases o)) c (hid k) (hid h)
 |cons a b=>
  have e:gS ((a::b)++[t])=(gS (a::b)).set 0 (numS (sm1 (a::b)+t),[49]):=by simp[gS,sm1,List.foldl_append]
  rw[e];have l:=λf g=>z61 t 1 t 140 1 (by omega) (by omega) (by omega) m sz_1 (by rw[Rat.mul_one]) f g;rw[zfc] at l
  exact yk1 d (gS (a::b)) (numS t) [49] (numS (sm1 (a::b))) [49] (numS (sm1 (a::b)+t)) [49] ⟨#[49]⟩ 0 0 zu (by simp[gS]) rfl rfl (hid λq n r _=>by omega) (hid λf g=>zvw f g) (hid yk3)
   (hid λf g=>zvt (numS (sm1 (a::b))) [49] (numS t) [49] [49] (numS t) (numS (sm1 (a::b)+t)) true (hid λi j=>zvw i j) (hid l) (hid λi j=>zje _ _ 140 140 (by omega) (by omega) (by omega) p m i j) f (hid g)) c (hid k) (hid h)
theorem yju {C:List Rat}:zin (gS C)=(rs (sm1 C)).map strT:=by
 have c:zD 1=[49]:=zfg
 cases C with
 |nil=>show _=(rs 0).map strT;rw[yag];rfl
 |cons a b=>
  by_cases e:sm1 (a::b)=0
  ·show List.filter _ [(numS (sm1 (a::b)),[49])]=_
   rw[e,yag,zie];rfl
  ·have d:((numS (sm1 (a::b)))==[48])=zu:=zsf e
   show List.filter _ [(numS (sm1 (a::b)),[49])]=_;rw[yac e];simp[d,strT,c]
theorem yes (p:Option Addr) (cap n:Nat) (X:Nat->List UInt8) (I:n<=256) (C:List Rat) (B:sz (sm1 C) 60) (w:zA) (t:Hid (∀a,qL w a->Wd a))
 (r:Hid (∀i,i<n->qK 104 #[St (X i)] (zj zm 0)))
 (s:Hid (∀i,i<n->∃b off,p=zq ⟨b,off,zp⟩/\b<w.heap.size/\w.cell? ⟨b,off+i*2,zp⟩=zq (St (X i))/\w.cell? ⟨b,off+i*2+1,zp⟩=zq (St [49])))
 (v:Hid (∀u c:zA,qL w u->qL u c->c.heap.size=u.heap.size+1->GatL u.heap.size [] c->zC zF 173 #[z7 p n cap,.func (.func 174) #[zf (zq ⟨u.heap.size,0,zp⟩)] #[]] c λe w'=>e=zo (zj zm 0)/\zB u.heap.size c w'/\GatL u.heap.size (gS C) w')):
 zC zF 132 #[z7 p n cap] w λe w'=>∃q,e=zo (ze #[q,zj zm 0])/\zB w.heap.size w w'/\SdL q (rs (sm1 C)) w':=by
 have F:(gS C).length<=1:=by cases C<;>simp[gS]
 have H:(zin (gS C)).length<=1:=by unfold zin;exact zO (List.length_filter_le _ _) F
 have m:=λa=>yfc 1 a;rw[zfg] at m
 refine(yih p cap n X (λ_=>[49]) (gS C) (zin (gS C)) (gS C).length I (by omega) r (hid λi _ a D=>z0h a D) (hid λi _ a=>m a) w t s v (hid λi d G k _=>?_)
  (hid (.inl ⟨rfl,by omega,λK a o d g h M z=>(yig _ H o d _ a).mono λe w' ⟨A,j⟩=>⟨A,by rw[j];exact zM _ _,by rw[j];exact z⟩⟩))).mono λe w' ⟨o,N,d,J,y,E,f⟩=>?_
 ·cases C with
  |nil=>cases k
  |cons L J=>
   match i,G with
   |0,_=>
    cases k;obtain⟨x,g,h⟩:=yg5 B;exact⟨x,1,h,z0f,g,by decide⟩
 ·rcases f with⟨rfl,_,rfl,l⟩|⟨_,f,_⟩
  ·refine⟨_,y,E,?_⟩
   rw[yju] at l⊢;exact SdL.own l (by simp)
  ·omega
theorem yg7 (C:List Rat) (Q:C.length<=12) (M:∀c∈C,c≠0) (p:∀c∈C,sz c 140) (L:∀i,i<C.length->sz (sm1 (C.take i)) 140) (J:sz (sm1 C) 60) (v:Value) (w:zA) (s:Hid (∀a,qL w a->Wd a)) (D:Hid (∀a,qL w a->Pw a)) (N:SdL v (one1 C) w):
 zC zF 132 #[v] w λe w'=>∃A,e=zo (ze #[A,zj zm 0])/\zB w.heap.size w w'/\SdL A (rs (sm1 C)) w':=by
 obtain⟨l,t,rfl, -,O⟩:=N.slice;have F:(one1 C).length=C.length:=by simp[one1]
 rw[F];have n:∀i,i<C.length->∃c,C[i]? =zq c/\C[i]?.getD 1=c/\c∈C:=λi b=>⟨C[i],yB b,by rw[yB b];rfl,List.getElem_mem b⟩;have y:∀i,i<C.length->∃d h,l=zq ⟨d,h,zp⟩/\d<w.heap.size/\w.cell? ⟨d,h+i*2,zp⟩=zq (St (numS (C[i]?.getD 1)))/\w.cell? ⟨d,h+i*2+1,zp⟩=zq (St [49]):=λi b=>by
  obtain⟨c,j,g, -⟩:=n i b;have:=O i (c,1) (by unfold one1;rw[List.getElem?_map,j];rfl);rw[g,<-zfg];exact this
 refine yes l t C.length (λi=>numS (C[i]?.getD 1)) (by omega) C J w s (hid λi b a k=>?_) (hid y) (hid λr B j g u G=>?_)
 ·obtain⟨c, -,g,u⟩:=n i b
  show zC _ _ #[St (numS (C[i]?.getD 1))] _ _;rw[g];exact zfj c (zd0 (by omega) (by omega) (p c u)) a k
 ·have q:=j.size
  have:=yg3 r.heap.size l t C.length (λi=>numS (C[i]?.getD 1)) (λ_=>[49]) (λi=>GatL r.heap.size (gS (C.take i))) (by omega) (hid λi b=>by
   obtain⟨c,H,I,o⟩:=n i b;have z:=λa k=>z61 c 1 c 140 1 (by omega) (by omega) (by omega) (p c o) sz_1 (by rw[Rat.mul_one]) a k;rw[zfc] at z;rw[I];refine⟨true,[49],[49],numS c,1,zsf (M c o),rfl,rfl,λ_=>⟨rfl,rfl⟩,λf=>(by cases f),z0f,by decide,z,λa P f m=>GatL.keep f (zac m),λa k K=>?_⟩;rw[List.take_add_one,H];exact yk4 r.heap.size (C.take i) c (L i b) (p c o) a k K) B (by omega)
   (hid λa f=>s _ (j.trans ((g.trans f).mono q))) (hid λa f=>D _ (j.trans ((g.trans f).mono q))) G
   (hid λi b=>by
     obtain⟨d,h,e,m,E,c1⟩:=y i b;have x:qL w B:=j.trans (g.mono q);exact⟨d,h,e,by omega,by rw[x.cell (p:=⟨d,h+i*2,zp⟩) m];exact E,by rw[x.cell (p:=⟨d,h+i*2+1,zp⟩) m];exact c1⟩)
  rw[List.take_length] at this;exact this
theorem yet (v:Value) (w:zA) (q:Hid (∀d,qL w d->Wd d)) (x:SdL v [(0,1)] w):
 zC zF 132 #[v] w λe w'=>∃o,e=zo (ze #[o,zj zm 0])/\zB w.heap.size w w'/\SdL o (rs 0) w':=by
 obtain⟨h,i,rfl, -,y⟩:=x.slice;have n:=zie;have m:∀a,a<1->∃b c,h=zq ⟨b,c,zp⟩/\b<w.heap.size/\w.cell? ⟨b,c+a*2,zp⟩=zq (St [48])/\w.cell? ⟨b,c+a*2+1,zp⟩=zq (St [49]):=λa g=>by
  obtain rfl:a=0:=by omega
  have:=y 0 (0,1) rfl;rw[n,zfg] at this;exact this
 refine yes h i 1 (λ_=>[48]) (by omega) [] ⟨by decide,by decide⟩ w q (hid λa g d u=>by have:=zfj 0 (yk2 zb7.1) d u;rw[n] at this;exact this) (hid m) (hid λA p j k z t=>?_);have l:qL w p:=j.trans (k.mono j.size);refine(yfu h i 1 (λ_=>[49]) _ (by omega) p (hid λa g=>?_)).mono λe w' ⟨s,f⟩=>⟨s,f.mono k.size,t.keep (zac f)⟩;obtain⟨b,c,e,f,r,c1⟩:=m a g;exact⟨b,c,e,zai l r,zai l c1⟩
theorem yg8 (a:Rat):∃C:List Rat,rs a=one1 C/\C.length<=1/\∀c∈C,c=a/\a≠0:=by
 by_cases h:a=0
 ·exact⟨[],by rw[h,yag];rfl,by simp,λc b=>(by cases b)⟩
 ·exact⟨[a],by rw[yac h];rfl,by simp,λc b=>by simp at b;exact⟨b,h⟩⟩
theorem zm6 (a b:Rat) (ha:sz a 60) (z:sz b 60) (y:sz (a+b) 60) (v:Value) (w:zA) (u:Hid (∀k,qL w k->Wd k)) (t:Hid (∀k,qL w k->Pw k)) (D:SdL v (rs a++rs b) w):
 zC zF 132 #[v] w λe w'=>∃s,e=zo (ze #[s,zj zm 0])/\zB w.heap.size w w'/\SdL s (rs (a+b)) w':=by
 obtain⟨g,h,F,m⟩:=yg8 a;obtain⟨d,f,G,n⟩:=yg8 b;have x:rs a++rs b=one1 (g++d):=by rw[h,f];simp[one1]
 have o:∀c∈g++d,(c=a\/c=b)/\c≠0:=λc j=>(List.mem_append.1 j).elim (λi=>⟨.inl (m c i).1,(m c i).1▸(m c i).2⟩) (λi=>⟨.inr (n c i).1,(n c i).1▸(n c i).2⟩);have r:∀c∈g++d,sz c 60:=λc j=>(o c j).1.elim (λe=>e▸ha) (λe=>e▸z);have p:sm1 (g++d)=a+b:=by
  by_cases h1:a=0
  ·have:g=[]:=by rw[h1,yag] at h;cases g with
    |nil=>rfl
    |cons=>cases h
   subst this;by_cases h2:b=0
   ·have:d=[]:=by rw[h2,yag] at f;cases d with
     |nil=>rfl
     |cons=>cases f
    subst this;rw[h1,h2];show(0:Rat)=_;grind
   ·rw[yac h2] at f
    match d,f with
    |[E],f=>cases f;show b=_;rw[h1];grind
  ·rw[yac h1] at h
   match g,h with
   |[E],h=>
    cases h;by_cases h2:b=0
    ·have:d=[]:=by rw[h2,yag] at f;cases d with
      |nil=>rfl
      |cons=>cases f
     subst this;show a=_;rw[h2];grind
    ·rw[yac h2] at f
     match d,f with
     |[H],f=>cases f;rfl
 have:=yg7 (g++d) (by simp;omega) (λc j=>(o c j).2) (λc j=>(r c j).mono (by omega)) (λl A=>?_) (by rw[p];exact y) v w u t (by rw[<-x];exact D)
 ·rw[p] at this;exact this
 ·have B:(g++d).length<=2:=by simp;omega
  cases hq:(g++d).take l with
  |nil=>exact⟨by decide,by decide⟩
  |cons c q=>
   have C:q=[]:=by
    have:((g++d).take l).length<=1:=by simp at A B⊢;omega
    rw[hq] at this
    cases q with
    |nil=>rfl
    |cons=>simp at this
   subst C;exact(r c (List.mem_of_mem_take (i:=l) (by rw[hq];exact List.mem_cons_self))).mono (by omega)
theorem z10 (v:Value) (w:zA) (f:Hid (∀a,qL w a->Wd a)) (d:Hid (∀a,qL w a->Pw a)) (h:SdL v [] w):
 zC zF 132 #[v] w λe w'=>∃c,e=zo (ze #[c,zj zm 0])/\zB w.heap.size w w'/\SdL c [] w':=
 yg7 [] (by simp) (λg b=>(by cases b)) (λg b=>(by cases b)) (λi b=>(by simp at b)) ⟨by decide,by decide⟩ v w f d h
theorem zda (v:Value) (a:Rat) (ha:sz a 60) (w:zA) (hw:Wd w) (r:Pw w) (s:SdL v (rs a) w):qJ 124 #[v] w (zj zm 0):=by
 obtain⟨x,j,rfl,p,t⟩:=s.slice;have C:=zh5 a;refine z2l x j (rs a).length (λ_=>⟨(numS a).toArray⟩) (λ_=>⟨#[49]⟩) (by omega) p (hid λe b g o m=>?_) (hid λe b=>by omega) (hid λD z B A=>by omega) w (hid hw) (hid r) (hid λe b=>?_)
 ·have d:a≠0:=λc=>by rw[c,yag] at b;simp at b
  obtain⟨y,k,l⟩:=yg5 ha;refine z6v ⟨(numS a).toArray⟩ ⟨#[49]⟩ y 1 (by rw[ByteArray.toList_eq];exact zsf d) (of_decide_eq_false k) (by decide) (hid λf n=>zfj a (zd0 (by omega) (by omega) ha) f n) (hid z0h) (hid l) (hid z0f) (hid (.inl (by rw[ByteArray.toList_eq];rfl))) g (hid o) (hid m)
 ·have d:a≠0:=λc=>by rw[c,yag] at b;simp at b
  rw[yac d] at b;have q:e=0:=by simpa using b
  subst q;obtain⟨h,u,c, -,i,c1⟩:=t 0 (a,1) (by rw[yac d];rfl);rw[zfg] at c1;exact⟨h,u,c,i,c1⟩
theorem zno (g h:Value) (a b:Rat) (ha:sz a 60) (f:sz b 60) (A:sz (a+b) 60) (w:zA) (l:Hid (∀c,qL w c->Wd c)) (k:Hid (∀c,qL w c->Pw c)) (o:SdL g (rs a) w) (p:SdL h (rs b) w):
 zC zF 92 #[g,h] w λe w'=>∃v,e=zo (ze #[v,zj zm 0])/\zB w.heap.size w w'/\SdL v (rs (a+b)) w':=by
 obtain⟨H,F,c1,n⟩:=o.any;obtain⟨I,G,c2,x⟩:=p.any;have L:=zh5 a;have M:=zh5 b;refine(yd4 g h (λv c=>SdL v (rs a++rs b) c) (λv u c=>u=0/\SdL v (rs (a+b)) c) w
  (hid (z6g g h (λc=>qL w c) (λc K i z=>i.trans (z.mono i.size)) (hid λc d=>zda g a ha c (l c d) (k c d) (o.below d)) (hid λc d=>zda h b f c (l c d) (k c d) (p.below d)) w (zM _ _)))
  (hid λc J d D E=>zj8 J g h (rs a) (rs b) (by omega) c (o.below d) (p.below d) D E)
  (hid λc v d C=>?_) H I F G c1 c2 n x (hid λv c i=>i.any)).mono λe w' ⟨t,s,r,u,y,f,B,j⟩=>⟨_,by rw[y,B],f,j⟩
 exact(zm6 a b ha f A v c (hid λm q=>l m (d.trans (q.mono d.size))) (hid λm q=>k m (d.trans (q.mono d.size))) C).mono λe w' ⟨N,n,f,j⟩=>by
  obtain⟨t,s,r,rfl⟩:=j.any;exact⟨t,s,r,0,n,f,rfl,j⟩
theorem zqj (z A:Value) (a b:Rat) (ha:sz a 60) (f:sz b 60) (H:sz (a-b) 60) (w:zA) (n:Hid (∀c,qL w c->Wd c)) (p:Hid (∀c,qL w c->Pw c)) (q:SdL z (rs a) w) (r:SdL A (rs b) w):
 zC zF 125 #[z,A] w λe w'=>∃v,e=zo (ze #[v,zj zm 0])/\zB w.heap.size w w'/\SdL v (rs (a-b)) w':=by
 obtain⟨Q,c1,i, -⟩:=q.slice;obtain⟨R,c2,j, -⟩:=r.slice;have Y:=zh5 a;have Z:=zh5 b;have J:(rs (b* -1)).length=(rs b).length:=by rw[<-zrz b (by decide)];simp[sclL]
 have L:b* -1= -b:=by grind
 subst i;subst j;refine(z0o Q R (rs a).length (rs b).length c1 c2 (rs a++rs (b* -1)).length (λg h c=>SdL (z7 g (rs b).length h) (rs (b* -1)) c) (λg h c=>SdL (z7 g (rs a++rs (b* -1)).length h) (rs a++rs (b* -1)) c) (λv y c=>y=0/\SdL v (rs (a-b)) c) w
  (hid (z6g _ _ (λc=>qL w c) (λc V u D=>u.trans (D.mono u.size)) (hid λc d=>zda _ a ha c (n c d) (p c d) (q.below d)) (hid λc d=>zda _ b f c (n c d) (p c d) (r.below d)) w (zM _ _)))
  (hid λc d=>by
    have:=zkb _ (rs b) (-1) (by omega) (λa0 M=>by obtain⟨rfl,_⟩:=yg4 M;exact f.mono (by omega)) (zb7.2.2.2.2.1.mono (by omega)) c (hid λk l=>n k (d.trans (l.mono d.size))) (r.below d);rw[show St (numS (-1))=z8 ⟨#[45,49]⟩ by rw[nm_1],zrz b (by decide)] at this;refine this.mono λe w' ⟨T,i,f,m⟩=>?_;obtain⟨g,h,j, -⟩:=m.slice;rw[J] at j;subst j;exact⟨g,h,i,f,m⟩)
  (hid λc g h U d f F O P=>by
    obtain⟨W,X,G,E⟩:=F;refine(zj8 U _ _ (rs a) (rs (b* -1)) (by omega) c (q.below d) (G.below E) O P).mono λe w' ⟨v,i,I,m⟩=>?_;obtain⟨S,B,j, -⟩:=m.slice;subst j;exact⟨S,B,i,I,m⟩)
  (hid λc g h d N=>?_)).mono λe w' ⟨g,x,s,y,C,f,K,o⟩=>⟨_,by rw[C,K],f,o⟩
 have t:a+b* -1=a-b:=by grind
 have:=zm6 a (b* -1) ha (by rw[L];exact zm3 f) (by rw[t];exact H) _ c (hid λk l=>n k (d.trans (l.mono d.size))) (hid λk l=>p k (d.trans (l.mono d.size))) N;rw[t] at this;exact this.mono λe w' ⟨T,i,f,o⟩=>by
  obtain⟨g,x,s,rfl⟩:=o.any;exact⟨g,x,s,0,i,f,rfl,o⟩
theorem ze2 (v:Value) (a c:Rat) (ha:sz a 60) (s:sz c 150) (r:sz (a*c) 60) (w:zA) (k:Hid (∀b,qL w b->Wd b)) (p:Hid (∀b,qL w b->Pw b)) (h:SdL v (rs a) w):
 zC zF 134 #[v,St (numS c)] w λe w'=>∃g,e=zo (ze #[g,zj zm 0])/\zB w.heap.size w w'/\SdL g (rs (a*c)) w':=by
 obtain⟨F,E,c1,n⟩:=h.any;have G:=zh5 a;refine(zxs v (numS c) (λv b=>SdL v (sclL (rs a) c) b) (λv x b=>x=0/\SdL v (rs (a*c)) b) w (hid (zda v a ha w (k w (zM _ _)) (p w (zM _ _)) h))
  (hid λb f=>zfj c (zd0 (by omega) (by omega) s) b (k b f))
  (hid λb f=>zkb v (rs a) c (by omega) (λH D=>by obtain⟨rfl,_⟩:=yg4 D;exact ha.mono (by omega)) s b (hid λd j=>k d (f.trans (j.mono f.size))) (h.below f))
  (hid λb g f i=>?_) F E c1 n (hid λv b h=>h.any)).mono λe w' ⟨u,t,c,x,z,o,C,l⟩=>⟨_,by rw[z,C],o,l⟩
 have m:Hid (∀d,qL b d->Wd d):=hid λd j=>k d (f.trans (j.mono f.size));have q:Hid (∀d,qL b d->Pw d):=hid λd j=>p d (f.trans (j.mono f.size));have A:zC zF 132 #[g] b λe w'=>∃y,e=zo (ze #[y,zj zm 0])/\zB b.heap.size b w'/\SdL y (rs (a*c)) w':=by
  by_cases e:c=0
  ·by_cases e2:a=0
   ·rw[e2,yag] at i
    rw[e2,Rat.zero_mul];have:=zm6 0 0 (zd2 60 (by omega)) (zd2 60 (by omega)) (by rw[Rat.add_zero];exact zd2 60 (by omega)) g b m q (by rw[yag];exact i);rw[Rat.add_zero] at this;exact this
   ·rw[yac e2,e] at i
    rw[e,Rat.mul_zero];have B:sclL [(a,1)] 0=[((0:Rat),1)]:=by simp[sclL]
    rw[B] at i;exact yet g b m i
  ·rw[zrz a e] at i
   have:=zm6 (a*c) 0 r (zd2 60 (by omega)) (by rw[Rat.add_zero];exact r) g b m q (by rw[yag,yH];exact i);rw[Rat.add_zero] at this;exact this
 exact A.mono λe w' ⟨g,n,o,l⟩=>by
  obtain⟨u,t,c,rfl⟩:=l.any;exact⟨u,t,c,0,n,o,rfl,l⟩
theorem yjv (v:Value) (a:Rat) (ha:sz a 60) (w:zA) (c:Hid (∀b,qL w b->Wd b)) (f:Hid (∀b,qL w b->Pw b)) (h:SdL v [(a,1)] w):
 zC zF 132 #[v] w λe w'=>∃d,e=zo (ze #[d,zj zm 0])/\zB w.heap.size w w'/\SdL d (rs a) w':=by
 by_cases e:a=0
 ·subst e
  exact yet v w c h
 ·have:=zm6 a 0 ha (zd2 60 (by omega)) (by rw[Rat.add_zero];exact ha) v w c f (by rw[yag,yH,yac e];exact h)
  rw[Rat.add_zero] at this;exact this
theorem zkl (p:Option Addr) (cap:Nat) (w:zA):
 qJ 147 #[z7 p 0 cap] w (ze #[zj zm 0,zj zm 0]):=by
 go_enter Tryz.func147,Tryz.ntmps147;go_wp21;go_ret2;exact⟨rfl,zM _ _⟩
theorem zr0 (p:Option Addr) (n cap:Nat) (f d:Int) (w:zA)
 (i:Hid (qJ 124 #[z7 p n cap] w (zj zm 0)))
 (S:Hid (∀c:zA,qL w c->qJ 147 #[z7 p n cap] c (ze #[zj zm f,zj zm d]))):
 qJ 126 #[z7 p n cap] w (ze #[zj zm f,zj zm d]):=by
 go_enter Tryz.func126,Tryz.ntmps126;go_wp21;refine zzM i.out λj a=>?_;have b:=hid a;have h:=hid (S j a);clear a S;go_wp21;refine zzM h.out λk e=>?_;have g:=hid (b.trans (e.mono b.size));clear e;go_wp21;go_ret2;exact⟨rfl,g.out⟩
theorem yii {Z:Nat->Int} (h:∀k,k<3->0<=Z k) (d:0<Z 2):sgnP 1 Z=1:=by
 have a:∀k,0<=Z k->zap 1 k (Z k)=1\/zap 1 k (Z k)=0:=λk f=>by
  unfold zap;split
  ·exact .inl rfl
  ·right;rw[if_neg (by omega)]
 have e:zap 1 2 (Z 2)=1:=by unfold zap;rw[if_pos d]
 unfold sgnP;rcases a 0 (h 0 (by omega)) with b|b<;>rcases a 1 (h 1 (by omega)) with c|c<;>simp[b,c,e]
theorem yij {Z:Nat->Int} (h:∀k,k<3->Z k<= -1):sgnP 1 Z= -1:=by
 have a:∀k,Z k<= -1->zap 1 k (Z k)= -1\/zap 1 k (Z k)=0:=λk e=>by
  unfold zap;rw[if_neg (by omega)];split
  ·exact .inl rfl
  ·exact .inr rfl
 have d:zap 1 2 (Z 2)= -1:=by
  have:=h 2 (by omega);unfold zap;rw[if_neg (by omega),if_pos (by omega)]
 unfold sgnP;rcases a 0 (h 0 (by omega)) with b|b<;>rcases a 1 (h 1 (by omega)) with c|c<;>simp[b,c,d]
def flq (q:Rat) (k:Nat):Int:=floT q (q.num.natAbs*10^plN k) (q.num.natAbs*q.num.natAbs*1*10^(2*plN k))
theorem zn3 (k:Nat):plN k<=64:=by
 match k with
 |0=>decide
 |1=>decide
 |_+2=>exact zN _
theorem yik (q:Rat) (h:sz q 60):(0<q->(∀k,k<3->0<=flq q k)/\0<flq q 2)/\(q<0->∀k,k<3->flq q k<= -1):=by
 constructor
 ·intro d
  have b:¬q.num<0:=by have:=Rat.num_nonneg.2 (Rat.le_of_lt d);omega
  have f:0<q.num.natAbs:=by
   have:q.num≠0:=λa=>by have:=Rat.num_eq_zero.1 a;grind
   omega
  have a:∀k,flq q k=((q.num.natAbs*10^plN k/q.den:Nat):Int):=λk=>by unfold flq floT;rw[if_neg b]
  refine⟨λk _=>by rw[a];exact Int.natCast_nonneg _,?_⟩;rw[a];have e:q.den<=q.num.natAbs*10^plN 2:=by
   have j:q.den<10^60:=h.2;have l:(10:Nat)^60<=10^plN 2:=yF (by omega) (by decide);have m:10^plN 2<=q.num.natAbs*10^plN 2:=Nat.le_mul_of_pos_left _ f;omega
  have:=Nat.div_pos e q.den_pos;omega
 ·intro d k _
  have b:q.num<0:=by
   rcases Int.lt_or_le q.num 0 with h|h
   ·exact h
   ·have:=Rat.num_nonneg.1 h;grind
  have g:0<q.num.natAbs*10^plN k:=Nat.mul_pos (by omega) (Nat.pos_of_ne_zero (by simp));unfold flq floT;rw[if_pos b];generalize q.num.natAbs*10^plN k=c at*
  split
  ·rename_i hd
   have:q.den<=c:=Nat.le_of_dvd g (Nat.dvd_of_mod_eq_zero hd.2);have:=Nat.div_pos this q.den_pos;generalize c/q.den=i at*
   omega
  ·generalize c/q.den=i at*
   omega
theorem zr1 (v:Value) (q:Rat) (h:sz q 60) (w:zA) (hw:Wd w) (E:Spw w) (G:SdL v (rs q) w):
 qJ 147 #[v] w (ze #[zj zm (Geo.cmpR q 0),zj zm 0]):=by
 obtain⟨u,p,rfl, -,H⟩:=G.slice;by_cases h0:q=0
 ·subst h0
  rw[show(rs 0).length=0 by rw[yag];rfl,show Geo.cmpR 0 0=0 by simp[Geo.cmpR]];exact zkl u p w
 have D:(rs q).length=1:=by rw[yac h0];rfl
 rw[D];have I:itoa 0=[48]:=zb9;have J:itoa 1=[49]:=by rw[show(1:Int)=((1:Nat):Int) from rfl,Str.zad,zae (by omega)];rfl
 have l:∀a,q.num.natAbs*10^plN a<10^124:=λa=>by
  have y:=h.1;have z:(10:Nat)^plN a<=10^64:=yF (by omega) (zn3 a)
  calc q.num.natAbs*10^plN a<10^60*10^plN a:=Nat.mul_lt_mul_of_pos_right y (Nat.pos_of_ne_zero (by simp))
   _<=10^60*10^64:=Nat.mul_le_mul_left _ z
   _=10^124:=by rw[<-Nat.pow_add]
 have k:∀a,(flq q a).natAbs<=10^124:=λa=>by
  have L:=l a;have K:=Nat.div_le_self (q.num.natAbs*10^plN a) q.den;unfold flq floT;generalize q.num.natAbs*10^plN a/q.den=O at*
  split
  ·rw[Int.natAbs_neg,Int.natAbs_natCast]
   split<;>omega
  ·rw[Int.natAbs_natCast]
   omega
 have b:∀o:Int,o.natAbs<=10^124+2->digs o<=300:=λo M=>by
  have N:(10:Nat)^124+2<10^125:=by decide+kernel
  exact zO (zhd (k:=125) (by omega) (by omega)) (by omega)
 have m:∀a,q.num.natAbs*10^plN a*(q.num.natAbs*10^plN a)=q.num.natAbs*q.num.natAbs*1*10^(2*plN a):=λa=>by
  rw[Nat.mul_one,Nat.two_mul,Nat.pow_add];ac_rfl
 have j:=zj5 u p 1 (by omega) (by omega) (λ_=>numS q) (λ_=>zD 1) (λa _=>flq q a) (λa f=>if f=0 then 0 else flq q a) (hid λa=>rfl)
  (hid λa f d t c e=>by
    have A:q.num.natAbs*q.num.natAbs*1*10^(2*plN a)<10^248:=by
     rw[<-m a];exact zcc (l a) (l a)
    exact zul q 1 (plN a) (q.num.natAbs*10^plN a) _ (zd0 (by omega) (by omega) h) h0 (by omega) (by have:=zn3 a;omega) rfl (zO (zil (by omega) A) (by omega)) ⟨Nat.le_of_eq (m a),by rw[<-m a];exact Nat.mul_lt_mul_of_lt_of_lt (by omega) (by omega)⟩ c e)
  (hid λa f d t c e=>by
    obtain rfl:f=0:=by omega
    have s:=k a;have:=zva 0 (flq q a) (b _ (by omega)) (b _ (by omega)) (b _ (by omega)) c e;rw[Int.zero_add] at this;exact this)
  (hid λa n d C c e=>by
    obtain rfl:n=0:=by omega
    have s:=k a;have:=zva (flq q a) 1 (b _ (by omega)) (b _ (by omega)) (b _ (by omega)) c e;rw[J] at this;show zC _ _ #[St (itoa (flq q a+0)),_] _ _;rw[Int.add_zero];exact this)
  (hid λa n d C c e=>by
    have s:=k a;have:=zsx (flq q a+(n:Int)) 0 (b _ (by omega)) (b _ (by omega)) c;rw[I] at this;exact this) w (hid hw) (hid E)
  (hid λf t=>by
    obtain rfl:f=0:=by omega
    exact H 0 (q,1) (by rw[yac h0];rfl))
 have F:(sgnP 1 λa=>if(1:Nat)=0 then 0 else flq q a)=Geo.cmpR q 0:=by
  obtain⟨r,x⟩:=yik q h;have:=Geo.zaw q 0;rcases(show q<0\/0<q by grind) with g|g
  ·have i:Geo.cmpR q 0= -1:=by grind
   rw[i];exact yij λa d=>x g a d
  ·have i:Geo.cmpR q 0=1:=by grind
   rw[i];exact yii (λa d=>(r g).1 a d) (r g).2
 rw[F] at j;have B:errP (Geo.cmpR q 0)=0:=by
  have:=Geo.zaw q 0;unfold errP;rw[if_neg (by grind)]
 rw[B] at j;exact j
theorem yil (v:Value) (q:Rat) (h:sz q 60) (w:zA) (d:Hid (∀a,qL w a->Wd a)) (e:Hid (∀a,qL w a->Pw a)) (f:Hid (∀a,qL w a->Spw a)) (c:SdL v (rs q) w):
 qJ 126 #[v] w (ze #[zj zm (Geo.cmpR q 0),zj zm 0]):=by
 obtain⟨j,g,i, -⟩:=c.slice;subst i;exact zr0 j _ g _ 0 w (hid (zda _ q h w (d w (zM _ _)) (e w (zM _ _)) c)) (hid λa b=>zr1 _ q h a (d a b) (f a b) (c.below b))
def b2 (b:Rat):List (Rat×Nat):=[(b,2)]
theorem yfv (p:Option Addr) (cap n:Nat) (q:Nat->Rat) (m:n<=5000)
 (C:Hid (∀k,k<n->qK 104 #[St (numS (q k))] (zj zm 0)))
 (w:zA) (g:Hid (Wd w)) (f:Hid (RowNums p n q w)):
 qJ 135 #[z7 p n cap] w (zj zm 0):=by
 have c:=hid (zM w.heap.size w);go_enter Tryz.func135,Tryz.ntmps135;go_wp21;go_loopw [8] (λb wr=>∃(k:Nat),k<=n/\b=zj zm (k:Int)/\Hid (qL w wr))
  (λb _=>n-(zL b).toNat)
 case atStart=>exact⟨0,zR _,rfl,c⟩
 case round=>
  clear c;obtain⟨k,l,rfl,a⟩:=hrel;by_cases hlt:k<n
  ·obtain⟨i,o,rfl,j⟩:=(f.keep (zac a.out)) k hlt
   have d:=hid (C k hlt);generalize numS (q k)=s at*
   go_wp21;refine zzM (d wr (g.below a.out)) λr e=>?_;have h:=hid (a.trans (e.mono a.size));clear e d;go_wp21;go_roundw
   case rel=>exact⟨k+1,by omega,by go_num,h⟩
   case measure=>simp[zL];omega
  ·go_wp21
   go_ret;exact⟨rfl,a.out⟩
theorem zc9 (a b c:List UInt8) (p:Option Addr) (n k:Nat) (w:zA):
 qJ 120 #[zh #[St a,St b,St c,z7 p n k]] w (zh #[St a,St b,St c]):=by
 go_enter Tryz.func120,Tryz.ntmps120;go_wp21;exact bodyPost_ret (v:=zh #[St a,St b,St c]) (by simp[results,Tryz.results120,go_sem]) rfl ⟨rfl,((zM _ w).alloc (zN _) _).alloc (by simp) _⟩
theorem SdL.other {v:Value} {l:List (Rat×Nat)} {a c:zA} {k:Nat} (h:SdL v l a) (o:∀b,b≠k->c.heap[b]? =a.heap[b]?) (x:a.heap.size<=c.heap.size) (s:∀i q,a.cell? ⟨k,i,zp⟩≠zq (St (numS q))):SdL v l c:=by
 rcases h with h|⟨b,t,j,e,n,w,r⟩
 ·exact .inl h
 ·refine .inr ⟨b,t,j,e,n,by omega,λi u p=>?_⟩
  obtain⟨f,c1⟩:=r i u p;have m:b≠k:=λe=>by subst e;exact s _ _ f
  have g:∀d,c.cell? ⟨b,d,zp⟩=a.cell? ⟨b,d,zp⟩:=λd=>by unfold World.cell?;rw[show((⟨b,d,zp⟩:Addr).block)=b from rfl,o b m]
  exact⟨by rw[g];exact f,by rw[g];exact c1⟩
section
variable {w W W':zA} {o:Nat} {a b c a' b' c':List UInt8} {d d':Value} {l:List (Rat×Nat)} {f g:Nat->Bool}
end
section
variable {w W W':zA} {a b c a2 b2 c2:List UInt8} {v d:Value} {l l2:List (Rat×Nat)} {f g:Nat->Bool}
end
theorem zf7 {b:zA} {k:Nat} {d e f:Value} {t:TypeId} (h:b.heap[k]? =zq (zn #[d,e,f] t (0,0))) (g:∃q n c,d=z7 q n c) (j:∃q n c,e=z7 q n c) (l:∃q n c,f=z7 q n c):∀i q,b.cell? ⟨k,i,zp⟩≠zq (St (numS q)):=λi q a=>by
 rw[zJ h] at a;obtain⟨_,_,_,rfl⟩:=g;obtain⟨_,_,_,rfl⟩:=j;obtain⟨_,_,_,rfl⟩:=l
 match i,a with
 |0,a=>cases Option.some.inj a
 |1,a=>cases Option.some.inj a
 |2,a=>cases Option.some.inj a
 |i+3,a=>simp at a
structure ScS (w:zA) (s0 s1 s2:Value) (x0 x1 x2:List UInt8) (p0 p1 p2:Value) (W:zA):Prop where
 bel:qL w W
 h0:W.heap[w.heap.size]? =zq (zn #[s0,s1,s2] 118 (0,0))
 h2:W.heap[w.heap.size+1+1]? =zq (zn #[p0,p1,p2] 118 (0,0))
 h3:W.heap[w.heap.size+1+1+1]? =zq (zn #[St x0,St x1,St x2] 22 (0,0))
section
variable {w W W':zA} {s0 s1 s2 p0 p1 p2:Value} {x0 x1 x2:List UInt8}
theorem ScS.next (h:ScS w s0 s1 s2 x0 x1 x2 p0 p1 p2 W) (b:qL W W'):ScS w s0 s1 s2 x0 x1 x2 p0 p1 p2 W':=
 have a:=zac b
 ⟨h.bel.trans (b.mono h.bel.size),a _ _ _ _ h.h0,a _ _ _ _ h.h2,a _ _ _ _ h.h3⟩
theorem ScS.cells (h:ScS w s0 s1 s2 x0 x1 x2 p0 p1 p2 W):W.cell? ⟨w.heap.size,0,zp⟩=zq s0/\W.cell? ⟨w.heap.size,1,zp⟩=zq s1/\W.cell? ⟨w.heap.size,2,zp⟩=zq s2/\
 W.cell? ⟨w.heap.size+1+1,0,zp⟩=zq p0/\W.cell? ⟨w.heap.size+1+1,1,zp⟩=zq p1/\W.cell? ⟨w.heap.size+1+1,2,zp⟩=zq p2/\
 W.cell? ⟨w.heap.size+1+1+1,0,zp⟩=zq (St x0)/\W.cell? ⟨w.heap.size+1+1+1,1,zp⟩=zq (St x1)/\W.cell? ⟨w.heap.size+1+1+1,2,zp⟩=zq (St x2):=
 ⟨by rw[zJ h.h0];rfl,by rw[zJ h.h0];rfl,by rw[zJ h.h0];rfl,by rw[zJ h.h2];rfl,by rw[zJ h.h2];rfl,by rw[zJ h.h2];rfl,by rw[zJ h.h3];rfl,by rw[zJ h.h3];rfl,by rw[zJ h.h3];rfl⟩
theorem ScS.soft (h:ScS w s0 s1 s2 x0 x1 x2 p0 p1 p2 W) (i:Nat):W.frozen? ⟨w.heap.size+1+1,i,zp⟩=zu:=Go.Joins.unfrozen_of_block h.h2 i
theorem ScS.ne (h:ScS w s0 s1 s2 x0 x1 x2 p0 p1 p2 W) (i:Nat) (u:Value):qL w (W.setCell ⟨w.heap.size+1+1,i,zp⟩ u)/\(∀b,b≠w.heap.size+1+1->(W.setCell ⟨w.heap.size+1+1,i,zp⟩ u).heap[b]? =W.heap[b]?)/\W.heap.size<=(W.setCell ⟨w.heap.size+1+1,i,zp⟩ u).heap.size:=
 ⟨h.bel.setCell (p:=⟨w.heap.size+1+1,i,zp⟩) (by show _<=w.heap.size+1+1;omega) _,λb a=>yE _ _ _ _ (by exact a),by simp[World.setCell]⟩
theorem ScS.put0 (h:ScS w s0 s1 s2 x0 x1 x2 p0 p1 p2 W) (u:Value):ScS w s0 s1 s2 x0 x1 x2 u p1 p2 (W.setCell ⟨w.heap.size+1+1,0,zp⟩ u):=by
 obtain⟨b,a,_⟩:=h.ne 0 u;exact⟨b,(a _ (by omega)).trans h.h0,zK (i:=0) h.h2 u,(a _ (by omega)).trans h.h3⟩
theorem ScS.put1 (h:ScS w s0 s1 s2 x0 x1 x2 p0 p1 p2 W) (u:Value):ScS w s0 s1 s2 x0 x1 x2 p0 u p2 (W.setCell ⟨w.heap.size+1+1,1,zp⟩ u):=by
 obtain⟨b,a,_⟩:=h.ne 1 u;exact⟨b,(a _ (by omega)).trans h.h0,zK (i:=1) h.h2 u,(a _ (by omega)).trans h.h3⟩
theorem ScS.put2 (h:ScS w s0 s1 s2 x0 x1 x2 p0 p1 p2 W) (u:Value):ScS w s0 s1 s2 x0 x1 x2 p0 p1 u (W.setCell ⟨w.heap.size+1+1,2,zp⟩ u):=by
 obtain⟨b,a,_⟩:=h.ne 2 u;exact⟨b,(a _ (by omega)).trans h.h0,zK (i:=2) h.h2 u,(a _ (by omega)).trans h.h3⟩
end
theorem yd5 (N O P:Option Addr) (K L M H I J:Nat) (y z A:List UInt8) (ay az a' b0 af:List (Rat×Nat)) (a4 a5 ac aa ab Q:Prop) (w:zA)
 (b6:Hid (∀b:zA,qL w b->zC zF 134 #[z7 N K H,St y] b λe w'=>∃q n c r,e=zo (ze #[z7 q n c,zj zm r])/\zB b.heap.size b w'/\OutR ay a4 Q (z7 q n c) r w'))
 (b7:Hid (∀b:zA,qL w b->zC zF 134 #[z7 O L I,St z] b λe w'=>∃q n c r,e=zo (ze #[z7 q n c,zj zm r])/\zB b.heap.size b w'/\OutR az a5 Q (z7 q n c) r w'))
 (b8:Hid (∀b:zA,qL w b->zC zF 134 #[z7 P M J,St A] b λe w'=>∃q n c r,e=zo (ze #[z7 q n c,zj zm r])/\zB b.heap.size b w'/\OutR a' ac Q (z7 q n c) r w'))
 (b3:Hid (∀(b:zA) (u v:Value),a4->a5->qL w b->SdL u ay b->SdL v az b->zC zF 92 #[u,v] b λe w'=>∃q n c r,e=zo (ze #[z7 q n c,zj zm r])/\zB b.heap.size b w'/\OutR b0 aa Q (z7 q n c) r w'))
 (a9:Hid (∀(b:zA) (u v:Value),a4->a5->aa->ac->qL w b->SdL u b0 b->SdL v a' b->zC zF 92 #[u,v] b λe w'=>∃q n c r,e=zo (ze #[z7 q n c,zj zm r])/\zB b.heap.size b w'/\OutR af ab Q (z7 q n c) r w')):
 zC zF 123 #[zh #[z7 N K H,z7 O L I,z7 P M J],zh #[St y,St z,St A]] w λe w'=>∃q n c r,e=zo (ze #[z7 q n c,zj zm r])/\zB w.heap.size w w'/\OutR af (a4/\a5/\ac/\aa/\ab) Q (z7 q n c) r w':=by
 obtain⟨o,U⟩:=zzX (((w.alloc (zn #[z7 N K H,z7 O L I,z7 P M J] 118)).alloc (zn #[St y,St z,St A] 137)).alloc (zn #[z7 zp 0 0,z7 zp 0 0,z7 zp 0 0] 118));have aj:qL w o:=by rw[U];exact(((zM _ w).alloc (zN _) _).alloc (by simp) _).alloc (by simp;omega) _
 have C:o.heap[w.heap.size]? =zq (zn #[z7 N K H,z7 O L I,z7 P M J] 118 (0,0)):=by
  rw[U];exact(Below.heap_alloc _ _ _ (by simp;omega)).trans ((Below.heap_alloc _ _ _ (by simp)).trans (zG w _))
 have p:o.heap[w.heap.size+1]? =zq (zn #[St y,St z,St A] 137 (0,0)):=by
  rw[U];have:=zG (w.alloc (zn #[z7 N K H,z7 O L I,z7 P M J] 118)) (zn #[St y,St z,St A] 137);rw[zH] at this;exact(Below.heap_alloc _ _ _ (by simp)).trans this
 have D:o.heap[w.heap.size+1+1]? =zq (zn #[z7 zp 0 0,z7 zp 0 0,z7 zp 0 0] 118 (0,0)):=by
  rw[U];have:=zG ((w.alloc (zn #[z7 N K H,z7 O L I,z7 P M J] 118)).alloc (zn #[St y,St z,St A] 137)) (zn #[z7 zp 0 0,z7 zp 0 0,z7 zp 0 0] 118);rw[zH,zH] at this;exact this
 have f:o.heap.size=w.heap.size+1+1+1:=by rw[U];simp
 have bj:o.cell? ⟨w.heap.size+1,0,zp⟩=zq (St y):=by rw[zJ p];rfl
 have bk:o.cell? ⟨w.heap.size+1,1,zp⟩=zq (St z):=by rw[zJ p];rfl
 have bl:o.cell? ⟨w.heap.size+1,2,zp⟩=zq (St A):=by rw[zJ p];rfl
 obtain⟨a8,a7⟩:=zzX (o.alloc (zn #[St y,St z,St A] 22));have b2:qL o a8:=by rw[a7];exact(zM _ o).alloc (zN _) _
 have a0:Hid (ScS w (z7 N K H) (z7 O L I) (z7 P M J) y z A (z7 zp 0 0) (z7 zp 0 0) (z7 zp 0 0) a8):=hid
  ⟨aj.trans (b2.mono aj.size),zac b2 _ _ _ _ C,zac b2 _ _ _ _ D,by rw[a7,<-f];exact zG o _⟩
 have aw:=hid U.symm;have ax:=hid a7.symm;have a6:=hid f;clear U a7 aj b2 C p D f;go_enter Tryz.func123,Tryz.ntmps123;go_wp21;have a3:=aw.out;rw[show((w.alloc (zn #[z7 N K H,z7 O L I,z7 P M J] 118)).alloc (zn #[z8 ⟨y.toArray⟩,z8 ⟨z.toArray⟩,z8 ⟨A.toArray⟩] 137)).alloc (zn #[z7 zp 0 0,z7 zp 0 0,z7 zp 0 0] 118)=o from a3];clear a3 aw;go_wp21;have a3:=ax.out;rw[show o.alloc (zn #[z8 ⟨y.toArray⟩,z8 ⟨z.toArray⟩,z8 ⟨A.toArray⟩] 22)=a8 from a3]
 try rw[a6.out]
 clear a3 ax a6 bj bk bl;refine wp_loop_rounds 4 ?_;rw[rounds_succ];obtain⟨i,c1,c2,j,k,l,z0,z1,z2⟩:=a0.cells;have fz:=a0.soft 0;have g:=hid (b6 a8 a0.bel);go_wp21;clear i c1 c2 j k l z0 z1 z2 fz;refine g.mono ?_;rintro e bc ⟨ag,aq,an,a2,rfl,d,a⟩;have R:=hid (a0.next d);rcases a with⟨rfl,a,G⟩|⟨rfl,a,s⟩
 rotate_left
 ·injection a with C p D
  subst C;subst p;subst D;have E:=hid s;clear d g s;go_wp21;go_ret2;exact⟨_,_,_,_,rfl,R.bel,.inr ⟨rfl,rfl,E.out⟩⟩
 have ad:=hid G;clear G;have h:=hid a;clear d a g a0;obtain⟨i,c1,c2,j,k,l,z0,z1,z2⟩:=R.cells;have fz:=R.soft 0;obtain⟨bg,ak⟩:=zzX (bc.setCell ⟨w.heap.size+1+1,0,zp⟩ (z7 ag aq an));have x:=R.put0 (z7 ag aq an);obtain⟨-,m,f⟩:=R.ne 0 (z7 ag aq an);have t:=zf7 R.h2 ⟨_,_,_,rfl⟩ ⟨_,_,_,rfl⟩ ⟨_,_,_,rfl⟩;rw[<-ak] at x m f;have W:=hid x;have h:=hid (h.other m f t);have F:=hid ak.symm;clear x m f t ak;go_wp21
 try rw[F.out]
 clear F i c1 c2 j k l z0 z1 z2 fz R;rw[rounds_succ];obtain⟨i,c1,c2,j,k,l,z0,z1,z2⟩:=W.cells;have fz:=W.soft 1;have g:=hid (b7 bg W.bel);go_wp21;clear i c1 c2 j k l z0 z1 z2 fz;refine g.mono ?_;rintro e bd ⟨a1,ar,ao,a2,rfl,d,a⟩;have S:=hid (W.next d);rcases a with⟨rfl,a,G⟩|⟨rfl,a,s⟩
 rotate_left
 ·injection a with C p D
  subst C;subst p;subst D;have E:=hid s;clear d g s h;go_wp21;go_ret2;exact⟨_,_,_,_,rfl,S.bel,.inr ⟨rfl,rfl,E.out⟩⟩
 have ae:=hid G;clear G;have B:=hid a;have h:=hid (h.below d);clear d a g W;obtain⟨i,c1,c2,j,k,l,z0,z1,z2⟩:=S.cells;have fz:=S.soft 1;obtain⟨bh,al⟩:=zzX (bd.setCell ⟨w.heap.size+1+1,1,zp⟩ (z7 a1 ar ao));have x:=S.put1 (z7 a1 ar ao);obtain⟨-,m,f⟩:=S.ne 1 (z7 a1 ar ao);have t:=zf7 S.h2 ⟨_,_,_,rfl⟩ ⟨_,_,_,rfl⟩ ⟨_,_,_,rfl⟩;rw[<-al] at x m f;have X:=hid x;have B:=hid (B.other m f t);have h:=hid (h.other m f t);have F:=hid al.symm;clear x m f t al;go_wp21
 try rw[F.out]
 clear F i c1 c2 j k l z0 z1 z2 fz S;rw[rounds_succ];obtain⟨i,c1,c2,j,k,l,z0,z1,z2⟩:=X.cells;have fz:=X.soft 2;have g:=hid (b8 bh X.bel);go_wp21;clear i c1 c2 j k l z0 z1 z2 fz;refine g.mono ?_;rintro e be ⟨ah,au,ap,a2,rfl,d,a⟩;have T:=hid (X.next d);rcases a with⟨rfl,a,G⟩|⟨rfl,a,s⟩
 rotate_left
 ·injection a with C p D
  subst C;subst p;subst D;have E:=hid s;clear d g s h B;go_wp21;go_ret2;exact⟨_,_,_,_,rfl,T.bel,.inr ⟨rfl,rfl,E.out⟩⟩
 have av:=hid G;clear G;have V:=hid a;have h:=hid (h.below d);have B:=hid (B.below d);clear d a g X;obtain⟨i,c1,c2,j,k,l,z0,z1,z2⟩:=T.cells;have fz:=T.soft 2;obtain⟨bi,am⟩:=zzX (be.setCell ⟨w.heap.size+1+1,2,zp⟩ (z7 ah au ap));have x:=T.put2 (z7 ah au ap);obtain⟨-,m,f⟩:=T.ne 2 (z7 ah au ap);have t:=zf7 T.h2 ⟨_,_,_,rfl⟩ ⟨_,_,_,rfl⟩ ⟨_,_,_,rfl⟩;rw[<-am] at x m f;have Y:=hid x;have V:=hid (V.other m f t);have h:=hid (h.other m f t);have B:=hid (B.other m f t);have F:=hid am.symm;clear x m f t am;go_wp21
 try rw[F.out]
 clear F i c1 c2 j k l z0 z1 z2 fz T;rw[rounds_succ];obtain⟨i,c1,c2,j,k,l,z0,z1,z2⟩:=Y.cells;have g:=hid (b3 bi _ _ ad ae Y.bel h B.out);go_wp21;clear i c1 c2 j k l z0 z1 z2;refine g.mono ?_;rintro e bf ⟨bm,bo,bn,a2,rfl,d,a⟩;have Z:=hid (Y.next d);rcases a with⟨rfl,a,f⟩|⟨rfl,a,s⟩
 ·have b5:=hid a
  have V:=hid (V.below d);have g:=hid (a9 bf _ _ ad ae f av Z.bel b5 V.out);have a6:=hid f;clear d a Y h B a9 f;obtain⟨i,c1,c2,j,k,l,z0,z1,z2⟩:=Z.cells;go_wp21;refine g.mono ?_;rintro e b1 ⟨b9,bb,ba,a2,rfl,d,a⟩;have E:=hid (⟨Z.bel.trans (d.mono Z.bel.size),a⟩:qL w b1/\OutR af ab Q (z7 b9 bb ba) a2 b1);clear d a g i c1 c2 j k l z0 z1 z2;go_wp21;go_ret2;exact⟨_,_,_,_,rfl,E.1,E.2.imp (λai=>⟨ai.1,ai.2.1,ad.out,ae.out,av.out,a6.out,ai.2.2⟩) id⟩
 ·injection a with C p D
  subst C;subst p;subst D;have b4:=hid s;clear d g Y h B V a9 s;go_wp21;go_ret2;exact⟨_,_,_,_,rfl,Z.bel,.inr ⟨rfl,rfl,b4.out⟩⟩
theorem zns (s t x:Option Addr) (o p q l m n:Nat) (y z A:List UInt8) (g h i j k:List (Rat×Nat)) (w:zA)
 (D:Hid (∀a:zA,qL w a->zC zF 134 #[z7 s o l,St y] a λe w'=>∃v,e=zo (ze #[v,zj zm 0])/\zB a.heap.size a w'/\SdL v g w'))
 (E:Hid (∀a:zA,qL w a->zC zF 134 #[z7 t p m,St z] a λe w'=>∃v,e=zo (ze #[v,zj zm 0])/\zB a.heap.size a w'/\SdL v h w'))
 (F:Hid (∀a:zA,qL w a->zC zF 134 #[z7 x q n,St A] a λe w'=>∃v,e=zo (ze #[v,zj zm 0])/\zB a.heap.size a w'/\SdL v i w'))
 (B:Hid (∀(a:zA) (u v:Value),qL w a->SdL u g a->SdL v h a->zC zF 92 #[u,v] a λe w'=>∃r,e=zo (ze #[r,zj zm 0])/\zB a.heap.size a w'/\SdL r j w'))
 (C:Hid (∀(a:zA) (u v:Value),qL w a->SdL u j a->SdL v i a->zC zF 92 #[u,v] a λe w'=>∃r,e=zo (ze #[r,zj zm 0])/\zB a.heap.size a w'/\SdL r k w')):
 zC zF 123 #[zh #[z7 s o l,z7 t p m,z7 x q n],zh #[St y,St z,St A]] w λe w'=>∃r,e=zo (ze #[r,zj zm 0])/\zB w.heap.size w w'/\SdL r k w':=
 (yd5 s t x o p q l m n y z A g h i j k True True True True True False w (hid λa c=>zeu (D a c)) (hid λa c=>zeu (E a c)) (hid λa c=>zeu (F a c)) (hid λa u v _ _ d f b=>zeu (B a u v d f b)) (hid λa u v _ _ _ _ d f b=>zeu (C a u v d f b))).mono λe w' ⟨I,H,G,r,d,f,b⟩=>by
   rcases b with⟨rfl,b, -⟩|b
   ·exact⟨_,d,f,b⟩
   ·exact b.2.2.elim
theorem zln (a b c:List UInt8) (w:zA):
 qJ 137 #[zh #[St a,St b,St c]] w (zh #[St a,St b,St c]):=by
 go_enter Tryz.func137,Tryz.ntmps137;go_wp21;exact bodyPost_ret (v:=zh #[St a,St b,St c]) (by simp[results,Tryz.results137,go_sem]) rfl ⟨rfl,((zM _ w).alloc (zN _) _).alloc (by simp) _⟩
theorem zet (a b c:List UInt8) (w:zA):(Instr.index 61 (zh #[St a,St b,St c]) (zj zm 0)).run zF w=.ok (St a) w/\(Instr.index 61 (zh #[St a,St b,St c]) (zj zm 1)).run zF w=.ok (St b) w/\(Instr.index 61 (zh #[St a,St b,St c]) (zj zm 2)).run zF w=.ok (St c) w:=
 ⟨by kernel_rfl,by kernel_rfl,by kernel_rfl⟩
theorem z3t (a b c:List UInt8)
 (n:Hid (qK 104 #[St a] (zj zm 0)))
 (o:Hid (qK 104 #[St b] (zj zm 0)))
 (p:Hid (qK 104 #[St c] (zj zm 0)))
 (w:zA) (i:Hid (Wd w)):
 qJ 103 #[zh #[St a,St b,St c]] w (zj zm 0):=by
 have u:=λw=>(zet a b c w).1;have v:=λw=>(zet a b c w).2.1;have x:=λw=>(zet a b c w).2.2;obtain⟨k,j⟩:=zzX (w.alloc (zn #[St a,St b,St c] 137));have a1:qL w k:=by rw[j];exact(zM _ w).alloc (zN _) _
 have l:=hid j.symm;have h:=hid a1;clear j a1;go_enter Tryz.func103,Tryz.ntmps103;go_wp21;have m:=l.out;rw[show w.alloc (zn #[z8 ⟨a.toArray⟩,z8 ⟨b.toArray⟩,z8 ⟨c.toArray⟩] 137)=k from m];clear m l;refine zzM (zln a b c k) λr d=>?_;have e:=hid (h.trans (d.mono h.size));clear d h;go_wp21;refine wp_loop_rounds 4 ?_;rw[rounds_succ];go_wp21;refine zzM (n r (i.below e.out)) λs d=>?_;have f:=hid (e.trans (d.mono e.size));clear d e;go_wp21;rw[rounds_succ];go_wp21;refine zzM (o s (i.below f.out)) λt d=>?_;have g:=hid (f.trans (d.mono f.size));clear d f;go_wp21;rw[rounds_succ];go_wp21;refine zzM (p t (i.below g.out)) λy d=>?_;have q:=hid (g.trans (d.mono g.size));clear d g;go_wp21;rw[rounds_succ];go_wp21;go_ret;exact⟨rfl,q.out⟩
theorem zr5 (a b c:List UInt8) (p:Option Addr) (n k:Nat) (C:(a==[48])=zu\/((a==[48])=true/\(b==[48])=zu)\/((a==[48])=true/\(b==[48])=true/\(c==[48])=zu)) (w:zA)
 (t:Hid (∀d:zA,qL w d->∀o,d.heap[o]? =zq (zn #[St a,St b,St c] 22 (0,0))->qJ 135 #[z7 (zq ⟨o,0,zp⟩) 3 3] d (zj zm 0)))
 (y:Hid (∀d:zA,qL w d->qJ 124 #[z7 p n k] d (zj zm 0))):
 qJ 96 #[zh #[St a,St b,St c,z7 p n k]] w (zj zm 0):=by
 obtain⟨h,f⟩:=zzX ((w.alloc (zn #[St a,St b,St c,z7 p n k] 53)).alloc (zn #[St a,St b,St c] 22));have l:qL w h:=by rw[f];exact((zM _ w).alloc (zN _) _).alloc (by simp) _
 have q:h.heap[w.heap.size]? =zq (zn #[St a,St b,St c,z7 p n k] 53 (0,0)):=by rw[f];exact(Below.heap_alloc _ _ _ (by simp)).trans (zG w _)
 have r:h.heap[w.heap.size+1]? =zq (zn #[St a,St b,St c] 22 (0,0)):=by
  rw[f];have:=zG (w.alloc (zn #[St a,St b,St c,z7 p n k] 53)) (zn #[St a,St b,St c] 22);rw[zH] at this;exact this
 have u:=hid (t h l _ r);have j:=hid l;have x:=hid q;have v:=hid f.symm;clear f l q r t;go_enter Tryz.func96,Tryz.ntmps96;go_wp21;have z:=v.out;rw[show(w.alloc (zn #[z8 ⟨a.toArray⟩,z8 ⟨b.toArray⟩,z8 ⟨c.toArray⟩,z7 p n k] 53)).alloc (zn #[z8 ⟨a.toArray⟩,z8 ⟨b.toArray⟩,z8 ⟨c.toArray⟩] 22)=h from z];clear z v;refine zzM u.out λg e=>?_;have m:=j.trans (e.mono j.size);have s:=hid m;have i:=hid (zac e _ _ _ _ x.out);have B:=hid (y g m);clear e m j x u y;have D:g.cell? ⟨w.heap.size,0,zp⟩=zq (St a):=by rw[zJ i.out];rfl
 have E:g.cell? ⟨w.heap.size,1,zp⟩=zq (St b):=by rw[zJ i.out];rfl
 have F:g.cell? ⟨w.heap.size,2,zp⟩=zq (St c):=by rw[zJ i.out];rfl
 have G:g.cell? ⟨w.heap.size,3,zp⟩=zq (z7 p n k):=by rw[zJ i.out];rfl
 rcases C with z0|⟨z0,z1⟩|⟨z0,z1,z2⟩
 all_goals
  go_wp21;refine zzM B.out λH e=>?_;have A:=hid (s.trans (e.mono s.size));clear e;go_wp21;go_ret;exact⟨rfl,A.out⟩
def RowHf (p:Option Addr) (n:Nat) (X Y Z:Nat->List UInt8) (D:Nat->Value) (W:zA):Prop:=∀i,i<n->∃b off,p=zq ⟨b,off,zp⟩/\W.cell? ⟨b,off+i*4,zp⟩=zq (St (X i))/\W.cell? ⟨b,off+i*4+1,zp⟩=zq (St (Y i))/\W.cell? ⟨b,off+i*4+2,zp⟩=zq (St (Z i))/\W.cell? ⟨b,off+i*4+3,zp⟩=zq (D i)
theorem RowHf.keep {p:Option Addr} {n:Nat} {X d Z:Nat->List UInt8} {D:Nat->Value} {b c:zA} (h:RowHf p n X d Z D b) (a:CellsKept b c):RowHf p n X d Z D c:=λm l=>let ⟨e,o,f,g,i,j,k⟩:=h m l;⟨e,o,f,a.cell g,a.cell i,a.cell j,a.cell k⟩
theorem zgo (p:Option Addr) (cap n:Nat) (X e Z:Nat->List UInt8) (D:Nat->Value) (I:n<=5000) (F:∀i,i<n->∃q m c,D i=z7 q m c) (w:zA)
 (A:Hid (∀i,i<n->∀r:zA,qL w r->qJ 96 #[zh #[St (X i),St (e i),St (Z i),D i]] r (zj zm 0))) (B:Hid (RowHf p n X e Z D w)):
 qJ 98 #[z7 p n cap] w (zj zm 0):=by
 have j:=hid (zM w.heap.size w);go_enter Tryz.func98,Tryz.ntmps98;go_wp21;go_loopw [7] (λi wr=>∃(a:Nat),a<=n/\i=zj zm (a:Int)/\Hid (qL w wr))
  (λi _=>n-(zL i).toNat)
 case atStart=>exact⟨0,zR _,rfl,j⟩
 case round=>
  clear j;obtain⟨a,H,rfl,b⟩:=hrel;by_cases hlt:a<n
  ·obtain⟨G,J,rfl,C,c1,c2,s⟩:=(B.keep (zac b.out)) a hlt
   have d:=hid (A a hlt);obtain⟨q,m,c,v⟩:=F a hlt;rw[v] at s d;generalize X a=x at*
   generalize e a=y at*
   generalize Z a=z at*
   obtain⟨h,g⟩:=zzX (wr.alloc (zn #[St x,St y,St z,z7 q m c] 53));have a1:qL wr h:=by rw[g];exact(zM _ wr).alloc (zN _) _
   have f:=b.trans (a1.mono b.size);have k:=hid f;have l:=hid (d h f);have o:=hid g.symm;clear g a1 f v d;go_wp21;have t:=o.out;rw[show wr.alloc (zn #[z8 ⟨x.toArray⟩,z8 ⟨y.toArray⟩,z8 ⟨z.toArray⟩,z7 q m c] 53)=h from t];clear t o C c1 c2 s;refine zzM l.out λK u=>?_;have E:=qT k u;clear u l k;go_wp21;go_roundw
   case rel=>exact⟨a+1,by omega,by go_num,E⟩
   case measure=>simp[zL];omega
  ·go_wp21
   go_ret;exact⟨rfl,b.out⟩
section
variable {w W W':zA} {P:Nat} {p0 p1 p2:Value} {x0 x1 x2:List UInt8}
end
structure SdeG (w:zA) (a b c:List UInt8) (d s0 s1 s2:Value) (M:List (Rat×Nat)) (E F:Prop) (r:Value) (er:Int) (f:Nat->Bool) (W:zA):Prop where
 bel:qL w W
 h0:W.heap[w.heap.size]? =zq (zn #[St a,St b,St c,d] 53 (0,0))
 h1:W.heap[w.heap.size+1]? =zq (zn #[s0,s1,s2] 99 (0,0))
 sr:f 9=true->OutR M E F r er W
section
variable {w W W':zA} {a b c:List UInt8} {d s0 s1 s2 r:Value} {M:List (Rat×Nat)} {E F:Prop} {er:Int} {f g:Nat->Bool}
theorem SdeG.congr (h:SdeG w a b c d s0 s1 s2 M E F r er f W) (e:g 9=f 9):SdeG w a b c d s0 s1 s2 M E F r er g W:=⟨h.bel,h.h0,h.h1,by rw[e];exact h.sr⟩
theorem SdeG.next (h:SdeG w a b c d s0 s1 s2 M E F r er f W) (e:qL W W'):SdeG w a b c d s0 s1 s2 M E F r er f W':=
 have i:=zac e
 ⟨h.bel.trans (e.mono h.bel.size),i _ _ _ _ h.h0,i _ _ _ _ h.h1,λj=>(h.sr j).below e⟩
theorem SdeG.res (h:SdeG w a b c d s0 s1 s2 M E F r er f W) (j:qL W W') {u:Value} {i:Int} (k:OutR M E F u i W'):SdeG w a b c d s0 s1 s2 M E F u i g W':=
 have e:=h.next j
 ⟨e.bel,e.h0,e.h1,λ_=>k⟩
theorem SdeG.hcells (h:SdeG w a b c d s0 s1 s2 M E F r er f W):W.cell? ⟨w.heap.size,0,zp⟩=zq (St a)/\W.cell? ⟨w.heap.size,1,zp⟩=zq (St b)/\W.cell? ⟨w.heap.size,2,zp⟩=zq (St c)/\W.cell? ⟨w.heap.size,3,zp⟩=zq d:=
 ⟨by rw[zJ h.h0];rfl,by rw[zJ h.h0];rfl,by rw[zJ h.h0];rfl,by rw[zJ h.h0];rfl⟩
theorem SdeG.mcells (h:SdeG w a b c d s0 s1 s2 M E F r er f W):W.cell? ⟨w.heap.size+1,0,zp⟩=zq s0/\W.cell? ⟨w.heap.size+1,1,zp⟩=zq s1/\W.cell? ⟨w.heap.size+1,2,zp⟩=zq s2:=
 ⟨by rw[zJ h.h1];rfl,by rw[zJ h.h1];rfl,by rw[zJ h.h1];rfl⟩
end
theorem yim (a b c:List UInt8) (D v x y:Option Addr) (C A p s t k l o:Nat) (X b9:List (Rat×Nat)) (L a5 W az:Prop) (bh M:Int) (w:zA)
 (ay:Hid (∀g:zA,qL w g->∀B,g.heap[B]? =zq (zn #[St a,St b,St c,z7 D C A] 53 (0,0))->qJ 98 #[z7 (zq ⟨B,0,zp⟩) 1 1] g (zj zm 0)))
 (b6:Hid (∀g:zA,qL w g->qJ 124 #[z7 v p k] g (zj zm 0)))
 (b7:Hid (∀g:zA,qL w g->qJ 124 #[z7 x s l] g (zj zm 0)))
 (b8:Hid (∀g:zA,qL w g->qJ 124 #[z7 y t o] g (zj zm 0)))
 (ak:Hid (∀g:zA,qL w g->zC zF 123 #[zh #[z7 v p k,z7 x s l,z7 y t o],zh #[St a,St b,St c]] g λe w'=>∃q n c r,e=zo (ze #[z7 q n c,zj zm r])/\zB g.heap.size g w'/\OutR X L W (z7 q n c) r w'))
 (ai:Hid (∀(g:zA) (r:Value),L->qL w g->SdL r X g->zC zF 125 #[r,z7 D C A] g λe w'=>∃q n c r,e=zo (ze #[z7 q n c,zj zm r])/\zB g.heap.size g w'/\OutR b9 a5 az (z7 q n c) r w'))
 (aj:Hid (∀(g:zA) (u:Value),L->a5->qL w g->SdL u b9 g->qJ 126 #[u] g (ze #[zj zm bh,zj zm M]))):
 zC zF 82 #[zh #[St a,St b,St c,z7 D C A],zh #[z7 v p k,z7 x s l,z7 y t o]] w λe w'=>∃m r,e=zo (ze #[zj zm m,zj zm r])/\zB w.heap.size w w'/\((r=4/\m=0/\(W\/az))\/(m=bh/\r=M/\L/\a5)):=by
 obtain⟨F,N⟩:=zzX ((w.alloc (zn #[St a,St b,St c,z7 D C A] 53)).alloc (zn #[z7 v p k,z7 x s l,z7 y t o] 99));have bc:qL w F:=by rw[N];exact((zM _ w).alloc (zN _) _).alloc (by simp) _
 have aw:F.heap[w.heap.size]? =zq (zn #[St a,St b,St c,z7 D C A] 53 (0,0)):=by rw[N];exact(Below.heap_alloc _ _ _ (by simp)).trans (zG w _)
 have ax:F.heap[w.heap.size+1]? =zq (zn #[z7 v p k,z7 x s l,z7 y t o] 99 (0,0)):=by
  rw[N];have:=zG (w.alloc (zn #[St a,St b,St c,z7 D C A] 53)) (zn #[z7 v p k,z7 x s l,z7 y t o] 99);rw[zH] at this;exact this
 have aq:SdeG w a b c (z7 D C A) (z7 v p k) (z7 x s l) (z7 y t o) X L W (z7 zp 0 0) 0 (λ_=>zu) F:=⟨bc,aw,ax,λbt=>(by cases bt)⟩;obtain⟨z0,z1,z2,z3⟩:=aq.hcells;have be:F.heap.size=w.heap.size+1+1:=by rw[N];simp
 obtain⟨a2,a0⟩:=zzX (F.alloc (zn #[St a,St b,St c,z7 D C A] 53));have b2:qL F a2:=by rw[a0];exact(zM _ F).alloc (zN _) _
 have a4:a2.heap[F.heap.size]? =zq (zn #[St a,St b,St c,z7 D C A] 53 (0,0)):=by rw[a0];exact zG F _
 rw[be] at a4;have af:=hid (aq.next b2);have b0:=hid (ay a2 af.bel _ a4);have b3:=hid N.symm;have b4:=hid a0.symm;clear N a0 bc b2 aw ax a4 aq be ay;go_enter Tryz.func82,Tryz.ntmps82;go_wp21;have G:=b3.out;rw[show(w.alloc (zn #[z8 ⟨a.toArray⟩,z8 ⟨b.toArray⟩,z8 ⟨c.toArray⟩,z7 D C A] 53)).alloc (zn #[z7 v p k,z7 x s l,z7 y t o] 99)=F from G];clear G b3;go_wp21;have G:=b4.out;rw[show F.alloc (zn #[z8 ⟨a.toArray⟩,z8 ⟨b.toArray⟩,z8 ⟨c.toArray⟩,z7 D C A] 53)=a2 from G];clear G b4 z0 z1 z2 z3;refine zzM b0.out λV h=>?_;have ag:=hid (af.next h);clear h b0 af;obtain⟨z0,z1,z2⟩:=ag.mcells;obtain⟨Y,ap⟩:=zzX V.heap.size;obtain⟨a3,a1⟩:=zzX (V.alloc (zn #[z7 v p k,z7 x s l,z7 y t o] 49));have bb:qL V a3:=by rw[a1];exact(zM _ V).alloc (zN _) _
 have ba:a3.heap[Y]? =zq (zn #[z7 v p k,z7 x s l,z7 y t o] 49 (0,0)):=by rw[a1,ap];exact zG V _
 have ah:=hid (ag.next bb);have a7:=hid ba;have b5:=hid a1.symm;have b1:=hid ap.symm;clear a1 bb ba ag ap;go_wp21;have G:=b5.out;rw[G,b1.out];clear G b5 b1 z0 z1 z2;refine wp_loop_rounds 4 ?_;rw[rounds_succ];have bv:a3.cell? ⟨Y,0,zp⟩=zq (z7 v p k):=by rw[zJ a7.out];rfl
 have J:=hid (b6 a3 ah.bel);go_wp21;clear bv;refine zzM J.out λbf h=>?_;have aa:=hid (ah.next h);have a8:=hid (zac h _ _ _ _ a7.out);clear h J ah a7;go_wp21;rw[rounds_succ];have bw:bf.cell? ⟨Y,1,zp⟩=zq (z7 x s l):=by rw[zJ a8.out];rfl
 have J:=hid (b7 bf aa.bel);go_wp21;clear bw;refine zzM J.out λbg h=>?_;have ab:=hid (aa.next h);have a9:=hid (zac h _ _ _ _ a8.out);clear h J aa a8;go_wp21;rw[rounds_succ];have bx:bg.cell? ⟨Y,2,zp⟩=zq (z7 y t o):=by rw[zJ a9.out];rfl
 have J:=hid (b8 bg ab.bel);go_wp21;clear bx;refine zzM J.out λc4 h=>?_;have ac:=hid (ab.next h);have bn:=hid (zac h _ _ _ _ a9.out);clear h J ab a9;go_wp21;rw[rounds_succ];go_wp21;clear bn b6 b7 b8;refine zc4 (λ(d:Option Addr×Nat×Nat×Int) bs=>([zf (zq ⟨w.heap.size+1,0,zp⟩),z7 v p k,zf (zq ⟨w.heap.size+1,1,zp⟩),z7 x s l,zf (zq ⟨w.heap.size+1,2,zp⟩),z7 y t o,zh #[z7 v p k,z7 x s l,z7 y t o],zh #[St a,St b,St c,z7 D C A],zh #[St a,St b,St c],ze #[z7 d.1 d.2.1 d.2.2.1,zj zm d.2.2.2],ze #[z7 d.1 d.2.1 d.2.2.1,zj zm d.2.2.2],z7 d.1 d.2.1 d.2.2.1,zj zm d.2.2.2,z7 d.1 d.2.1 d.2.2.1,zj zm d.2.2.2]:List Value).getD bs undef) (λd=>SdeG w a b c (z7 D C A) (z7 v p k) (z7 x s l) (z7 y t o) X L W (z7 d.1 d.2.1 d.2.2.1) d.2.2.2) (by kernel_rfl) (by kernel_rfl) (zp,0,0,0) (ac.next (zM _ _).drew) λd=>?_;refine qB (zf (zq ⟨w.heap.size+1,0,zp⟩)) (λj z f=>f.congr rfl) ?_;refine qB (z7 v p k) (λj z f=>f.congr rfl) ?_ (hy:=λj z E f=>by obtain⟨ar,au,av⟩:=f.mcells;go_simp);refine qB (zf (zq ⟨w.heap.size+1,1,zp⟩)) (λj z f=>f.congr rfl) ?_;simp only[zzQ];refine qB (z7 x s l) (λj z f=>f.congr rfl) ?_ (hy:=λj z E f=>by obtain⟨ar,au,av⟩:=f.mcells;go_simp);refine qB (zf (zq ⟨w.heap.size+1,2,zp⟩)) (λj z f=>f.congr rfl) ?_;refine qB (z7 y t o) (λj z f=>f.congr rfl) ?_ (hy:=λj z E f=>by obtain⟨ar,au,av⟩:=f.mcells;go_simp);simp only[zzQ];refine qB (zh #[z7 v p k,z7 x s l,z7 y t o]) (λj z f=>f.congr rfl) ?_;refine qB (zh #[St a,St b,St c,z7 D C A]) (λj z f=>f.congr rfl) ?_ (hy:=λj z E f=>by obtain⟨ar,au,av,c3⟩:=f.hcells;go_simp);simp only[zzQ]
 refine zbv (zh #[St a,St b,St c]) (by rfl) (by rfl) (λj z E f bi ao=>by
  go_simp;refine zzM (zc9 a b c D C A _) λw' h=>?_;exact⟨_,rfl,ao _ ((f.next h).congr rfl)⟩) ?_
 try simp only[zzQ]
 refine zdc (ze #[z7 d.1 d.2.1 d.2.2.1,zj zm d.2.2.2]) (by rfl) (by rfl) (λj z E f bi ao=>by
  have G:=E.self;have an:=E.no (j:=10) E.self (by kernel_rfl);have bd:=E.no (j:=11) an (by kernel_rfl);have bp:=E.no (j:=13) bd (by kernel_rfl);have h12:=E.no (j:=12) an (by kernel_rfl);have bq:=E.no (j:=14) h12 (by kernel_rfl);have br:=ak z f.bel;go_simp;refine br.mono ?_;rintro e w' ⟨O,P,Q,S,rfl,h,H⟩;have i:∀I,j I=true->(([zf (zq ⟨w.heap.size+1,0,zp⟩),z7 v p k,zf (zq ⟨w.heap.size+1,1,zp⟩),z7 x s l,zf (zq ⟨w.heap.size+1,2,zp⟩),z7 y t o,zh #[z7 v p k,z7 x s l,z7 y t o],zh #[St a,St b,St c,z7 D C A],zh #[St a,St b,St c],ze #[z7 O P Q,zj zm S],ze #[z7 O P Q,zj zm S],z7 O P Q,zj zm S,z7 O P Q,zj zm S]:List Value).getD I undef)=(([zf (zq ⟨w.heap.size+1,0,zp⟩),z7 v p k,zf (zq ⟨w.heap.size+1,1,zp⟩),z7 x s l,zf (zq ⟨w.heap.size+1,2,zp⟩),z7 y t o,zh #[z7 v p k,z7 x s l,z7 y t o],zh #[St a,St b,St c,z7 D C A],zh #[St a,St b,St c],ze #[z7 d.1 d.2.1 d.2.2.1,zj zm d.2.2.2],ze #[z7 d.1 d.2.1 d.2.2.1,zj zm d.2.2.2],z7 d.1 d.2.1 d.2.2.1,zj zm d.2.2.2,z7 d.1 d.2.1 d.2.2.1,zj zm d.2.2.2]:List Value).getD I undef):=by
   intro I i
   match I,i with
   |0,_|1,_|2,_|3,_|4,_|5,_|6,_|7,_|8,_=>rfl
   |9,i=>rw[G] at i;cases i
   |10,i=>rw[an] at i;cases i
   |11,i=>rw[bd] at i;cases i
   |13,i=>rw[bp] at i;cases i
   |12,i=>rw[h12] at i;cases i
   |14,i=>rw[bq] at i;cases i
   |_+15,_=>rfl
  exact⟨_,rfl,ao (O,P,Q,S) _ i (f.res h H)⟩) ?_
 refine qB (ze #[z7 d.1 d.2.1 d.2.2.1,zj zm d.2.2.2]) (λj z f=>f.congr rfl) ?_;refine qB (z7 d.1 d.2.1 d.2.2.1) (λj z f=>f.congr rfl) ?_;simp only[zzQ];refine qB (zj zm d.2.2.2) (λj z f=>f.congr rfl) ?_;refine qB (z7 d.1 d.2.1 d.2.2.1) (λj z f=>f.congr rfl) ?_;refine qB (zj zm d.2.2.2) (λj z f=>f.congr rfl) ?_;simp only[zzQ];refine ze1 λj bo E f=>?_;obtain⟨b',c0,c1,c2⟩:=d;have U:=f.sr (E 9 (by decide));have R:=hid f.bel;obtain⟨z0,z1,z2,z3⟩:=f.hcells;dsimp only at U⊢;rcases U with⟨rfl,U,K⟩|⟨rfl,H,T⟩
 ·have ad:=hid (ai bo _ K f.bel U)
  have ae:=hid λg u=>aj g u K;have bk:=hid K;clear f E U ac ak ai K aj;go_wp21;refine ad.mono ?_;rintro e bu ⟨O,P,Q,bz,rfl,h,H⟩;have Z:=R.trans (h.mono R.size);have a':=hid Z;rcases H with⟨rfl,H,K⟩|⟨rfl,H,T⟩
  ·have bm:=hid (ae bu _ K Z H)
   have bl:=hid K;clear h Z H ad R ae z0 z1 z2 z3 K;go_wp21;refine zzM bm.out λc5 h=>?_;have bj:=qT a' h;clear h;go_wp21;go_ret2;exact⟨_,_,rfl,bj.out,.inr ⟨rfl,rfl,bk.out,bl.out⟩⟩
  ·injection H with al M am
   subst al;subst M;subst am;have a6:=hid T;clear h Z ad R ae z0 z1 z2 z3 T;go_wp21;go_ret2;exact⟨_,_,rfl,a'.out,.inl ⟨rfl,rfl,.inr a6.out⟩⟩
 ·injection H with al M am
  subst al;subst M;subst am;have a6:=hid T;clear f E ac ak ai aj T;go_wp21;go_ret2;exact⟨_,_,rfl,R.out,.inl ⟨rfl,rfl,.inl a6.out⟩⟩
theorem yg9 (a b c:List UInt8) (t p q s:Option Addr) (o k l m n h i j:Nat) (v x:List (Rat×Nat)) (y:Int) (w:zA)
 (z:Hid (∀d:zA,qL w d->∀B,d.heap[B]? =zq (zn #[St a,St b,St c,z7 t o k] 53 (0,0))->qJ 98 #[z7 (zq ⟨B,0,zp⟩) 1 1] d (zj zm 0)))
 (A:Hid (∀d:zA,qL w d->qJ 124 #[z7 p l h] d (zj zm 0)))
 (C:Hid (∀d:zA,qL w d->qJ 124 #[z7 q m i] d (zj zm 0)))
 (D:Hid (∀d:zA,qL w d->qJ 124 #[z7 s n j] d (zj zm 0)))
 (G:Hid (∀d:zA,qL w d->zC zF 123 #[zh #[z7 p l h,z7 q m i,z7 s n j],zh #[St a,St b,St c]] d λe w'=>∃r,e=zo (ze #[r,zj zm 0])/\zB d.heap.size d w'/\SdL r v w'))
 (E:Hid (∀(d:zA) (r:Value),qL w d->SdL r v d->zC zF 125 #[r,z7 t o k] d λe w'=>∃u,e=zo (ze #[u,zj zm 0])/\zB d.heap.size d w'/\SdL u x w'))
 (F:Hid (∀(d:zA) (u:Value),qL w d->SdL u x d->qJ 126 #[u] d (ze #[zj zm y,zj zm 0]))):
 qJ 82 #[zh #[St a,St b,St c,z7 t o k],zh #[z7 p l h,z7 q m i,z7 s n j]] w (ze #[zj zm y,zj zm 0]):=
 (yim a b c t p q s o k l m n h i j v x True True False False y 0 w z A C D (hid λd f=>zeu (G d f)) (hid λd u _ f g=>zeu (E d u f g)) (hid λd u _ _ f g=>F d u f g)).mono λe w' ⟨J,r,f,g,I⟩=>by
   rcases I with⟨_,_,H⟩|⟨rfl,rfl, -⟩
   ·exact H.elim False.elim False.elim
   ·exact⟨f,g⟩
theorem z8w (a b c:List UInt8) (w:zA):
 qJ 139 #[zh #[St a,St b,St c]] w (zh #[St a,St b,St c]):=by
 go_enter Tryz.func139,Tryz.ntmps139;go_wp21;exact bodyPost_ret (v:=zh #[St a,St b,St c]) (by simp[results,Tryz.results139,go_sem]) rfl ⟨rfl,((zM _ w).alloc (zN _) _).alloc (by simp) _⟩
theorem z7t (a b c d e f:List UInt8) (w:zA)
 (r:Hid (∀h:zA,qL w h->qJ 103 #[zh #[St a,St b,St c]] h (zj zm 0)))
 (s:Hid (∀h:zA,qL w h->qJ 103 #[zh #[St d,St e,St f]] h (zj zm 0))):
 qJ 101 #[zh #[St a,St b,St c],zh #[St d,St e,St f]] w (zj zm 0):=by
 obtain⟨l,j⟩:=zzX ((w.alloc (zn #[St a,St b,St c] 137)).alloc (zn #[St d,St e,St f] 137));have n:qL w l:=by rw[j];exact((zM _ w).alloc (zN _) _).alloc (by simp) _
 have p:l.heap[w.heap.size+1]? =zq (zn #[St d,St e,St f] 137 (0,0)):=by
  rw[j];have:=zG (w.alloc (zn #[St a,St b,St c] 137)) (zn #[St d,St e,St f] 137);rw[zH] at this;exact this
 have m:=hid n;have v:=hid p;have u:=hid j.symm;have t:=hid (r l n);clear j n p r;go_enter Tryz.func101,Tryz.ntmps101;go_wp21;have x:=u.out;rw[show(w.alloc (zn #[z8 ⟨a.toArray⟩,z8 ⟨b.toArray⟩,z8 ⟨c.toArray⟩] 137)).alloc (zn #[z8 ⟨d.toArray⟩,z8 ⟨e.toArray⟩,z8 ⟨f.toArray⟩] 137)=l from x];clear x u;refine zzM t.out λk g=>?_;have o:=m.trans (g.mono m.size);have q:=hid o;have i:=zac g _ _ _ _ v.out;have A:k.cell? ⟨w.heap.size+1,0,zp⟩=zq (St d):=by rw[zJ i];rfl
 have B:k.cell? ⟨w.heap.size+1,1,zp⟩=zq (St e):=by rw[zJ i];rfl
 have C:k.cell? ⟨w.heap.size+1,2,zp⟩=zq (St f):=by rw[zJ i];rfl
 have z:=hid (s k o);clear g o i m v t s;go_wp21;refine zzM z.out λD g=>?_;have y:=hid (q.trans (g.mono q.size));clear g;go_wp21;go_ret;exact⟨rfl,y.out⟩
structure WtS (w:zA) (a0 a1 a2 b0 b1 b2 o0 o1 o2:List UInt8) (Y:Nat) (W:zA):Prop where
 bel:qL w W
 h0:W.heap[w.heap.size]? =zq (zn #[St a0,St a1,St a2] 170 (0,0))
 h1:W.heap[w.heap.size+1]? =zq (zn #[St b0,St b1,St b2] 170 (0,0))
 h2:W.heap[w.heap.size+1+1]? =zq (zn #[St [],St [],St []] 137 (0,0))
 h3:W.heap[w.heap.size+1+1+1]? =zq (zn #[St o0,St o1,St o2] 61 (0,0))
 lo:w.heap.size+1+1+1<Y
 h4:W.heap[Y]? =zq (zn #[St b0,St b1,St b2] 61 (0,0))
section
variable {w W W':zA} {a0 a1 a2 b0 b1 b2 o0 o1 o2:List UInt8} {Y:Nat}
theorem WtS.next (h:WtS w a0 a1 a2 b0 b1 b2 o0 o1 o2 Y W) (b:qL W W'):WtS w a0 a1 a2 b0 b1 b2 o0 o1 o2 Y W':=
 have a:=zac b
 ⟨h.bel.trans (b.mono h.bel.size),a _ _ _ _ h.h0,a _ _ _ _ h.h1,a _ _ _ _ h.h2,a _ _ _ _ h.h3,h.lo,a _ _ _ _ h.h4⟩
theorem zah {W:zA} {A:Nat} {x y z:Value} {t:TypeId} (h:W.heap[A]? =zq (zn #[x,y,z] t (0,0))):W.cell? ⟨A,0,zp⟩=zq x/\W.cell? ⟨A,1,zp⟩=zq y/\W.cell? ⟨A,2,zp⟩=zq z/\W.frozen? ⟨A,0,zp⟩=zu/\W.frozen? ⟨A,1,zp⟩=zu/\W.frozen? ⟨A,2,zp⟩=zu:=
 ⟨by rw[zJ h];rfl,by rw[zJ h];rfl,by rw[zJ h];rfl,Go.Joins.unfrozen_of_block h 0,Go.Joins.unfrozen_of_block h 1,Go.Joins.unfrozen_of_block h 2⟩
theorem WtS.ne (h:WtS w a0 a1 a2 b0 b1 b2 o0 o1 o2 Y W) (i:Nat) (u:Value):qL w (W.setCell ⟨w.heap.size+1+1+1,i,zp⟩ u)/\(∀b,b≠w.heap.size+1+1+1->(W.setCell ⟨w.heap.size+1+1+1,i,zp⟩ u).heap[b]? =W.heap[b]?):=
 ⟨h.bel.setCell (p:=⟨w.heap.size+1+1+1,i,zp⟩) (by show _<=w.heap.size+1+1+1;omega) _,λb a=>yE _ _ _ _ (by exact a)⟩
theorem WtS.put0 (h:WtS w a0 a1 a2 b0 b1 b2 o0 o1 o2 Y W) (u:List UInt8):WtS w a0 a1 a2 b0 b1 b2 u o1 o2 Y (W.setCell ⟨w.heap.size+1+1+1,0,zp⟩ (St u)):=by
 obtain⟨b,a⟩:=h.ne 0 (St u);have:=h.lo;exact⟨b,(a _ (by omega)).trans h.h0,(a _ (by omega)).trans h.h1,(a _ (by omega)).trans h.h2,zK (i:=0) h.h3 (St u),h.lo,(a _ (by omega)).trans h.h4⟩
theorem WtS.put1 (h:WtS w a0 a1 a2 b0 b1 b2 o0 o1 o2 Y W) (u:List UInt8):WtS w a0 a1 a2 b0 b1 b2 o0 u o2 Y (W.setCell ⟨w.heap.size+1+1+1,1,zp⟩ (St u)):=by
 obtain⟨b,a⟩:=h.ne 1 (St u);have:=h.lo;exact⟨b,(a _ (by omega)).trans h.h0,(a _ (by omega)).trans h.h1,(a _ (by omega)).trans h.h2,zK (i:=1) h.h3 (St u),h.lo,(a _ (by omega)).trans h.h4⟩
theorem WtS.put2 (h:WtS w a0 a1 a2 b0 b1 b2 o0 o1 o2 Y W) (u:List UInt8):WtS w a0 a1 a2 b0 b1 b2 o0 o1 u Y (W.setCell ⟨w.heap.size+1+1+1,2,zp⟩ (St u)):=by
 obtain⟨b,a⟩:=h.ne 2 (St u);have:=h.lo;exact⟨b,(a _ (by omega)).trans h.h0,(a _ (by omega)).trans h.h1,(a _ (by omega)).trans h.h2,zK (i:=2) h.h3 (St u),h.lo,(a _ (by omega)).trans h.h4⟩
end
theorem zmw (i a1 j k l b2 z c1 c2:List UInt8) (g:FuncId) (aa:∀args w,(callFunc g args).run zF w=.ok (.enter g args) w) (w:zA)
 (au:Hid (∀f:zA,qL w f->zC zF g #[St i,St k] f λe w'=>e=zo (ze #[St z,zj zm 0])/\zB f.heap.size f w'))
 (av:Hid (∀f:zA,qL w f->zC zF g #[St a1,St l] f λe w'=>e=zo (ze #[St c1,zj zm 0])/\zB f.heap.size f w'))
 (aw:Hid (∀f:zA,qL w f->zC zF g #[St j,St b2] f λe w'=>e=zo (ze #[St c2,zj zm 0])/\zB f.heap.size f w')):
 qJ 105 #[zh #[St i,St a1,St j],zh #[St k,St l,St b2],.func (.func g) #[] #[]] w (ze #[zh #[St z,St c1,St c2],zj zm 0]):=by
 have az:=λw=>(zet i a1 j w).1;have a':=λw=>(zet i a1 j w).2.1;have b0:=λw=>(zet i a1 j w).2.2;obtain⟨t,D⟩:=zzX (w.alloc (zn #[St i,St a1,St j] 170));obtain⟨u,E⟩:=zzX (t.alloc (zn #[St k,St l,St b2] 170));obtain⟨x,F⟩:=zzX (u.alloc (zn #[St [],St [],St []] 137));obtain⟨m,G⟩:=zzX (x.alloc (zn #[St [],St [],St []] 61));have a3:t.heap.size=w.heap.size+1:=by rw[D];simp
 have a4:u.heap.size=w.heap.size+1+1:=by rw[E,zH,a3]
 have a5:x.heap.size=w.heap.size+1+1+1:=by rw[F,zH,a4]
 have al:m.heap.size=w.heap.size+1+1+1+1:=by rw[G,zH,a5]
 have a0:qL w t:=by rw[D];exact(zM _ w).alloc (zN _) _
 have H:qL t u:=by rw[E];exact(zM _ t).alloc (zN _) _
 have I:qL u x:=by rw[F];exact(zM _ u).alloc (zN _) _
 have N:qL x m:=by rw[G];exact(zM _ x).alloc (zN _) _
 have ab:t.heap[w.heap.size]? =zq (zn #[St i,St a1,St j] 170 (0,0)):=by rw[D];exact zG w _
 have ac:u.heap[w.heap.size+1]? =zq (zn #[St k,St l,St b2] 170 (0,0)):=by rw[E,<-a3];exact zG t _
 have ad:x.heap[w.heap.size+1+1]? =zq (zn #[St [],St [],St []] 137 (0,0)):=by rw[F,<-a4];exact zG u _
 have ae:m.heap[w.heap.size+1+1+1]? =zq (zn #[St [],St [],St []] 61 (0,0)):=by rw[G,<-a5];exact zG x _
 have a2:=(H.trans (I.mono H.size)).trans (N.mono (H.trans (I.mono H.size)).size);have ai:=I.trans (N.mono I.size);have ah:=a0.trans (a2.mono a0.size);have q:=hid (⟨ah,zac a2 _ _ _ _ ab,zac ai _ _ _ _ ac,zac N _ _ _ _ ad,ae,al⟩:
  qL w m/\m.heap[w.heap.size]? =zq (zn #[St i,St a1,St j] 170 (0,0))/\m.heap[w.heap.size+1]? =zq (zn #[St k,St l,St b2] 170 (0,0))/\m.heap[w.heap.size+1+1]? =zq (zn #[St [],St [],St []] 137 (0,0))/\m.heap[w.heap.size+1+1+1]? =zq (zn #[St [],St [],St []] 61 (0,0))/\m.heap.size=w.heap.size+1+1+1+1)
 have ag:m=(((w.alloc (zn #[St i,St a1,St j] 170)).alloc (zn #[St k,St l,St b2] 170)).alloc (zn #[St [],St [],St []] 137)).alloc (zn #[St [],St [],St []] 61):=by rw[G,F,E,D]
 have a6:=hid ag.symm;have O:=hid aa;clear ag D E F G a3 a4 a5 al a0 H I N ab ac ad ae a2 ai ah aa;clear t u x;go_enter Tryz.func105,Tryz.ntmps105;go_wp21;have h:=a6.out;rw[show(((w.alloc (zn #[z8 ⟨i.toArray⟩,z8 ⟨a1.toArray⟩,z8 ⟨j.toArray⟩] 170)).alloc (zn #[z8 ⟨k.toArray⟩,z8 ⟨l.toArray⟩,z8 ⟨b2.toArray⟩] 170)).alloc (zn #[z8 ⟨#[]⟩,z8 ⟨#[]⟩,z8 ⟨#[]⟩] 137)).alloc (zn #[z8 ⟨#[]⟩,z8 ⟨#[]⟩,z8 ⟨#[]⟩] 61)=m from h];clear h a6;refine zzM (zln k l b2 m) λo a=>?_;obtain⟨y,M⟩:=zzX (o.alloc (zn #[St k,St l,St b2] 61));have a9:qL o y:=by rw[M];exact(zM _ o).alloc (zN _) _
 obtain⟨a8,U⟩:=zzX o.heap.size;have af:y.heap[a8]? =zq (zn #[St k,St l,St b2] 61 (0,0)):=by rw[M,U];exact zG o _
 have Z:=a.trans (a9.mono a.size);have B:=zac Z;have A:Hid (WtS w i a1 j k l b2 [] [] [] a8 y):=hid ⟨q.1.trans (Z.mono q.1.size),B _ _ _ _ q.2.1,B _ _ _ _ q.2.2.1,B _ _ _ _ q.2.2.2.1,B _ _ _ _ q.2.2.2.2.1,by have:=a.size;have:=q.2.2.2.2.2;omega,af⟩;have ap:y.cell? ⟨w.heap.size,0,zp⟩=zq (St i):=(zah A.h0).1;have aq:y.cell? ⟨w.heap.size,1,zp⟩=zq (St a1):=(zah A.h0).2.1;have ar:y.cell? ⟨w.heap.size,2,zp⟩=zq (St j):=(zah A.h0).2.2.1;have T:=hid M.symm;have a7:=hid U.symm;clear a Z B M U a9 af q;rw[<-T.out] at ap aq ar;go_wp21;have h:=T.out;rw[show o.alloc (zn #[z8 ⟨k.toArray⟩,z8 ⟨l.toArray⟩,z8 ⟨b2.toArray⟩] 61)=y from h,a7.out];clear h T a7 ap aq ar;refine zzM (zln i a1 j y) λt3 a=>?_;have J:=hid (A.next a);clear a A;go_wp21;refine wp_loop_rounds 4 ?_;rw[rounds_succ];obtain⟨b,c,d, -, -, -⟩:=zah J.h4;have C:=O.out;have r:=hid (au t3 J.bel);go_wp21;clear b c d C;refine zzM r.out λo a=>?_;have Q:=hid (J.next a);clear a r J;obtain⟨b,c,d,z0,z1,z2⟩:=zah Q.h3;obtain⟨am,W⟩:=zzX (o.setCell ⟨w.heap.size+1+1+1,0,zp⟩ (St z));have n:=Q.put0 z;rw[<-W] at n;have K:=hid n;have s:=hid W.symm;clear n W;go_wp21;have h:=s.out;rw[show o.setCell ⟨w.heap.size+1+1+1,0,zp⟩ (z8 ⟨z.toArray⟩)=am from h];clear h s b c d z0 z1 z2 Q;rw[rounds_succ];obtain⟨b,c,d, -, -, -⟩:=zah K.h4;have C:=O.out;have r:=hid (av am K.bel)
 go_wp21;clear b c d C;refine zzM r.out λaj a=>?_;have R:=hid (K.next a);clear a r K;obtain⟨b,c,d,z0,z1,z2⟩:=zah R.h3;obtain⟨an,X⟩:=zzX (aj.setCell ⟨w.heap.size+1+1+1,1,zp⟩ (St c1));have n:=R.put1 c1;rw[<-X] at n;have L:=hid n;have s:=hid X.symm;clear n X;go_wp21;have h:=s.out;rw[show aj.setCell ⟨w.heap.size+1+1+1,1,zp⟩ (z8 ⟨c1.toArray⟩)=an from h];clear h s b c d z0 z1 z2 R;rw[rounds_succ];obtain⟨b,c,d, -, -, -⟩:=zah L.h4;have C:=O.out;have r:=hid (aw an L.bel);go_wp21;clear b c d C;refine zzM r.out λak a=>?_;have S:=hid (L.next a);clear a r L;obtain⟨b,c,d,z0,z1,z2⟩:=zah S.h3;obtain⟨ao,Y⟩:=zzX (ak.setCell ⟨w.heap.size+1+1+1,2,zp⟩ (St c2));have n:=S.put2 c2;rw[<-Y] at n;have P:=hid n;have s:=hid Y.symm;clear n Y;go_wp21;have h:=s.out;rw[show ak.setCell ⟨w.heap.size+1+1+1,2,zp⟩ (z8 ⟨c2.toArray⟩)=ao from h];clear h s b c d z0 z1 z2 S;rw[rounds_succ];obtain⟨b,c,d, -, -, -⟩:=zah P.h3;go_wp21;clear b c d;refine zzM (z8w z c1 c2 ao) λb1 a=>?_;have V:=P.next a;obtain⟨b,c,d,z0,z1,z2⟩:=zah V.h2;have ax:=hid V;clear V a P;go_wp21;have ay:=ax.bel
 exact bodyPost_ret (v:=ze #[zh #[St z,St c1,St c2],zj zm 0]) (by simp[results,Tryz.results105,go_sem,b,c,d]) rfl ⟨rfl,((ay.setCell (p:=⟨w.heap.size+1+1,0,zp⟩) (by show _<=w.heap.size+1+1;omega) _).setCell (p:=⟨w.heap.size+1+1,1,zp⟩) (by show _<=w.heap.size+1+1;omega) _).setCell (p:=⟨w.heap.size+1+1,2,zp⟩) (by show _<=w.heap.size+1+1;omega) _⟩
theorem zcz {w g:zA} {a b c d e f:Value} {i t:TypeId} (h:g=(w.alloc (zn #[a,b,c] i)).alloc (zn #[d,e,f] t)):
 qL w g/\g.heap[w.heap.size]? =zq (zn #[a,b,c] i (0,0))/\g.heap[w.heap.size+1]? =zq (zn #[d,e,f] t (0,0))/\g.heap.size=w.heap.size+1+1:=by
 refine⟨by rw[h];exact((zM _ w).alloc (zN _) _).alloc (by simp) _,by rw[h];exact(Below.heap_alloc _ _ _ (by simp)).trans (zG w _),?_,by rw[h];simp⟩;rw[h];have:=zG (w.alloc (zn #[a,b,c] i)) (zn #[d,e,f] t);rw[zH] at this;exact this
theorem z8y (h a1 i j c b2 f c1 c2 J r:List UInt8) (w:zA)
 (G:Hid (∀b:zA,qL w b->qJ 105 #[zh #[St h,St a1,St i],zh #[St j,St c,St b2],.func (.func 106) #[] #[]] b (ze #[zh #[St f,St c1,St c2],zj zm 0])))
 (y:Hid (∀b:zA,qL w b->qJ 199 #[St f,St c1] b (ze #[St J,zj zm 0])))
 (z:Hid (∀b:zA,qL w b->qJ 199 #[St J,St c2] b (ze #[St r,zj zm 0]))):
 qJ 155 #[zh #[St h,St a1,St i],zh #[St j,St c,St b2]] w (ze #[St r,zj zm 0]):=by
 obtain⟨K,x⟩:=zzX ((w.alloc (zn #[St h,St a1,St i] 170)).alloc (zn #[St j,St c,St b2] 170));have c:=(zcz x).1;have A:=hid (G K c);have p:=hid c;have D:=hid x.symm;clear x c G;go_enter Tryz.func155,Tryz.ntmps155;go_wp21;have g:=D.out;rw[show(w.alloc (zn #[z8 ⟨h.toArray⟩,z8 ⟨a1.toArray⟩,z8 ⟨i.toArray⟩] 170)).alloc (zn #[z8 ⟨j.toArray⟩,z8 ⟨c.toArray⟩,z8 ⟨b2.toArray⟩] 170)=K from g];clear g D;refine zzM A.out λe a=>?_;obtain⟨o,n⟩:=zzX (e.alloc (zn #[St f,St c1,St c2] 137));have H:qL e o:=by rw[n];exact(zM _ e).alloc (zN _) _
 obtain⟨M,u⟩:=zzX e.heap.size;have v:o.heap[M]? =zq (zn #[St f,St c1,St c2] 137 (0,0)):=by rw[n,u];exact zG e _
 have I:=a.trans (H.mono a.size);have d:=p.trans (I.mono p.size);have q:=hid d;have B:=hid (y o d);have F:=hid v;obtain⟨k,l,m, -, -, -⟩:=zah v;have t:=hid n.symm;have E:=hid u.symm;clear a I n u H v d p y A;rw[<-t.out] at k l m;go_wp21;have g:=t.out;rw[show e.alloc (zn #[z8 ⟨f.toArray⟩,z8 ⟨c1.toArray⟩,z8 ⟨c2.toArray⟩] 137)=o from g]
 try rw[E.out]
 clear g t E k l m;refine zzM B.out λN a=>?_;have d:=q.trans (a.mono q.size);have s:=hid d;have C:=hid (z N d);obtain⟨k,l,m, -, -, -⟩:=zah (zac a _ _ _ _ F.out);clear a d B z q F;go_wp21;clear k l m;refine zzM C.out λO a=>?_;have L:=hid (s.trans (a.mono s.size));clear a C s;go_wp21;go_ret2;exact⟨rfl,L.out⟩
theorem yd6 (d a1 e f a b2 r:List UInt8) (w:zA)
 (k:Hid (∀c:zA,qL w c->qJ 101 #[zh #[St d,St a1,St e],zh #[St f,St a,St b2]] c (zj zm 0)))
 (l:Hid (∀c:zA,qL w c->qJ 155 #[zh #[St d,St a1,St e],zh #[St f,St a,St b2]] c (ze #[St r,zj zm 0]))):
 qJ 121 #[zh #[St d,St a1,St e],zh #[St f,St a,St b2]] w (ze #[St r,zj zm 0]):=by
 obtain⟨v,j⟩:=zzX ((w.alloc (zn #[St d,St a1,St e] 137)).alloc (zn #[St f,St a,St b2] 137));obtain⟨a,t,u, -⟩:=zcz j;have m:=hid (k v a);have g:=hid a;have p:=hid t;have q:=hid u;have o:=hid j.symm;clear j a k t u;go_enter Tryz.func121,Tryz.ntmps121;go_wp21;have s:=o.out;rw[show(w.alloc (zn #[z8 ⟨d.toArray⟩,z8 ⟨a1.toArray⟩,z8 ⟨e.toArray⟩] 137)).alloc (zn #[z8 ⟨f.toArray⟩,z8 ⟨a.toArray⟩,z8 ⟨b2.toArray⟩] 137)=v from s];clear s o;refine zzM m.out λE b=>?_;have i:=g.trans (b.mono g.size);have h:=hid i;have n:=hid (l E i);obtain⟨y,z,A, -, -, -⟩:=zah (zac b _ _ _ _ p.out);obtain⟨B,C,D, -, -, -⟩:=zah (zac b _ _ _ _ q.out);clear b i g l m p q;go_wp21;clear y z A B C D;refine zzM n.out λF b=>?_;have x:=hid (h.trans (b.mono h.size));clear b n h;go_wp21;go_ret2;exact⟨rfl,x.out⟩
theorem zjg {w g:zA} {a b c d e f x y z:Value} {i t u:TypeId} (h:g=((w.alloc (zn #[a,b,c] i)).alloc (zn #[d,e,f] t)).alloc (zn #[x,y,z] u)):
 qL w g/\g.heap[w.heap.size]? =zq (zn #[a,b,c] i (0,0))/\g.heap[w.heap.size+1]? =zq (zn #[d,e,f] t (0,0))/\g.heap[w.heap.size+1+1]? =zq (zn #[x,y,z] u (0,0))/\g.heap.size=w.heap.size+1+1+1:=by
 obtain⟨j,k⟩:=zzX ((w.alloc (zn #[a,b,c] i)).alloc (zn #[d,e,f] t));obtain⟨l,p,q,m⟩:=zcz k;rw[<-k] at h;have n:qL j g:=by rw[h];exact(zM _ j).alloc (zN _) _
 have o:=zac n;exact⟨l.trans (n.mono l.size),o _ _ _ _ p,o _ _ _ _ q,by rw[h,<-m];exact zG j _,by rw[h,zH,m]⟩
theorem zxt (d a1 e f a b2 i c1 c2:List UInt8) (w:zA)
 (o:Hid (∀c:zA,qL w c->qJ 101 #[zh #[St d,St a1,St e],zh #[St f,St a,St b2]] c (zj zm 0)))
 (q:Hid (∀c:zA,qL w c->qJ 102 #[zh #[St d,St a1,St e],zh #[St f,St a,St b2]] c (ze #[zh #[St i,St c1,St c2],zj zm 0]))):
 qJ 70 #[zh #[St d,St a1,St e],zh #[St f,St a,St b2]] w (ze #[zh #[St i,St c1,St c2],zj zm 0]):=by
 obtain⟨F,n⟩:=zzX (((w.alloc (zn #[St d,St a1,St e] 137)).alloc (zn #[St f,St a,St b2] 137)).alloc (zn #[St [],St [],St []] 137));obtain⟨a,C,D,E, -⟩:=zjg n;have r:=hid (o F a);have g:=hid a;have u:=hid C;have x:=hid D;have y:=hid E;have t:=hid n.symm;clear n a o C D E;go_enter Tryz.func70,Tryz.ntmps70;go_wp21;have A:=t.out;rw[show((w.alloc (zn #[z8 ⟨d.toArray⟩,z8 ⟨a1.toArray⟩,z8 ⟨e.toArray⟩] 137)).alloc (zn #[z8 ⟨f.toArray⟩,z8 ⟨a.toArray⟩,z8 ⟨b2.toArray⟩] 137)).alloc (zn #[z8 ⟨#[]⟩,z8 ⟨#[]⟩,z8 ⟨#[]⟩] 137)=F from A];clear A t;refine zzM r.out λK b=>?_;have m:=g.trans (b.mono g.size);have h:=hid m;have s:=hid (q K m);obtain⟨j,k,l, -, -, -⟩:=zah (zac b _ _ _ _ u.out);obtain⟨H,I,J, -, -, -⟩:=zah (zac b _ _ _ _ x.out);have z:=hid (zac b _ _ _ _ y.out);clear b m g q r u x y;go_wp21;clear j k l H I J;refine zzM s.out λL b=>?_;have B:=h.trans (b.mono h.size);have G:=hid B;obtain⟨j,k,l,z0,z1,z2⟩:=zah (zac b _ _ _ _ z.out);clear b s h z B;go_wp21;exact bodyPost_ret (v:=ze #[zh #[St i,St c1,St c2],zj zm 0]) (by simp[results,Tryz.results70,go_sem,j,k,l]) rfl ⟨rfl,((G.setCell (p:=⟨w.heap.size+1+1,0,zp⟩) (by show _<=w.heap.size+1+1;omega) _).setCell (p:=⟨w.heap.size+1+1,1,zp⟩) (by show _<=w.heap.size+1+1;omega) _).setCell (p:=⟨w.heap.size+1+1,2,zp⟩) (by show _<=w.heap.size+1+1;omega) _⟩
theorem z1k (d a1 e x j c1 c2:List UInt8) (w:zA)
 (o:Hid (∀b:zA,qL w b->qJ 103 #[zh #[St d,St a1,St e]] b (zj zm 0)))
 (q:Hid (∀b:zA,qL w b->qJ 104 #[St x] b (zj zm 0)))
 (D:Hid (∀b:zA,qL w b->qJ 105 #[zh #[St d,St a1,St e],zh #[St x,St x,St x],.func (.func 106) #[] #[]] b (ze #[zh #[St j,St c1,St c2],zj zm 0]))):
 qJ 72 #[zh #[St d,St a1,St e],St x] w (ze #[zh #[St j,St c1,St c2],zj zm 0]):=by
 obtain⟨H,n⟩:=zzX ((w.alloc (zn #[St d,St a1,St e] 137)).alloc (zn #[St [],St [],St []] 137));obtain⟨i,F,G, -⟩:=zcz n;have r:=hid (o H i);have f:=hid i;have y:=hid F;have z:=hid G;have t:=hid n.symm;clear n i o F G;go_enter Tryz.func72,Tryz.ntmps72;go_wp21;have E:=t.out;rw[show(w.alloc (zn #[z8 ⟨d.toArray⟩,z8 ⟨a1.toArray⟩,z8 ⟨e.toArray⟩] 137)).alloc (zn #[z8 ⟨#[]⟩,z8 ⟨#[]⟩,z8 ⟨#[]⟩] 137)=H from E];clear E t;refine zzM r.out λJ a=>?_;have c:=f.trans (a.mono f.size);have g:=hid c;have s:=hid (q J c);have A:=hid (zac a _ _ _ _ y.out);have B:=hid (zac a _ _ _ _ z.out);clear a c f q r y z;go_wp21;refine zzM s.out λK a=>?_;have c:=g.trans (a.mono g.size);have h:=hid c;have u:=hid (D K c);obtain⟨k,l,m, -, -, -⟩:=zah (zac a _ _ _ _ A.out);have C:=hid (zac a _ _ _ _ B.out);clear a c g D s A B;go_wp21;clear k l m;refine zzM u.out λL a=>?_;have I:=hid (h.trans (a.mono h.size));obtain⟨k,l,m,z0,z1,z2⟩:=zah (zac a _ _ _ _ C.out);clear a u h C;go_wp21;exact bodyPost_ret (v:=ze #[zh #[St j,St c1,St c2],zj zm 0]) (by simp[results,Tryz.results72,go_sem,k,l,m]) rfl ⟨rfl,((I.setCell (p:=⟨w.heap.size+1,0,zp⟩) (by show _<=w.heap.size+1;omega) _).setCell (p:=⟨w.heap.size+1,1,zp⟩) (by show _<=w.heap.size+1;omega) _).setCell (p:=⟨w.heap.size+1,2,zp⟩) (by show _<=w.heap.size+1;omega) _⟩
end
end Go.Proofs.YtjmljcdbjakefaaGreatDoor
