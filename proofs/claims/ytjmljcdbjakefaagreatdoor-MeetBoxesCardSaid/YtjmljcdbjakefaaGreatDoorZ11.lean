/- kingpostref01.divide. -/
import Derived.Test.YtjmljcdbjakefaaGreatDoorZ10
set_option maxRecDepth 100000
set_option maxHeartbeats 8000000
open Go.Value renaming slice → z7, string → z8, tuple → ze, pointer → zf, bool → zg, agg → zh, int → zj
open Go.IntKind renaming i64 → zm
open Go.Obj renaming cells → zn
open Go.Ending renaming returned → zo
open Option renaming none → zp, some → zq
open Bool renaming true → zt, false → zu
open Go renaming World → zA, Calls → zC
open Go.RowKit renaming Below → zB, intOf → zL
open Go.Lib renaming decDigits → zD, itoa → zE
open Go.Proofs.Tryz renaming prog → zF
open Go.World renaming size_alloc → zH
open Go.IntWalk renaming i64_in → zI
open Go.Joins renaming cell_of_block → zJ
open Go.RowKit.Below renaming refl → zM, heap_setCell → yE
open Nat renaming le_refl → zN, le_trans → zO, mod_lt → zP, mod_eq_of_lt → zQ, zero_le → zR, lt_of_lt_of_le → zS, le_of_lt → zT, pow_le_pow_right → yF, pow_succ → yO, mul_comm → yP, pos_of_ne_zero → yS, mul_add → yZ, eq_zero_or_pos → xD
open List renaming length_map → zV, getElem_mem → zY, append_nil → yH, length_nil → yT
namespace Go.Proofs.YtjmljcdbjakefaaGreatDoor
section
open Go.RowKit Lib Str Limb
theorem zu8 {w w':zA} {base:Nat} {t:TypeId} {c:Nat} {v:Value} {n:Nat} {xs:List Value} (h:w.ownsRow base t c v n xs) (i:qL w w'):w'.ownsRow base t c v n xs:=by
 refine⟨h.1,?_⟩;rcases h.2 with h|⟨a,d,e,f,g,b,j⟩
 ·exact .inl h
 ·exact .inr ⟨a,d,e,f,g,(i.block a (Array.getElem?_eq_some_iff.1 b).1).trans b,j⟩
theorem zxk {w:zA} {base a:Nat} {t:TypeId} {b:Nat} {v:Value} {n:Nat} {xs:List Value} (h:w.ownsRow base t b v n xs) (i:a<=base):w.ownsRow a t b v n xs:=by
 refine⟨h.1,?_⟩;rcases h.2 with h|⟨f,c,d,e,g,j⟩
 ·exact .inl h
 ·exact .inr ⟨f,c,d,e,zO i g,j⟩
theorem zka {w:zA} {base:Nat} {t:TypeId} {a:Nat} {v:Value} {n:Nat} {xs:List Value} (h:w.ownsRow base t a v n xs) {p:Addr} (j:p.block<base) (u:Value):(w.setCell p u).ownsRow base t a v n xs:=by
 refine⟨h.1,?_⟩;rcases h.2 with h|⟨e,b,c,d,f,g,i⟩
 ·exact .inl h
 ·exact .inr ⟨e,b,c,d,f,by rw[yE _ _ _ _ (by omega)];exact g,i⟩
theorem zxm {w:zA} {base g n c:Nat} {xs:List Value} (h:w.ownsRow base 3 1 (z7 (zq ⟨g,0,zp⟩) n c) n xs):∀j u,xs[j]? =zq u->w.cell? ((⟨g,0,zp⟩:Addr).add j)=zq u:=
 h.cells (g:=g) rfl
theorem zxn (l:List Nat):∀u∈l.map I,u.oneCell'=zt:=λu a=>by
 obtain⟨b,_,rfl⟩:=List.mem_map.1 a;rfl
theorem ztq {R x:Nat} (c:x<B6):zat (x::zaa B6 R)=zaa B6 (x+B6*R):=by
 have b:zal B6 (x::zaa B6 R):=λe d=>by
  rcases List.mem_cons.1 d with rfl|a
  ·exact c
  ·exact zak (B:=B6) (by decide) R e a
 rw[zbu (B:=B6) (by decide) b,valL,zam (B:=B6) (by decide)]
theorem zed {m k:Nat} (b:m<=k):(zaa B6 m).length<=(zaa B6 k).length:=by
 rcases Nat.lt_or_ge (zaa B6 k).length (zaa B6 m).length with a|a
 ·have:=zc2 (B:=B6) (by decide) a;omega
 ·exact a
theorem zs0 (g r:Value) (m n:Nat) (w:zA) (ha:Sl w g ((zaa B6 m).map I)) (k:Sl w r ((zaa B6 n).map I)) (o:(zaa B6 m).length<=1000) (v:0<n) (b:n<B6):
 zC zF 83 #[g,r] w (λe w'=>∃d f,e=zo (ze #[d,f])/\Sl w' d ((zaa B6 (m/n)).map I)/\Sl w' f ((zaa B6 (m%n)).map I)/\zB w.heap.size w w'):=by
 have c:=zto g (zaa B6 m) n w ha o (zak (by decide) m) v b;rw[zam (B:=B6) (by decide)] at c;have i:zaa B6 n=[n]:=by
  rw[zfl (by decide) (by omega),zQ b,Nat.div_eq_of_lt b,zaz]
 rw[i] at k;obtain⟨C,y,rfl,s,_⟩:=ha;obtain⟨D,z,rfl,t,l⟩:=k;obtain⟨x,A,rfl,u⟩:=l 0 (I n) rfl;rw[Nat.add_zero] at u;have h:=hid c;clear c l s t i o;simp only[zV,List.map_cons,List.map_nil,List.length_cons,yT] at*
 generalize (zaa B6 m).length=E at*
 go_enter Tryz.func83,Tryz.ntmps83;go_wp21;refine h.mono ?_;rintro e F ⟨d,f,rfl,p,q,j⟩;have a:=hid (⟨p,q,j⟩:_/\_/\_);clear p q j h;go_wp21;go_ret2;exact⟨_,_,rfl,a.1,a.2.1,a.2.2⟩
theorem ztc {w:zA} {base:Nat} (x:Nat) (a:base<=w.heap.size):(w.alloc (zn #[I x] 3)).ownsRow base 3 1 (z7 (zq ⟨w.heap.size,0,zp⟩) 1 1) 1 [I x]:=
 ⟨rfl,.inr ⟨w.heap.size,1,#[I x],rfl,a,heap_alloc_new w _,zN _,by unfold maxLen;omega,rfl,rfl⟩⟩
structure DivS (w:zA) (G N:Nat) (n R:Nat) (l:List Nat) (v:Value) (W:zA):Prop where
 bel:qL w W
 row:Row W G N l
 rem:∃g c,v=z7 (zq ⟨g,0,zp⟩) (zaa B6 R).length c/\W.ownsRow (G+1) 3 1 (z7 (zq ⟨g,0,zp⟩) (zaa B6 R).length c) (zaa B6 R).length ((zaa B6 R).map I)
 hG:G=w.heap.size
theorem DivS.next {w:zA} {G a n R b:Nat} {l:List Nat} {v:Value} {c d:zA} {e:Ending} (h:DivS w G a n R l v c) (o:ztb c (zaa B6 b) e d):∃i,e=zo i/\DivS w G a n b l i d:=by
 obtain⟨k,j,rfl,m,f⟩:=o;have g:=h.row.lt;exact⟨_,rfl,h.bel.trans (f.mono h.bel.size),h.row.below f g,⟨k,j,rfl,zxk m g⟩,h.hG⟩
theorem DivS.grow {w:zA} {G b n R:Nat} {l:List Nat} {v:Value} {c d:zA} (h:DivS w G b n R l v c) (a:qL c d):DivS w G b n R l v d:=by
 obtain⟨f,e,rfl,g⟩:=h.rem;exact⟨h.bel.trans (a.mono h.bel.size),h.row.below a h.row.lt,⟨f,e,rfl,zu8 g a⟩,h.hG⟩
theorem DivS.store {w:zA} {G a n R:Nat} {l:List Nat} {v:Value} {b:zA} (h:DivS w G a n R l v b) (j x:Nat):DivS w G a n R (l.set j x) v (b.setCell ⟨G,j,zp⟩ (I x)):=by
 obtain⟨d,c,rfl,e⟩:=h.rem;exact⟨h.bel.setCell (by rw[<-h.hG];exact zN _) _,h.row.set j x,⟨d,c,rfl,zka e (by show G<G+1;omega) _⟩,h.hG⟩
theorem DivS.sl {w:zA} {G b n R:Nat} {l:List Nat} {v:Value} {a:zA} (h:DivS w G b n R l v a):Sl a v ((zaa B6 R).map I):=by
 obtain⟨e,d,rfl,c⟩:=h.rem;exact Sl.of_own c
theorem zzx {m n:Nat} (h:m<n):ordN m n= -1:=by unfold ordN;rw[if_pos h]
theorem zz3 {m n:Nat} (h:n<=m):0<=ordN m n:=by unfold ordN;rw[if_neg (by omega)];split<;>omega
theorem zqg {l:List Nat} {i:Nat} (h:i<l.length):(l.map I)[i]? =zq (I (l[i]?.getD 0)):=by
 rw[List.getElem?_map,List.getElem?_eq_getElem h];rfl
theorem zqk (d9 da:Value) (m n b:Nat) (w:zA) (ha:Sl w d9 ((zaa B6 m).map I)) (c4:Sl w da ((zaa B6 n).map I)) (d2:(zaa B6 m).length<=1000) (d3:(zaa B6 n).length<=990) (S:(zaa B6 n).length=b+2):
 zC zF 83 #[d9,da] w (λe w'=>∃d7 d8,e=zo (ze #[d7,d8])/\Sl w' d7 ((zaa B6 (m/n)).map I)/\Sl w' d8 ((zaa B6 (m%n)).map I)/\zB w.heap.size w w'):=by
 obtain⟨d1,cc,cz,c',d0⟩:=info_parts zdv;have U:0<n:=by
  rcases xD n with rfl|R
  ·rw[zaz] at S;simp at S
  ·exact R
 have cj:n<B6^(b+2):=by rw[<-S];exact zgb (by decide) n
 have c3:=ha;have c5:=c4;obtain⟨f4,ef,rfl,ds,_⟩:=ha;obtain⟨f5,eg,rfl,du,a7⟩:=c4;obtain⟨bk,d4,rfl, -⟩:=a7 0 _ (zqg (by omega));have c1:w.cell? ⟨bk,d4+(b+1),zp⟩=zq (I (n/B6^(b+1)%B6)):=by
  obtain⟨b2,e5,an,K⟩:=a7 (b+1) _ (zqg (by omega));cases an;rw[K,zcp (by decide)]
 have dl:w.cell? ⟨bk,d4+b,zp⟩=zq (I (n/B6^b%B6)):=by
  obtain⟨b2,e5,an,K⟩:=a7 b _ (zqg (by omega));cases an;rw[K,zcp (by decide)]
 have db:=hid λf (dq:f<B6*n)=>zy6 (B:=B6) (n:=b) (V:=n) (R:=f) (by decide) cj U dq;simp only[zV] at*
 have dc:=hid c3;clear c3 ds;have af:=hid c5;clear c5 du a7 cj;have ez:n/B6^(b+1)%B6<1000000:=zP _ (by decide);have ey:n/B6^b%B6<1000000:=zP _ (by decide);generalize n/B6^(b+1)%B6=u1 at*
 generalize n/B6^b%B6=u0 at*
 obtain⟨J,bs⟩:=zzX (u1*1000000+u0);have f2:zm.wrap ((u1:Int)*1000000)=(u1:Int)*1000000:=zI _ (by omega);have f3:zm.wrap ((u1:Int)*1000000+u0)=(J:Int):=by rw[show(u1:Int)*1000000+u0=(J:Int) by omega];exact zI _ (by omega)
 have eq:J<1000000000000:=by omega
 have dh:=hid bs;clear bs;obtain⟨L,az⟩:=zzX (b+1);rw[<-az] at c1;obtain⟨k,aq⟩:=zzX ((zaa B6 n).length);have el:(k:Int)-1=(L:Int):=by omega
 have em:(k:Int)-2=(b:Int):=by omega
 have ej:¬((k:Int)=1):=by omega
 have eo:L<k:=by omega
 have en:b<k:=by omega
 have ek:k<=990:=by omega
 obtain⟨d,ar⟩:=zzX ((zaa B6 m).length);have ep:d<=1000:=by omega
 rw[<-aq,<-ar];have p:=hid (⟨aq,az,S⟩:_/\_/\_);have F:=hid ar;have ea:=hid d2;have Y:=hid d3;clear aq S ar az d2 d3;go_enter Tryz.func83,Tryz.ntmps83;go_wp2;go_quiet (fail);have bo:qL w (w.drewN nq):=zzD (zM _ w) _;have ah:=hid bo;clear bo dl c1;go_wp2_with (at_make;refine wpList_make_full _ rfl _ _ 74 rfl w.heap.size 3 d1 (zj zm 0) 1 Tryz.underlying74 cc cz c' zm zm _ _ d rfl rfl (by omega) (by omega) (by rw[d0];omega) (by unfold maxLen;omega) (by exact ah.size) ?_);intro D a' T;rw[toList_madeCells_one,<-show(List.replicate d 0).map I=List.replicate d (zj zm 0) by simp] at a';obtain⟨aa, -⟩:=Row.of_own a';have ap:qL w D:=ah.grown T (zN _) (λ_ e=>by cases e);clear a' T ah;obtain⟨s,a5⟩:=zzX w.heap.size;rw[<-a5] at aa⊢;have e9:=hid a5;have ci:=aa.lt;have bp:DivS w s d n 0 (List.replicate d 0) (z7 (zq ⟨D.heap.size,0,zp⟩) 0 0) (D.alloc (zn #[] 3)):=by
  have dk:=(zM D.heap.size D).alloc (zN _) (zn #[] 3);refine⟨ap.alloc ap.size _,aa.below dk ci,⟨D.heap.size,0,by rw[zaz];rfl,?_⟩,a5⟩;rw[zaz];exact World.ownsRow_made D #[] 0 (by omega) (by unfold maxLen;omega) rfl
 have b8:=hid bp;clear bp aa ap ci a5;have ak:=hid (zak (B:=B6) (by decide) m);have bj:=hid (zak (B:=B6) (by decide) n);go_wp2;go_loopw [9,10] (λb7 X wr=>∃c:Nat,c<=d/\X=zj zm ((d:Int)-1-c)/\DivS w s d n (za8 B6 n (zaa B6 m) c).2 (za8 B6 n (zaa B6 m) c).1 b7 wr)
  (λ_ X _=>(zL X+1).toNat)
 case atStart=>exact⟨0,zR _,by simp,by rw[za8,<-F.out];exact b8.out⟩
 case round=>
  clear b8;obtain⟨c,dw,rfl,o⟩:=hrel;obtain⟨M,d6,ab, -⟩:=zeo (B:=B6) U ak c (by rw[<-F.out];exact dw);by_cases hlt:c<d
  ·obtain⟨h,cd⟩:=zzX (d-1-c)
   have cf:(d:Int)-1-c=(h:Int):=by omega
   rw[cf];have dv:h<(zaa B6 m).length:=by rw[<-F.out];omega
   obtain⟨ed,f1,rfl,dr,dt,et⟩:=(dc.below o.bel).at dv;have ct:za8 B6 n (zaa B6 m) (c+1)=zdl B6 n (za8 B6 n (zaa B6 m) c) h ((zaa B6 m)[h]?.getD 0):=by rw[cd,F.out];rfl
   have cw:=zaj ak (by decide) h;have cx:(zaa B6 m)[h]?.getD 0<1000000:=cw;have ew:h<d:=by omega
   have ce:(h:Int)-1=(d:Int)-1-((c+1:Nat):Int):=by omega
   have df:=hid ce;have dj:=hid ct;have ex:(za8 B6 n (zaa B6 m) c).1.length=d:=by rw[M,F.out]
   clear ct cw cd ce M d6 cf;generalize za8 B6 n (zaa B6 m) c=b6 at*
   obtain⟨q,f⟩:=b6;dsimp only at*
   generalize (zaa B6 m)[h]?.getD 0=l at*
   have dx:l+B6*f<=m\/True:=.inr trivial;clear dx;obtain⟨bm,cr,rfl,W⟩:=o.rem;obtain⟨a,bu⟩:=zzX (l+B6*f);have au:a<B6*n:=by
    have:=Nat.mul_le_mul_left B6 (show f+1<=n from ab);rw[yZ,Nat.mul_one] at this;have e':l<B6:=cx;omega
   have a8:(zaa B6 f).length<=990:=zO (zed (zT ab)) Y.out;have ch:(zaa B6 a).length<=1000:=by
    have bn:a<B6^(b+3):=by
     refine zS au ?_;have:=zgb (B:=B6) (by decide) n;rw[p.2.2] at this;rw[show b+3=(b+2)+1 from rfl,yO,yP];exact Nat.mul_le_mul_right _ (zT this)
    have K:=zfv (B:=B6) (by decide) bn;have:=Y.out;have:=p.2.2;omega
   have t:=hid (⟨bu,au,a8,ch⟩:_/\_/\_/\_);have ay:=o.row.lt;have cn:=ztc (w:=wr) (base:=s+1) l ay;have ck:=zxm (W.alloc (zn #[I l] 3));have G:=hid (⟨o,cn,ck,ay,a8⟩:_/\_/\_/\_/\_);clear o cn ck ay W bu au ch dr dt ab;obtain⟨a2,y⟩:=zzX ((zaa B6 f).length);rw[<-y] at G⊢;rw[<-y] at a8;have Z:=hid y;clear y;go_wp2_with (at_builtin;refine wpList_append_own _ rfl _ _ 74 rfl (s+1) 3 d1 (zj zm 0) 1 8 Tryz.underlying74 cc cz c' d0 rfl (by decide) _ _ _ rfl G.2.1 ⟨bm,0,zp⟩ a2 cr ((zaa B6 f).map I) rfl (by rw[Z.out];simp) G.2.2.1 (zxn _) (by unfold maxLen;omega) (by omega) (by have:=G.2.2.2.1;simp;omega) ?_);intro f7 O b0 T cl;obtain⟨ao,c1,rfl⟩:=zqe b0 cl;have c6:qL wr O:=((zM _ wr).alloc (zN _) _).grown T (by simp) (λf6 e=>by cases e;exact zN _);have b1:O.ownsRow (s+1) 3 1 (z7 (zq ⟨ao,0,zp⟩) (1+a2) c1) (1+a2) ((l::zaa B6 f).map I):=b0;have al:=zdq _ _ _ (l::zaa B6 f) O (Sl.of_own b1) (by have:=Z.out;simp;omega);have a9:=zgz b1 (by have:=Z.out;simp;omega);rw[ztq (show l<B6 from cx),<-t.1] at al a9;have bw:DivS w s d n a q (z7 (zq ⟨ao,0,zp⟩) (zaa B6 a).length c1) O:=by
    have:=G.1.grow c6;exact⟨this.bel,this.row,⟨ao,c1,rfl,a9⟩,this.hG⟩
   have a1:=hid λX=>zh4 _ (zaa B6 a) X O (Sl.of_own a9) (by have:=t.2.2.2;omega);have a4:=db a t.2.1;have x:(zaa B6 a)[k]?.getD 0=a/B6^(b+2)%B6:=by rw[zcp (by decide),p.1,p.2.2]
   have v:(zaa B6 a)[L]?.getD 0=a/B6^(b+1)%B6:=by rw[zcp (by decide),p.2.1]
   have bl:(zaa B6 a)[b]?.getD 0=a/B6^b%B6:=by rw[zcp (by decide)]
   rw[<-x,<-v,<-bl] at a4;have dp:(zaa B6 a)[k]?.getD 0<1000000:=zaj (zak (by decide) a) (by decide) _;have dn:(zaa B6 a)[L]?.getD 0<1000000:=zaj (zak (by decide) a) (by decide) _;have dm:(zaa B6 a)[b]?.getD 0<1000000:=zaj (zak (by decide) a) (by decide) _;have bi:=hid (a1 k);have bh:=hid (a1 L);have bg:=hid (a1 b);clear b0 b1 a9 T cl c6 G x v bl a1;generalize (zaa B6 a)[k]?.getD 0=N at*
   generalize (zaa B6 a)[L]?.getD 0=ad at*
   generalize (zaa B6 a)[b]?.getD 0=ac at*
   obtain⟨u,c2⟩:=zzX (N*1000000+ad);obtain⟨a3,c0⟩:=zzX (u*1000000+ac);obtain⟨Q,bt⟩:=zzX (J+1);obtain⟨i,b4⟩:=zzX (a3/Q);have b3:i*n<=a/\i<1000000:=by
    have e:((N*B6+ad)*B6+ac)/(u1*B6+u0+1)=i:=by rw[b4,c0,c2,bt,dh.out];rfl
    rw[e] at a4;exact a4
   have dz:zm.wrap ((N:Int)*1000000)=(N:Int)*1000000:=zI _ (by omega);have d':zm.wrap ((N:Int)*1000000+ad)=(u:Int):=by rw[show(N:Int)*1000000+ad=(u:Int) by omega];exact zI _ (by omega)
   have e0:zm.wrap ((u:Int)*1000000)=(u:Int)*1000000:=zI _ (by omega);have e1:zm.wrap ((u:Int)*1000000+ac)=(a3:Int):=by rw[show(u:Int)*1000000+ac=(a3:Int) by omega];exact zI _ (by omega)
   have e2:zm.wrap ((J:Int)+1)=(Q:Int):=by rw[show(J:Int)+1=(Q:Int) by omega];exact zI _ (by omega)
   have e3:(a3:Int)/(Q:Int)=(i:Int):=by rw[<-Int.natCast_ediv,<-b4]
   have e4:¬(Q:Int)=0:=by omega
   have dy:i<1000000:=b3.2;have aj:=hid b3;have a0:=hid bw;clear a4 c2 c0 bt b4 b3 bw dn dm;generalize bq:(zaa B6 a).length=eb at*
   have ba:=hid bq;clear bq;go_wp21;have b':=al;refine zzM b' λr A=>?_;have C:=A.symm;subst C;clear al;go_wp21;refine zzM bi.out λr A=>?_;have C:=A.symm;subst C;go_wp21;refine zzM bh.out λr A=>?_;have C:=A.symm;subst C;go_wp21;refine zzM bg.out λr A=>?_;have C:=A.symm;subst C;clear bi bh bg;go_wp21;clear b' dz d' e0 e1 e2 e3 e4 dp a8;have ax:qL r (r.alloc (zn #[I i] 3)):=(zM _ r).alloc (zN _) _;have aw:=ztg _ (z7 (zq ⟨r.heap.size,0,zp⟩) 1 1) (zaa B6 n) [i] _ (af.below (a0.bel.trans (ax.mono a0.bel.size))) (Sl.of_own (ztc (w:=r) (base:=0) i (zR _))) bj (λfc cy=>by rw[List.mem_singleton] at cy;subst cy;exact dy) (zO Y (by omega)) (by simp);rw[zam (B:=B6) (by decide),show valL B6 [i]=i by simp[valL],<-p.1] at aw;have bf:=hid aw;have ag:=hid ax;clear aw ax;refine bf.mono ?_;rintro e e7 ⟨e6,rfl,d5,c7⟩;have av:=a0.grow (ag.trans (c7.mono ag.size));have z:=zj6 _ e6 (zaa B6 a) (zaa B6 (n*i)) e7 av.sl (Sl.of_own d5) (zak (by decide) _) (zak (by decide) _) (by have:=t.2.2.2;rw[ba.out];exact this) (zed (by rw[yP];exact aj.1)) (by rw[zam (by decide),zam (by decide),yP];exact aj.1);rw[zam (B:=B6) (by decide),zam (B:=B6) (by decide)] at z;have bb:=hid av;have P:=hid z;clear bf ag av z d5 c7 a0;go_wp21;refine P.mono ?_;intro e fa co;obtain⟨f8,rfl,bx⟩:=bb.next co;clear co P bb;have cv:i*n+(a-n*i)=a:=by have:=aj.1;rw[yP n i];omega
   have ai:=hid (⟨bx,cv⟩:_/\_);clear bx cv;go_wp2;go_loopw [9,11] (λb7 am wr=>∃j g:Nat,am=zj zm j/\j*n+g=a/\DivS w s d n g q b7 wr)
    (λ_ am _=>a+1-(zL am).toNat)
   case atStart=>exact⟨i,_,rfl,ai.2,ai.1⟩
   case round=>
    clear ai;obtain⟨j,g,rfl,cu,a6⟩:=hrel;obtain⟨eh,ee,rfl,cm⟩:=a6.rem;have bv:g<=a:=by omega
    have cg:(zaa B6 g).length<=1000:=zO (zed bv) (by rw[ba.out];exact t.2.2.2);have cb:j<=a:=by have:=Nat.mul_le_mul_left j (show 1<=n from U);omega
    have ev:j<1000000:=by
     rcases Nat.lt_or_ge j 1000000 with R|R
     ·exact R
     ·have bn:=Nat.mul_le_mul_right n R
      have K:a<B6*n:=t.2.1;have:B6=1000000:=rfl;rw[this] at K;omega
    have ae:=hid (zu4 _ _ g n wr (Sl.of_own cm) (af.below a6.bel) cg (zO Y (by omega)));rw[<-p.1] at ae;have bc:=hid a6;have be:=hid cu;have de:=hid cb;clear a6 cm cu cb bv;generalize br:(zaa B6 g).length=ec at*
    have dg:=hid br;clear br;go_wp21;refine zzM ae.out λe8 c8=>?_;have H:=hid (bc.grow c8);clear ae bc c8;by_cases hlt2:g<n
    ·rw[zzx hlt2]
     have ca:j=a/n/\g=a%n:=by
      have cq:=be.out;constructor
      ·rw[<-cq,Nat.add_comm,Nat.add_mul_div_right _ _ U,Nat.div_eq_of_lt hlt2,Nat.zero_add]
      ·rw[<-cq,Nat.add_comm,Nat.add_mul_mod_self_right,zQ hlt2]
     have b9:=hid ca;have es:=H.row.cell (getD_some (show h<q.length by omega));have eu:=H.row.frozen h;clear ca hlt2;generalize q[h]?.getD 0=fd at*
     go_wp2;go_roundw
     case rel=>
      refine⟨c+1,by omega,by rw[<-df.out],?_⟩;have e:za8 B6 n (zaa B6 m) (c+1)=(q.set h j,g):=by
       rw[dj.out];show(q.set h ((l+f*B6)/n),(l+f*B6)%n)=_;rw[b9.1,b9.2,t.1,yP f B6]
      rw[e];have:=H.store h j;exact this
     case measure=>simp[zL]
    ·have ei:=zz3 (show n<=g by omega)
     have er:¬ordN g n<0:=by omega
     have z:=zj6 _ _ (zaa B6 g) (zaa B6 n) e8 H.sl (af.below H.bel) (zak (by decide) _) bj (by rw[dg.out];exact cg) (zed (by omega)) (by rw[zam (by decide),zam (by decide)];omega);rw[zam (B:=B6) (by decide),zam (B:=B6) (by decide),<-p.1] at z;have P:=hid z;have dd:=hid (show n<=g by omega);clear z hlt2;generalize ordN g n=f0 at*
     go_wp21;refine P.mono ?_;intro e fb cp;obtain⟨f9,rfl,bz⟩:=H.next cp;have di:=hid bz;clear cp P bz;go_wp2;go_roundw
     case rel=>exact⟨j+1,g-n,by go_num,by have:=be.out;have:=dd.out;rw[Nat.add_mul];omega,di.out⟩
     case measure=>have:=de.out;simp[zL];omega
  ·obtain rfl:c=d:=by omega
   have c9:(c:Int)-1-c= -1:=by omega
   rw[c9];obtain⟨v,x⟩:=zjq (B:=B6) (by decide) U ak.out;rw[<-F.out] at v x M;rw[zam (B:=B6) (by decide)] at v x;have b5:=o.row.sl;rw[M] at b5;obtain⟨bm,cr,rfl,W⟩:=o.rem;have cs:=Sl.of_own W;have E:=hid (⟨v,x,M,cs,o.bel⟩:_/\_/\_/\_/\_);have bd:=hid b5;clear v x M d6 ab b5 cs o W c9;generalize za8 B6 n (zaa B6 m) c=b6 at*
   obtain⟨q,f⟩:=b6;dsimp only at*
   generalize y:(zaa B6 f).length=a2 at*
   have Z:=hid y;clear y;go_wp21;refine(zdq _ _ _ q wr bd (by rw[E.2.2.1];omega)).mono ?_;rintro e O ⟨rfl,rfl⟩;go_wp21;go_ret2;refine⟨_,_,rfl,?_,?_,E.2.2.2.2⟩
   ·rw[<-E.1]
    exact Sl.trim_at bd E.2.2.1
   ·rw[<-E.2.1]
    exact E.2.2.2.1
theorem zs1 (a b:Value) (m n:Nat) (w:zA) (ha:Sl w a ((zaa B6 m).map I)) (f:Sl w b ((zaa B6 n).map I)) (g:(zaa B6 m).length<=1000) (l:(zaa B6 n).length<=990) (k:0<n):
 zC zF 83 #[a,b] w (λe w'=>∃h i,e=zo (ze #[h,i])/\Sl w' h ((zaa B6 (m/n)).map I)/\Sl w' i ((zaa B6 (m%n)).map I)/\zB w.heap.size w w'):=by
 rcases Nat.lt_or_ge n B6 with c|c
 ·exact zs0 a b m n w ha f g k c
 ·have p:2<=(zaa B6 n).length:=by
   rcases Nat.lt_or_ge (zaa B6 n).length 2 with d|d
   ·have o:=zgb (B:=B6) (by decide) n
    have j:B6^(zaa B6 n).length<=B6^1:=yF (by decide) (by omega);rw[Nat.pow_one] at j;omega
   ·exact d
  exact zqk a b m n ((zaa B6 n).length-2) w ha f g l (by omega)
end
section
open Go.RowKit Go.Shelf Lib Str Limb
attribute [local go_sem] Oper.semAt_some
theorem ybg (b d:Value) (m n:Nat) (w:zA) (ha:Sl w b ((zaa B6 m).map I)) (a:Sl w d ((zaa B6 n).map I)) (i:(zaa B6 m).length<=1000) (j:(zaa B6 n).length<=1000):
 zC zF 52 #[b,d] w λe w'=>∃p c k,e=zo (z7 p k c)/\Sl w' (z7 p k c) ((zaa B6 (m+n)).map I)/\zB w.heap.size w w':=by
 have f:=z91 b d _ _ w ha a (zak (by decide) m) (zak (by decide) n) i j;rw[zam (B:=B6) (by decide),zam (B:=B6) (by decide)] at f;refine f.mono ?_;intro e w' g;obtain⟨p,c,rfl,h,a⟩:=z3f g;exact⟨p,c,_,rfl,h,a⟩
theorem z97 (m:Bool) (Z a0:Value) (s t:Nat) (w:zA) (M:Sl w Z ((zaa B6 s).map I)) (hy:Sl w a0 ((zaa B6 t).map I)) (ad:(zaa B6 s).length<=1000) (ae:(zaa B6 t).length<=1000):
 zC zF 30 #[zh #[zg m,Z],zh #[zg m,a0]] w (zsb w (sgn m s+sgn m t)):=by
 obtain⟨l,h,rfl, -⟩:=id M;obtain⟨n,i,rfl, -⟩:=id hy;simp only[zV] at*
 have V:=λa S T=>ybg (z7 l (zaa B6 s).length h) (z7 n (zaa B6 t).length i) s t a S T ad ae;generalize (zaa B6 s).length=q at*
 generalize (zaa B6 t).length=r at*
 have a4:=hid V;clear V;have a7:=hid M;clear M;have a8:=hid hy;clear hy;go_enter Tryz.func30,Tryz.ntmps30;go_wp2;obtain⟨b,p⟩:=zzX (((w.alloc (zn #[zg m,z7 l q h] 76)).alloc (zn #[zg m,z7 n r i] 76)).alloc (zn #[zg zu,z7 zp 0 0] 76));have K:qL w b:=by rw[p];exact(((zM _ w).alloc (zN _) _).alloc (by simp) _).alloc (by simp;omega) _
 have b2:b.heap[w.heap.size]? =zq (zn #[zg m,z7 l q h] 76 (0,0)):=by
  rw[p];exact(Below.heap_alloc _ _ _ (by simp only[zH];omega)).trans ((Below.heap_alloc _ _ _ (by simp only[zH];omega)).trans (heap_alloc_new w _))
 have E:b.heap[w.heap.size+1]? =zq (zn #[zg m,z7 n r i] 76 (0,0)):=by
  rw[p];refine(Below.heap_alloc _ _ _ (by simp only[zH];omega)).trans ?_;have:=heap_alloc_new (w.alloc (zn #[zg m,z7 l q h] 76)) (zn #[zg m,z7 n r i] 76);rwa [zH] at this
 have d:b.heap[w.heap.size+1+1]? =zq (zn #[zg zu,z7 zp 0 0] 76 (0,0)):=by
  rw[p];have:=heap_alloc_new ((w.alloc (zn #[zg m,z7 l q h] 76)).alloc (zn #[zg m,z7 n r i] 76)) (zn #[zg zu,z7 zp 0 0] 76);rwa [zH,zH] at this
 rw[<-p];clear p;have N:∀a:zA,a.heap[w.heap.size]? =b.heap[w.heap.size]? ->a.cell? ⟨w.heap.size,0,zp⟩=zq (zg m):=λa j=>by simp[World.cell?,j,b2]
 have O:∀a:zA,a.heap[w.heap.size]? =b.heap[w.heap.size]? ->a.cell? ⟨w.heap.size,1,zp⟩=zq (z7 l q h):=λa j=>by simp[World.cell?,j,b2]
 have P:∀a:zA,a.heap[w.heap.size+1]? =b.heap[w.heap.size+1]? ->a.cell? ⟨w.heap.size+1,0,zp⟩=zq (zg m):=λa j=>by simp[World.cell?,j,E]
 have Q:∀a:zA,a.heap[w.heap.size+1]? =b.heap[w.heap.size+1]? ->a.cell? ⟨w.heap.size+1,1,zp⟩=zq (z7 n r i):=λa j=>by simp[World.cell?,j,E]
 have A:=hid N;have B:=hid O;have C:=hid P;have D:=hid Q;clear N O P Q;have ag:w.heap.size+1+1<b.heap.size:=(Array.getElem?_eq_some_iff.1 d).1;have a1:=hid d;clear b2 E d;refine zey 6 (λa=>a.cell? ⟨w.heap.size,0,zp⟩=zq (zg m)/\a.cell? ⟨w.heap.size,1,zp⟩=zq (z7 l q h)/\a.cell? ⟨w.heap.size+1,0,zp⟩=zq (zg m)/\a.cell? ⟨w.heap.size+1,1,zp⟩=zq (z7 n r i))
  (by kernel_rfl) (by kernel_rfl) ⟨A _ rfl,B _ rfl,C _ rfl,D _ rfl⟩ ?_
 simp only[List.take_succ_cons,List.take_zero,List.drop_succ_cons,List.drop_zero]
 repeat(apply zer (by rfl);(focus(rintro a ⟨S,T,ai,aj⟩;go_simp;try with_reducible rfl));try simp only[zzQ])
 refine ze6 ?_;refine zbt (by rfl) λx f=>?_;go_simp;refine(a4 b.drew (a7.below (K.drew)) (a8.below K.drew)).mono ?_;rintro ah c ⟨e,g,k,rfl,W,y⟩;have o:c.heap[w.heap.size]? =b.heap[w.heap.size]? :=y.block _ (by show _<b.heap.size;omega);have z:c.heap[w.heap.size+1]? =b.heap[w.heap.size+1]? :=y.block _ (by show _<b.heap.size;omega);have d:c.heap[w.heap.size+1+1]? =zq (zn #[zg zu,z7 zp 0 0] 76 (0,0)):=(y.block _ (by show _<b.heap.size;omega)).trans a1.out;have U:qL w c:=K.drew.trans (y.mono (by show _<=b.heap.size;omega));have L:=And.intro (A c o) (And.intro (B c o) (And.intro (C c z) (D c z)));have a2:=hid o;have a3:=hid z;clear o z y;have a5:=hid W;clear W;refine f _ _ L ?_;clear f x
 try simp only[zzQ]
 refine zbt (by rfl) λx f=>?_;go_simp;refine f _ _ L ?_;clear f x
 try simp only[zzQ]
 have F:c.cell? ⟨w.heap.size+1+1,0,zp⟩=zq (zg zu):=by simp[World.cell?,d]
 have R:c.cell? ⟨w.heap.size+1+1,1,zp⟩=zq (z7 zp 0 0):=by simp[World.cell?,d]
 have aa:c.frozen? ⟨w.heap.size+1+1,0,zp⟩=zu:=by simp[World.frozen?,d]
 have ab:c.frozen? ⟨w.heap.size+1+1,1,zp⟩=zu:=by simp[World.frozen?,d]
 refine zbt (by rfl) λx f=>?_;go_simp;have H:((c.setCell ⟨w.heap.size+1+1,0,zp⟩ (zg m)).setCell ⟨w.heap.size+1+1,1,zp⟩ (z7 e k g)).heap[w.heap.size]? =b.heap[w.heap.size]? :=
  (yE _ _ _ _ (by show w.heap.size≠w.heap.size+1+1;omega)).trans ((yE _ _ _ _ (by show w.heap.size≠w.heap.size+1+1;omega)).trans a2.out)
 have J:((c.setCell ⟨w.heap.size+1+1,0,zp⟩ (zg m)).setCell ⟨w.heap.size+1+1,1,zp⟩ (z7 e k g)).heap[w.heap.size+1]? =b.heap[w.heap.size+1]? :=
  (yE _ _ _ _ (by show w.heap.size+1≠w.heap.size+1+1;omega)).trans ((yE _ _ _ _ (by show w.heap.size+1≠w.heap.size+1+1;omega)).trans a3.out)
 refine f _ _ ⟨A _ H,B _ H,C _ J,D _ J⟩ ?_;clear f x H J
 try simp only[zzQ]
 refine ze7 ⟨rfl,?_⟩;have X:=a5.set F (λaf=>by simp[I]) (zg m);have G:=(World.cell?_setCell_other _ _ _ (zg m) (show(⟨w.heap.size+1+1,0,zp⟩:Addr)≠⟨w.heap.size+1+1,1,zp⟩ by simp)).trans R;have Y:=X.set G (λaf=>by simp[I]) (z7 e k g);have a9:=(World.cell?_setCell_other _ _ _ (z7 e k g) (show(⟨w.heap.size+1+1,1,zp⟩:Addr)≠⟨w.heap.size+1+1,0,zp⟩ by simp)).trans (za9 (u:=zg m) F);have o:=za9 (u:=z7 e k g) G;have ac:=(U.setCell (p:=⟨w.heap.size+1+1,0,zp⟩) (by show w.heap.size<=w.heap.size+1+1;omega) (zg m)).setCell (p:=⟨w.heap.size+1+1,1,zp⟩) (by show w.heap.size<=w.heap.size+1+1;omega) (z7 e k g);clear X G F R aa ab d L U;have a6:=hid Y;clear Y;go_wp2;exact bodyPost_ret (v:=zh #[zg m,z7 e k g]) (by simp[results,Tryz.results30,go_sem,a9,o]) rfl ⟨m,_,_,rfl,by cases m<;>simp[sgn]<;>omega,a6.out,ac⟩
theorem ycn (m:Bool) (aw ax:Value) (f g:Nat) (Y:g<=f) (w:zA) (q:Sl w aw ((zaa B6 f).map I)) (hy:Sl w ax ((zaa B6 g).map I)) (a1:(zaa B6 f).length<=1000) (ao:(zaa B6 g).length<=1000):
 zC zF 30 #[zh #[zg m,aw],zh #[zg !m,ax]] w (zsb w (sgn m f+sgn (!m) g)):=by
 obtain⟨z,v,rfl, -⟩:=id q;obtain⟨A,x,rfl, -⟩:=id hy;simp only[zV] at*
 have Z:=λP W X=>z3e (z7 z (zaa B6 f).length v) (z7 A (zaa B6 g).length x) (zaa B6 f) (zaa B6 g) P W X (zak (by decide) _) (zak (by decide) _) a1 (zed Y) (by rw[zam (by decide),zam (by decide)];exact Y);rw[zam (B:=B6) (by decide),zam (B:=B6) (by decide)] at Z;have al:=λP W X=>zu4 (z7 z (zaa B6 f).length v) (z7 A (zaa B6 g).length x) f g P W X a1 ao;have bg:=zz3 Y;have ac:=hid (show sgn m (f-g)=sgn m f+sgn (!m) g by cases m<;>simp[sgn]<;>omega);generalize (zaa B6 f).length=M at*
 generalize (zaa B6 g).length=N at*
 have a8:=hid Z;clear Z;have aa:=hid al;clear al;obtain⟨ad,ai,L,am,b2,ae,af⟩:=z02 w m (!m) (z7 z M v) (z7 A N x);have ab:=hid ai;have ag:∀d:zA,qL ad d->d.cell? ⟨w.heap.size,0,zp⟩=zq (zg m)/\d.cell? ⟨w.heap.size,1,zp⟩=zq (z7 z M v)/\d.cell? ⟨w.heap.size+1,1,zp⟩=zq (z7 A N x):=λd a=>by
  have b0:=(a.block w.heap.size (by omega)).trans b2;have b1:=(a.block (w.heap.size+1) (by omega)).trans ae;refine⟨?_,?_,?_⟩<;>simp[World.cell?,b0,b1]
 have a4:=hid ag;have l:=hid (⟨L,am,af,q.below L,hy.below L⟩:_/\_/\_/\_/\_);clear ag L am b2 ae af ai a1 ao q hy;generalize bh:ordN f g=b7 at*
 have bi:¬b7<0:=by omega
 go_enter Tryz.func30,Tryz.ntmps30;go_wp21;rw[<-ab.out];refine zzM (aa ad l.2.2.2.1 l.2.2.2.2) λu r=>?_;have a5:=hid (l.2.2.2.1.below r);have a6:=hid (l.2.2.2.2.below r);have K:=hid λd (a:qL u d)=>a4 d (r.trans (a.mono r.size));have t:=hid (⟨l.1.trans (r.mono (by have:=l.2.1;omega)),by have:=r.size;have:=l.2.1;omega,(r.block _ (by have:=l.2.1;omega)).trans l.2.2.1⟩:qL w u/\w.heap.size+3<=u.heap.size/\u.heap[w.heap.size+1+1]? =zq (zn #[zg zu,z7 zp 0 0] 76 (0,0)));clear r aa ab a4 l;go_wp21;refine zc4 (λ(e:Nat×Value) H=>([zf (zq ⟨w.heap.size,0,zp⟩),zg m,zf (zq ⟨w.heap.size,1,zp⟩),z7 z M v,zf (zq ⟨w.heap.size+1,1,zp⟩),z7 A N x,e.2,zh #[zg m,e.2],zf (zq ⟨e.1,0,zp⟩),undef]:List Value)[H]?.getD undef)
  (BigS u (m) (f-g) 6 8 9) (by kernel_rfl) (by kernel_rfl) (0,z7 zp 0 0) ⟨(zM _ u).drew,λJ=>(by cases J),λJ=>(by cases J),λJ=>(by cases J)⟩ λe=>?_
 refine qB (zf (zq ⟨w.heap.size,0,zp⟩)) (λh c a=>a.congr rfl rfl rfl) ?_;refine qB (zg m) (λh c a=>a.congr rfl rfl rfl) ?_ (hy:=λh c b a=>by have C:=K _ a.pre;obtain⟨ap,aq,ar⟩:=C;go_simp);refine qB (zf (zq ⟨w.heap.size,1,zp⟩)) (λh c a=>a.congr rfl rfl rfl) ?_;simp only[zzQ];refine qB (z7 z M v) (λh c a=>a.congr rfl rfl rfl) ?_ (hy:=λh c b a=>by have C:=K _ a.pre;obtain⟨ap,aq,ar⟩:=C;go_simp);refine qB (zf (zq ⟨w.heap.size+1,1,zp⟩)) (λh c a=>a.congr rfl rfl rfl) ?_;refine qB (z7 A N x) (λh c a=>a.congr rfl rfl rfl) ?_ (hy:=λh c b a=>by have C:=K _ a.pre;obtain⟨ap,aq,ar⟩:=C;go_simp);simp only[zzQ]
 refine zdc e.2 (by rfl) (by rfl) (λh c b a a3 y=>by
  have D:=b.self;have h12:=(b.no (j:=9) (b.no (j:=7) b.self (by kernel_rfl)) (by kernel_rfl));go_simp;refine(a8 c (a5.below a.pre) (a6.below a.pre)).mono ?_;intro p b8 b6;obtain⟨n,o,rfl,G,b4⟩:=z3f b6;refine⟨_,rfl,y (e.1,z7 n (zaa B6 (f-g)).length o) b8 (λH i=>?_) (a.call D h12 rfl rfl rfl b4 G)⟩
  match H,i with
  |0,_|1,_|2,_|3,_|4,_|5,_|8,_|9,_=>rfl
  |6,i=>rw[D] at i;cases i
  |7,i=>rw[b.no (j:=7) b.self (by kernel_rfl)] at i;cases i
  |_+10,_=>rfl) ?_
 refine qB (zh #[zg m,e.2]) (λh c a=>a.congr rfl rfl rfl) ?_ (hy:=λh c b a=>by
  obtain⟨n,o,p, -⟩:=a.cv (b.done 6 (by kernel_rfl));obtain⟨k,a2⟩:=e;dsimp only at p;subst p;go_simp)
 try simp only[zzQ]
 refine zdc (zf (zq ⟨e.1,0,zp⟩)) (by rfl) (by rfl) (λh c b a a3 y=>by
  have h12:=(b.no (j:=9) b.self (by kernel_rfl));have:=y (c.heap.size,e.2) (c.alloc (zn #[zg zu,z7 zp 0 0] 76)) (λH i=>?_) (a.new h12 rfl rfl)
  ·go_simp
   exact this
  ·match H,i with
   |0,_|1,_|2,_|3,_|4,_|5,_|6,_|7,_|9,_=>rfl
   |8,i=>rw[b.self] at i;cases i
   |_+10,_=>rfl) ?_
 try simp only[zzQ]
 refine zbv undef (by rfl) (by rfl) (λh c b a a3 y=>by
  have D:=b.done 6 (by kernel_rfl);have ah:=b.done 8 (by kernel_rfl);have h12:=b.self;obtain⟨a0,an⟩:=a.al ah;have q:=an h12;have Q:c.cell? ⟨e.1,0,zp⟩=zq (zg zu):=by simp[World.cell?,q]
  have R:c.cell? ⟨e.1,1,zp⟩=zq (z7 zp 0 0):=by simp[World.cell?,q]
  have b3:c.frozen? ⟨e.1,0,zp⟩=zu:=by simp[World.frozen?,q]
  have b9:c.frozen? ⟨e.1,1,zp⟩=zu:=by simp[World.frozen?,q]
  have:=y _ (a.put D ah h12 rfl);obtain⟨n,o,p, -⟩:=a.cv D;rw[p] at this⊢;clear y a an q p;go_simp;exact this) ?_
 try simp only[Act.put]
 refine ze1 λh d b a=>?_;obtain⟨n,o,p,G⟩:=a.cv (b 6 (by decide));have E:=a.fin (b 9 (by decide));obtain⟨a0, -⟩:=a.al (b 8 (by decide));obtain⟨k,a2⟩:=e;dsimp only at p E a0 G;subst p;have F:=(a.pre.block (w.heap.size+1+1) (by have:=t.2.1;omega)).trans t.2.2;have a9:=hid G;have a7:=hid (t.1.trans (a.pre.mono (by have:=t.2.1;omega)));have bc:w.heap.size+1+1<k:=by have:=t.2.1;omega
 clear a b G a0;have a':d.cell? ⟨k,0,zp⟩=zq (zg m):=by simp[World.cell?,E]
 have c1:d.cell? ⟨k,1,zp⟩=zq (z7 n (zaa B6 (f-g)).length o):=by simp[World.cell?,E]
 have b3:d.frozen? ⟨k,0,zp⟩=zu:=by simp[World.frozen?,E]
 have au:d.cell? ⟨w.heap.size+1+1,0,zp⟩=zq (zg zu):=by simp[World.cell?,F]
 have av:d.cell? ⟨w.heap.size+1+1,1,zp⟩=zq (z7 zp 0 0):=by simp[World.cell?,F]
 have ba:d.frozen? ⟨w.heap.size+1+1,0,zp⟩=zu:=by simp[World.frozen?,F]
 have bb:d.frozen? ⟨w.heap.size+1+1,1,zp⟩=zu:=by simp[World.frozen?,F]
 have aj:w.heap.size+1+1≠k:=by omega
 have bf:k≠w.heap.size+1+1:=by omega
 generalize b5:f-g=s at*
 clear F E a8 a5 a6 K t b5;by_cases h0:s=0
 ·subst h0
  rw[zaz] at*
  have Q:=(zau d (b:=w.heap.size+1+1) (b':=k) 0 0 (zg zu) aj).trans au;have R:=(zau d (b:=w.heap.size+1+1) (b':=k) 1 0 (zg zu) aj).trans av;have ak:=a9.set a' (λbj=>by simp[I]) (zg zu);have O:=hid (zr2 Q R zu (z7 n 0 o) _ [] ak (a7.setCell (p:=⟨k,0,zp⟩) (by show w.heap.size<=k;omega) _) (show w.heap.size<=w.heap.size+1+1 by omega));have ay:=hid ac.out;clear Q R ak;simp only[yT] at*
  go_wp2;obtain⟨S,T,U,V⟩:=O.out;exact bodyPost_ret (v:=zh #[zg zu,z7 n 0 o]) (by simp[results,Tryz.results30,go_sem,S,T]) rfl ⟨zu,_,0,rfl,by rw[<-ay.out];cases m<;>simp[sgn],by rw[zaz];exact U,V⟩
 ·have bd:¬(zaa B6 s).length=0:=λa=>h0 ((zbd (B:=B6) (by decide) s).1 (List.length_eq_zero_iff.1 a))
  have be:(((zaa B6 s).length:Int)==0)=zu:=by rw[beq_eq_false_iff_ne];omega
  have O:=hid (zr2 au av (m) (z7 n (zaa B6 s).length o) _ (zaa B6 s) a9 a7 (show w.heap.size<=w.heap.size+1+1 by omega));clear h0;generalize (zaa B6 s).length=az at*
  go_wp2;obtain⟨S,T,U,V⟩:=O.out;exact bodyPost_ret (v:=zh #[zg m,z7 n az o]) (by simp[results,Tryz.results30,go_sem,S,T]) rfl ⟨m,_,s,rfl,ac.out,U,V⟩
theorem put2 {a:zA} {B:Nat} {t:TypeId} {d e:Value} (h:a.heap[B]? =zq (zn #[d,e] t (0,0))) (b c:Value):((a.setCell ⟨B,0,zp⟩ b).setCell ⟨B,1,zp⟩ c).heap[B]? =zq (zn #[b,c] t (0,0)):=by
 simp[World.setCell,Array.getElem?_modify,h]
theorem yco (m:Bool) (b9 ba:Value) (f g:Nat) (V:f<g) (w:zA) (x:Sl w b9 ((zaa B6 f).map I)) (hy:Sl w ba ((zaa B6 g).map I)) (b3:(zaa B6 f).length<=1000) (af:(zaa B6 g).length<=1000):
 zC zF 30 #[zh #[zg m,b9],zh #[zg !m,ba]] w (zsb w (sgn m f+sgn (!m) g)):=by
 obtain⟨r,p,rfl, -⟩:=id x;obtain⟨s,q,rfl, -⟩:=id hy;simp only[zV] at*
 have aa:=λa0 L M=>z3e (z7 s (zaa B6 g).length q) (z7 r (zaa B6 f).length p) (zaa B6 g) (zaa B6 f) a0 L M (zak (by decide) _) (zak (by decide) _) af (zed (zT V)) (by rw[zam (by decide),zam (by decide)];exact zT V);rw[zam (B:=B6) (by decide),zam (B:=B6) (by decide)] at aa;have ac:=λa0 L M=>zu4 (z7 r (zaa B6 f).length p) (z7 s (zaa B6 g).length q) f g a0 L M b3 af;rw[zzx V] at ac;have ap:=hid (show sgn (!m) (g-f)=sgn m f+sgn (!m) g by cases m<;>simp[sgn]<;>omega);generalize (zaa B6 f).length=y at*
 generalize (zaa B6 g).length=z at*
 have ak:=hid aa;clear aa;have am:=hid ac;clear ac;obtain⟨aq,aw,U,b0,b2,a1,ar⟩:=z02 w m (!m) (z7 r y p) (z7 s z q);have an:=hid aw;have k:=hid (⟨U,b0,ar,x.below U,hy.below U⟩:_/\_/\_/\_/\_);have Z:=hid (⟨b2,a1⟩:_/\_);have zah:∀c:zA,qL aq c->c.cell? ⟨w.heap.size,0,zp⟩=zq (zg m)/\c.cell? ⟨w.heap.size,1,zp⟩=zq (z7 r y p)/\c.cell? ⟨w.heap.size+1,1,zp⟩=zq (z7 s z q):=λc a=>by
  have a4:=(a.block w.heap.size (by omega)).trans b2;have a5:=(a.block (w.heap.size+1) (by omega)).trans a1;refine⟨?_,?_,?_⟩<;>simp[World.cell?,a4,a5]
 clear U b0 b2 a1 ar aw b3 af x hy V zah;go_enter Tryz.func30,Tryz.ntmps30;go_wp21;rw[<-an.out];refine zzM (am aq k.2.2.2.1 k.2.2.2.2) λn C=>?_;have G:=(C.block w.heap.size (by have:=k.2.1;omega)).trans Z.1;have H:=(C.block (w.heap.size+1) (by have:=k.2.1;omega)).trans Z.2;have bb:n.cell? ⟨w.heap.size,0,zp⟩=zq (zg m):=by simp[World.cell?,G]
 have bc:n.cell? ⟨w.heap.size,1,zp⟩=zq (z7 r y p):=by simp[World.cell?,G]
 have bd:n.cell? ⟨w.heap.size+1,0,zp⟩=zq (zg !m):=by simp[World.cell?,H]
 have be:n.cell? ⟨w.heap.size+1,1,zp⟩=zq (z7 s z q):=by simp[World.cell?,H]
 have bj:n.frozen? ⟨w.heap.size,0,zp⟩=zu:=by simp[World.frozen?,G]
 have bk:n.frozen? ⟨w.heap.size,1,zp⟩=zu:=by simp[World.frozen?,G]
 have bl:n.frozen? ⟨w.heap.size+1,0,zp⟩=zu:=by simp[World.frozen?,H]
 have bm:n.frozen? ⟨w.heap.size+1,1,zp⟩=zu:=by simp[World.frozen?,H]
 have W:w.heap.size+1≠w.heap.size:=by omega
 have ay:w.heap.size≠w.heap.size+1:=by omega
 obtain⟨t,A⟩:=zzX ((((n.setCell ⟨w.heap.size,0,zp⟩ (zg !m)).setCell ⟨w.heap.size,1,zp⟩ (z7 s z q)).setCell ⟨w.heap.size+1,0,zp⟩ (zg m)).setCell ⟨w.heap.size+1,1,zp⟩ (z7 r y p));have z2:t.heap[w.heap.size]? =zq (zn #[zg !m,z7 s z q] 76 (0,0)):=by
  rw[A];exact(yE _ _ _ _ (by show w.heap.size≠w.heap.size+1;omega)).trans ((yE _ _ _ _ (by show w.heap.size≠w.heap.size+1;omega)).trans (put2 G _ _))
 have z3:t.heap[w.heap.size+1]? =zq (zn #[zg m,z7 r y p] 76 (0,0)):=by
  rw[A];exact put2 ((yE _ _ _ _ (by show w.heap.size+1≠w.heap.size;omega)).trans ((yE _ _ _ _ (by show w.heap.size+1≠w.heap.size;omega)).trans H)) _ _
 have z4:t.heap[w.heap.size+1+1]? =zq (zn #[zg zu,z7 zp 0 0] 76 (0,0)):=by
  rw[A];exact(yE _ _ _ _ (by show w.heap.size+1+1≠w.heap.size+1;omega)).trans ((yE _ _ _ _ (by show w.heap.size+1+1≠w.heap.size+1;omega)).trans ((yE _ _ _ _ (by show w.heap.size+1+1≠w.heap.size;omega)).trans ((yE _ _ _ _ (by show w.heap.size+1+1≠w.heap.size;omega)).trans ((C.block _ (by have:=k.2.1;omega)).trans k.2.2.1))))
 have ab:∀(E:Value) (ae:List Nat),Sl n E (ae.map I)->Sl t E (ae.map I):=λE ae a=>by
  rw[A];have L:=a.set bb (λX=>by simp[I]) (zg !m);have M:=L.set ((World.cell?_setCell_other _ _ _ (zg !m) (show(⟨w.heap.size,0,zp⟩:Addr)≠⟨w.heap.size,1,zp⟩ by simp)).trans bc) (λX=>by simp[I]) (z7 s z q);have bn:=M.set (((World.cell?_setCell_other _ _ _ _ (show(⟨w.heap.size,1,zp⟩:Addr)≠⟨w.heap.size+1,0,zp⟩ by simp)).trans (World.cell?_setCell_other _ _ _ _ (show(⟨w.heap.size,0,zp⟩:Addr)≠⟨w.heap.size+1,0,zp⟩ by simp))).trans bd) (λX=>by simp[I]) (zg m);exact bn.set (((World.cell?_setCell_other _ _ _ _ (show(⟨w.heap.size+1,0,zp⟩:Addr)≠⟨w.heap.size+1,1,zp⟩ by simp)).trans ((World.cell?_setCell_other _ _ _ _ (show(⟨w.heap.size,1,zp⟩:Addr)≠⟨w.heap.size+1,1,zp⟩ by simp)).trans (World.cell?_setCell_other _ _ _ _ (show(⟨w.heap.size,0,zp⟩:Addr)≠⟨w.heap.size+1,1,zp⟩ by simp)))).trans be) (λX=>by simp[I]) (z7 r y p)
 have ax:qL w t:=by
  rw[A];exact((((k.1.trans (C.mono (by have:=k.2.1;omega))).setCell (p:=⟨w.heap.size,0,zp⟩) (zN _) _).setCell (p:=⟨w.heap.size,1,zp⟩) (zN _) _).setCell (p:=⟨w.heap.size+1,0,zp⟩) (by show w.heap.size<=w.heap.size+1;omega) _).setCell (p:=⟨w.heap.size+1,1,zp⟩) (by show w.heap.size<=w.heap.size+1;omega) _
 have br:t.heap.size=n.heap.size:=by rw[A];simp[World.setCell]
 have a':w.heap.size+3<=t.heap.size:=by have:=C.size;have:=k.2.1;omega
 have ah:=hid (ab _ _ (k.2.2.2.2.below C));have ai:=hid (ab _ _ (k.2.2.2.1.below C));have au:∀c:zA,qL t c->c.cell? ⟨w.heap.size,0,zp⟩=zq (zg !m)/\c.cell? ⟨w.heap.size,1,zp⟩=zq (z7 s z q)/\c.cell? ⟨w.heap.size+1,1,zp⟩=zq (z7 r y p):=λc a=>by
  have a4:=(a.block w.heap.size (by omega)).trans z2;have a5:=(a.block (w.heap.size+1) (by omega)).trans z3;refine⟨?_,?_,?_⟩<;>simp[World.cell?,a4,a5]
 have T:=hid au;have F:=hid (⟨ax,a',z4⟩:_/\_/\_);have ao:=hid A;clear C am an k Z G H z2 z3 z4 ab ax br a' au A;go_wp21;rw[<-ao.out];clear bb bc bd be bj bk bl bm W ay ao;refine zc4 (λ(e:Nat×Value) R=>([zf (zq ⟨w.heap.size,0,zp⟩),zg (!m),zf (zq ⟨w.heap.size,1,zp⟩),z7 s z q,zf (zq ⟨w.heap.size+1,1,zp⟩),z7 r y p,e.2,zh #[zg (!m),e.2],zf (zq ⟨e.1,0,zp⟩),undef]:List Value)[R]?.getD undef)
  (BigS t (!m) (g-f) 6 8 9) (by kernel_rfl) (by kernel_rfl) (0,z7 zp 0 0) ⟨(zM _ t).drew,λS=>(by cases S),λS=>(by cases S),λS=>(by cases S)⟩ λe=>?_
 refine qB (zf (zq ⟨w.heap.size,0,zp⟩)) (λh d a=>a.congr rfl rfl rfl) ?_;refine qB (zg (!m)) (λh d a=>a.congr rfl rfl rfl) ?_ (hy:=λh d b a=>by have K:=T _ a.pre;obtain⟨b4,b5,b6⟩:=K;go_simp);refine qB (zf (zq ⟨w.heap.size,1,zp⟩)) (λh d a=>a.congr rfl rfl rfl) ?_;simp only[zzQ];refine qB (z7 s z q) (λh d a=>a.congr rfl rfl rfl) ?_ (hy:=λh d b a=>by have K:=T _ a.pre;obtain⟨b4,b5,b6⟩:=K;go_simp);refine qB (zf (zq ⟨w.heap.size+1,1,zp⟩)) (λh d a=>a.congr rfl rfl rfl) ?_;refine qB (z7 r y p) (λh d a=>a.congr rfl rfl rfl) ?_ (hy:=λh d b a=>by have K:=T _ a.pre;obtain⟨b4,b5,b6⟩:=K;go_simp);simp only[zzQ]
 refine zdc e.2 (by rfl) (by rfl) (λh d b a ag J=>by
  have N:=b.self;have h12:=(b.no (j:=9) (b.no (j:=7) b.self (by kernel_rfl)) (by kernel_rfl));go_simp;refine(ak d (ah.below a.pre) (ai.below a.pre)).mono ?_;intro v bs bq;obtain⟨i,u,rfl,Q,bo⟩:=z3f bq;refine⟨_,rfl,J (e.1,z7 i (zaa B6 (g-f)).length u) bs (λR l=>?_) (a.call N h12 rfl rfl rfl bo Q)⟩
  match R,l with
  |0,_|1,_|2,_|3,_|4,_|5,_|8,_|9,_=>rfl
  |6,l=>rw[N] at l;cases l
  |7,l=>rw[b.no (j:=7) b.self (by kernel_rfl)] at l;cases l
  |_+10,_=>rfl) ?_
 refine qB (zh #[zg (!m),e.2]) (λh d a=>a.congr rfl rfl rfl) ?_ (hy:=λh d b a=>by
  obtain⟨i,u,v, -⟩:=a.cv (b.done 6 (by kernel_rfl));obtain⟨o,E⟩:=e;dsimp only at v;subst v;go_simp)
 try simp only[zzQ]
 refine zdc (zf (zq ⟨e.1,0,zp⟩)) (by rfl) (by rfl) (λh d b a ag J=>by
  have h12:=(b.no (j:=9) b.self (by kernel_rfl));have:=J (d.heap.size,e.2) (d.alloc (zn #[zg zu,z7 zp 0 0] 76)) (λR l=>?_) (a.new h12 rfl rfl)
  ·go_simp
   exact this
  ·match R,l with
   |0,_|1,_|2,_|3,_|4,_|5,_|6,_|7,_|9,_=>rfl
   |8,l=>rw[b.self] at l;cases l
   |_+10,_=>rfl) ?_
 try simp only[zzQ]
 refine zbv undef (by rfl) (by rfl) (λh d b a ag J=>by
  have N:=b.done 6 (by kernel_rfl);have av:=b.done 8 (by kernel_rfl);have h12:=b.self;obtain⟨ad,b1⟩:=a.al av;have x:=b1 h12;have a2:d.cell? ⟨e.1,0,zp⟩=zq (zg zu):=by simp[World.cell?,x]
  have a3:d.cell? ⟨e.1,1,zp⟩=zq (z7 zp 0 0):=by simp[World.cell?,x]
  have bi:d.frozen? ⟨e.1,0,zp⟩=zu:=by simp[World.frozen?,x]
  have bt:d.frozen? ⟨e.1,1,zp⟩=zu:=by simp[World.frozen?,x]
  have:=J _ (a.put N av h12 rfl);obtain⟨i,u,v, -⟩:=a.cv N;rw[v] at this⊢;clear J a b1 x v;go_simp;exact this) ?_
 try simp only[Act.put]
 refine ze1 λh c b a=>?_;obtain⟨i,u,v,Q⟩:=a.cv (b 6 (by decide));have O:=a.fin (b 9 (by decide));obtain⟨ad, -⟩:=a.al (b 8 (by decide));obtain⟨o,E⟩:=e;dsimp only at v O ad Q;subst v;have P:=(a.pre.block (w.heap.size+1+1) (by have:=F.2.1;omega)).trans F.2.2;have al:=hid Q;have aj:=hid (F.1.trans (a.pre.mono (by have:=F.2.1;omega)));have bw:w.heap.size+1+1<o:=by have:=F.2.1;omega
 clear a b Q ad;have bh:c.cell? ⟨o,0,zp⟩=zq (zg (!m)):=by simp[World.cell?,O]
 have c1:c.cell? ⟨o,1,zp⟩=zq (z7 i (zaa B6 (g-f)).length u):=by simp[World.cell?,O]
 have bi:c.frozen? ⟨o,0,zp⟩=zu:=by simp[World.frozen?,O]
 have b7:c.cell? ⟨w.heap.size+1+1,0,zp⟩=zq (zg zu):=by simp[World.cell?,P]
 have b8:c.cell? ⟨w.heap.size+1+1,1,zp⟩=zq (z7 zp 0 0):=by simp[World.cell?,P]
 have bu:c.frozen? ⟨w.heap.size+1+1,0,zp⟩=zu:=by simp[World.frozen?,P]
 have bv:c.frozen? ⟨w.heap.size+1+1,1,zp⟩=zu:=by simp[World.frozen?,P]
 have W:w.heap.size+1+1≠o:=by omega
 have ay:o≠w.heap.size+1+1:=by omega
 generalize bp:g-f=D at*
 clear P O ak ah ai T F bp;by_cases h0:D=0
 ·subst h0
  rw[zaz] at*
  have a2:=(zau c (b:=w.heap.size+1+1) (b':=o) 0 0 (zg zu) W).trans b7;have a3:=(zau c (b:=w.heap.size+1+1) (b':=o) 1 0 (zg zu) W).trans b8;have az:=al.set bh (λX=>by simp[I]) (zg zu);have Y:=hid (zr2 a2 a3 zu (z7 i 0 u) _ [] az (aj.setCell (p:=⟨o,0,zp⟩) (by show w.heap.size<=o;omega) _) (show w.heap.size<=w.heap.size+1+1 by omega));have bf:=hid ap.out;clear a2 a3 az;simp only[yT] at*
  go_wp2;obtain⟨a6,a7,a8,a9⟩:=Y.out;exact bodyPost_ret (v:=zh #[zg zu,z7 i 0 u]) (by simp[results,Tryz.results30,go_sem,a6,a7]) rfl ⟨zu,_,0,rfl,by rw[<-bf.out];cases m<;>simp[sgn],by rw[zaz];exact a8,a9⟩
 ·have bx:¬(zaa B6 D).length=0:=λa=>h0 ((zbd (B:=B6) (by decide) D).1 (List.length_eq_zero_iff.1 a))
  have bz:(((zaa B6 D).length:Int)==0)=zu:=by rw[beq_eq_false_iff_ne];omega
  have Y:=hid (zr2 b7 b8 (!m) (z7 i (zaa B6 D).length u) _ (zaa B6 D) al aj (show w.heap.size<=w.heap.size+1+1 by omega));clear h0;generalize (zaa B6 D).length=bg at*
  go_wp2;obtain⟨a6,a7,a8,a9⟩:=Y.out;exact bodyPost_ret (v:=zh #[zg (!m),z7 i bg u]) (by simp[results,Tryz.results30,go_sem,a6,a7]) rfl ⟨(!m),_,D,rfl,ap.out,a8,a9⟩
theorem ybh (m d:Bool) (e f:Value) (a b:Nat) (w:zA) (g:Sl w e ((zaa B6 a).map I)) (hy:Sl w f ((zaa B6 b).map I)) (h:(zaa B6 a).length<=1000) (i:(zaa B6 b).length<=1000):
 zC zF 30 #[zh #[zg m,e],zh #[zg d,f]] w (zsb w (sgn m a+sgn d b)):=by
 by_cases c:d=m
 ·subst c;exact z97 _ e f a b w g hy h i
 ·obtain rfl:d=!m:=by cases m<;>cases d<;>simp at*
  rcases Nat.lt_or_ge a b with c|c
  ·exact yco m e f a b c w g hy h i
  ·exact ycn m e f a b c w g hy h i
theorem ybi (m:Bool) (s:Value) (a:Nat) (w:zA) (n:Sl w s ((zaa B6 a).map I)) (_:(zaa B6 a).length<=1000):
 zC zF 32 #[zh #[zg m,s]] w (zsb w (-(sgn m a))):=by
 obtain⟨c,b,rfl, -⟩:=id n;simp only[zV] at*
 have l:∀k:Bool,∃h,h=(w.alloc (zn #[zg m,z7 c (zaa B6 a).length b] 76)).alloc (zn #[zg k,z7 c (zaa B6 a).length b] 76)/\h.cell? ⟨w.heap.size+1,0,zp⟩=zq (zg k)/\h.cell? ⟨w.heap.size+1,1,zp⟩=zq (z7 c (zaa B6 a).length b)/\Sl h (z7 c (zaa B6 a).length b) ((zaa B6 a).map I)/\zB w.heap.size w h:=λk=>by
  have q:qL w ((w.alloc (zn #[zg m,z7 c (zaa B6 a).length b] 76)).alloc (zn #[zg k,z7 c (zaa B6 a).length b] 76)):=((zM _ w).alloc (zN _) _).alloc (by simp) _;have o:=heap_alloc_new (w.alloc (zn #[zg m,z7 c (zaa B6 a).length b] 76)) (zn #[zg k,z7 c (zaa B6 a).length b] 76);rw[zH] at o;exact⟨_,rfl,cell_of_row _ _ _ _ _ _ o,cell_of_row _ _ _ _ _ _ o,n.below q,q⟩
 by_cases h0:a=0
 ·obtain⟨h,j,d,e,f,g⟩:=l m
  have i:=hid (⟨j,d,e,f,g⟩:_/\_/\_/\_/\_);have r:(zaa B6 a).length=0:=by rw[h0,zaz];rfl
  have p:=hid (show sgn m a= -(sgn m a) by rw[h0];cases m<;>simp[sgn]);clear l j d e f g n h0;rw[r] at i⊢;go_enter Tryz.func32,Tryz.ntmps32;go_wp2;rw[<-i.1];obtain⟨-,d,e,f,g⟩:=i.out;exact bodyPost_ret (v:=zh #[zg m,z7 c 0 b]) (by simp[results,Tryz.results32,go_sem,d,e]) rfl ⟨m,_,a,rfl,p.out,f,g⟩
 ·obtain⟨h,j,d,e,f,g⟩:=l (!m)
  have i:=hid (⟨j,d,e,f,g⟩:_/\_/\_/\_/\_);have r:¬(zaa B6 a).length=0:=λu=>h0 ((zbd (B:=B6) (by decide) a).1 (List.length_eq_zero_iff.1 u));have x:(((zaa B6 a).length:Int)==0)=zu:=by rw[beq_eq_false_iff_ne];omega
  have p:=hid (show sgn (!m) a= -(sgn m a) by cases m<;>simp[sgn]);clear l j d e f g n h0;generalize (zaa B6 a).length=t at*
  go_enter Tryz.func32,Tryz.ntmps32;go_wp2;rw[<-i.1];obtain⟨-,d,e,f,g⟩:=i.out;exact bodyPost_ret (v:=zh #[zg (!m),z7 c t b]) (by simp[results,Tryz.results32,go_sem,d,e]) rfl ⟨!m,_,a,rfl,p.out,f,g⟩
theorem zty (a:List UInt8):∀b:List UInt8,val (a++b)=val a*10^b.length+val b:=by
 intro b
 induction h:b.length generalizing b with
 |zero=>have:b=[]:=List.length_eq_zero_iff.1 h;subst this;simp[val]
 |succ c f=>
  rcases Limb.snoc_cases b with rfl|⟨d,g,rfl⟩
  ·simp at h
  ·have e:d.length=c:=by simpa using h
   rw[<-List.append_assoc,zde,f d e,zde,yO];rw[yZ];have:10*(val a*10^c)=val a*(10^c*10):=by rw[Nat.mul_left_comm,yP 10]
   omega
def zb0 (n k:Nat):List Nat:=(List.range k).map λi=>n/B6^i%B6
theorem zkc (n k:Nat):zb0 n (k+1)=zb0 n k++[n/B6^k%B6]:=by simp[zb0,List.range_succ]
theorem zg0 (n k:Nat):(zb0 n k).length=k:=by simp[zb0]
theorem zqn (n k:Nat):zal B6 (zb0 n k):=λc a=>by
 obtain⟨b,_,rfl⟩:=List.mem_map.1 a;exact zP _ (by decide)
theorem zlx (n:Nat):∀k,valL B6 (zb0 n k)=n%B6^k
 |0=>by simp[zb0,valL,Nat.mod_one]
 |k+1=>by
  rw[zkc,zcm,zlx n k,zg0,yO,Nat.mod_mul]
theorem zk1 {n k:Nat} (h:n<B6^k):zat (zb0 n k)=zaa B6 n:=by
 rw[zbu (B:=B6) (by decide) (zqn n k),zlx,zQ h]
theorem zqr (n e:Nat) (_:e<=(zD n).length):val ((zD n).take e)=n/10^((zD n).length-e):=by
 have b:=zty ((zD n).take e) ((zD n).drop e);rw[List.take_append_drop,zb2,List.length_drop] at b;have c:=zjc ((zD n).drop e) (λa d=>⟨(zan n a (List.mem_of_mem_drop d)).1,(zan n a (List.mem_of_mem_drop d)).2⟩);rw[List.length_drop] at c;generalize (zD n).length-e=g at*
 have f:0<10^g:=Nat.pow_pos (by omega)
 conv=>rhs;rw[b]
 rw[yP,Nat.mul_add_div f,Nat.div_eq_of_lt c,Nat.add_zero]
theorem zvc (n k x:Nat) (f:6*k<(zD n).length) (h:val ((zD n).take ((zD n).length-6*k))=val ((zD n).take ((zD n).length-6*k-6))*10^((zD n).length-6*k-((zD n).length-6*k-6))+x)
 (a:x<10^((zD n).length-6*k-((zD n).length-6*k-6))):x=n/B6^k%B6:=by
 have b:=zqr n ((zD n).length-6*k) (by omega);rw[show(zD n).length-((zD n).length-6*k)=6*k by omega,Nat.pow_mul] at b;have c:n/B6^k=val ((zD n).take ((zD n).length-6*k)):=b.symm;rw[c];rcases Nat.lt_or_ge ((zD n).length-6*k) 6 with e|e
 ·have d:(zD n).length-6*k-6=0:=by omega
  rw[d] at h a;rw[List.take_zero,zyb,Nat.zero_mul,Nat.zero_add] at h;have:10^((zD n).length-6*k-0)<=10^6:=yF (by omega) (by omega);rw[h];exact(zQ (show x<B6 from zS a this)).symm
 ·rw[show(zD n).length-6*k-((zD n).length-6*k-6)=6 by omega] at h a
  rw[h,yP];show x=(B6*_+x)%B6;rw[Nat.mul_add_mod];exact(zQ (show x<B6 from a)).symm
theorem zvd (n k:Nat) (h:(zD n).length<=6*k):n<B6^k:=by
 have c:n<10^(zD n).length:=by
  have:=zjc (zD n) (λb d=>zan n b d);rwa [zb2] at this
 have a:10^(zD n).length<=10^(6*k):=yF (by omega) h;rw[Nat.pow_mul] at a;exact zS c a
structure ReadS (w:zA) (neg:Bool) (n k:Nat) (v:Value) (W:zA):Prop where
 bel:qL w W
 rb:W.heap[w.heap.size]? =zq (zn #[zg zu,z7 zp 0 0] 76 (0,0))
 xb:W.heap[w.heap.size+1]? =zq (zn #[zg neg,v] 76 (0,0))
 own:W.ownsRow (w.heap.size+2) 3 1 v k ((zb0 n k).map I)
theorem ReadS.c1 {w:zA} {neg:Bool} {n k:Nat} {v:Value} {W:zA} (h:ReadS w neg n k v W):W.cell? ⟨w.heap.size+1,1,zp⟩=zq v/\W.frozen? ⟨w.heap.size+1,1,zp⟩=zu/\W.cell? ⟨w.heap.size+1,0,zp⟩=zq (zg neg):=by
 refine⟨?_,?_,?_⟩<;>simp[World.cell?,World.frozen?,h.xb]
theorem ReadS.r {w:zA} {neg:Bool} {n k:Nat} {v:Value} {W:zA} (h:ReadS w neg n k v W):W.cell? ⟨w.heap.size,0,zp⟩=zq (zg zu)/\W.frozen? ⟨w.heap.size,0,zp⟩=zu/\W.cell? ⟨w.heap.size,1,zp⟩=zq (z7 zp 0 0)/\W.frozen? ⟨w.heap.size,1,zp⟩=zu:=by
 refine⟨?_,?_,?_,?_⟩<;>simp[World.cell?,World.frozen?,h.rb]
theorem ReadS.step {w:zA} {neg:Bool} {n k:Nat} {v a:Value} {d b:zA} (h:ReadS w neg n k v d) (x:Nat) (f:x=n/B6^k%B6)
 (e:b.ownsRow (w.heap.size+2) 3 1 a (k+1) ((zb0 n k).map I++[zj zm x])) (c:zB (w.heap.size+2) d b):
 ReadS w neg n (k+1) a (b.setCell ⟨w.heap.size+1,1,zp⟩ a):=by
 refine⟨(h.bel.trans (c.mono (by omega))).setCell (by show w.heap.size<=w.heap.size+1;omega) _,?_,?_,?_⟩
 ·exact(yE _ ⟨w.heap.size+1,1,zp⟩ _ w.heap.size (by show w.heap.size≠w.heap.size+1;omega)).trans ((c.block _ (by omega)).trans h.rb)
 ·have:=(c.block (w.heap.size+1) (by omega)).trans h.xb
  simp[World.setCell,Array.getElem?_modify,this]
 ·have:=zka (p:=⟨w.heap.size+1,1,zp⟩) e (by show w.heap.size+1<w.heap.size+2;omega) a
  rw[zkc,<-f,List.map_append];exact this
theorem znu (z:Int) (w:zA) (aw:digs z<=700):
 zC zF 31 #[St (zE z)] w λe w'=>∃v,e=zo (zh #[zg (decide (z<0)),v])/\Sl w' v ((zaa B6 z.natAbs).map I)/\zB w.heap.size w w':=by
 obtain⟨bg,ba,bd,be,bf⟩:=info_parts zdv;obtain⟨j,O⟩:=zzX z.natAbs;have ax:(zD j).length<=700:=by rw[O];exact aw
 have a0:=zan j;have ay:1<=(zD j).length:=by have:=zbn (j:Int);unfold digs at this;simpa using this
 have ad:=hid (zvc j);have ac:=hid (zvd j);obtain⟨q,a4⟩:=zzX (zD j);rw[<-a4] at a0 ax ay ad ac;obtain⟨d,a6⟩:=zzX (⟨q.toArray⟩:ByteArray);obtain⟨ae,b2⟩:=zds q d a6;have x:∀a (B:a<d.size),48<=(d[a]'B).toNat/\(d[a]'B).toNat<=57/\val (q.take (a+1))=10*val (q.take a)+((d[a]'B).toNat-48):=λa B=>by
  have D:a<q.length:=by omega
  rw[b2 a D B,List.take_succ_eq_append_getElem D,zde];exact⟨(a0 _ (zY D)).1,(a0 _ (zY D)).2,rfl⟩
 rw[<-ae] at ad ac;generalize b0:(λa=>val (q.take a))=r at*
 have an:=hid (show ∀a (B:a<d.size),48<=(d[a]'B).toNat/\(d[a]'B).toNat<=57/\r (a+1)=10*r a+((d[a]'B).toNat-48) by rw[<-b0];exact x);have b9:=hid (show ∀a f,6*a<d.size->r (d.size-6*a)=r (d.size-6*a-6)*10^(d.size-6*a-(d.size-6*a-6))+f->f<10^(d.size-6*a-(d.size-6*a-6))->f=j/B6^a%B6 by rw[<-b0];exact ad.out);have bb:0<d.size:=by omega
 have cb:d.size<=700:=by omega
 clear x b0 ad;have bu:(0<=z/\zE z=q)\/(z<0/\zE z=45::q):=by
  rcases zbg z with⟨ap,e⟩|⟨ap,e⟩
  ·exact .inl ⟨ap,by rw[e,a4,O]⟩
  ·exact .inr ⟨ap,by rw[e,a4,O]⟩
 rcases bu with⟨ag,s⟩|⟨ag,s⟩
 ·have a1:decide (z<0)=zu:=by rw[decide_eq_false_iff_not];omega
  rw[s,a1,<-O];show zC _ _ #[z8 ⟨q.toArray⟩] _ _;rw[<-a6];have aq:(((d[0]'bb).toNat:Int)==45)=zu:=by rw[beq_eq_false_iff_ne];have:=(an 0 bb).1;omega
  have Y:ReadS w zu j 0 (z7 zp 0 0) ((w.alloc (zn #[zg zu,z7 zp 0 0] 76)).alloc (zn #[zg zu,z7 zp 0 0] 76)):=by
   refine⟨((zM _ w).alloc (zN _) _).alloc (by simp) _,?_,?_,?_⟩
   ·exact(Below.heap_alloc _ _ _ (by simp)).trans (heap_alloc_new w _)
   ·have:=heap_alloc_new (w.alloc (zn #[zg zu,z7 zp 0 0] 76)) (zn #[zg zu,z7 zp 0 0] 76)
    rwa [zH] at this
   ·exact World.ownsRow_nil _ _ _ _
  have U:=hid Y;clear Y ae b2 a6 a4 a0 ay ax s aw O ag a1;go_enter Tryz.func31,Tryz.ntmps31;go_wp2;go_loopw [4] (λm wr=>∃(a:Nat) (v:Value),m=zj zm ((d.size:Int)-6*a)/\6*a<d.size+6/\ReadS w zu j a v wr) (λm _=>(zL m+6).toNat)
  case atStart=>exact⟨0,_,by simp,by omega,U.out⟩
  case round=>
   clear U aq;obtain⟨a,v,rfl,D,k⟩:=hrel;obtain⟨c1,K, -⟩:=k.c1;by_cases hlt:6*a<d.size
   ·obtain⟨e,s⟩:=zzX (d.size-6*a)
    obtain⟨g,a2⟩:=zzX (e-6);have L:(d.size:Int)-6*a=(e:Int):=by omega
    rw[L];have bz:max (0:Int) ((e:Int)-6)=(g:Int):=by omega
    have bs:e-g<=6:=by omega
    have au:g<=e:=by omega
    have bt:e<=d.size:=by omega
    have br:0<e:=by omega
    have E:=b9 a;rw[<-s,<-a2] at E;have ai:=hid E;have aj:=hid L;have n:=hid k;clear L E k a2 c1 K s;go_wp2;go_loopw [5,6] (λao m b8=>b8=wr/\∃c f:Nat,g<=c/\c<=e/\m=zj zm c/\ao=zj zm f/\r c=r g*10^(c-g)+f/\f<10^(c-g)) (λ_ m _=>e-(zL m).toNat)
    case atStart=>exact⟨rfl,g,0,zN _,au,rfl,rfl,by simp,by simp⟩
    case round=>
     obtain⟨b1,c,f,bv,bw,rfl,rfl,C,t⟩:=hrel;subst b1;have c3:f<1000000:=zS t (yF (by omega) (by omega):10^(c-g)<=10^6);by_cases hje:c<e
     ·have o:c<d.size:=by omega
      obtain⟨bk,bm,W⟩:=an c o;have V:=hid (show r (c+1)=r g*10^(c+1-g)+(10*f+((d[c]'o).toNat-48))/\10*f+((d[c]'o).toNat-48)<10^(c+1-g) by
       rw[show c+1-g=(c-g)+1 by omega,yO,W,C];constructor
       ·rw[yZ,<-Nat.mul_assoc,yP 10,Nat.mul_assoc,yP 10];omega
       ·omega)
      have H:(48:Int)<=((d[c]'o).toNat:Int):=by omega
      have bl:((d[c]'o).toNat:Int)<=57:=by omega
      clear C t W;go_wp2;go_roundw
      case rel=>exact⟨by first|rfl|trivial,c+1,10*f+((d[c]'o).toNat-48),by omega,by omega,by go_num,by show zj zm _=zj zm _;congr 1;omega,V.1,V.2⟩
      case measure=>simp[zL];omega
     ·obtain rfl:c=e:=by omega
      have ab:=ai f hlt C t;have am:=hid ab;obtain⟨c1,K, -⟩:=n.c1;have a9:w.heap.size+2<=wr.heap.size:=by
       have bp:=(Array.getElem?_eq_some_iff.1 n.xb).1;omega
      clear C t ab;go_wp2_with (at_builtin;refine wpList_append_own _ rfl _ _ 74 rfl (w.heap.size+2) 3 bg (zj zm 0) 1 8 Tryz.underlying74 ba bd be bf rfl (by decide) _ _ _ rfl (n.own.alloc _) ⟨wr.heap.size,0,zp⟩ 1 1 [zj zm (f:Int)] rfl rfl (zep _ _ _) (zfn _) (by unfold maxLen;omega) (by omega) (by simp;omega) ?_);intro c6 S P a3 _;obtain⟨c9,c8,c7,rfl⟩:=ze4 P;have M:zB (w.heap.size+2) wr S:=((zM (w.heap.size+2) wr).alloc a9 _).grown a3 (by simp;omega) (λb4 e=>(n.own.lt b4 e).1);have Q:=(M.block (w.heap.size+1) (by omega)).trans n.xb;have c4:S.cell? ⟨w.heap.size+1,1,zp⟩=zq v:=by simp[World.cell?,Q]
      have c5:S.frozen? ⟨w.heap.size+1,1,zp⟩=zu:=by simp[World.frozen?,Q]
      have ak:=hid (n.step f am P M);clear a3 P M Q c1 K a9;go_wp2;go_roundw
      case rel=>exact⟨a+1,_,by have:=aj.out;show zj zm _=zj zm _;congr 1;omega,by omega,ak.out⟩
      case measure=>simp[zL];omega
   ·have bx:¬(0:Int)<(d.size:Int)-6*a:=by omega
    have Z:=ac a (by omega);obtain⟨i,b7,h,rfl⟩:=ze4 k.own;have N:=zg0 j a;have av:a<=200:=by omega
    have az:=k.r;obtain⟨b5,bn,b6,bo⟩:=az;obtain⟨-, -,bj⟩:=k.c1;have F:=hid (zdq i b7 h (zb0 j a) wr (Sl.of_own k.own) (by rw[N];omega));have x:Sl wr (z7 i (zat (zb0 j a)).length h) ((zat (zb0 j a)).map I):=Sl.of_own (zgz k.own N);rw[zk1 Z] at F x;have al:=hid x;have ah:=hid k.bel;have a5:w.heap.size≠w.heap.size+1:=by omega
    have c0:w.heap.size+1≠w.heap.size:=by omega
    clear k x Z N hlt D av;go_wp21;refine zzM F.out λca aa=>?_;have b3:=aa.symm;subst b3;clear F aa;generalize bq:(zaa B6 j).length=l at*
    have G:=(zau _ (b:=w.heap.size) (b':=w.heap.size+1) 0 1 (z7 i l h) a5).trans b5;have H:=(zau _ (b:=w.heap.size) (b':=w.heap.size+1) 1 1 (z7 i l h) a5).trans b6;have J:=(World.cell?_setCell_other _ _ _ (zg zu) (show(⟨w.heap.size,0,zp⟩:Addr)≠⟨w.heap.size,1,zp⟩ by simp)).trans H;have X:=za9 (u:=zg zu) G;have y:=((World.cell?_setCell_other _ _ _ (z7 i l h) (show(⟨w.heap.size,1,zp⟩:Addr)≠⟨w.heap.size,0,zp⟩ by simp)).trans X);have A:=(za9 (u:=z7 i l h) J);have a7:=al.set c1 (λf=>by simp[I]) (z7 i l h);have a8:=a7.set G (λf=>by simp[I]) (zg zu);have a':=hid (a8.set J (λf=>by simp[I]) (z7 i l h));have ar:=hid (((ah.setCell (p:=⟨w.heap.size+1,1,zp⟩) (by show w.heap.size<=w.heap.size+1;omega) (z7 i l h)).setCell (p:=⟨w.heap.size,0,zp⟩) (zN _) (zg zu)).setCell (p:=⟨w.heap.size,1,zp⟩) (zN _) (z7 i l h));have T:=hid (⟨y,A⟩:_/\_);clear a7 a8 G H X J y A;go_wp2;have y:=T.1;have A:=T.2;exact bodyPost_ret (v:=zh #[zg zu,z7 i l h]) (by simp[results,Tryz.results31,go_sem,y,A]) rfl ⟨_,rfl,a'.out,ar.out⟩
 ·have a1:decide (z<0)=zt:=by rw[decide_eq_true_iff];exact ag
  rw[s,a1,<-O];obtain⟨R,af⟩:=zzX (⟨(45::q).toArray⟩:ByteArray);obtain⟨bh,bi⟩:=zds (45::q) R af;have c2:R.size=d.size+1:=by rw[bh,ae];simp
  have bc:0<R.size:=by omega
  have cc:R.size<=701:=by omega
  have t:R.extract 1 R.size=d:=by rw[af,zel,a6];rfl
  show zC _ _ #[z8 ⟨(45::q).toArray⟩] _ _;rw[<-af];have aq:(((R[0]'bc).toNat:Int)==45)=zt:=by rw[bi 0 (by simp) bc];rfl
  have Y:ReadS w zt j 0 (z7 zp 0 0) ((w.alloc (zn #[zg zu,z7 zp 0 0] 76)).alloc (zn #[zg zt,z7 zp 0 0] 76)):=by
   refine⟨((zM _ w).alloc (zN _) _).alloc (by simp) _,?_,?_,?_⟩
   ·exact(Below.heap_alloc _ _ _ (by simp)).trans (heap_alloc_new w _)
   ·have:=heap_alloc_new (w.alloc (zn #[zg zu,z7 zp 0 0] 76)) (zn #[zg zt,z7 zp 0 0] 76)
    rwa [zH] at this
   ·exact World.ownsRow_nil _ _ _ _
  have U:=hid Y;clear Y ae b2 a6 a4 a0 ay ax s aw O ag a1 af bh bi c2;go_enter Tryz.func31,Tryz.ntmps31;go_wp2;clear t aq;go_loopw [4] (λm wr=>∃(a:Nat) (v:Value),m=zj zm ((d.size:Int)-6*a)/\6*a<d.size+6/\ReadS w zt j a v wr) (λm _=>(zL m+6).toNat)
  case atStart=>exact⟨0,_,by simp,by omega,U.out⟩
  case round=>
   clear U;obtain⟨a,v,rfl,D,k⟩:=hrel;obtain⟨c1,K, -⟩:=k.c1;by_cases hlt:6*a<d.size
   ·obtain⟨e,s⟩:=zzX (d.size-6*a)
    obtain⟨g,a2⟩:=zzX (e-6);have L:(d.size:Int)-6*a=(e:Int):=by omega
    rw[L];have bz:max (0:Int) ((e:Int)-6)=(g:Int):=by omega
    have bs:e-g<=6:=by omega
    have au:g<=e:=by omega
    have bt:e<=d.size:=by omega
    have br:0<e:=by omega
    have E:=b9 a;rw[<-s,<-a2] at E;have ai:=hid E;have aj:=hid L;have n:=hid k;clear L E k a2 c1 K s;go_wp2;go_loopw [5,6] (λao m b8=>b8=wr/\∃c f:Nat,g<=c/\c<=e/\m=zj zm c/\ao=zj zm f/\r c=r g*10^(c-g)+f/\f<10^(c-g)) (λ_ m _=>e-(zL m).toNat)
    case atStart=>exact⟨rfl,g,0,zN _,au,rfl,rfl,by simp,by simp⟩
    case round=>
     obtain⟨b1,c,f,bv,bw,rfl,rfl,C,t⟩:=hrel;subst b1;have c3:f<1000000:=zS t (yF (by omega) (by omega):10^(c-g)<=10^6);by_cases hje:c<e
     ·have o:c<d.size:=by omega
      obtain⟨bk,bm,W⟩:=an c o;have V:=hid (show r (c+1)=r g*10^(c+1-g)+(10*f+((d[c]'o).toNat-48))/\10*f+((d[c]'o).toNat-48)<10^(c+1-g) by
       rw[show c+1-g=(c-g)+1 by omega,yO,W,C];constructor
       ·rw[yZ,<-Nat.mul_assoc,yP 10,Nat.mul_assoc,yP 10];omega
       ·omega)
      have H:(48:Int)<=((d[c]'o).toNat:Int):=by omega
      have bl:((d[c]'o).toNat:Int)<=57:=by omega
      clear C t W;go_wp2;go_roundw
      case rel=>exact⟨by first|rfl|trivial,c+1,10*f+((d[c]'o).toNat-48),by omega,by omega,by go_num,by show zj zm _=zj zm _;congr 1;omega,V.1,V.2⟩
      case measure=>simp[zL];omega
     ·obtain rfl:c=e:=by omega
      have ab:=ai f hlt C t;have am:=hid ab;obtain⟨c1,K, -⟩:=n.c1;have a9:w.heap.size+2<=wr.heap.size:=by
       have bp:=(Array.getElem?_eq_some_iff.1 n.xb).1;omega
      clear C t ab;go_wp2_with (at_builtin;refine wpList_append_own _ rfl _ _ 74 rfl (w.heap.size+2) 3 bg (zj zm 0) 1 8 Tryz.underlying74 ba bd be bf rfl (by decide) _ _ _ rfl (n.own.alloc _) ⟨wr.heap.size,0,zp⟩ 1 1 [zj zm (f:Int)] rfl rfl (zep _ _ _) (zfn _) (by unfold maxLen;omega) (by omega) (by simp;omega) ?_);intro c6 S P a3 _;obtain⟨c9,c8,c7,rfl⟩:=ze4 P;have M:zB (w.heap.size+2) wr S:=((zM (w.heap.size+2) wr).alloc a9 _).grown a3 (by simp;omega) (λb4 e=>(n.own.lt b4 e).1);have Q:=(M.block (w.heap.size+1) (by omega)).trans n.xb;have c4:S.cell? ⟨w.heap.size+1,1,zp⟩=zq v:=by simp[World.cell?,Q]
      have c5:S.frozen? ⟨w.heap.size+1,1,zp⟩=zu:=by simp[World.frozen?,Q]
      have ak:=hid (n.step f am P M);clear a3 P M Q c1 K a9;go_wp2;go_roundw
      case rel=>exact⟨a+1,_,by have:=aj.out;show zj zm _=zj zm _;congr 1;omega,by omega,ak.out⟩
      case measure=>simp[zL];omega
   ·have bx:¬(0:Int)<(d.size:Int)-6*a:=by omega
    have Z:=ac a (by omega);obtain⟨i,b7,h,rfl⟩:=ze4 k.own;have N:=zg0 j a;have av:a<=200:=by omega
    have az:=k.r;obtain⟨b5,bn,b6,bo⟩:=az;obtain⟨-, -,bj⟩:=k.c1;have F:=hid (zdq i b7 h (zb0 j a) wr (Sl.of_own k.own) (by rw[N];omega));have x:Sl wr (z7 i (zat (zb0 j a)).length h) ((zat (zb0 j a)).map I):=Sl.of_own (zgz k.own N);rw[zk1 Z] at F x;have al:=hid x;have ah:=hid k.bel;have a5:w.heap.size≠w.heap.size+1:=by omega
    have c0:w.heap.size+1≠w.heap.size:=by omega
    clear k x Z N hlt D av;go_wp21;refine zzM F.out λca aa=>?_;have b3:=aa.symm;subst b3;clear F aa;generalize bq:(zaa B6 j).length=l at*
    have G:=(zau _ (b:=w.heap.size) (b':=w.heap.size+1) 0 1 (z7 i l h) a5).trans b5;have H:=(zau _ (b:=w.heap.size) (b':=w.heap.size+1) 1 1 (z7 i l h) a5).trans b6;have J:=(World.cell?_setCell_other _ _ _ (zg zt) (show(⟨w.heap.size,0,zp⟩:Addr)≠⟨w.heap.size,1,zp⟩ by simp)).trans H;have X:=za9 (u:=zg zt) G;have y:=((World.cell?_setCell_other _ _ _ (z7 i l h) (show(⟨w.heap.size,1,zp⟩:Addr)≠⟨w.heap.size,0,zp⟩ by simp)).trans X);have A:=(za9 (u:=z7 i l h) J);have a7:=al.set c1 (λf=>by simp[I]) (z7 i l h);have a8:=a7.set G (λf=>by simp[I]) (zg zt);have a':=hid (a8.set J (λf=>by simp[I]) (z7 i l h));have ar:=hid (((ah.setCell (p:=⟨w.heap.size+1,1,zp⟩) (by show w.heap.size<=w.heap.size+1;omega) (z7 i l h)).setCell (p:=⟨w.heap.size,0,zp⟩) (zN _) (zg zt)).setCell (p:=⟨w.heap.size,1,zp⟩) (zN _) (z7 i l h));have T:=hid (⟨y,A⟩:_/\_);clear a7 a8 G H X J y A;go_wp2;have y:=T.1;have A:=T.2;exact bodyPost_ret (v:=zh #[zg zt,z7 i l h]) (by simp[results,Tryz.results31,go_sem,y,A]) rfl ⟨_,rfl,a'.out,ar.out⟩
theorem zs2 (m:Bool) (p:Option Addr) (c:Nat) (w:zA):
 qJ 84 #[zh #[zg m,z7 p 0 c]] w (z8 ⟨#[48]⟩):=by
 have a:qL w (w.alloc (zn #[zg m,z7 p 0 c] 76)):=(zM _ w).alloc (zN _) _;have b:=hid a;clear a;go_enter Tryz.func84,Tryz.ntmps84;go_wp2;go_ret;exact⟨rfl,b.out⟩
theorem zt0 (m:Bool) (a:Value) (n:Nat) (w:zA) (b:Sl w a ((zaa B6 n).map I)) (f:(zaa B6 n).length<=200):
 qJ 84 #[zh #[zg m,a]] w (St (zE (sgn m n))):=by
 rcases xD n with rfl|e
 ·obtain⟨g,c,rfl, -⟩:=b
  rw[zaz];have d:zE (sgn m 0)=[48]:=by rw[show sgn m 0=((0:Nat):Int) by cases m<;>simp[sgn],Str.zad];decide+kernel
  rw[d];exact zs2 m g c w
 ·exact ztn m a n e w b f
theorem z1a (m:Bool) (i:Value) (n:Nat) (w:zA) (c:Sl w i ((zaa B6 n).map I)) (h:(zaa B6 n).length<=200) (g:digs (sgn m n)<=300):
 qJ 48 #[zh #[zg m,i]] w (ze #[St (zE (sgn m n)),zj zm 0]):=by
 obtain⟨t,r,rfl, -⟩:=id c;simp only[zV] at*
 obtain⟨d,a⟩:=zzX (w.alloc (zn #[zg m,z7 t (zaa B6 n).length r] 76));have b:qL w d:=by rw[a];exact(zM _ w).alloc (zN _) _
 have hw:=zt0 m _ n d (c.below b) h;have f:=λq=>zh6 (sgn m n) g q;generalize (zaa B6 n).length=v at*
 generalize zE (sgn m n)=x at*
 have o:=hid hw;have l:=hid f;have j:=hid b;have p:=hid a;clear hw f b a c g h;go_enter Tryz.func48,Tryz.ntmps48;go_wp21;rw[<-p.out];refine zzM o.out λu e=>?_;have k:=qT j e;clear e;go_wp21;refine zzM (l u) λy s=>?_;subst s;go_wp21;go_ret2;exact⟨rfl,k.out⟩
theorem zve (z:Int) (k:Nat) (a:0<k) (h:digs z<=6*k):(zaa B6 z.natAbs).length<=k:=by
 apply zfv (B:=B6) (by decide);have:=(za3 z (6*k) (by omega)).1 h;rwa [Nat.pow_mul] at this
theorem z0r {z:Int} {k:Nat} (a:0<k) (h:(zE z).length<=k):z.natAbs<10^k:=
 (za3 z k a).1 (zO (zbr z) h)
theorem z9a (x y:Int) (a:(zE x).length<=17) (hy:(zE y).length<=17) (e:(zE x).length+(zE y).length<=18) (w:zA) (hw:Wd w):
 qJ 27 #[St (zE x),St (zE y)] w (ze #[St (zE (x*y)),zj zm 0]):=by
 have i:=z0r (by omega) a;have j:=z0r (by omega) hy;have v:(zE x).length<=17:=a;have A:(zE y).length<=17:=hy;have c1:=λb=>zj7 x y (zO (zbr x) (by omega)) (zO (zbr y) (by omega)) b;have c2:=λb=>zth x y a hy b;have p:(x*y).natAbs<1000000000000000000:=by
  rw[Int.natAbs_mul];have n:1<=(zE x).length:=zO (zbn x) (zbr x);have o:1<=(zE y).length:=zO (zbn y) (zbr y);have k:=z0r (z:=x) n (zN _);have l:=z0r (z:=y) o (zN _);have d:=Nat.mul_lt_mul'' k l;rw[<-Nat.pow_add] at d;exact zS d (zO (yF (by omega) e) (by decide))
 have c:=zb3 (x*y) (by omega) (by omega) w hw;have t:zm.wrap (x*y)=x*y:=zI _ (by omega);have u:((zE x).length:Int)+(zE y).length<=18:=by omega
 generalize zE x=C at*
 generalize zE y=D at*
 generalize zE (x*y)=B at*
 have f:=hid c1;have g:=hid c2;have h:=hid c;clear c1 c2 c a hy i j p e;go_enter Tryz.func27,Tryz.ntmps27;go_wp21;refine zzM (f w) λs q=>?_;subst q;go_wp21;refine zzM (g s) λE r=>?_;subst r;go_wp21;refine zzM h.out λF m=>?_;go_wp21;go_ret2;exact⟨rfl,m⟩
theorem z98 (x y:Int) (h:17<(zE x).length\/17<(zE y).length) (n:digs x<=300) (hy:digs y<=300) (o:digs (x*y)<=300) (w:zA):
 qJ 27 #[St (zE x),St (zE y)] w (ze #[St (zE (x*y)),zj zm 0]):=by
 have c1:=λa=>zj7 x y n hy a;have c2:=λa=>ztj x y h (zO (za7 x) (by omega)) (zO (za7 y) (by omega)) a;have r:=λa=>znu x a (by omega);have s:=λa=>znu y a (by omega);have L:=zve x 50 (by omega) n;have M:=zve y 50 (by omega) hy;have k:=λp q a i N=>z5f (decide (x<0)) (decide (y<0)) p q x.natAbs y.natAbs a i N (by omega) (by omega);rw[zcs,zcs] at k;have t:=λb e c (d:sgn b c=x*y) a i=>z1a b e c a i (by
  have:=zve (x*y) 50 (by omega) o;rw[<-d,zge] at this;omega) (by rw[d];exact o)
 have D:=hid c1;have E:=hid c2;have F:=hid r;have G:=hid s;have H:=hid k;have J:=hid (show ∀b e c,sgn b c=x*y->∀a:zA,Sl a e ((zaa B6 c).map I)->qJ 48 #[zh #[zg b,e]] a (ze #[St (zE (x*y)),zj zm 0]) from λb e c d a i=>by
  have:=t b e c d a i;rw[d] at this;exact this)
 clear c1 c2 r s k t n hy o h L M;generalize zE x=a1 at*
 generalize zE y=e at*
 generalize zE (x*y)=a0 at*
 generalize decide (x<0)=Y at*
 generalize decide (y<0)=Z at*
 go_enter Tryz.func27,Tryz.ntmps27;go_wp21;refine zzM (D w) λR O=>?_;subst O;go_wp21;refine(E R).mono ?_;rintro l S ⟨⟨W,X,rfl⟩,P⟩;subst P;go_wp21;refine(F S).mono ?_;rintro l T ⟨p,rfl,A,u⟩;have j:=hid (⟨A,u⟩:_/\_);clear A u;go_wp21;refine(G T).mono ?_;rintro l U ⟨q,rfl,B,m⟩;have f:=hid (⟨j.1.below m,B,j.2.trans (m.mono j.2.size)⟩:_/\_/\_);clear B m j;go_wp21;refine(H p q U f.1 f.2.1).mono ?_;rintro l V ⟨b,Q,c,rfl,d,C,v⟩;have g:=hid (⟨d,C,f.2.2.trans (v.mono f.2.2.size)⟩:_/\_/\_);clear d C v f;go_wp21;refine zzM (J b Q c g.1 V g.2.1) λa2 z=>?_;have K:=hid (g.2.2.trans (z.mono g.2.2.size));clear z g;go_wp21;go_ret2;exact⟨rfl,K.out⟩
theorem ybj (x y:Int) (b:(zE x).length<=17) (j:(zE y).length<=17) (h:18<(zE x).length+(zE y).length) (n:digs x<=300) (hy:digs y<=300) (o:digs (x*y)<=300) (w:zA):
 qJ 27 #[St (zE x),St (zE y)] w (ze #[St (zE (x*y)),zj zm 0]):=by
 have c1:=λa=>zj7 x y n hy a;have c2:=λa=>zth x y b j a;have W:¬((zE x).length:Int)+(zE y).length<=18:=by omega
 have X:(zE x).length<=17:=b;have Y:(zE y).length<=17:=j;have r:=λa=>znu x a (by omega);have s:=λa=>znu y a (by omega);have M:=zve x 50 (by omega) n;have N:=zve y 50 (by omega) hy;have l:=λp q a b j=>z5f (decide (x<0)) (decide (y<0)) p q x.natAbs y.natAbs a b j (by omega) (by omega);rw[zcs,zcs] at l;have t:=λc f d (e:sgn c d=x*y) a b=>z1a c f d a b (by
  have:=zve (x*y) 50 (by omega) o;rw[<-e,zge] at this;omega) (by rw[e];exact o)
 have E:=hid c1;have F:=hid c2;have G:=hid r;have H:=hid s;have J:=hid l;have K:=hid (show ∀c f d,sgn c d=x*y->∀a:zA,Sl a f ((zaa B6 d).map I)->qJ 48 #[zh #[zg c,f]] a (ze #[St (zE (x*y)),zj zm 0]) from λc f d e a b=>by
  have:=t c f d e a b;rw[e] at this;exact this)
 clear c1 c2 r s l t n hy o h b j M N;generalize zE x=a2 at*
 generalize zE y=f at*
 generalize zE (x*y)=a1 at*
 generalize decide (x<0)=Z at*
 generalize decide (y<0)=a0 at*
 go_enter Tryz.func27,Tryz.ntmps27;go_wp21;refine zzM (E w) λR O=>?_;subst O;go_wp21;refine zzM (F R) λS P=>?_;subst P;go_wp21;refine(G S).mono ?_;rintro u T ⟨p,rfl,B,v⟩;have k:=hid (⟨B,v⟩:_/\_);clear B v;go_wp21;refine(H T).mono ?_;rintro u U ⟨q,rfl,C,m⟩;have g:=hid (⟨k.1.below m,C,k.2.trans (m.mono k.2.size)⟩:_/\_/\_);clear C m k;go_wp21;refine(J p q U g.1 g.2.1).mono ?_;rintro u V ⟨c,Q,d,rfl,e,D,z⟩;have i:=hid (⟨e,D,g.2.2.trans (z.mono g.2.2.size)⟩:_/\_/\_);clear e D z g;go_wp21;refine zzM (K c Q d i.1 V i.2.1) λa3 A=>?_;have L:=hid (i.2.2.trans (A.mono i.2.2.size));clear A i;go_wp21;go_ret2;exact⟨rfl,L.out⟩
theorem z26 (x y:Int) (a:digs x<=300) (hy:digs y<=300) (b:digs (x*y)<=300) (w:zA) (hw:Wd w):
 qJ 27 #[St (zE x),St (zE y)] w (ze #[St (zE (x*y)),zj zm 0]):=by
 by_cases h:17<(zE x).length\/17<(zE y).length
 ·exact z98 x y h a hy b w
 ·by_cases h2:(zE x).length+(zE y).length<=18
  ·exact z9a x y (by omega) (by omega) h2 w hw
  ·exact ybj x y (by omega) (by omega) (by omega) a hy b w
theorem z3m (x y:Int) (e:(zE x).length<=17) (hy:(zE y).length<=17) (w:zA):
 qJ 13 #[St (zE x),St (zE y)] w (ze #[zj zm (cmpZ x y),zj zm 0]):=by
 have c1:=λc=>zj7 x y (zO (zbr x) (by omega)) (zO (zbr y) (by omega)) c;have c2:=λc=>zth x y e hy c;have f:=hid c1;have g:=hid c2;have b:=hid (show(x<y->cmpZ x y= -1)/\(y<x->cmpZ x y=1)/\(x=y->cmpZ x y=0) by
  unfold cmpZ;refine⟨λa=>?_,λa=>?_,λa=>?_⟩
  ·simp[a]
  ·have:¬x<y:=by omega
   have h:¬x=y:=by omega
   simp[this,a]
  ·subst a;simp)
 clear c1 c2 e hy;generalize zE x=l at*
 generalize zE y=m at*
 generalize cmpZ x y=o at*
 have d:=hid (zM w.heap.size w);go_enter Tryz.func13,Tryz.ntmps13;go_wp21;refine zzM (f w) λk i=>?_;subst i;go_wp21;refine zzM (g k) λn j=>?_;subst j;rcases Int.lt_trichotomy x y with a|a|a
 ·obtain rfl:=b.1 a
  go_wp21;go_ret2;exact⟨rfl,d.out⟩
 ·obtain rfl:=b.2.2 a
  subst a;go_wp21;go_ret2;exact⟨rfl,d.out⟩
 ·obtain rfl:=b.2.1 a
  have h:¬x<y:=by omega
  go_wp21;go_ret2;exact⟨rfl,d.out⟩
theorem z4l (x y:Int) (h:17<(zE x).length\/17<(zE y).length) (z:digs x<=300) (hy:digs y<=300) (w:zA):
 qJ 13 #[St (zE x),St (zE y)] w (ze #[zj zm (cmpZ x y),zj zm 0]):=by
 have c1:=λa=>zj7 x y z hy a;have c2:=λa=>ztj x y h (zO (za7 x) (by omega)) (zO (za7 y) (by omega)) a;have C:=λa=>znu x a (by omega);have D:=λa=>znu y a (by omega);have T:=zve x 50 (by omega) z;have U:=zve y 50 (by omega) hy;have q:=λe a k=>ybi (decide (y<0)) e y.natAbs a k (by omega);rw[zcs] at q;have E:=λc f e d (b:sgn c d= -y) a k s=>ybh (decide (x<0)) c f e x.natAbs d a k s (by omega) (by have:=zge c d;rw[b,Int.natAbs_neg] at this;rw[<-this];omega);have R:=hid (show ∀c f e d,sgn c d= -y->∀a:zA,Sl a f ((zaa B6 x.natAbs).map I)->Sl a e ((zaa B6 d).map I)->zC zF 30 #[zh #[zg (decide (x<0)),f],zh #[zg c,e]] a (zsb a (x-y)) from λc f e d b a k s=>by
  have:=E c f e d b a k s;rw[zcs,b] at this;exact this)
 have o:=hid (show(x<y->cmpZ x y= -1)/\(y<x->cmpZ x y=1)/\(x=y->cmpZ x y=0) by
  unfold cmpZ;refine⟨λh=>?_,λh=>?_,λh=>?_⟩
  ·simp[h]
  ·have:¬x<y:=by omega
   simp[this,h]
  ·subst h;simp)
 have N:=hid c1;have O:=hid c2;have P:=hid C;have Q:=hid D;have S:=hid q;clear c1 c2 C D E q z hy h T U;generalize zE x=aa at*
 generalize zE y=ab at*
 generalize decide (x<0)=a8 at*
 generalize decide (y<0)=a9 at*
 generalize cmpZ x y=ae at*
 go_enter Tryz.func13,Tryz.ntmps13;go_wp21;refine zzM (N w) λa1 X=>?_;subst X;go_wp21;refine(O a1).mono ?_;rintro m a2 ⟨⟨a6,a7,rfl⟩,Y⟩;subst Y;go_wp21;refine(P a2).mono ?_;rintro m a3 ⟨f,rfl,L,G⟩;have l:=hid (⟨L,G⟩:_/\_);clear L G;go_wp21;refine(Q a3).mono ?_;rintro m a4 ⟨e,rfl,M,u⟩;have j:=hid (⟨l.1.below u,M,l.2.trans (u.mono l.2.size)⟩:_/\_/\_);clear M u l;go_wp21;refine(S e a4 j.2.1).mono ?_;rintro m a5 ⟨c,a0,d,rfl,J,K,v⟩;have g:=hid (⟨j.1.below v,K,j.2.2.trans (v.mono j.2.2.size),J⟩:_/\_/\_/\_);clear K v J j;go_wp21;refine(R c f a0 d g.2.2.2 a5 g.1 g.2.1).mono ?_;rintro m ad ⟨A,ac,i,rfl,b,W,H⟩;obtain⟨Z,V,rfl, -⟩:=W;have t:=g.2.2.1.trans (H.mono g.2.2.1.size);have p:=hid (t.alloc t.size (zn #[zg A,z7 Z ((zaa B6 i).map I).length V] 76));have n:((zaa B6 i).map I).length=0↔i=0:=by
  rw[zV,List.length_eq_zero_iff];exact zbd (by decide) i
 generalize ((zaa B6 i).map I).length=B at*
 clear H g t;rcases xD i with r|r
 ·have F:B=0:=n.2 r
  obtain rfl:=o.2.2 (by rw[r] at b;cases A<;>simp[sgn] at b<;>omega);subst F;clear n b;go_wp21;go_ret2;exact⟨rfl,p.out⟩
 ·have F:((B:Int)==0)=zu:=by rw[beq_eq_false_iff_ne];have:=n.1;omega
  clear n;cases A
  ·obtain rfl:=o.2.1 (by simp[sgn] at b;omega)
   clear b;go_wp21;go_ret2;exact⟨rfl,p.out⟩
  ·obtain rfl:=o.1 (by simp[sgn] at b;omega)
   clear b;go_wp21;go_ret2;exact⟨rfl,p.out⟩
theorem z5h (x y:Int) (a:digs x<=300) (hy:digs y<=300) (w:zA):
 qJ 13 #[St (zE x),St (zE y)] w (ze #[zj zm (cmpZ x y),zj zm 0]):=by
 by_cases h:17<(zE x).length\/17<(zE y).length
 ·exact z4l x y h a hy w
 ·exact z3m x y (by omega) (by omega) w
theorem zt3 (x y:Int) (l:(zE x).length<=17) (hy:(zE y).length<=17) (w:zA) (hw:Wd w):
 qJ 46 #[St (zE x),St (zE y)] w (ze #[St (zE (Int.gcd x y:Int)),zj zm 0]):=by
 obtain⟨t,u⟩:=lt18 (zO l (by omega));obtain⟨v,z⟩:=lt18 (zO hy (by omega));have o:=λd=>zj7 x y (zO (zbf (by omega)) (by omega)) (zO (zbf (by omega)) (by omega)) d;have q:=λd=>zth x y l hy d;have A:=hid o;clear o;have D:=hid q;clear q l hy;have E:=hid hw;clear hw;obtain⟨c,h⟩:=zzX (Int.gcd x y);rw[<-h];have B:=hid h;clear h;go_enter Tryz.func46,Tryz.ntmps46;go_wp21;refine zzM (A w) λW H=>?_;have I:=H.symm;subst I;go_wp21;refine zzM (D w) λX J=>?_;have K:=J.symm;subst K;have n:qL w w:=zM _ _;go_wp21;go_loopw [7,8] (λF g wr=>∃b a:Int,F=zj zm b/\g=zj zm a/\Hid (Int.gcd b a=c)/\(-1000000000000000000<b/\b<1000000000000000000)/\(-1000000000000000000<a/\a<1000000000000000000)/\Hid (qL w wr))
  (λ_ g _=>(zL g).natAbs)
 case atStart=>exact⟨x,y,rfl,rfl,B.symm,⟨t,u⟩,⟨v,z⟩,n⟩
 case round=>
  clear t u v z n;obtain⟨b,a,rfl,rfl,i,⟨T,U⟩,⟨M,N⟩,e⟩:=hrel;by_cases h0:a=0
  ·subst h0
   have j:Int.gcd b 0=c:=i.out;rw[Int.gcd_zero_right] at j;have Q:max b (-b)=(c:Int):=by omega
   have O:=hid j;clear i j;have P:(c:Int)<=1000000000000000000:=by omega
   have S:zm.wrap (-b)= -b:=zI _ (by omega);go_wp21;refine zzM (zb3 (c:Int) (by omega) (by omega) wr (E.below e.out)) λY p=>?_;have G:=e.trans (p.mono e.size);clear p;go_wp21;go_ret2;exact⟨rfl,G⟩
  ·have R:(a !=0)=zt:=by simpa using h0
   have r:(b.tmod a).natAbs<a.natAbs:=by rw[Int.natAbs_tmod];exact zP _ (by omega)
   obtain⟨s,f⟩:=zzX (b.tmod a);have k:=zmt b a;rw[<-f] at r k;have L:zm.wrap (b.tmod a)=s:=by rw[<-f];exact zI _ (by omega)
   have C:=hid k;have m:=hid f;clear k f L;go_wp2
   (refine wp_region_quiet_lit (by kernel_rfl) (by kernel_rfl) (WQ.out ?_);(repeat(first|(apply WQ.read (by rfl);(focus(rintro d ⟨a,rfl⟩;go_simp;try with_reducible rfl));try simp only[zzQ])|(apply WQ.skip (by rfl);try simp only[zzQ])));refine WQ.nil ?_;rintro _ ⟨V,rfl⟩)
   go_wp2;go_roundw
   case rel=>exact⟨a,s,rfl,by rw[m.out],C.trans i.out,⟨M,N⟩,by omega,zao e _⟩
   case measure=>show(b.tmod a).natAbs<a.natAbs;rw[<-m.out];exact r
theorem zld (b:Bool) (p:Option Addr) (k c:Nat) (W:zA):(Instr.field 76 (zh #[zg b,z7 p k c]) 1).run zF W=.ok (z7 p k c) W:=by kernel_rfl
theorem zvf (x y:Int) (o:digs x<=300) (hy:digs y<=300) (h:17<(zE x).length\/17<(zE y).length) (w:zA) (hw:Wd w):
 qJ 46 #[St (zE x),St (zE y)] w (ze #[St (zE (Int.gcd x y:Int)),zj zm 0]):=by
 have G:=λc=>zj7 x y o hy c;have N:=λc=>ztj x y h (zO (za7 x) (by omega)) (zO (za7 y) (by omega)) c;have R:=λc=>znu x c (by omega);have S:=λc=>znu y c (by omega);have ag:=zO (zve x 50 (by omega) o) (show 50<=100 by omega);have ah:=zO (zve y 50 (by omega) hy) (show 50<=100 by omega);have a7:=zq4 x y o hy;have W:=hid G;clear G;have a1:=hid N;clear N o hy h;have an:=hid hw;clear hw;have a4:=hid R;have a5:=hid S;clear R S;obtain⟨E,u⟩:=zzX (Int.gcd x y);rw[<-u] at a7⊢;have Y:=hid u;clear u;have ap:=zld;go_enter Tryz.func46,Tryz.ntmps46;go_wp21;refine zzM (W w) λb0 a9=>?_;have aa:=a9.symm;subst aa;go_wp21;refine(a1 w).mono ?_;rintro d U ⟨⟨b2,b3,rfl⟩,ab⟩;have ac:=ab.symm;subst ac;go_wp21;refine(a4 w).mono ?_;rintro d U ⟨az,rfl,i,H⟩;have s:=H;clear H;obtain⟨aw,ar,ao,rfl, -⟩:=zbx i;have j:=hid i;clear i;go_wp21;refine(a5 U).mono ?_;rintro d b1 ⟨a',rfl,D,t⟩;have i:=j.below t;have F:=s.trans (t.mono s.size);clear t s j;obtain⟨aj,af,a6,rfl, -⟩:=zbx D;have j:=hid i;have r:=hid D;clear i D;go_wp2;go_loopg [10,11] y.natAbs (λP ak T wr=>∃b a p f l,T=z7 p f l/\Hid (P=a)/\Hid (f=(zaa B6 a).length)/\(zaa B6 b).length<=100/\(zaa B6 a).length<=100/\Hid (Sl wr ak ((zaa B6 b).map I))/\Hid (Sl wr T ((zaa B6 a).map I))/\Hid (Nat.gcd b a=E)/\Hid (qL w wr))
 case atStart=>
  obtain⟨p,P,l,d,v⟩:=zbx r.out;cases d;exact⟨x.natAbs,y.natAbs,aj,af,a6,rfl,rfl,v,ag,ah,j.out,r.out,Y.symm,F⟩
 case round=>
  clear j r F;obtain⟨b,a,p,f,l,rfl,v,M,au,Q,n,C,K,k⟩:=hrel;by_cases h0:f=0
  ·have e:a=0:=(zbd (B:=B6) (by decide) a).1 (List.length_eq_zero_iff.1 (by rw[<-M.out];exact h0))
   have J:b=E:=by have:=K.out;rw[e,Nat.gcd_zero_right] at this;exact this
   have ad:¬(0:Int)<f:=by omega
   have V:=hid J;clear J;have q:=hid e;clear e;have am:=hid h0;clear h0;obtain⟨av,aq,c1,rfl, -⟩:=zbx n.out;have z:=zt0 zu _ b wr n (by omega);rw[zkw,V.out] at z;have a0:=hid z;clear z;go_wp21;refine zzM a0.out λal g=>?_;have m:=k.trans (g.mono k.size);clear g;go_wp21;go_ret2;exact⟨rfl,m⟩
  ·have ad:(0:Int)<f:=by omega
   have e:a≠0:=λd=>h0 (by rw[M.out,d,zaz];rfl);go_wp21;refine(zs1 _ (z7 p f l) b a wr n C (by omega) (by omega) (yS e)).mono ?_;rintro d al ⟨ax,ay,rfl,a8,A,g⟩;have m:=k.trans (g.mono k.size);have O:=C.below g;obtain⟨ai,ae,c2,rfl,L⟩:=zbx A;have a2:=hid A;have X:=hid m;have a3:=hid O;have Z:=hid L;have q:=hid e;clear a8 A g m O L e n C k;go_wp2;go_roundg (b%a)
   case measure=>rw[v.out];exact zP _ (yS q.out)
   case rel=>exact⟨a,b%a,ai,ae,c2,rfl,rfl,Z.out,Q,zO (zd6 (by decide) (zT (zP _ (yS q.out)))) Q,a3.out,a2.out,(zkx b a).trans K.out,X.out⟩
theorem zxp (x y:Int) (a:digs x<=300) (hy:digs y<=300) (w:zA) (hw:Wd w):
 qJ 46 #[St (zE x),St (zE y)] w (ze #[St (zE (Int.gcd x y:Int)),zj zm 0]):=by
 by_cases h:17<(zE x).length\/17<(zE y).length
 ·exact zvf x y a hy h w hw
 ·exact zt3 x y (by omega) (by omega) w hw
theorem zrk (l:List UInt8) (i:∀c∈l,48<=c.toNat/\c.toNat<=57) (E:l.length<=18) (w:zA):
 zC zF 26 #[St l] w λe w'=>e=zo (I (val l))/\w'=w:=by
 obtain⟨b,j⟩:=zzX (⟨l.toArray⟩:ByteArray);obtain⟨m,b2⟩:=zds l b j;have u:=λa f=>zhb (l:=l) i (k:=a) f;have r:∀a (d:a<b.size),48<=(b[a]'d).toNat/\(b[a]'d).toNat<=57/\val (l.take (a+1))=10*val (l.take a)+((b[a]'d).toNat-48):=λa d=>by
  have f:a<l.length:=by omega
  rw[b2 a f d,List.take_succ_eq_append_getElem f,zde];exact⟨(i _ (zY f)).1,(i _ (zY f)).2,rfl⟩
 have o:val (l.take b.size)=val l:=by rw[m,List.take_length]
 show zC _ _ #[z8 ⟨l.toArray⟩] _ _;rw[<-j];have H:b.size<=18:=by omega
 generalize h:(λa=>val (l.take a))=g at*
 have v:∀a,a<=17->g a<100000000000000000:=by rw[<-h];exact u
 have s:∀a (d:a<b.size),48<=(b[a]'d).toNat/\(b[a]'d).toNat<=57/\g (a+1)=10*g a+((b[a]'d).toNat-48):=by rw[<-h];exact r
 have p:g b.size=val l:=by rw[<-h];exact o
 have t:g 0=0:=by rw[<-h];rfl
 generalize val l=L at*
 have C:=hid v;have A:=hid s;have y:=hid p;have B:=hid t;clear v s p t u r o h m b2 j i E;go_enter Tryz.func26,Tryz.ntmps26;go_wp2;go_loop [3,4] (λD k=>∃a:Nat,a<=b.size/\k=zj zm a/\D=zj zm (g a:Nat)) (λ_ k=>b.size-(zL k).toNat)
 case atStart=>exact⟨0,zR _,rfl,by rw[B.out];rfl⟩
 case round=>
  obtain⟨a,f,rfl,rfl⟩:=hrel;by_cases hlt:a<b.size
  ·obtain⟨c1,c2,n⟩:=A a hlt
   have J:=C a (by omega);generalize g a=K at*
   have x:=hid n;clear n;have F:(48:Int)<=(b[a].toNat:Int):=by omega
   have G:(b[a].toNat:Int)<=57:=by omega
   go_wp2;go_round
   case rel=>exact⟨a+1,by omega,by go_num,by rw[x.out];show zj zm _=zj zm _;congr 1;omega⟩
   case measure=>simp[zL];omega
  ·have q:a=b.size:=by omega
   have z:=hid q;clear q;go_wp2;go_ret;exact⟨by rw[z.out,y.out];rfl,rfl⟩
theorem zq6 (n:Nat) (t:List UInt8):(zD n++47::t).takeWhile (· !=47)=zD n/\((zD n++47::t).dropWhile (· !=47)).tail=t:=by
 have b:∀a∈zD n,(a !=47)=zt:=λa d=>by
  have:=zan n a d;simp;intro c;subst c;simp at this
 constructor
 ·rw[List.takeWhile_append_of_pos b];simp
 ·rw[List.dropWhile_append_of_pos b];simp
theorem znx (n:Nat):(zD n).takeWhile (· !=47)=zD n/\((zD n).dropWhile (· !=47)).tail=[]:=by
 have c:∀a∈zD n,(a !=47)=zt:=λa e=>by
  have:=zan n a e;simp;intro d;subst d;simp at this
 constructor
 ·have:=List.takeWhile_append_of_pos (p:=λb:UInt8=>b !=47) (l₁:=zD n) (l₂:=[]) c
  simpa using this
 ·have:=List.dropWhile_append_of_pos (p:=λb:UInt8=>b !=47) (l₁:=zD n) (l₂:=[]) c
  rw[yH] at this;rw[this];rfl
def denS (q:Rat):List UInt8:=if q.den=1 then[] else zD q.den
theorem zvg (q:Rat):upS (numS q)=zD q.num.natAbs/\dnS (numS q)=denS q/\((numS q).head? =zq 45↔q.num<0)/\((47:UInt8)∈bare (numS q)↔q.den≠1):=by
 have b:bare (numS q)=zD q.num.natAbs++(if q.den=1 then[] else 47::zD q.den):=zhw _ _;unfold upS dnS denS;rw[b];refine⟨?_,?_,zk2 _ _,?_⟩
 ·by_cases h:q.den=1
  ·rw[if_pos h,yH];exact(znx _).1
  ·rw[if_neg h];exact(zq6 _ _).1
 ·by_cases h:q.den=1
  ·rw[if_pos h,if_pos h,yH];exact(znx _).2
  ·rw[if_neg h,if_neg h];exact(zq6 _ _).2
 ·by_cases h:q.den=1
  ·rw[if_pos h,yH]
   exact⟨λa=>absurd a (zdz _),λa=>absurd h a⟩
  ·rw[if_neg h]
   exact⟨λ_=>h,λ_=>by simp⟩
def okN (q:Rat):Prop:=digs q.num<=300/\(zD q.den).length<=300
theorem z8i {q:Rat} (h:okN q):(numS q).length<=1000:=by
 have a:=za7 q.num;obtain⟨b,c⟩:=h;unfold numS;rw[List.length_append];split
 ·simp;omega
 ·simp;omega
theorem z1x (q:Rat) (h:okN q) (w:zA):
 qJ 25 #[St (numS q)] w (ze #[zg (decide (q.num<0)),St (zD q.num.natAbs),St (denS q),zg (decide (q.den≠1))]):=by
 obtain⟨b,c,d,e⟩:=zvg q;have a:=zlq (numS q) (zO (z8i h) (by omega)) w;rw[b,c,show decide ((numS q).head? =zq 45)=decide (q.num<0) by rw[decide_eq_decide];exact d,show decide ((47:UInt8)∈bare (numS q))=decide (q.den≠1) by rw[decide_eq_decide];exact e] at a;exact a
theorem zre (q:Rat) (h:okN q) (w:zA):
 qJ 11 #[St (numS q)] w (ze #[St (zE q.num),St (zD q.den)]):=by
 have m:=z1x q h w;have u:(zD q.num.natAbs).length<=300:=h.1;have p:zE q.num=if q.num<0 then 45::zD q.num.natAbs else zD q.num.natAbs:=by
  rcases zbg q.num with⟨r,g⟩|⟨r,g⟩<;>rw[g]
  ·rw[if_neg (by omega)]
  ·rw[if_pos r]
 have n:q.den=1->zD q.den=[49]:=λg=>by rw[g];decide+kernel
 have o:q.den≠1->denS q=zD q.den:=λg=>by unfold denS;rw[if_neg g]
 have b:=hid m;have c:=hid p;have e:=hid n;have f:=hid o;clear m p n o h;generalize zD q.num.natAbs=s at*
 generalize numS q=v at*
 have t:¬(9223372036854775807<1+s.length):=by omega
 by_cases hm:q.num<0<;>by_cases h1:q.den=1
 ·rw[decide_eq_true hm,decide_eq_false (by simpa using h1)] at b
  rw[if_pos hm] at c;have a:=e h1;clear hm h1 e f;rw[a];clear a;generalize zE q.num=k at*
  generalize zD q.den=i at*
  generalize denS q=j at*
  go_enter Tryz.func11,Tryz.ntmps11;go_wp21;refine zzM b.out λl d=>?_;go_wp21;go_ret2;refine⟨?_,d⟩;rw[c.out];show Ending.returned (ze #[z8 (_++_),z8 _])=_;rw[ztl]
 ·rw[decide_eq_true hm,decide_eq_true (by simpa using h1)] at b
  rw[if_pos hm] at c;have a:=f h1;rw[a] at b;clear hm h1 e f a;generalize zE q.num=k at*
  generalize zD q.den=i at*
  generalize denS q=j at*
  go_enter Tryz.func11,Tryz.ntmps11;go_wp21;refine zzM b.out λl d=>?_;go_wp21;go_ret2;refine⟨?_,d⟩;rw[c.out];show Ending.returned (ze #[z8 (_++_),z8 _])=_;rw[ztl]
 ·rw[decide_eq_false hm,decide_eq_false (by simpa using h1)] at b
  rw[if_neg hm] at c;have a:=e h1;clear hm h1 e f;rw[a];clear a;generalize zE q.num=k at*
  generalize zD q.den=i at*
  generalize denS q=j at*
  go_enter Tryz.func11,Tryz.ntmps11;go_wp21;refine zzM b.out λl d=>?_;go_wp21;go_ret2;exact⟨by rw[c.out];rfl,d⟩
 ·rw[decide_eq_false hm,decide_eq_true (by simpa using h1)] at b
  rw[if_neg hm] at c;have a:=f h1;rw[a] at b;clear hm h1 e f a;generalize zE q.num=k at*
  generalize zD q.den=i at*
  generalize denS q=j at*
  go_enter Tryz.func11,Tryz.ntmps11;go_wp21;refine zzM b.out λl d=>?_;go_wp21;go_ret2;exact⟨by rw[c.out];rfl,d⟩
theorem zt4 (x u v:ByteArray) (m i g b2 z1 z2 z3:Bool) (f:(300:Int)<u.size\/(¬(300:Int)<u.size/\(300:Int)<v.size))
 (p:(v.toList==[48])=z1) (q:(v.toList==[49])=z2) (s:(u.toList==[48])=z3)
 (l:Hid (∀a:zA,qJ 25 #[z8 x] a (ze #[zg m,z8 u,z8 v,zg i])))
 (j:Hid (∀a:zA,zC zF 44 #[z8 u] a λe w'=>e=zo (zg g)/\w'=a))
 (k:Hid (∀a:zA,zC zF 44 #[z8 v] a λe w'=>e=zo (zg b2)/\w'=a))
 (w:zA):
 zC zF 24 #[z8 x] w λe w'=>∃r:Int,e=zo (zj zm r)/\r≠0/\zB w.heap.size w w':=by
 go_enter Tryz.func24,Tryz.ntmps24;go_wp21;refine zzM (l w) λn b=>?_;go_wp21;refine zzM (j n) λo hw=>?_;have d:=hw.symm;subst d;clear hw;cases g
 ·go_wp21
  all_goals first|exact(zzU ‹_›).elim|skip
  go_ret;exact⟨11,rfl,by decide,b⟩
 ·cases i
  ·cases m
   ·rcases f with c|⟨c,h⟩
    all_goals
     go_wp21
     all_goals first|exact(zzU ‹_›).elim|skip
     go_ret;exact⟨4,rfl,by decide,b⟩
   ·cases z3
    ·rcases f with c|⟨c,h⟩
     all_goals
      go_wp21
      all_goals first|exact(zzU ‹_›).elim|skip
      go_ret;exact⟨4,rfl,by decide,b⟩
    ·go_wp21
     all_goals first|exact(zzU ‹_›).elim|skip
     go_ret;exact⟨11,rfl,by decide,b⟩
  ·go_wp21
   all_goals first|exact(zzU ‹_›).elim|skip
   refine zzM (k _) λo hw=>?_;have d:=hw.symm;subst d;clear hw;cases b2
   ·go_wp21
    all_goals first|exact(zzU ‹_›).elim|skip
    go_ret;exact⟨11,rfl,by decide,b⟩
   ·cases z1<;>cases z2<;>cases m<;>cases z3
    all_goals
     rcases f with c|⟨c,h⟩
     all_goals
      go_wp21
      all_goals first|exact(zzU ‹_›).elim|skip
      go_ret
      first|exact⟨4,rfl,by decide,b⟩|exact⟨11,rfl,by decide,b⟩
theorem zri {q:Rat}:okQ q↔(upS (numS q)).length<=300/\(dnS (numS q)).length<=300:=by
 obtain⟨a,b,_,_⟩:=zvg q;rw[a,b];unfold okQ denS digs;by_cases c:q.den=1
 ·rw[if_pos c,c,(zta 1).2 rfl];simp
 ·rw[if_neg c]
theorem zly (l:List UInt8) (C:l.length<=9223372036854775807) (w:zA) (hw:Wd w):
 zC zF 24 #[St l] w λe w'=>∃r:Int,e=zo (zj zm r)/\(r=0↔∃q,l=numS q/\okQ q)/\zB w.heap.size w w':=by
 classical
 have sz:∀b:List UInt8,(⟨b.toArray⟩:ByteArray).size=b.length:=λb=>by show b.toArray.size=_;simp
 have z:(bare l).length<=9223372036854775807:=by
  have h:(bare l).length<=l.length:=by unfold bare;split<;>simp
  omega
 have s:(upS l).length<=9223372036854775807:=zO (List.takeWhile_sublist _).length_le z;have p:(dnS l).length<=9223372036854775807:=by
  have g:((bare l).dropWhile (· !=47)).length<=(bare l).length:=(List.dropWhile_sublist _).length_le;have i:(dnS l).length=((bare l).dropWhile (· !=47)).length-1:=by unfold dnS;rw[List.length_tail]
  omega
 have j:∀b:List UInt8,b.length<=9223372036854775807->∀a,zC zF 44 #[z8 ⟨b.toArray⟩] a (λe w'=>e=zo (zg (decide (zcb b)))/\w'=a):=λb B a=>by
  refine(zsg b (by omega) a).mono ?_;rintro e w' ⟨t,rfl,c,rfl⟩;refine⟨?_,rfl⟩;congr 2;cases t
  ·rw[eq_comm,decide_eq_false_iff_not];intro u;exact absurd (c.2 u) (by simp)
  ·rw[eq_comm,decide_eq_true_iff];exact c.1 rfl
 have o:(∃q,l=numS q/\okQ q)↔okS l/\(upS l).length<=300/\(dnS l).length<=300:=by
  rw[zy2];constructor
  ·rintro⟨q,rfl,c⟩;exact⟨⟨q,rfl⟩,zri.1 c⟩
  ·rintro⟨⟨q,rfl⟩,c⟩;exact⟨q,rfl,zri.2 c⟩
 by_cases hL:(upS l).length<=300/\(dnS l).length<=300
 ·obtain⟨m,n⟩:=hL
  have e:(∃q,l=numS q/\okQ q)↔okS l:=by rw[o];exact⟨λc=>c.1,λc=>⟨c,m,n⟩⟩
  simp only[e];refine zsl ⟨l.toArray⟩ ⟨(upS l).toArray⟩ ⟨(dnS l).toArray⟩ (decide (l.head? =zq 45)) (decide ((47:UInt8)∈bare l)) (decide (zcb (upS l))) (decide (zcb (dnS l))) (decide (dnS l=[48])) (decide (dnS l=[49])) (decide (upS l=[48]))
   (Nat.gcd (val (upS l)) (val (dnS l))) (okS l) (by rw[sz];exact m) (by rw[sz];exact n) (hid ?_) (zeb _ _ rfl _) (zeb _ _ rfl _) (zeb _ _ rfl _)
   (hid λa=>zlq l (by omega) a) (hid λa=>j _ s a) (hid λa=>j _ p a) (hid λg h i k=>?_) (hid λg h=>?_) w (hid hw)
  ·rw[zuh]
   simp only[decide_eq_true_eq,decide_eq_false_iff_not,ne_eq]
  ·rw[sz] at i k
   have d:zcb (upS l):=of_decide_eq_true g;have f:zcb (dnS l):=of_decide_eq_true h;refine⟨val (upS l),val (dnS l),λa=>zlj _ d.2.1 i a,λa=>zlj _ f.2.1 k a,λa=>?_⟩;have A:=zS (zjc _ d.2.1) (yF (by omega) i:10^(upS l).length<=10^9);have b2:=zS (zjc _ f.2.1) (yF (by omega) k:10^(dnS l).length<=10^9);refine(zxf _ _ (by omega) (by omega) a).mono ?_;rintro e w' ⟨D,rfl,rfl⟩;exact⟨rfl,zao (zM _ _) _⟩
  ·have d:zcb (upS l):=of_decide_eq_true g
   have f:zcb (dnS l):=of_decide_eq_true h;refine⟨⟨(zD (Nat.gcd (val (upS l)) (val (dnS l)))).toArray⟩,?_,λa v=>?_⟩
   ·rw[zeb _ _ rfl]
    exact decide_eq_decide.2 (zta _)
   ·have:=zxp (val (upS l):Int) (val (dnS l):Int) (by unfold digs;rw[Int.natAbs_natCast,zdd d];exact m) (by unfold digs;rw[Int.natAbs_natCast,zdd f];exact n) a v
    rw[Str.zad,Str.zad,Str.zad,zdd d,zdd f] at this;exact this
 ·refine(zt4 ⟨l.toArray⟩ ⟨(upS l).toArray⟩ ⟨(dnS l).toArray⟩ (decide (l.head? =zq 45)) (decide ((47:UInt8)∈bare l)) (decide (zcb (upS l))) (decide (zcb (dnS l))) (decide (dnS l=[48])) (decide (dnS l=[49])) (decide (upS l=[48])) ?_ (zeb _ _ rfl _) (zeb _ _ rfl _) (zeb _ _ rfl _)
   (hid λa=>zlq l (by omega) a) (hid λa=>j _ s a) (hid λa=>j _ p a) w).mono ?_
  ·rw[sz,sz];omega
  ·rintro e w' ⟨r,rfl,y,x⟩
   exact⟨r,rfl,⟨λb=>absurd b y,λb=>absurd (o.1 b).2 hL⟩,x⟩
theorem zt5 (l:List UInt8) (a:l.length<=1000) (w:zA) (hw:Wd w):
 zC zF 24 #[St l] w λe w'=>∃r:Int,e=zo (zj zm r)/\(r=0↔∃q,l=numS q/\okQ q)/\zB w.heap.size w w':=zly l (by omega) w hw
structure Hw (w:zA):Prop where
 wd:Wd w
 pw:Pw w
 sw:Spw w
theorem Hw.below {w w':zA} (h:Hw w) (a:qL w w'):Hw w':=⟨h.wd.below a,h.pw.below a,h.sw.below a⟩
theorem Hw.d {w:zA} (h:Hw w):Hid (∀a,qL w a->Wd a):=hid λ_ b=>(h.below b).wd
theorem Hw.p {w:zA} (h:Hw w):Hid (∀a,qL w a->Pw a):=hid λ_ b=>(h.below b).pw
theorem Hw.s {w:zA} (h:Hw w):Hid (∀a,qL w a->Spw a):=hid λ_ b=>(h.below b).sw
theorem zxu (d:Nat) (t:TypeId) (a b c:Rat) (e:zA) (h:e.heap[d]? =zq (zn #[St (numS a),St (numS b),St (numS c)] t (0,0))):RowNums (zq ⟨d,0,zp⟩) 3 (λi=>if i=0 then a else if i=1 then b else c) e:=λi f=>by
 refine⟨_,_,rfl,?_⟩;rw[zJ h]
 match i,f with
 |0,_|1,_|2,_=>rfl
theorem yin (a b c:Rat) (ha:sz a 60) (k:sz b 60) (l:sz c 60) (e:Nat) (t:TypeId) (d:zA) (j:Wd d) (h:d.heap[e]? =zq (zn #[St (numS a),St (numS b),St (numS c)] t (0,0))):
 qJ 135 #[z7 (zq ⟨e,0,zp⟩) 3 3] d (zj zm 0):=by
 refine yfv (zq ⟨e,0,zp⟩) 3 3 (λi=>if i=0 then a else if i=1 then b else c) (by omega) (hid λn m f g=>?_) d (hid j) (hid (zxu e t a b c d h))
 match n,m with
 |0,_=>exact zfj a (zd0 (by omega) (by omega) ha) f g
 |1,_=>exact zfj b (zd0 (by omega) (by omega) k) f g
 |2,_=>exact zfj c (zd0 (by omega) (by omega) l) f g
theorem znw (a b c:Rat) (ha:sz a 60) (m:sz b 60) (o:sz c 60) (q:a≠0\/b≠0\/c≠0) (p:Option Addr) (n k:Nat) (e:zA) (l:Hw e)
 (h:∀V:zA,qL e V->qJ 124 #[z7 p n k] V (zj zm 0)):
 qJ 96 #[zh #[St (numS a),St (numS b),St (numS c),z7 p n k]] e (zj zm 0):=by
 have z0:∀f:Rat,f=0->(numS f==[48])=zt:=λf d=>by rw[d,zie];rfl
 refine zr5 (numS a) (numS b) (numS c) p n k ?_ e (hid λV j g i=>yin a b c ha m o g _ V (l.below j).wd i) (hid h);by_cases h0:a=0
 ·by_cases h1:b=0
  ·right;right
   exact⟨z0 a h0,z0 b h1,zsf (by rcases q with d|d|d;exact absurd h0 d;exact absurd h1 d;exact d)⟩
  ·right;left
   exact⟨z0 a h0,zsf h1⟩
 ·left;exact zsf h0
theorem yha (a b c:Rat) (ha:sz a 60) (m:sz b 60) (o:sz c 60) (q:a≠0\/b≠0\/c≠0) (p:Option Addr) (n k:Nat) (B:Nat) (d:zA) (l:Hw d) (e:d.heap[B]? =zq (zn #[St (numS a),St (numS b),St (numS c),z7 p n k] 53 (0,0)))
 (h:∀V:zA,qL d V->qJ 124 #[z7 p n k] V (zj zm 0)):
 qJ 98 #[z7 (zq ⟨B,0,zp⟩) 1 1] d (zj zm 0):=by
 refine zgo (zq ⟨B,0,zp⟩) 1 1 (λ_=>numS a) (λ_=>numS b) (λ_=>numS c) (λ_=>z7 p n k) (by omega) (λg _=>⟨_,_,_,rfl⟩) d (hid λg _ V f=>znw a b c ha m o q p n k V (l.below f) λi j=>h i (f.trans (j.mono f.size))) (hid λg r=>?_);obtain rfl:g=0:=by omega
 exact⟨B,0,rfl,by rw[zJ e];rfl,by rw[zJ e];rfl,by rw[zJ e];rfl,by rw[zJ e];rfl⟩
theorem yjw (a b c d x y z:Rat) (ha:sz a 60) (A:sz b 60) (B:sz c 60) (V:a≠0\/b≠0\/c≠0) (C:sz d 60) (D:sz x 60) (hy:sz y 60) (E:sz z 60)
 (p:sz (x*a) 60) (q:sz (y*b) 60) (r:sz (z*c) 60) (s:sz (x*a+y*b) 60) (t:sz (x*a+y*b+z*c) 60) (u:sz (x*a+y*b+z*c-d) 60)
 (v O P Q:Value) (w:zA) (hw:Hw w) (j:SdL v (rs d) w) (m:SdL O (rs x) w) (n:SdL P (rs y) w) (o:SdL Q (rs z) w):
 qJ 82 #[zh #[St (numS a),St (numS b),St (numS c),v],zh #[O,P,Q]] w (ze #[zj zm (Geo.cmpR (x*a+y*b+z*c-d) 0),zj zm 0]):=by
 obtain⟨Y,X,W,rfl⟩:=j.any;obtain⟨L,I,F,rfl⟩:=m.any;obtain⟨M,J,G,rfl⟩:=n.any;obtain⟨N,K,H,rfl⟩:=o.any;have g:=λ(e:zA) (S:qL w e)=>hw.below S;refine yg9 (numS a) (numS b) (numS c) Y L M N X W I J K F G H (rs (x*a+y*b+z*c)) (rs (x*a+y*b+z*c-d)) _ w
  (hid λe f R T=>yha a b c ha A B V _ _ _ R e (g e f) T λi h=>zda _ d C i ((g e f).below h).wd ((g e f).below h).pw ((j.below f).below h))
  (hid λe f=>zda _ x D e (g e f).wd (g e f).pw (m.below f)) (hid λe f=>zda _ y hy e (g e f).wd (g e f).pw (n.below f)) (hid λe f=>zda _ z E e (g e f).wd (g e f).pw (o.below f))
  (hid λe f=>?_)
  (hid λe Z f U=>zqj Z _ _ d t C u e (g e f).d (g e f).p U (j.below f))
  (hid λe l f k=>yil l _ u e (g e f).d (g e f).p (g e f).s k)
 refine zns L M N I J K F G H (numS a) (numS b) (numS c) (rs (x*a)) (rs (y*b)) (rs (z*c)) (rs (x*a+y*b)) (rs (x*a+y*b+z*c)) e
  (hid λi h=>ze2 _ x a D (ha.mono (by omega)) p i ((g e f).below h).d ((g e f).below h).p ((m.below f).below h))
  (hid λi h=>ze2 _ y b hy (A.mono (by omega)) q i ((g e f).below h).d ((g e f).below h).p ((n.below f).below h))
  (hid λi h=>ze2 _ z c E (B.mono (by omega)) r i ((g e f).below h).d ((g e f).below h).p ((o.below f).below h))
  (hid λi l v h k j=>zno l v _ _ p q s i ((g e f).below h).d ((g e f).below h).p k j)
  (hid λi l v h k j=>zno l v _ _ s r t i ((g e f).below h).d ((g e f).below h).p k j)
end
end Go.Proofs.YtjmljcdbjakefaaGreatDoor
