/- integer.divide. -/
import Derived.Test.YtjmljcdbjakefaaGreatDoorZ03
set_option maxRecDepth 100000
set_option maxHeartbeats 8000000
open Go.Value renaming slice → z7, string → z8, tuple → ze, pointer → zf, bool → zg, int → zj
open Go.IntKind renaming i64 → zm
open Go.Obj renaming cells → zn
open Go.Ending renaming returned → zo
open Option renaming none → zp, some → zq
open Bool renaming true → zt, false → zu
open Go renaming World → zA, Calls → zC
open Go.RowKit renaming Below → zB, intOf → zL
open Go.Lib renaming decDigits → zD, itoa → zE
open Go.Proofs.Tryz renaming prog → zF
open Go.World renaming alloc_heap_new → zG, size_alloc → zH
open Go.IntWalk renaming i64_in → zI
open Go.RowKit.Below renaming refl → zM, heap_setCell → yE
open Nat renaming le_refl → zN, mod_eq_of_lt → zQ, zero_le → zR, pow_le_pow_right → yF, pow_succ → yO, mul_comm → yP, mul_add → yZ, eq_zero_or_pos → xD
open List renaming length_append → zU, length_map → zV, size_toArray → zZ, length_cons → yA, nil_append → yI, append_assoc → yL, cons_append → yM, length_nil → yT, push_toArray → yW, append_toArray → yX
open Array renaming replicate_succ → yU, replicate_zero → yV
namespace Go.Proofs.YtjmljcdbjakefaaGreatDoor
section
open Go.RowKit Go.Shelf Lib Str Limb
attribute [local go_sem] Oper.semAt_some
def zju (w:zA) (x y:Nat) (e:Ending) (w':zA):Prop:=
 ∃v1 v2,e=zo (ze #[v1,v2])/\Sl w' v1 ((zaa B9 x).map I)/\Sl w' v2 ((zaa B9 y).map I)/\zB w.heap.size w w'
theorem zsq (l o:Value) (m n:Nat) (w:zA) (ha:Sl w l ((zaa B9 m).map I)) (b:Sl w o ((zaa B9 n).map I)) (E:(zaa B9 m).length<=1000) (F:(zaa B9 n).length<=1000) (h:m<n):
 zC zF 228 #[l,o] w (zju w (m/n) (m%n)):=by
 obtain⟨k,f,rfl, -⟩:=id ha;obtain⟨G,x,rfl, -⟩:=id b;have c:=hid ha;clear ha;have r:=hid b;clear b;simp only[zV] at*
 refine(callsIn_wide (n:=3)).1 ?_;refine callsIn_of_wp_marks Tryz.func228 rfl trivial ?_ rfl;simp only[Tryz.ntmps228,zZ,yA,yT,Nat.reduceAdd,Nat.reduceSub,yU,yV,yW,yX,yI,yM];have j:=λt y z=>zi9 (z7 k (zaa B9 m).length f) (z7 G (zaa B9 n).length x) m n t y z E F;have s:=hid j;clear j;gi_wp2_with (refine⟨trivial,?_⟩;gi_at_call 262;refine(callsIn_wide.2 (s _ (c.below ?c1) (r.below ?c2))).mono ?_)
 case c1=>exact(zM _ _).alloc (zN _) _
 case c2=>exact(zM _ _).alloc (zN _) _
 rintro H q ⟨v,rfl,⟨i,B⟩,a⟩;have J:v<0:=i.2 h;have d:=hid h;clear i B h;rw[zH] at a;have e:Boxed q w.heap.size 74 (z7 zp 0 0):=(a.block _ (by omega)).trans (Boxed.new w 74 (z7 zp 0 0));have g:qL w q:=((zM _ w).alloc (zN _) _).trans (a.mono (by omega));have C:=e.cell;have K:=e.frozen;clear a;gi_wp2;have D:=za9 (u:=z7 zp 0 0) C
 exact⟨ze #[z7 zp 0 0,z7 k (zaa B9 m).length f],by simp[results,Tryz.f228,go_sem,D],_,_,rfl,by rw[Nat.div_eq_of_lt d.out,zaz];exact Sl.nil _,by
  have A:=g.setCell (p:=⟨w.heap.size,0,zp⟩) (by simp) (z7 zp 0 0);rw[zQ d.out];exact c.below A,g.setCell (p:=⟨w.heap.size,0,zp⟩) (by simp) _⟩
theorem Sl.box {w:zA} {v:Value} {l:List Nat} {b n c:Nat} {r:Option Addr} (h:Sl w v (l.map I)) (k:w.cell? ⟨b,0,zp⟩=zq (z7 r n c)) (u:Value):Sl (w.setCell ⟨b,0,zp⟩ u) v (l.map I):=by
 obtain⟨q,i,d,o,m⟩:=h;refine⟨q,i,d,o,λf s a=>?_⟩;obtain⟨g,p,j,e⟩:=m f s a;refine⟨g,p,j,?_⟩;rw[World.cell?_setCell_other]
 ·exact e
 ·intro d
  rw[<-d,k] at e;cases e;rw[List.getElem?_map] at a
  cases hl:l[f]? with
  |none=>rw[hl] at a;cases a
  |some t=>rw[hl] at a;cases a
theorem zsr {n d:Nat} (h:(zaa B9 n).length=1) (f:d=(zaa B9 n)[0]?.getD 0):d=n/\0<d/\d<B9:=by
 have c:=zam (B:=B9) (by decide) n;have e:=zak (B:=B9) (by decide) n;have i:n≠0:=λb=>by rw[(zbd (B:=B9) (by decide) n).2 b] at h;cases h
 generalize zaa B9 n=g at*
 match g,h with
 |[a],_=>
  have:a<B9:=e a (by simp);simp[valL] at c f;omega
theorem zur (Q R:Value) (m n:Nat) (w:zA) (ha:Sl w Q ((zaa B9 m).map I)) (b:Sl w R ((zaa B9 n).map I)) (N:(zaa B9 m).length<=1000) (a:(zaa B9 n).length=1) (h:n<=m):
 zC zF 228 #[Q,R] w (zju w (m/n) (m%n)):=by
 obtain⟨O,C,rfl, -⟩:=id ha;obtain⟨P,D,rfl, -⟩:=id b;have z:=hid ha;clear ha;have A:=hid b;simp only[zV] at*
 rw[a];have o:=λg k a1=>zi9 (z7 O (zaa B9 m).length C) (z7 P (zaa B9 n).length D) m n g k a1 N (by omega);rw[a] at b A o;have T:=hid o;clear o;obtain⟨Z,q⟩:=zzX ((zaa B9 n)[0]?.getD 0);obtain⟨j,E,F⟩:=zsr a q;have J:Sl w (z7 P (zaa B9 n).length D) ((zaa B9 n).map I):=by rw[a];exact b
 obtain⟨X,aa,rfl,a4,a6,f⟩:=J.at (i:=0) (by omega);rw[<-q,Nat.add_zero] at f;rw[a] at a6;have v:=λg k=>zoy (z7 O (zaa B9 m).length C) (zaa B9 m) Z g k N (zak (by decide) m) E F;rw[zam (by decide),j] at v;rw[j] at f;have W:=hid v;clear v J b q j E F a;refine(callsIn_wide (n:=3)).1 ?_;refine callsIn_of_wp_marks Tryz.func228 rfl trivial ?_ rfl;simp only[Tryz.ntmps228,zZ,yA,yT,Nat.reduceAdd,Nat.reduceSub,yU,yV,yW,yX,yI,yM];gi_wp2_with (refine⟨trivial,?_⟩;gi_at_call 262;refine(callsIn_wide.2 (T _ (z.below ?c1) (A.below ?c2))).mono ?_)
 case c1=>exact(zM _ _).alloc (zN _) _
 case c2=>exact(zM _ _).alloc (zN _) _
 rintro a0 S ⟨Y,rfl,⟨K,a5⟩,e⟩;have ad:¬Y<0:=λa8=>by have:=K.1 a8;omega
 clear K a5 h;rw[zH] at e;have c:Boxed S w.heap.size 74 (z7 zp 0 0):=(e.block _ (by omega)).trans (Boxed.new w 74 (z7 zp 0 0));have d:qL w S:=((zM _ w).alloc (zN _) _).trans (e.mono (by omega));have L:=f;rw[<-d.cell (p:=⟨X,aa,zp⟩) a4] at L;clear e f;have M:=z.below d;gi_wp2_with (refine⟨trivial,?_⟩;gi_at_call 265;refine(callsIn_wide.2 (W _ M)).mono ?_);clear M;rintro a0 ac ⟨ag,ah,rfl,s,t,l⟩;obtain⟨y,c1,G, -⟩:=id s;obtain⟨ab,c2,H, -⟩:=id t;generalize (List.map I (zaa B9 (m/n))).length=x at G;generalize (List.map I (zaa B9 (m%n))).length=a9 at H;subst G H;have B:Boxed ac w.heap.size 74 (z7 zp 0 0):=(l.block _ (Boxed.lt c)).trans c;have r:=B.cell;have ae:=B.frozen;have a3:=d.trans (l.mono d.size);have af:=Boxed.lt c;clear l c L;have U:=hid s;clear s;have V:=hid t;clear t;gi_wp2;have a7:=za9 (u:=z7 y x c1) r;have a2:=a3.setCell (p:=⟨w.heap.size,0,zp⟩) (by simp) (z7 y x c1);exact⟨ze #[z7 y x c1,z7 ab a9 c2],by simp[results,Tryz.f228,go_sem,a7],_,_,rfl,U.box r _,V.box r _,a2⟩
theorem zd6 {B:Nat} (b:2<=B) {m n:Nat} (h:m<=n):(zaa B m).length<=(zaa B n).length:=by
 rcases Nat.lt_or_ge (zaa B n).length (zaa B m).length with a|a
 ·have:=zc2 b a;omega
 ·exact a
theorem zwh {B a V:Nat} (b:2<=B) (f:0<V) (h:V<=a):
 DivAt B (zaa B a++[0]) (zaa B V) ((zaa B a).length+1-(zaa B V).length) ((zaa B a).length+1-(zaa B V).length) (zaa B a++[0]) (List.replicate ((zaa B a).length+1-(zaa B V).length) 0):=by
 have g:=zd6 b h;have i:0<(zaa B V).length:=by
  rcases xD (zaa B V).length with c|c
  ·have:=(zbd b V).1 (List.length_eq_zero_iff.1 c);omega
  ·exact c
 refine⟨rfl,zg4 (zak b a) (by omega),by simp,λk e=>by rw[List.mem_replicate] at e;omega,?_,?_,λj _=>by rw[List.getElem?_replicate];split<;>rfl⟩
 ·rw[zgd,Nat.mul_zero,Nat.add_zero]
 ·rw[zam b V,List.drop_append_of_le_length (by omega),zcm,Nat.mul_zero,Nat.add_zero]
  have d:=zb6 (zg5 (zak b a) ((zaa B a).length+1-(zaa B V).length));rw[List.length_drop,show(zaa B a).length-((zaa B a).length+1-(zaa B V).length)=(zaa B V).length-1 by omega] at d;exact Nat.lt_of_lt_of_le d (zmo b (by omega))
theorem zdm {a:zA} {b g cap:Nat} {v:Value} {l:List Nat} (d:Boxed a b 74 v) (e:Row a g cap l):b≠g:=by
 rintro rfl;obtain⟨f,c,_⟩:=e;unfold Boxed at d;rw[d] at c;simp at c
theorem CellsKept.boxed {a c:zA} (h:CellsKept a c) {b:Nat} {t:TypeId} {v:Value} (d:Boxed a b t v):Boxed c b t v:=h _ _ _ _ d
structure DivW (w:zA) (bs b4 b7 b8 g cap gq gv kv U V M:Nat) (v u Q:List Nat) (W:zA):Prop where
 bu:Boxed W b7 74 (z7 (zq ⟨g,0,zp⟩) U cap)
 bv:Boxed W b8 74 (z7 (zq ⟨gv,0,zp⟩) V kv)
 bq:Boxed W b4 74 (z7 (zq ⟨gq,0,zp⟩) M M)
 bb:Boxed W bs 74 (z7 (zq ⟨gq,0,zp⟩) M M)
 ru:Row W g cap u
 rq:Row W gq M Q
 rv:Row W gv kv v
 below:qL w W
section
variable {w:zA} {bs b4 b7 b8 g cap gq gv kv U V M:Nat} {v u Q:List Nat} {W W':zA}
theorem DivW.kept (h:DivW w bs b4 b7 b8 g cap gq gv kv U V M v u Q W) (a:CellsKept W W') (b:zB w.heap.size W W'):DivW w bs b4 b7 b8 g cap gq gv kv U V M v u Q W':=
 ⟨a.boxed h.bu,a.boxed h.bv,a.boxed h.bq,a.boxed h.bb,a.row h.ru,a.row h.rq,a.row h.rv,h.below.trans b⟩
theorem DivW.grow (h:DivW w bs b4 b7 b8 g cap gq gv kv U V M v u Q W) (a:qL W W'):DivW w bs b4 b7 b8 g cap gq gv kv U V M v u Q W':=
 h.kept (zac a) (a.mono h.below.size)
theorem DivW.only (h:DivW w bs b4 b7 b8 g cap gq gv kv U V M v u Q W) {b:List Nat} (a:Only g W W') (f:Row W' g cap b) (c:g≠gq) (d:g≠gv) (e:w.heap.size<=g):DivW w bs b4 b7 b8 g cap gq gv kv U V M v b Q W':=
 ⟨(a.block _ (Boxed.lt h.bu) (zdm h.bu h.ru)).trans h.bu,(a.block _ (Boxed.lt h.bv) (zdm h.bv h.ru)).trans h.bv,(a.block _ (Boxed.lt h.bq) (zdm h.bq h.ru)).trans h.bq,(a.block _ (Boxed.lt h.bb) (zdm h.bb h.ru)).trans h.bb,
   f,a.row h.rq c.symm,a.row h.rv d.symm,Only.below h.below (zN _) e a⟩
theorem DivW.setQ (h:DivW w bs b4 b7 b8 g cap gq gv kv U V M v u Q W) (j q:Nat) (a:g≠gq) (b:gv≠gq) (c:w.heap.size<=gq):DivW w bs b4 b7 b8 g cap gq gv kv U V M v u (Q.set j q) (W.setCell ⟨gq,j,zp⟩ (I q)):=
 ⟨(yE W ⟨gq,j,zp⟩ (I q) b7 (zdm h.bu h.rq)).trans h.bu,(yE W ⟨gq,j,zp⟩ (I q) b8 (zdm h.bv h.rq)).trans h.bv,(yE W ⟨gq,j,zp⟩ (I q) b4 (zdm h.bq h.rq)).trans h.bq,(yE W ⟨gq,j,zp⟩ (I q) bs (zdm h.bb h.rq)).trans h.bb,
   h.ru.other (by exact a) _,h.rq.set j q,h.rv.other (by exact b) _,h.below.setCell (p:=⟨gq,j,zp⟩) c _⟩
theorem DivW.setU (h:DivW w bs b4 b7 b8 g cap gq gv kv U V M v u Q W) (a:b7≠b8) (b:b7≠b4) (c:b7≠bs) (d:w.heap.size<=b7):DivW w bs b4 b7 b8 g cap gq gv kv U V M v u Q (W.setCell ⟨b7,0,zp⟩ (z7 (zq ⟨g,0,zp⟩) U cap)):=
 ⟨by have:=h.bu;unfold Boxed at*;simp[World.setCell,Array.getElem?_modify,this],h.bv.other a.symm _,h.bq.other b.symm _,h.bb.other c.symm _,
   h.ru.other (by exact(zdm h.bu h.ru).symm) _,h.rq.other (by exact(zdm h.bu h.rq).symm) _,h.rv.other (by exact(zdm h.bu h.rv).symm) _,h.below.setCell (p:=⟨b7,0,zp⟩) d _⟩
end
theorem zke {g cap:Nat} {b c:zA} {l:List Nat} (h:Only g b c) (i:Row b g cap l) (B:Nat):KeepsFrom B b c:=
 ⟨h.size,λj m _ a f=>by
   refine(h.block j (Array.getElem?_eq_some_iff.1 a).1 λd=>?_).trans a;obtain⟨k,e,_⟩:=i;rw[d,e] at a;cases a;cases f⟩
theorem zts {w:zA} {base n:Nat} {v:Value} {l:List Nat} (h:w.ownsRow base 3 1 v n (l.map I)) (j:0<n):∃g cap,v=z7 (zq ⟨g,0,zp⟩) n cap/\base<=g/\Row w g cap l/\l.length=n:=by
 have c:=h;obtain⟨a,h⟩:=h;rcases h with⟨rfl,b⟩|⟨g,cap,i,rfl,f, -⟩
 ·rw[b] at a;simp at a;omega
 ·obtain⟨d,e⟩:=Row.of_own c
  exact⟨g,cap,rfl,f,d,e⟩
theorem zwi (c:zA) (r o:Nat) (d:o=c.heap.size):Sl (c.alloc (zn #[I r] 3)) (z7 (zq ⟨o,0,zp⟩) 1 1) ([r].map I):=
 d▸Sl.mk (b:=c.heap.size) (off:=0) (cap:=1) (xs:=[I r]) (zN _) (λe f a=>by
  match e,a with
  |0,a=>simp at a;subst a;simp)
theorem zo0 (c d:Value) (a b:List Nat) (p:Nat) (w:zA) (ha:Sl w c (a.map I)) (n:Sl w d (b.map I)) (h:zal B9 a) (i:zal B9 b) (r:a.length<=1000) (s:b.length<=1000) (q:valL B9 a*valL B9 b=p) (j:p≠0):
 zC zF 191 #[c,d] w (λe w'=>∃g cap,e=zo (z7 (zq ⟨g,0,zp⟩) (zaa B9 p).length cap)/\w.heap.size<=g/\Row w' g cap (zaa B9 p)/\zB w.heap.size w w'):=by
 refine(zox c d a b w ha n h i r s).mono ?_;rintro e w' ⟨t,rfl,f,m⟩;rw[zjp (by decide) h i,q] at f;have o:0<(zaa B9 p).length:=by
  rcases xD (zaa B9 p).length with e|e
  ·exact absurd ((zbd (by decide) p).1 (List.length_eq_zero_iff.1 e)) j
  ·exact e
 obtain⟨g,cap,rfl,k,l,_⟩:=zts f o;exact⟨g,cap,rfl,k,l,m⟩
theorem zwj (w:zA) (t:TypeId):∀(j:Nat) (u:Value),[I 0][j]? =zq u->(w.alloc (zn #[zj zm 0] t)).cell? ((⟨w.heap.size,0,zp⟩:Addr).add j)=zq u:=zep w (zj zm 0) t
theorem z06 (a f:Nat) (b:f=B9/(a+1)):zj zm (1000000000/((a:Int)+1))=I f:=by
 subst b;simp[I,B9]
theorem zwk (a f:Nat) (c:f=B9/(a+1)) (h:1<=a):zal B9 [f]:=by
 intro d b;simp at b;subst b;subst c;have:B9/(a+1)<=B9/2:=Nat.div_le_div_left (by omega) (by omega);unfold B9 at*;omega
theorem zpt {m f:Nat} (h:f<B9):(zaa B9 (m*f)).length<=(zaa B9 m).length+1:=by
 refine zfv (by decide) ?_;rw[yO];exact Nat.mul_lt_mul'' (zgb (by decide) m) h
theorem hml0 {m n f:Nat} (h:1<=f):m*f/(n*f)=m/n/\m*f%(n*f)=m%n*f:=
 ⟨Nat.mul_div_mul_right _ _ (by omega),Nat.mul_mod_mul_right _ _ _⟩
theorem zss (ep eq:Value) (m n:Nat) (w:zA) (ha:Sl w ep ((zaa B9 m).map I)) (Z:Sl w eq ((zaa B9 n).map I)) (fz:(zaa B9 m).length<=900) (eh:(zaa B9 n).length<=900) (eg:2<=(zaa B9 n).length) (h:n<=m):
 zC zF 228 #[ep,eq] w (zju w (m/n) (m%n)):=by
 obtain⟨ek,da,rfl, -⟩:=id ha;obtain⟨g5,db,rfl, -⟩:=id Z;have af:=hid ha;clear ha;have ag:=hid Z;simp only[zV] at*
 have dn:=λf z t=>zi9 (z7 ek (zaa B9 m).length da) (z7 g5 (zaa B9 n).length db) m n f z t (by omega) (by omega);have ah:=hid dn;clear dn;obtain⟨a3,b8⟩:=zzX ((zaa B9 n)[(zaa B9 n).length-1]?.getD 0);obtain⟨d9,ej,rfl,fk,dl,b4⟩:=Z.at (i:=(zaa B9 n).length-1) (by omega);have c9:a3<B9:=by rw[b8];exact zaj (zak (by decide) n) (by decide) _
 rw[<-b8] at b4;have cx:=hid b8;clear b8 Z;obtain⟨ec,bq,e9,ea,eb⟩:=info_parts zdv;obtain⟨b,bo⟩:=zzX (B9/(a3+1));have ac:1<=b:=by rw[bo,Nat.le_div_iff_mul_le (by omega)];omega
 obtain⟨ei,bt⟩:=zzX ((zaa B9 m).length);obtain⟨ae,bu⟩:=zzX ((zaa B9 n).length);rw[<-bu] at eg eh dl b4 ag ah⊢;rw[<-bt] at fz af ah⊢;have ai:=hid bt;clear bt;have U:=hid bu;clear bu;have co:=hid bo;clear bo;have fr:((ae:Int)==1)=zu:=by rw[beq_eq_false_iff_ne];omega
 have g7:a3<1000000000:=c9;have aw:((ae:Int)-1).toNat=ae-1:=by omega
 refine(callsIn_wide (n:=3)).1 ?_;refine callsIn_of_wp_marks Tryz.func228 rfl trivial ?_ rfl;simp only[Tryz.ntmps228,zZ,yA,yT,Nat.reduceAdd,Nat.reduceSub,yU,yV,yW,yX,yI,yM];gi_wp2_with (refine⟨trivial,?_⟩;gi_at_call 262;refine(callsIn_wide.2 (ah _ (af.below ?c1) (ag.below ?c2))).mono ?_)
 case c1=>exact(zM _ _).alloc (zN _) _
 case c2=>exact(zM _ _).alloc (zN _) _
 rintro c ci ⟨fb,rfl,⟨dk,fl⟩,ay⟩;have fo:¬fb<0:=λJ=>by have:=dk.1 J;omega
 have bc:=hid h;clear dk fl h;rw[zH] at ay;have aq:Boxed ci w.heap.size 74 (z7 zp 0 0):=(ay.block _ (by omega)).trans (Boxed.new w 74 (z7 zp 0 0));have E:qL w ci:=((zM _ w).alloc (zN _) _).trans (ay.mono (by omega));have dm:=b4;rw[<-E.cell (p:=⟨d9,ej+(ae-1),zp⟩) fk] at dm;clear ay b4;have f0:=hid c9;clear c9;have e5:1<=a3:=by
  have:=cx.out;rcases zg7 (B:=B9) (by decide) n with c|⟨ba,cl,c,fy⟩
  ·have:=U.out;rw[c] at this;simp at this;omega
  ·rw[c] at this;simp at this;omega
 have bv:m*b≠0:=by
  have:=bc.out;have t:=U.out;have:n≠0:=λc=>by rw[c,zaz] at t;simp at t;omega
  exact Nat.mul_ne_zero (by omega) (by omega)
 have dx:n*b≠0:=by
  have t:=U.out;have:n≠0:=λc=>by rw[c,zaz] at t;simp at t;omega
  exact Nat.mul_ne_zero (by omega) (by omega)
 have dd:=z06 a3 b co.out;have cf:=zwk a3 b co e5;have ew:=hid bv;have cq:=hid dx;have em:=λf z t=>zo0 (z7 ek ei da) (z7 (zq ⟨ci.heap.size,0,zp⟩) 1 1) (zaa B9 m) [b] (m*b) f z t (zak (by decide) m) cf (by rw[<-ai.out];omega) (by simp) (by rw[zam (by decide)];simp[valL]) bv;have d4:=hid em;have bd:=hid cf;clear em cf bv dx;have cn:=hid dd;clear dd;gi_wp2_with (refine⟨trivial,?_⟩;gi_at_call 191;rw[cn.out];refine(callsIn_wide.2 (d4 _ (af.below (E.alloc E.size _)) (zwi _ _ _ rfl))).mono ?_);rintro c cj ⟨gc,gb,rfl,dq,d',az⟩;rw[zH] at dq az;have a8:qL w cj:=(E.alloc E.size _).trans (az.mono (by have:=E.size;simp;omega));have ar:Boxed cj w.heap.size 74 (z7 zp 0 0):=(az.block _ (by have:=Boxed.lt aq;omega)).trans ((Below.heap_alloc _ _ _ (Boxed.lt aq)).trans aq);have b6:=(d'.alloc (zn #[zj zm 0] 3)).own (base:=w.heap.size) (by have:=E.size;omega);have d3:=hid (show(zaa B9 (m*b)).length<=902 by have:=zpt (m:=m) (f:=b) (bd b (by simp));rw[<-ai.out] at this;omega);have fs:=d3.out;gi_wp2_with (gi_at_builtin;refine wpListIn_append_own _ rfl _ _ 74 rfl w.heap.size 3 ec (zj zm 0) 1 8 Tryz.underlying74 bq e9 ea eb rfl (by decide) _ _ _ rfl b6 ⟨cj.heap.size,0,zp⟩ 1 1 [I 0] rfl rfl (zwj _ _) (zfn _) (by unfold maxLen;omega) (by omega) (by have:=a8.size;simp;omega) ?_);intro gv ck dy bp _;have X:qL w ck:=(a8.alloc a8.size _).grown bp (by have:=a8.size;simp;omega) (λg c=>(b6.lt g c).1)
 obtain⟨l,q,rfl,gi,c0,_⟩:=zts (l:=zaa B9 (m*b)++[0]) (by simpa using dy) (by omega);have au:Boxed ck w.heap.size 74 (z7 zp 0 0):=by
  have z:=bp.block w.heap.size (by simp;have:=Boxed.lt ar;omega) (λc=>by
   have:=(b6.lt _ c.symm).2;simp[Value.ownBlock] at c;have:=E.size;omega)
  exact z.trans ((Below.heap_alloc _ _ _ (Boxed.lt ar)).trans ar)
 clear b6 dy bp d' aq ar;have en:=λf z t=>zo0 (z7 (zq ⟨d9,ej,zp⟩) ae db) (z7 (zq ⟨ck.heap.size,0,zp⟩) 1 1) (zaa B9 n) [b] (n*b) f z t (zak (by decide) n) bd (by rw[<-U.out];omega) (by simp) (by rw[zam (by decide)];simp[valL]) cq.out;have d5:=hid en;clear en;gi_wp2_with (refine⟨trivial,?_⟩;gi_at_call 191;refine(callsIn_wide.2 (d5 _ (ag.below (X.alloc X.size _)) (zwi _ _ _ rfl))).mono ?_);rintro c T ⟨u,v,rfl,dr,c4,a7⟩;rw[zH] at dr a7;have a':qL w T:=(X.alloc X.size _).trans (a7.mono (by have:=X.size;simp;omega));have g0:=c0.lt;have be:Boxed T w.heap.size 74 (z7 zp 0 0):=(a7.block _ (by have:=Boxed.lt au;omega)).trans ((Below.heap_alloc _ _ _ (Boxed.lt au)).trans au);have c3:Row T l q (zaa B9 (m*b)++[0]):=(c0.alloc _).below a7 (by omega);have g2:=c4.lt;clear a7 c0 au X a8 az;gi_wp2;have di:(zaa B9 (n*b)).length<=(zaa B9 (m*b)).length:=zd6 (by decide) (Nat.mul_le_mul_right b bc.out);have ft:ei<=(zaa B9 (m*b)).length:=by rw[ai.out];exact zd6 (by decide) (Nat.le_mul_of_pos_right _ ac)
 obtain⟨e,bk⟩:=zzX ((zaa B9 (m*b)).length);obtain⟨d,bl⟩:=zzX ((zaa B9 (n*b)).length);rw[<-bk] at fs di ft⊢;rw[<-bl] at di⊢;have al:=hid bk;clear bk;have a4:=hid bl;clear bl;have a5:=(Boxed.new T 74 (z7 (zq ⟨l,0,zp⟩) (e+1) q)).alloc (zn #[z7 (zq ⟨u,0,zp⟩) d v] 74);have N:=Boxed.new (T.alloc (zn #[z7 (zq ⟨l,0,zp⟩) (e+1) q] 74)) 74 (z7 (zq ⟨u,0,zp⟩) d v);have bf:=(be.alloc (zn #[z7 (zq ⟨l,0,zp⟩) (e+1) q] 74)).alloc (zn #[z7 (zq ⟨u,0,zp⟩) d v] 74);have cb:=(c3.alloc (zn #[z7 (zq ⟨l,0,zp⟩) (e+1) q] 74)).alloc (zn #[z7 (zq ⟨u,0,zp⟩) d v] 74);have cd:=(c4.alloc (zn #[z7 (zq ⟨l,0,zp⟩) (e+1) q] 74)).alloc (zn #[z7 (zq ⟨u,0,zp⟩) d v] 74);have b0:=(a'.alloc a'.size (zn #[z7 (zq ⟨l,0,zp⟩) (e+1) q] 74)).alloc (by have:=a'.size;simp;omega) (zn #[z7 (zq ⟨u,0,zp⟩) d v] 74);rw[zH] at N;have f':=Boxed.lt be;have g1:=c3.lt;clear be c3 c4 a' E;obtain⟨L,e8⟩:=zzX T.heap.size;rw[<-e8] at a5 N g2 f' g1⊢;clear e8;generalize (T.alloc (zn #[z7 (zq ⟨l,0,zp⟩) (e+1) q] 74)).alloc (zn #[z7 (zq ⟨u,0,zp⟩) d v] 74)=d6 at*
 obtain⟨a,dg⟩:=zzX (e+1-d);have bj:(e:Int)+1-d=a:=by omega
 obtain⟨x,dv,bb,P⟩:=zg2 d6 w.heap.size a (by have:=b0.size;omega) (by omega);rw[<-bj] at dv;have ex:=hid bj;clear bj;have aj:=hid dg;clear dg;have C:=a5.cell;have O:=N.cell;have G:Boxed x w.heap.size 74 (z7 zp 0 0):=(P.block _ (Boxed.lt bf)).trans bf;have d7:Boxed x L 74 (z7 (zq ⟨l,0,zp⟩) (e+1) q):=(P.block _ (Boxed.lt a5)).trans a5;have d8:Boxed x (L+1) 74 (z7 (zq ⟨u,0,zp⟩) d v):=(P.block _ (Boxed.lt N)).trans N;have cc:=cb.below P cb.lt;have ce:=cd.below P cd.lt;have bi:qL w x:=b0.trans (P.mono b0.size);have gs:=Boxed.lt N;clear bf a5 N cb cd P;have fc:=G.cell;have fd:=G.frozen;gi_loopw [] (λwr=>wr=d6) (λ_=>0)
 case atStart=>rfl
 case round=>
 subst hrel;have es:=hid C;gi_wp2_with (refine⟨trivial,?_⟩;gi_at_call 266;refine(callsIn_wide.2 (zhu _ _ _ _ _ rfl)).mono ?_;rintro c gy ⟨rfl,rfl⟩);have j:=zwh (B:=B9) (by decide) (Nat.pos_of_ne_zero cq.out) (Nat.mul_le_mul_right b bc.out);rw[<-al.out,<-a4.out,<-aj.out] at j;have aa:DivW w x.heap.size w.heap.size L (L+1) l q wr.heap.size u v (e+1) d a (zaa B9 (n*b)) (zaa B9 (m*b)++[0]) (List.replicate a 0)
  ((x.setCell ⟨w.heap.size,0,zp⟩ (z7 (zq ⟨wr.heap.size,0,zp⟩) a a)).alloc (zn #[z7 (zq ⟨wr.heap.size,0,zp⟩) a a] 74)):=by
  have e1:(x.setCell ⟨w.heap.size,0,zp⟩ (z7 (zq ⟨wr.heap.size,0,zp⟩) a a)).heap.size=x.heap.size:=by simp[World.setCell]
  have gr:=Boxed.lt G;refine⟨(d7.other (by omega) _).alloc _,(d8.other (by omega) _).alloc _,Boxed.alloc ?_ _,?_,(cc.other (by exact(zdm G cc).symm) _).alloc _,(bb.other (by exact(zdm G bb).symm) _).alloc _,(ce.other (by exact(zdm G ce).symm) _).alloc _,?_⟩
  ·unfold Boxed at*;simp[World.setCell,Array.getElem?_modify,G]
  ·have:=Boxed.new (x.setCell ⟨w.heap.size,0,zp⟩ (z7 (zq ⟨wr.heap.size,0,zp⟩) a a)) 74 (z7 (zq ⟨wr.heap.size,0,zp⟩) a a)
   rw[e1] at this;exact this
  ·exact(bi.setCell (p:=⟨w.heap.size,0,zp⟩) (by simp) _).alloc (by rw[e1];exact bi.size) _
 have fx:(x.setCell ⟨w.heap.size,0,zp⟩ (z7 (zq ⟨wr.heap.size,0,zp⟩) a a)).heap.size=x.heap.size:=by simp[World.setCell]
 have gh:=bb.lt;have gg:2<=d:=by
  have z:=zd6 (B:=B9) (by decide) (Nat.le_mul_of_pos_right n ac);rw[<-U.out,<-a4.out] at z;omega
 have fj:=a4.out;have fh:=al.out;have ff:=aj.out;have dw:=hml0 (m:=m) (n:=n) (f:=b) ac;clear b0 dv bb es C O fc fd G d7 d8 cc ce bi fx dm d4 d5 cn f0 ah af ag cx ai U d3 e5;generalize (x.setCell ⟨w.heap.size,0,zp⟩ (z7 (zq ⟨wr.heap.size,0,zp⟩) a a)).alloc (zn #[z7 (zq ⟨wr.heap.size,0,zp⟩) a a] 74)=ap at*
 generalize x.heap.size=av at*
 generalize wr.heap.size=D at*
 have Q:d=(zaa B9 (n*b)).length:=a4.out;have fi:e=(zaa B9 (m*b)).length:=al.out;have fg:a=e+1-d:=aj.out;have K:=zak (B:=B9) (by decide) (n*b);have e7:0<(zaa B9 (n*b))[d-2+1]?.getD 0:=by
  rcases zg7 (B:=B9) (by decide) (n*b) with c|⟨ba,cl,c,fy⟩
  ·rw[c] at Q;simp at Q;omega
  ·rw[c] at Q⊢
   simp at Q;rw[show d-2+1=ba.length by omega];simp;omega
 obtain⟨o,ca⟩:=zzX (zaa B9 (n*b));rw[<-ca] at K e7 j aa Q;have f3:=hid ca;clear ca;obtain⟨u0,b9⟩:=zzX (zaa B9 (m*b)++[0]);rw[<-b9] at j aa;have e6:u0.length=e+1:=by rw[b9];simp;omega
 have f2:=hid b9;clear b9;have k:=hid j;clear j;have f4:=hid aa;have dh:a+d=e+1:=by omega
 have gj:l<u:=by omega
 have ge:a<=903:=by omega
 have ey:=hid dh;have F:=hid Q;clear Q;have cz:=hid e6;clear e6;clear a4 al aj fj fh ff fg fi ex dh bq e9 ea eb ec dl eh eg fr g7 aw fo ew dq dr g0
 refine zkt av a a (zq ⟨D,0,zp⟩) (λ_ _=>True) (λf=>f.cell? ⟨av,0,zp⟩=zq (z7 (zq ⟨D,0,zp⟩) a a)/\∃s,s.length=a/\Row f D a s) (by omega)
  (λf h=>⟨h.1,λba bq=>by
    obtain⟨s,gf,fu⟩:=h.2;exact⟨D,0,_,rfl,trivial,by rw[Nat.zero_add];exact fu.cell (getD_some (by omega))⟩⟩) rfl rfl (B:=w.heap.size) aa.below.size
  (λJ f=>∃i s,DivAt B9 u0 o a (a-J) i s/\DivW w av w.heap.size L (L+1) l q D u v (e+1) d a o i s f)
  (λ_ _ _=>False)
  (λJ f ao h dt Z=>let ⟨i,s,z,t⟩:=h;⟨i,s,z,t.kept dt Z⟩) (λ_ _ _ _ h _ _=>h)
  (λJ f h=>let ⟨i,s,z,t⟩:=h;⟨t.bb.cell,s,z.ql,t.rq⟩)
  ⟨_,_,k.out,f4.out⟩ ?a1 ?assign ?body ?done ?stop
 case stop=>exact λ_ _ _ _ _ h _=>h.elim
 case assign=>
  intro a2 r cl f g8 b1;gi_wp2;exact b1
 case body=>
  rintro a2 J r cl f gl fq ⟨i,s,j,A⟩ dt fp-
  have br:a-J=r+1:=by omega
  have ds:r<a:=by omega
  rw[br] at j;have a0:i.length=e+1:=by rw[j.ul,cz.out]
  have bs:r+o.length+1<=i.length:=by rw[a0,<-F.out];have:=ey.out;omega
  have bg:=λf fv fw=>zqy l q u v i o r (d-2) f fv fw j.us K (by have:=F.out;omega) bs (by omega) (by have:=F.out;omega) (j.below (by decide) (by omega)) e7;rw[a0,<-F.out] at bg;have et:=hid bg;clear bg;have k:=hid j;clear j;have eu:=hid br;clear br fp;have am:=hid a0;clear a0;have M:=hid bs;clear bs;have gm:=fq;have C:=A.bu.cell;have O:=A.bv.cell;gi_wp2_with (refine⟨trivial,?_⟩;gi_at_call 267;refine(CallsIn.inRound a2 (callsIn_wide.2 (et _ A.ru A.rv))).mono ?_);rintro c g9 ⟨g6,rfl,b7,R,bn⟩;have dj:=A.grow bn;have ed:=(za0 bn).from ap.heap.size;clear bn C O A;have cs:=hid b7;clear b7;have ct:=hid R;clear R;have c':=hid dj;have d1:=hid ed;clear ed dj;gi_wp2;gi_loopw [10] (λcg wr=>∃g,cg=I g/\Hid (valL B9 (i.drop r)/valL B9 o<=g)/\Hid (g<=2*B9)/\Hid (DivW w av w.heap.size L (L+1) l q D u v (e+1) d a o i s wr)/\Hid (KeepsFrom ap.heap.size f wr))
   (λcg _=>(zL cg).toNat)
  case atStart=>exact⟨g6,rfl,cs.out,ct.out,c'.out,d1.out⟩
  case round=>
   clear cs ct c' d1;obtain⟨g,rfl,b7,R,Y,fe⟩:=hrel;have y:=Y.bu;have a6:=Y.bv;have C:=y.cell;have O:=a6.cell;have ax:=y.frozen;have ch:=zyv l q i o (z7 (zq ⟨u,0,zp⟩) d v) r g wr Y.ru (λao bw=>by rw[F.out];exact(bw.row Y.rv (by omega)).sl) k.us K M (by have:=am.out;omega) (by have:=F.out;omega) R.out;rw[am.out] at ch;have f9:=hid ch;clear ch;have eo:=zej (B:=B9) (by decide) (q:=g) K r k.us (o.length+1) M.out;have el:=zoz (B:=B9) (by decide) (q:=g) k.us K M (k.below (by decide) (by have:=M.out;omega));have an:=hid eo;clear eo;have f8:=hid el;clear el;gi_wp2_with (refine⟨trivial,?_⟩;gi_at_call 268;refine(CallsIn.inRound a2 (callsIn_wide.2 f9.out)).mono ?_);rintro c fa ⟨rfl,c5,bx⟩;have b3:=Y.only bx c5 (by omega) (by omega) (by omega);have ee:=fe.trans (zke bx Y.ru ap.heap.size);clear y a6 C O ax;have y:=b3.bu;have a6:=b3.bv;have C:=y.cell;have O:=a6.cell;have ax:=y.frozen;have V:=hid b3;clear b3;have d2:=hid ee;clear ee;have cv:=hid c5;clear c5 bx;by_cases hcar:0<(zba B9 g o r i (o.length+1)).2
   ·have rs:=zsp l q (zba B9 g o r i (o.length+1)).1 o (z7 (zq ⟨u,0,zp⟩) d v) r g fa cv (λao bw=>by rw[F.out];exact(bw.row V.rv (by omega)).sl) an.2.1 K (by rw[an.1];exact M.out) (by rw[an.1];have:=am.out;omega) (by have:=F.out;omega) R.out
    rw[an.1,am.out,zwe (by decide) K k.us (o.length+1) (by have:=M.out;omega)] at rs;have f7:=hid rs;clear rs;have du:=f8.2 (by omega);have ab:decide (0<(zba B9 g o r i (o.length+1)).2)=zt:=by simpa using hcar
    have cu:=hid ((Nat.div_lt_iff_lt_mul (Nat.lt_of_le_of_lt (zR _) k.high)).2 du);clear du;rw[ab];clear ab hcar;have gn:0<g:=Nat.lt_of_le_of_lt (zR _) cu.out;gi_wp2_with (refine⟨trivial,?_⟩;gi_at_call 269;refine(CallsIn.inRound a2 (callsIn_wide.2 f7.out)).mono ?_);rintro c ga ⟨rfl,e0,bz⟩;have bm:=V.only bz e0 (by omega) (by omega) (by omega);have ef:=d2.trans (zke bz cv ap.heap.size);clear y a6 C O ax;have y:=bm.bu;have C:=y.cell;have ax:=y.frozen;have f5:=hid bm;clear bm;have f6:=hid ef;clear ef e0 bz;have go:g<=2000000000:=R.out;gi_wp2;go_roundw
    case rel=>exact⟨g-1,by show zj zm _=zj zm _;congr 1;omega,Nat.le_sub_one_of_lt cu.out,Nat.le_trans (Nat.sub_le _ _) R.out,f5.setU (by omega) (by omega) (by omega) (by omega),f6.trans ((KeepsOthers.setCell _ _ _).from _)⟩
    case measure=>simp[zL];omega
   ·have ab:decide (0<(zba B9 g o r i (o.length+1)).2)=zu:=by simpa using hcar
    have e3:=k.step (by decide) K ds M b7 (by omega);have e':=hid e3;clear e3;rw[ab];clear ab hcar;have H:=V.bq;have W:=H.cell;have gp:=V.rq.cell (getD_some (show r<s.length by rw[k.ql];exact ds));have gq:=V.rq.frozen r;gi_wp2;refine⟨d2.trans ((KeepsOthers.setCell _ _ _).from _),_,_,?_,V.setQ r g (by omega) (by omega) (by omega)⟩;rw[show a-(J+1)=r by have:=eu.out;omega];exact e'.1
 case done=>
  rintro cm f gd ⟨i,s,j,A⟩ b1;rw[Nat.sub_self] at j;have b5:=j.out;rw[f3.out,f2.out,zam (by decide),zcm,Nat.mul_zero,Nat.add_zero,zam (by decide),dw.1,dw.2] at b5;have y:=A.bu;have H:=A.bq;have C:=y.cell;have W:=H.cell;have de:=H.frozen;have e4:=A.ru.sl;have a0:i.length=e+1:=by rw[j.ul,cz.out]
  rw[a0] at e4;have S:=λao h=>zi6 (zq ⟨l,0,zp⟩) (e+1) q i ao h (by omega);rw[zbu (by decide) j.us,b5.2] at S;have f1:=hid S;clear S;have cr:=hid A;clear A;have k:=hid j;clear j;have ak:=hid b5;clear b5;have cp:=hid b1;clear b1;gi_wp2_with (refine⟨trivial,?_⟩;gi_at_call 232;refine(callsIn_wide.2 (f1 _ e4)).mono ?_);rintro c g' ⟨rfl,rfl⟩;have c8:=cr.ru.sl.trim;rw[zbu (by decide) k.us,ak.2] at c8;have dp:=bd b (by simp);have c7:=λh=>zoy (z7 (zq ⟨l,0,zp⟩) (zaa B9 (m%n*b)).length q) (zaa B9 (m%n*b)) b f h (by have:=zkn i;rw[zbu (by decide) k.us,ak.2] at this;omega) (zak (by decide) _) ac dp;rw[zam (by decide),Nat.mul_div_cancel _ ac] at c7;have cw:=hid (c7 c8);clear c7 c8 dp;gi_wp2_with (refine⟨trivial,?_⟩;gi_at_call 265;refine(callsIn_wide.2 cw.out).mono ?_);clear cw;rintro c er ⟨gw,gx,rfl,c6,e2,bh⟩;have b2:=cr.grow bh;have df:=(bh.block cm (Array.getElem?_eq_some_iff.1 cp.out).1).trans cp.out;obtain⟨g4,c1,aw, -⟩:=id c6;obtain⟨gu,c2,dc, -⟩:=id e2;generalize (List.map I (zaa B9 (m%n))).length=g3 at aw;generalize (List.map I (zaa B9 (m%n*b%b))).length=gt at dc;subst aw dc;have ez:=hid c6;clear c6 e2 y H C W de bh;have b':=b2.rq.sl;have dz:=k.ql;rw[dz] at b';have S:=zi6 (zq ⟨D,0,zp⟩) a a s er b' (by omega);rw[zbu (by decide) k.qs,ak.1] at S;have cy:=hid S;clear S b' dz;have H:=b2.bq;have W:=H.cell;have de:=H.frozen;have d0:=hid b2;clear b2
  have ev:=hid df;clear df;gi_wp2_with (refine⟨trivial,?_⟩;gi_at_call 232;refine(callsIn_wide.2 cy.out).mono ?_);rintro c gz ⟨rfl,rfl⟩;clear cy;gi_wp2;have a9:=(KeepsOthers.setCell er ⟨w.heap.size,0,zp⟩ (z7 (zq ⟨D,0,zp⟩) (zaa B9 (m/n)).length a)).same cm _ ev rfl;refine⟨by simp,.inl ⟨_,_,rfl,run_takeDeferred a9,?_⟩⟩;have fm:=(zbk a9).cell (za9 W);have ad:=d0.rq.sl;rw[k.ql] at ad;have ad:=Sl.trim (l:=s) (by rw[k.ql];exact ad);rw[zbu (by decide) k.qs,ak.1] at ad
  exact⟨ze #[z7 (zq ⟨D,0,zp⟩) (zaa B9 (m/n)).length a,z7 g4 g3 c1],by simp[results,Tryz.f228,go_sem,fm],_,_,rfl,(zbk a9).sl (ad.box W _),(zbk a9).sl (ez.box W _),
   zby (d0.below.setCell (p:=⟨w.heap.size,0,zp⟩) (by simp) _) (by have:=aa.below.size;omega) a9⟩
theorem znf (a b:Value) (m n:Nat) (w:zA) (ha:Sl w a ((zaa B9 m).map I)) (d:Sl w b ((zaa B9 n).map I)) (h:(zaa B9 m).length<=900) (i:(zaa B9 n).length<=900) (g:n≠0):
 zC zF 228 #[a,b] w (zju w (m/n) (m%n)):=by
 rcases Nat.lt_or_ge m n with c|c
 ·exact zsq a b m n w ha d (by omega) (by omega) c
 ·have j:(zaa B9 n).length≠0:=λf=>g ((zbd (by decide) n).1 (List.length_eq_zero_iff.1 f))
  rcases Nat.lt_or_ge (zaa B9 n).length 2 with e|e
  ·exact zur a b m n w ha d (by omega) (by omega) c
  ·exact zss a b m n w ha d h i e c
end
namespace Limb
open Go.Lib Str
def digL (l:List UInt8):List Nat:=(l.map λc=>c.toNat-48).reverse
theorem zmr:∀(l:List UInt8) (a:Nat),l.foldl (λa c=>10*a+(c.toNat-48)) a=valL 10 (digL l)+10^l.length*a
 |[],a=>by simp[digL,valL]
 |c::r,a=>by
  rw[List.foldl_cons,zmr r];unfold digL;rw[List.map_cons,List.reverse_cons,zcm];simp only[List.length_reverse,zV,yA,yO,yZ];rw[Nat.mul_assoc];omega
theorem zyx (n:Nat):valL 10 (digL (zD n))=n:=by
 have:=zmr (zD n) 0;rw[Nat.mul_zero,Nat.add_zero] at this;rw[<-this];exact zb2 n
theorem zfi (l:List UInt8):(digL l).length=l.length:=by simp[digL]
theorem zfz {l:List UInt8} (h:∀c∈l,48<=c.toNat/\c.toNat<=57):zal 10 (digL l):=by
 intro d a;simp only[digL,List.mem_reverse,List.mem_map] at a;obtain⟨c,b,rfl⟩:=a;have:=h c b;omega
theorem z07 (l:List UInt8) (i:Nat) (h:i<l.length):(digL l)[i]?.getD 0=(l[l.length-1-i]'(by omega)).toNat-48:=by
 unfold digL;rw[List.getElem?_reverse (by simpa using h)];simp[show l.length-1-i<l.length by omega]
def zb8 (p:Nat) (ds:List Nat) (m:Nat):Nat->List Nat
 |0=>List.replicate m 0
 |k+1=>(zb8 p ds m k).set (k/p) ((zb8 p ds m k)[k/p]?.getD 0+ds[k]?.getD 0*10^(k%p))
theorem zpu (p k:Nat):(10^p)^(k/p)*10^(k%p)=10^k:=by
 rw[<-Nat.pow_mul,<-Nat.pow_add,Nat.div_add_mod]
theorem zyy {p k:Nat} (b:0<p):((k+1)/p=k/p/\(k+1)%p=k%p+1/\k%p+1<p)\/((k+1)/p=k/p+1/\(k+1)%p=0/\k%p+1=p):=by
 have d:=Nat.div_add_mod k p;have e:=Nat.mod_lt k b;by_cases h:k%p+1<p
 ·left
  have a:k+1=(k%p+1)+p*(k/p):=by omega
  refine⟨?_,?_,h⟩
  ·rw[a,Nat.add_mul_div_left _ _ b,Nat.div_eq_of_lt h,Nat.zero_add]
  ·rw[a,Nat.add_mul_mod_self_left,zQ h]
 ·right
  have c:k%p+1=p:=by omega
  have a:k+1=p*(k/p+1):=by rw[yZ,Nat.mul_one];omega
  refine⟨?_,?_,c⟩
  ·rw[a,Nat.mul_div_cancel_left _ b]
  ·rw[a,Nat.mul_mod_right]
theorem zgp {p:Nat} (b:0<p) {a:List Nat} (f:zal 10 a) {m:Nat} (o:a.length<=p*m):∀k,k<=a.length->
 (zb8 p a m k).length=m/\zal (10^p) (zb8 p a m k)/\valL (10^p) (zb8 p a m k)=valL 10 (a.take k)/\(zb8 p a m k)[k/p]?.getD 0<10^(k%p)/\∀i,k/p<i->(zb8 p a m k)[i]?.getD 0=0
 |0,_=>by
  have h:∀i,(List.replicate m 0)[i]?.getD 0=0:=λi=>by rw[List.getElem?_replicate];split<;>rfl
  refine⟨by simp[zb8],λA g=>?_,?_,?_,λi _=>h i⟩
  ·simp only[zb8,List.mem_replicate] at g
   rw[g.2];exact Nat.pow_pos (by omega)
  ·rw[List.take_zero];exact zgd _ _
  ·show(List.replicate m 0)[_]?.getD 0<_
   rw[h];exact Nat.pow_pos (by omega)
 |k+1,x=>by
  obtain⟨j,l,n,u,e⟩:=zgp b f o k (by omega);have y:k/p<m:=by rw[Nat.div_lt_iff_lt_mul b,yP];omega
  have v:=zaj f (by omega) k;have t:=zgc (10^p) (zb8 p a m k) (k/p) ((zb8 p a m k)[k/p]?.getD 0+a[k]?.getD 0*10^(k%p)) (by omega);have r:=zpu p k;have s:=zbo a k 10;have q:(zb8 p a m k)[k/p]?.getD 0+a[k]?.getD 0*10^(k%p)<10^(k%p+1):=by
   rw[yO];have:=Nat.mul_le_mul_right (10^(k%p)) (show a[k]?.getD 0<=9 by omega);omega
  have z:10^(k%p+1)<=10^p:=yF (by omega) (Nat.mod_lt _ b);refine⟨by simp[zb8,j],zfm l _ (by omega),?_,?_,?_⟩
  ·show valL (10^p) ((zb8 p a m k).set _ _)=_
   rw[s,<-n,<-r];rw[yZ] at t;have:(10^p)^(k/p)*(a[k]?.getD 0*10^(k%p))=(10^p)^(k/p)*10^(k%p)*a[k]?.getD 0:=by
    rw[Nat.mul_assoc,yP (a[k]?.getD 0)]
   omega
  ·show((zb8 p a m k).set _ _)[_]?.getD 0<_
   rcases zyy (k:=k) b with⟨c,d,_⟩|⟨c,d,_⟩
   ·rw[c,d,List.getElem?_set_self (by omega)];exact q
   ·rw[c,d,List.getElem?_set_ne (by omega),e _ (by omega)];exact Nat.pow_pos (by omega)
  ·intro i w
   show((zb8 p a m k).set _ _)[_]?.getD 0=_;have:k/p<=(k+1)/p:=Nat.div_le_div_right (by omega);rw[List.getElem?_set_ne (by omega),e _ (by omega)]
theorem zus {p:Nat} (c:0<p) (n m:Nat) (d:(zD n).length<=p*m):zat (zb8 p (digL (zD n)) m (zD n).length)=zaa (10^p) n:=by
 obtain⟨e,b,a, -⟩:=zgp c (zfz (zan n)) (m:=m) (by rw[zfi];exact d) (digL (zD n)).length (zN _);rw[List.take_length,zyx] at a;rw[zfi] at b a;rw[zbu (Nat.le_trans (show 2<=10^1 by omega) (yF (by omega) c)) b,a]
def padD:Nat->Nat->List UInt8
 |0,_=>[]
 |k+1,x=>padD k (x/10)++[UInt8.ofNat (48+x%10)]
theorem zph:∀k x,(padD k x).length=k
 |0,_=>rfl
 |k+1,x=>by simp[padD,zph k]
theorem ztt:∀(k y x:Nat),0<y->x<10^k->zD (10^k*y+x)=zD y++padD k x
 |0,y,x,b,a=>by simp at a;subst a;simp[padD]
 |k+1,y,x,b,a=>by
  have c:10^(k+1)*y+x=10*(10^k*y+x/10)+x%10:=by
   rw[yO,yP (10^k) 10,yZ,Nat.mul_assoc];omega
  have d:x/10<10^k:=by rw[yO] at a;omega
  have e:0<10^k*y:=Nat.mul_pos (Nat.pow_pos (by omega)) b;rw[c,zi4 (by omega) (by omega),ztt k y _ b d,padD,yL]
theorem zo1:∀k,padD k 0=List.replicate k 48
 |0=>rfl
 |k+1=>by
  rw[padD,Nat.zero_div,zo1 k,List.replicate_succ'];rfl
theorem zjv:∀(k x:Nat),0<k->x<10^k->padD k x=List.replicate (k-(zD x).length) 48++zD x
 |k+1,x,_,b=>by
  rw[padD];by_cases a:x<10
  ·rw[zae a,Nat.div_eq_of_lt a,zo1,zQ a];simp
  ·rw[zav (by omega)]
   have d:x/10<10^k:=by rw[yO] at b;omega
   have c:0<k:=by
    rcases xD k with rfl|a
    ·simp at b;omega
    ·exact a
   rw[zjv k (x/10) c d,zU,List.length_singleton,show k+1-((zD (x/10)).length+1)=k-(zD (x/10)).length by omega,yL]
theorem zut {p:Nat} {l:List Nat} (c:zal (10^p) l) (k:Nat) (a:k<l.length) (b:0<valL (10^p) (l.drop (k+1))):
 zD (valL (10^p) (l.drop k))=zD (valL (10^p) (l.drop (k+1)))++padD p (l[k]?.getD 0):=by
 rw[zdu l k _ a,Nat.add_comm,ztt p _ _ b (c _ (List.getElem_mem a))];simp[a]
theorem zpv {B:Nat} (c:2<=B) {n k:Nat} (a:k<(zaa B n).length):0<valL B ((zaa B n).drop k):=by
 rcases zg7 c n with b|⟨d,e,b,f⟩
 ·rw[b] at a;simp at a
 ·rw[b] at a⊢
  rw[zU,List.length_singleton] at a;rw[List.drop_append_of_le_length (by omega),zcm];have:0<B^(d.drop k).length*e:=Nat.mul_pos (Nat.pow_pos (by omega)) (by omega);omega
end Limb
section
open Go.RowKit Lib Str
theorem zhx {x:Int} (h:0<=x):Lib.hasPrefix (zE x) [45]=zu:=by
 obtain⟨b,f,c,a,_⟩:=dec_head x.natAbs;rcases zbg x with⟨_,d⟩|⟨e,_⟩
 ·rw[d,c]
  have:b≠45:=λh=>by rw[h] at a;simp at a
  simp only[Lib.hasPrefix,List.isPrefixOf,Bool.and_true];exact beq_eq_false_iff_ne.2 (Ne.symm this)
 ·omega
theorem zkf {x:Int} (h:x<0):Lib.hasPrefix (zE x) [45]=zt:=by
 rcases zbg x with⟨b,_⟩|⟨_,a⟩
 ·omega
 ·rw[a];simp[Lib.hasPrefix]
theorem zdx (x:Int):Lib.hasPrefix (zE x) [45]=decide (x<0):=by
 by_cases h:x<0
 ·rw[zkf h];simp[h]
 ·rw[zhx (by omega)];simp[h]
theorem zbi (x:Int):Lib.trimPrefix (zE x) [45]=zD x.natAbs:=by
 unfold Lib.trimPrefix;rcases zbg x with⟨h,e⟩|⟨h,e⟩
 ·rw[zhx h,e];simp
 ·rw[zkf h,e];simp
theorem zkg {α:Type} (p:α->Bool):∀l:List α,(∀x∈l,p x=zt)->l.dropWhile p=[]
 |[],_=>rfl
 |a::r,h=>by rw[List.dropWhile_cons,if_pos (h a (by simp))];exact zkg p r λx b=>h x (by simp[b])
theorem zku (l:List UInt8) (h:∀c∈l,48<=c.toNat/\c.toNat<=57):Lib.trimS l [48,49,50,51,52,53,54,55,56,57]=[]:=by
 have e:∀c∈l,([48,49,50,51,52,53,54,55,56,57]:List UInt8).contains c=zt:=by
  intro c b;obtain⟨g,i⟩:=h c b;obtain⟨a,f,rfl⟩:∃a,a<10/\c=UInt8.ofNat (48+a):=⟨c.toNat-48,by omega,by rw[show 48+(c.toNat-48)=c.toNat by omega];exact UInt8.ofNat_toNat.symm⟩;have:∀a:Fin 10,([48,49,50,51,52,53,54,55,56,57]:List UInt8).contains (UInt8.ofNat (48+a.val))=zt:=by decide
  exact this ⟨a,f⟩
 have d:l.reverse.dropWhile (([48,49,50,51,52,53,54,55,56,57]:List UInt8).contains ·)=[]:=
  zkg _ _ λc b=>e c (List.mem_reverse.1 b)
 unfold trimS trimRightS trimLeftS;rw[d];rfl
theorem zkv {n:Nat} {c:UInt8} {r:List UInt8} (h:zD n=c::r) (a:(c.toNat:Int)=48):n=0:=
 zmm n (by rw[h];have:c=48:=UInt8.toNat_inj.1 (by simp;omega);rw[this];rfl)
theorem ba0 (c:UInt8) (r:List UInt8) (h:0<(⟨(c::r).toArray⟩:ByteArray).size):(⟨(c::r).toArray⟩:ByteArray)[0]'h=c:=rfl
theorem zst (x:Int) (y:x≠0) (o:digs x<=300) (_:digs x<=1000000) (w:zA):
 qJ 229 #[St (zE x)] w (zj zm 0):=by
 have e:=zbi x;have f:=zku _ (zan x.natAbs);have c:digs x=(zD x.natAbs).length:=rfl;obtain⟨d,h,g,r,s⟩:=dec_head x.natAbs;have i:(d.toNat:Int)≠48:=λl=>by have:=zkv g l;omega
 rw[g] at e f c;obtain⟨a,b⟩:=zzX (⟨(d::h).toArray⟩:ByteArray);have p:a.size=h.length+1:=by rw[b];show(d::h).toArray.size=_;simp
 have m:0<a.size:=by omega
 have v:a.toList.isEmpty=zu:=by rw[ByteArray.toList_eq,b];simp
 have i:(((a[0]'m).toNat:Int)==48)=zu:=by
  rw[beq_eq_false_iff_ne];subst b;exact i
 have t:(a.size:Int)<=300:=by simp at c;omega
 have u:(a.size:Int)<=1000000:=by simp at c;omega
 have j:Hid (⟨(trimPrefix (zE x) [45]).toArray⟩=a):=hid (by rw[e,b]);have k:Hid (trimS a.data.toList [48,49,50,51,52,53,54,55,56,57]=[]):=hid (by rw[b];exact f);clear e f c g o b p;go_enter Tryz.func229,Tryz.ntmps229;go_wp21;refine(Tryz.strings_TrimPrefix _ _ _).mono ?_;rintro q z ⟨rfl,rfl⟩;simp only[j.out];go_wp21;refine zzM (Tryz.Trim_ascii a ⟨#[48,49,50,51,52,53,54,55,56,57]⟩ _ (by omega) (by decide) (ascii_of_all (by decide))) λA n=>?_;simp only[k.out];go_wp21;go_ret;exact⟨rfl,n⟩
theorem zq0 (x:Int) (z:x≠0) (o:300<digs x) (p:digs x<=1000000) (w:zA):
 qJ 229 #[St (zE x)] w (zj zm 4):=by
 have e:=zbi x;have f:=zku _ (zan x.natAbs);have c:digs x=(zD x.natAbs).length:=rfl;obtain⟨d,h,g,s,t⟩:=dec_head x.natAbs;have i:(d.toNat:Int)≠48:=λl=>by have:=zkv g l;omega
 rw[g] at e f c;obtain⟨a,b⟩:=zzX (⟨(d::h).toArray⟩:ByteArray);have q:a.size=h.length+1:=by rw[b];show(d::h).toArray.size=_;simp
 have m:0<a.size:=by omega
 have y:a.toList.isEmpty=zu:=by rw[ByteArray.toList_eq,b];simp
 have i:(((a[0]'m).toNat:Int)==48)=zu:=by
  rw[beq_eq_false_iff_ne];subst b;exact i
 have u:300<(a.size:Int):=by simp at c;omega
 have v:(a.size:Int)<=1000000:=by simp at c;omega
 have j:Hid (⟨(trimPrefix (zE x) [45]).toArray⟩=a):=hid (by rw[e,b]);have k:Hid (trimS a.data.toList [48,49,50,51,52,53,54,55,56,57]=[]):=hid (by rw[b];exact f);clear e f c g o p b q;go_enter Tryz.func229,Tryz.ntmps229;go_wp21;refine(Tryz.strings_TrimPrefix _ _ _).mono ?_;rintro r A ⟨rfl,rfl⟩;simp only[j.out];go_wp21;refine zzM (Tryz.Trim_ascii a ⟨#[48,49,50,51,52,53,54,55,56,57]⟩ _ (by omega) (by decide) (ascii_of_all (by decide))) λB n=>?_;simp only[k.out];go_wp21;go_ret;exact⟨rfl,n⟩
theorem zuu (w:zA):
 qJ 229 #[z8 ⟨#[48]⟩] w (zj zm 0):=by
 have a:Lib.trimPrefix [48] [45]=[48]:=by decide
 have b:Lib.trimS [48] [48,49,50,51,52,53,54,55,56,57]=[]:=by decide
 have c:=hid a;clear a;have d:=hid b;clear b;go_enter Tryz.func229,Tryz.ntmps229;go_wp21;refine(Tryz.strings_TrimPrefix _ _ _).mono ?_;rintro f g ⟨rfl,rfl⟩;simp only[c.out];go_wp21;refine zzM (Tryz.Trim_ascii ⟨#[48]⟩ ⟨#[48,49,50,51,52,53,54,55,56,57]⟩ _ (by decide) (by decide) (ascii_of_all (by decide))) λh e=>?_;simp only[d.out];go_wp21;go_ret;exact⟨rfl,e⟩
theorem zwl:digs 0=1:=by unfold digs;rw[show(0:Int).natAbs=0 from rfl,zdj];rfl
theorem zq1 (x:Int) (a:digs x<=1000000) (w:zA):
 qJ 229 #[St (zE x)] w (zj zm (if digs x<=300 then 0 else 4)):=by
 by_cases h0:x=0
 ·subst h0
  rw[zwl,if_pos (by decide),zb9];exact zuu w
 ·by_cases hl:digs x<=300
  ·rw[if_pos hl];exact zst x h0 hl a w
  ·rw[if_neg hl];exact zq0 x h0 (by omega) a w
theorem zl4 (x:Int) (h:digs x<=300) (w:zA):
 qJ 229 #[St (zE x)] w (zj zm 0):=by
 have:=zq1 x (by omega) w;rw[if_pos h] at this;exact this
theorem zdh (x y:Int) (b:digs x<=300) (hy:digs y<=300) (w:zA):
 qJ 187 #[St (zE x),St (zE y)] w (zj zm 0):=by
 have c1:=hid b;clear b;have c2:=hid hy;clear hy;go_enter Tryz.func187,Tryz.ntmps187;go_wp21;refine zzM (zl4 x c1 _) λd a=>?_;go_wp21;refine zzM (zl4 y c2 _) λe c=>?_;go_wp21;go_ret;exact⟨rfl,a.trans (c.mono a.size)⟩
theorem zdy (x y:Int) (b:(zE x).length<=18) (hy:(zE y).length<=18) (w:zA):
 qJ 188 #[St (zE x),St (zE y),zj zm 18] w (ze #[zj zm x,zj zm y,zg zt]):=by
 have d:decide (18<((zE x).length:Int))=zu:=by simp;omega
 have e:decide (18<((zE y).length:Int))=zu:=by simp;omega
 have c1:=hid b;clear b;have c2:=hid hy;clear hy;go_enter Tryz.func188,Tryz.ntmps188;go_wp21;refine zzM (znc x c1 _) λf a=>?_;go_wp21;refine zzM (znc y c2 _) λg c=>?_;go_wp21;go_quiet (fail);go_wp21;go_ret3;exact⟨rfl,below_drewN (a.trans (c.mono a.size)) _⟩
theorem ze8 (x y:Int) (h:18<(zE x).length\/18<(zE y).length) (w:zA):
 zC zF 188 #[St (zE x),St (zE y),zj zm 18] w λe w'=>e=zo (ze #[zj zm 0,zj zm 0,zg zu])/\w=w':=by
 by_cases hx:(zE x).length<=18
 ·have a:decide (18<((zE x).length:Int))=zu:=by simp;omega
  have b:decide (18<((zE y).length:Int))=zt:=by simp;omega
  clear hx h;go_enter Tryz.func188,Tryz.ntmps188;go_wp21;go_ret3;exact⟨rfl,rfl⟩
 ·have a:decide (18<((zE x).length:Int))=zt:=by simp;omega
  clear hx h;go_enter Tryz.func188,Tryz.ntmps188;go_wp21;go_ret3;exact⟨rfl,rfl⟩
end
section
open Go
variable {P:Program} {ops:Array Oper}
structure SQ (P:Program) (ops:Array Oper) (w:zA) (Q:Act->Prop) (l:List Oper) (a:Act):Prop where
 out:wpStill P ops w Q l a
theorem SQ.read {w:zA} {Q:Act->Prop} {a:Act} {o:Oper} {b:List Oper} {v:Value} (hw:Region.wanted o (yielded ops a.tmps)=zt)
 (hy:(execOp a.eval o).run P w=.ok (.value v) w) (h:SQ P ops w Q b (a.put o.dst v)):SQ P ops w Q (o::b) a:=⟨by
 simp only[wpStill,hw,if_true]
 unfold Oper.still
 rw[hy]
 exact⟨rfl,h.out⟩⟩
theorem SQ.nil {w:zA} {Q:Act->Prop} {a:Act} (h:Q a):SQ P ops w Q [] a:=⟨wpStill_nil h⟩
theorem ztu {l m i:Nat} {Q:Exit->Act->zA->Prop} {a:Act} {w:zA} {b:List Oper} (n:Nat) (f:P.follows .mixedOrders=zt) (d:Region.lexTailB .any b.toArray n=zt) (g:zhj b.toArray=zt)
 (h:SQ P b.toArray w.drew (λc=>wpList P b.toArray (λe a w=>e=.normal/\Q .normal a w) (b.drop n) c w.drew) (b.take n) a):(Code.region i b.toArray zt).wpIn (Fence.wide.inRound l) m P Q a w:=zis n f d g h.out
theorem zey {t:Nat} {Q:Exit->Act->zA->Prop} {a:Act} {w:zA} {b:List Oper} (n:Nat) (S:zA->Prop) (q:P.follows .mixedOrders=zt)
 (g:(Region.noSelect b.toArray&&decide (n<b.length)&&zi7 b.toArray n 0 (Array.replicate b.length zu)&&Region.seqB .any b.toArray (b.length-n) n (zjs n 0 (Array.replicate b.length zu)))=zt)
 (m:S w.drew)
 (h:zex P b.toArray S (λd=>zdw P b.toArray (λe a w=>e=.normal/\Q .normal a w) S (b.drop n) d w.drew) (b.take n) a):
 (Code.region t b.toArray zt).wp P Q a w:=by
 simp only[Bool.and_eq_true,decide_eq_true_eq] at g;obtain⟨⟨⟨r,x⟩,p⟩,s⟩:=g;have c:(b.take n).length=n:=by simp;omega
 have i:(b.drop n).length=b.length-n:=by simp
 refine wp_mono (Q:=λe a w=>e=.normal/\Q .normal a w) (wp_region_any q (wpAny_of_held _ _ _ _ (S:=S) ?_)) (λe a w h=>by obtain⟨rfl,h⟩:=h;exact h)
 have f:=zko (P:=P) (ops:=b.toArray) (S:=S) (Q:=λe a w=>e=.normal/\Q .normal a w) r (λv a u w h=>absurd h.1 (by intro e;cases e)) m (b.length-n) (b.take n) 0 (Array.replicate b.length zu) a
  (λk j=>by have o:k<n:=by rw[c] at j;exact j
            simp[o]) (by rw[c];exact p) (by
    rw[c];refine zhv ?_ _ _ h;intro d l;have:=zkp (P:=P) (ops:=b.toArray) (Q:=λe a w=>e=.normal/\Q .normal a w) (S:=S) (b.drop n) n _ d _ (λk=>by simp[List.getElem?_drop]) (by rw[i];exact s) l;rwa [i] at this)
 rw[c,show n+(b.length-n)=b.length by omega] at f;simpa using f
def zjw (ops:Array Oper):List (Nat×Bool)->Array Bool->Bool
 |[],listed=>(Region.ready .any ops listed).isEmpty
 |(k,zt)::r,listed=>Region.free .any ops listed k&&(Region.ready .any ops listed).contains k&&zjw ops r (listed.setIfInBounds k zt)
 |(k,zu)::r,listed=>decide (Region.ready .any ops listed=[k])&&zjw ops r (listed.setIfInBounds k zt)
def zlp (P:Program) (ops:Array Oper) (Q:Exit->Act->zA->Prop) (S:zA->Prop):List (Nat×Bool)->Act->zA->Prop
 |[],a,w=>Q .normal a w
 |(k,zt)::r,a,w=>∃o v,ops[k]? =zq o/\YieldsIf P ops S o v a/\zlp P ops Q S r (a.put o.dst v) w
 |(k,zu)::r,a,w=>∃o,ops[k]? =zq o/\if Region.wanted o (yielded ops a.tmps) then o.wp P a w (λa' w'=>S w'/\zlp P ops Q S r a' w') Q else S w/\zlp P ops Q S r (a.put o.dst undef) w
theorem zof {S:zA->Prop} {Q:Exit->Act->zA->Prop} (k:Region.noSelect ops=zt) (j:∀c a b w,Q (.panic c) a w->Q (.panic c) b w):
 ∀(l:List (Nat×Bool)) (f:Array Bool) (a:Act) (w:zA),zjw ops l f=zt->S w->zlp P ops Q S l a w->wpAnyH P .any ops Q S l.length f a w
 |[],f,a,w,e,_,d=>⟨by simpa [zjw] using e,d⟩
 |(n,zt)::r,f,a,w,e,hS,⟨o,v,ho,hy,d⟩=>by
  simp only[zjw,Bool.and_eq_true] at e;exact wpAnyH_take ho k e.1.1 e.1.2 (λc a w d=>j c _ _ w d) hy hS (zof k j r _ _ _ e.2 hS d)
 |(n,zu)::r,f,a,w,e,hS,⟨o,ho,d⟩=>by
  simp only[zjw,Bool.and_eq_true,decide_eq_true_eq] at e;refine wpAnyH_all e.1 (by simp) λm p=>?_;obtain rfl:m=n:=by simpa using p
  have q:∀h g,(S g/\zlp P ops Q S r h g)->(S g/\wpAnyH P .any ops Q S r.length (f.setIfInBounds m zt) h g):=λh g i=>⟨i.1,zof k j r _ _ _ e.2 i.1 i.2⟩;refine wpOp_mono q ?_;unfold wpOp;simp only[ho];by_cases hw:Region.wanted o (yielded ops a.tmps)=zt
  ·simp only[hw,if_true] at d⊢;exact .inl d
  ·simp only[hw,Bool.false_eq_true,if_false] at d⊢;exact d
structure MQ (P:Program) (ops:Array Oper) (Q:Exit->Act->zA->Prop) (S:zA->Prop) (l:List (Nat×Bool)) (a:Act) (w:zA):Prop where
 out:zlp P ops Q S l a w
section
variable {Q:Exit->Act->zA->Prop} {S:zA->Prop} {r:List (Nat×Bool)} {a:Act} {w:zA} {k:Nat} {o:Oper} {v:Value}
theorem MQ.nil (h:Q .normal a w):MQ P ops Q S [] a w:=⟨h⟩
theorem MQ.take (b:ops[k]? =zq o) (hw:Region.wanted o (yielded ops a.tmps)=zt) (hy:∀w,S w->(execOp a.eval o).run P w=.ok (.value v) w) (h:MQ P ops Q S r (a.put o.dst v) w):MQ P ops Q S ((k,zt)::r) a w:=
 ⟨o,v,b,.inl ⟨hw,hy⟩,h.out⟩
theorem MQ.only (f:ops[k]? =zq o) (hw:Region.wanted o (yielded ops a.tmps)=zt)
 (h:∀c:Act->zA->Prop,(∀b w',S w'->MQ P ops Q S r b w'->c b w')->o.wp P a w c Q):MQ P ops Q S ((k,zu)::r) a w:=
 ⟨o,f,by simp only[hw,if_true];exact h _ λb w' d e=>⟨d,e.out⟩⟩
end
theorem zwm {k:Nat} {Q:Exit->Act->zA->Prop} {a:Act} {w:zA} {ops:Array Oper} (l:List (Nat×Bool)) (S:zA->Prop) (f:P.follows .mixedOrders=zt)
 (c:(Region.noSelect ops&&decide (l.length=ops.size)&&zjw ops l (Array.replicate ops.size zu))=zt) (d:S w.drew)
 (h:MQ P ops (λe a w=>e=.normal/\Q .normal a w) S l a w.drew):(Code.region k ops zt).wp P Q a w:=by
 simp only[Bool.and_eq_true,decide_eq_true_eq] at c;obtain⟨⟨j,g⟩,i⟩:=c;refine wp_mono (Q:=λe a w=>e=.normal/\Q .normal a w) (wp_region_any f (wpAny_of_held _ _ _ _ (S:=S) ?_)) (λe a w h=>by obtain⟨rfl,h⟩:=h;exact h);have b:=zof (P:=P) j (λn a m w h=>absurd h.1 (by intro e;cases e)) l _ _ _ i d h.out;rw[g] at b;exact b
end
section
open Go.RowKit Go.Shelf Lib Str Limb
attribute [local go_sem] Oper.semAt_some
theorem zuv (s:ByteArray) (w:zA):
 zC zF 231 #[z8 s] w λe w'=>e=zo (.func (.func 273) #[] #[zf (zq ⟨w.heap.size,0,zp⟩)])/\w.alloc (zn #[z8 s] 9)=w':=by
 go_enter Tryz.func231,Tryz.ntmps231;go_wp2;go_ret;exact⟨rfl,rfl⟩
theorem zng (l:List UInt8) (i:Nat) (h:i<(⟨l.toArray⟩:ByteArray).size) (a:i<l.length):(⟨l.toArray⟩:ByteArray)[i]'h=l[i]'a:=rfl
theorem zyz (l:List UInt8) (h:∀c∈l,48<=c.toNat/\c.toNat<=57) (a:ByteArray) (d:a=⟨l.toArray⟩) (k:Nat) (g:k<l.length) (b:a.size-1-k<a.size):
 ((a[a.size-1-k]'b).toNat:Int)=(((digL l)[k]?.getD 0:Nat):Int)+48/\(digL l)[k]?.getD 0<10:=by
 have e:=z07 l k g;have i:a.size=l.length:=by rw[d];show l.toArray.size=_;simp
 have f:a[a.size-1-k]'b=l[l.length-1-k]'(by omega):=by
  subst d;rw[zng l _ b (by omega)];simp only[i]
 have:=h _ (List.getElem_mem (show l.length-1-k<l.length by omega));rw[f,e];omega
theorem zwn (f:Nat) (l:List UInt8) (B:∀c∈l,48<=c.toNat/\c.toNat<=57) (C:l.length<=100000) (g:zA->Prop) (d:∀a,g a->a.cell? ⟨f,0,zp⟩=zq (St l)):
 IterC Fence.wide 2 zF 273 #[zf (zq ⟨f,0,zp⟩)] g (λk args=>args= #[I k,I ((digL l)[k]?.getD 0)]) l.length:=by
 intro N y E a i _ j o;obtain⟨b,e⟩:=zzX (⟨l.toArray⟩:ByteArray);have r:l.length=b.size:=by rw[e];show _=l.toArray.size;simp
 have m:=λk=>zyz l B b e k;rw[r] at m C j⊢;change ∀a,g a->a.cell? ⟨f,0,zp⟩=zq (z8 ⟨l.toArray⟩) at d;rw[<-e] at d;have A:=d a (i 0 a o);have w:=hid d;clear d;have x:=hid j;clear j;have u:=hid i;clear i;have s:=hid m;clear m;clear e r;refine callsIn_of_wp Tryz.func273 rfl trivial ?_ rfl;simp only[Tryz.ntmps273,zZ,yA,yT,Nat.reduceAdd,Nat.reduceSub,yU,yV,yW,yX,yI,yM];gi_wp2;gi_loopw [6] (λn wr=>∃(k:Nat),k<=b.size/\n=zj zm (k:Int)/\Hid (y k wr))
  (λn _=>b.size-(zL n).toNat)
 case atStart=>exact⟨0,zR _,rfl,o⟩
 case round=>
  clear A;obtain⟨k,L,rfl,h⟩:=hrel;by_cases hlt:k<b.size
  ·have K:=w wr (u k wr h.out)
   have D:b.size-1-k<b.size:=by omega
   obtain⟨H,J⟩:=s k hlt D;obtain⟨fn,tmps,assign,body,M,z⟩:=x k _ wr h hlt rfl;gi_wp2;refine z.mono ?_;rintro G F (⟨rfl,p⟩|⟨rfl,q⟩)
   ·have t:=hid p;clear p
    gi_wp2;go_roundw
    case rel=>exact⟨k+1,by omega,by go_num,t.out⟩
    case measure=>simp[zL];omega
   ·have v:=hid q;clear q
    gi_wp2;refine bodyPost_ret (results_none rfl _ _ _) rfl ?_;exact⟨⟨_,rfl⟩,.inr v.out⟩
  ·obtain rfl:k=b.size:=by omega
   gi_wp2;go_end0;exact⟨⟨_,rfl⟩,.inl h.out⟩
theorem zsu {g:Operand} {q:Array Tmp} {assign body:Code} {Q:Exit->Act->zA->Prop} {a:Act} {w:zA}
 (o:Nat) (l:List UInt8) (r:∀c∈l,48<=c.toNat/\c.toNat<=57) (L:l.length<=100000)
 (K:a.eval g=.func (.func 273) #[] #[zf (zq ⟨o,0,zp⟩)]) (M:q.size=2)
 {B:Nat} (z:B<=w.heap.size) (e:Nat->zA->Prop) (i:Code->Nat->zA->Prop) (A:∀k b h,e k b->CellsKept b h->zB B b h->e k h) (C:∀c k b h,i c k b->CellsKept b h->zB B b h->i c k h)
 (F:∀k b,e k b->b.cell? ⟨o,0,zp⟩=zq (St l)) (s:e 0 w) (a₁:Nat->Nat->Act)
 (G:∀(f k d:Nat) (b:zA) (m:Act->zA->Prop),m (a₁ k d) b->
   assign.wpIn (Fence.wide.inRound f) 1 zF (Exit.then m (λ_ _ _=>False)) {tmps:=(q.zip #[I k,I d]).foldl (λt (p,v)=>t.setIfInBounds p v) a.tmps,defers:=[]} b)
 (H:∀(f k d:Nat) (b:zA),w.heap.size<=f->e k b->k<l.length->d=(digL l)[k]?.getD 0->d<10->body.wpIn (Fence.wide.inRound f) 1 zF (zja w.heap.size e i k b) (a₁ k d) b)
 (J:∀(D:Nat) (b:zA),w.heap.size<=D->e l.length b->b.heap[D]? =zq (.deferred (zq []))->Q .normal {a with defers:={target:=.collected D,args:= #[]}::a.defers} b)
 (N:∀(D:Nat) (c:Code) (k:Nat) (b:zA),w.heap.size<=D->i c k b->b.heap[D]? =zq (.deferred (zq []))->c.wpIn Fence.wide 3 zF Q {a with defers:={target:=.collected D,args:= #[]}::a.defers} b):
 (Code.rangeFunc g q assign body).wpIn Fence.wide 3 zF Q a w:=
 zqz (n:=3) rfl (by omega) K trivial (enters_of Tryz.func273 (by kernel_rfl) rfl) (zwn o l r L _ (λb j=>j))
  (λk args j=>by subst j;exact M.symm) z e i A C F s (λk _=>a₁ k ((digL l)[k]?.getD 0))
  (λf k args b m j E=>by subst j;exact G f k _ b m E)
  (λf k args b u O x y P=>H f k _ b u x y rfl (zaj (zfz r) (by omega) k))
  J N
theorem Boxed.put {W:zA} {B:Nat} {t:TypeId} {v:Value} (h:Boxed W B t v) (u:Value):Boxed (W.setCell ⟨B,0,zp⟩ u) B t u:=by
 unfold Boxed at*;simp[World.setCell,Array.getElem?_modify,h]
structure ReadI (w:zA) (z m:Nat) (b:Bool) (l:List UInt8) (k u:Nat) (W:zA):Prop where
 st:W.heap[z]? =zq (zn #[zg b,z7 (zq ⟨w.heap.size+1,0,zp⟩) m m] 271 (0,0))
 un:Boxed W (z+1) 3 (I u)
 sb:Boxed W (z+2) 9 (St l)
 row:Row W (w.heap.size+1) m (zb8 9 (digL l) m k)
 res:W.heap[w.heap.size]? =zq (zn #[zg zu,z7 zp 0 0] 271 (0,0))
 below:qL w W
section
variable {w W W':zA} {z m k u:Nat} {b:Bool} {l:List UInt8}
theorem ReadI.kept (h:ReadI w z m b l k u W) (a:CellsKept W W') (c:zB w.heap.size W W'):ReadI w z m b l k u W':=
 ⟨a _ _ _ _ h.st,a.boxed h.un,a.boxed h.sb,a.row h.row,a _ _ _ _ h.res,h.below.trans c⟩
theorem ReadI.drew (h:ReadI w z m b l k u W):ReadI w z m b l k u W.drew:=h.kept (λ_ _ _ _ h=>h) (zM _ _).drew
theorem ReadI.unit (h:ReadI w z m b l k u W) (c:w.heap.size+1<z) (a:Nat):ReadI w z m b l k a (W.setCell ⟨z+1,0,zp⟩ (I a)):=
 ⟨(yE W ⟨z+1,0,zp⟩ _ z (by show z≠z+1;omega)).trans h.st,Boxed.put h.un _,h.sb.other (by omega) _,h.row.other (by show w.heap.size+1≠z+1;omega) _,
   (yE W ⟨z+1,0,zp⟩ _ w.heap.size (by show w.heap.size≠z+1;omega)).trans h.res,h.below.setCell (p:=⟨z+1,0,zp⟩) (by show w.heap.size<=z+1;omega) _⟩
theorem ReadI.limb (h:ReadI w z m b l k u W) (a:w.heap.size+1<z) {y:Nat} (hy:y=(zb8 9 (digL l) m k)[k/9]?.getD 0+(digL l)[k]?.getD 0*10^(k%9)):ReadI w z m b l (k+1) u (W.setCell ⟨w.heap.size+1,k/9,zp⟩ (I y)):=
 ⟨(yE W ⟨w.heap.size+1,k/9,zp⟩ _ z (by show z≠w.heap.size+1;omega)).trans h.st,(yE W ⟨w.heap.size+1,k/9,zp⟩ _ (z+1) (by show z+1≠w.heap.size+1;omega)).trans h.un,(yE W ⟨w.heap.size+1,k/9,zp⟩ _ (z+2) (by show z+2≠w.heap.size+1;omega)).trans h.sb,by subst hy;exact h.row.set (k/9) _,
   (yE W ⟨w.heap.size+1,k/9,zp⟩ _ w.heap.size (by show w.heap.size≠w.heap.size+1;omega)).trans h.res,h.below.setCell (p:=⟨w.heap.size+1,k/9,zp⟩) (by show w.heap.size<=w.heap.size+1;omega) _⟩
end
theorem z08 (k:Nat):10^(k%9)<=100000000:=by
 have:10^(k%9)<=10^8:=yF (by omega) (by have:=Nat.mod_lt k (show 0<9 by omega);omega);exact this
theorem zwo (k:Nat) (h:(k+1)%9≠0):10^(k%9)*10=10^((k+1)%9):=by
 rw[show(k+1)%9=k%9+1 by omega,yO]
theorem Sl.set {w:zA} {v:Value} {l:List Nat} (h:Sl w v (l.map I)) {p:Addr} {c:Value} (j:w.cell? p=zq c) (n:∀x,c≠I x) (u:Value):Sl (w.setCell p u) v (l.map I):=by
 obtain⟨q,f,g,k,m⟩:=h;refine⟨q,f,g,k,λd x a=>?_⟩;obtain⟨e,o,i,b⟩:=m d x a;refine⟨e,o,i,?_⟩;rw[World.cell?_setCell_other]
 ·exact b
 ·rintro rfl
  rw[j] at b;cases b;rw[List.getElem?_map] at a
  cases hl:l[d]? with
  |none=>rw[hl] at a;cases a
  |some r=>rw[hl] at a;cases a;exact n r rfl
theorem Sl.trim_at {w:zA} {p:Option Addr} {cap n:Nat} {l:List Nat} (h:Sl w (z7 p n cap) (l.map I)) (a:l.length=n):Sl w (z7 p (zat l).length cap) ((zat l).map I):=by
 subst a;exact Sl.trim h
theorem zc3 (x:Int) (w:zA) (bs:digs x<=700):
 zC zF 189 #[St (zE x)] w λe w'=>∃v,e=zo (.agg #[zg (decide (x<0)),v])/\Sl w' v ((zaa B9 x.natAbs).map I)/\zB w.heap.size w w':=by
 have a8:=Tryz.strings_CutPrefix ⟨(zE x).toArray⟩ ⟨#[45]⟩;rw[show(⟨(zE x).toArray⟩:ByteArray).data.toList=zE x from rfl,show(⟨#[45]⟩:ByteArray).data.toList=[45] from rfl,zbi,zdx] at a8;have T:=hid a8;clear a8;obtain⟨i,M⟩:=zzX (zD x.natAbs);have L:=zan x.natAbs;rw[<-M] at L T;have cc:i.length<=700:=by rw[M];exact bs
 have ai:=hid M;clear M;obtain⟨q,Q⟩:=zzX (⟨i.toArray⟩:ByteArray);have b3:(q.size:Int)=i.length:=by rw[Q];show(i.toArray.size:Int)=_;simp
 rw[<-Q] at T;have ak:=hid Q;clear Q;have be:=hid b3;have ch:q.size<=700:=by omega
 clear b3;refine(callsIn_wide (n:=3)).1 ?_;refine callsIn_of_wp_marks Tryz.func189 rfl trivial ?_ rfl;simp only[Tryz.ntmps189,zZ,yA,yT,Nat.reduceAdd,Nat.reduceSub,yU,yV,yW,yX,yI,yM];gi_wp2_with (refine⟨trivial,?_⟩;gi_at_call 223;refine(callsIn_wide.2 (T _)).mono ?_);rintro e r ⟨rfl,rfl⟩;obtain⟨a,az⟩:=zzX ((q.size+9-1)/9);have aa:((q.size:Int)+9-1)/9=(a:Int):=by omega
 have ce:a<=100:=by omega
 have bt:q.size<=9*a:=by omega
 obtain⟨d,ab,P,a7⟩:=zg2 (w.alloc (zn #[zg zu,z7 zp 0 0] 271)) w.heap.size a (by simp) (by omega);rw[<-aa] at ab;have c2:=hid aa;clear aa;have c1:=hid az;clear az;have J:qL w d:=((zM _ w).alloc (zN _) _).trans (a7.mono (by simp));have ao:d.heap[w.heap.size]? =zq (zn #[zg zu,z7 zp 0 0] 271 (0,0)):=(a7.block _ (by simp)).trans (zG w _);simp only[zH] at P ab;clear a7;gi_wp2_with (refine⟨trivial,?_⟩;gi_at_call 231;refine(callsIn_wide.2 (zuv q _)).mono ?_);rintro e cl ⟨rfl,rfl⟩;have F:=P.lt;have a3:ReadI w d.heap.size a (decide (x<0)) i 0 1 (((d.alloc (zn #[zg (decide (x<0)),z7 (zq ⟨w.heap.size+1,0,zp⟩) a a] 271)).alloc (zn #[zj zm 1] 3)).alloc (zn #[z8 q] 9)):=by
  have ck:=J.size;refine⟨?_,?_,?_,((P.alloc _).alloc _).alloc _,?_,((J.alloc J.size _).alloc (by simp;omega) _).alloc (by simp;omega) _⟩
  ·exact(Below.heap_alloc _ _ _ (by simp only[zH];omega)).trans ((Below.heap_alloc _ _ _ (by simp only[zH];omega)).trans (zG d _))
  ·have:=Boxed.new (d.alloc (zn #[zg (decide (x<0)),z7 (zq ⟨w.heap.size+1,0,zp⟩) a a] 271)) 3 (zj zm 1)
   rw[zH] at this;exact this.alloc _
  ·have:=Boxed.new ((d.alloc (zn #[zg (decide (x<0)),z7 (zq ⟨w.heap.size+1,0,zp⟩) a a] 271)).alloc (zn #[zj zm 1] 3)) 9 (z8 q)
   rw[zH,zH,ak.out] at this;rw[ak.out];exact this
  ·exact(Below.heap_alloc _ _ _ (by simp only[zH];omega)).trans ((Below.heap_alloc _ _ _ (by simp only[zH];omega)).trans ((Below.heap_alloc _ _ _ (by omega)).trans ao))
 have b2:((d.alloc (zn #[zg (decide (x<0)),z7 (zq ⟨w.heap.size+1,0,zp⟩) a a] 271)).alloc (zn #[zj zm 1] 3)).heap.size=d.heap.size+2:=by simp
 rw[b2];have a9:i.length<=9*a:=by have:=be.out;omega
 clear b2 ab P ao J bt;generalize ((d.alloc (zn #[zg (decide (x<0)),z7 (zq ⟨w.heap.size+1,0,zp⟩) a a] 271)).alloc (zn #[zj zm 1] 3)).alloc (zn #[z8 q] 9)=c5 at*
 generalize d.heap.size=g at*
 clear d;generalize au:decide (x<0)=l at*
 have b9:=hid au;clear au;gi_wp2
 refine zsu (g+2) i L (by omega) rfl rfl (B:=w.heap.size) a3.below.size (λc b=>∃h,ReadI w g a l i c h b/\(c%9≠0->h=10^(c%9))/\h<=1000000000) (λ_ _ _=>False)
  (λc b c4 o ax bp=>let ⟨h,a2,bo⟩:=o;⟨h,a2.kept ax bp,bo⟩) (λ_ _ _ _ o _ _=>o) (λc b o=>let ⟨h,a2,_⟩:=o;a2.sb.cell) ⟨1,a3,by simp,by omega⟩ ?a1 ?assign ?body ?done ?stop
 case stop=>exact λ_ _ _ _ _ o _=>o.elim
 case assign=>
  intro bz c m b c3 K;gi_wp2;exact K
 case body=>
  rintro bz c m b cd ⟨h,f,b4,ci⟩ ax av cb;obtain⟨b6,b7, -,c0, -⟩:=zgp (p:=9) (by omega) (zfz L) (m:=a) (by rw[zfi];exact a9) c (by rw[zfi];omega);have ay:c/9<a:=by omega
  have b0:=z08 c;have b1:=zwo c;have W:=hid b1;clear b1;obtain⟨k,S⟩:=zzX ((zb8 9 (digL i) a c)[c/9]?.getD 0);have cj:k<1000000000:=by rw[S];exact zaj b7 (by decide) _
  have al:=hid b4;clear b4;have N:=f.row.cell (getD_some (show c/9<(zb8 9 (digL i) a c).length by rw[b6];exact ay));rw[<-S] at N;have br:=f.row.frozen (c/9);have am:=hid S;clear S b6 b7 c0;have ah:=hid av;clear av;have A:b.cell? ⟨g,1,zp⟩=zq (z7 (zq ⟨w.heap.size+1,0,zp⟩) a a):=by simp[World.cell?,f.st]
  have H:=f.un;have Y:=H.cell;have ar:=H.frozen;obtain⟨b5,ac⟩:=zzX (c/9);rw[<-ac] at ay N br;have r:zm.wrap ((c:Int)/9)=(b5:Int):=(zI _ (by omega)).trans (by omega);have aj:=hid ac;clear ac;obtain⟨an,a6⟩:=zzX (10^(c%9));rw[<-a6] at b0 W al;have G:=hid a6;clear a6;by_cases hk9:c%9=0
  ·have bq:(((c:Int)%9)==0)=zt:=by rw[beq_iff_eq];omega
   have V:=hid hk9;clear hk9;have bi:=za9 (u:=zj zm 1) Y;have bj:=(zau b (b:=g) (b':=g+1) 1 0 (zj zm 1) (by omega)).trans A;have c6:=(zau b (b:=w.heap.size+1) (b':=g+1) b5 0 (zj zm 1) (by omega)).trans N;have C:=hid (show ReadI w g a l i c 1 (b.setCell ⟨g+1,0,zp⟩ (zj zm 1)) from f.unit F 1);have d:zm.wrap (m:Int)=(m:Int):=zI _ (by omega);have s:zm.wrap ((k:Int)+m)=(k:Int)+m:=zI _ (by omega);have u:=hid r;have y:=hid d;have z:=hid s;clear r d s;gi_wp2;clear Y A N;have r:=u.out;have d:=y.out;have s:=z.out
   (refine ztu 11 (by kernel_rfl) (by kernel_rfl) (by kernel_rfl) ?_;simp only[List.take_succ_cons,List.take_zero,List.drop_succ_cons,List.drop_zero];(repeat(first|(apply SQ.read (by rfl);(focus(go_simp;try with_reducible rfl));try simp only[zzQ])|(apply SQ.skip (by rfl);try simp only[zzQ])));refine SQ.nil ?_)
   clear bj r d s u y z bi;have p:=C.limb F (y:=k+m) (by
    rw[<-am.out,<-ah.out,<-G.out,show an=1 by rw[G.out,V.out],Nat.mul_one])
   rw[<-aj.out] at p;have t:=p.un;have Z:=t.cell;have a0:=t.frozen;rw[show I (k+m)=zj zm ((k:Int)+m) by simp[I]] at p Z a0;have U:=hid p;clear C t H ar;go_wp2;gi_wp2;exact⟨((KeepsOthers.setCell b _ _).trans ((KeepsOthers.setCell _ _ _).trans ((KeepsOthers.setCell _ _ _).trans (KeepsOthers.drew _)))).from _,10,(U.unit F 10).drew,
    λo=>by rw[<-W o,show an=1 by rw[G.out,V.out]],by omega⟩
  ·have bq:(((c:Int)%9)==0)=zu:=by rw[beq_eq_false_iff_ne];omega
   have bx:=al hk9;have V:=hid hk9;clear hk9;subst bx;obtain⟨j,E⟩:=zzX (m*h);have cg:j<=900000000:=by rw[E];exact Nat.mul_le_mul (show m<=9 by omega) b0
   have C:=hid f;have d:zm.wrap ((m:Int)*(h:Int))=(j:Int):=(zI _ (by rw[<-Int.natCast_mul,<-E];omega)).trans (by rw[E];simp);have s:zm.wrap ((k:Int)+j)=(k:Int)+j:=zI _ (by omega);have bc:=hid E;clear E;have u:=hid r;have y:=hid d;have z:=hid s;clear r d s;gi_wp2;have r:=u.out;have d:=y.out;have s:=z.out
   (refine ztu 11 (by kernel_rfl) (by kernel_rfl) (by kernel_rfl) ?_;simp only[List.take_succ_cons,List.take_zero,List.drop_succ_cons,List.drop_zero];(repeat(first|(apply SQ.read (by rfl);(focus(go_simp;try with_reducible rfl));try simp only[zzQ])|(apply SQ.skip (by rfl);try simp only[zzQ])));refine SQ.nil ?_)
   clear A r d s u y z Y;have p:=C.limb F (y:=k+j) (by
    rw[<-am.out,<-ah.out,<-G.out,bc.out])
   rw[<-aj.out] at p;have t:=p.un;have Z:=t.cell;have a0:=t.frozen;rw[show I (k+j)=zj zm ((k:Int)+j) by simp[I]] at p Z a0;have U:=hid p;clear C t H ar f;go_wp2;gi_wp2;have aw:=(U.unit F (h*10)).drew;rw[show I (h*10)=zj zm ((h:Int)*10) by simp[I]] at aw;exact⟨((KeepsOthers.setCell b _ _).trans ((KeepsOthers.setCell _ _ _).trans (KeepsOthers.drew _))).from _,h*10,aw,λo=>W o,by omega⟩
 case done=>
  rintro b8 b ca ⟨h,f, -, -⟩ K;have ad:=f.row;have O:=zus (p:=9) (by omega) x.natAbs a (by rw[<-ai.out];exact a9);rw[<-ai.out] at O;obtain⟨X,a4⟩:=zzX (zb8 9 (digL i) a i.length);rw[<-a4] at ad O;have ae:zat X=zaa B9 x.natAbs:=O;have a5:X.length=a:=by rw[a4];exact(zgp (p:=9) (by omega) (zfz L) (m:=a) (by rw[zfi];exact a9) i.length (by rw[zfi];omega)).1
  have R:=ad.sl;rw[a5] at R;have ag:=zi6 (zq ⟨w.heap.size+1,0,zp⟩) a a X b R (by omega);rw[ae] at ag;have bf:=hid ag;clear ag;have af:=R.trim_at a5;rw[ae] at af;have bd:=hid af;clear af R ad O ae a5 a4;have ba:=hid f;have A:b.cell? ⟨g,1,zp⟩=zq (z7 (zq ⟨w.heap.size+1,0,zp⟩) a a):=by simp[World.cell?,f.st]
  have fx:b.frozen? ⟨g,1,zp⟩=zu:=by simp[World.frozen?,f.st]
  have c7:b.cell? ⟨g,0,zp⟩=zq (zg l):=by simp[World.cell?,f.st]
  have bg:b.cell? ⟨w.heap.size,0,zp⟩=zq (zg zu):=by simp[World.cell?,f.res]
  have bh:b.cell? ⟨w.heap.size,1,zp⟩=zq (z7 zp 0 0):=by simp[World.cell?,f.res]
  have c8:b.frozen? ⟨w.heap.size,0,zp⟩=zu:=by simp[World.frozen?,f.res]
  have c9:b.frozen? ⟨w.heap.size,1,zp⟩=zu:=by simp[World.frozen?,f.res]
  have a':w.heap.size≠g:=by omega
  have cf:g≠w.heap.size:=by omega
  clear f;have bb:=hid K;clear K;gi_wp2_with (refine⟨trivial,?_⟩;gi_at_call 232;refine(callsIn_wide.2 bf.out).mono ?_);rintro e cm ⟨rfl,rfl⟩;gi_wp2;have D:=(((KeepsOthers.setCell b ⟨g,1,zp⟩ (z7 (zq ⟨w.heap.size+1,0,zp⟩) (zaa B9 x.natAbs).length a)).trans (KeepsOthers.setCell _ ⟨w.heap.size,0,zp⟩ (zg l))).trans (KeepsOthers.setCell _ ⟨w.heap.size,1,zp⟩ (z7 (zq ⟨w.heap.size+1,0,zp⟩) (zaa B9 x.natAbs).length a))).same b8 _ bb rfl;refine⟨by simp,.inl ⟨_,_,rfl,run_takeDeferred D,?_⟩⟩;have ap:=(zau b (b:=w.heap.size) (b':=g) 0 1 (z7 (zq ⟨w.heap.size+1,0,zp⟩) (zaa B9 x.natAbs).length a) a').trans bg;have bk:=(zau b (b:=w.heap.size) (b':=g) 1 1 (z7 (zq ⟨w.heap.size+1,0,zp⟩) (zaa B9 x.natAbs).length a) a').trans bh;have aq:=(World.cell?_setCell_other _ _ _ (zg l) (show(⟨w.heap.size,0,zp⟩:Addr)≠⟨w.heap.size,1,zp⟩ by simp)).trans bk;have bl:=za9 (u:=zg l) ap;have bm:=(zbk D).cell ((World.cell?_setCell_other _ _ _ _ (show(⟨w.heap.size,1,zp⟩:Addr)≠⟨w.heap.size,0,zp⟩ by simp)).trans bl);have bn:=(zbk D).cell (za9 (u:=z7 (zq ⟨w.heap.size+1,0,zp⟩) (zaa B9 x.natAbs).length a) aq);have bu:=bd.set A (λx=>by simp[I]) (z7 (zq ⟨w.heap.size+1,0,zp⟩) (zaa B9 x.natAbs).length a);have bv:=bu.set ap (λx=>by simp[I]) (zg l);have bw:=bv.set aq (λx=>by simp[I]) (z7 (zq ⟨w.heap.size+1,0,zp⟩) (zaa B9 x.natAbs).length a)
  refine⟨.agg #[zg l,z7 (zq ⟨w.heap.size+1,0,zp⟩) (zaa B9 x.natAbs).length a],?_,_,by rw[b9.out],(zbk D).sl bw,zby (((ba.below.setCell (p:=⟨g,1,zp⟩) (by show w.heap.size<=g;omega) _).setCell (p:=⟨w.heap.size,0,zp⟩) (by simp) _).setCell (p:=⟨w.heap.size,1,zp⟩) (by simp) _) (by have:=a3.below.size;omega) D⟩;simp[results,Tryz.f189,go_sem,bm,bn]
theorem zpw {a b:zA} (h:CellsKept a b) {B:Nat} {e:TypeId} {v:Value} {n:Nat} {xs:List Value} (f:a.ownsRowF B e 1 v n xs):b.ownsRowF B e 1 v n xs:=by
 obtain⟨c,d⟩:=f;refine⟨c,d.imp id ?_⟩;rintro⟨g,cap,cur,fz,e1,e2,e3,e4⟩;exact⟨g,cap,cur,fz,e1,e2,h _ _ _ _ e3,e4⟩
theorem BuilderAtF.kept {c d:zA} (h:CellsKept c d) {a e:TypeId} {B b:Nat} {p:Value} {f:List Value} (l:BuilderAtF a e B b p f c):BuilderAtF a e B b p f d:=by
 obtain⟨g,m,i,j,k⟩:=l;exact⟨g,m,h _ _ _ _ i,zpw h j,k⟩
theorem IsBuilderF.kept {c d:zA} (h:CellsKept c d) {a e:TypeId} {B b:Nat} {f:List Value} (g:IsBuilderF a e B b f c):IsBuilderF a e B b f d:=
 g.imp (BuilderAtF.kept h) (BuilderAtF.kept h)
theorem zl5 (a:zA) (B:Nat) (b:B<=a.heap.size):IsBuilderF 344 5 B a.heap.size (byteCells []) (a.alloc (zn #[zf zp,z7 zp 0 0] 344)):=
 .inl ⟨b,z7 zp 0 0,zG _ _,⟨rfl,.inl ⟨rfl,rfl⟩⟩,by simp[Value.ownBlock]⟩
theorem zl6 {c:zA} {a e:TypeId} {B b:Nat} {d:List Value} (h:IsBuilderF a e B b d c):∃f,c.heap[b]? =zq (zn f a (0,0)):=by
 rcases h with⟨_,g,h,_⟩|⟨_,g,h,_⟩<;>exact⟨_,h⟩
theorem zcy {a c:zA} {g e:TypeId} {B b:Nat} {i:List Value} (h:IsBuilderF g e B b i a) (j:zB B a c) (l:OthersKept e (zq b) a c) (B':Nat):KeepsFrom B' a c:=
 ⟨j.size,λm n _ d f=>by
   refine l m n d (λe=>?_) (λo fz e=>by subst e;cases f);cases e;obtain⟨p,k⟩:=zl6 h;rw[k] at d;cases d;cases f⟩
theorem zms {a f:zA} {d e t:TypeId} {B b k:Nat} {i:List Value} {g:Array Value} (h:IsBuilderF d e B b i a) (n:OthersKept e (zq b) a f) (c:a.heap[k]? =zq (zn g t (0,0))) (j:t≠d) (l:t≠e):f.heap[k]? =zq (zn g t (0,0)):=by
 refine n k _ c (λe=>?_) (λo fz e=>by cases e;exact l rfl);cases e;obtain⟨p,m⟩:=zl6 h;rw[m] at c;cases c;exact j rfl
structure WriI (w:zA) (b1 b Bs:Nat) (m:Bool) (va:Value) (out:List UInt8) (W:zA):Prop where
 st:W.heap[b1]? =zq (zn #[zg m,va] 271 (0,0))
 bd:IsBuilderF 344 5 w.heap.size b (byteCells out) W
 bb:Boxed W Bs 74 va
 below:qL w W
section
variable {w W W':zA} {b1 b Bs:Nat} {m:Bool} {va:Value} {out out':List UInt8}
theorem WriI.kept (h:WriI w b1 b Bs m va out W) (a:CellsKept W W') (c:zB w.heap.size W W'):WriI w b1 b Bs m va out W':=
 ⟨a _ _ _ _ h.st,IsBuilderF.kept a h.bd,a.boxed h.bb,h.below.trans c⟩
theorem WriI.grow (h:WriI w b1 b Bs m va out W) (a:qL W W'):WriI w b1 b Bs m va out W':=h.kept (zac a) (a.mono h.below.size)
theorem WriI.more (h:WriI w b1 b Bs m va out W) (d:IsBuilderF 344 5 w.heap.size b (byteCells out') W') (c:zB w.heap.size W W') (a:OthersKept 5 (zq b) W W'):WriI w b1 b Bs m va out' W':=
 ⟨zms h.bd a h.st (by decide) (by decide),d,zms h.bd a h.bb (by decide) (by decide),h.below.trans c⟩
end
theorem zhy:∀c,repeatL [48] c=List.replicate c 48
 |0=>rfl
 |c+1=>by rw[repeatL,zhy c];rfl
def zdt (m:Bool) (l:List Nat) (k:Nat):List UInt8:=(if m then[45] else[])++(if k=0 then[] else zD (valL B9 (l.drop (l.length-k))))
theorem zg9 (m:Bool) (l:List Nat):zdt m l 0=(if m then[45] else[]):=by simp[zdt]
theorem zgt (m:Bool) (l:List Nat) {k:Nat} (h:k≠0):zdt m l k=(if m then[45] else[])++zD (valL B9 (l.drop (l.length-k))):=by simp[zdt,h]
theorem zl7 (m:Bool) {l:List Nat} (h:0<l.length):zdt m l 0++zD (l[l.length-1]?.getD 0)=zdt m l 1:=by
 rw[zg9,zgt m l (by omega),zdu l (l.length-1) B9 (by omega),List.drop_of_length_le (by omega)];simp[valL,show l.length-1<l.length by omega]
theorem znh (m:Bool) {n k:Nat} (f:k<(zaa B9 n).length) (b:k≠0):
 (zdt m (zaa B9 n) k++List.replicate (9-(zD ((zaa B9 n)[(zaa B9 n).length-1-k]?.getD 0)).length) 48)++zD ((zaa B9 n)[(zaa B9 n).length-1-k]?.getD 0)=zdt m (zaa B9 n) (k+1):=by
 have a:=zak (B:=B9) (by decide) n;have e:=zaj a (by decide) ((zaa B9 n).length-1-k);have c:=zpv (B:=B9) (by decide) (n:=n) (k:=(zaa B9 n).length-k) (by omega);have hw:=zut (p:=9) a ((zaa B9 n).length-1-k) (by omega) (by rw[show(zaa B9 n).length-1-k+1=(zaa B9 n).length-k by omega];exact c);rw[zgt m _ b,zgt m _ (by omega),show(zaa B9 n).length-(k+1)=(zaa B9 n).length-1-k by omega];have d:zD (valL B9 ((zaa B9 n).drop ((zaa B9 n).length-1-k)))=zD (valL B9 ((zaa B9 n).drop ((zaa B9 n).length-k)))++padD 9 ((zaa B9 n)[(zaa B9 n).length-1-k]?.getD 0):=by
  rw[show(zaa B9 n).length-k=(zaa B9 n).length-1-k+1 by omega];exact hw
 rw[d,zjv 9 _ (by omega) e];simp[yL]
theorem zo2 (m:Bool) {n:Nat} (h:0<n):zdt m (zaa B9 n) (zaa B9 n).length=zE (if m then-(n:Int) else n):=by
 have b:(zaa B9 n).length≠0:=λa=>by have:=(zbd (B:=B9) (by decide) n).1 (List.length_eq_zero_iff.1 a);omega
 rw[zgt m _ b,Nat.sub_self,List.drop_zero,zam (by decide)];cases m
 ·simp[Str.zad]
 ·simp[Str.zga n h]
theorem zo3 (m:Bool) (n k:Nat) (c:0<n):(zdt m (zaa B9 n) k).length<=9*(zaa B9 n).length+1:=by
 have d:(if m then[45] else[]:List UInt8).length<=1:=by cases m<;>simp
 by_cases hk:k=0
 ·subst hk;rw[zg9];omega
 ·rw[zgt m _ hk,zU]
  by_cases hl:(zaa B9 n).length=0
  ·have:=(zbd (B:=B9) (by decide) n).1 (List.length_eq_zero_iff.1 hl)
   omega
  ·have a:=zb6 (zg5 (zak (B:=B9) (by decide) n) ((zaa B9 n).length-k))
   have b:B9^((zaa B9 n).drop ((zaa B9 n).length-k)).length<=B9^(zaa B9 n).length:=yF (by decide) (by simp);have e:=(zaf (valL B9 ((zaa B9 n).drop ((zaa B9 n).length-k))) (9*(zaa B9 n).length) (by omega)).2 (by rw[Nat.pow_mul];exact Nat.lt_of_lt_of_le a b);omega
theorem zuw (m:Bool) (a:Value) (w:zA) (ha:Sl w a (([]:List Nat).map I)):
 qJ 233 #[.agg #[zg m,a]] w (St [48]):=by
 obtain⟨c,b,rfl, -⟩:=ha;refine(callsIn_wide (n:=3)).1 ?_;refine callsIn_of_wp_marks Tryz.func233 rfl trivial ?_ rfl;simp only[Tryz.ntmps233,zZ,yA,yT,Nat.reduceAdd,Nat.reduceSub,yU,yV,yW,yX,yI,yM];gi_wp2;exact⟨z8 ⟨#[48]⟩,by simp[results,Tryz.f233,go_sem],rfl,(zM _ w).alloc (zN _) _⟩
theorem zwp (m:Bool) (bq:Value) (n:Nat) (z:Int) (k:z=if m then-(n:Int) else n) (w:zA) (hw:Wd w) (ha:Sl w bq ((zaa B9 n).map I)) (ar:0<n) (c3:(zaa B9 n).length<=1000):
 qJ 233 #[.agg #[zg m,bq]] w (St (zE z)):=by
 have bm:=hid k;clear k;obtain⟨e,d,rfl, -⟩:=id ha;simp only[zV] at*
 have aw:=hid ha;clear ha;have c2:0<(zaa B9 n).length:=Nat.pos_of_ne_zero λf=>by have:=(zbd (B:=B9) (by decide) n).1 (List.length_eq_zero_iff.1 f);omega
 obtain⟨b,bb⟩:=zzX ((zaa B9 n).length);rw[<-bb] at aw c2 c3⊢;have i:=hid bb;clear bb;have bl:=hid hw;clear hw;have c8:((b:Int)==0)=zu:=by rw[beq_eq_false_iff_ne];omega
 refine(callsIn_wide (n:=3)).1 ?_;refine callsIn_of_wp_marks Tryz.func233 rfl trivial ?_ rfl;simp only[Tryz.ntmps233,zZ,yA,yT,Nat.reduceAdd,Nat.reduceSub,yU,yV,yW,yX,yI,yM];cases m
 ·gi_wp2_with (refine⟨trivial,?_⟩;gi_at_call 266;refine(callsIn_wide.2 (zhu _ _ _ _ _ rfl)).mono ?_;rintro f c7 ⟨rfl,rfl⟩)
  have c:WriI w w.heap.size (w.heap.size+1) (w.heap.size+1+1) zu (z7 e b d) (zdt zu (zaa B9 n) 0) (((w.alloc (zn #[zg zu,z7 e b d] 271)).alloc (zn #[zf zp,z7 zp 0 0] 344)).alloc (zn #[z7 e b d] 74)):=by
   have q:=zl5 (w.alloc (zn #[zg zu,z7 e b d] 271)) w.heap.size (by simp);have y:=Boxed.new ((w.alloc (zn #[zg zu,z7 e b d] 271)).alloc (zn #[zf zp,z7 zp 0 0] 344)) 74 (z7 e b d);simp only[zH] at q y;refine⟨?_,by rw[zg9];exact q.alloc _,y,(((zM _ w).alloc (zN _) _).alloc (by simp) _).alloc (by simp;omega) _⟩;exact(Below.heap_alloc _ _ _ (by simp only[zH];omega)).trans ((Below.heap_alloc _ _ _ (by simp only[zH];omega)).trans (zG w _))
  generalize (((w.alloc (zn #[zg zu,z7 e b d] 271)).alloc (zn #[zf zp,z7 zp 0 0] 344)).alloc (zn #[z7 e b d] 74))=A at*
  obtain⟨T,bn⟩:=zzX (w.heap.size+1+1);rw[<-bn] at c⊢;clear bn;have b':=c.below.size
  refine zkt T b d e (λbk ab=>ab=(((zaa B9 n)[bk]?.getD 0:Nat):Int)) (RdSl T (z7 e b d) (zaa B9 n)) (by omega)
   (λa g=>by have:=RdSl.read (l:=zaa B9 n) (cap:=d) (p:=e) (by rw[<-i.out];exact g);rw[<-i.out] at this;exact this) rfl rfl (B:=w.heap.size) c.below.size
   (λt a=>WriI w w.heap.size (w.heap.size+1) T zu (z7 e b d) (zdt zu (zaa B9 n) t) a) (λ_ _ _=>False)
   (λt a bu g a4 bd=>g.kept a4 bd) (λ_ _ _ _ g _ _=>g) (λt a g=>⟨g.bb.cell,aw.below g.below⟩) c ?_ ?assignfalse ?bodyfalse ?donefalse ?stopfalse
  case stopfalse=>exact λ_ _ _ _ _ g _=>g.elim
  case assignfalse=>
   intro x F ab a bt K;gi_wp2;exact K
  case bodyfalse=>
   rintro x t F ab a c4-c a4 L an;have a9:=zaj (zak (B:=B9) (by decide) n) (by decide) F;obtain⟨h,aa⟩:=zzX ((zaa B9 n)[F]?.getD 0);rw[<-aa] at an a9;subst an;have bj:h<1000000000:=a9;have af:=hid aa;clear aa a9;have bg:(zD h).length<=9:=(zaf h 9 (by omega)).2 bj;have bh:1<=(zD h).length:=by have:=zbn (h:Int);unfold digs at this;simpa using this
   have a3:=λa bc=>zb3 (h:Int) (by omega) (by omega) a bc;rw[Str.zad] at a3;have ac:=hid a3;clear a3;obtain⟨v,O⟩:=zzX (⟨(zD h).toArray⟩:ByteArray);have am:v.size=(zD h).length:=by rw[O];show(zD h).toArray.size=_;simp
   rw[<-O] at ac;have b2:=hid O;clear O;have c6:v.size<=9:=by omega
   have c5:1<=v.size:=by omega
   have b4:=hid am;clear am bg bh;have bf:=zo3 zu n t ar;rw[<-i.out] at bf;have C:=c.st;have c1:a.cell? ⟨w.heap.size,1,zp⟩=zq (z7 e b d):=by simp[World.cell?,C]
   clear C;gi_wp2_with (refine⟨trivial,?_⟩;gi_at_call 47;refine(CallsIn.inRound x (callsIn_wide.2 (ac a (bl.below c.below)))).mono ?_);rintro f W ⟨rfl,H⟩;have r:=c.grow H;have R:=(za0 H).from A.heap.size;clear c1 H;have C:=r.st;have c1:W.cell? ⟨w.heap.size,1,zp⟩=zq (z7 e b d):=by simp[World.cell?,C]
   clear C;have P:=λX a q y Y=>Tryz.WriteString_k w.heap.size (w.heap.size+1) (byteCells X) v a q y Y;simp only[strCells_eq,<-byteCells_append] at P;rw[show v.data.toList=zD h by rw[b2.out]] at P;have ae:=hid P;clear P;by_cases hk0:t=0
   ·have be:¬(F:Int)<(b:Int)-1:=by omega
    gi_wp2_with (refine⟨trivial,?_⟩;gi_at_call 275;refine(CallsIn.inRound x (callsIn_wide.2 (ae _ W r.bd (by rw[byteCells_length];omega) r.below.size))).mono ?_);rintro f ag ⟨rfl,j,u,a5⟩;have s:=r.more (.inr j) u a5;have G:=R.trans (zcy r.bd u a5 A.heap.size);clear j u a5 c1 R;have az:=hid s;clear s;have b7:=hid G;clear G;have J:=hid hk0;clear hk0 c r;have V:=hid L;clear L;gi_wp2;refine⟨b7.out,?_⟩;have E:=az.out;have f:=zl7 zu (l:=zaa B9 n) (by rw[<-i.out];omega);rw[af.out,V.out,J.out,i.out,Nat.sub_zero,f,<-i.out] at E;rw[J.out];exact E
   ·have be:(F:Int)<(b:Int)-1:=by omega
    obtain⟨o,aj⟩:=zzX (9-v.size);have a2:(9:Int)-v.size=(o:Int):=by omega
    have N:=λa=>Tryz.strings_Repeat ⟨#[48]⟩ o a (by omega) (by show 1*o<=_;omega);rw[show(⟨#[48]⟩:ByteArray).data.toList=[48] from rfl,<-a2] at N;obtain⟨z,k⟩:=zzX (⟨(repeatL [48] o).toArray⟩:ByteArray);rw[<-k] at N;have b1:=hid N;clear N;have Q:=λX a q y Y=>Tryz.WriteString_k w.heap.size (w.heap.size+1) (byteCells X) z a q y Y;simp only[strCells_eq,<-byteCells_append] at Q;rw[show z.data.toList=List.replicate o 48 by rw[k];exact zhy o] at Q;have b5:=hid Q;clear Q;have ao:z.size=o:=by rw[k];show(repeatL [48] o).toArray.size=_;rw[zhy];simp
    have b6:=hid ao;clear ao k;have ay:=hid aj;have br:=hid a2;have c0:o<=9:=by omega
    clear aj a2;gi_wp2_with (refine⟨trivial,?_⟩;gi_at_call 238;refine(CallsIn.inRound x (callsIn_wide.2 (b1 W))).mono ?_);rintro f ag ⟨rfl,u⟩;have s:=r.grow u;have G:=R.trans ((za0 u).from A.heap.size);clear u c1 R r c;gi_wp2_with (refine⟨trivial,?_⟩;gi_at_call 275;refine(CallsIn.inRound x (callsIn_wide.2 (b5 _ ag s.bd (by rw[byteCells_length,b6.out];omega) s.below.size))).mono ?_);rintro f b9 ⟨rfl,j,Z,a6⟩;have D:=s.more (.inr j) Z a6;have ap:=G.trans (zcy s.bd Z a6 A.heap.size);clear j Z a6 G s;gi_wp2_with (refine⟨trivial,?_⟩;gi_at_call 275;refine(CallsIn.inRound x (callsIn_wide.2 (ae _ b9 D.bd (by rw[byteCells_length,zU,List.length_replicate];omega) D.below.size))).mono ?_);rintro f bv ⟨rfl,j,a0,a7⟩;have ah:=D.more (.inr j) a0 a7;have aq:=ap.trans (zcy D.bd a0 a7 A.heap.size);clear j a0 a7 ap D;have a':=hid ah;clear ah;have b8:=hid aq;clear aq;have J:=hid hk0;clear hk0;have V:=hid L;clear L;gi_wp2;refine⟨b8.out,?_⟩;have E:=a'.out;have f:=znh zu (n:=n) (k:=t) (by rw[<-i.out];exact a4) J.out;rw[ay.out,b4.out,af.out,V.out,i.out,f,<-i.out] at E;exact E
  case donefalse=>
   rintro av a bz c K;have M:=zo2 zu ar;have k:=bm.out;simp at k;simp at M;rw[<-i.out,<-k] at M;clear k;have ak:=c.bd;have a8:=Tryz.String_k w.heap.size (w.heap.size+1) (zdt zu (zaa B9 n) b) a ak c.below.size;rw[M] at a8;have b3:=hid a8;clear a8 M;have U:=hid c;have b0:=hid K;clear K;clear ak c;gi_wp2_with (refine⟨trivial,?_⟩;gi_at_call 276;refine(callsIn_wide.2 b3.out).mono ?_);rintro f bw ⟨rfl,bi,a1,al⟩;clear bi;have ai:=(zcy U.bd a1 al 0).same av _ (zR _) b0 rfl;have ad:=hid ai;clear ai;have ax:=hid (U.below.trans a1);clear a1 al;gi_wp2;refine⟨by simp,.inl ⟨_,_,rfl,run_takeDeferred ad.out,?_⟩⟩;exact⟨_,by simp[results,Tryz.f233,go_sem],rfl,zby ax (by have:=Below.size U.below;omega) ad.out⟩
 ·have bp:=λa q y=>Tryz.WriteByte_k w.heap.size (w.heap.size+1) (byteCells []) 45 a q (by simp[byteCells]) y
  have bs:=hid bp;clear bp;have q:=zl5 (w.alloc (zn #[zg zt,z7 e b d] 271)) w.heap.size (by simp);simp only[zH] at q;gi_wp2_with (refine⟨trivial,?_⟩;gi_at_call 274;refine(callsIn_wide.2 (bs _ q (by simp only[zH];omega))).mono ?_);rintro f S rfl j H bo;have au:S.heap[w.heap.size]? =zq (zn #[zg zt,z7 e b d] 271 (0,0)):=zms q bo ((Below.heap_alloc _ _ _ (by simp)).trans (zG w _)) (by decide) (by decide);have ba:qL w S:=(((zM _ w).alloc (zN _) _).alloc (by simp) _).trans H;have bx:S.cell? ⟨w.heap.size,1,zp⟩=zq (z7 e b d):=by simp[World.cell?,au]
  clear q bo H;gi_wp2_with (refine⟨trivial,?_⟩;gi_at_call 266;refine(callsIn_wide.2 (zhu _ _ _ _ _ rfl)).mono ?_;rintro f c7 ⟨rfl,rfl⟩);have c:WriI w w.heap.size (w.heap.size+1) S.heap.size zt (z7 e b d) (zdt zt (zaa B9 n) 0) (S.alloc (zn #[z7 e b d] 74)):=
   ⟨(Below.heap_alloc _ _ _ (Array.getElem?_eq_some_iff.1 au).1).trans au,by rw[zg9];exact IsBuilderF.alloc (.inr j) _,Boxed.new S _ _,ba.alloc ba.size _⟩
  clear au bx ba j;generalize S.alloc (zn #[z7 e b d] 74)=A at*
  generalize S.heap.size=T at*
  have b':=c.below.size
  refine zkt T b d e (λbk ab=>ab=(((zaa B9 n)[bk]?.getD 0:Nat):Int)) (RdSl T (z7 e b d) (zaa B9 n)) (by omega)
   (λa g=>by have:=RdSl.read (l:=zaa B9 n) (cap:=d) (p:=e) (by rw[<-i.out];exact g);rw[<-i.out] at this;exact this) rfl rfl (B:=w.heap.size) c.below.size
   (λt a=>WriI w w.heap.size (w.heap.size+1) T zt (z7 e b d) (zdt zt (zaa B9 n) t) a) (λ_ _ _=>False)
   (λt a bu g a4 bd=>g.kept a4 bd) (λ_ _ _ _ g _ _=>g) (λt a g=>⟨g.bb.cell,aw.below g.below⟩) c ?_ ?assigntrue ?bodytrue ?donetrue ?stoptrue
  case stoptrue=>exact λ_ _ _ _ _ g _=>g.elim
  case assigntrue=>
   intro x F ab a bt K;gi_wp2;exact K
  case bodytrue=>
   rintro x t F ab a c4-c a4 L an;have a9:=zaj (zak (B:=B9) (by decide) n) (by decide) F;obtain⟨h,aa⟩:=zzX ((zaa B9 n)[F]?.getD 0);rw[<-aa] at an a9;subst an;have bj:h<1000000000:=a9;have af:=hid aa;clear aa a9;have bg:(zD h).length<=9:=(zaf h 9 (by omega)).2 bj;have bh:1<=(zD h).length:=by have:=zbn (h:Int);unfold digs at this;simpa using this
   have a3:=λa bc=>zb3 (h:Int) (by omega) (by omega) a bc;rw[Str.zad] at a3;have ac:=hid a3;clear a3;obtain⟨v,O⟩:=zzX (⟨(zD h).toArray⟩:ByteArray);have am:v.size=(zD h).length:=by rw[O];show(zD h).toArray.size=_;simp
   rw[<-O] at ac;have b2:=hid O;clear O;have c6:v.size<=9:=by omega
   have c5:1<=v.size:=by omega
   have b4:=hid am;clear am bg bh;have bf:=zo3 zt n t ar;rw[<-i.out] at bf;have C:=c.st;have c1:a.cell? ⟨w.heap.size,1,zp⟩=zq (z7 e b d):=by simp[World.cell?,C]
   clear C;gi_wp2_with (refine⟨trivial,?_⟩;gi_at_call 47;refine(CallsIn.inRound x (callsIn_wide.2 (ac a (bl.below c.below)))).mono ?_);rintro f W ⟨rfl,H⟩;have r:=c.grow H;have R:=(za0 H).from A.heap.size;clear c1 H;have C:=r.st;have c1:W.cell? ⟨w.heap.size,1,zp⟩=zq (z7 e b d):=by simp[World.cell?,C]
   clear C;have P:=λX a q y Y=>Tryz.WriteString_k w.heap.size (w.heap.size+1) (byteCells X) v a q y Y;simp only[strCells_eq,<-byteCells_append] at P;rw[show v.data.toList=zD h by rw[b2.out]] at P;have ae:=hid P;clear P;by_cases hk0:t=0
   ·have be:¬(F:Int)<(b:Int)-1:=by omega
    gi_wp2_with (refine⟨trivial,?_⟩;gi_at_call 275;refine(CallsIn.inRound x (callsIn_wide.2 (ae _ W r.bd (by rw[byteCells_length];omega) r.below.size))).mono ?_);rintro f ag ⟨rfl,j,u,a5⟩;have s:=r.more (.inr j) u a5;have G:=R.trans (zcy r.bd u a5 A.heap.size);clear j u a5 c1 R;have az:=hid s;clear s;have b7:=hid G;clear G;have J:=hid hk0;clear hk0 c r;have V:=hid L;clear L;gi_wp2;refine⟨b7.out,?_⟩;have E:=az.out;have f:=zl7 zt (l:=zaa B9 n) (by rw[<-i.out];omega);rw[af.out,V.out,J.out,i.out,Nat.sub_zero,f,<-i.out] at E;rw[J.out];exact E
   ·have be:(F:Int)<(b:Int)-1:=by omega
    obtain⟨o,aj⟩:=zzX (9-v.size);have a2:(9:Int)-v.size=(o:Int):=by omega
    have N:=λa=>Tryz.strings_Repeat ⟨#[48]⟩ o a (by omega) (by show 1*o<=_;omega);rw[show(⟨#[48]⟩:ByteArray).data.toList=[48] from rfl,<-a2] at N;obtain⟨z,k⟩:=zzX (⟨(repeatL [48] o).toArray⟩:ByteArray);rw[<-k] at N;have b1:=hid N;clear N;have Q:=λX a q y Y=>Tryz.WriteString_k w.heap.size (w.heap.size+1) (byteCells X) z a q y Y;simp only[strCells_eq,<-byteCells_append] at Q;rw[show z.data.toList=List.replicate o 48 by rw[k];exact zhy o] at Q;have b5:=hid Q;clear Q;have ao:z.size=o:=by rw[k];show(repeatL [48] o).toArray.size=_;rw[zhy];simp
    have b6:=hid ao;clear ao k;have ay:=hid aj;have br:=hid a2;have c0:o<=9:=by omega
    clear aj a2;gi_wp2_with (refine⟨trivial,?_⟩;gi_at_call 238;refine(CallsIn.inRound x (callsIn_wide.2 (b1 W))).mono ?_);rintro f ag ⟨rfl,u⟩;have s:=r.grow u;have G:=R.trans ((za0 u).from A.heap.size);clear u c1 R r c;gi_wp2_with (refine⟨trivial,?_⟩;gi_at_call 275;refine(CallsIn.inRound x (callsIn_wide.2 (b5 _ ag s.bd (by rw[byteCells_length,b6.out];omega) s.below.size))).mono ?_);rintro f b9 ⟨rfl,j,Z,a6⟩;have D:=s.more (.inr j) Z a6;have ap:=G.trans (zcy s.bd Z a6 A.heap.size);clear j Z a6 G s;gi_wp2_with (refine⟨trivial,?_⟩;gi_at_call 275;refine(CallsIn.inRound x (callsIn_wide.2 (ae _ b9 D.bd (by rw[byteCells_length,zU,List.length_replicate];omega) D.below.size))).mono ?_);rintro f bv ⟨rfl,j,a0,a7⟩;have ah:=D.more (.inr j) a0 a7;have aq:=ap.trans (zcy D.bd a0 a7 A.heap.size);clear j a0 a7 ap D;have a':=hid ah;clear ah;have b8:=hid aq;clear aq;have J:=hid hk0;clear hk0;have V:=hid L;clear L;gi_wp2;refine⟨b8.out,?_⟩;have E:=a'.out;have f:=znh zt (n:=n) (k:=t) (by rw[<-i.out];exact a4) J.out;rw[ay.out,b4.out,af.out,V.out,i.out,f,<-i.out] at E;exact E
  case donetrue=>
   rintro av a bz c K;have M:=zo2 zt ar;have k:=bm.out;simp at k;simp at M;rw[<-i.out,<-k] at M;clear k;have ak:=c.bd;have a8:=Tryz.String_k w.heap.size (w.heap.size+1) (zdt zt (zaa B9 n) b) a ak c.below.size;rw[M] at a8;have b3:=hid a8;clear a8 M;have U:=hid c;have b0:=hid K;clear K;clear ak c;gi_wp2_with (refine⟨trivial,?_⟩;gi_at_call 276;refine(callsIn_wide.2 b3.out).mono ?_);rintro f bw ⟨rfl,bi,a1,al⟩;clear bi;have ai:=(zcy U.bd a1 al 0).same av _ (zR _) b0 rfl;have ad:=hid ai;clear ai;have ax:=hid (U.below.trans a1);clear a1 al;gi_wp2;refine⟨by simp,.inl ⟨_,_,rfl,run_takeDeferred ad.out,?_⟩⟩;exact⟨_,by simp[results,Tryz.f233,go_sem],rfl,zby ax (by have:=Below.size U.below;omega) ad.out⟩
theorem zo4 (m:Bool) (a:Value) (n:Nat) (w:zA) (hw:Wd w) (ha:Sl w a ((zaa B9 n).map I)) (c:(zaa B9 n).length<=1000):
 qJ 233 #[.agg #[zg m,a]] w (St (zE (if m then-(n:Int) else n))):=by
 rcases xD n with rfl|b
 ·rw[zaz] at ha
  refine zzM (zuw m a w ha) λd b=>?_;exact⟨by cases m<;>simp[zb9],b⟩
 ·exact zwp m a n _ rfl w hw ha b c
def sgn (m:Bool) (n:Nat):Int:=if m then-(n:Int) else n
theorem zkw (n:Nat):sgn zu n=n:=by simp[sgn]
theorem zxb (n:Nat):sgn zt n= -(n:Int):=by simp[sgn]
theorem zge (m:Bool) (n:Nat):(sgn m n).natAbs=n:=by cases m<;>simp[sgn]
theorem zcs (x:Int):sgn (decide (x<0)) x.natAbs=x:=by
 unfold sgn;by_cases h:x<0
 ·simp[h];omega
 ·simp[h];omega
theorem ztv (x:Int):sgn (!decide (x<0)) x.natAbs= -x:=by
 unfold sgn;by_cases h:x<0
 ·simp[h];omega
 ·simp[h];omega
theorem zux {n k:Nat} (a:0<k) (h:(zD n).length<=9*k):(zaa B9 n).length<=k:=by
 refine zfv (by decide) ?_;rw[show B9=10^9 from rfl,<-Nat.pow_mul];exact(zaf n (9*k) (by omega)).1 h
def resL (z:Int):List UInt8:=if digs z<=300 then zE z else[]
def resE (z:Int):Int:=if digs z<=300 then 0 else 4
theorem zcf {z:Int} (h:digs z<=300):resL z=zE z:=if_pos h
theorem zcg {z:Int} (h:digs z<=300):resE z=0:=if_pos h
theorem zhz {x y:Int} {k:Nat} (a:0<k) (b:digs x<=k) (hy:digs y<=k):digs (x+y)<=k+1:=by
 rw[za3 _ _ (by omega),yO];rw[za3 _ _ a] at b hy;have:=Int.natAbs_add_le x y;omega
theorem zy1 (x:Int):digs (-x)=digs x:=by unfold digs;rw[Int.natAbs_neg]
theorem zq2 {x y:Int} {i j:Nat} (b:0<i) (c:0<j) (a:digs x<=i) (hy:digs y<=j):digs (x*y)<=i+j:=by
 rw[za3 _ _ (by omega),Int.natAbs_mul,Nat.pow_add];rw[za3 _ _ b] at a;rw[za3 _ _ c] at hy;exact Nat.mul_lt_mul'' a hy
theorem zb4 {z:Int} {k:Nat} (a:0<k) (h:digs z<=9*k):(zaa B9 z.natAbs).length<=k:=zux a h
theorem zwq (m:Bool) (l:Value) (n:Nat) (w:zA) (hw:Wd w) (ha:Sl w l ((zaa B9 n).map I)) (v:(zaa B9 n).length<=1000) (h:digs (sgn m n)<=300):
 qJ 190 #[.agg #[zg m,l]] w (ze #[St (zE (sgn m n)),zj zm 0]):=by
 obtain⟨k,g,rfl, -⟩:=id ha;simp only[zV] at*
 have e:=λa s t=>zo4 m (z7 k (zaa B9 n).length g) n a s t v;have c:=λa=>Tryz.strings_TrimPrefix ⟨(zE (sgn m n)).toArray⟩ ⟨#[45]⟩ a;rw[show(⟨(zE (sgn m n)).toArray⟩:ByteArray).data.toList=zE (sgn m n) from rfl,show(⟨#[45]⟩:ByteArray).data.toList=[45] from rfl,zbi] at c;obtain⟨f,d⟩:=zzX (⟨(zD (sgn m n).natAbs).toArray⟩:ByteArray);have x:f.size=digs (sgn m n):=by rw[d];show(zD (sgn m n).natAbs).toArray.size=_;simp[digs]
 rw[<-d] at c;change ∀a,_->_->zC _ _ _ _ (λi C=>i=zo (St (zE (sgn m n)))/\_) at e;generalize sgn m n=E at*
 have A:¬(300<(f.size:Int)):=by omega
 have B:(f.size:Int)<=300:=by omega
 have r:=hid e;clear e;have p:=hid c;clear c;have o:=hid ha;clear ha;have q:=hid hw;clear hw d x h;generalize (zaa B9 n).length=y at*
 go_enter Tryz.func190,Tryz.ntmps190;go_wp21;have b:qL w (w.alloc (zn #[zg m,z7 k y g] 271)):=(zM _ w).alloc (zN _) _;refine zzM (r _ (q.below b) (o.below b)) λz j=>?_;have u:=b.trans (j.mono (by simp));clear b j;go_wp21;refine(p z).mono ?_;rintro i D ⟨rfl,rfl⟩;go_wp21;go_ret2;exact⟨rfl,u⟩
theorem zsv (m:Bool) (l:Value) (n:Nat) (w:zA) (hw:Wd w) (ha:Sl w l ((zaa B9 n).map I)) (v:(zaa B9 n).length<=1000) (h:300<digs (sgn m n)):
 qJ 190 #[.agg #[zg m,l]] w (ze #[St [],zj zm 4]):=by
 obtain⟨j,f,rfl, -⟩:=id ha;simp only[zV] at*
 have e:=λa s t=>zo4 m (z7 j (zaa B9 n).length f) n a s t v;have c:=λa=>Tryz.strings_TrimPrefix ⟨(zE (sgn m n)).toArray⟩ ⟨#[45]⟩ a;rw[show(⟨(zE (sgn m n)).toArray⟩:ByteArray).data.toList=zE (sgn m n) from rfl,show(⟨#[45]⟩:ByteArray).data.toList=[45] from rfl,zbi] at c;obtain⟨k,d⟩:=zzX (⟨(zD (sgn m n).natAbs).toArray⟩:ByteArray);have x:k.size=digs (sgn m n):=by rw[d];show(zD (sgn m n).natAbs).toArray.size=_;simp[digs]
 rw[<-d] at c;change ∀a,_->_->zC _ _ _ _ (λg B=>g=zo (St (zE (sgn m n)))/\_) at e;generalize sgn m n=D at*
 have A:(300<(k.size:Int)):=by omega
 have r:=hid e;clear e;have p:=hid c;clear c;have o:=hid ha;clear ha;have q:=hid hw;clear hw d x h;generalize (zaa B9 n).length=y at*
 go_enter Tryz.func190,Tryz.ntmps190;go_wp21;have b:qL w (w.alloc (zn #[zg m,z7 j y f] 271)):=(zM _ w).alloc (zN _) _;refine zzM (r _ (q.below b) (o.below b)) λz i=>?_;have u:=b.trans (i.mono (by simp));clear b i;go_wp21;refine(p z).mono ?_;rintro g C ⟨rfl,rfl⟩;go_wp21;go_ret2;exact⟨rfl,u⟩
theorem zez (m:Bool) (a:Value) (n:Nat) (w:zA) (hw:Wd w) (ha:Sl w a ((zaa B9 n).map I)) (b:(zaa B9 n).length<=1000):
 qJ 190 #[.agg #[zg m,a]] w (ze #[St (resL (sgn m n)),zj zm (resE (sgn m n))]):=by
 unfold resL resE;by_cases h:digs (sgn m n)<=300
 ·rw[if_pos h,if_pos h];exact zwq m a n w hw ha b h
 ·rw[if_neg h,if_neg h];exact zsv m a n w hw ha b (by omega)
end
end Go.Proofs.YtjmljcdbjakefaaGreatDoor
