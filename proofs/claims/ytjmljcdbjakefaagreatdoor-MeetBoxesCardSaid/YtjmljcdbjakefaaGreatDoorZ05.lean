/- integer.add. -/
import Derived.Test.YtjmljcdbjakefaaGreatDoorZ04
set_option maxRecDepth 100000
set_option maxHeartbeats 8000000
open Go.Value renaming slice → z7, string → z8, tuple → ze, bool → zg, agg → zh, int → zj
open Go.IntKind renaming i64 → zm
open Go.Obj renaming cells → zn
open Go.Ending renaming returned → zo
open Option renaming none → zp, some → zq
open Bool renaming true → zt, false → zu
open Go renaming World → zA, Calls → zC
open Go.Lib renaming decDigits → zD, itoa → zE
open Go.Proofs.Tryz renaming prog → zF
open Go.World renaming alloc_heap_new → zG, size_alloc → zH
open Go.IntWalk renaming i64_in → zI
open Go.RowKit renaming intOf → zL
open Go.RowKit.Below renaming refl → zM, heap_setCell → yE
open Nat renaming le_refl → zN, le_trans → zO, mod_lt → zP, zero_le → zR, lt_of_lt_of_le → zS, pow_le_pow_right → yF
open List renaming append_nil → yH, cons_append → yM
open Int renaming natAbs_mul → yK, natAbs_natCast → yY
namespace Go.Proofs.YtjmljcdbjakefaaGreatDoor
section
open Go.RowKit Go.Shelf Lib Str Limb
attribute [local go_sem] Oper.semAt_some
def zni (w:zA) (z:Int) (e:Ending) (w':zA):Prop:=
 ∃m v n,e=zo (zh #[zg m,v])/\sgn m n=z/\Sl w' v ((zaa B9 n).map I)/\Below w.heap.size w w'
theorem z09 (a b:Value) (m n:Nat) (w:zA) (ha:Sl w a ((zaa B9 m).map I)) (h:Sl w b ((zaa B9 n).map I)) (i:(zaa B9 m).length<=1000) (j:(zaa B9 n).length<=1000):
 zC zF 235 #[a,b,.func (.func 236) #[] #[]] w λe w'=>∃p c k,e=zo (z7 p k c)/\Sl w' (z7 p k c) ((zaa B9 (m+n)).map I)/\Below w.heap.size w w':=by
 refine(zqs a b _ _ w ha h (zak (by decide) m) (zak (by decide) n) i j).mono ?_;rintro e w' ⟨l,rfl,d,g⟩;rw[zov (by decide) (zak (by decide) m) (zak (by decide) n),zam (by decide),zam (by decide)] at d;have f:=Sl.of_own d;obtain⟨p,c,e, -⟩:=id f;subst e;exact⟨p,c,_,rfl,f,g⟩
theorem zq3 (a b:Value) (m n:Nat) (w:zA) (ha:Sl w a ((zaa B9 m).map I)) (i:Sl w b ((zaa B9 n).map I)) (j:(zaa B9 m).length<=1000) (l:(zaa B9 n).length<=1000) (h:n<=m):
 zC zF 235 #[a,b,.func (.func 237) #[] #[]] w λe w'=>∃p c k,e=zo (z7 p k c)/\Sl w' (z7 p k c) ((zaa B9 (m-n)).map I)/\Below w.heap.size w w':=by
 refine(zpr a b _ _ w ha i (zak (by decide) m) (zak (by decide) n) j l).mono ?_;rintro e w' ⟨o,rfl,d,g⟩;rw[znb (by decide) (zak (by decide) m) (zak (by decide) n) (by rw[zam (by decide),zam (by decide)];exact h) _ (by omega) (by omega),zam (by decide),zam (by decide)] at d;have f:=Sl.of_own d;obtain⟨p,c,e, -⟩:=id f;subst e;exact⟨p,c,_,rfl,f,g⟩
theorem zog (m c:Bool) (an ao:Value) (d e:Nat) (w:zA) (Z:Sl w an ((zaa B9 d).map I)) (hy:Sl w ao ((zaa B9 e).map I)) (M:(zaa B9 d).length<=1000) (N:(zaa B9 e).length<=1000):
 zC zF 221 #[zh #[zg m,an],zh #[zg c,ao]] w (zni w (sgn m d+sgn c e)):=by
 obtain⟨q,k,rfl, -⟩:=id Z;obtain⟨r,l,rfl, -⟩:=id hy;simp only[List.length_map] at*
 have af:=λa n j=>zi9 (z7 q (zaa B9 d).length k) (z7 r (zaa B9 e).length l) d e a n j M N;have aj:=λa n j=>z09 (z7 q (zaa B9 d).length k) (z7 r (zaa B9 e).length l) d e a n j M N;have ah:=λ(h:e<=d) a n j=>zq3 (z7 q (zaa B9 d).length k) (z7 r (zaa B9 e).length l) d e a n j M N h;have ai:=λ(h:d<e) a n j=>zq3 (z7 r (zaa B9 e).length l) (z7 q (zaa B9 d).length k) e d a n j N M (by omega);have y:((m==c)=zt/\c=m)\/((m==c)=zu/\c=(!m)/\e<=d)\/((m==c)=zu/\c=(!m)/\d<e):=by
  rcases Nat.lt_or_ge d e with h|h<;>cases m<;>cases c<;>simp[h]
 generalize (zaa B9 d).length=E at*
 generalize (zaa B9 e).length=F at*
 have a3:=hid aj;have a1:=hid ah;have a2:=hid ai;have au:=hid af;have S:=hid Z;have T:=hid hy;clear aj ah ai af Z hy;rcases y with⟨ag,J⟩|⟨ag,J,D⟩|⟨ag,J,D⟩
 case' inl=>have K:=hid a3.out;have A:=hid J
 case' inr.inl=>have K:=hid (a1 D);have A:=hid D
 case' inr.inr=>have K:=hid (a2 D);have A:=hid D
 all_goals
  have a0:=hid J;clear a3 a1 a2 J
  try clear D
  go_enter Tryz.func221,Tryz.ntmps221;go_wp21;obtain⟨b,C⟩:=zzX (((w.alloc (zn #[zg m,z7 q E k] 271)).alloc (zn #[zg c,z7 r F l] 271)).alloc (zn #[zg zu,z7 zp 0 0] 271));have o:qL w b:=by rw[C];exact(((zM _ w).alloc (zN _) _).alloc (by simp) _).alloc (by simp;omega) _
  have b2:b.heap[w.heap.size]? =zq (zn #[zg m,z7 q E k] 271 (0,0)):=by
   rw[C];exact(Below.heap_alloc _ _ _ (by simp only[zH];omega)).trans ((Below.heap_alloc _ _ _ (by simp only[zH];omega)).trans (zG w _))
  have B:b.heap[w.heap.size+1]? =zq (zn #[zg c,z7 r F l] 271 (0,0)):=by
   rw[C];refine(Below.heap_alloc _ _ _ (by simp only[zH];omega)).trans ?_;have:=zG (w.alloc (zn #[zg m,z7 q E k] 271)) (zn #[zg c,z7 r F l] 271);rwa [zH] at this
  have i:b.heap[w.heap.size+1+1]? =zq (zn #[zg zu,z7 zp 0 0] 271 (0,0)):=by
   rw[C];have:=zG ((w.alloc (zn #[zg m,z7 q E k] 271)).alloc (zn #[zg c,z7 r F l] 271)) (zn #[zg zu,z7 zp 0 0] 271);rwa [zH,zH] at this
  rw[<-C];clear C
  try
   refine(au b (S.below o) (T.below o)).mono ?_;rintro aw a5 ⟨aa,rfl,⟨az,a'⟩,H⟩
   first|have b0:0<=aa:=by have:=A.out;omega|have b0:¬0<=aa:=by have:=A.out;omega
   clear az a';replace b2:=(H.block _ (Array.getElem?_eq_some_iff.1 b2).1).trans b2;replace B:=(H.block _ (Array.getElem?_eq_some_iff.1 B).1).trans B;replace i:=(H.block _ (Array.getElem?_eq_some_iff.1 i).1).trans i;replace o:qL w a5:=o.trans (H.mono o.size);clear H;clear b;obtain⟨b,rfl⟩:=zzX a5;go_wp2
  have a6:∀a:zA,a.heap[w.heap.size]? =b.heap[w.heap.size]? ->a.cell? ⟨w.heap.size,0,zp⟩=zq (zg m):=λa h=>by simp[World.cell?,h,b2]
  have a7:∀a:zA,a.heap[w.heap.size]? =b.heap[w.heap.size]? ->a.cell? ⟨w.heap.size,1,zp⟩=zq (z7 q E k):=λa h=>by simp[World.cell?,h,b2]
  have a8:∀a:zA,a.heap[w.heap.size+1]? =b.heap[w.heap.size+1]? ->a.cell? ⟨w.heap.size+1,0,zp⟩=zq (zg c):=λa h=>by simp[World.cell?,h,B]
  have a9:∀a:zA,a.heap[w.heap.size+1]? =b.heap[w.heap.size+1]? ->a.cell? ⟨w.heap.size+1,1,zp⟩=zq (z7 r F l):=λa h=>by simp[World.cell?,h,B]
  have O:=hid a6;have P:=hid a7;have Q:=hid a8;have R:=hid a9;clear a6 a7 a8 a9;have b3:w.heap.size+1+1<b.heap.size:=(Array.getElem?_eq_some_iff.1 i).1;have ap:=hid i;clear b2 B i;refine zey 6 (λa=>a.cell? ⟨w.heap.size,0,zp⟩=zq (zg m)/\a.cell? ⟨w.heap.size,1,zp⟩=zq (z7 q E k)/\a.cell? ⟨w.heap.size+1,0,zp⟩=zq (zg c)/\a.cell? ⟨w.heap.size+1,1,zp⟩=zq (z7 r F l))
   (by kernel_rfl) (by kernel_rfl) ⟨O _ rfl,P _ rfl,Q _ rfl,R _ rfl⟩ ?_
  simp only[List.take_succ_cons,List.take_zero,List.drop_succ_cons,List.drop_zero]
  repeat(apply zer (by rfl);(focus(rintro a ⟨n,j,b4,b5⟩;go_simp;try with_reducible rfl));try simp only[zzQ])
  refine ze6 ?_;refine zbt (by rfl) λy t=>?_;go_simp
  first|refine(K b.drew (S.below o.drew) (T.below o.drew)).mono ?_|refine(K b.drew (T.below o.drew) (S.below o.drew)).mono ?_
  rintro aw g ⟨p,s,x,rfl,ak,G⟩;have z:g.heap[w.heap.size]? =b.heap[w.heap.size]? :=G.block _ (by show _<b.heap.size;omega);have L:g.heap[w.heap.size+1]? =b.heap[w.heap.size+1]? :=G.block _ (by show _<b.heap.size;omega);have i:g.heap[w.heap.size+1+1]? =zq (zn #[zg zu,z7 zp 0 0] 271 (0,0)):=(G.block _ (by show _<b.heap.size;omega)).trans ap.out;have ad:qL w g:=o.drew.trans (G.mono (by show _<=b.heap.size;omega));have Y:=And.intro (O g z) (And.intro (P g z) (And.intro (Q g L) (R g L)));have aq:=hid z;have ar:=hid L;clear z L G;have av:=hid ak;clear ak;refine t _ _ Y ?_;clear t y
  try simp only[zzQ]
  refine zbt (by rfl) λy t=>?_;go_simp;refine t _ _ Y ?_;clear t y
  try simp only[zzQ]
  have U:g.cell? ⟨w.heap.size+1+1,0,zp⟩=zq (zg zu):=by simp[World.cell?,i]
  have ab:g.cell? ⟨w.heap.size+1+1,1,zp⟩=zq (z7 zp 0 0):=by simp[World.cell?,i]
  have ax:g.frozen? ⟨w.heap.size+1+1,0,zp⟩=zu:=by simp[World.frozen?,i]
  have ay:g.frozen? ⟨w.heap.size+1+1,1,zp⟩=zu:=by simp[World.frozen?,i]
  refine zbt (by rfl) λy t=>?_;go_simp;have W:∀f:Bool,((g.setCell ⟨w.heap.size+1+1,0,zp⟩ (zg f)).setCell ⟨w.heap.size+1+1,1,zp⟩ (z7 p x s)).heap[w.heap.size]? =b.heap[w.heap.size]? :=λ_=>
   (yE _ _ _ _ (by show w.heap.size≠w.heap.size+1+1;omega)).trans ((yE _ _ _ _ (by show w.heap.size≠w.heap.size+1+1;omega)).trans aq.out)
  have X:∀f:Bool,((g.setCell ⟨w.heap.size+1+1,0,zp⟩ (zg f)).setCell ⟨w.heap.size+1+1,1,zp⟩ (z7 p x s)).heap[w.heap.size+1]? =b.heap[w.heap.size+1]? :=λ_=>
   (yE _ _ _ _ (by show w.heap.size+1≠w.heap.size+1+1;omega)).trans ((yE _ _ _ _ (by show w.heap.size+1≠w.heap.size+1+1;omega)).trans ar.out)
  refine t _ _ ⟨O _ (W _),P _ (W _),Q _ (X _),R _ (X _)⟩ ?_;clear t y W X
  try simp only[zzQ]
  refine ze7 ⟨rfl,?_⟩;have al:=λf:Bool=>av.set U (λb1=>by simp[I]) (zg f);have V:=λf:Bool=>(World.cell?_setCell_other _ _ _ (zg f) (show(⟨w.heap.size+1+1,0,zp⟩:Addr)≠⟨w.heap.size+1+1,1,zp⟩ by simp)).trans ab;have am:=λf:Bool=>(al f).set (V f) (λb1=>by simp[I]) (z7 p x s);have ac:=λf:Bool=>(World.cell?_setCell_other _ _ _ (z7 p x s) (show(⟨w.heap.size+1+1,1,zp⟩:Addr)≠⟨w.heap.size+1+1,0,zp⟩ by simp)).trans (za9 (u:=zg f) U);have z:=λf:Bool=>za9 (u:=z7 p x s) (V f);have ae:=λf:Bool=>(ad.setCell (p:=⟨w.heap.size+1+1,0,zp⟩) (by show w.heap.size<=w.heap.size+1+1;omega) (zg f)).setCell (p:=⟨w.heap.size+1+1,1,zp⟩) (by show w.heap.size<=w.heap.size+1+1;omega) (z7 p x s);clear al V U ab ax ay i Y ad;have a4:=hid am;clear am;go_wp2
  first
   |(refine bodyPost_ret (v:=zh #[zg m,z7 p x s]) ?_ rfl ⟨m,_,_,rfl,?_,a4 _,ae _⟩
     focus(simp[results,Tryz.results221,go_sem,ac,z];done)
     have n:=A.out;have j:=a0.out;cases m<;>cases c<;>first|exact absurd j (by decide)|(simp[sgn]<;>omega))
   |(refine bodyPost_ret (v:=zh #[zg c,z7 p x s]) ?_ rfl ⟨c,_,_,rfl,?_,a4 _,ae _⟩
     focus(simp[results,Tryz.results221,go_sem,ac,z];done)
     have n:=A.out;have j:=a0.out;cases m<;>cases c<;>first|exact absurd j (by decide)|(simp[sgn]<;>omega))
theorem lt18 {x:Int} (h:(zE x).length<=18): -1000000000000000000<x/\x<1000000000000000000:=by
 have c:=zbr x;have b:=(za3 x 18 (by omega)).1 (by omega);have a:(10:Nat)^18=1000000000000000000:=rfl;rw[a] at b;omega
theorem zbf {z:Int} (h: -10000000000000000000<z/\z<10000000000000000000):digs z<=19:=by
 rw[za3 _ _ (by omega)];have e:(10:Nat)^19=10000000000000000000:=rfl;rw[e];omega
theorem zwr (x y:Int) (e:(zE x).length<=18) (hy:(zE y).length<=18) (w:zA) (hw:Wd w):
 qJ 194 #[St (zE x),St (zE y)] w (ze #[St (resL (x+y)),zj zm (resE (x+y))]):=by
 obtain⟨q,r⟩:=lt18 e;obtain⟨s,t⟩:=lt18 hy;have c:digs (x+y)<=300:=zO (zbf (by omega)) (by omega);rw[zcf c,zcg c];have f:=λb=>zdh x y (zO (zbf (by omega)) (by omega)) (zO (zbf (by omega)) (by omega)) b;have i:=λb=>zdy x y e hy b;have j:=hid f;clear f;have k:=hid i;clear i e hy c;have l:=hid hw;clear hw;go_enter Tryz.func194,Tryz.ntmps194;go_wp21;refine zzM (j w) λn d=>?_;go_wp21;refine zzM (k n) λo g=>?_;have a:=d.trans (g.mono d.size);clear g d;go_wp21;refine zzM (zb3 (x+y) (by omega) (by omega) o (l.below a)) λp h=>?_;have m:=a.trans (h.mono a.size);clear h a;go_wp21;go_ret2;exact⟨rfl,m⟩
theorem z1b (x y:Int) (l:digs x<=300) (hy:digs y<=300) (h:18<(zE x).length\/18<(zE y).length) (w:zA) (hw:Wd w):
 qJ 194 #[St (zE x),St (zE y)] w (ze #[St (resL (x+y)),zj zm (resE (x+y))]):=by
 have o:=λa=>zdh x y l hy a;have t:=λa=>ze8 x y h a;have A:=λa=>zc3 x a (by omega);have B:=λa=>zc3 y a (by omega);have V:=zb4 (z:=x) (k:=100) (by omega) (by omega);have W:=zb4 (z:=y) (k:=100) (by omega) (by omega);have X:=zb4 (z:=x+y) (k:=100) (by omega) (zO (zhz (by omega) l hy) (by omega));have E:=hid o;clear o;have F:=hid t;clear t l hy h;have J:=hid hw;clear hw;have L:=hid A;have M:=hid B;clear A B;go_enter Tryz.func194,Tryz.ntmps194;go_wp21;refine zzM (E w) λC f=>?_;go_wp21;refine(F C).mono ?_;rintro c D ⟨rfl,rfl⟩;go_wp21;refine(L C).mono ?_;rintro c D ⟨R,rfl,b,p⟩;have g:=f.trans (p.mono f.size);clear p f;have n:=hid b;clear b;go_wp21;refine(M D).mono ?_;rintro c T ⟨S,rfl,v,j⟩;have b:=n.below j;have i:=g.trans (j.mono g.size);clear j g;have H:=hid b;have I:=hid v;clear b v n;go_wp21;refine(zog _ _ R S _ _ T H I (by omega) (by omega)).mono ?_;rintro c U ⟨P,Q,m,rfl,e,u,q⟩;rw[zcs,zcs] at e;have s:m=(x+y).natAbs:=by rw[<-e,zge]
 have d:=i.trans (q.mono i.size);clear q i;have K:=hid e;clear e;have G:=hid u;clear u;have O:(zaa B9 m).length<=1000:=by rw[s];omega
 clear s;go_wp21;refine(zez P Q m U (J.below d) G O).mono ?_;rw[K.out];rintro c Y ⟨rfl,r⟩;have N:=d.trans (r.mono d.size);clear r d;go_wp21;go_ret2;exact⟨rfl,N⟩
theorem z1c (x y:Int) (a:digs x<=300) (hy:digs y<=300) (w:zA) (hw:Wd w):
 qJ 194 #[St (zE x),St (zE y)] w (ze #[St (resL (x+y)),zj zm (resE (x+y))]):=by
 by_cases h:(zE x).length<=18/\(zE y).length<=18
 ·exact zwr x y h.1 h.2 w hw
 ·exact z1b x y a hy (by omega) w hw
theorem zbx {w:zA} {v:Value} {l:List Nat} (h:Sl w v (l.map I)):∃p k c,v=z7 p k c/\k=l.length:=by
 obtain⟨p,c,rfl, -⟩:=h;exact⟨p,_,c,rfl,by simp⟩
theorem zws (x y:Int) (e:(zE x).length<=18) (hy:(zE y).length<=18) (w:zA) (hw:Wd w):
 qJ 181 #[St (zE x),St (zE y)] w (ze #[St (resL (x-y)),zj zm (resE (x-y))]):=by
 obtain⟨q,r⟩:=lt18 e;obtain⟨s,t⟩:=lt18 hy;have c:digs (x-y)<=300:=zO (zbf (by omega)) (by omega);rw[zcf c,zcg c];have f:=λb=>zdh x y (zO (zbf (by omega)) (by omega)) (zO (zbf (by omega)) (by omega)) b;have i:=λb=>zdy x y e hy b;have j:=hid f;clear f;have k:=hid i;clear i e hy c;have l:=hid hw;clear hw;go_enter Tryz.func181,Tryz.ntmps181;go_wp21;refine zzM (j w) λn d=>?_;go_wp21;refine zzM (k n) λo g=>?_;have a:=d.trans (g.mono d.size);clear g d;go_wp21;refine zzM (zb3 (x-y) (by omega) (by omega) o (l.below a)) λp h=>?_;have m:=a.trans (h.mono a.size);clear h a;go_wp21;go_ret2;exact⟨rfl,m⟩
theorem z1d (x y:Int) (G:digs x<=300) (hy:digs y<=300) (h:18<(zE x).length\/18<(zE y).length) (w:zA) (hw:Wd w):
 qJ 181 #[St (zE x),St (zE y)] w (ze #[St (resL (x-y)),zj zm (resE (x-y))]):=by
 have M:=λb=>zdh x y G hy b;have R:=λb=>ze8 x y h b;have X:=λb=>zc3 x b (by omega);have Y:=λb=>zc3 y b (by omega);have ao:=zb4 (z:=x) (k:=100) (by omega) (by omega);have ap:=zb4 (z:=y) (k:=100) (by omega) (by omega);have aq:=zb4 (z:=x-y) (k:=100) (by omega) (zO (by rw[Int.sub_eq_add_neg];exact zhz (by omega) G (by rw[zy1];exact hy)) (by omega));have a3:=hid M;clear M;have a4:=hid R;clear R G hy h;have a9:=hid hw;clear hw;have ab:=hid X;have ac:=hid Y;clear X Y;go_enter Tryz.func181,Tryz.ntmps181;go_wp21;refine zzM (a3 w) λa0 C=>?_;go_wp21;refine(a4 a0).mono ?_;rintro r j ⟨rfl,rfl⟩;go_wp21;refine(ac a0).mono ?_;rintro r j ⟨ar,rfl,m,N⟩;have D:=C.trans (N.mono C.size);clear N C;obtain⟨i,g,e,rfl, -⟩:=zbx m;have H:=hid m;clear m;have Z:=ztv y;generalize P:decide (y<0)=l at*
 have ag:=hid Z;clear Z;have an:=hid P;clear P
 go_wp2;have o:=zG j (zn #[zg !l,z7 i g e] 271);have L:=D.alloc D.size (zn #[zg !l,z7 i g e] 271);have O:qL j (j.alloc (zn #[zg !l,z7 i g e] 271)):=(zM _ _).alloc (zN _) _;have a7:=hid (H.below O);clear H O;generalize j.alloc (zn #[zg !l,z7 i g e] 271)=c at*
 obtain⟨a,f⟩:=zzX j.heap.size;rw[<-f] at o⊢;clear f D j;have I:∀b:zA,b.heap[a]? =c.heap[a]? ->b.cell? ⟨a,0,zp⟩=zq (zg !l)/\b.cell? ⟨a,1,zp⟩=zq (z7 i g e):=λb h=>⟨by simp[World.cell?,h,o],by simp[World.cell?,h,o]⟩;have q:=hid I;clear I;have U:a<c.heap.size:=(Array.getElem?_eq_some_iff.1 o).1;clear o;refine zwm [(0,zt),(2,zt),(1,zu),(3,zu),(4,zu),(5,zt),(6,zt),(7,zt),(8,zt)] (λb=>b.cell? ⟨a,0,zp⟩=zq (zg !l)/\b.cell? ⟨a,1,zp⟩=zq (z7 i g e)) (by kernel_rfl) (by kernel_rfl) (q _ rfl) ?_
 (apply MQ.take (by simp only[List.getElem?_toArray,List.getElem?_cons_zero];rfl) (by rfl);(focus(rintro b ⟨J,K⟩;go_simp;try with_reducible rfl));try simp only[zzQ])
 (apply MQ.take (by simp only[List.getElem?_toArray,List.getElem?_cons_succ,List.getElem?_cons_zero];rfl) (by rfl);(focus(rintro b ⟨J,K⟩;go_simp;try with_reducible rfl));try simp only[zzQ])
 (refine MQ.only (by simp only[List.getElem?_toArray,List.getElem?_cons_succ,List.getElem?_cons_zero];rfl) (by rfl) λn d=>?_;go_simp)
 refine(ab c.drew).mono ?_;rintro r v ⟨al,rfl,T,p⟩;have A:v.heap[a]? =c.heap[a]? :=p.block a U;have E:=L.drew.trans (p.mono (by show _<=c.heap.size;exact L.size));have m:=a7.below (((zM c.heap.size c).drew).trans p);have V:a<v.heap.size:=zS U p.size;have a8:=hid m;have a6:=hid T;have ad:=q v A;have a1:=hid A;clear p m T A
 (refine d _ _ ad ?_;clear d n;try simp only[zzQ])
 (refine MQ.only (by simp only[List.getElem?_toArray,List.getElem?_cons_succ,List.getElem?_cons_zero];rfl) (by rfl) λn d=>?_;go_simp)
 refine(zog _ _ al (z7 i g e) _ _ v a6 a8 (by omega) (by omega)).mono ?_;rintro r z ⟨W,ak,u,rfl,f,S,t⟩;rw[ag.out,zcs] at f;have Q:u=(x-y).natAbs:=by rw[show x-y=x+ -y from Int.sub_eq_add_neg,<-f,zge]
 have s:=E.trans (t.mono E.size);have B:z.heap[a]? =c.heap[a]? :=(t.block a V).trans a1.out;have ae:=q z B;have aj:a<z.heap.size:=zS V t.size;have a2:=hid B;have aa:=hid (show sgn W u=x-y by rw[f];omega);have a5:=hid S;have ai:(zaa B9 u).length<=1000:=by rw[Q];omega
 clear Q t E B f S
 (refine d _ _ ae ?_;clear d n;try simp only[zzQ])
 (refine MQ.only (by simp only[List.getElem?_toArray,List.getElem?_cons_succ,List.getElem?_cons_zero];rfl) (by rfl) λn d=>?_;go_simp)
 refine(zez W ak u z (a9.below s) a5 ai).mono ?_;rw[aa.out];rintro r am ⟨rfl,F⟩;have ah:=s.trans (F.mono s.size);have af:=q am ((F.block a aj).trans a2.out);clear F s
 (refine d _ _ af ?_;clear d n;try simp only[zzQ])
 iterate 4 (apply MQ.take (by simp only[List.getElem?_toArray,List.getElem?_cons_succ,List.getElem?_cons_zero];rfl) (by rfl);(focus(rintro b ⟨J,K⟩;go_simp;try with_reducible rfl));try simp only[zzQ])
 refine MQ.nil ⟨rfl,?_⟩;go_wp21;go_ret2;exact⟨rfl,ah⟩
theorem z1e (x y:Int) (a:digs x<=300) (hy:digs y<=300) (w:zA) (hw:Wd w):
 qJ 181 #[St (zE x),St (zE y)] w (ze #[St (resL (x-y)),zj zm (resE (x-y))]):=by
 by_cases h:(zE x).length<=18/\(zE y).length<=18
 ·exact zws x y h.1 h.2 w hw
 ·exact z1d x y a hy (by omega) w hw
theorem zy4 (a b:Value) (m n:Nat) (w:zA) (ha:Sl w a ((zaa B9 m).map I)) (h:Sl w b ((zaa B9 n).map I)) (i:(zaa B9 m).length<=1000) (j:(zaa B9 n).length<=1000):
 zC zF 191 #[a,b] w λe w'=>∃p c k,e=zo (z7 p k c)/\Sl w' (z7 p k c) ((zaa B9 (m*n)).map I)/\Below w.heap.size w w':=by
 refine(zox a b _ _ w ha h (zak (by decide) m) (zak (by decide) n) i j).mono ?_;rintro e w' ⟨l,rfl,d,g⟩;rw[zjp (by decide) (zak (by decide) m) (zak (by decide) n),zam (by decide),zam (by decide)] at d;have f:=Sl.of_own d;obtain⟨p,c,e, -⟩:=id f;subst e;exact⟨p,c,_,rfl,f,g⟩
theorem z1f (x y:Int):sgn (decide (x<0) !=decide (y<0)) (x.natAbs*y.natAbs)=x*y:=by
 unfold sgn;have e:((x.natAbs*y.natAbs:Nat):Int)=(x.natAbs:Int)*y.natAbs:=by simp
 by_cases h1:x<0<;>by_cases h2:y<0
 ·simp only[h1,h2,decide_true,bne_self_eq_false,Bool.false_eq_true,if_false]
  rw[e,show(x.natAbs:Int)= -x by omega,show(y.natAbs:Int)= -y by omega,Int.neg_mul_neg]
 ·have:(decide (x<0) !=decide (y<0))=zt:=by simp[h1,h2]
  rw[this,if_pos rfl,e,show(x.natAbs:Int)= -x by omega,show(y.natAbs:Int)=y by omega,Int.neg_mul,Int.neg_neg]
 ·have:(decide (x<0) !=decide (y<0))=zt:=by simp[h1,h2]
  rw[this,if_pos rfl,e,show(x.natAbs:Int)=x by omega,show(y.natAbs:Int)= -y by omega,Int.mul_neg,Int.neg_neg]
 ·simp only[h1,h2,decide_false,bne_self_eq_false,Bool.false_eq_true,if_false]
  rw[e,show(x.natAbs:Int)=x by omega,show(y.natAbs:Int)=y by omega]
theorem z1g {x y:Int} (h:(zE x).length+(zE y).length<=18): -1000000000000000000<x*y/\x*y<1000000000000000000:=by
 have c:=zbr x;have d:=zbr y;have f:=zbn x;have g:=zbn y;have e:=zq2 (x:=x) (y:=y) (i:=digs x) (j:=digs y) (by omega) (by omega) (zN _) (zN _);have b:=(za3 (x*y) 18 (by omega)).1 (by omega);have a:(10:Nat)^18=1000000000000000000:=rfl;rw[a] at b;omega
theorem zwt (x y:Int) (h:(zE x).length+(zE y).length<=18) (w:zA) (hw:Wd w):
 qJ 145 #[St (zE x),St (zE y)] w (ze #[St (resL (x*y)),zj zm (resE (x*y))]):=by
 obtain⟨C,D⟩:=lt18 (x:=x) (by omega);obtain⟨E,F⟩:=lt18 (x:=y) (by omega);obtain⟨z,A⟩:=z1g h;have c:digs (x*y)<=300:=zO (zbf (by omega)) (by omega);rw[zcf c,zcg c];have e:=λa=>zdh x y (zO (zbf (by omega)) (by omega)) (zO (zbf (by omega)) (by omega)) a;have j:=λa=>zdy x y (by omega) (by omega) a;have u:decide (((zE x).length:Int)+((zE y).length:Int)<=18)=zt:=by simp;omega
 have i:=λa p=>zb3 (x*y) (by omega) (by omega) a p;have v:zm.wrap (x*y)=x*y:=zI _ (by omega);have s:(zE x).length<=18:=by omega
 have t:(zE y).length<=18:=by omega
 have l:=hid i;clear i;have k:=hid e;clear e;have m:=hid j;clear j h c;have n:=hid hw;clear hw;go_enter Tryz.func145,Tryz.ntmps145;go_wp21;refine zzM (k w) λq d=>?_;go_wp21;refine zzM (m q) λr f=>?_;have b:=d.trans (f.mono d.size);clear f d;go_wp21;refine zzM (l r (n.below b)) λB g=>?_;have o:=b.trans (g.mono b.size);clear g b;go_wp21;go_ret2;exact⟨rfl,o⟩
theorem z1h (x y:Int) (L:digs x<=300) (hy:digs y<=300) (h:¬(zE x).length+(zE y).length<=18) (w:zA) (hw:Wd w):
 qJ 145 #[St (zE x),St (zE y)] w (ze #[St (resL (x*y)),zj zm (resE (x*y))]):=by
 have S:=λb=>zdh x y L hy b;have X:=λb=>zc3 x b (by omega);have Y:=λb=>zc3 y b (by omega);have ar:=zb4 (z:=x) (k:=100) (by omega) (by omega);have au:=zb4 (z:=y) (k:=100) (by omega) (by omega);have ag:=zb4 (z:=x*y) (k:=100) (by omega) (zO (zq2 (by omega) (by omega) L hy) (by omega));rw[yK] at ag;have aq:decide (((zE x).length:Int)+((zE y).length:Int)<=18)=zu:=by simp;omega
 have aj:=za7 x;have ak:=za7 y;have ao:(zE x).length<=301:=by omega
 have ap:(zE y).length<=301:=by omega
 clear aj ak;have a2:=hid S;clear S L hy h;have a6:=hid hw;clear hw;have a7:=hid X;have a8:=hid Y;clear X Y;go_enter Tryz.func145,Tryz.ntmps145;go_wp21;refine zzM (a2 w) λal F=>?_;go_wp21;refine(a7 al).mono ?_;rintro C am ⟨av,rfl,o,T⟩;have G:=F.trans (T.mono F.size);clear T F;have p:=hid o;clear o;go_wp21;refine(a8 am).mono ?_;rintro C g ⟨aw,rfl,K,I⟩;have o:=p.below I;have u:=G.trans (I.mono G.size);clear I G p;obtain⟨f,e,d,rfl, -⟩:=zbx o;obtain⟨l,k,j,rfl, -⟩:=zbx K;have p:=hid o;have M:=hid K;clear o K;have Z:=z1f x y;generalize ae:decide (x<0)=c at*
 generalize af:decide (y<0)=b2 at*
 have ab:=hid Z;clear Z ae af
 go_wp2;have t:=(Below.heap_alloc (g.alloc (zn #[zg c,z7 f e d] 271)) (zn #[zg b2,z7 l k j] 271) g.heap.size (by simp)).trans (zG g (zn #[zg c,z7 f e d] 271));have n:=zG (g.alloc (zn #[zg c,z7 f e d] 271)) (zn #[zg b2,z7 l k j] 271);rw[zH] at n;have H:=(u.alloc u.size (zn #[zg c,z7 f e d] 271)).alloc (by have:=u.size;simp;omega) (zn #[zg b2,z7 l k j] 271);have J:qL g ((g.alloc (zn #[zg c,z7 f e d] 271)).alloc (zn #[zg b2,z7 l k j] 271)):=((zM _ _).alloc (zN _) _).alloc (by simp) _;have a4:=hid (p.below J);have a5:=hid (M.below J);clear p M J;generalize (g.alloc (zn #[zg c,z7 f e d] 271)).alloc (zn #[zg b2,z7 l k j] 271)=i at*
 obtain⟨a,V⟩:=zzX g.heap.size;rw[<-V] at t n⊢;clear V u g;have N:∀b:zA,b.heap[a]? =i.heap[a]? ->b.heap[a+1]? =i.heap[a+1]? ->(b.cell? ⟨a,0,zp⟩=zq (zg c)/\b.cell? ⟨a,1,zp⟩=zq (z7 f e d))/\b.cell? ⟨a+1,0,zp⟩=zq (zg b2)/\b.cell? ⟨a+1,1,zp⟩=zq (z7 l k j):=
  λb h m=>⟨⟨by simp[World.cell?,h,t],by simp[World.cell?,h,t]⟩,by simp[World.cell?,m,n],by simp[World.cell?,m,n]⟩
 have A:=hid N;clear N;have W:a+1<i.heap.size:=(Array.getElem?_eq_some_iff.1 n).1;clear t n;refine zwm [(0,zt),(1,zt),(2,zt),(3,zt),(4,zt),(5,zt),(6,zt),(7,zt),(8,zt),(9,zu),(10,zt),(11,zu),(12,zt),(13,zt),(14,zt),(15,zt)]
  (λb=>(b.cell? ⟨a,0,zp⟩=zq (zg c)/\b.cell? ⟨a,1,zp⟩=zq (z7 f e d))/\b.cell? ⟨a+1,0,zp⟩=zq (zg b2)/\b.cell? ⟨a+1,1,zp⟩=zq (z7 l k j)) (by kernel_rfl) (by kernel_rfl) (A _ rfl rfl) ?_
 iterate 9 (apply MQ.take (by simp only[List.getElem?_toArray,List.getElem?_cons_succ,List.getElem?_cons_zero];rfl) (by rfl);(focus(rintro b ⟨⟨O,P⟩,Q,R⟩;go_simp;try with_reducible rfl));try simp only[zzQ])
 (refine MQ.only (by simp only[List.getElem?_toArray,List.getElem?_cons_succ,List.getElem?_cons_zero];rfl) (by rfl) λB q=>?_;go_simp)
 refine(zy4 (z7 f e d) (z7 l k j) _ _ i.drew (a4.below (zM _ _).drew) (a5.below (zM _ _).drew) (by omega) (by omega)).mono ?_;rintro C s ⟨ai,ac,m,rfl,U,r⟩;have v:=H.drew.trans (r.mono (by show _<=i.heap.size;exact H.size));have D:s.heap[a]? =i.heap[a]? :=r.block a (by show a<i.heap.size;omega);have E:s.heap[a+1]? =i.heap[a+1]? :=r.block (a+1) W;have ah:a+1<s.heap.size:=zS W r.size;have a9:=A s D E;have a0:=hid D;have a1:=hid E;have a3:=hid U;clear r D E U H
 (refine q _ _ a9 ?_;clear q B;try simp only[zzQ])
 (apply MQ.take (by simp only[List.getElem?_toArray,List.getElem?_cons_succ,List.getElem?_cons_zero];rfl) (by rfl);(focus(rintro b ⟨⟨O,P⟩,Q,R⟩;go_simp;try with_reducible rfl));try simp only[zzQ])
 (refine MQ.only (by simp only[List.getElem?_toArray,List.getElem?_cons_succ,List.getElem?_cons_zero];rfl) (by rfl) λB q=>?_;go_simp)
 refine(zez (c !=b2) (z7 ai m ac) (x.natAbs*y.natAbs) s (a6.below v) a3 (by omega)).mono ?_;rw[ab.out];rintro C an ⟨rfl,z⟩;have ad:=v.trans (z.mono v.size);have aa:=A an ((z.block a (by omega)).trans a0.out) ((z.block (a+1) ah).trans a1.out);clear z v
 (refine q _ _ aa ?_;clear q B;try simp only[zzQ])
 iterate 4 (apply MQ.take (by simp only[List.getElem?_toArray,List.getElem?_cons_succ,List.getElem?_cons_zero];rfl) (by rfl);(focus(rintro b ⟨⟨O,P⟩,Q,R⟩;go_simp;try with_reducible rfl));try simp only[zzQ])
 refine MQ.nil ⟨rfl,?_⟩;go_wp21;go_ret2;exact⟨rfl,ad⟩
theorem zhk (x y:Int) (a:digs x<=300) (hy:digs y<=300) (w:zA) (hw:Wd w):
 qJ 145 #[St (zE x),St (zE y)] w (ze #[St (resL (x*y)),zj zm (resE (x*y))]):=by
 by_cases h:(zE x).length+(zE y).length<=18
 ·exact zwt x y h w hw
 ·exact z1h x y a hy h w hw
def cmpZ (x y:Int):Int:=if x<y then-1 else if x>y then 1 else 0
theorem zpx (x y:Int) (c:(zE x).length<=18) (hy:(zE y).length<=18) (w:zA):
 qJ 196 #[St (zE x),St (zE y)] w (ze #[zj zm (cmpZ x y),zj zm 0]):=by
 obtain⟨q,r⟩:=lt18 c;obtain⟨s,t⟩:=lt18 hy;have e:=λa=>zdh x y (zO (zbf (by omega)) (by omega)) (zO (zbf (by omega)) (by omega)) a;have h:=λa=>zdy x y c hy a;have g:∀a,zC zF 202 #[zj zm x,zj zm y] a λd m=>d=zo (zj zm (cmpZ x y))/\m=a:=λa=>Tryz.cmp_Compare_int x y a;have i:=hid e;clear e;have j:=hid g;clear g;have k:=hid h;clear h c hy;go_enter Tryz.func196,Tryz.ntmps196;go_wp21;refine zzM (i w) λn b=>?_;go_wp21;refine zzM (k n) λo f=>?_;have l:=b.trans (f.mono b.size);clear f b;go_wp21;refine(j o).mono ?_;rintro d p ⟨rfl,rfl⟩;go_wp21;go_ret2;exact⟨rfl,l⟩
theorem zsw (x y:Int) (P:digs x<=300) (hy:digs y<=300) (h:18<(zE x).length\/18<(zE y).length) (w:zA):
 qJ 196 #[St (zE x),St (zE y)] w (ze #[zj zm (cmpZ x y),zj zm 0]):=by
 have I:=λa=>zdh x y P hy a;have N:=λa=>ze8 x y h a;have Q:=λa=>zc3 x a (by omega);have R:=λa=>zc3 y a (by omega);have a9:=zb4 (z:=x) (k:=100) (by omega) (by omega);have aa:=zb4 (z:=y) (k:=100) (by omega) (by omega);have X:=hid I;clear I;have Y:=hid N;clear N P hy h;have Z:=hid Q;have a0:=hid R;clear Q R;go_enter Tryz.func196,Tryz.ntmps196;go_wp21;refine zzM (X w) λU q=>?_;go_wp21;refine(Y U).mono ?_;rintro b V ⟨rfl,rfl⟩;go_wp21;refine(Z U).mono ?_;rintro b V ⟨ac,rfl,c,J⟩;have r:=q.trans (J.mono q.size);clear J q;have f:=hid c;clear c;go_wp21;refine(a0 V).mono ?_;rintro b W ⟨ad,rfl,A,u⟩;have c:=f.below u;have k:=r.trans (u.mono r.size);clear u r f;obtain⟨D,B,n,rfl, -⟩:=zbx c;obtain⟨E,C,o,rfl, -⟩:=zbx A;have f:=hid c;have F:=hid A;clear c A;have S:=zcs x;have T:=ztv y;generalize a5:decide (x<0)=G at*
 generalize a6:decide (y<0)=b2 at*
 have a1:=hid S;have a2:=hid T;clear S T a5 a6
 go_wp21;have s:=(k.alloc k.size (zn #[zg G,z7 D B n] 271)).alloc (by have:=k.size;simp;omega) (zn #[zg !b2,z7 E C o] 271);have v:qL W ((W.alloc (zn #[zg G,z7 D B n] 271)).alloc (zn #[zg !b2,z7 E C o] 271)):=((zM _ _).alloc (zN _) _).alloc (by simp) _;refine(zog _ _ (z7 D B n) (z7 E C o) _ _ _ (f.below v) (F.below v) (by omega) (by omega)).mono ?_;rintro b ae ⟨i,ab,e,rfl,g,O,K⟩;rw[a1.out,a2.out] at g;obtain⟨a8,d,a3,rfl,M⟩:=zbx O;have H:=s.trans (K.mono s.size);clear v s K k f F;have l:d=0↔e=0:=by rw[M];exact⟨λb=>(zbd (by decide) e).1 (List.length_eq_zero_iff.1 b),λb=>by rw[b,zaz];rfl⟩
 clear M O;have L:(e=0->cmpZ x y=0)/\(e≠0->i=zt->cmpZ x y= -1)/\(e≠0->i=zu->cmpZ x y=1):=by
  unfold cmpZ;refine⟨λh=>?_,λa4 p=>?_,λa4 p=>?_⟩
  ·subst h
   have:x=y:=by cases i<;>simp[sgn] at g<;>omega
   rw[if_neg (by omega),if_neg (by omega)]
  ·subst p;simp[sgn] at g;rw[if_pos (by omega)]
  ·subst p;simp[sgn] at g;rw[if_neg (by omega),if_pos (by omega)]
 have m:=hid L;clear L g;have t:=H.alloc H.size (zn #[zg i,z7 a8 d a3] 271);by_cases h0:e=0
 ·have a7:((d:Int)==0)=zt:=by rw[beq_iff_eq];have:=l.2 h0;omega
  have j:=hid h0;clear h0 l;go_wp21;go_ret2;exact⟨by rw[m.1 j.out];rfl,t⟩
 ·have a7:((d:Int)==0)=zu:=by rw[beq_eq_false_iff_ne];have:=mt l.1 h0;omega
  have j:=hid h0;clear h0 l;cases i
  ·go_wp21
   go_ret2;exact⟨by rw[m.2.2 j (by simp)];rfl,t⟩
  ·go_wp21
   go_ret2;exact⟨by rw[m.2.1 j (by simp)];rfl,t⟩
theorem zsx (x y:Int) (a:digs x<=300) (hy:digs y<=300) (w:zA):
 qJ 196 #[St (zE x),St (zE y)] w (ze #[zj zm (cmpZ x y),zj zm 0]):=by
 by_cases h:(zE x).length<=18/\(zE y).length<=18
 ·exact zpx x y h.1 h.2 w
 ·exact zsw x y a hy (by omega) w
theorem zmt (a b:Int):Int.gcd b (a.tmod b)=Int.gcd a b:=by
 unfold Int.gcd;rw[Int.natAbs_tmod,Nat.gcd_comm b.natAbs,<-Nat.gcd_rec,Nat.gcd_comm]
theorem zq4 (x y:Int) (a:digs x<=300) (hy:digs y<=300):digs (Int.gcd x y:Int)<=300:=by
 by_cases h0:x=0
 ·subst h0
  rw[Int.gcd_zero_left];unfold digs at*;simpa using hy
 ·rw[za3 _ _ (by omega)] at a⊢
  rw[yY];exact Nat.lt_of_le_of_lt (Nat.le_of_dvd (by omega) (Nat.gcd_dvd_left _ _)) a
theorem zwu (x y:Int) (m:(zE x).length<=18) (hy:(zE y).length<=18) (w:zA) (hw:Wd w):
 qJ 185 #[St (zE x),St (zE y)] w (ze #[St (zE (Int.gcd x y:Int)),zj zm 0]):=by
 obtain⟨v,z⟩:=lt18 m;obtain⟨A,B⟩:=lt18 hy;have p:=λd=>zdh x y (zO (zbf (by omega)) (by omega)) (zO (zbf (by omega)) (by omega)) d;have s:=λd=>zdy x y m hy d;have C:=hid p;clear p;have F:=hid s;clear s m hy;have G:=hid hw;clear hw;obtain⟨c,i⟩:=zzX (Int.gcd x y);rw[<-i];have D:=hid i;clear i;go_enter Tryz.func185,Tryz.ntmps185;go_wp21;refine zzM (C w) λM h=>?_;go_wp21;refine zzM (F M) λV q=>?_;have o:=h.trans (q.mono h.size);clear q h;go_wp21;go_loopw [7,8] (λH g wr=>∃b a:Int,H=zj zm b/\g=zj zm a/\Hid (Int.gcd b a=c)/\(-1000000000000000000<b/\b<1000000000000000000)/\(-1000000000000000000<a/\a<1000000000000000000)/\Hid (qL w wr))
  (λ_ g _=>(zL g).natAbs)
 case atStart=>exact⟨x,y,rfl,rfl,D.symm,⟨v,z⟩,⟨A,B⟩,o⟩
 case round=>
  clear v z A B o;obtain⟨b,a,rfl,rfl,j,⟨S,T⟩,⟨K,L⟩,e⟩:=hrel;by_cases h0:a=0
  ·subst h0
   have k:Int.gcd b 0=c:=j.out;rw[Int.gcd_zero_right] at k;have P:max b (-b)=(c:Int):=by omega
   have N:=hid k;clear j k;have O:(c:Int)<=1000000000000000000:=by omega
   have R:zm.wrap (-b)= -b:=zI _ (by omega);go_wp21;refine zzM (zb3 (c:Int) (by omega) (by omega) wr (G.below e.out)) λW r=>?_;have I:=e.trans (r.mono e.size);clear r;go_wp21;go_ret2;exact⟨rfl,I⟩
  ·have Q:(a !=0)=zt:=by simpa using h0
   have t:(b.tmod a).natAbs<a.natAbs:=by rw[Int.natAbs_tmod];exact zP _ (by omega)
   obtain⟨u,f⟩:=zzX (b.tmod a);have l:=zmt b a;rw[<-f] at t l;have J:zm.wrap (b.tmod a)=u:=by rw[<-f];exact zI _ (by omega)
   have E:=hid l;have n:=hid f;clear l f J;go_wp2
   (refine wp_region_quiet_lit (by kernel_rfl) (by kernel_rfl) (WQ.out ?_);(repeat(first|(apply WQ.read (by rfl);(focus(rintro d ⟨a,rfl⟩;go_simp;try with_reducible rfl));try simp only[zzQ])|(apply WQ.skip (by rfl);try simp only[zzQ])));refine WQ.nil ?_;rintro _ ⟨U,rfl⟩)
   go_wp2;go_roundw
   case rel=>exact⟨a,u,rfl,by rw[n.out],E.trans j.out,⟨K,L⟩,by omega,zao e _⟩
   case measure=>show(b.tmod a).natAbs<a.natAbs;rw[<-n.out];exact t
theorem znj (b:Bool) (p:Option Addr) (k c:Nat) (W:zA):(Instr.field 271 (zh #[zg b,z7 p k c]) 1).run zF W=.ok (z7 p k c) W:=by kernel_rfl
theorem zkx (a b:Nat):Nat.gcd b (a%b)=Nat.gcd a b:=by
 rw[Nat.gcd_comm b,<-Nat.gcd_rec,Nat.gcd_comm]
theorem z1i (x y:Int) (H:digs x<=300) (hy:digs y<=300) (h:18<(zE x).length\/18<(zE y).length) (w:zA) (hw:Wd w):
 qJ 185 #[St (zE x),St (zE y)] w (ze #[St (zE (Int.gcd x y:Int)),zj zm 0]):=by
 have L:=λc=>zdh x y H hy c;have R:=λc=>ze8 x y h c;have U:=λc=>zc3 x c (by omega);have V:=λc=>zc3 y c (by omega);have ag:=zb4 (z:=x) (k:=100) (by omega) (by omega);have ah:=zb4 (z:=y) (k:=100) (by omega) (by omega);have A:=zq4 x y H hy;have a0:=hid L;clear L;have a5:=hid R;clear R H hy h;have a8:=hid hw;clear hw;have a9:=hid U;have aa:=hid V;clear U V;obtain⟨J,v⟩:=zzX (Int.gcd x y);rw[<-v] at A⊢;have a2:=hid v;clear v;have ao:=znj;go_enter Tryz.func185,Tryz.ntmps185;go_wp21;refine zzM (a0 w) λX s=>?_;go_wp21;refine(a5 X).mono ?_;rintro d Y ⟨rfl,rfl⟩;go_wp21;refine(a9 X).mono ?_;rintro d Y ⟨ay,rfl,j,M⟩;have t:=s.trans (M.mono s.size);clear M s;obtain⟨av,aq,an,rfl, -⟩:=zbx j;have k:=hid j;clear j;go_wp21;refine(aa Y).mono ?_;rintro d a' ⟨az,rfl,G,u⟩;have j:=k.below u;have K:=t.trans (u.mono t.size);clear u t k;obtain⟨aj,af,ab,rfl, -⟩:=zbx G;have k:=hid j;have r:=hid G;clear j G;go_wp2;go_loopg [10,11] y.natAbs (λo ak W wr=>∃b a p f l,W=z7 p f l/\Hid (o=a)/\Hid (f=(zaa B9 a).length)/\(zaa B9 b).length<=100/\(zaa B9 a).length<=100/\Hid (Sl wr ak ((zaa B9 b).map I))/\Hid (Sl wr W ((zaa B9 a).map I))/\Hid (Nat.gcd b a=J)/\Hid (qL w wr))
 case atStart=>
  obtain⟨p,o,l,d,C⟩:=zbx r.out;cases d;exact⟨x.natAbs,y.natAbs,aj,af,ab,rfl,rfl,C,ag,ah,k.out,r.out,a2.symm,K⟩
 case round=>
  clear k r K;obtain⟨b,a,p,f,l,rfl,C,Q,ar,T,n,F,O,g⟩:=hrel;by_cases h0:f=0
  ·have e:a=0:=(zbd (B:=B9) (by decide) a).1 (List.length_eq_zero_iff.1 (by rw[<-Q.out];exact h0))
   have N:b=J:=by have:=O.out;rw[e,Nat.gcd_zero_right] at this;exact this
   have ad:¬(0:Int)<f:=by omega
   have Z:=hid N;clear N;have q:=hid e;clear e;have am:=hid h0;clear h0;obtain⟨au,ap,c1,rfl, -⟩:=zbx n.out;have D:=zez zu _ b wr (a8.below g.out) n (by omega);rw[zkw,Z.out,zcf A,zcg A] at D;have a4:=hid D;clear D;go_wp21;refine zzM a4.out λal i=>?_;have m:=g.trans (i.mono g.size);clear i;go_wp21;go_ret2;exact⟨rfl,m⟩
  ·have ad:(0:Int)<f:=by omega
   have e:a≠0:=λd=>h0 (by rw[Q.out,d,zaz];rfl);go_wp21;refine(znf _ (z7 p f l) b a wr n F (by omega) (by omega) e).mono ?_;rintro d al ⟨aw,ax,rfl,ac,E,i⟩;have m:=g.trans (i.mono g.size);have S:=F.below i;obtain⟨ai,ae,c2,rfl,P⟩:=zbx E;have a6:=hid E;have a1:=hid m;have a7:=hid S;have a3:=hid P;have q:=hid e;clear ac E i m S P e n F g;go_wp2;go_roundg (b%a)
   case measure=>rw[C.out];exact zP _ (Nat.pos_of_ne_zero q.out)
   case rel=>exact⟨a,b%a,ai,ae,c2,rfl,rfl,a3.out,T,zO (zd6 (by decide) (Nat.le_of_lt (zP _ (Nat.pos_of_ne_zero q.out)))) T,a7.out,a6.out,(zkx b a).trans O.out,a1.out⟩
theorem ztw (x y:Int) (a:digs x<=300) (hy:digs y<=300) (w:zA) (hw:Wd w):
 qJ 185 #[St (zE x),St (zE y)] w (ze #[St (zE (Int.gcd x y:Int)),zj zm 0]):=by
 by_cases h:(zE x).length<=18/\(zE y).length<=18
 ·exact zwu x y h.1 h.2 w hw
 ·exact z1i x y a hy (by omega) w hw
theorem zq5 (x y q:Int) (d:x=q*y) (L:0<y) (j:(zE x).length<=18) (hy:(zE y).length<=18) (w:zA) (hw:Wd w):
 qJ 193 #[St (zE x),St (zE y)] w (ze #[St (zE q),St [48],zj zm 0]):=by
 obtain⟨R,S⟩:=lt18 j;obtain⟨T,U⟩:=lt18 hy;have m:=λa=>zdh x y (zO (zbf (by omega)) (by omega)) (zO (zbf (by omega)) (by omega)) a;have s:=λa=>zdy x y j hy a;have D:q.natAbs<=x.natAbs:=by rw[d,yK];exact Nat.le_mul_of_pos_right _ (by omega)
 have r:=λa f=>zb3 q (by omega) (by omega) a f;have h:=λa f=>zb3 0 (by omega) (by omega) a f;have g:x.tdiv y=q:=by rw[d];exact Int.mul_tdiv_cancel _ (by omega)
 have i:x.tmod y=0:=by rw[d];exact Int.mul_tmod_left _ _
 have O:zm.wrap (x.tdiv y)=q:=by rw[g];exact zI _ (by omega)
 have P:zm.wrap (x.tmod y)=0:=by rw[i];rfl
 rw[zb9] at h;have E:(zE y==[48])=zu:=by rw[beq_eq_false_iff_ne,<-zb9];exact λB=>by have:=zdo B;omega
 have K:¬zE y=[48]:=by simpa using E
 have M:¬y=0:=by omega
 have u:=hid m;clear m;have v:=hid r;clear r;have z:=hid h;clear h;have A:=hid s;have J:=hid g;have I:=hid i;clear s j hy d g i D;have k:=hid hw;clear hw;go_enter Tryz.func193,Tryz.ntmps193;go_wp21;refine zzM (u w) λF e=>?_;go_wp21;refine zzM (A F) λG n=>?_;have l:=e.trans (n.mono e.size);clear n e;go_wp21
 (refine wp_region_quiet_lit (by kernel_rfl) (by kernel_rfl) (WQ.out ?_);(repeat(first|(apply WQ.read (by rfl);(focus(rintro a ⟨N,rfl⟩;go_simp;try with_reducible rfl));try simp only[zzQ])|(apply WQ.skip (by rfl);try simp only[zzQ])));refine WQ.nil ?_;rintro _ ⟨t,rfl⟩)
 go_wp21;have b:=zao l t;refine zzM (v (G.drewN t) (k.below b)) λH o=>?_;have c:=b.trans (o.mono b.size);clear o b l;go_wp21;refine zzM (z H (k.below c)) λQ p=>?_;have C:=c.trans (p.mono c.size);clear p c;go_wp21;go_ret3;exact⟨rfl,C⟩
theorem ztx (x y q:Int) (a:x=q*y) (hy:0<y):sgn (decide (x<0) !=decide (y<0)) (x.natAbs/y.natAbs)=q/\x.natAbs%y.natAbs=0:=by
 have d:x.natAbs=q.natAbs*y.natAbs:=by rw[a,yK]
 have e:0<y.natAbs:=by omega
 rw[d,Nat.mul_div_cancel _ e,Nat.mul_mod_left];refine⟨?_,rfl⟩;have b:decide (y<0)=zu:=by simp;omega
 rw[b,Bool.bne_false];have c:decide (x<0)=decide (q<0):=by
  rw[a];by_cases h:q<0
  ·have:q*y<0:=Int.mul_neg_of_neg_of_pos h hy
   simp[h,this]
  ·have:0<=q*y:=Int.mul_nonneg (by omega) (by omega)
   simp[h];omega
 rw[c];exact zcs q
theorem zuy (x y q:Int) (D:x=q*y) (ai:0<y) (E:digs x<=300) (hy:digs y<=300) (h:18<(zE x).length\/18<(zE y).length) (w:zA) (hw:Wd w):
 qJ 193 #[St (zE x),St (zE y)] w (ze #[St (zE q),St [48],zj zm 0]):=by
 have R:=λc=>zdh x y E hy c;have Y:=λc=>ze8 x y h c;have Z:=λc=>zc3 x c (by omega);have a0:=λc=>zc3 y c (by omega);have ax:=zb4 (z:=x) (k:=100) (by omega) (by omega);have ay:=zb4 (z:=y) (k:=100) (by omega) (by omega);obtain⟨a1,a2⟩:=ztx x y q D ai;have X:digs q<=300:=by
  have ah:q.natAbs<=x.natAbs:=by rw[D,yK];exact Nat.le_mul_of_pos_right _ (by omega)
  rw[za3 _ _ (by omega)] at E⊢;exact Nat.lt_of_le_of_lt ah E
 have aj:(zE y==[48])=zu:=by rw[beq_eq_false_iff_ne,<-zb9];exact λh=>by have:=zdo h;omega
 have av:¬zE y=[48]:=by simpa using aj
 have ag:y.natAbs≠0:=by omega
 have az:=zd6 (B:=B9) (by decide) (Nat.div_le_self x.natAbs y.natAbs);have a5:=hid R;clear R;have a6:=hid Y;clear Y E hy h;have O:=hid hw;clear hw;have a9:=hid Z;have aa:=hid a0;clear Z a0;have ad:=hid a1;have ae:=hid a2;clear a1 a2;have aq:=hid D;clear D;go_enter Tryz.func193,Tryz.ntmps193;go_wp21;refine zzM (a5 w) λa3 G=>?_;go_wp21;refine(a6 a3).mono ?_;rintro F a4 ⟨rfl,rfl⟩;go_wp21;refine(a9 a3).mono ?_;rintro F a4 ⟨b1,rfl,f,S⟩;have H:=G.trans (S.mono G.size);clear S G;obtain⟨i,g,e,rfl, -⟩:=zbx f;have j:=hid f;clear f;go_wp21;refine(aa a4).mono ?_;rintro F a ⟨b2,rfl,M,J⟩;have f:=j.below J;have u:=H.trans (J.mono H.size);clear J H j;obtain⟨r,o,l,rfl, -⟩:=zbx M;have j:=hid f;have N:=hid M;clear f M;have V:decide (y<0)=zu:=by simp;omega
 generalize U:decide (x<0)=b at*
 rw[V] at*
 have ap:=hid U;clear U V;go_wp21;have I:=(u.alloc u.size (zn #[zg b,z7 i g e] 271)).alloc (by have:=u.size;simp;omega) (zn #[zg zu,z7 r o l] 271);have K:qL a ((a.alloc (zn #[zg b,z7 i g e] 271)).alloc (zn #[zg zu,z7 r o l] 271)):=((zM _ _).alloc (zN _) _).alloc (by simp) _;have t:=(Below.heap_alloc (a.alloc (zn #[zg b,z7 i g e] 271)) (zn #[zg zu,z7 r o l] 271) a.heap.size (by simp)).trans (zG a (zn #[zg b,z7 i g e] 271));have d:=zG (a.alloc (zn #[zg b,z7 i g e] 271)) (zn #[zg zu,z7 r o l] 271);rw[zH] at d;refine(znf (z7 i g e) (z7 r o l) _ _ _ (j.below K) (N.below K) (by omega) (by omega) ag).mono ?_;rintro F s ⟨a',b0,rfl,L,n,C⟩;rw[ae.out] at n;rw[zaz] at n;obtain⟨am,ak,c1,rfl, -⟩:=zbx L;obtain⟨an,aw,c2,rfl,W⟩:=zbx n;rw[List.length_nil] at W;subst W;have v:=I.trans (C.mono I.size);have t:=(C.block a.heap.size (by simp only[zH];omega)).trans t;have d:=(C.block (a.heap.size+1) (by simp only[zH];omega)).trans d;have P:s.cell? ⟨a.heap.size,0,zp⟩=zq (zg b):=by simp[World.cell?,t]
 have Q:s.cell? ⟨a.heap.size+1,0,zp⟩=zq (zg zu):=by simp[World.cell?,d]
 have al:a.heap.size+1<s.heap.size:=(Array.getElem?_eq_some_iff.1 d).1;have a7:=hid L;have a8:=hid n;clear K I C L n u j N t d;have rs:=zez (b !=zu) (z7 am ak c1) (x.natAbs/y.natAbs) s (O.below v) a7 (by omega);rw[ad.out,zcf X,zcg X] at rs;rw[Bool.bne_false] at rs;have ab:=hid rs;clear rs;cases b
 all_goals
  go_wp21;refine zzM ab.out λao m=>?_;have A:=v.trans (m.mono v.size);have ar:=(m.cell (p:=⟨a.heap.size,0,zp⟩) (by show a.heap.size<s.heap.size;omega)).trans P;have au:=(m.cell (p:=⟨a.heap.size+1,0,zp⟩) al).trans Q;have rt:=zez zu (z7 an 0 c2) 0 ao (O.below A) (by rw[zaz];exact a8.below m) (by rw[zaz];simp);rw[show sgn zu 0=0 from rfl,zcf (zO (zbf (z:=0) (by omega)) (by omega)),zcg (zO (zbf (z:=0) (by omega)) (by omega)),zb9] at rt;have ac:=hid rt;clear rt m P Q v;go_wp21;refine zzM ac.out λb3 T=>?_;have af:=A.trans (T.mono A.size);clear T A;go_wp21;go_ret3;exact⟨rfl,af⟩
theorem zky (x y q:Int) (a:x=q*y) (b:0<y) (c:digs x<=300) (hy:digs y<=300) (w:zA) (hw:Wd w):
 qJ 193 #[St (zE x),St (zE y)] w (ze #[St (zE q),St [48],zj zm 0]):=by
 by_cases h:(zE x).length<=18/\(zE y).length<=18
 ·exact zq5 x y q a b h.1 h.2 w hw
 ·exact zuy x y q a b c hy (by omega) w hw
end
namespace Str
open Go.Lib
def numS (q:Rat):List UInt8:=zE q.num++(if q.den=1 then[] else 47::zD q.den)
theorem zdz (n:Nat):(47:UInt8)∉zD n:=λh=>by have:=zan n _ h;simp at this
theorem zfe (a:Int):(47:UInt8)∉zE a:=by
 rcases zbg a with⟨_,e⟩|⟨_,e⟩<;>rw[e]
 ·exact zdz _
 ·intro h
  rcases List.mem_cons.1 h with h|h
  ·cases h
  ·exact zdz _ h
theorem zkz {α:Type} {x:α}:∀{a b c d:List α},x∉a->x∉c->a++x::b=c++x::d->a=c/\b=d
 |[],_,[],_,_,_,e=>by simpa using e
 |[],_,h::c,_,_,hc,e=>by simp at e;exact absurd e.1 (λf=>hc (by simp[f]))
 |h::a,_,[],_,ha,_,e=>by simp at e;exact absurd e.1 (λf=>ha (by simp[f]))
 |h::a,b,z::c,d,ha,hc,e=>by
  simp at e;obtain⟨i,j⟩:=zkz (a:=a) (c:=c) (λg=>ha (by simp[g])) (λg=>hc (by simp[g])) e.2;exact⟨by rw[e.1,i],j⟩
theorem zh0 {a b:Rat} (h:numS a=numS b):a=b:=by
 unfold numS at h;have ha:=zfe a.num;have c:=zfe b.num;by_cases h1:a.den=1<;>by_cases h2:b.den=1
 ·rw[if_pos h1,if_pos h2] at h
  exact Rat.ext (zdo (by simpa using h)) (by omega)
 ·rw[if_pos h1,if_neg h2,yH] at h
  exact absurd (by rw[h];simp) ha
 ·rw[if_neg h1,if_pos h2,yH] at h
  exact absurd (by rw[<-h];simp) c
 ·rw[if_neg h1,if_neg h2] at h
  obtain⟨d,e⟩:=zkz ha c h;exact Rat.ext (zdo d) (zfk e)
theorem zmu {q:Rat} (h:q.den=1):numS q=zE q.num:=by simp[numS,h]
theorem zid {q:Rat} (h:q.den≠1):numS q=zE q.num++47::zD q.den:=by simp[numS,h]
theorem zha (n:Int):numS (n:Rat)=zE n:=by simp[numS]
theorem zie:numS 0=[48]:=by rw[show(0:Rat)=((0:Int):Rat) from rfl,zha,zb9]
theorem zpy (q:Rat):numS q=[48]↔q=0:=⟨λh=>zh0 (h.trans zie.symm),λh=>by rw[h,zie]⟩
theorem zes (n d:Int) (c:d≠0):Rat.divInt n d=mkRat (if d<0 then-n else n) d.natAbs:=by
 rcases Int.lt_or_gt_of_ne c with b|b
 ·rw[if_pos b]
  obtain⟨a,rfl⟩:∃a:Nat,d=Int.negSucc a:=⟨(-d-1).toNat,by omega⟩;simp[Rat.divInt,mkRat]
 ·rw[if_neg (by omega)]
  obtain⟨a,rfl⟩:∃a:Nat,d=(a:Int):=⟨d.toNat,by omega⟩;simp[Rat.divInt]
theorem zf0 (a b:Rat):a+b=Rat.divInt (a.num*b.den+b.num*a.den) ((a.den*b.den:Nat):Int):=by
 rw[Rat.add_def,zes _ _ (by have:=a.den_nz;have:=b.den_nz;simp;omega),if_neg (by omega),yY,Rat.mkRat_def,dif_neg]
theorem znk (a b:Rat):a-b=Rat.divInt (a.num*b.den-b.num*a.den) ((a.den*b.den:Nat):Int):=by
 rw[Rat.sub_def,zes _ _ (by have:=a.den_nz;have:=b.den_nz;simp;omega),if_neg (by omega),yY,Rat.mkRat_def,dif_neg]
theorem zf1 (a b:Rat):a*b=Rat.divInt (a.num*b.num) ((a.den*b.den:Nat):Int):=by
 rw[Rat.mul_def,zes _ _ (by have:=a.den_nz;have:=b.den_nz;simp;omega),if_neg (by omega),yY,Rat.mkRat_def,dif_neg]
theorem zif (n d:Int) (e:0<d):numS (Rat.divInt n d)=zE (n/(Int.gcd n d:Int))++(if d/(Int.gcd n d:Int)=1 then[] else 47::zE (d/(Int.gcd n d:Int))):=by
 obtain⟨a,rfl⟩:∃a:Nat,d=(a:Int):=⟨d.toNat,by omega⟩;have b:a≠0:=by omega
 rw[zes _ _ (by omega),if_neg (by omega),yY];unfold numS;rw[Rat.num_mkRat,Rat.den_mkRat,if_neg b,if_neg b];have c:a.gcd n.natAbs=Int.gcd n (a:Int):=by rw[Int.gcd,yY,Nat.gcd_comm]
 rw[c,<-Int.natCast_ediv,zad];congr 1;by_cases h:a/Int.gcd n (a:Int)=1
 ·rw[if_pos h,if_pos (by omega)]
 ·rw[if_neg h,if_neg (by omega)]
def sz (q:Rat) (k:Nat):Prop:=q.num.natAbs<10^k/\q.den<10^k
theorem sz.mono {q:Rat} {i j:Nat} (h:sz q i) (a:i<=j):sz q j:=
 have:=yF (show 0<10 by omega) a
 ⟨zS h.1 this,zS h.2 this⟩
theorem zig {n d:Int} {k:Nat} (e:d≠0) (b:n.natAbs<10^k) (c:d.natAbs<10^k):sz (Rat.divInt n d) k:=by
 rw[zes _ _ e];have a:d.natAbs≠0:=by omega
 constructor
 ·rw[Rat.num_mkRat,if_neg a]
  refine Nat.lt_of_le_of_lt ?_ b;have:(if d<0 then-n else n).natAbs=n.natAbs:=by split<;>omega
  rw[Int.natAbs_ediv_of_dvd (Int.ofNat_dvd_left.2 (Nat.gcd_dvd_right _ _)),this];exact Nat.div_le_self _ _
 ·rw[Rat.den_mkRat,if_neg a]
  exact Nat.lt_of_le_of_lt (Nat.div_le_self _ _) c
theorem zcc {a b i j:Nat} (c:a<10^i) (d:b<10^j):a*b<10^(i+j):=by
 rw[Nat.pow_add];exact Nat.mul_lt_mul'' c d
theorem zuz {a b i:Nat} (c:a<10^i) (d:b<10^i):a+b<10^(i+1):=by
 rw[Nat.pow_succ];omega
theorem ze0 (x:Int) (d:Nat):(x*d).natAbs=x.natAbs*d:=by rw[yK,yY]
theorem zk0 {a b:Rat} {i j:Nat} (ha:sz a i) (c:sz b j):sz (a+b) (i+j+1):=by
 rw[zf0];have e:=zcc ha.1 c.2;have d:=zcc c.1 ha.2;have g:=zcc ha.2 c.2;rw[Nat.add_comm j i] at d;have f:=zuz e d;have:=a.den_nz;have:=b.den_nz;refine zig (by simp;omega) ?_ ?_
 ·refine Nat.lt_of_le_of_lt (Int.natAbs_add_le _ _) ?_
  rw[ze0,ze0];exact f
 ·rw[yY,Nat.pow_succ];omega
theorem zfq {a b:Rat} {i j:Nat} (ha:sz a i) (c:sz b j):sz (a-b) (i+j+1):=by
 rw[Rat.sub_eq_add_neg];exact zk0 ha ⟨by simpa using c.1,by simpa using c.2⟩
theorem zca {a b:Rat} {i j:Nat} (ha:sz a i) (c:sz b j):sz (a*b) (i+j):=by
 rw[zf1];have:=a.den_nz;have:=b.den_nz;refine zig (by simp;omega) ?_ ?_
 ·rw[yK];exact zcc ha.1 c.1
 ·rw[yY];exact zcc ha.2 c.2
theorem zjx (a b:Rat) (d:b≠0):a/b=Rat.divInt (a.num*b.den) (a.den*b.num):=by
 have e:b.num≠0:=λc=>d (Rat.num_eq_zero.1 c);rw[Rat.div_def,Rat.inv_def]
 conv=>lhs;lhs;rw[<-Rat.num_divInt_den a]
 rw[Rat.divInt_mul_divInt]
theorem zd2 (k:Nat) (a:0<k):sz 0 k:=by
 have:10^1<=10^k:=yF (by omega) a;exact⟨by simp;omega,by simp;omega⟩
theorem zy0 (l:List UInt8):(∃q,l=numS q)↔(∃a,l=zE a)\/∃(a:Int) (d:Nat),l=zE a++47::zD d/\2<=d/\Nat.gcd a.natAbs d=1:=by
 constructor
 ·rintro⟨q,rfl⟩
  by_cases h:q.den=1
  ·exact .inl ⟨_,zmu h⟩
  ·exact .inr ⟨_,_,zid h,by have:=q.den_nz;omega,q.reduced⟩
 ·rintro(⟨a,rfl⟩|⟨a,d,rfl,h1,h2⟩)
  ·exact⟨(a:Rat),(zha a).symm⟩
  ·exact⟨⟨a,d,by omega,h2⟩,by rw[zid (by simp;omega)]⟩
def bare (l:List UInt8):List UInt8:=if l.head? =zq 45 then l.tail else l
def upS (l:List UInt8):List UInt8:=(bare l).takeWhile (· !=47)
def dnS (l:List UInt8):List UInt8:=((bare l).dropWhile (· !=47)).tail
def hasS (l:List UInt8):Prop:=(47:UInt8)∈bare l
def okS (l:List UInt8):Prop:=
 zcb (upS l)/\¬(l.head? =zq 45/\upS l=[48])/\(hasS l->zcb (dnS l)/\dnS l≠[48]/\dnS l≠[49]/\Nat.gcd (val (upS l)) (val (dnS l))=1)
theorem zs9 {a b:List UInt8} (h:(47:UInt8)∉a):(a++47::b).takeWhile (· !=47)=a/\(a++47::b).dropWhile (· !=47)=47::b:=by
 induction a with
 |nil=>simp
 |cons j k g=>
  have d:j≠47:=λc=>h (by simp[c]);obtain⟨e,f⟩:=g (λi=>h (by simp[i]));simp[d,e,f]
theorem zgl {a:List UInt8} (h:(47:UInt8)∉a):a.takeWhile (· !=47)=a:=by
 induction a with
 |nil=>simp
 |cons f g d=>
  have c:f≠47:=λb=>h (by simp[b]);simp[c,d (λe=>h (by simp[e]))]
theorem zxc {l:List UInt8} (h:(47:UInt8)∈l):l=l.takeWhile (· !=47)++47::(l.dropWhile (· !=47)).tail/\(47:UInt8)∉l.takeWhile (· !=47):=by
 induction l with
 |nil=>cases h
 |cons c j g=>
  by_cases hx:c=47
  ·subst hx;simp
  ·have d:(47:UInt8)∈j:=by
    rcases List.mem_cons.1 h with a|a
    ·exact absurd a.symm hx
    ·exact a
   obtain⟨e,f⟩:=g d;have b:(c !=47)=zt:=by simpa using hx
   rw[List.takeWhile_cons,if_pos b,List.dropWhile_cons,if_pos b]
   exact⟨by rw[yM,<-e],λi=>by
    rcases List.mem_cons.1 i with a|a
    ·exact hx a.symm
    ·exact f a⟩
theorem zxe (n:Nat) (t:List UInt8):bare (zD n++t)=zD n++t:=by
 obtain⟨d,e,a,c,_⟩:=dec_head n;unfold bare;rw[a,yM,List.head?_cons,if_neg (λb=>by cases b;simp at c)]
theorem zhw (a:Int) (t:List UInt8):bare (zE a++t)=zD a.natAbs++t:=by
 rcases zbg a with⟨_,e⟩|⟨_,e⟩<;>rw[e]
 ·exact zxe _ _
 ·simp[bare]
theorem zk2 (a:Int) (t:List UInt8):(zE a++t).head? =zq 45↔a<0:=by
 rcases zbg a with⟨c,b⟩|⟨c,b⟩<;>rw[b]
 ·obtain⟨e,f,b,d,_⟩:=dec_head a.natAbs
  rw[b];constructor
  ·intro c;simp at c;subst c;simp at d
  ·omega
 ·simp;omega
theorem zgm (l:List UInt8):(l.head? =zq 45/\l=45::bare l)\/(l.head? ≠zq 45/\l=bare l):=by
 unfold bare
 cases l with
 |nil=>right;simp
 |cons x r=>
  by_cases h:x=45
  ·subst h;left;simp
  ·right;simp[h]
theorem zy2 (l:List UInt8):okS l↔∃q,l=numS q:=by
 rw[zy0];constructor
 ·rintro⟨i,j,h3⟩
  by_cases hs:hasS l
  ·obtain⟨r,t,u,s⟩:=h3 hs
   obtain⟨f,h⟩:=zxc (l:=bare l) hs;have o:2<=val (dnS l):=by
    rcases Nat.lt_or_ge (val (dnS l)) 2 with g|g
    ·exfalso
     have:=zdd r;rcases(show val (dnS l)=0\/val (dnS l)=1 by omega) with c|c
     ·rw[c] at this;exact t (this.symm.trans zdj)
     ·rw[c] at this;exact u (this.symm.trans (by rw[zae (by omega)];rfl))
    ·exact g
   have e:bare l=zD (val (upS l))++47::zD (val (dnS l)):=by rw[zdd i,zdd r];exact f
   rcases zgm l with⟨k,b2⟩|⟨k,b2⟩
   ·have m:0<val (upS l):=by
     rcases Nat.eq_zero_or_pos (val (upS l)) with c|c
     ·have:=zdd i
      rw[c] at this;exact absurd ⟨k,this.symm.trans zdj⟩ j
     ·exact c
    exact .inr ⟨-(val (upS l):Int),val (dnS l),b2.trans (by rw[e,zga _ m];rfl),o,by simpa using s⟩
   ·exact .inr ⟨(val (upS l):Int),val (dnS l),b2.trans (by rw[e,zad]),o,by simpa using s⟩
  ·have f:upS l=bare l:=zgl hs
   have e:bare l=zD (val (upS l)):=by rw[zdd i,f]
   rcases zgm l with⟨k,b2⟩|⟨k,b2⟩
   ·have m:0<val (upS l):=by
     rcases Nat.eq_zero_or_pos (val (upS l)) with c|c
     ·have:=zdd i
      rw[c] at this;exact absurd ⟨k,this.symm.trans zdj⟩ j
     ·exact c
    exact .inl ⟨-(val (upS l):Int),b2.trans (by rw[e,zga _ m])⟩
   ·exact .inl ⟨(val (upS l):Int),b2.trans (by rw[e,zad])⟩
 ·have p:∀a:Int,¬(a<0/\zD a.natAbs=[48]):=λa ⟨i,j⟩=>by
   have:=zfk (j.trans zdj.symm);omega
  rintro(⟨a,rfl⟩|⟨a,d,rfl,i,j⟩)
  ·have n:zE a=zE a++[]:=by simp
   have f:bare (zE a)=zD a.natAbs:=by rw[n,zhw];simp
   have h:upS (zE a)=zD a.natAbs:=by unfold upS;rw[f,zgl (zdz _)]
   refine⟨by rw[h];exact zhr _,?_,λg=>absurd g (by unfold hasS;rw[f];exact zdz _)⟩;rw[h,n,zk2];exact p a
  ·have f:=zhw a (47::zD d)
   obtain⟨v,w⟩:=zs9 (b:=zD d) (zdz a.natAbs);have h:upS (zE a++47::zD d)=zD a.natAbs:=by unfold upS;rw[f,v]
   have e:dnS (zE a++47::zD d)=zD d:=by unfold dnS;rw[f,w];rfl
   refine⟨by rw[h];exact zhr _,?_,λ_=>⟨by rw[e];exact zhr _,?_,?_,?_⟩⟩
   ·rw[h,zk2];exact p a
   ·rw[e];intro g;have:=zfk (g.trans zdj.symm);omega
   ·rw[e];intro g
    have:=zfk (g.trans (show[49]=zD 1 by rw[zae (by omega)];rfl));omega
   ·rw[h,e,zb2,zb2];exact j
theorem z31 {q:Rat} {k:Nat} (a:0<k) (h:(numS q).length<=k):sz q k:=by
 have b:=zbr q.num;have c:10^1<=10^k:=yF (by omega) a;by_cases h1:q.den=1
 ·rw[zmu h1] at h
  exact⟨(za3 _ _ a).1 (by omega),by omega⟩
 ·rw[zid h1] at h
  simp at h;exact⟨(za3 _ _ a).1 (by omega),(zaf _ _ a).1 (by omega)⟩
end Str
section
open Go.RowKit Go.Shelf Lib Str Limb
attribute [local go_sem] Oper.semAt_some
theorem zjc:∀(l:List UInt8),(∀c∈l,48<=c.toNat/\c.toNat<=57)->val l<10^l.length:=by
 intro l h;have e:=zmr l 0;rw[Nat.mul_zero,Nat.add_zero] at e;have:=zb6 (zfz h);rw[zfi] at this;show l.foldl _ 0<_;rw[e];exact this
structure Runs (l t:List UInt8):Prop where
 dig:∀c∈l,48<=c.toNat/\c.toNat<=57
 stop:t=[]\/∃c r,t=c::r/\(c.toNat<48\/57<c.toNat)
theorem zii {l t:List UInt8} (h:Runs l t) (b:ByteArray) (i:b=⟨(l++t).toArray⟩):
 b.size=l.length+t.length/\(∀k (_:k<l.length) (a:k<b.size),48<=(b[k]'a).toNat/\(b[k]'a).toNat<=57/\val (l.take (k+1))=10*val (l.take k)+((b[k]'a).toNat-48))/\
 (∀(a:l.length<b.size),(b[l.length]'a).toNat<48\/57<(b[l.length]'a).toNat):=by
 subst i;refine⟨by show(l++t).toArray.size=_;simp,λk c a=>?_,λa=>?_⟩
 ·rw[zng _ _ a (by simp;omega),List.getElem_append_left c]
  obtain⟨e,f⟩:=h.dig _ (List.getElem_mem c);refine⟨e,f,?_⟩;rw[List.take_succ_eq_append_getElem c,zde]
 ·have d:l.length<(l++t).length:=by
   have:(⟨(l++t).toArray⟩:ByteArray).size=(l++t).length:=by show(l++t).toArray.size=_;simp
   omega
  rw[zng _ _ a d,List.getElem_append_right (zN _)];rcases h.stop with rfl|⟨j,m,rfl,g⟩
  ·simp at d
  ·simpa using g
theorem ziu {l:List UInt8} (h:∀c∈l,48<=c.toNat/\c.toNat<=57) {k:Nat} (e:k<=9):val (l.take k)<1000000000:=by
 have a:=zjc (l.take k) (λc d=>h c (List.mem_of_mem_take d));have b:(10:Nat)^(l.take k).length<=10^9:=yF (by omega) (by simp;omega);exact zS a b
theorem zl8 (l t:List UInt8):((⟨(l++t).toArray⟩:ByteArray).extract l.length (⟨(l++t).toArray⟩:ByteArray).size)=⟨t.toArray⟩:=by
 have a:(⟨(l++t).toArray⟩:ByteArray).size=l.length+t.length:=by show(l++t).toArray.size=_;simp
 rw[a];apply ByteArray.ext;rw[ByteArray.data_extract];simp
theorem zjz (n:Nat) (t:List UInt8) (b:ByteArray) (e:b=⟨(zD n++t).toArray⟩):(zD n).length<=1\/∀a:0<b.size,(b[0]'a).toNat≠48:=by
 by_cases h:(zD n).length<=1
 ·exact .inl h
 ·refine .inr λa c=>h ?_
  subst e;have d:0<(zD n).length:=by omega
  rw[zng _ _ a (by simp;omega),List.getElem_append_left d] at c;have:(zD n).head? =zq 48:=by
   rw[List.head?_eq_getElem?,List.getElem?_eq_getElem d];congr 1;exact UInt8.toNat_inj.1 (by rw[c];rfl)
  have:=zmm n this;subst this;rw[zdj];simp
theorem zcn (n:Nat) (t:List UInt8) (h:Runs (zD n) t) (a6:(zD n).length<=8) (ac:t.length<=1000000) (w:zA):
 zC zF 225 #[St (zD n++t)] w λe w'=>∃a0,e=zo (ze #[I n,St t,zg zt])/\w'=w.drewN a0:=by
 obtain⟨b,r⟩:=zzX (⟨(zD n++t).toArray⟩:ByteArray);obtain⟨z,b2,A⟩:=zii h b r;have E:(b.extract (zD n).length b.size)=⟨t.toArray⟩:=by rw[r];exact zl8 _ _
 have K:=zb2 n;have L:=λa v=>ziu (l:=zD n) h.dig (k:=a) v;have N:(zD n).length<=1\/∀f:0<b.size,(b[0]'f).toNat≠48:=zjz n t b r;have a9:1<=(zD n).length:=by have:=zbn (n:Int);unfold digs at this;simpa using this
 show zC _ _ #[z8 ⟨(zD n++t).toArray⟩] _ _;rw[<-r];have F:val ((zD n).take (zD n).length)=n:=by rw[List.take_length];exact K
 generalize X:(zD n).length=j at*
 generalize s:(λa=>val ((zD n).take a))=k at*
 have H:k 0=0:=by rw[<-s];rfl
 have C:∀a (v:a<j) (f:a<b.size),48<=(b[a]'f).toNat/\(b[a]'f).toNat<=57/\k (a+1)=10*k a+((b[a]'f).toNat-48):=by rw[<-s];exact b2
 have M:∀a,a<=9->k a<1000000000:=by rw[<-s];exact L
 have J:k j=n:=by rw[<-s];exact F
 clear b2 L F K s X h r;have O:=hid C;have P:=hid A;have T:=hid M;have o:=hid J;have m:=hid E;have R:=hid N;have a1:=hid z;have S:=hid H;have ab:b.size<=2000000:=by omega
 have aa:j<=b.size:=by omega
 clear C A M J E N z H;go_enter Tryz.func225,Tryz.ntmps225;go_wp2;go_loop [5,6] (λU x=>∃a:Nat,a<=j/\x=zj zm a/\U=zj zm (k a:Nat)) (λ_ x=>j-(zL x).toNat)
 case atStart=>exact⟨0,zR _,rfl,by rw[S.out];rfl⟩
 case round=>
  obtain⟨a,v,rfl,rfl⟩:=hrel;by_cases hlt:a<j
  ·have Y:a<b.size:=by omega
   obtain⟨c1,c2,B⟩:=O a hlt Y;have ad:=T a (by omega);generalize k a=ae at*
   have Q:=hid B;clear B;have a2:(48:Int)<=(b[a].toNat:Int):=by omega
   have a3:(b[a].toNat:Int)<=57:=by omega
   go_wp2;go_round
   case rel=>exact⟨a+1,by omega,by go_num,by rw[Q.out];show zj zm _=zj zm _;congr 1;omega⟩
   case measure=>simp[zL];omega
  ·obtain rfl:a=j:=by omega
   have a7:((a:Int)==0)=zu:=by rw[beq_eq_false_iff_ne];omega
   have a8:¬(8:Int)<a:=by omega
   have a5:(a:Int)<=8:=by omega
   have D:a<b.size/\(∀f:a<b.size,(b[a]'f).toNat<48)\/a<b.size/\(∀f:a<b.size,48<=(b[a]'f).toNat/\57<(b[a]'f).toNat)\/¬a<b.size:=by
    by_cases i:a<b.size
    ·rcases P i with p|p
     ·exact .inl ⟨i,λ_=>p⟩
     ·exact .inr (.inl ⟨i,λ_=>⟨by omega,p⟩⟩)
    ·exact .inr (.inr i)
   have Z:a<=1\/1<a/\∀f:0<b.size,(b[0]'f).toNat≠48:=by
    rcases R.out with h|h
    ·exact .inl h
    ·by_cases i:a<=1
     ·exact .inl i
     ·exact .inr ⟨by omega,h⟩
   have y:=hid D;clear D;rcases Z with i|⟨i,p⟩
   ·have W:¬(1:Int)<a:=by omega
    rcases y.out with⟨c,d⟩|⟨c,d⟩|c
    ·have u:((b[a]'c).toNat:Int)<48:=by have:=d c;omega
     clear d;go_wp2
     (refine wp_region_quiet_lit (by kernel_rfl) (by kernel_rfl) (WQ.out ?_);(repeat(first|(apply WQ.read (by rfl);(focus(rintro q ⟨n,rfl⟩;go_simp;try with_reducible rfl));try simp only[zzQ])|(apply WQ.skip (by rfl);try simp only[zzQ])));refine WQ.nil ?_;rintro _ ⟨g,rfl⟩)
     go_wp2;go_ret3;exact⟨g,by rw[m.out,o.out];rfl,rfl⟩
    ·have u:(48:Int)<=(b[a]'c).toNat:=by have:=d c;omega
     have V:(57:Int)<(b[a]'c).toNat:=by have:=d c;omega
     clear d;go_wp2
     (refine wp_region_quiet_lit (by kernel_rfl) (by kernel_rfl) (WQ.out ?_);(repeat(first|(apply WQ.read (by rfl);(focus(rintro q ⟨n,rfl⟩;go_simp;try with_reducible rfl));try simp only[zzQ])|(apply WQ.skip (by rfl);try simp only[zzQ])));refine WQ.nil ?_;rintro _ ⟨g,rfl⟩)
     go_wp2;go_ret3;exact⟨g,by rw[m.out,o.out];rfl,rfl⟩
    ·go_wp2
     (refine wp_region_quiet_lit (by kernel_rfl) (by kernel_rfl) (WQ.out ?_);(repeat(first|(apply WQ.read (by rfl);(focus(rintro q ⟨n,rfl⟩;go_simp;try with_reducible rfl));try simp only[zzQ])|(apply WQ.skip (by rfl);try simp only[zzQ])));refine WQ.nil ?_;rintro _ ⟨g,rfl⟩)
     go_wp2;go_ret3;exact⟨g,by rw[m.out,o.out];rfl,rfl⟩
   ·have W:(1:Int)<a:=by omega
    have G:0<b.size:=by omega
    have a4:(((b[0]'G).toNat:Int)==48)=zu:=by rw[beq_eq_false_iff_ne];have:=p G;omega
    clear p;rcases y.out with⟨c,d⟩|⟨c,d⟩|c
    ·have u:((b[a]'c).toNat:Int)<48:=by have:=d c;omega
     clear d;go_wp2
     (refine wp_region_quiet_lit (by kernel_rfl) (by kernel_rfl) (WQ.out ?_);(repeat(first|(apply WQ.read (by rfl);(focus(rintro q ⟨n,rfl⟩;go_simp;try with_reducible rfl));try simp only[zzQ])|(apply WQ.skip (by rfl);try simp only[zzQ])));refine WQ.nil ?_;rintro _ ⟨g,rfl⟩)
     go_wp2;go_ret3;exact⟨g,by rw[m.out,o.out];rfl,rfl⟩
    ·have u:(48:Int)<=(b[a]'c).toNat:=by have:=d c;omega
     have V:(57:Int)<(b[a]'c).toNat:=by have:=d c;omega
     clear d;go_wp2
     (refine wp_region_quiet_lit (by kernel_rfl) (by kernel_rfl) (WQ.out ?_);(repeat(first|(apply WQ.read (by rfl);(focus(rintro q ⟨n,rfl⟩;go_simp;try with_reducible rfl));try simp only[zzQ])|(apply WQ.skip (by rfl);try simp only[zzQ])));refine WQ.nil ?_;rintro _ ⟨g,rfl⟩)
     go_wp2;go_ret3;exact⟨g,by rw[m.out,o.out];rfl,rfl⟩
    ·go_wp2
     (refine wp_region_quiet_lit (by kernel_rfl) (by kernel_rfl) (WQ.out ?_);(repeat(first|(apply WQ.read (by rfl);(focus(rintro q ⟨n,rfl⟩;go_simp;try with_reducible rfl));try simp only[zzQ])|(apply WQ.skip (by rfl);try simp only[zzQ])));refine WQ.nil ?_;rintro _ ⟨g,rfl⟩)
     go_wp2;go_ret3;exact⟨g,by rw[m.out,o.out];rfl,rfl⟩
theorem zf2 (n:Nat) (t:List UInt8) (h:Runs (zD n) t) (F:8<(zD n).length) (G:(zD n).length<=1000000) (J:t.length<=1000000) (w:zA):
 zC zF 225 #[St (zD n++t)] w λe w'=>e=zo (ze #[zj zm 0,St [],zg zu])/\w'=w:=by
 obtain⟨b,i⟩:=zzX (⟨(zD n++t).toArray⟩:ByteArray);obtain⟨z,b2, -⟩:=zii h b i;have p:=λa g=>ziu (l:=zD n) h.dig (k:=a) g;show zC _ _ #[z8 ⟨(zD n++t).toArray⟩] _ _;rw[<-i];generalize A:(zD n).length=r at*
 generalize d:(λa=>val ((zD n).take a))=c at*
 have o:c 0=0:=by rw[<-d];rfl
 have m:∀a (g:a<r) (f:a<b.size),48<=(b[a]'f).toNat/\(b[a]'f).toNat<=57/\c (a+1)=10*c a+((b[a]'f).toNat-48):=by rw[<-d];exact b2
 have q:∀a,a<=9->c a<1000000000:=by rw[<-d];exact p
 clear b2 p d A h i;have s:=hid m;have x:=hid q;have v:=hid o;have I:b.size<=2000000:=by omega
 have H:r<=b.size:=by omega
 clear m q z o;go_enter Tryz.func225,Tryz.ntmps225;go_wp2;go_loop [5,6] (λy j=>∃a:Nat,a<=9/\j=zj zm a/\y=zj zm (c a:Nat)) (λ_ j=>9-(zL j).toNat)
 case atStart=>exact⟨0,zR _,rfl,by rw[v.out];rfl⟩
 case round=>
  obtain⟨a,g,rfl,rfl⟩:=hrel;by_cases hlt:a<9
  ·have B:a<b.size:=by omega
   have E:(a:Int)<=8:=by omega
   obtain⟨c1,c2,k⟩:=s a (by omega) B;have K:=x a (by omega);generalize c a=L at*
   have u:=hid k;clear k;have C:(48:Int)<=(b[a].toNat:Int):=by omega
   have D:(b[a].toNat:Int)<=57:=by omega
   go_wp2;go_round
   case rel=>exact⟨a+1,by omega,by go_num,by rw[u.out];show zj zm _=zj zm _;congr 1;omega⟩
   case measure=>simp[zL];omega
  ·obtain rfl:a=9:=by omega
   by_cases h9:9<b.size
   ·go_wp2
    go_ret3;exact⟨rfl,rfl⟩
   ·go_wp2
    go_ret3;exact⟨rfl,rfl⟩
theorem zh1 (a b:Nat):Nat.gcd b (a%b)=Nat.gcd a b:=by
 rw[Nat.gcd_comm b,<-Nat.gcd_rec,Nat.gcd_comm]
theorem zj0 (a b:Nat) (ha:a<1000000000000000000) (n:b<1000000000000000000) (w:zA):
 zC zF 226 #[I a,I b] w λe w'=>∃g,e=zo (I (Nat.gcd a b))/\w'=w.drewN g:=by
 obtain⟨m,j⟩:=zzX (Nat.gcd a b);rw[<-j];have r:=hid j;clear j;go_enter Tryz.func226,Tryz.ntmps226;go_wp2;go_loopw [0,1] (λv l wr=>∃d c:Nat,v=I d/\l=I c/\Hid (Nat.gcd d c=m)/\d<1000000000000000000/\c<1000000000000000000/\∃g,wr=w.drewN g)
  (λ_ l _=>(zL l).toNat)
 case atStart=>exact⟨a,b,rfl,rfl,r.symm,ha,n,0,rfl⟩
 case round=>
  clear ha n;obtain⟨d,c,rfl,rfl,o,B,u,g,rfl⟩:=hrel;by_cases h0:c=0
  ·subst h0
   have p:d=m:=by have:=o.out;rw[Nat.gcd_zero_right] at this;exact this
   have t:=hid p;clear p;go_wp2;go_ret;exact⟨g,by rw[t.out];rfl,rfl⟩
  ·have y:((c:Int) !=0)=zt:=by simp;omega
   obtain⟨h,f⟩:=zzX (d%c);have z:h<c:=by rw[f];exact zP _ (by omega)
   have k:=zh1 d c;rw[<-f] at k;have A:zm.wrap ((d:Int).tmod c)=(h:Int):=by
    rw[Int.tmod_eq_emod_of_nonneg (by omega),<-Int.natCast_emod,<-f];exact zI _ (by omega)
   have q:((d:Int).tmod c)=(h:Int):=by rw[Int.tmod_eq_emod_of_nonneg (by omega),<-Int.natCast_emod,<-f]
   have s:=hid k;have i:=hid q;clear k f q;go_wp2
   (refine wp_region_quiet_lit (by kernel_rfl) (by kernel_rfl) (WQ.out ?_);(repeat(first|(apply WQ.read (by rfl);(focus(rintro x ⟨c,rfl⟩;go_simp;try with_reducible rfl));try simp only[zzQ])|(apply WQ.skip (by rfl);try simp only[zzQ])));refine WQ.nil ?_;rintro _ ⟨C,rfl⟩)
   go_wp2;go_roundw
   case rel=>exact⟨c,h,rfl,by first|rfl|(rw[i.out])|(show zj zm _=zj zm _;congr 1;have:=i.out;rw[<-this,Int.tmod_eq_emod_of_nonneg (by omega)]),s.trans o.out,u,by omega,_,World.drewN_drewN _ _ _⟩
   case measure=>first|(show((d:Int).tmod c).toNat<(c:Int).toNat;rw[i.out];omega)|(simp[zL];omega)
theorem zd7 (n:Nat):Runs (zD n) []:=⟨zan n,.inl rfl⟩
theorem zf3 (n:Nat) (t:List UInt8):Runs (zD n) (47::t):=⟨zan n,.inr ⟨47,t,rfl,.inl (by decide)⟩⟩
theorem zco (a:List UInt8) (f:a≠[]) (d:ByteArray) (h:d=⟨a.toArray⟩):d.toList.isEmpty=zu/\0<d.size/\d.size=a.length/\∀e:0<d.size,d[0]'e=a.head f:=by
 subst h;obtain⟨c,b,rfl⟩:∃c b,a=c::b:=by
  cases a with
  |nil=>exact absurd rfl f
  |cons c b=>exact⟨c,b,rfl⟩
 have g:(⟨(c::b).toArray⟩:ByteArray).size=b.length+1:=by show(c::b).toArray.size=_;simp
 exact⟨by rw[ByteArray.toList_eq];simp,by omega,by rw[g];simp,λe=>ba0 c b e⟩
theorem ze9 (c:UInt8) (r:List UInt8):((⟨(c::r).toArray⟩:ByteArray).extract 1 (⟨(c::r).toArray⟩:ByteArray).size)=⟨r.toArray⟩:=by
 have:=zl8 [c] r;simpa using this
theorem zgu (l:List UInt8) (a:ByteArray) (c:a=⟨((45:UInt8)::l).toArray⟩):a.toList.isEmpty=zu/\0<a.size/\a.size=l.length+1/\(∀b:0<a.size,(((a[0]'b).toNat:Int)==45)=zt)/\a.extract 1 a.size=⟨l.toArray⟩:=by
 obtain⟨d,e,f,g⟩:=zco (45::l) (by simp) a c;exact⟨d,e,by simpa using f,λb=>by rw[g b];rfl,by rw[c];exact ze9 _ _⟩
theorem zf6 (m:Bool) (n:Nat) (t:List UInt8) (a b:Int) (ok:Bool) (F:m=zt->0<n) (G:Runs (zD n) t) (R:(zD n).length<=900000) (H:t.length<=900001)
 (E:(8<(zD n).length/\a=0/\b=0/\ok=zu)\/((zD n).length<=8/\((t=[]/\a=(if m=zt then-(n:Int) else n)/\b=1/\ok=zt)\/
   ∃d:Nat,t=47::zD d/\(((zD d).length<=8/\2<=d/\Nat.gcd n d=1/\a=(if m=zt then-(n:Int) else n)/\b=d/\ok=zt)\/(8<(zD d).length/\a=0/\b=0/\ok=zu))))) (w:zA):
 qJ 183 #[St (if m=zt then 45::(zD n++t) else zD n++t)] w (ze #[zh #[zj zm a,zj zm b],zg ok]):=by
 obtain⟨s,p⟩:=zzX (⟨(zD n++t).toArray⟩:ByteArray);obtain⟨e,v⟩:=zzX (⟨(if m=zt then 45::(zD n++t) else zD n++t).toArray⟩:ByteArray);have S:s.size=(zD n++t).length:=by rw[p];show(zD n++t).toArray.size=_;simp
 have O:(m=zu/\e=s/\e.toList.isEmpty=zu/\∃u:0<e.size,(((e[0]'u).toNat:Int)==45)=zu)\/(m=zt/\e.toList.isEmpty=zu/\(∃u:0<e.size,(((e[0]'u).toNat:Int)==45)=zt)/\e.extract 1 e.size=s/\(1:Int)<=e.size/\(s.size:Int)<e.size/\((n:Int)==0)=zu):=by
  cases m
  ·obtain⟨x,r,U,y⟩:=zco (zD n++t) (by simp[zci]) e v
   obtain⟨V,a3,Q,W,X⟩:=dec_head n;refine .inl ⟨rfl,v.trans p.symm,x,r,?_⟩;rw[beq_eq_false_iff_ne,y r];simp only[Q,yM,List.head_cons];omega
  ·obtain⟨x,r,U,y,L⟩:=zgu (zD n++t) e v
   have:=F rfl;exact .inr ⟨rfl,x,⟨r,y r⟩,by rw[L,p],by omega,by omega,by rw[beq_eq_false_iff_ne];omega⟩
 have M:(a=0/\b=0/\ok=zu/\Hid (∀w,zC zF 225 #[z8 s] w λc f=>c=zo (ze #[zj zm 0,St [],zg zu])/\f=w))\/
  (n<1000000000/\((a=(if m=zt then-(n:Int) else n)/\b=1/\ok=zt/\Hid (∀w,zC zF 225 #[z8 s] w λc f=>∃i,c=zo (ze #[I n,St [],zg zt])/\f=w.drewN i))\/
  ∃(j g:ByteArray) (d:Nat),Hid (∀w,zC zF 225 #[z8 s] w λc f=>∃i,c=zo (ze #[I n,z8 j,zg zt])/\f=w.drewN i)/\j.toList.isEmpty=zu/\(∃u:0<j.size,(((j[0]'u).toNat:Int) !=47)=zu)/\(1:Int)<=j.size/\j.extract 1 j.size=g/\
   ((a=(if m=zt then-(n:Int) else n)/\b=d/\ok=zt/\¬(d:Int)<2/\Hid (∀w,zC zF 225 #[z8 g] w λc f=>∃i,c=zo (ze #[I d,St [],zg zt])/\f=w.drewN i)/\Hid (∀w,zC zF 226 #[I n,I d] w λc f=>∃i,c=zo (I (1:Nat))/\f=w.drewN i))\/
     (a=0/\b=0/\ok=zu/\Hid (∀w,zC zF 225 #[z8 g] w λc f=>c=zo (ze #[zj zm 0,St [],zg zu])/\f=w))))):=by
  rcases E with⟨q,k,l,o⟩|⟨q,⟨rfl,k,l,o⟩|⟨d,rfl,P⟩⟩
  ·exact .inl ⟨k,l,o,hid λw=>by rw[p];exact zf2 n t G q (by omega) (by omega) w⟩
  ·refine .inr ⟨zS ((zaf n 8 (by omega)).1 q) (by omega),.inl ⟨k,l,o,hid λw=>?_⟩⟩
   have h:=zcn n [] (zd7 n) q (by simp) w;rw[p];rw[yH] at h⊢;exact h
  ·refine .inr ⟨zS ((zaf n 8 (by omega)).1 q) (by omega),.inr ⟨⟨(47::zD d).toArray⟩,⟨(zD d).toArray⟩,d,hid λw=>by rw[p];exact zcn n (47::zD d) (zf3 n _) q (by omega) w,?_⟩⟩
   obtain⟨J,C,a4,K⟩:=zco (47::zD d) (by simp) _ rfl;refine⟨J,⟨C,by rw[K C];rfl⟩,by omega,ze9 _ _,?_⟩;rcases P with⟨z,a0,T,k,l,o⟩|⟨z,k,l,o⟩
   ·refine .inl ⟨k,l,o,by omega,hid λw=>?_,hid λw=>?_⟩
    ·have h:=zcn d [] (zd7 d) z (by simp) w
     rw[yH] at h;exact h
    ·have:=zj0 n d (zS ((zaf n 8 (by omega)).1 q) (by omega)) (zS ((zaf d 8 (by omega)).1 z) (by omega)) w
     rw[T] at this;exact this
   ·refine .inr ⟨k,l,o,hid λw=>?_⟩
    have h:=zf2 d [] (zd7 d) z (by simp at H;omega) (by simp) w;rw[yH] at h;exact h
 show zC _ _ #[z8 ⟨(if m=zt then 45::(zD n++t) else zD n++t).toArray⟩] _ _;rw[<-v];clear v p S E F G R H;rcases O with⟨rfl,rfl,x,r,y⟩|⟨rfl,x,⟨r,y⟩,L,a7,a8,a9⟩<;>rcases M with⟨rfl,rfl,rfl,B⟩|⟨Z,⟨rfl,rfl,rfl,B⟩|⟨j,g,d,B,J,⟨C,K⟩,a6,a5,⟨rfl,rfl,rfl,Y,D,N⟩|⟨rfl,rfl,rfl,D⟩⟩⟩
 all_goals
  go_enter Tryz.func183,Tryz.ntmps183;go_wp21;refine(B _).mono ?_
  first|rintro c A ⟨rfl,rfl⟩|rintro c A ⟨i,rfl,rfl⟩
  go_wp21
  try
   refine(D _).mono ?_
   first|rintro c A ⟨rfl,rfl⟩|rintro c A ⟨a1,rfl,rfl⟩
   go_wp21
   try
    refine(N _).mono ?_;rintro c A ⟨a2,rfl,rfl⟩;go_wp21
  first
   |refine bodyPost_ret (v:=ze #[zh #[zj zm 0,zj zm 0],zg zu]) (by simp[results,Tryz.results183,go_sem]) rfl ⟨rfl,?_⟩
   |refine bodyPost_ret (v:=ze #[zh #[I n,zj zm 1],zg zt]) (by simp[results,Tryz.results183,go_sem]) rfl ⟨rfl,?_⟩
   |refine bodyPost_ret (v:=ze #[zh #[zj zm (-(n:Int)),zj zm 1],zg zt]) (by simp[results,Tryz.results183,go_sem]) rfl ⟨rfl,?_⟩
   |refine bodyPost_ret (v:=ze #[zh #[I n,I d],zg zt]) (by simp[results,Tryz.results183,go_sem]) rfl ⟨rfl,?_⟩
   |refine bodyPost_ret (v:=ze #[zh #[zj zm (-(n:Int)),I d],zg zt]) (by simp[results,Tryz.results183,go_sem]) rfl ⟨rfl,?_⟩
  repeat(first|exact zM _ _|refine Below.alloc ?_ (by simp[World.setCell,World.drewN]) _|refine zao ?_ _|refine Below.setCell ?_ (by simp) _)
def zbb (q:Rat):Prop:=digs q.num<=8/\(zD q.den).length<=8
theorem zq8 {q:Rat} (h:0<=q.num):numS q=zD q.num.natAbs++(if q.den=1 then[] else 47::zD q.den):=by
 rcases zbg q.num with⟨_,a⟩|⟨b,_⟩
 ·unfold numS;rw[a]
 ·omega
theorem zq9 {q:Rat} (h:q.num<0):numS q=45::(zD q.num.natAbs++(if q.den=1 then[] else 47::zD q.den)):=by
 rcases zbg q.num with⟨b,_⟩|⟨_,a⟩
 ·omega
 ·unfold numS;rw[a];rfl
theorem zhh (q:Rat):numS q=if decide (q.num<0)=zt then 45::(zD q.num.natAbs++(if q.den=1 then[] else 47::zD q.den)) else zD q.num.natAbs++(if q.den=1 then[] else 47::zD q.den):=by
 by_cases h:q.num<0
 ·rw[decide_eq_true h,if_pos rfl,zq9 h]
 ·rw[decide_eq_false h,if_neg (by simp),zq8 (by omega)]
theorem zee (q:Rat) (k:digs q.num<=800000) (p:(zD q.den).length<=800000) (a b:Int) (ok:Bool) (h:(zbb q/\a=q.num/\b=q.den/\ok=zt)\/(¬zbb q/\a=0/\b=0/\ok=zu)) (w:zA):
 qJ 183 #[St (numS q)] w (ze #[zh #[zj zm a,zj zm b],zg ok]):=by
 have k:(zD q.num.natAbs).length<=800000:=k;have m:q.den=1->(zD q.den).length<=8:=λg=>by rw[g,zae (by omega)];simp
 have o:=q.den_nz;have n:(if decide (q.num<0)=zt then-(q.num.natAbs:Int) else(q.num.natAbs:Int))=q.num:=by
  by_cases h:q.num<0
  ·rw[decide_eq_true h,if_pos rfl];omega
  ·rw[decide_eq_false h,if_neg (by simp)];omega
 rw[zhh];refine zf6 (decide (q.num<0)) q.num.natAbs _ a b ok (λj=>by have:=of_decide_eq_true j;omega) (by split;exact zd7 _;exact zf3 _ _) (by omega) (by split<;>simp;omega) ?_ w;rw[n];rcases h with⟨⟨f,i⟩,c,d,e⟩|⟨l,c,d,e⟩
 ·refine .inr ⟨f,?_⟩
  by_cases hd:q.den=1
  ·exact .inl ⟨if_pos hd,c,by rw[d,hd];rfl,e⟩
  ·exact .inr ⟨q.den,if_neg hd,.inl ⟨i,by omega,q.reduced,c,d,e⟩⟩
 ·by_cases f:(zD q.num.natAbs).length<=8
  ·have i:8<(zD q.den).length:=Nat.lt_of_not_le λj=>l ⟨f,j⟩
   exact .inr ⟨f,.inr ⟨q.den,if_neg λg=>by have:=m g;omega,.inr ⟨i,c,d,e⟩⟩⟩
  ·exact .inl ⟨by omega,c,d,e⟩
theorem zbm (q:Rat) (h:zbb q) (w:zA):
 qJ 183 #[St (numS q)] w (ze #[zh #[zj zm q.num,I q.den],zg zt]):=
 zee q (zO h.1 (by omega)) (zO h.2 (by omega)) _ _ _ (.inl ⟨h,rfl,rfl,rfl⟩) w
theorem zb5 (q:Rat) (h:¬zbb q) (a:digs q.num<=800000) (b:(zD q.den).length<=800000) (w:zA):
 qJ 183 #[St (numS q)] w (ze #[zh #[zj zm 0,zj zm 0],zg zu]):=
 zee q a b _ _ _ (.inr ⟨h,rfl,rfl,rfl⟩) w
theorem znl (n:Int) (D:Nat) (c:0<D):∃(g a:Nat) (b:Int),g=Nat.gcd n.natAbs D/\0<g/\g<=D/\n.tdiv g=b/\D/g=a/\((D:Int).tdiv g)=(a:Int)/\b.natAbs<=n.natAbs/\a<=D/\numS (Rat.divInt n D)=zE b++(if a=1 then[] else 47::zE (a:Int)):=by
 have j:0<Nat.gcd n.natAbs D:=Nat.gcd_pos_of_pos_right _ c;have d:=zif n (D:Int) (by omega);have e:Int.gcd n (D:Int)=Nat.gcd n.natAbs D:=by unfold Int.gcd;rw[yY]
 rw[e] at d;have i:((Nat.gcd n.natAbs D:Nat):Int)∣n:=Int.ofNat_dvd_left.2 (Nat.gcd_dvd_left _ _);have f:n.tdiv (Nat.gcd n.natAbs D:Nat)=n/(Nat.gcd n.natAbs D:Nat):=Int.tdiv_eq_ediv_of_dvd i;refine⟨_,_,_,rfl,j,Nat.le_of_dvd c (Nat.gcd_dvd_right _ _),rfl,rfl,?_,?_,Nat.div_le_self _ _,?_⟩
 ·rw[Int.tdiv_eq_ediv_of_nonneg (by omega),Int.natCast_ediv]
 ·rw[Int.natAbs_tdiv,yY];exact Nat.div_le_self _ _
 ·rw[d,f,Int.natCast_ediv]
  congr 1;by_cases h:D/Nat.gcd n.natAbs D=1
  ·rw[if_pos h,if_pos (by rw[<-Int.natCast_ediv,h];rfl)]
  ·rw[if_neg h,if_neg (by rw[<-Int.natCast_ediv];omega)]
theorem zij (x:Int) (h: -1000000000000000000<x/\x<1000000000000000000):(zE x).length<=20:=by
 have a:=za7 x;have b:=zbf (z:=x) (by omega);omega
theorem zt6 (a b c:List UInt8):((⟨a.toArray⟩:ByteArray)++(⟨b.toArray⟩:ByteArray))++(⟨c.toArray⟩:ByteArray)=⟨(a++b++c).toArray⟩:=by
 apply ByteArray.ext;simp
theorem zik (a b:List UInt8):z8 ((⟨a.toArray⟩:ByteArray)++(⟨#[47]⟩:ByteArray)++(⟨b.toArray⟩:ByteArray))=St (a++47::b):=by
 rw[show(⟨#[47]⟩:ByteArray)=⟨([47]:List UInt8).toArray⟩ from rfl,zt6,List.append_assoc];rfl
theorem zu0 (n:Int) (D:Nat) (J:0<D) (L: -100000000000000000<n/\n<100000000000000000) (S:D<100000000000000000) (w:zA) (hw:Wd w):
 qJ 186 #[zh #[zj zm n,I D]] w (St (numS (Rat.divInt n D))):=by
 obtain⟨l,b,d,z,T,V,C,N,B,M,Y,A⟩:=znl n D J;obtain⟨a1,a2⟩:=L;rw[A];have o:=λc=>zj0 n.natAbs D (by omega) (by omega) c;rw[<-z] at o;have W:max n (-n)=((n.natAbs:Nat):Int):=by omega
 have f:zm.wrap (n.tdiv (l:Int))=d:=by rw[C];exact zI _ (by omega)
 have g:zm.wrap ((D:Int)/(l:Int))=(b:Int):=by rw[<-Int.tdiv_eq_ediv_of_nonneg (by omega),B];exact zI _ (by omega)
 have a3:zm.wrap (-n)= -n:=zI _ (by omega);have U:¬l=0:=by omega
 have p:=λc m=>zb3 d (by omega) (by omega) c m;have hi2:=λc m=>zb3 (b:Int) (by omega) (by omega) c m;obtain⟨O,i⟩:=zzX (⟨(zE d).toArray⟩:ByteArray);obtain⟨P,j⟩:=zzX (⟨(zE (b:Int)).toArray⟩:ByteArray);have Z:O.size<=20:=by rw[i];show(zE d).toArray.size<=20;have:=zij d (by omega);simpa using this
 have a0:P.size<=20:=by rw[j];show(zE (b:Int)).toArray.size<=20;have:=zij (b:Int) (by omega);simpa using this
 rw[<-i] at p;rw[<-j] at hi2;have u:=hid i;have F:=hid j;clear i j;have s:=hid o;have t:=hid p;have E:=hid hi2;have k:=hid hw;have v:=hid f;have x:=hid g;have X: -100000000000000000<d/\d<100000000000000000:=by omega
 clear z C N B M A o f g p hi2 hw;by_cases h1:b=1
 ·have K:((b:Int)==1)=zt:=by rw[beq_iff_eq];omega
  rw[if_pos h1,yH];clear h1;go_enter Tryz.func186,Tryz.ntmps186;go_wp21;refine(s _).mono ?_;rintro G Q ⟨q,rfl,rfl⟩;have f:=v.out;have g:=x.out;go_wp21
  (refine wp_region_quiet_lit (by kernel_rfl) (by kernel_rfl) (WQ.out ?_);(repeat(first|(apply WQ.read (by rfl);(focus(rintro c ⟨n,rfl⟩;go_simp;try with_reducible rfl));try simp only[zzQ])|(apply WQ.skip (by rfl);try simp only[zzQ])));refine WQ.nil ?_;rintro _ ⟨r,rfl⟩)
  clear f g;go_wp21;have a:=zao ((zM _ w).alloc (zN _) (zn #[zj zm n,I D] 219)) (q+r);refine zzM (t _ (k.below a)) λR h=>?_;have e:=a.trans (h.mono a.size);clear h a;go_wp21;go_ret;exact⟨by rw[u.out];rfl,e⟩
 ·have K:((b:Int)==1)=zu:=by rw[beq_eq_false_iff_ne];omega
  rw[if_neg h1];clear h1;go_enter Tryz.func186,Tryz.ntmps186;go_wp21;refine(s _).mono ?_;rintro G Q ⟨q,rfl,rfl⟩;have f:=v.out;have g:=x.out;go_wp21
  (refine wp_region_quiet_lit (by kernel_rfl) (by kernel_rfl) (WQ.out ?_);(repeat(first|(apply WQ.read (by rfl);(focus(rintro c ⟨n,rfl⟩;go_simp;try with_reducible rfl));try simp only[zzQ])|(apply WQ.skip (by rfl);try simp only[zzQ])));refine WQ.nil ?_;rintro _ ⟨r,rfl⟩)
  clear f g;go_wp21;have a:=zao ((zM _ w).alloc (zN _) (zn #[zj zm n,I D] 219)) (q+r);refine zzM (t _ (k.below a)) λR h=>?_;have e:=a.trans (h.mono a.size);clear h a;go_wp21;refine zzM (E _ (k.below e)) λa4 y=>?_;have H:=e.trans (y.mono e.size);clear y e;go_wp21;go_ret;refine⟨?_,H⟩;rw[u.out,F.out];exact zv6 (zik _ _)
theorem zu1 (n:Int) (D:Nat) (N:0<D) (P: -100000000000000000<n/\n<100000000000000000) (V:D<100000000000000000) (w:zA) (hw:Wd w):
 qJ 186 #[zh #[zj zm n,zj zm (-(D:Int))]] w (St (numS (Rat.divInt (-n) D))):=by
 obtain⟨i,c,b,p,W,Y,s,R,F,Q,a1,E⟩:=znl (-n) D N;obtain⟨a4,a5⟩:=P;rw[E];have q:=λd=>zj0 n.natAbs D (by omega) (by omega) d;rw[Int.natAbs_neg] at p;rw[<-p] at q;have Z:max (-n) n=((n.natAbs:Nat):Int):=by omega
 have H:zm.wrap n=n:=zI _ (by omega);have G: -(n.tdiv (i:Int))=b:=by rw[<-s,Int.neg_tdiv]
 have f:zm.wrap (-(n.tdiv (i:Int)))=b:=by rw[G];exact zI _ (by omega)
 have g:zm.wrap ((-n).tdiv (i:Int))=b:=by rw[s];exact zI _ (by omega)
 have h:zm.wrap ((D:Int)/(i:Int))=(c:Int):=by rw[<-Int.tdiv_eq_ediv_of_nonneg (by omega),F];exact zI _ (by omega)
 have a6:zm.wrap (-n)= -n:=zI _ (by omega);have X:¬i=0:=by omega
 have r:=λd o=>zb3 b (by omega) (by omega) d o;have hi2:=λd o=>zb3 (c:Int) (by omega) (by omega) d o;obtain⟨S,k⟩:=zzX (⟨(zE b).toArray⟩:ByteArray);obtain⟨T,l⟩:=zzX (⟨(zE (c:Int)).toArray⟩:ByteArray);have a2:S.size<=20:=by rw[k];show(zE b).toArray.size<=20;have:=zij b (by omega);simpa using this
 have a3:T.size<=20:=by rw[l];show(zE (c:Int)).toArray.size<=20;have:=zij (c:Int) (by omega);simpa using this
 rw[<-k] at r;rw[<-l] at hi2;have y:=hid k;have K:=hid l;clear k l;have v:=hid q;have x:=hid r;have J:=hid hi2;have m:=hid hw;have A:=hid g;have z:=hid f;have B:=hid h;have a0: -100000000000000000<b/\b<100000000000000000:=by omega
 clear p s R F Q E q G f g h r hi2 hw;by_cases h1:c=1
 ·have O:((c:Int)==1)=zt:=by rw[beq_iff_eq];omega
  rw[if_pos h1,yH];clear h1;go_enter Tryz.func186,Tryz.ntmps186;go_wp21;refine(v _).mono ?_;rintro L H ⟨t,rfl,rfl⟩;have f:=z.out;have g:=A.out;have h:=B.out;go_wp21
  (refine wp_region_quiet_lit (by kernel_rfl) (by kernel_rfl) (WQ.out ?_);(repeat(first|(apply WQ.read (by rfl);(focus(rintro d ⟨n,rfl⟩;go_simp;try with_reducible rfl));try simp only[zzQ])|(apply WQ.skip (by rfl);try simp only[zzQ])));refine WQ.nil ?_;rintro _ ⟨u,rfl⟩)
  clear f g h;go_wp21;have a:=zao ((zM _ w).alloc (zN _) (zn #[zj zm (-n),I D] 219)) (t+u);refine zzM (x _ (m.below a)) λU j=>?_;have e:=a.trans (j.mono a.size);clear j a;go_wp21;go_ret;exact⟨by rw[y.out];rfl,e⟩
 ·have O:((c:Int)==1)=zu:=by rw[beq_eq_false_iff_ne];omega
  rw[if_neg h1];clear h1;go_enter Tryz.func186,Tryz.ntmps186;go_wp21;refine(v _).mono ?_;rintro L H ⟨t,rfl,rfl⟩;have f:=z.out;have g:=A.out;have h:=B.out;go_wp21
  (refine wp_region_quiet_lit (by kernel_rfl) (by kernel_rfl) (WQ.out ?_);(repeat(first|(apply WQ.read (by rfl);(focus(rintro d ⟨n,rfl⟩;go_simp;try with_reducible rfl));try simp only[zzQ])|(apply WQ.skip (by rfl);try simp only[zzQ])));refine WQ.nil ?_;rintro _ ⟨u,rfl⟩)
  clear f g h;go_wp21;have a:=zao ((zM _ w).alloc (zN _) (zn #[zj zm (-n),I D] 219)) (t+u);refine zzM (x _ (m.below a)) λU j=>?_;have e:=a.trans (j.mono a.size);clear j a;go_wp21;refine zzM (J _ (m.below e)) λa7 C=>?_;have M:=e.trans (C.mono e.size);clear C e;go_wp21;go_ret;refine⟨?_,M⟩;rw[y.out,K.out];exact zv6 (zik _ _)
theorem zjd (n d:Int) (a:d<0):Rat.divInt n d=Rat.divInt (-n) ((d.natAbs:Nat):Int):=by
 rw[zes _ _ (by omega),if_pos a,zes _ _ (by omega),if_neg (by omega),yY]
theorem zd8 (n d:Int) (e:d≠0) (c: -100000000000000000<n/\n<100000000000000000) (f: -100000000000000000<d/\d<100000000000000000) (w:zA) (hw:Wd w):
 qJ 186 #[zh #[zj zm n,zj zm d]] w (St (numS (Rat.divInt n d))):=by
 rcases Int.lt_or_gt_of_ne e with b|b
 ·obtain⟨a,rfl⟩:∃a:Nat,d= -(a:Int):=⟨d.natAbs,by omega⟩
  rw[zjd _ _ b,show((-(a:Int)).natAbs)=a by omega];exact zu1 n a (by omega) c (by omega) w hw
 ·obtain⟨a,rfl⟩:∃a:Nat,d=(a:Int):=⟨d.natAbs,by omega⟩
  exact zu0 n a (by omega) c (by omega) w hw
theorem ziv (n:Nat) (s:(zD n).length<=1000000) (w:zA):
 zC zF 224 #[St (zD n)] w λe w'=>e=zo (I (zD n).length)/\w'=w:=by
 obtain⟨b,d⟩:=zzX (⟨(zD n++[]).toArray⟩:ByteArray);obtain⟨g,b2, -⟩:=zii (zd7 n) b d;have o:(zD n).length<=1\/∀c:0<b.size,(b[0]'c).toNat≠48:=zjz n [] b d;have j:∀a (c:a<b.size),48<=(b[a]'c).toNat/\(b[a]'c).toNat<=57:=λa c=>⟨(b2 a (by simp at g;omega) c).1,(b2 a (by simp at g;omega) c).2.1⟩;rw[yH] at d;have k:(zD n).length=b.size:=by rw[g];simp
 show zC _ _ #[z8 ⟨(zD n).toArray⟩] _ _;rw[k] at s o⊢;rw[<-d];have p:=hid j;clear g b2 j d k;go_enter Tryz.func224,Tryz.ntmps224;go_wp2;go_loop [3] (λi=>∃a:Nat,a<=b.size/\i=zj zm a) (λi=>b.size-(zL i).toNat)
 case atStart=>exact⟨0,zR _,rfl⟩
 case round=>
  obtain⟨a,z,rfl⟩:=hrel;by_cases hlt:a<b.size
  ·obtain⟨c1,c2⟩:=p a hlt
   have u:(48:Int)<=(b[a].toNat:Int):=by omega
   have v:(b[a].toNat:Int)<=57:=by omega
   go_wp2;go_round
   case rel=>exact⟨a+1,by omega,by go_num⟩
   case measure=>simp[zL];omega
  ·obtain⟨t,l⟩:=zzX b.size
   have r:a=t:=by omega
   subst r;have f:=hid l;clear l;rcases o with h|h
   ·have q:¬(1:Int)<a:=by have:=f.out;omega
    go_wp2;go_ret;exact⟨show Ending.returned (I a)=zo (I b.size) from by rw[<-f.out],rfl⟩
   ·by_cases h2:1<a
    ·have x:(1:Int)<a:=by omega
     have m:0<b.size:=by omega
     have y:(((b[0]'m).toNat:Int)==48)=zu:=by rw[beq_eq_false_iff_ne];have:=h m;omega
     clear h;go_wp2;go_ret;exact⟨show Ending.returned (I a)=zo (I b.size) from by rw[<-f.out],rfl⟩
    ·have q:¬(1:Int)<a:=by omega
     clear h;go_wp2;go_ret;exact⟨show Ending.returned (I a)=zo (I b.size) from by rw[<-f.out],rfl⟩
theorem z1l (a b:List UInt8) (h:(47:UInt8)∉a):cut (a++47::b) [47]=(a,b,zt):=by
 have d:index (a++47::b) [47]=(a.length:Int):=by
  refine index_first (by simp) (by simp[occAt]) λf e=>?_;rw[Bool.eq_false_iff];intro c;have:=occAt_head rfl c;rw[List.getElem?_append_left e] at this;exact h (List.mem_of_getElem? this)
 unfold cut;rw[d,if_pos (by omega)];simp
theorem z2u (a:List UInt8) (h:(47:UInt8)∉a):cut a [47]=(a,[],zu):=by
 have c:index a [47]= -1:=by
  refine index_none λe d=>?_;rw[Bool.eq_false_iff];intro b;exact h (List.mem_of_getElem? (occAt_head rfl b))
 unfold cut;rw[c,if_neg (by omega)]
theorem zra (q:Rat):cut (numS q) [47]=(zE q.num,(if q.den=1 then[] else zD q.den),decide (q.den≠1)):=by
 by_cases h:q.den=1
 ·rw[zmu h,z2u _ (zfe _),if_pos h];simp[h]
 ·rw[zid h,z1l _ _ (zfe _),if_neg h];simp[h]
theorem zhl {n:Nat} {a:ByteArray} (d:a=⟨(zD n).toArray⟩) (k:Nat) (c:k<10) (h:n≠k):(a.toList==[UInt8.ofNat (48+k)])=zu:=by
 rw[beq_eq_false_iff_ne,d,ByteArray.toList_eq,<-zae c];intro b;exact h (zfk (by simpa using b))
theorem zfo {l:List UInt8} {a:ByteArray} (b:a=⟨l.toArray⟩):a.toList=l:=by rw[b,ByteArray.toList_eq]
theorem zy7 (q:Rat) (r:q.den≠1) (m:digs q.num<=800000) (C:(zD q.den).length<=800000) (w:zA) (hw:Wd w):
 qJ 182 #[St (numS q)] w (ze #[zh #[St (zE q.num),St (zD q.den)],zg zt]):=by
 have m:(zD q.num.natAbs).length<=800000:=m;obtain⟨p,n⟩:=zzX (⟨(numS q).toArray⟩:ByteArray);obtain⟨k,o⟩:=zzX (⟨(zE q.num).toArray⟩:ByteArray);obtain⟨c,e⟩:=zzX (⟨(zD q.den).toArray⟩:ByteArray);obtain⟨f,j⟩:=zzX (⟨(zD q.num.natAbs).toArray⟩:ByteArray);have D:p.size<4294967281:=by
  rw[n];show(numS q).toArray.size<_;have E:=za7 q.num;unfold digs at E;unfold numS;rw[if_neg r];simp;omega
 have z:∀a:zA,Wd a->zC zF 222 #[z8 p,z8 ⟨#[47]⟩] a λb d=>b=zo (ze #[z8 k,z8 c,zg zt])/\∃J,d=a.drewN J:=by
  intro a F;obtain⟨H,G⟩:=F.maxl;have:=Tryz.strings_Cut p ⟨#[47]⟩ H a D G;rw[show p.data.toList=numS q from by rw[n],show(⟨#[47]⟩:ByteArray).data.toList=[47] from rfl,zra] at this;rw[o,e];simpa [r] using this
 have y:∀a:zA,zC zF 223 #[z8 k,z8 ⟨#[45]⟩] a λb d=>b=zo (ze #[z8 f,zg (decide (q.num<0))])/\d=a:=by
  intro a;have:=Tryz.strings_CutPrefix k ⟨#[45]⟩ a;rw[show k.data.toList=zE q.num from by rw[o],show(⟨#[45]⟩:ByteArray).data.toList=[45] from rfl,zbi,zdx] at this;rw[j];exact this
 have A:∀a:zA,zC zF 224 #[z8 f] a λb d=>b=zo (I f.size)/\d=a:=by
  intro a;have:=ziv q.num.natAbs (by omega) a;rw[show(zD q.num.natAbs).length=f.size from by rw[j];exact List.size_toArray.symm] at this;rw[j] at this⊢;exact this
 have B:∀a:zA,zC zF 224 #[z8 c] a λb d=>b=zo (I c.size)/\d=a:=by
  intro a;have:=ziv q.den (by omega) a;rw[show(zD q.den).length=c.size from by rw[e];exact List.size_toArray.symm] at this;rw[e] at this⊢;exact this
 have z1:=zco _ (zci q.num.natAbs) f j;have z2:=zco _ (zci q.den) c e;have L:((f.size:Int)==0)=zu:=by rw[beq_eq_false_iff_ne];have:=z1.2.1;omega
 have M:((c.size:Int)==0)=zu:=by rw[beq_eq_false_iff_ne];have:=z2.2.1;omega
 have O:f.size<=800000:=by rw[z1.2.2.1];exact m
 have P:c.size<=800000:=by rw[z2.2.2.1];exact C
 have Q:(c.toList==[48])=zu:=zhl e 0 (by omega) q.den_nz;have R:(c.toList==[49])=zu:=zhl e 1 (by omega) r;show zC _ _ #[z8 ⟨(numS q).toArray⟩] _ λb d=>b=zo (ze #[zh #[z8 ⟨(zE q.num).toArray⟩,z8 ⟨(zD q.den).toArray⟩],zg zt])/\Below w.heap.size w d;rw[<-n,<-o,<-e];have s:=hid z;have l:=hid y;have t:=hid A;have u:=hid B;have x:=hid hw;have g:decide (q.num<0)=zu\/decide (q.num<0)=zt/\(f.toList==[48])=zu:=by
  by_cases h:q.num<0
  ·exact .inr ⟨decide_eq_true h,zhl j 0 (by omega) (by omega)⟩
  ·exact .inl (decide_eq_false h)
 clear z y A B hw z1 z2 n o e j m C D;rcases g with g|⟨g,N⟩
 ·rw[g] at l
  clear g;go_enter Tryz.func182,Tryz.ntmps182;go_wp21;refine(s _ (x.below ((zM _ w).alloc (zN _) _))).mono ?_;rintro b i ⟨rfl,K,rfl⟩;go_wp21;refine(l _).mono ?_;rintro b i ⟨rfl,rfl⟩;go_wp21;refine(t _).mono ?_;rintro b i ⟨rfl,rfl⟩;go_wp21;refine(u _).mono ?_;rintro b i ⟨rfl,rfl⟩;go_wp21;refine bodyPost_ret (v:=ze #[zh #[z8 k,z8 c],zg zt]) (by simp[results,Tryz.results182,go_sem]) rfl ⟨rfl,?_⟩
  repeat(first|exact zM _ _|refine Below.alloc ?_ (by simp) _|refine zao ?_ _|refine Below.setCell ?_ (by simp) _)
 ·rw[g] at l
  clear g;go_enter Tryz.func182,Tryz.ntmps182;go_wp21;refine(s _ (x.below ((zM _ w).alloc (zN _) _))).mono ?_;rintro b i ⟨rfl,K,rfl⟩;go_wp21;refine(l _).mono ?_;rintro b i ⟨rfl,rfl⟩;go_wp21;refine(t _).mono ?_;rintro b i ⟨rfl,rfl⟩;go_wp21;refine(u _).mono ?_;rintro b i ⟨rfl,rfl⟩;go_wp21;refine bodyPost_ret (v:=ze #[zh #[z8 k,z8 c],zg zt]) (by simp[results,Tryz.results182,go_sem]) rfl ⟨rfl,?_⟩
  repeat(first|exact zM _ _|refine Below.alloc ?_ (by simp) _|refine zao ?_ _|refine Below.setCell ?_ (by simp) _)
theorem z1m (q:Rat) (x:q.den=1) (k:digs q.num<=800000) (w:zA) (hw:Wd w):
 qJ 182 #[St (numS q)] w (ze #[zh #[St (zE q.num),St [49]],zg zt]):=by
 have k:(zD q.num.natAbs).length<=800000:=k;obtain⟨n,l⟩:=zzX (⟨(numS q).toArray⟩:ByteArray);obtain⟨g,m⟩:=zzX (⟨(zE q.num).toArray⟩:ByteArray);obtain⟨c,f⟩:=zzX (⟨(zD q.num.natAbs).toArray⟩:ByteArray);have y:n.size<4294967281:=by
  rw[l];show(numS q).toArray.size<_;have z:=za7 q.num;unfold digs at z;unfold numS;rw[if_pos x];simp;omega
 have t:∀a:zA,Wd a->zC zF 222 #[z8 n,z8 ⟨#[47]⟩] a λb e=>b=zo (ze #[z8 g,St [],zg zu])/\∃D,e=a.drewN D:=by
  intro a A;obtain⟨C,B⟩:=A.maxl;have:=Tryz.strings_Cut n ⟨#[47]⟩ C a y B;rw[show n.data.toList=numS q from by rw[l],show(⟨#[47]⟩:ByteArray).data.toList=[47] from rfl,zra] at this;rw[m];simpa [x] using this
 have s:∀a:zA,zC zF 223 #[z8 g,z8 ⟨#[45]⟩] a λb e=>b=zo (ze #[z8 c,zg (decide (q.num<0))])/\e=a:=by
  intro a;have:=Tryz.strings_CutPrefix g ⟨#[45]⟩ a;rw[show g.data.toList=zE q.num from by rw[m],show(⟨#[45]⟩:ByteArray).data.toList=[45] from rfl,zbi,zdx] at this;rw[f];exact this
 have u:∀a:zA,zC zF 224 #[z8 c] a λb e=>b=zo (I c.size)/\e=a:=by
  intro a;have:=ziv q.num.natAbs (by omega) a;rw[show(zD q.num.natAbs).length=c.size from by rw[f];exact List.size_toArray.symm] at this;rw[f] at this⊢;exact this
 have z1:=zco _ (zci q.num.natAbs) c f;have F:((c.size:Int)==0)=zu:=by rw[beq_eq_false_iff_ne];have:=z1.2.1;omega
 have H:c.size<=800000:=by rw[z1.2.2.1];exact k
 show zC _ _ #[z8 ⟨(numS q).toArray⟩] _ λb e=>b=zo (ze #[zh #[z8 ⟨(zE q.num).toArray⟩,St [49]],zg zt])/\Below w.heap.size w e;rw[<-l,<-m];have o:=hid t;have j:=hid s;have p:=hid u;have r:=hid hw;have d:decide (q.num<0)=zu\/decide (q.num<0)=zt/\(c.toList==[48])=zu:=by
  by_cases h:q.num<0
  ·exact .inr ⟨decide_eq_true h,zhl f 0 (by omega) (by omega)⟩
  ·exact .inl (decide_eq_false h)
 clear t s u hw z1 l m f k y;rcases d with d|⟨d,G⟩
 ·rw[d] at j
  clear d;go_enter Tryz.func182,Tryz.ntmps182;go_wp21;refine(o _ (r.below ((zM _ w).alloc (zN _) _))).mono ?_;rintro b i ⟨rfl,E,rfl⟩;go_wp21;refine(j _).mono ?_;rintro b i ⟨rfl,rfl⟩;go_wp21;refine(p _).mono ?_;rintro b i ⟨rfl,rfl⟩;go_wp21;refine bodyPost_ret (v:=ze #[zh #[z8 g,St [49]],zg zt]) (by simp[results,Tryz.results182,go_sem]) rfl ⟨rfl,?_⟩
  repeat(first|exact zM _ _|refine Below.alloc ?_ (by simp) _|refine zao ?_ _|refine Below.setCell ?_ (by simp) _)
 ·rw[d] at j
  clear d;go_enter Tryz.func182,Tryz.ntmps182;go_wp21;refine(o _ (r.below ((zM _ w).alloc (zN _) _))).mono ?_;rintro b i ⟨rfl,E,rfl⟩;go_wp21;refine(j _).mono ?_;rintro b i ⟨rfl,rfl⟩;go_wp21;refine(p _).mono ?_;rintro b i ⟨rfl,rfl⟩;go_wp21;refine bodyPost_ret (v:=ze #[zh #[z8 g,St [49]],zg zt]) (by simp[results,Tryz.results182,go_sem]) rfl ⟨rfl,?_⟩
  repeat(first|exact zM _ _|refine Below.alloc ?_ (by simp) _|refine zao ?_ _|refine Below.setCell ?_ (by simp) _)
theorem zoh (q:Rat) (a:digs q.num<=800000) (b:(zD q.den).length<=800000) (w:zA) (hw:Wd w):
 qJ 182 #[St (numS q)] w (ze #[zh #[St (zE q.num),St (zD q.den)],zg zt]):=by
 by_cases h:q.den=1
 ·rw[h,zae (by omega)];exact z1m q h a w hw
 ·exact zy7 q h a b w hw
end
end Go.Proofs.YtjmljcdbjakefaaGreatDoor
