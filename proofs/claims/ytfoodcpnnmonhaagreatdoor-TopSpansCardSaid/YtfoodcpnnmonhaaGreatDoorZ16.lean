/- surd.Make of any terms with positive roots: the list, or an error. -/
import Derived.Test.YtfoodcpnnmonhaaGreatDoorZ15
import Derived.Lib.SmallJoins
import Derived.Maps.AppendAt
import Derived.LaidByTextLater
set_option maxRecDepth 100000
set_option maxHeartbeats 8000000
open Go renaming World → zA, Calls → zC
open Go.RowKit renaming Below → zB
open Go.Lib renaming decDigits → zD
open Go.Proofs.Tryz renaming prog → zF
open Go.Joins renaming cell_of_block → zJ
open Go.RowKit.Below renaming refl → zM
open Nat renaming le_refl → zN, le_trans → zO, zero_le → zR, lt_of_lt_of_le → zS, le_of_lt → zT, pow_le_pow_right → yF, pos_of_ne_zero → yS
open List renaming length_map → zV, getElem?_eq_getElem → yB, mem_cons_self → yD
namespace Go.Proofs.YtfoodcpnnmonhaaGreatDoor
section
open Go.RowKit Go.Shelf Lib Str Limb
attribute [local go_sem] Oper.semAt_some
structure MkS (U:List (Rat×Rat)):Prop where
 len:U.length<=12
 ne:∀u∈U,u.1≠0
 pos:∀u∈U,0<u.2
 csz:∀u∈U,sz u.1 140
 rsz:∀u∈U,sz u.2 90
theorem yfj {N k:Nat} (hN:0<N) (h:N<k):(zn7 N).2<k:=by
 obtain⟨k1,k2, -, -⟩:=zf5 hN;have h5:=Nat.le_mul_of_pos_left (zn7 N).2 (Nat.mul_pos k2 k2);rw[k1] at h5;omega
theorem zmj {n k:Nat} (hk:0<k) (h:n<10^k):sz (n:Rat) k:=⟨by show((n:Int)).natAbs<_;rw[Int.natAbs_natCast];exact h,Nat.one_lt_pow (by omega) (by omega)⟩
theorem yhk {u:Rat×Rat} (hp:0<u.2) {k:Nat} (hk:0<k) (h:sz u.2 k):sz ((nrT u).2:Rat) (k+k):=by
 have h1:=yfj (Nat.mul_pos (z9b hp).2 u.2.den_pos) (zcc h.1 h.2);unfold nrT;dsimp only;generalize (zn7 (u.2.num.natAbs*u.2.den)).2=z at*
 exact zmj (by omega) h1
def GdG (l:List (Rat×Nat)):Prop:=∀c∈l,NrmG c.2/\okQ c.1
theorem yfk (F:Prop) (U:List (Rat×Rat)) (hU:MkS U) (T:List (Rat×Nat)) (eT:T=U.map nrT) (hF:∀i t,T[i]? =some t->(t.2<10^90\/F)/\∀c∈grG T i,z5c (t.2:Rat) (c.2:Rat)=true->okP c t\/F) (X Y:Nat->List UInt8) (hX:∀i u,U[i]? =some u->X i=numS u.1/\Y i=numS u.2) (q:Option Addr) (cap:Nat) (w:zA) (HW:Hid (∀W,qL w W->Wd W)) (HP:Hid (∀W,qL w W->Pw W))
 (HT:Hid (∀i,i<U.length->∃b off,q=some ⟨b,off,none⟩/\b<w.heap.size/\w.cell? ⟨b,off+i*2,none⟩=some (St (X i))/\w.cell? ⟨b,off+i*2+1,none⟩=some (St (Y i)))) (u vg:zA) (h1:qL w u) (h2:qL u vg) (h3:vg.heap.size=u.heap.size+1) (h4:GatL u.heap.size [] vg):
 zC zF 118 #[.slice q U.length cap,.func (.func 119) #[.pointer (some ⟨u.heap.size,0,none⟩)] #[]] vg λe w'=>∃r:Int,e=.returned (.int .i64 r)/\zB u.heap.size vg w'/\((r=0/\GatL u.heap.size ((grG T T.length).map strT) w'/\GdG (grG T T.length))\/(r=4/\F)):=by
 have lT:T.length=U.length:=by rw[eT,zV]
 have at_:∀i,i<U.length->∃u,U[i]? =some u:=λi hi=>⟨_,yB hi⟩;have hs:=h1.size;have hlen:=hU.len;have d1:zD 1=[49]:=by rw[zae (by omega)];rfl
 rw[lT]
 refine ygx F u.heap.size q cap U.length X Y (λi W=>GatL u.heap.size ((grG T i).map strT) W/\GdG (grG T i)) (by omega)
  (hid λi hi=>?_) vg (by omega) (hid λW h=>HW.out _ (h1.trans ((h2.trans h).mono hs))) (hid λW h=>HP.out _ (h1.trans ((h2.trans h).mono hs))) ⟨h4,λc hc=>by cases hc⟩
  (hid λi hi=>by
    obtain⟨b,off,e,hb,c0,c1⟩:=HT.out i hi;have hB:qL w vg:=h1.trans (h2.mono hs);exact⟨b,off,e,by omega,by rw[hB.cell (p:=⟨b,off+i*2,none⟩) hb];exact c0,by rw[hB.cell (p:=⟨b,off+i*2+1,none⟩) hb];exact c1⟩)
 obtain⟨a,ha⟩:=at_ i hi;have hma:=List.mem_of_getElem? ha;have ht:T[i]? =some (nrT a):=by rw[eT,List.getElem?_map,ha];rfl
 have ha2:=hU.pos a hma;obtain⟨-,n0⟩:=z9b ha2;obtain⟨-, -,k3,k4⟩:=zf5 (Nat.mul_pos n0 a.2.den_pos);have sL:=yhk ha2 (by omega) (hU.rsz a hma);have hsz:=zpi ha2 (hU.rsz a hma);have hnq:=λW hW hP=>z7a a.2 ha2 (hU.rsz a hma) W hW hP;obtain⟨C,hC⟩:=zzX ((zn7 (a.2.num.natAbs*a.2.den)).1);obtain⟨L,hL⟩:=zzX ((zn7 (a.2.num.natAbs*a.2.den)).2);have e3:nrT a=(a.1*((C:Rat)/(a.2.den:Rat)),L):=by unfold nrT;rw[<-hC,<-hL]
 have e4:a.2=1->a.1*((C:Rat)/(a.2.den:Rat))=a.1/\L=1:=λe1=>by
  have e2:nrT a=(a.1,1):=by rw[show a=(a.1,1) from by rw[<-e1]];exact ygy a.1
  rw[e3] at e2;exact⟨congrArg Prod.fst e2,congrArg Prod.snd e2⟩
 rw[<-hC,<-hL] at hnq;rw[<-hC] at hsz;rw[<-hL] at k3 k4;rw[e3] at ht sL;dsimp only at sL;clear hC hL e3;obtain⟨X1,hX1⟩:=zzX (a.1*((C:Rat)/(a.2.den:Rat)));rw[<-hX1] at ht e4;have hcz:(numS a.1==[48])=false:=zsf (hU.ne a hma);have hrz:(numS a.2==[48])=false:=zsf (λe=>by rw[e] at ha2;exact absurd ha2 (by decide));have hlg:=λW hW=>znp (L:Rat) (zd0 (by omega) (by omega) sL) W hW;rw[zhe] at hlg;have dd:digs ((L:Rat).den:Int)=1:=by show digs ((1:Nat):Int)=1;rw[zd9,d1];rfl
 have dn:digs (L:Rat).num=(zD L).length:=by show digs ((L:Nat):Int)=_;rw[zd9]
 have sx:sz X1 230:=by rw[hX1];exact zca (hU.csz a hma) hsz
 have hrest:∀(kk:List UInt8),(qK 52 #[St (numS a.1),St kk] (.tuple #[St (numS X1),.int .i64 0]))->
  ((90<(max (digs (L:Rat).num:Int) (digs ((L:Rat).den:Int):Nat):Int)/\F)\/((max (digs (L:Rat).num:Int) (digs ((L:Rat).den:Int):Nat):Int)<=90/\(qK 52 #[St (numS a.1),St kk] (.tuple #[St (numS X1),.int .i64 0]))/\
    ∀W:zA,Wd W->(GatL u.heap.size ((grG T i).map strT) W/\GdG (grG T i))->zC zF 119 #[.pointer (some ⟨u.heap.size,0,none⟩),.agg #[St (numS X1),St (zD L)]] W λe w'=>∃r:Int,e=.returned (.int .i64 r)/\zB u.heap.size W w'/\((r=0/\(GatL u.heap.size ((grG T (i+1)).map strT) w'/\GdG (grG T (i+1))))\/(r=4/\F)))):=λkk hm=>by
  rw[dd,dn];by_cases g:(zD L).length<=90
  ·refine .inr ⟨by omega,hm,λW hW hS=>?_⟩
   rw[zr9 ht];exact yh2 F u.heap.size (grG T i) (X1,L) (by have:=zw1 T i;omega) ⟨k3,(zaf _ 90 (by omega)).1 g,k4⟩ (zd0 (k:=230) (by omega) (by omega) sx) hS.2 (hF i _ ht).2 W hW hS.1
  ·exact .inl ⟨by omega,(hF i _ ht).1.resolve_left λh=>g ((zaf _ 90 (by omega)).2 h)⟩
 have hkeep:∀W W':zA,(GatL u.heap.size ((grG T i).map strT) W/\GdG (grG T i))->qL W W'->(GatL u.heap.size ((grG T i).map strT) W'/\GdG (grG T i)):=λW W' h hb=>⟨GatL.keep h.1 (zac hb),h.2⟩;rw[(hX i a ha).1,(hX i a ha).2];by_cases e1:a.2=1
 ·obtain⟨e5,e6⟩:=e4 e1
  refine⟨true,[49],zD L,numS X1,_,hcz,hrz,by rw[e1,zfc];rfl,λ_=>⟨rfl,by rw[e1,zfc,e6];exact d1⟩,λh=>(by cases h),hlg,hkeep,hrest _ λW hW=>?_⟩;have:=z61 a.1 1 a.1 140 1 (by omega) (by omega) (by omega) (hU.csz a hma) zb7.2.1 (by rw[Rat.mul_one]) W hW;rw[zfc] at this;rw[e5];exact this
 ·refine⟨false,numS ((C:Rat)/(a.2.den:Rat)),zD L,numS X1,_,hcz,hrz,?_,λh=>(by cases h),λ_ W hW hP=>hnq W hW hP,hlg,hkeep,hrest _ λW hW=>?_⟩
  ·rw[beq_eq_false_iff_ne,<-zfc]
   exact λe=>e1 (zh0 e)
  ·rw[hX1]
   exact zjf _ _ 140 90 (by omega) (by omega) (by omega) (hU.csz a hma) hsz W hW
def ShG (l:List (Rat×Nat)):Prop:=∀c∈l,sz c.1 60/\c.2<10^40/\NrmG c.2
theorem zix {q:Rat} {k:Nat} (hk:0<k):(sz q k->¬(k:Int)<(max (digs q.num:Int) (digs (q.den:Int):Nat)))/\(¬sz q k->(k:Int)<(max (digs q.num:Int) (digs (q.den:Int):Nat))):=by
 refine⟨λh=>?_,λh=>?_⟩
 ·have da:=zok hk h
  have da2:digs (q.den:Int)<=k:=by rw[zd9];exact da.2
  have:=da.1;omega
 ·have:¬(digs q.num<=k/\digs (q.den:Int)<=k):=λ⟨k1,k2⟩=>h ⟨(za3 _ _ hk).1 k1,by have:=(za3 _ _ hk).1 k2;rwa [Int.natAbs_natCast] at this⟩
  omega
theorem ygz {q:Rat}:sz q 60->decide ((60:Int)<(max (digs q.num:Int) (digs (q.den:Int):Nat)))=false:=λh=>decide_eq_false ((zix (k:=60) (by omega)).1 h)
theorem yg0 {n:Nat}:n<10^40->decide ((40:Int)<(max (digs ((n:Nat):Rat).num:Int) (digs (((n:Nat):Rat).den:Int):Nat)))=false:=λh=>decide_eq_false ((zix (k:=40) (by omega)).1 (zmj (by omega) h))
theorem yhl {n k:Nat} (hk:0<k):sz (n:Rat) k↔n<10^k:=⟨λh=>by have:=h.1;rwa [show((n:Rat)).num=(n:Int) from rfl,Int.natAbs_natCast] at this,zmj hk⟩
theorem yg1 {U:List (Rat×Rat)} (h:∀u∈U,0<u.2):PosR (U.map nrT):=λt ht=>by
 obtain⟨u,hu,rfl⟩:=List.mem_map.1 ht;have h1:=(zf5 (Nat.mul_pos (z9b (h u hu)).2 u.2.den_pos)).2.2.1;unfold nrT;dsimp only;generalize (zn7 (u.2.num.natAbs*u.2.den)).2=z at*
 exact_mod_cast h1
def zhg (T:List (Rat×Nat)):Prop:=(∀i t,T[i]? =some t->t.2<10^90/\∀c∈grG T i,z5c (t.2:Rat) (c.2:Rat)=true->okP c t)/\∀c∈grG T T.length,c.1≠0->sz c.1 60/\c.2<10^40
theorem zud {T:List (Rat×Nat)} (h:zhg T) (hT:∀t∈T,0<t.2/\zn7 t.2=(1,t.2)/\okQ t.1):∀i,i<=T.length->GdG (grG T i)
 |0,_=>λc hc=>by cases hc
 |i+1,hi=>by
  have ih:=zud h hT i (by omega);have ht:T[i]? =some T[i]:=yB (by omega);obtain⟨h1,h2,h3⟩:=hT _ (List.mem_of_getElem? ht);obtain⟨h4,h5⟩:=h.1 i _ ht;rw[zr9 ht];generalize T[i]=t at*
  rcases zm7 t (grG T i) with⟨_,e⟩|⟨j,c,e1,e2,_,e⟩
  ·rw[e]
   intro c hc;rcases List.mem_append.1 hc with hc|hc
   ·exact ih c hc
   ·rw[List.mem_singleton] at hc
    subst hc;exact⟨⟨h1,h4,h2⟩,h3⟩
  ·rw[e]
   intro d hd;rcases List.mem_or_eq_of_mem_set hd with hd|rfl
   ·exact ih d hd
   ·have hc:=List.mem_of_getElem? e1
    have o:=h5 c hc e2;unfold okP at o;unfold plG;split at o
    ·rename_i g;rw[if_pos g];exact⟨⟨h1,h4,h2⟩,o.2.ok⟩
    ·rename_i g;rw[if_neg g];exact⟨(ih c hc).1,o.2.ok⟩
theorem yfl {w:zA} {base:Nat} {t:TypeId} {s:Nat} {q:Option Addr} {n c m:Nat} {xs:List Value} (h:w.ownsRow base t s (.slice q n c) m xs):∀a,q=some a->base<=a.block/\a.off=0:=λa e=>by
 rcases h.2 with⟨e2,_⟩|⟨g,cp,cur,e2,hg,_⟩
 ·injection e2 with e2
  rw[e] at e2;cases e2
 ·injection e2 with e2
  rw[e] at e2;injection e2 with e2;subst e2;exact⟨hg,rfl⟩
theorem zo6 (U:List (Rat×Rat)) (hU:MkS U) (q:Option Addr) (cap:Nat) (w:zA) (HW:Hid (∀W,qL w W->Wd W)) (HP:Hid (∀W,qL w W->Pw W)) (hx:∀i u,U[i]? =some u->∃b off,q=some ⟨b,off,none⟩/\b<w.heap.size/\w.cell? ⟨b,off+i*2,none⟩=some (St (numS u.1))/\w.cell? ⟨b,off+i*2+1,none⟩=some (St (numS u.2))):
 zC zF 62 #[.slice q U.length cap] w λe w'=>∃q n c r,e=.returned (.tuple #[.slice q n c,.int .i64 r])/\zB w.heap.size w w'/\((r=0/\SdL (.slice q n c) (mkG (U.map nrT)) w'/\ShG (mkG (U.map nrT))/\∀a,q=some a->w.heap.size<=a.block/\a.off=0)\/((r=4/\¬zhg (U.map nrT))/\q=none/\n=0/\c=0)):=by
 obtain⟨T,eT⟩:=zzX (U.map nrT);rw[<-eT];have lT:T.length=U.length:=by rw[eT,zV]
 have at_:∀i,i<U.length->∃u,U[i]? =some u:=λi hi=>⟨_,yB hi⟩;let X:Nat->List UInt8:=λi=>numS ((U[i]?.getD (1,1)).1);let Y:Nat->List UInt8:=λi=>numS ((U[i]?.getD (1,1)).2);have hX:∀i u,U[i]? =some u->X i=numS u.1/\Y i=numS u.2:=λi t h=>⟨by show numS ((U[i]?.getD (1,1)).1)=_;rw[h];rfl,by show numS ((U[i]?.getD (1,1)).2)=_;rw[h];rfl⟩;have hp:PosR T:=by rw[eT];exact yg1 hU.pos
 have hk:zin ((grG T T.length).map strT)=(keG T).map strT:=by rw[zi3,zuk];rfl
 have hgl:(grG T T.length).length<=T.length:=zw1 T _;have hlen:=hU.len;have hkl:=(zw5 T).2;have HT2:Hid (∀i,i<U.length->∃b off,q=some ⟨b,off,none⟩/\b<w.heap.size/\w.cell? ⟨b,off+i*2,none⟩=some (St (X i))/\w.cell? ⟨b,off+i*2+1,none⟩=some (St (Y i))):=hid λi hi=>by
  obtain⟨t,ht⟩:=at_ i hi;rw[(hX i t ht).1,(hX i t ht).2];exact hx i t ht
 have hF:∀i t,T[i]? =some t->(t.2<10^90\/¬zhg T)/\∀c∈grG T i,z5c (t.2:Rat) (c.2:Rat)=true->okP c t\/¬zhg T:=λi t ht=>by
  by_cases g:zhg T
  ·exact⟨.inl (g.1 i t ht).1,λc hc ha=>.inl ((g.1 i t ht).2 c hc ha)⟩
  ·exact⟨.inr g,λ_ _ _=>.inr g⟩
 have VIS:=λ(u vg:zA) h1 h2 h3 h4=>yfk (¬zhg T) U hU T eT hF X Y hX q cap w HW HP HT2 u vg h1 h2 h3 h4
 have core:=λL M j0 hm VI LG EN=>z0i (¬zhg T) q cap U.length X Y L M j0 (by omega) hm
  (hid λi hi W hW=>by
    obtain⟨t,ht⟩:=at_ i hi;rw[(hX i t ht).1];exact zfj t.1 (zd0 (by omega) (by omega) (hU.csz t (List.mem_of_getElem? ht))) W hW)
  (hid λi hi W hW=>by
    obtain⟨t,ht⟩:=at_ i hi;rw[(hX i t ht).2];exact zfj t.2 (zd0 (by omega) (by omega) (hU.rsz t (List.mem_of_getElem? ht))) W hW)
  (hid λi hi W=>by
    obtain⟨t,ht⟩:=at_ i hi;rw[(hX i t ht).2];exact zxz t.2 (hU.pos t (List.mem_of_getElem? ht)) W)
  w HW HT2 VI LG EN
 have lnN:∀n:Nat,n<10^90->qK 120 #[St (zD n)] (.int .i64 (max (digs ((n:Nat):Rat).num:Int) (digs (((n:Nat):Rat).den:Int):Nat))):=λn hn W hW=>by
  have:=znp (n:Rat) (zd0 (k:=90) (by omega) (by omega) (zmj (by omega) hn)) W hW;rw[zhe] at this;exact this
 by_cases G:GdG (grG T T.length)
 ·let P:Rat×Nat->Bool:=λc=>decide (sz c.1 60)&&decide (c.2<10^40)
  have good:=λ(j0:Nat) (h60:∀(i:Nat) (c:Rat×Nat),i<j0->(grG T T.length)[i]? =some c->c.1≠0->P c=true) EN=>core ((grG T T.length).map strT) ((mkG T).map strT) j0 (by rw[zV];omega)
   (hid λu vg h1 h2 h3 h4=>(VIS u vg h1 h2 h3 h4).mono λe w' ⟨r,e1,hb,h⟩=>⟨r,e1,hb,h.imp (λ⟨a,b,_⟩=>⟨a,b⟩) id⟩)
   (hid λi d hij hd h0=>by
     rw[List.getElem?_map,Option.map_eq_some_iff] at hd;obtain⟨c,hc,rfl⟩:=hd;have hmc:=List.mem_of_getElem? hc;have hne:c.1≠0:=λe=>by
      have:((strT c).1==[48])=true:=by unfold strT;rw[e];simp[zie]
      rw[this] at h0;cases h0
     have hp:=h60 i c hij hc hne;rw[Bool.and_eq_true,decide_eq_true_iff,decide_eq_true_iff] at hp;obtain⟨hg,ho⟩:=G c hmc;exact⟨_,_,λW hW=>znp c.1 ho W hW,λW hW=>lnN c.2 hg.lt W hW,ygz hp.1,yg0 hp.2⟩) EN
  rcases zyf (λc:Rat×Nat=>!decide (c.1=0)&&!P c) (grG T T.length) with hgood|⟨j,c,hj,hb,hbe⟩
  ·have h60:∀c∈grG T T.length,c.1≠0->P c=true:=λc hc hne=>by simpa [hne] using hgood c hc
   refine(good (grG T T.length).length (λi c _ hc hne=>h60 c (List.mem_of_getElem? hc) hne) (hid (.inl ⟨by rw[zV],by rw[hk,zV];omega,λB W p c h1 h2 h3 h4=>by
    rw[hk,zV] at h4⊢
    exact yct B (keG T) (by omega) (z1u hp) (λt ht=>by
     have h2:=List.mem_filter.1 ht;rw[<-zuk] at h2;exact(G t h2.1).1.sz) p c W (hid λV hV=>HW.out V (h1.trans (hV.mono h2))) h3 h4⟩))).mono λe w' ⟨q',m,c',r,e1,hb,h⟩=>⟨q',m,c',r,e1,hb,?_⟩
   rcases h with⟨rfl,_,rfl,ho⟩|⟨h,h1,h2⟩
   ·refine .inl ⟨rfl,?_,λc hc=>?_,yfl ho⟩
    ·rw[hk,zV] at ho
     have:(keG T).length=(mkG T).length:=(zw5 T).1.symm;rw[hk,zV];exact SdL.own ho this
    ·obtain⟨h1,h2⟩:=zx8 hc
     have hp:=h60 c h1 h2;rw[Bool.and_eq_true,decide_eq_true_iff,decide_eq_true_iff] at hp;exact⟨hp.1,hp.2,(G c h1).1⟩
   ·exact .inr ⟨⟨h,h1.resolve_left (by rw[zV];omega)⟩,h2⟩
  ·have hmc:=List.mem_of_getElem? hj
   obtain⟨hg,ho⟩:=G c hmc;have hjl:=(List.getElem?_eq_some_iff.1 hj).1;rw[Bool.and_eq_true,Bool.not_eq_true',Bool.not_eq_true',decide_eq_false_iff_not] at hb;have hb2:(60:Int)<(max (digs c.1.num:Int) (digs (c.1.den:Int):Nat))\/((max (digs c.1.num:Int) (digs (c.1.den:Int):Nat):Int)<=60/\(40:Int)<(max (digs ((c.2:Nat):Rat).num:Int) (digs (((c.2:Nat):Rat).den:Int):Nat))):=by
    by_cases h6:sz c.1 60
    ·have n4:¬c.2<10^40:=λh4=>by
      have:P c=true:=by show(decide _&&decide _)=true;rw[decide_eq_true h6,decide_eq_true h4];rfl
      rw[this] at hb;cases hb.2
     have a1:=(zix (k:=60) (by omega)).1 h6;have a2:=(zix (k:=40) (by omega)).2 λh=>n4 ((yhl (by omega)).1 h);exact .inr ⟨by omega,a2⟩
    ·exact .inl ((zix (k:=60) (by omega)).2 h6)
   refine(good j (λi c hij hc hne=>by simpa [hne] using hbe i c hij hc) (hid (.inr ⟨(strT c).1,(strT c).2,_,_,by rw[List.getElem?_map,hj];rfl,zsf hb.1,hb2,λW hW=>znp c.1 ho W hW,λW hW=>lnN c.2 hg.lt W hW⟩))).mono λe w' ⟨q',m,c',r,e1,hb',h⟩=>⟨q',m,c',r,e1,hb',?_⟩;rcases h with⟨_,h,_⟩|⟨h,_,h2⟩
   ·rw[zV] at h;omega
   ·refine .inr ⟨⟨h,λg=>?_⟩,h2⟩
    obtain⟨k1,k2⟩:=g.2 c hmc (by simpa using hb.1);have:P c=true:=by show(decide _&&decide _)=true;rw[decide_eq_true k1,decide_eq_true k2];rfl
    rw[this] at hb;cases hb.2
 ·have L1:=lnN 1 (by decide+kernel)
  rw[show zD 1=[49] by rw[zae (by omega)];rfl] at L1;refine(core [(numS ((10^60:Nat):Rat),[49])] [] 0 (by simp) (hid λu vg h1 h2 h3 h4=>(VIS u vg h1 h2 h3 h4).mono λe w' ⟨r,e1,hb,h⟩=>⟨r,e1,hb,h.elim (λ⟨_,_,c⟩=>absurd c G) .inr⟩) (hid λi c hi=>absurd hi (by omega)) (hid (.inr ⟨_,_,_,_,rfl,zsf (by decide+kernel),.inl ((zix (k:=60) (by omega)).2 (by decide+kernel)),λW hW=>znp _ (zd0 (k:=61) (by omega) (by omega) (by decide+kernel)) W hW,L1⟩))).mono λe w' ⟨q',m,c',r,e1,hb,h⟩=>⟨q',m,c',r,e1,hb,?_⟩;rcases h with⟨_,h,_⟩|⟨h,_,h2⟩
  ·simp at h
  ·refine .inr ⟨⟨h,λg=>G (zud g (λt ht=>?_) _ (zN _))⟩,h2⟩
   rw[eT] at ht;obtain⟨u,hu,rfl⟩:=List.mem_map.1 ht;have u2:=hU.pos u hu;obtain⟨-,n0⟩:=z9b u2;obtain⟨-, -,k3,k4⟩:=zf5 (Nat.mul_pos n0 u.2.den_pos);have e1:=zd0 (k:=140+90) (by omega) (by omega) (zca (hU.csz u hu) (zpi u2 (hU.rsz u hu)));unfold nrT;dsimp only;generalize zn7 (u.2.num.natAbs*u.2.den)=z at*
   exact⟨k3,k4,e1⟩
end
section
open Go.RowKit Go.Shelf Lib Str Limb
def Bd (f:Nat->Rat):Prop:=∃K:Rat,∀q, -K<=f q/\f q<=K
theorem Bd.add {f g:Nat->Rat} (hf:Bd f) (hg:Bd g):Bd λq=>f q+g q:=by
 obtain⟨K,h⟩:=hf;obtain⟨L,k⟩:=hg;exact⟨K+L,λq=>by have:=h q;have:=k q;constructor<;>grind⟩
theorem Bd.neg {f:Nat->Rat} (hf:Bd f):Bd λq=> -f q:=by
 obtain⟨K,h⟩:=hf;exact⟨K,λq=>by have:=h q;constructor<;>grind⟩
theorem Bd.zero:Bd λ_=>0:=⟨0,λ_=>by constructor<;>grind⟩
theorem Bd.congr {f g:Nat->Rat} (hf:Bd f) (h:∀q,g q=f q):Bd g:=by
 obtain⟨K,k⟩:=hf;exact⟨K,λq=>by rw[h];exact k q⟩
theorem Bd.smul {f:Nat->Rat} (hf:Bd f) (c:Rat):Bd λq=>c*f q:=by
 obtain⟨K,h⟩:=hf;rcases(show 0<=c\/0<= -c by grind) with hc|hc
 ·refine⟨c*K,λq=>?_⟩
  have h1:=Rat.mul_le_mul_of_nonneg_left (h q).1 hc;have h2:=Rat.mul_le_mul_of_nonneg_left (h q).2 hc;constructor<;>grind
 ·refine⟨-c*K,λq=>?_⟩
  have h1:=Rat.mul_le_mul_of_nonneg_left (h q).1 hc;have h2:=Rat.mul_le_mul_of_nonneg_left (h q).2 hc;constructor<;>grind
def rtF (r q:Nat):Nat:=isq (r*10^(2*q))
theorem zvo {a b r s:Nat} (h:b*b*r=a*a*s) (q:Nat):a*rtF s q<=b*rtF r q+b/\b*rtF r q<=a*rtF s q+a:=by
 obtain⟨r1,r2⟩:=zv0 (r*10^(2*q));obtain⟨s1,s2⟩:=zv0 (s*10^(2*q));unfold rtF;generalize isq (r*10^(2*q))=x at*
 generalize isq (s*10^(2*q))=y at*
 generalize 10^(2*q)=M at*
 have e:b*b*(r*M)=a*a*(s*M):=by rw[<-Nat.mul_assoc,h,Nat.mul_assoc]
 constructor
 ·refine zpf ?_
  calc a*y*(a*y)=a*a*(y*y):=by ac_rfl
   _<=a*a*(s*M):=Nat.mul_le_mul_left _ s1
   _=b*b*(r*M):=e.symm
   _<=b*b*((x+1)*(x+1)):=Nat.mul_le_mul_left _ (zT r2)
   _=(b*x+b)*(b*x+b):=by rw[show b*x+b=b*(x+1) by rw[Nat.mul_add,Nat.mul_one]];ac_rfl
 ·refine zpf ?_
  calc b*x*(b*x)=b*b*(x*x):=by ac_rfl
   _<=b*b*(r*M):=Nat.mul_le_mul_left _ r1
   _=a*a*(s*M):=e
   _<=a*a*((y+1)*(y+1)):=Nat.mul_le_mul_left _ (zT s2)
   _=(a*y+a)*(a*y+a):=by rw[show a*y+a=a*(y+1) by rw[Nat.mul_add,Nat.mul_one]];ac_rfl
theorem zvp (n r q:Nat):n*rtF r q<=isq (n*n*r*10^(2*q))+1/\isq (n*n*r*10^(2*q))<=n*rtF r q+n:=by
 have h:=zvo (a:=n) (b:=1) (r:=n*n*r) (s:=r) (by simp) q;rw[Nat.one_mul] at h;exact h
theorem zn1 {x m d:Rat} (hd:1<=d) (hm:0<=m) (h:x*d<=m):x<=m:=by
 rcases(show x<=m\/m<x by grind) with k|k
 ·exact k
 ·have:=Rat.mul_le_mul_of_nonneg_left hd (show 0<=x by grind)
  grind
theorem ztd {c:Rat} {m d s z y:Nat} (hd:0<d) (hc:c*(d:Rat)=(m:Rat)) (h1:m*y<=s+1) (h2:s<=m*y+m) (a1:z*d<=s) (a2:s<(z+1)*d): -2<=(z:Rat)-c*(y:Rat)/\(z:Rat)-c*(y:Rat)<=(m:Rat):=by
 have hd1:(1:Rat)<=(d:Rat):=by exact_mod_cast hd
 have b1:(m:Rat)*(y:Rat)<=(s:Rat)+1:=by exact_mod_cast h1
 have b2:(s:Rat)<=(m:Rat)*(y:Rat)+(m:Rat):=by exact_mod_cast h2
 have b3:(z:Rat)*(d:Rat)<=(s:Rat):=by exact_mod_cast a1
 have b4:(s:Rat)<((z:Rat)+1)*(d:Rat):=by exact_mod_cast a2
 have b5:(0:Rat)<=(m:Rat):=by exact_mod_cast zR m
 have e:c*(y:Rat)*(d:Rat)=(m:Rat)*(y:Rat):=by rw[<-hc];grind
 generalize (m:Rat)=M at*
 generalize (d:Rat)=D at*
 generalize (s:Rat)=S at*
 generalize (z:Rat)=Z at*
 generalize (y:Rat)=Y at*
 constructor
 ·have:=zn1 (x:= -(Z-c*Y+1)) (m:=1) hd1 (by decide) (by grind)
  grind
 ·exact zn1 hd1 b5 (by grind)
theorem zvq (t:Rat×Nat) (q:Nat): -(((t.1.num.natAbs:Nat):Rat)+3)<=((flT t q:Int):Rat)-t.1*((rtF t.2 q:Nat):Rat)/\((flT t q:Int):Rat)-t.1*((rtF t.2 q:Nat):Rat)<=((t.1.num.natAbs:Nat):Rat)+3:=by
 obtain⟨c,r⟩:=t;have hd:0<c.den:=c.den_pos;have nd:=zrr c;obtain⟨h1,h2⟩:=zvp c.num.natAbs r q;have h3:c.num.natAbs*c.num.natAbs*r*10^(2*q)=trN (c,r) q:=rfl;rw[h3] at h1 h2;have b5:(0:Rat)<=((c.num.natAbs:Nat):Rat):=by exact_mod_cast zR _
 show-_<=((floT c (isq (trN (c,r) q)) (trN (c,r) q):Int):Rat)-c*((rtF r q:Nat):Rat)/\((floT c (isq (trN (c,r) q)) (trN (c,r) q):Int):Rat)-c*((rtF r q:Nat):Rat)<=_;unfold floT;have a1:isq (trN (c,r) q)/c.den*c.den<=isq (trN (c,r) q):=Nat.div_mul_le_self _ _;have a2:isq (trN (c,r) q)<(isq (trN (c,r) q)/c.den+1)*c.den:=by
  have:=Nat.lt_div_mul_add hd (a:=isq (trN (c,r) q));rw[Nat.add_mul,Nat.one_mul];exact this
 by_cases hn:c.num<0
 ·rw[if_pos hn]
  have e: -c*(c.den:Rat)=((c.num.natAbs:Nat):Rat):=by
   have e1:((c.num.natAbs:Nat):Int)= -c.num:=by omega
   have e2:((c.num.natAbs:Nat):Rat)=((-c.num:Int):Rat):=by rw[<-e1];rfl
   rw[e2,Rat.intCast_neg,nd];grind
  have k:=ztd (c:= -c) hd e h1 h2 a1 a2;generalize isq (trN (c,r) q)/c.den=z at*
  have h01:∃ε:Nat,ε<=1/\(if isq (trN (c,r) q)*isq (trN (c,r) q)=trN (c,r) q/\isq (trN (c,r) q)%c.den=0 then 0 else 1)=ε:=by split;exact⟨0,by omega,rfl⟩;exact⟨1,by omega,rfl⟩
  obtain⟨ε,he,hε⟩:=h01;rw[hε,Rat.intCast_neg,Rat.intCast_natCast,Rat.natCast_add];have he1:(ε:Rat)<=1:=by exact_mod_cast he
  have he0:(0:Rat)<=(ε:Rat):=by exact_mod_cast zR ε
  generalize (ε:Rat)=E at*
  constructor<;>grind
 ·rw[if_neg hn]
  have e:c*(c.den:Rat)=((c.num.natAbs:Nat):Rat):=by
   have e1:((c.num.natAbs:Nat):Int)=c.num:=by omega
   have e2:((c.num.natAbs:Nat):Rat)=((c.num:Int):Rat):=by rw[<-e1];rfl
   rw[e2,nd]
  have k:=ztd hd e h1 h2 a1 a2;rw[Rat.intCast_natCast];constructor<;>grind
theorem zpl (t:Rat×Nat):Bd λq=>((flT t q:Int):Rat)-t.1*((rtF t.2 q:Nat):Rat):=⟨_,zvq t⟩
def vZ (l:List (Rat×Nat)) (q:Nat):Rat:=((valZ l q:Int):Rat)
theorem zfu (q:Nat):vZ [] q=0:=rfl
theorem zfb (t:Rat×Nat) (l:List (Rat×Nat)) (q:Nat):vZ (t::l) q=((flT t q:Int):Rat)+vZ l q:=by
 show(((flT t q+valZ l q:Int)):Rat)=_;rw[Rat.intCast_add];rfl
theorem z5s (l m:List (Rat×Nat)) (q:Nat):vZ (l++m) q=vZ l q+vZ m q:=by
 unfold vZ;rw[zrt,Rat.intCast_add]
theorem z8q {r s:Nat} (hr:0<r) (hs:0<s) (h:z5c (r:Rat) (s:Rat)=true):Bd λq=>((rtF r q:Nat):Rat)-rt ((r:Rat)/(s:Rat))*((rtF s q:Nat):Rat):=by
 have hr':(0:Rat)<(r:Rat):=by exact_mod_cast hr
 have hs':(0:Rat)<(s:Rat):=by exact_mod_cast hs
 have e:=zxd (div_pos hr' hs') h;have hk:=yeg ((r:Rat)/(s:Rat));generalize rt ((r:Rat)/(s:Rat))=k at*
 have hd:0<k.den:=k.den_pos;have nd:=zrr k;have hn:0<=k.num:=Rat.num_nonneg.2 hk;have e2:((k.num.natAbs:Nat):Rat)=k*(k.den:Rat):=by
  rw[<-nd];have:((k.num.natAbs:Nat):Int)=k.num:=Int.natAbs_of_nonneg hn;exact_mod_cast congrArg (Int.cast (R:=Rat)) this
 have hb:k.den*k.den*r=k.num.natAbs*k.num.natAbs*s:=by
  have:(k.den:Rat)*(k.den:Rat)*(r:Rat)=((k.num.natAbs:Nat):Rat)*((k.num.natAbs:Nat):Rat)*(s:Rat):=by
   rw[e2];have e3:k*k*(s:Rat)=(r:Rat):=by rw[e];grind
   rw[<-e3];grind
  exact_mod_cast this
 refine⟨1+((k.num.natAbs:Nat):Rat),λq=>?_⟩;dsimp only;obtain⟨h1,h2⟩:=zvo hb q;have hd1:(1:Rat)<=(k.den:Rat):=by exact_mod_cast hd
 have b1:((k.num.natAbs:Nat):Rat)*((rtF s q:Nat):Rat)<=(k.den:Rat)*((rtF r q:Nat):Rat)+(k.den:Rat):=by exact_mod_cast h1
 have b2:(k.den:Rat)*((rtF r q:Nat):Rat)<=((k.num.natAbs:Nat):Rat)*((rtF s q:Nat):Rat)+((k.num.natAbs:Nat):Rat):=by exact_mod_cast h2
 have b3:(0:Rat)<=((k.num.natAbs:Nat):Rat):=by exact_mod_cast zR _
 generalize ((rtF r q:Nat):Rat)=x at*
 generalize ((rtF s q:Nat):Rat)=y at*
 generalize ((k.num.natAbs:Nat):Rat)=m at*
 generalize (k.den:Rat)=d at*
 constructor
 ·have:=zn1 (x:= -(x-k*y+1)) (m:=0) hd1 (by decide) (by rw[e2] at b1;grind)
  grind
 ·have:=zn1 (x:=x-k*y) hd1 b3 (by rw[e2] at b2⊢;grind)
  grind
theorem ycy {c t:Rat×Nat} (hc:0<c.2) (ht:0<t.2) (h:z5c (t.2:Rat) (c.2:Rat)=true):Bd λq=>((flT (plG c t) q:Int):Rat)-(((flT c q:Int):Rat)+((flT t q:Int):Rat)):=by
 have hc':(0:Rat)<(c.2:Rat):=by exact_mod_cast hc
 have ht':(0:Rat)<(t.2:Rat):=by exact_mod_cast ht
 unfold plG;split
 ·refine((zpl (t.1+c.1*rt ((c.2:Rat)/(t.2:Rat)),t.2)).add (((zpl c).add (zpl t)).neg.add ((z8q hc ht (zu5 ht' hc' h)).smul c.1).neg)).congr λq=>?_
  dsimp only;grind
 ·refine((zpl (c.1+t.1*rt ((t.2:Rat)/(c.2:Rat)),c.2)).add (((zpl c).add (zpl t)).neg.add ((z8q ht hc h).smul t.1).neg)).congr λq=>?_
  dsimp only;grind
theorem z8r {t:Rat×Nat} (ht:(0:Rat)<(t.2:Rat)):∀{l:List (Rat×Nat)},PosR l->Bd λq=>vZ (gaG l t) q-(vZ l q+((flT t q:Int):Rat))
 |[],_=>Bd.zero.congr λq=>by show vZ [t] q-_=0;rw[zfb,zfu];grind
 |c::l,h=>by
  have hc:=h c (yD ..);unfold gaG;split
  ·rename_i k
   exact(ycy (by exact_mod_cast hc) (by exact_mod_cast ht) k).congr λq=>by rw[zfb,zfb];grind
  ·exact(z8r ht λd hd=>h d (List.mem_cons_of_mem _ hd)).congr λq=>by rw[zfb,zfb];grind
theorem z8u:∀{T A:List (Rat×Nat)},PosR A->PosR T->Bd λq=>vZ (T.foldl gaG A) q-(vZ A q+vZ T q)
 |[],A,_,_=>Bd.zero.congr λq=>by rw[List.foldl_nil,zfu];grind
 |t::T,A,hA,hT=>by
  have ht:=hT t (yD ..);have hA':PosR (gaG A t):=λc hc=>by
   rcases z44 hc with⟨d,hd,e⟩|e
   ·rw[<-e];exact hA d hd
   ·rw[<-e];exact ht
  rw[List.foldl_cons];exact((z8u hA' λc hc=>hT c (List.mem_cons_of_mem _ hc)).add (z8r ht hA)).congr λq=>by rw[zfb];grind
theorem ycz (r q:Nat):flT (0,r) q=0:=by
 unfold flT floT trN;simp[isq];rfl
theorem z2e (q:Nat):∀l:List (Rat×Nat),vZ (l.filter λc=>!decide (c.1=0)) q=vZ l q
 |[]=>rfl
 |t::l=>by
  rw[List.filter_cons];by_cases h:t.1=0
  ·rw[if_neg (by simp[h]),z2e q l,zfb]
   have:flT t q=0:=by
    have:=ycz t.2 q;rw[<-h] at this;exact this
   rw[this];grind
  ·rw[if_pos (by simp[h]),zfb,zfb,z2e q l]
theorem yah (q:Nat) (t:Rat×Nat):∀l:List (Rat×Nat),vZ (insS t l) q=((flT t q:Int):Rat)+vZ l q
 |[]=>zfb t [] q
 |c::l=>by
  unfold insS;split
  ·exact zfb t (c::l) q
  ·rw[zfb,zfb,yah q t l];grind
theorem yai (q:Nat):∀l:List (Rat×Nat),vZ (srtS l) q=vZ l q
 |[]=>rfl
 |t::l=>by rw[show srtS (t::l)=insS t (srtS l) from rfl,yah,yai q l,zfb]
theorem yc0 {T:List (Rat×Nat)} (hT:PosR T):Bd λq=>vZ (mkG T) q-vZ T q:=
 (z8u (A:=[]) (λ_ h=>by cases h) hT).congr λq=>by
   unfold mkG keG;rw[yai,z2e,zfu];grind
theorem z5t (c:Rat):∀l:List (Rat×Nat),Bd λq=>vZ (sclL l c) q-c*vZ l q
 |[]=>Bd.zero.congr λq=>by rw[zfu];show vZ [] q-_=0;rw[zfu];grind
 |t::l=>by
  refine((z5t c l).add ((zpl (t.1*c,t.2)).add ((zpl t).smul c).neg)).congr λq=>?_;rw[zfb,show sclL (t::l) c=(t.1*c,t.2)::sclL l c from rfl,zfb];grind
theorem zze {t:Rat×Nat} (hne:t.1≠0) (p q:Nat):flT t p*(10^q:Nat)<=(flT t q+1)*(10^p:Nat):=by
 have h1:=(zvk t hne p q).1;have h2:=(zvk t hne q q).2;have hP:(0:Int)<((10^p:Nat):Int):=by exact_mod_cast yS (by simp)
 have hQ:(0:Int)<((10^q:Nat):Int):=by exact_mod_cast yS (by simp)
 generalize ((10^p:Nat):Int)=P at*
 generalize ((10^q:Nat):Int)=Q at*
 generalize flT t p=a at*
 generalize flT t q=b at*
 generalize flT (ngT t) q=g at*
 rw[<-Int.add_mul] at h2;have h3:0<b+1+(g+1):=by
  rcases(show 0<b+1+(g+1)\/b+1+(g+1)<=0 by omega) with k|k
  ·exact k
  ·have:=Int.mul_le_mul_of_nonneg_right k (Int.le_of_lt hQ)
   omega
 have h4:=Int.mul_le_mul_of_nonneg_right (show-(b+1)<=g by omega) (Int.le_of_lt hP);rw[Int.neg_mul] at h4;omega
theorem zle (p q:Nat):∀l:List (Rat×Nat),(∀t∈l,t.1≠0)->valZ l p*(10^q:Nat)<=(valZ l q+l.length)*(10^p:Nat)
 |[],_=>by show(0:Int)*_<=(0+((0:Nat):Int))*_;simp
 |t::l,h=>by
  have h1:=zze (h t (yD ..)) p q;have h2:=zle p q l λc hc=>h c (List.mem_cons_of_mem _ hc);show(flT t p+valZ l p)*_<=(flT t q+valZ l q+((l.length+1:Nat):Int))*_;generalize ((10^p:Nat):Int)=P at*
  generalize ((10^q:Nat):Int)=Q at*
  have e:(flT t q+valZ l q+((l.length+1:Nat):Int))*P=(flT t q+1)*P+(valZ l q+(l.length:Int))*P:=by
   rw[<-Int.add_mul];congr 1;omega
  rw[e,Int.add_mul];omega
theorem yc1 (C:Rat):∃q:Nat,C<((10^q:Nat):Rat):=by
 refine⟨C.num.natAbs,?_⟩;have h1:C.num.natAbs<10^C.num.natAbs:=Nat.lt_pow_self (by omega);have h2:((C.num.natAbs:Nat):Rat)<((10^C.num.natAbs:Nat):Rat):=by exact_mod_cast h1
 have nd:=zrr C;have hd:(1:Rat)<=(C.den:Rat):=by exact_mod_cast C.den_pos
 have h3:((C.num:Int):Rat)<=((C.num.natAbs:Nat):Rat):=by
  have:C.num<=((C.num.natAbs:Nat):Int):=by omega
  exact_mod_cast this
 have h4:(0:Rat)<=((C.num.natAbs:Nat):Rat):=by exact_mod_cast zR _
 have:=zn1 hd h4 (x:=C) (by rw[<-nd];exact h3);grind
section
variable {A B C:Nat->Rat} {D:Nat->List (Rat×Nat)}
end
section
variable {X Y Z D:List (Rat×Nat)} (hX:PosR X) (hY:PosR Y) (hZ:PosR Z) (hD:PosR D)
include hX hY
end
def dfL (l m:List (Rat×Nat)):List (Rat×Nat):=mkG (l++sclL m (-1))
theorem z8v {l m:List (Rat×Nat)} (hl:PosR l) (hm:PosR m):PosR (l++sclL m (-1)):=ybx hl (yby hm (-1))
theorem z8f (x:Rat):PosR (rs x):=λt ht=>by
 unfold rs at ht;split at ht
 ·cases ht
 ·obtain rfl:=List.mem_singleton.1 ht
  show(0:Rat)<((1:Nat):Rat);decide
theorem yc4 {N d s z j s':Nat} (hd:0<d) (h2:N<(s+1)*(s+1)) (hz:s/d=z) (hj:2*((z+1)*d)*d<=10^j) (h3:s'*s'<=N*(10^j*10^j)):s'/d+2<=(z+1)*10^j:=by
 have a2:s+1<=(z+1)*d:=by
  have:=Nat.lt_div_mul_add hd (a:=s);rw[hz] at this;rw[Nat.add_mul,Nat.one_mul];omega
 have hA:N+1<=(z+1)*d*((z+1)*d):=zS h2 (Nat.mul_le_mul a2 a2);generalize hAe:(z+1)*d=A at*
 generalize 10^j=T at*
 have hA1:d<=A:=by rw[<-hAe,Nat.add_mul,Nat.one_mul];omega
 have hT:1<=T:=by
  have:0<2*A*d:=Nat.mul_pos (Nat.mul_pos (by omega) (by omega)) hd;omega
 have hAT:d<=A*T:=zO hA1 (Nat.le_mul_of_pos_right _ hT);have h4:s'<A*T-d:=by
  refine zx7 ?_;have h5:(N+1)*(T*T)<=A*A*(T*T):=Nat.mul_le_mul_right _ hA;have h6:2*A*d*T<=T*T:=Nat.mul_le_mul_right _ hj;have h7:(A*T-d)*(A*T-d)+2*A*d*T=A*A*(T*T)+d*d:=by
   have e:A*T=(A*T-d)+d:=by omega
   generalize A*T-d=x at*
   have e1:A*A*(T*T)=(A*T)*(A*T):=by ac_rfl
   have e2:2*A*d*T=2*(A*T)*d:=by ac_rfl
   rw[e1,e2,e];simp only[Nat.mul_add,Nat.add_mul,Nat.mul_assoc];have:x*d=d*x:=Nat.mul_comm _ _;omega
  have h8:0<d*d:=Nat.mul_pos hd hd;rw[Nat.add_mul,Nat.one_mul] at h5;omega
 have h5:s'/d*d<=s':=Nat.div_mul_le_self _ _;have h6:(s'/d+1)*d<A*T:=by rw[Nat.add_mul,Nat.one_mul];omega
 have h7:A*T=(z+1)*T*d:=by rw[<-hAe];ac_rfl
 rw[h7] at h6;have:=Nat.lt_of_mul_lt_mul_right h6;omega
theorem yc5 {N d j s' c:Nat} (hd:0<d) (hN:c*d*(c*d)<N) (hj:4*(c*d)*d+4*(d*d)<=10^j) (h3:N*(10^j*10^j)<(s'+1)*(s'+1)):c*10^j+2<=s'/d:=by
 generalize hB:c*d=B at*
 generalize 10^j=T at*
 have h4:B*T+2*d<s'+1:=by
  refine zx7 ?_;have h5:(B*B+1)*(T*T)<=N*(T*T):=Nat.mul_le_mul_right _ hN;have h6:(4*B*d+4*(d*d))*T<=T*T:=Nat.mul_le_mul_right _ hj;have hT:1<=T:=by
   have:0<d*d:=Nat.mul_pos hd hd;omega
  have h7:4*(d*d)<=4*(d*d)*T:=Nat.le_mul_of_pos_right _ hT;have e1:(B*T+2*d)*(B*T+2*d)=B*B*(T*T)+4*B*d*T+4*(d*d):=by
   have a1:B*T*(B*T)=B*B*(T*T):=by ac_rfl
   have a2:B*T*(2*d)=2*(B*d*T):=by ac_rfl
   have a3:2*d*(B*T)=2*(B*d*T):=by ac_rfl
   have a4:2*d*(2*d)=4*(d*d):=by
    rw[show 2*d*(2*d)=(2*2)*(d*d) by ac_rfl]
   have a5:4*B*d*T=4*(B*d*T):=by ac_rfl
   simp only[Nat.mul_add,Nat.add_mul];rw[a1,a2,a3,a4,a5];omega
  rw[e1];rw[Nat.add_mul,Nat.one_mul] at h5;rw[Nat.add_mul] at h6;omega
 refine(Nat.le_div_iff_mul_le hd).2 ?_;have:(c*T+2)*d=B*T+2*d:=by rw[<-hB,Nat.add_mul];congr 1;ac_rfl
 omega
theorem ydv {t:Rat×Nat} (hne:t.1≠0) (hr:0<t.2) (p:Nat):∃j,flT t (p+j)+2<=(flT t p+1)*(10^j:Nat):=by
 have hd:0<t.1.den:=t.1.den_pos;have hT:∀j,trN t (p+j)=trN t p*(10^j*10^j):=λj=>by
  unfold trN;rw[show 2*(p+j)=2*p+(j+j) by omega,Nat.pow_add,Nat.pow_add];simp only[Nat.mul_assoc]
 have hN0:0<trN t p:=by
  unfold trN;have:0<t.1.num.natAbs:=Int.natAbs_pos.2 λe=>hne (Rat.num_eq_zero.1 e);exact Nat.mul_pos (Nat.mul_pos (Nat.mul_pos this this) hr) (yS (by simp))
 obtain⟨s1,s2⟩:=zv0 (trN t p);have big:∀n:Nat,n<=10^n:=λn=>zT (Nat.lt_pow_self (by omega));by_cases hn:t.1.num<0
 ·-- negative
  obtain⟨c,hc,hcN⟩:∃c:Nat,flT t p+1= -(c:Int)/\c*t.1.den*(c*t.1.den)<trN t p:=by
   unfold flT floT;rw[if_pos hn];generalize isq (trN t p)=s at*
   have b1:=Nat.div_mul_le_self s t.1.den;by_cases h:s*s=trN t p/\s%t.1.den=0
   ·rw[if_pos h]
    have e:s/t.1.den*t.1.den=s:=Nat.div_mul_cancel (Nat.dvd_of_mod_eq_zero h.2);have hs:0<s:=yS λk=>by rw[k] at h;omega
    have hz:0<s/t.1.den:=yS λk=>by rw[k] at e;omega
    refine⟨s/t.1.den-1,by omega,?_⟩;have:(s/t.1.den-1)*t.1.den<s:=by
     rw[Nat.sub_mul,Nat.one_mul,e];omega
    rw[<-h.1];exact Nat.mul_self_lt_mul_self_iff.2 this
   ·rw[if_neg h]
    refine⟨s/t.1.den,by omega,?_⟩;rcases Nat.lt_or_ge (s/t.1.den*t.1.den) s with k|k
    ·exact zS (Nat.mul_self_lt_mul_self_iff.2 k) s1
    ·have e:s/t.1.den*t.1.den=s:=by omega
     rw[e];have hm:s%t.1.den=0:=by
      have:=Nat.div_add_mod s t.1.den;rw[Nat.mul_comm] at this;omega
     have:s*s≠trN t p:=λq=>h ⟨q,hm⟩;omega
  refine⟨4*(c*t.1.den)*t.1.den+4*(t.1.den*t.1.den),?_⟩;generalize hj:4*(c*t.1.den)*t.1.den+4*(t.1.den*t.1.den)=j;have hj2:=big j;obtain⟨r1,r2⟩:=zv0 (trN t (p+j));have g:=yc5 hd hcN (by rw[hj];exact hj2) (by rw[<-hT];exact r2);rw[hc];unfold flT floT;rw[if_pos hn];generalize isq (trN t (p+j))/t.1.den=z at*
  have e: -(c:Int)*((10^j:Nat):Int)= -((c*10^j:Nat):Int):=by rw[Int.neg_mul,Int.natCast_mul]
  rw[e];split<;>omega
 ·refine⟨2*((isq (trN t p)/t.1.den+1)*t.1.den)*t.1.den,?_⟩
  generalize hj:2*((isq (trN t p)/t.1.den+1)*t.1.den)*t.1.den=j;have hj2:=big j;obtain⟨r1,r2⟩:=zv0 (trN t (p+j));have g:=yc4 hd s2 rfl (by rw[hj];exact hj2) (by rw[<-hT];exact r1);unfold flT floT;rw[if_neg hn,if_neg hn];have e:(((isq (trN t p)/t.1.den:Nat):Int)+1)*((10^j:Nat):Int)=(((isq (trN t p)/t.1.den+1)*10^j:Nat):Int):=by
   rw[Int.natCast_mul,Int.natCast_add];rfl
  rw[e];omega
theorem yb0 {l:List (Rat×Nat)} (hl:l≠[]) (h:∀t∈l,t.1≠0) (hp:PosR l) {p:Nat} (hn:valZ l p+l.length<=0):∃P,∀q,valZ l q*(10^P:Nat)<= -((10^q:Nat):Int):=by
 obtain⟨t,m,rfl⟩:∃t m,l=t::m:=by
  cases l with
  |nil=>exact(hl rfl).elim
  |cons t m=>exact⟨t,m,rfl⟩
 have hr:0<t.2:=by have:=hp t (yD ..);exact_mod_cast this
 obtain⟨j,hj⟩:=ydv (h t (yD ..)) hr p;refine⟨p+j,λq=>?_⟩;have h1:=zze (h t (yD ..)) (p+j) q;have h1':=zze (h t (yD ..)) q (p+j);have h2:=zle q p m λc hc=>h c (List.mem_cons_of_mem _ hc);have hv:valZ (t::m) p=flT t p+valZ m p:=rfl;have hv':valZ (t::m) q=flT t q+valZ m q:=rfl;rw[hv] at hn;rw[hv'];have hlen:((t::m).length:Int)=(m.length:Int)+1:=by simp
 rw[hlen] at hn;have eP:((10^(p+j):Nat):Int)=((10^p:Nat):Int)*((10^j:Nat):Int):=by rw[Nat.pow_add,Int.natCast_mul]
 have P0:(0:Int)<((10^p:Nat):Int):=by exact_mod_cast yS (by simp)
 have J0:(0:Int)<((10^j:Nat):Int):=by exact_mod_cast yS (by simp)
 have Q0:(0:Int)<((10^q:Nat):Int):=by exact_mod_cast yS (by simp)
 rw[eP] at h1'⊢;generalize ((10^p:Nat):Int)=P at*
 generalize ((10^j:Nat):Int)=J at*
 generalize ((10^q:Nat):Int)=Q at*
 generalize flT t p=a at*
 generalize flT t q=b at*
 generalize flT t (p+j)=g at*
 generalize valZ m p=u at*
 generalize valZ m q=v at*
 generalize (m.length:Int)=n at*
 have k1:(g+1)*Q<=((a+1)*J-1)*Q:=Int.mul_le_mul_of_nonneg_right (by omega) (Int.le_of_lt Q0);have k2:=Int.mul_le_mul_of_nonneg_right h2 (Int.le_of_lt J0);have k3:((a+1)+(u+n))*(J*Q)<=0:=Int.mul_nonpos_of_nonpos_of_nonneg (by omega) (Int.le_of_lt (Int.mul_pos J0 Q0));have e1:(b+v)*(P*J)=b*(P*J)+v*P*J:=by rw[Int.add_mul,Int.mul_assoc v]
 have e2:((a+1)*J-1)*Q=(a+1)*(J*Q)-Q:=by rw[Int.sub_mul,Int.one_mul,Int.mul_assoc]
 have e3:(u+n)*Q*J=(u+n)*(J*Q):=by rw[Int.mul_assoc,Int.mul_comm Q J]
 rw[Int.add_mul] at k3;rw[e1];rw[e2] at k1;rw[e3] at k2;omega
theorem yb1 {l:List (Rat×Nat)} (h:∀t∈l,t.1≠0) {p:Nat} (hp:0<valZ l p) (q:Nat):((10^q:Nat):Rat)<=(vZ l q+(l.length:Rat))*((10^p:Nat):Rat):=by
 have h1:=zle p q l h;have Q0:(0:Int)<=((10^q:Nat):Int):=Int.natCast_nonneg _;have a:=Int.mul_le_mul_of_nonneg_right (show 1<=valZ l p by omega) Q0;rw[Int.one_mul] at a;have b:((10^q:Nat):Int)<=(valZ l q+(l.length:Int))*((10^p:Nat):Int):=by omega
 have c:((((10^q:Nat):Int)):Rat)<=(((valZ l q+(l.length:Int))*((10^p:Nat):Int):Int):Rat):=by exact_mod_cast b
 rw[Rat.intCast_mul,Rat.intCast_add] at c;exact c
def tn (q:Nat):Rat:=((10^q:Nat):Rat)
theorem zp3 (q:Nat):0<tn q:=by unfold tn;exact_mod_cast yS (by simp)
theorem ydw (q:Nat):1<=tn q:=by unfold tn;exact_mod_cast yS (show 10^q≠0 by simp)
theorem ydx (q:Nat):tn (2*q)=tn q*tn q:=by
 unfold tn;rw[show 2*q=q+q by omega,Nat.pow_add,Rat.natCast_mul]
theorem yc6 {p q:Nat} (h:p<=q):tn p<=tn q:=by
 unfold tn;exact_mod_cast yF (by omega) h
theorem yak (C:Rat):∃p,∀q,p<=q->C<tn q:=by
 obtain⟨p,h⟩:=yc1 C;exact⟨p,λq hq=>Std.lt_of_lt_of_le h (yc6 hq)⟩
def Up (f:Nat->Rat):Prop:=∃e K:Rat,∃p:Nat,0<e/\∀q,p<=q->e*(tn q*tn q)-K*tn q<=f q
theorem Up.big {f:Nat->Rat} (h:Up f) (C:Rat):∃q,C<f q:=by
 obtain⟨e,K,p,he,hf⟩:=h;obtain⟨B,hB,hC⟩:∃B:Rat,0<=B/\C<=B:=by
  rcases(show 0<=C\/C<=0 by grind) with c|c
  ·exact⟨C,c,by grind⟩
  ·exact⟨0,by grind,c⟩
 obtain⟨p1,h1⟩:=yak ((K+B+1)/e);refine⟨p+p1,?_⟩;have g1:=h1 (p+p1) (by omega);have g3:=hf (p+p1) (by omega);have g4:=ydw (p+p1);generalize tn (p+p1)=T at*
 have k1:K+B+1<e*T:=by
  have:=Rat.mul_lt_mul_of_pos_left g1 he;rwa [show e*((K+B+1)/e)=K+B+1 by grind] at this
 have k2:=Rat.mul_le_mul_of_nonneg_right (Rat.le_of_lt k1) (show(0:Rat)<=T by grind);have:=Rat.mul_le_mul_of_nonneg_left g4 (show 0<=B+1 by grind);grind
theorem yal {l:List (Rat×Nat)} (h:∀t∈l,t.1≠0) (hp:PosR l) (hl:l≠[]) (e:sgeL l=0):(sgnL l=1\/sgnL l= -1)/\∃ε C:Rat,0<ε/\0<=C/\∀q,ε*tn q-C<=(sgnL l:Rat)*vZ l q:=by
 have s1:sgnL l=sgnP l.length λk=>valZ l (plN k):=if_neg hl;have n1:sgnL l≠0:=λz=>by
  rw[show sgeL l=errP (sgnL l) from if_neg hl,z] at e;cases e
 rcases zg3 l.length (λk=>valZ l (plN k)) with⟨a,k,hk⟩|⟨a,k,hk⟩|a
 ·rw[<-s1] at a
  rw[a];refine⟨.inl rfl,1/tn (plN k),(l.length:Rat),?_,by exact_mod_cast zR _,λq=>?_⟩
  ·rw[Rat.div_def,Rat.one_mul];exact Rat.inv_pos.2 (zp3 _)
  ·have g:tn q<=(vZ l q+(l.length:Rat))*tn (plN k):=yb1 h hk q
   have hP:=zp3 (plN k);have e1:((1:Int):Rat)=1:=rfl;rw[e1];generalize tn (plN k)=P at*
   have hi:0<1/P:=by rw[Rat.div_def,Rat.one_mul];exact Rat.inv_pos.2 hP
   have:=Rat.mul_le_mul_of_nonneg_right g (Rat.le_of_lt hi);have e2:(vZ l q+(l.length:Rat))*P*(1/P)=vZ l q+(l.length:Rat):=by grind
   grind
 ·rw[<-s1] at a
  rw[a];obtain⟨P,hP⟩:=yb0 hl h hp hk;refine⟨.inr rfl,1/tn P,0,?_,by grind,λq=>?_⟩
  ·rw[Rat.div_def,Rat.one_mul];exact Rat.inv_pos.2 (zp3 _)
  ·have g:vZ l q*tn P<= -tn q:=by
    have:=hP q;have h2:(((valZ l q*((10^P:Nat):Int):Int)):Rat)<=((-((10^q:Nat):Int):Int):Rat):=by exact_mod_cast this
    rw[Rat.intCast_mul,Rat.intCast_neg] at h2;exact h2
   have hP:=zp3 P;have e1:((-1:Int):Rat)= -1:=rfl;rw[e1];generalize tn P=T at*
   have hi:0<1/T:=by rw[Rat.div_def,Rat.one_mul];exact Rat.inv_pos.2 hP
   have:=Rat.mul_le_mul_of_nonneg_right g (Rat.le_of_lt hi);have e2:vZ l q*T*(1/T)=vZ l q:=by grind
   grind
 ·rw[<-s1] at a
  exact absurd a n1
theorem zzf (q:Nat):rtF 1 q=10^q:=by
 unfold rtF;rw[Nat.one_mul,show 2*q=q+q by omega,Nat.pow_add];exact z1p _
end
section
open Go.RowKit Lib Str Limb
def Gr (f:Nat->Rat):Prop:=∃ε C:Rat,0<ε/\∀q,ε*tn q-C<=f q
def Lo (f:Nat->Rat):Prop:=∃C:Rat,∀q, -C<=f q
theorem Bd.lo {f:Nat->Rat} (h:Bd f):Lo f:=let ⟨K,h⟩:=h;⟨K,λq=>(h q).1⟩
theorem Gr.lo {f:Nat->Rat} (h:Gr f):Lo f:=by
 obtain⟨ε,C,h0,h⟩:=h;exact⟨C,λq=>by have:=h q;have:=Rat.mul_pos h0 (zp3 q);grind⟩
theorem Lo.congr {f g:Nat->Rat} (h:Lo f) (e:∀q,g q=f q):Lo g:=let ⟨C,h⟩:=h;⟨C,λq=>by rw[e];exact h q⟩
theorem Gr.congr {f g:Nat->Rat} (h:Gr f) (e:∀q,g q=f q):Gr g:=let ⟨ε,C,h0,h⟩:=h;⟨ε,C,h0,λq=>by rw[e];exact h q⟩
theorem Lo.add {f g:Nat->Rat} (hf:Lo f) (hg:Lo g):Lo λq=>f q+g q:=by
 obtain⟨C,hf⟩:=hf;obtain⟨D,hg⟩:=hg;exact⟨C+D,λq=>by have:=hf q;have:=hg q;grind⟩
theorem Gr.add {f g:Nat->Rat} (hf:Gr f) (hg:Lo g):Gr λq=>f q+g q:=by
 obtain⟨ε,C,h0,hf⟩:=hf;obtain⟨D,hg⟩:=hg;exact⟨ε,C+D,h0,λq=>by have:=hf q;have:=hg q;grind⟩
theorem Gr.no {f g:Nat->Rat} (h:Gr f) (h':Lo g) (e:∀q,g q= -f q):False:=by
 obtain⟨ε,C,h0,h⟩:=h;obtain⟨D,h'⟩:=h';obtain⟨p,hp⟩:=yak ((C+D)/ε);have h1:=h p;have h2:=h' p;have h3:=hp p (zN _);rw[e] at h2;have h4:=Rat.mul_lt_mul_of_pos_left h3 h0;rw[show ε*((C+D)/ε)=C+D by grind] at h4;grind
theorem yce {a:Rat} (h:0<=a):Lo λq=>a*tn q:=⟨0,λq=>by have:=Rat.mul_nonneg h (Rat.le_of_lt (zp3 q));grind⟩
theorem ycf (x:Rat):Bd λq=>vZ (rs x) q-x*tn q:=by
 by_cases e:x=0
 ·subst e;exact Bd.zero.congr λq=>by rw[yag,zfu];grind
 ·rw[yac e]
  exact(zpl (x,1)).congr λq=>by rw[zfb,zfu];show _=_-x*((rtF 1 q:Nat):Rat);rw[zzf];unfold tn;grind
theorem ydy {T:List (Rat×Nat)}:∀t∈mkG T,t.1≠0:=λ_ hc=>(zx8 hc).2
end
section
open Go.RowKit Lib Str Limb Geo
theorem yhn {a b:Rat} (h0:0<=a) (h:a<b):a*a<b*b:=by
 have h1:=Rat.mul_le_mul_of_nonneg_left (Rat.le_of_lt h) h0;have h2:=Rat.mul_lt_mul_of_pos_right h (show 0<b by grind);grind
theorem zug {a b:Rat} (h0:0<=b) (h:a*a<=b*b):a<=b:=by
 rcases(show a<=b\/b<a by grind) with g|g
 ·exact g
 ·have:=yhn h0 g;grind
theorem z4w (r k:Nat):((rtF r k:Nat):Rat)*((rtF r k:Nat):Rat)<=(r:Rat)*(tn k*tn k)/\(r:Rat)*(tn k*tn k)<=(((rtF r k:Nat):Rat)+1)*(((rtF r k:Nat):Rat)+1):=by
 obtain⟨h1,h2⟩:=zv0 (r*10^(2*k));rw[<-ydx];unfold rtF tn;generalize isq (r*10^(2*k))=z at*
 generalize 10^(2*k)=T at*
 have h3:=zT h2;exact⟨by exact_mod_cast h1,by exact_mod_cast h3⟩
end
section
open Go.RowKit Go.Shelf Lib Str Limb
section
variable {w W:zA} {x y u v:ByteArray} {q:Nat×Nat} {f g:Nat->Bool}
end
end
section
open Go.RowKit Go.Shelf Lib Str Limb Geo
attribute [local go_sem] Oper.semAt_some
section
variable {P:Program} {ops:Array Oper} {Q:Exit->Act->zA->Prop} {a:Act} {rest:List Oper} {o:Oper} {C:zA->Prop}
end
end
section
open Go.RowKit Go.Shelf Lib Str Limb Geo
end
section
open Go.RowKit Go.Shelf Lib Str Limb Geo
attribute [local go_sem] Oper.semAt_some
section
variable {w:zA} {x1 y1 x2 y2 x3 y3 x4 y4:List UInt8} {E:Nat} {X Y:Nat->List UInt8} {q:Option Addr} {m c:Nat} {acc:List (List UInt8×List UInt8)} {W:zA}
end
section
variable {w:zA} {x1 y1 x2 y2 x3 y3 x4 y4 x y:List UInt8} {E B:Nat} {X Y:Nat->List UInt8} {q:Option Addr} {m c:Nat} {acc:List (List UInt8×List UInt8)} {W:zA}
end
end
section
open Go.RowKit Go.Shelf Lib Str Limb Geo
end
section
open Go.RowKit Go.Shelf Lib Str Limb Geo
attribute [local go_sem] Oper.semAt_some
theorem zrx {W:zA} {A:Nat} {a b:Value} {t:TypeId} (h:W.heap[A]? =some (.cells #[a,b] t (0,0))):W.cell? ⟨A,0,none⟩=some a/\W.cell? ⟨A,1,none⟩=some b:=
 ⟨by rw[zJ h];rfl,by rw[zJ h];rfl⟩
theorem yev {T:List (Rat×Nat)} (hp:PosR T) (hlen:T.length<=12) (h:ShG (mkG T)):SdOk (mkG T) 40:=
 ycs hp (λc hc=>⟨(h c hc).2.2.pos,(zaf _ 40 (by omega)).2 (h c hc).2.1,(h c hc).2.2.nc⟩) hlen λc hc=>(h c hc).1
def ratT (l:List (Rat×Nat)):List (Rat×Rat):=l.map λt=>(t.1,(t.2:Rat))
theorem yg6 {l:List (Rat×Nat)} (h:∀t∈l,zn7 t.2=(1,t.2)):(ratT l).map nrT=l:=by
 unfold ratT;rw[List.map_map]
 conv=>rhs;rw[<-List.map_id l]
 refine List.map_congr_left λt ht=>?_;show nrT (t.1,(t.2:Rat))=t;unfold nrT;dsimp only;rw[show((t.2:Nat):Rat).num.natAbs*((t.2:Nat):Rat).den=t.2 by show((t.2:Int)).natAbs*1=t.2;omega,h t ht,show((t.2:Nat):Rat).den=1 from rfl];refine Prod.ext ?_ rfl;show t.1*(((1:Nat):Rat)/((1:Nat):Rat))=t.1;rw[show(((1:Nat):Rat)/((1:Nat):Rat))=1 by decide+kernel,Rat.mul_one]
theorem yew {v:Value} {l:List (Rat×Nat)} {W:zA} (h:SdL v l W):SdU v (ratT l) W:=by
 obtain⟨p,cap,rfl,hc,hx⟩:=h.slice;have e:(ratT l).length=l.length:=zV ..;refine⟨p,cap,by rw[e],by rw[e];exact hc,λi u hu=>?_⟩;unfold ratT at hu;rw[List.getElem?_map,Option.map_eq_some_iff] at hu;obtain⟨t,ht,rfl⟩:=hu;obtain⟨b,off,e1,h1,h2,h3⟩:=hx i t ht;exact⟨b,off,e1,h1,h2,by rw[h3,zhe]⟩
theorem yex (v1 v2:Value) (l1 l2:List (Rat×Nat)) (ok1:SdOk l1 40) (ok2:SdOk l2 40) (hlen:l1.length+l2.length<=12) (w:zA) (hw:Hw w) (h1:SdL v1 l1 w) (h2:SdL v2 l2 w):
 zC zF 11 #[v1,v2] w λe w'=>∃a r,e=.returned (.tuple #[.int .i64 a,.int .i64 r])/\zB w.heap.size w w'/\((r=4/\¬zhg (l1++sclL l2 (-1)))\/(r=sgeL (dfL l1 l2)/\a=sgnL (dfL l1 l2))):=by
 obtain⟨T,hT⟩:=zzX (l1++sclL l2 (-1));have hd:dfL l1 l2=mkG T:=by rw[hT];rfl
 have mem:∀t∈T,t.1≠0/\sz t.1 61/\NrmR t.2 40:=λt ht=>by
  rw[hT] at ht;rcases List.mem_append.1 ht with h|h
  ·have:=ok1.trm t h
   exact⟨this.ne,this.sc.mono (by omega),this.nr⟩
  ·obtain⟨u,hu,rfl⟩:=List.mem_map.1 h
   have:=ok2.trm u hu;exact⟨λe=>this.ne (by have e:u.1* -1=0:=e;grind),zca this.sc zb7.2.2.2.2.1,this.nr⟩
 have hl:T.length<=12:=by rw[hT];simp[sclL];omega
 have hnr:=yg6 (l:=T) λt ht=>(mem t ht).2.2.nc;have hU:MkS (ratT T):=by
  refine⟨by unfold ratT;rw[zV];exact hl,λu hu=>?_,λu hu=>?_,λu hu=>?_,λu hu=>?_⟩<;>(obtain⟨t,ht,rfl⟩:=List.mem_map.1 hu;obtain⟨m1,m2,m3⟩:=mem t ht)
  ·exact m1
  ·have:=m3.pos
   show(0:Rat)<(t.2:Rat);exact_mod_cast this
  ·exact m2.mono (by omega)
  ·exact(zrg (k:=40) (by omega) m3.len).mono (by omega)
 have hp:PosR T:=λt ht=>by have:=(mem t ht).2.2.pos;exact_mod_cast this
 rw[hd,<-hT];refine(zjn v1 v2 (sgnL (mkG T)) (sgeL (mkG T)) (λu W=>SdL u (mkG T) W) (ShG (mkG T)) (¬zhg T) w (hid ?_) (hid λW u hE hW hu=>z0a u _ (yev hp hl hE) W (hw.below hW).wd (hw.below hW).sw hu)).mono λe w' ⟨a,r,e1,hb,g⟩=>⟨a,r,e1,hb,g.elim (λh=>.inl ⟨h.1,h.2.2⟩) λh=>.inr ⟨h.2.1,h.1⟩⟩;refine(yef v1 v2 l1 l2 ok1 ok2 hlen (λv r W=>(r=0/\SdL v (mkG T) W/\ShG (mkG T))\/r=4/\¬zhg T) w (hid λW hW=>(hw.below hW).wd) (hid λW hW=>(hw.below hW).pw) h1 h2 λW v hW hv=>?_).mono λe w' ⟨q,n,c,r,e1,hb,g⟩=>⟨q,n,c,r,e1,hb,g⟩;rw[<-hT] at hv;obtain⟨pv,cv,rfl, -,hx⟩:=yew hv;have M:=zo6 (ratT T) hU pv cv W (hid λV hV=>((hw.below hW).below hV).wd) (hid λV hV=>((hw.below hW).below hV).pw) hx;rw[hnr] at M;exact M.mono λe w' ⟨q,n,c,r,e1,hb,g⟩=>⟨q,n,c,r,e1,hb,g.imp (λh=>⟨h.1,h.2.1,h.2.2.1⟩) λh=>h.1⟩
end
section
open Go.RowKit Go.Shelf Lib Str Limb Geo
theorem z9r {l:List (Rat×Nat)} (h:PosR l):dfL l l=[]:=by
 refine ya0 (z8v h h) λr _=>?_;rw[z5a,z5b];grind
theorem z9s {c:Rat} {r:Nat} (hc:sz c 60) (hr:0<r) (h4:r<10^40):zhg [(c,r),(c* -1,r)]:=by
 have p:(0:Rat)<(r:Rat):=by exact_mod_cast hr
 have al:z5c (r:Rat) (r:Rat)=true:=zx1 p;have e1:=z43 p;have cn:sz (c* -1) 61:=zca hc zb7.2.2.2.2.1;have h9:=hid (zS h4 (yF (by omega) (show 40<=90 by omega)));clear h4;have s1:sz (1:Rat) 1:=⟨by decide,by decide⟩;have d:∀{x y:Rat} {i j:Nat},sz x i->sz y j->0<i->i+j<=300->okMul x y:=λhx hy h0 h=>⟨zO (z1j (by omega) hx.1 hy.1) h,zO (zhd (by omega) (by rw[Int.natAbs_natCast];exact zcc hx.2 hy.2)) h⟩;have a:∀{x y:Rat} {i j:Nat},sz x i->sz y j->0<i->0<j->i+j+1<=300->okAdd x y:=λ{x y i j} hx hy h0 h1 h=>by
  have g1:=zcd h0 hx.1 hy.2;have g2:=zcd h1 hy.1 hx.2;exact⟨by omega,by omega,zO (zhz (k:=i+j) (by omega) g1 (by omega)) (by omega),zO (zhd (k:=i+j) (by omega) (by rw[Int.natAbs_natCast];exact zcc hx.2 hy.2)) (by omega)⟩
 have g1:grG [(c,r),(c* -1,r)] 1=[(c,r)]:=rfl;have g2:grG [(c,r),(c* -1,r)] 2=[(c+c* -1*1,r)]:=by
  rw[zr9 (i:=1) (t:=(c* -1,r)) rfl,g1];show(if z5c (r:Rat) (r:Rat)=true then plG (c,r) (c* -1,r)::[] else _)=_;rw[if_pos al];unfold plG;rw[if_neg (Nat.lt_irrefl _),e1]
 refine⟨λi t ht=>?_,λe he=>?_⟩
 ·match i,ht with
  |0,ht=>injection ht with ht;subst ht;exact⟨h9.out,λe he=>by cases he⟩
  |1,ht=>
   injection ht with ht;subst ht;refine⟨h9.out,λe he _=>?_⟩;rw[g1] at he;simp at he;subst he;unfold okP;rw[if_neg (Nat.lt_irrefl _),e1];exact⟨d cn s1 (by omega) (by omega),a hc (zca cn s1) (by omega) (by omega) (by omega)⟩
 ·rw[show[(c,r),(c* -1,r)].length=2 from rfl,g2] at he
  simp at he;subst he;exact λh=>(h (by grind)).elim
theorem z9t {q:Rat} (h0:0<=q) (lk:LenK q):zhg (lenL q++sclL (lenL q) (-1)):=by
 unfold lenL;by_cases z:q=0
 ·rw[if_pos z]
  exact⟨λi t h=>by simp[sclL] at h,λe h=>by simp[sclL,grG] at h⟩
 ·rw[if_neg z]
  rcases lk with h|⟨h1,h2⟩
  ·exact(z h).elim
  ·have h3:=(zef (q:=q) (by grind)).2.1
   generalize rtC q=c at*
   generalize rtR q=r at*
   exact z9s h1 h3 h2
theorem ybr {S:List (Rat×Nat)} (hp:PosR S) (h0:∀t∈S,t.1≠0) (e:sgeL S=0) (g:Gr λk=>vZ S k):0<sgnL S:=by
 by_cases hn:S=[]
 ·exact(g.no (g:=λ_=>0) ⟨0,λq=>by grind⟩ λq=>by rw[hn,zfu];grind).elim
 ·obtain⟨h1,ε,C,e0, -,h⟩:=yal h0 hp hn e
  rcases h1 with h1|h1
  ·omega
  ·rw[h1] at h
   exact((show Gr λk=> -vZ S k from⟨ε,C,e0,λk=>by have:=h k;rw[show((-1:Int):Rat)= -1 from rfl] at this;grind⟩).no g.lo λq=>by grind).elim
theorem ya3 {S:List (Rat×Nat)} (hp:PosR S) (h0:∀t∈S,t.1≠0) (e:sgeL S=0) (g:Lo λk=> -vZ S k):¬0<sgnL S:=λhs=>by
 by_cases hn:S=[]
 ·rw[hn] at hs;exact absurd hs (by decide)
 ·obtain⟨h1,ε,C,e0, -,h⟩:=yal h0 hp hn e
  rcases h1 with h1|h1
  ·rw[h1] at h
   exact(show Gr λk=>vZ S k from⟨ε,C,e0,λk=>by have:=h k;rw[show((1:Int):Rat)=1 from rfl] at this;grind⟩).no g λq=>by grind
  ·omega
theorem z3q {q:Rat} (h0:0<=q):PosR (lenL q):=λt ht=>by
 unfold lenL at ht;by_cases z:q=0
 ·rw[if_pos z] at ht;cases ht
 ·rw[if_neg z] at ht
  have h:=(zef (q:=q) (by grind)).2.1;generalize rtC q=c at*
  generalize rtR q=r at*
  simp at ht;subst ht;show(0:Rat)<((r:Nat):Rat);exact_mod_cast h
theorem ybs {a q:Rat} (ha:0<=a) (h:a*a<q):∃ε:Rat,0<ε/\(a+ε)*(a+ε)<=q:=by
 obtain⟨d,hd⟩:∃d,q=a*a+d:=⟨q-a*a,by grind⟩;have d0:0<d:=by grind
 have s0:0<a+a+1+d:=by grind
 refine⟨d/(a+a+1+d),by rw[Rat.div_def];exact Rat.mul_pos d0 (Rat.inv_pos.2 s0),?_⟩;obtain⟨ε,hε⟩:=zzX (d/(a+a+1+d));have es:ε*(a+a+1+d)=d:=by rw[hε];grind
 have e0:0<ε:=by rw[hε,Rat.div_def];exact Rat.mul_pos d0 (Rat.inv_pos.2 s0)
 rw[<-hε,hd];clear hε hd h;have eu:ε<=1:=by
  rcases(show ε<=1\/1<ε by grind) with h|h
  ·exact h
  ·have:=Rat.mul_lt_mul_of_pos_right h s0
   grind
 have h1:=Rat.mul_nonneg (Rat.le_of_lt e0) (show 0<=1-ε by grind);have h2:=Rat.mul_nonneg (Rat.le_of_lt e0) (Rat.le_of_lt d0);have e3:ε*a+ε*a+ε+ε*d=d:=by grind
 have e4:(a+ε)*(a+ε)=a*a+(ε*a+ε*a+ε*ε):=by grind
 have h3:0<=ε-ε*ε:=by grind
 rw[e4];generalize ε*a=x at*
 generalize ε*ε=y at*
 generalize ε*d=z at*
 generalize a*a=t at*
 grind
theorem ya4 {a ε c q F T r:Rat} (_:0<=a) (_:0<ε) (c0:0<c) (F0:0<=F) (t0:0<=T) (e1:c*c*r=q) (eq:(a+ε)*(a+ε)<=q) (h:r*(T*T)<=(F+1)*(F+1)):ε*T-c<=c*F-a*T:=by
 have c2:=Rat.mul_le_mul_of_nonneg_left h (Rat.le_of_lt (Rat.mul_pos c0 c0));have t2:=Rat.mul_le_mul_of_nonneg_right eq (Rat.mul_nonneg t0 t0);have e3:c*c*(r*(T*T))=q*(T*T):=by rw[<-e1];grind
 have:=zug (a:=(a+ε)*T) (b:=c*(F+1)) (Rat.mul_nonneg (Rat.le_of_lt c0) (by grind)) (by
  rw[show(a+ε)*T*((a+ε)*T)=(a+ε)*(a+ε)*(T*T) by grind,show c*(F+1)*(c*(F+1))=c*c*((F+1)*(F+1)) by grind];exact Rat.le_trans t2 (by rw[<-e3];exact c2))
 grind
theorem ya5 {a c q F T r:Rat} (ha:0<=a) (c0:0<c) (t0:0<=T) (e1:c*c*r=q) (eq:q<=a*a) (h:F*F<=r*(T*T)): -0<=a*T-c*F:=by
 have c2:=Rat.mul_le_mul_of_nonneg_left h (Rat.le_of_lt (Rat.mul_pos c0 c0));have t2:=Rat.mul_le_mul_of_nonneg_right eq (Rat.mul_nonneg t0 t0);have e3:c*c*(r*(T*T))=q*(T*T):=by rw[<-e1];grind
 have:=zug (a:=c*F) (b:=a*T) (Rat.mul_nonneg ha t0) (by
  rw[show a*T*(a*T)=a*a*(T*T) by grind,show c*F*(c*F)=c*c*(F*F) by grind];exact Rat.le_trans c2 (by rw[e3];exact t2))
 grind
theorem ya6 {q:Rat} (h0:0<=q) {a:Rat} (ha:0<=a) (e:sgeL (dfL (lenL q) (rs a))=0):decide (0<sgnL (dfL (lenL q) (rs a)))=decide (a*a<q):=by
 have hl:=z3q h0;have hS:=ybw (z8v hl (z8f a));have hb:Bd λk=>vZ (dfL (lenL q) (rs a)) k-(vZ (lenL q) k-a*tn k):=
  ((yc0 (z8v hl (z8f a))).add ((z5t (-1) (rs a)).add (ycf a).neg)).congr λk=>by
    show vZ (mkG (lenL q++sclL (rs a) (-1))) k-_=_;rw[z5s];grind
 have n0:∀t∈dfL (lenL q) (rs a),t.1≠0:=ydy;by_cases hc:a*a<q
 ·rw[decide_eq_true hc]
  have hq:0<q:=by have:=Rat.mul_nonneg ha ha;grind
  obtain⟨p1,p2, -,e1⟩:=zef hq;refine decide_eq_true (ybr hS n0 e ?_);have hL:∀k,vZ (lenL q) k=((flT (rtC q,rtR q) k:Int):Rat):=λk=>by unfold lenL;rw[if_neg (by grind),zfb,zfu];grind
  have hf:=zpl (rtC q,rtR q);obtain⟨ε,e0,eq⟩:=ybs ha hc;have G:Gr λk=>rtC q*((rtF (rtR q) k:Nat):Rat)-a*tn k:=by
   exact⟨ε,rtC q,e0,λk=>ya4 ha e0 p1 (by exact_mod_cast zR _) (Rat.le_of_lt (zp3 k)) e1 eq (z4w (rtR q) k).2⟩
  exact((G.add (hf.lo)).add hb.lo).congr λk=>by rw[hL];dsimp only;grind
 ·rw[decide_eq_false hc]
  refine decide_eq_false (ya3 hS n0 e ?_);by_cases z:q=0
  ·have hL:∀k,vZ (lenL q) k=0:=λk=>by unfold lenL;rw[if_pos z,zfu]
   exact((yce ha).add hb.neg.lo).congr λk=>by rw[hL];grind
  ·have hq:0<q:=by grind
   obtain⟨p1,p2, -,e1⟩:=zef hq;have hL:∀k,vZ (lenL q) k=((flT (rtC q,rtR q) k:Int):Rat):=λk=>by unfold lenL;rw[if_neg z,zfb,zfu];grind
   have hf:=zpl (rtC q,rtR q);have G:Lo λk=>a*tn k-rtC q*((rtF (rtR q) k:Nat):Rat):=by
    exact⟨0,λk=>ya5 ha p1 (Rat.le_of_lt (zp3 k)) e1 (by grind) (z4w (rtR q) k).1⟩
   exact((G.add hf.neg.lo).add hb.neg.lo).congr λk=>by rw[hL];dsimp only;grind
theorem ybt {N:Nat} (h0:N≠0) (h:N<=65536):SdOk (rs (N:Rat)) 40/\rs (N:Rat)=[((N:Rat),1)]:=by
 have z:(N:Rat)≠0:=by exact_mod_cast h0
 rw[yac z];exact⟨.oneD ⟨z,szN (by omega) (by omega),by omega,by rw[zae (by omega)];decide,by decide+kernel⟩,rfl⟩
theorem z8g {q:Rat} (_:0<=q) {N:Nat} (h:N≠0):decide ((N:Rat)*(N:Rat)<q)=refB q N:=by
 unfold refB;rw[decide_eq_false h,Bool.false_or]
def Mrat.to (x:Mrat) (t0 t1 t2:Rat) (wd dp:Int):Mrat:=⟨x.k,x.f,x.o,x.a0,x.a1,x.a2,t0,t1,t2,wd,dp⟩
theorem z9u {q q':Rat} {N N':Nat} (hq:q'<=q) (hN:N<=N') (h:refB q N=false):refB q' N'=false:=by
 unfold refB at*
 simp only[Bool.or_eq_false_iff,decide_eq_false_iff_not] at*
 have h1:((N:Nat):Rat)*(N:Rat)<=(N':Rat)*(N':Rat):=by exact_mod_cast Nat.mul_le_mul hN hN
 refine⟨by omega,λg=>h.2 ?_⟩;grind
theorem zzh {a b s:Rat} (ha:szE a 12 10) (hb:szE b 12 10) (hs:sz s 12):sz (a+(b-a)*s) 60/\sz (a+(b-a)*s-a) 40:=by
 have h:=zca (zfq hb.sz ha.sz) hs;exact⟨(zk0 ha.sz h).mono (by omega),by rw[show a+(b-a)*s-a=(b-a)*s by grind];exact h.mono (by omega)⟩
theorem ybv {x:Mrat} {s:Rat} (h0:0<=s) (h1:s<=1) (wd dp:Int):(x.to (x.a0+(x.b0-x.a0)*s) (x.a1+(x.b1-x.a1)*s) (x.a2+(x.b2-x.a2)*s) wd dp).q<=x.q:=by
 have e:(x.to (x.a0+(x.b0-x.a0)*s) (x.a1+(x.b1-x.a1)*s) (x.a2+(x.b2-x.a2)*s) wd dp).q=x.q*(s*s):=by unfold Mrat.to Mrat.q;dsimp only;grind
 have hq:=x.q_nn;rw[e];generalize x.q=q at*
 have g1:=Rat.mul_nonneg h0 (show 0<=1-s by grind);have g2:=Rat.mul_nonneg hq (show 0<=1-s*s by grind);grind
def ShE (x:Mrat) (t0 t1 t2:ByteArray):Prop:=∃s:Rat,0<=s/\s<=1/\sz s 12/\t0=nB (x.a0+(x.b0-x.a0)*s)/\t1=nB (x.a1+(x.b1-x.a1)*s)/\t2=nB (x.a2+(x.b2-x.a2)*s)
theorem ybz (x:Mrat) (ok:MOk x) (sh:MSh x) (lk:LenK x.q) {p:Option Addr} {n:Nat} {q:Nat->AlR} {w:zA} (hw:Hw w) (ht:Tab p n q w) (cap:Nat) (D:ByteArray) (hD:D.size<=12) (sp ld wd1 dp1 ls:Int)
 (hc:CndS x.m sp ld) (h1:0<=wd1) (h2:0<=dp1) (h3:0<=ls):
 SpQ p cap n x.m D sp ld (max 1 (sp-ls)) (max 0 (ld-ls)) (min 1000 (x.wd+wd1)) (min 1000 (x.dp+dp1)) (lenL x.q) (alw q n x.wd x.dp sp ld) (refB x.q (alw q n x.wd x.dp sp ld)) (nB ((alw q n x.wd x.dp sp ld:Nat):Rat)) (ShE x) w:=by
 obtain⟨d0,d1,d2⟩:=sh.dx;have lo:=yas x.q_nn lk;have hN:=zgw ht.ok x.wd x.dp sp ld;obtain⟨c1,c2,c3⟩:=hc;have hs:secB 1 1 sp ld=true:=by unfold secB inB;simp only[Bool.and_eq_true,decide_eq_true_eq];omega
 have hs1:secB x.wd x.dp sp ld=true:=by unfold secB inB;have:=ok.wd;have:=ok.dp;simp only[Bool.and_eq_true,decide_eq_true_eq];omega
 have ME:∀(t0 t1 t2:Rat) (wd dp:Int),sz3 t0 t1 t2 60->sz (t0-x.a0) 40->sz (t1-x.a1) 40->1<=wd/\wd<=1000->1<=dp/\dp<=1000->MMe (x.to t0 t1 t2 wd dp):=λt0 t1 t2 wd dp g1 g2 g3 g4 g5=>⟨c1,g4,g5,sh.s1.sz3 (by omega),g1,g2,g3⟩
 refine⟨λh=>by unfold refB;rw[decide_eq_true h];rfl,λW hW=>z27 x ok d0 d1 (d2.mono (by omega)) lk W (hw.below hW),
  λW b cap1 hW hm=>zr3 x (ME x.b0 x.b1 x.b2 x.wd x.dp (sh.s2.sz3 (by omega)) d0 d1 ok.wd ok.dp) (hw.below hW).wd (ht.below hW) cap sp ld hs b cap1 hm,
  λW v1 v2 hW l1 l2=>?_,λW hW=>ycd (ht.below hW) cap x.wd x.dp sp ld hs1,λW hW=>of1 _ (by have:=hN.2;omega) W (hw.below hW).wd,λW v1 b hz hW l1 hb=>?_,
  λW hW=>ybq x ok ⟨(zfq sh.s2.1.sz sh.s1.1.sz).mono (by omega),(zfq sh.s2.2.1.sz sh.s1.2.1.sz).mono (by omega),(zfq sh.s2.2.2.sz sh.s1.2.2.sz).mono (by omega)⟩ D hD W (hw.below hW).wd,
  λW t0 t1 t2 b cap1 hE hW hm=>?_⟩
 ·refine(yex v1 v2 _ _ lo lo (by have:=lo.len;unfold lenL;split<;>simp) W (hw.below hW) l1 l2).mono λe w' ⟨a,r,e1,hb,h⟩=>?_
  rcases h with⟨-,h⟩|⟨h,h'⟩
  ·exact(h (z9t x.q_nn lk)).elim
  ·rw[z9r (z3q x.q_nn)] at h h'
   rw[h,h'] at e1;exact⟨e1,hb⟩
 ·generalize alw q n x.wd x.dp sp ld=N at*
  obtain⟨k1,k2⟩:=ybt hz hN.2;have l2:SdL (.slice (some ⟨b,0,none⟩) 1 1) (rs (N:Rat)) W:=by
   rw[k2];have:=zrx hb;exact zf4 (zN _) this.1 (by rw[this.2,show zD 1=[49] by rw[zae (by omega)];rfl])
  refine(yex v1 _ _ _ lo k1 (by rw[k2];unfold lenL;split<;>simp) W (hw.below hW) l1 l2).mono λe w' ⟨a,r,e1,hb,h⟩=>⟨a,r,e1,hb,λhr=>?_⟩;rcases h with⟨h, -⟩|⟨hr2,h⟩
  ·omega
  ·rw[h,ya6 x.q_nn (by exact_mod_cast zR N) (by omega),z8g x.q_nn hz]
 ·have e2:alw q n x.wd x.dp sp ld<=alw q n (min 1000 (x.wd+wd1)) (min 1000 (x.dp+dp1)) (max 1 (sp-ls)) (max 0 (ld-ls)):=ybo ht.ok (by have:=ok.wd;omega) (by have:=ok.dp;omega) (by omega) (by omega)
  have hs2:secB 1 1 (max 1 (sp-ls)) (max 0 (ld-ls))=true:=by unfold secB inB;simp only[Bool.and_eq_true,decide_eq_true_eq];omega
  have go:∀u0 u1 u2:Rat,t0=nB u0->t1=nB u1->t2=nB u2->sz3 u0 u1 u2 60->sz (u0-x.a0) 40->sz (u1-x.a1) 40->(x.to u0 u1 u2 (min 1000 (x.wd+wd1)) (min 1000 (x.dp+dp1))).q<=x.q->
   zC zF 10 #[.slice (some ⟨b,0,none⟩) 1 cap1,.slice p n cap,.int .i64 (max 1 (sp-ls)),.int .i64 (max 0 (ld-ls))] W λe w'=>∃p' n' c',e=.returned (.tuple #[.slice p' n' c',.int .i64 0])/\zB W.heap.size W w'/\(refB x.q (alw q n x.wd x.dp sp ld)=false->n'=0):=by
   rintro u0 u1 u2 rfl rfl rfl g1 g2 g3 g4;refine(zr3 (x.to u0 u1 u2 (min 1000 (x.wd+wd1)) (min 1000 (x.dp+dp1))) (ME _ _ _ _ _ g1 g2 g3 (by have:=ok.wd;omega) (by have:=ok.dp;omega)) (hw.below hW).wd (ht.below hW) cap _ _ hs2 b cap1 hm).mono λe w' ⟨p',n',c',e1,hb,h⟩=>⟨p',n',c',e1,hb,λhf=>?_⟩;rcases h with⟨_,_,h,_⟩|⟨h,_⟩
   ·exact h
   ·have:=z9u g4 e2 hf
    exact absurd h (by show ¬refB _ (alw q n (min 1000 (x.wd+wd1)) (min 1000 (x.dp+dp1)) (max 1 (sp-ls)) (max 0 (ld-ls)))=true;rw[this];decide)
  rcases hE with⟨s,s0,s1,ss,r0,r1,r2⟩|⟨r0,r1,r2⟩
  ·obtain⟨a1,a2⟩:=zzh sh.s1.1 sh.s2.1 ss
   obtain⟨b1,b2⟩:=zzh sh.s1.2.1 sh.s2.2.1 ss;obtain⟨c1,c2⟩:=zzh sh.s1.2.2 sh.s2.2.2 ss;exact go _ _ _ r0 r1 r2 ⟨a1,b1,c1⟩ a2 b2 (ybv s0 s1 _ _)
  ·exact go x.b0 x.b1 x.b2 r0 r1 r2 (sh.s2.sz3 (by omega)) d0 d1 Rat.le_refl
end
section
open Go.RowKit Go.Shelf Lib Str Limb Geo
attribute [local go_sem] Oper.semAt_some
abbrev spM:Mbr:=Mbr.mk 1 0 (-1) ⟨#[48]⟩ ⟨#[48]⟩ ⟨#[48]⟩ ⟨#[49,53,48,48]⟩ ⟨#[50,48,48,48]⟩ ⟨#[49]⟩ 50 100
def RowIn (p:Option Addr) (n:Nat) (x:Nat->Int) (W:zA):Prop:=∀i,i<n->∃b off,p=some ⟨b,off,none⟩/\W.cell? ⟨b,off+i,none⟩=some (.int .i64 (x i))
theorem RowIn.keep {p:Option Addr} {n:Nat} {x:Nat->Int} {W W':zA} (h:RowIn p n x W) (hb:qL W W'):RowIn p n x W':=λi hi=>let ⟨b,off,e,c⟩:=h i hi;⟨b,off,e,(zac hb).cell c⟩
theorem z9v (p p':Option Addr) (c c' n:Nat) (X:Nat->Int) (hn:n<=5000) (w:zA) (HP:Hid (RowIn p n X w)) (HP':Hid (RowIn p' n X w)):
 qJ 19 #[.slice p n c,.slice p' n c'] w (.bool true):=by
 have D0:=hid (zM w.heap.size w);go_enter Tryz.func19,Tryz.ntmps19;go_wp21;go_loopw [13] (λi wr=>∃(k:Nat),k<=n/\i=.int .i64 (k:Int)/\Hid (qL w wr))
  (λi _=>n-(RowKit.intOf i).toNat)
 case atStart=>exact⟨0,zR _,rfl,D0⟩
 case round=>
  clear D0;obtain⟨k,hk,rfl,hB⟩:=hrel;by_cases hlt:k<n
  ·obtain⟨b,off,rfl,c0⟩:=(HP.out.keep hB.out) k hlt
   obtain⟨b',off',rfl,d0⟩:=(HP'.out.keep hB.out) k hlt;have HQ:=hid λm=>hB.out.trans ((zao (zM _ wr) m).mono hB.out.size);clear hB;generalize X k=x at*
   go_wp21;go_quiet (fail);go_wp21;go_roundw
   case rel=>exact⟨k+1,by omega,by go_num,hid (HQ.out _)⟩
   case measure=>simp[RowKit.intOf];omega
  ·go_wp21
   go_ret;exact⟨rfl,hB.out⟩
theorem z9w (g b c:Nat) (w:zA) (h1:w.cell? ⟨g,0,none⟩=some (.int .i64 0)) (h2:w.cell? ⟨b,0,none⟩=some (.int .i64 0)):
 qJ 19 #[.slice (some ⟨g,0,none⟩) 1 c,.slice (some ⟨b,0,none⟩) 1 1] w (.bool true):=
 z9v (some ⟨g,0,none⟩) (some ⟨b,0,none⟩) c 1 1 (λ_=>0) (by omega) w (hid λi hi=>by obtain rfl:i=0:=(by omega);exact⟨g,0,rfl,h1⟩) (hid λi hi=>by obtain rfl:i=0:=(by omega);exact⟨b,0,rfl,h2⟩)
theorem z60 (w:zA)
 (M1:Hid (∀(W:zA) (A b:Nat),qL w W->W.heap[A]? =some (.cells #[.int .i64 50,.int .i64 100,.int .i64 400,.int .i64 1000,.int .i64 2500] 55 (0,0))->MbS spM b W->zC zF 10 #[.slice (some ⟨b,0,none⟩) 1 1,.slice (some ⟨A,0,none⟩) 1 1,.int .i64 400,.int .i64 1000] W λe w'=>∃p' n' c',e=.returned (.tuple #[.slice p' n' c',.int .i64 0])/\zB W.heap.size W w'/\MemO false p' n' c' w')) (M2:Hid (∀(W:zA) (A b:Nat),qL w W->W.heap[A]? =some (.cells #[.int .i64 50,.int .i64 100,.int .i64 400,.int .i64 1000,.int .i64 2500] 55 (0,0))->MbS spM b W->zC zF 10 #[.slice (some ⟨b,0,none⟩) 1 1,.slice (some ⟨A,0,none⟩) 1 1,.int .i64 401,.int .i64 1000] W λe w'=>∃p' n' c',e=.returned (.tuple #[.slice p' n' c',.int .i64 0])/\zB W.heap.size W w'/\MemO true p' n' c' w'))
 (RU:Hid (∀W:zA,qL w W->zC zF 9 #[.agg #[.int .i64 1,.int .i64 0,.int .i64 (-1),.string ⟨#[48]⟩,.string ⟨#[48]⟩,.string ⟨#[48]⟩,.string ⟨#[49,53,48,48]⟩,.string ⟨#[50,48,48,48]⟩,.string ⟨#[49]⟩,.int .i64 50,.int .i64 100]] W λe w'=>∃p n c,e=.returned (.tuple #[.slice p n c,.int .i64 0])/\zB W.heap.size W w'/\SdL (.slice p n c) [(2500,1)] w'))
 (EQ:Hid (∀(W:zA) (v1:Value) (b:Nat),qL w W->SdL v1 [(2500,1)] W->W.heap[b]? =some (.cells #[.string ⟨#[50,53,48,48]⟩,.string ⟨#[49]⟩] 49 (0,0))->qJ 20 #[v1,.slice (some ⟨b,0,none⟩) 1 1] W (.bool true))):
 qJ 7 #[] w (.bool true):=by
 obtain⟨v1,hv1⟩:=zzX (w.alloc (.cells #[.int .i64 50,.int .i64 100,.int .i64 400,.int .i64 1000,.int .i64 2500] 55));obtain⟨b1,A1⟩:=zdn hv1;obtain⟨v2,hv2⟩:=zzX (v1.alloc (.cells #[.int .i64 1,.int .i64 0,.int .i64 (-1),.string ⟨#[48]⟩,.string ⟨#[48]⟩,.string ⟨#[48]⟩,.string ⟨#[49,53,48,48]⟩,.string ⟨#[50,48,48,48]⟩,.string ⟨#[49]⟩,.int .i64 50,.int .i64 100] 27));obtain⟨b2,A2⟩:=zdn hv2;obtain⟨v3,hv3⟩:=zzX (v2.alloc (.cells #[.int .i64 1,.int .i64 0,.int .i64 (-1),.string ⟨#[48]⟩,.string ⟨#[48]⟩,.string ⟨#[48]⟩,.string ⟨#[49,53,48,48]⟩,.string ⟨#[50,48,48,48]⟩,.string ⟨#[49]⟩,.int .i64 50,.int .i64 100] 27));obtain⟨b3,A3⟩:=zdn hv3;have s1:v1.heap.size=w.heap.size+1:=by rw[hv1];simp
 have s2:v2.heap.size=w.heap.size+1+1:=by rw[hv2];simp[s1]
 have b23:=b2.trans (b3.mono b2.size);have B3:=hid (b1.trans (b23.mono b1.size));have T3:=hid (zac b23 _ _ _ _ A1);rw[s1] at A2;rw[s2] at A3;have S3:=hid (MbS.mk (zac b3 _ _ _ _ A2):MbS spM (w.heap.size+1) v3);have E3:=hid (MbS.mk A3:MbS spM (w.heap.size+1+1) v3);obtain⟨k0,k1,k2,k3,k4,k5,k6,k7,k8,k9,k10⟩:=(MbS.mk A2:MbS spM (w.heap.size+1) v2).cells;rw[hv1] at hv2;rw[hv2] at hv3 k0 k1 k2 k3 k4 k5 k6 k7 k8 k9 k10;have HV:=hid hv3.symm;clear hv1 hv2 hv3 b1 b2 b3 b23 A1 A2 A3 s1 s2;go_enter Tryz.func7,Tryz.ntmps7;go_wp21;rw[HV.out];clear k0 k1 k2 k3 k4 k5 k6 k7 k8 k9 k10 HV;refine(M1.out v3 _ _ B3.out T3.out E3.out).mono ?_;rintro e w4 ⟨p1,n1,c1,rfl,hb,hm⟩;obtain⟨-,rfl,rfl,rfl⟩:_/\p1=none/\n1=0/\c1=0:=by rcases hm with h|⟨h,_⟩;exact h;cases h
 have B4:=hid (B3.out.trans (hb.mono B3.out.size));have S4:=hid (S3.out.below hb);have T4:=hid (zac hb _ _ _ _ T3.out);clear hb hm B3 S3 T3 E3 M1;obtain⟨k0,k1,k2,k3,k4,k5,k6,k7,k8,k9,k10⟩:=S4.out.cells;obtain⟨v5,hv⟩:=zzX (w4.alloc (.cells #[.int .i64 1,.int .i64 0,.int .i64 (-1),.string ⟨#[48]⟩,.string ⟨#[48]⟩,.string ⟨#[48]⟩,.string ⟨#[49,53,48,48]⟩,.string ⟨#[50,48,48,48]⟩,.string ⟨#[49]⟩,.int .i64 50,.int .i64 100] 27));obtain⟨b5,A5⟩:=zdn hv;have B5:=hid (B4.out.trans (b5.mono B4.out.size));have S5:=hid (S4.out.below b5);have T5:=hid (zac b5 _ _ _ _ T4.out);have E5:=hid (MbS.mk A5:MbS spM w4.heap.size v5);have HV:=hid hv.symm;clear hv b5 A5 B4 S4 T4;go_wp21;rw[HV.out];clear k0 k1 k2 k3 k4 k5 k6 k7 k8 k9 k10 HV;refine(M2.out v5 _ _ B5.out T5.out E5.out).mono ?_;rintro e w6 ⟨p2,n2,c2,rfl,hb,hm⟩;obtain⟨rfl,g,rfl,hc⟩:n2=1/\∃g,p2=some ⟨g,0,none⟩/\w6.cell? ⟨g,0,none⟩=some (.int .i64 0):=by rcases hm with⟨h,_⟩|⟨_,h⟩;cases h;exact h
 have B6:=hid (B5.out.trans (hb.mono B5.out.size));have S6:=hid (S5.out.below hb);have C6:=hid hc;clear hb hm hc B5 S5 T5 E5 M2;obtain⟨k0,k1,k2,k3,k4,k5,k6,k7,k8,k9,k10⟩:=S6.out.cells;go_wp21;clear k0 k1 k2 k3 k4 k5 k6 k7 k8 k9 k10;refine(RU.out w6 B6.out).mono ?_;rintro e w7 ⟨pr,nr,cr,rfl,hb,lr⟩;have B7:=hid (B6.out.trans (hb.mono B6.out.size));have C7:=hid ((zac hb).cell C6.out);have L7:=hid lr;clear hb lr B6 S6 C6 RU;obtain⟨v8,hv⟩:=zzX (w7.alloc (.cells #[.int .i64 0] 3));obtain⟨b8,A8⟩:=zdn hv;have B8:=hid (B7.out.trans (b8.mono B7.out.size));have L8:=hid (L7.out.below b8);have EI:=hid (z9w g w7.heap.size c2 v8 ((zac b8).cell C7.out) (by rw[zJ A8];rfl));have HV:=hid hv.symm;clear hv b8 A8 B7 C7 L7;go_wp21;rw[HV.out];clear HV;refine zzM EI.out λw9 hb=>?_;have B9:=hid (B8.out.trans (hb.mono B8.out.size));have L9:=hid (L8.out.below hb);clear hb B8 L8 EI;obtain⟨v10,hv⟩:=zzX (w9.alloc (.cells #[.string ⟨#[50,53,48,48]⟩,.string ⟨#[49]⟩] 49));obtain⟨b10,A10⟩:=zdn hv;have B10:=hid (B9.out.trans (b10.mono B9.out.size));have HE:=hid (EQ.out v10 _ _ B10.out (L9.out.below b10) A10);have HV:=hid hv.symm;clear hv b10 A10 B9 L9 EQ;go_wp21;rw[HV.out];clear HV;refine zzM HE.out λw11 hb=>?_;have B11:=hid (B10.out.trans (hb.mono B10.out.size));clear hb B10 HE;go_wp21;go_ret;exact⟨rfl,B11.out⟩
def spX:Mrat:=⟨1,0, -1,0,0,0,1500,2000,1,50,100⟩
theorem yaf:spX.m=spM:=by
 have e:∀n:Int,nB (n:Rat)=⟨(itoa n).toArray⟩:=λn=>by show ByteArray.mk (numS (n:Rat)).toArray=_;rw[zha]
 have e0:nB 0=⟨#[48]⟩:=by rw[show(0:Rat)=((0:Int):Rat) from rfl,e];decide+kernel
 have e1:nB 1500=⟨#[49,53,48,48]⟩:=by rw[show(1500:Rat)=((1500:Int):Rat) from rfl,e];decide+kernel
 have e2:nB 2000=⟨#[50,48,48,48]⟩:=by rw[show(2000:Rat)=((2000:Int):Rat) from rfl,e];decide+kernel
 have e3:nB 1=⟨#[49]⟩:=by rw[show(1:Rat)=((1:Int):Rat) from rfl,e];decide+kernel
 show Mbr.mk 1 0 (-1) (nB 0) (nB 0) (nB 0) (nB 1500) (nB 2000) (nB 1) 50 100=_;rw[e0,e1,e2,e3]
theorem z2b:spX.q=6250000:=by show((1500:Rat)-0)*(1500-0)+(2000-0)*(2000-0)=6250000;grind
theorem z8h:zn7 6250000=(2500,1):=by decide+kernel
theorem yb2:lenL spX.q=[(2500,1)]:=by
 rw[z2b];unfold lenL rtC rtR;rw[if_neg (by decide),show(6250000:Rat).num.natAbs*(6250000:Rat).den=6250000 by decide+kernel,z8h];rw[show((2500:Nat):Rat)/(((6250000:Rat).den:Nat):Rat)=2500 by decide+kernel]
def spA (sp:Int):Nat:=alw (λ_=>⟨50,100,400,1000,2500⟩) 1 50 100 sp 1000
theorem ycg:spA 400=2500:=by decide+kernel
theorem ych:spA 401=0:=by decide+kernel
theorem ycj:zD 1=[49]:=by rw[zae (by omega)];rfl
theorem z9x (w:zA) (hw:Hw w):qJ 7 #[] w (.bool true):=by
 have z:∀n:Nat,n<10^4->sz (n:Rat) 4:=λn h=>szN (by omega) h;have z0:sz 0 4:=z 0 (by omega);have z1:sz 1 4:=z 1 (by omega);have z15:sz 1500 4:=z 1500 (by omega);have z20:sz 2000 4:=z 2000 (by omega);have q0:sz (1500-0) 4:=by rw[show(1500:Rat)-0=1500 by grind];exact z15
 have q1:sz (2000-0) 4:=by rw[show(2000:Rat)-0=2000 by grind];exact z20
 have ok:MOk spX:=⟨by decide,by decide,by decide,by decide,by decide,λh=>absurd h.1 (by decide),⟨z0.mono (by omega),z0.mono (by omega),z0.mono (by omega)⟩,⟨z15.mono (by omega),z20.mono (by omega),z1.mono (by omega)⟩⟩;have me:MMe spX:=⟨by decide,by decide,by decide,⟨z0.mono (by omega),z0.mono (by omega),z0.mono (by omega)⟩,⟨z15.mono (by omega),z20.mono (by omega),z1.mono (by omega)⟩,q0.mono (by omega),q1.mono (by omega)⟩;have MM:∀(sp:Int) (R:Bool),secB 1 1 sp 1000=true->refB spX.q (spA sp)=R->∀(W:zA) (A b:Nat),qL w W->W.heap[A]? =some (.cells #[.int .i64 50,.int .i64 100,.int .i64 400,.int .i64 1000,.int .i64 2500] 55 (0,0))->MbS spM b W->
  zC zF 10 #[.slice (some ⟨b,0,none⟩) 1 1,.slice (some ⟨A,0,none⟩) 1 1,.int .i64 sp,.int .i64 1000] W λe w'=>∃p' n' c',e=.returned (.tuple #[.slice p' n' c',.int .i64 0])/\zB W.heap.size W w'/\MemO R p' n' c' w':=λsp R hs hR W A b hW hA hm=>by
  rw[<-hR];refine zr3 spX me (hw.below hW).wd (q:=λ_=>⟨50,100,400,1000,2500⟩) ⟨by omega,?_,?_,?_⟩ 1 sp 1000 hs b 1 (by rw[yaf];exact hm)
  ·intro i hi
   refine⟨show AlR.ok ⟨50,100,400,1000,2500⟩=true by decide,?_⟩
   first|omega|(intros;omega)
  ·intro i hi
   obtain rfl:i=0:=by omega
   refine⟨A,0,rfl,?_⟩;rw[zJ hA,zJ hA,zJ hA,zJ hA,zJ hA];exact⟨rfl,rfl,rfl,rfl,rfl⟩
  ·intro b off e
   injection e with e;injection e with e1;rw[<-e1];exact(Array.getElem?_eq_some_iff.1 hA).1
 refine z60 w (hid (MM 400 false (by decide) (by rw[ycg,z2b];decide+kernel))) (hid (MM 401 true (by decide) (by rw[ych];rfl))) (hid λW hW=>?_) (hid λW v1 b hW l1 hb=>?_)
 ·have h:=z27 spX ok (q0.mono (by omega)) (q1.mono (by omega)) (by rw[z2b];exact(z 0 (by omega))|> λ_=>⟨by decide+kernel,by decide+kernel⟩) (by rw[z2b];exact .inr (by unfold rtC rtR;rw[show(6250000:Rat).num.natAbs*(6250000:Rat).den=6250000 by decide+kernel,z8h];exact⟨⟨by decide+kernel,by decide+kernel⟩,by decide+kernel⟩)) W (hw.below hW)
  rw[yb2,yaf] at h;exact h
 ·refine eq_l v1 _ [(2500,1)] (by decide) W l1 ?_
  have c:=λo u (hu:(#[.string ⟨#[50,53,48,48]⟩,.string ⟨#[49]⟩]:Array Value)[o]? =some u)=>(show W.cell? ⟨b,o,none⟩=some u by rw[zJ hb];exact hu);refine zf4 (zN _) ((c 0 _ rfl).trans ?_) ((c 1 _ rfl).trans (by rw[ycj];rfl));rw[show(2500:Rat)=((2500:Int):Rat) from rfl,zha,show itoa 2500=[50,53,48,48] by decide+kernel];rfl
end
section
open Go.RowKit Go.Shelf Lib Str Limb Geo
theorem z4i (l:List UInt8) (w:zA):zC zF 6 #[St l] w (BoolP w (l.length<=12)):=by
 obtain⟨d,hd⟩:=zzX (⟨l.toArray⟩:ByteArray);have hs:(l.length<=12)=((d.size:Int)<=12):=by rw[hd];show _=((l.toArray.size:Int)<=12);simp;omega
 rw[hs,show St l=.string d by rw[hd]];clear hd hs;by_cases h:(d.size:Int)<=12
 ·have h2:decide (12<(d.size:Int))=false:=decide_eq_false (by omega)
  have H:=hid h;clear h;go_enter Tryz.func6,Tryz.ntmps6;go_wp21;go_ret;exact .yes H.out (zM _ _)
 ·have h2:decide (12<(d.size:Int))=true:=decide_eq_true (by omega)
  have H:=hid h;clear h;go_enter Tryz.func6,Tryz.ntmps6;go_wp21;go_ret;exact .no (by have:=H.out;omega) (zM _ _)
theorem z3r (m:Mbr) (D:ByteArray) (W:zA) (b:Nat) (hW:Wd W) (hb:W.heap[b]? =some (.cells #[.string m.a0,.string m.a1,.string m.a2,.string m.b0,.string m.b1,.string m.b2,.string D] 23 (0,0))):
 zC zF 5 #[.slice (some ⟨b,0,none⟩) 7 7,.func (.func 6) #[] #[]] W λe w'=>∃c:Bool,e=.returned (.bool c)/\(c=false->m.short/\D.size<=12)/\zB W.heap.size W w':=by
 have hs:∀x:ByteArray,Value.string x=St x.toList:=λx=>by show _=Value.string ⟨x.toList.toArray⟩;rw[zk9]
 rw[hs m.a0,hs m.a1,hs m.a2,hs m.b0,hs m.b1,hs m.b2,hs D] at hb;refine(zpz 6 (some ⟨b,0,none⟩) 7 7 _ W (hid (zr8 6 (enters_of Tryz.func6 (by kernel_rfl) rfl) (some ⟨b,0,none⟩) 7 7 [m.a0.toList,m.a1.toList,m.a2.toList,m.b0.toList,m.b1.toList,m.b2.toList,D.toList] rfl (by omega) _ (hid λi _ V _=>z4i _ V) W (hid hW) (hid λi hi=>?_)))).mono λe w' ⟨r,h1,h2,h3⟩=>⟨r,h1,λh=>?_,h3⟩
 ·refine⟨b,0,rfl,?_⟩
  rw[zJ hb]
  match i,hi with
  |0,_|1,_|2,_|3,_|4,_|5,_|6,_=>rfl
 ·have g:=h2.1 h
  have g':∀x:ByteArray,x.toList.length<=12->x.size<=12:=λx h=>by rw[zon] at h;exact h
  exact⟨⟨g' _ (g 0 (by omega)),g' _ (g 1 (by omega)),g' _ (g 2 (by omega)),g' _ (g 3 (by omega)),g' _ (g 4 (by omega)),g' _ (g 5 (by omega))⟩,g' _ (g 6 (by omega))⟩
theorem zi2 {p q:Rat} (h:nB p=nB q):p=q:=zsd (by rw[h];exact beq_self_eq_true _)
theorem Mrat.inj {x y:Mrat} (h:x.m=y.m):x=y:=by
 cases x;cases y;simp only[Mrat.m,Mbr.mk.injEq] at h;obtain⟨rfl,rfl,rfl,h1,h2,h3,h4,h5,h6,rfl,rfl⟩:=h;rw[zi2 h1,zi2 h2,zi2 h3,zi2 h4,zi2 h5,zi2 h6]
theorem z8j (p:Option Addr) (cap n:Nat) (q:Nat->AlR) (m:Mbr) (D:ByteArray) (sp ld wd1 dp1 ls:Int) (w:zA) (hw:Hw w) (hr:RowAl p n q w) (hlow:∀b off,p=some ⟨b,off,none⟩->b<w.heap.size)
 (h1:0<=wd1/\wd1<65536) (h2:0<=dp1/\dp1<65536) (h3:0<=ls/\ls<65536):
 qJ 3 #[.slice p n cap,m.v,.int .i64 sp,.int .i64 ld,.int .u16 wd1,.int .u16 dp1,.int .u16 ls,.string D] w (.bool true):=by
 have CT:=λ(hn:n<=12) (W:zA) (hW:qL w W)=>z2j p cap n q (by omega) W (hid (hr.keep hW));have CS:=λ(W:zA) (b:Nat) (hW:qL w W) hb=>z3r m D W b (hw.below hW).wd hb;have AW:=λ(W:zA) (hW:qL w W)=>z9x W (hw.below hW);by_cases hx:∃x:Mrat,x.m=m/\MOk x/\MSh x/\LenK x.q
 ·obtain⟨x,rfl,ok,sh,lk⟩:=hx
  refine zvn p cap n x.m D sp ld wd1 dp1 ls _ _ _ _ (lenL x.q) (alw q n x.wd x.dp sp ld) _ _ (ShE x) (TabO n q) (x.m.short/\D.size<=12) True w h1 h2 h3 (λ_=>⟨ok.wd.1,ok.wd.2,ok.dp.1,ok.dp.2⟩) (hid rfl) (hid rfl) (hid rfl) (hid rfl) (hid AW) (hid CT) (hid CS)
   (hid λhs W hW=>(z3n x.m hs.1 W (hw.below hW).wd).mono λe w' h=>h.imp λp' n' c' ⟨y,e,_,_,_,g⟩=>⟨trivial,by rw[<-Mrat.inj e];exact g⟩)
   (hid λhn ht hc hs _=>ybz x ok sh lk hw ⟨by omega,ht,hr,hlow⟩ cap D hs.2 sp ld wd1 dp1 ls hc h1.1 h2.1 h3.1)
 ·exact zvn p cap n m D sp ld wd1 dp1 ls _ _ _ _ [] 0 true D (λ_ _ _=>True) (TabO n q) (m.short/\D.size<=12) False w h1 h2 h3 (λf=>f.elim) (hid rfl) (hid rfl) (hid rfl) (hid rfl) (hid AW) (hid CT) (hid CS)
   (hid λhs W hW=>(z3n m hs.1 W (hw.below hW).wd).mono λe w' h=>h.imp λp' n' c' ⟨y,e,g1,g2,g3,_⟩=>(hx ⟨y,e,g1,g2,g3⟩).elim)
   (hid λ_ _ _ _ f=>f.elim)
end
section
open Go.RowKit Go.Shelf Lib Str Limb
open Go.ChangeShapes Go.WideShapes Go.ChangeAt
theorem ya7 {H:Type} {enc:TypeId×Value->H} {W:zA} {base fuel:Nat} {sp:Nat->Bool} {held:Bool} {cs:List Value} {x:DataW H×List MemPlace}
 (h:DataW.trod enc zF W base sp held fuel 55 cs=some x) (hl:cs.length=5):∃a:AlR,cs=[.int .i64 a.w,.int .i64 a.d,.int .i64 a.s,.int .i64 a.l,.int .i64 a.n]:=by
 obtain⟨xs,n,_,rfl, -,hlen,hf⟩:=DataW.trod_struct Tryz.underlying55 h;have hi:Tryz.prog.cellsOf 3=1:=by kernel_rfl
 match xs,hlen,cs,hl with
 |[y0,y1,y2,y3,y4],_,[c0,c1,c2,c3,c4],_=>
  obtain⟨n0,e0,_,_⟩:=DataW.trod_int Tryz.underlying3 (by simpa using hf 0 _ rfl);obtain⟨n1,e1,_,_⟩:=DataW.trod_int Tryz.underlying3 (by simpa using hf 1 _ rfl);obtain⟨n2,e2,_,_⟩:=DataW.trod_int Tryz.underlying3 (by simpa using hf 2 _ rfl);obtain⟨n3,e3,_,_⟩:=DataW.trod_int Tryz.underlying3 (by simpa using hf 3 _ rfl);obtain⟨n4,e4,_,_⟩:=DataW.trod_int Tryz.underlying3 (by simpa using hf 4 _ rfl);rw[hi] at e0 e1 e2 e3 e4;have k0:c0=.int .i64 n0:=by simpa using e0
  have k1:c1=.int .i64 n1:=by simpa using e1
  have k2:c2=.int .i64 n2:=by simpa using e2
  have k3:c3=.int .i64 n3:=by simpa using e3
  have k4:c4=.int .i64 n4:=by simpa using e4
  exact⟨⟨n0,n1,n2,n3,n4⟩,by rw[k0,k1,k2,k3,k4]⟩
theorem z9y {H:Type} {enc:TypeId×Value->H} {W:zA} {base:Nat} {sp:Nat->Bool} {held:Bool} {r:Reach} {b0:Nat} {v:Value} {d:DataW H} {ps:List MemPlace}
 (hval:Value.okWide zF W r b0 22 v) (hd:DataW.Trod enc zF W base sp held 22 v d ps):∃p n c q,v=.slice p n c/\RowAl p n q W/\∀b off,p=some ⟨b,off,none⟩->b<W.heap.size:=by
 obtain⟨a,n,c,rfl⟩:=okWide_slice Tryz.underlying22 hval;obtain⟨fuel,hf⟩:=hd;have hin:∀a' m k,Value.slice a n c=.slice (some a') m k->a'.spot=none/\a'.block<W.heap.size:=λa' m k e=>by
  rw[e] at hval;exact z8l Tryz.underlying22 (by simpa only[Value.okWide,Tryz.underlying22] using hval)
 rcases DataW.trod_slice Tryz.underlying22 hf with⟨hcs,_⟩|⟨a',len,cap,elems,rest,m,_,hcs,_,hb,hl,hm,hlen,hel,_,_⟩
 ·have e:Value.slice a n c=.slice none 0 0:=by simpa [Value.cells] using hcs
  injection e with e1 e2 e3;exact⟨none,0,0,λ_=>⟨0,0,0,0,0⟩,by rw[e1,e2,e3],λi hi=>by omega,λb off e=>by cases e⟩
 have e:Value.slice a n c=.slice (some a') len cap:=by simpa [Value.cells] using hcs
 obtain⟨hsp,hbl⟩:=hin a' len cap e;rw[show Tryz.prog.cellsOf 55=5 by kernel_rfl] at hel;obtain⟨b,off,spot⟩:=a';have hspot:spot=none:=hsp;subst hspot;have each:∀i,i<len->∃x:AlR,W.cell? ⟨b,off+i*5,none⟩=some (.int .i64 x.w)/\W.cell? ⟨b,off+i*5+1,none⟩=some (.int .i64 x.d)/\W.cell? ⟨b,off+i*5+2,none⟩=some (.int .i64 x.s)/\W.cell? ⟨b,off+i*5+3,none⟩=some (.int .i64 x.l)/\W.cell? ⟨b,off+i*5+4,none⟩=some (.int .i64 x.n):=by
  intro i hi;have h1:=hel i hi;rw[yB (by omega),Option.bind_eq_some_iff] at h1;obtain⟨cs,hcs,htr⟩:=h1;obtain⟨_,hcl,hce⟩:=World.cells?_some hcs;obtain⟨x,hx⟩:=ya7 htr hcl;subst hx;have ap:∀k,(⟨b,off,none⟩:Addr).add k=⟨b,off+k,none⟩:=λk=>by unfold Addr.add;split<;>simp_all
  simp only[ap] at hce;have g:=λj (hj:j<5)=>hce j hj;refine⟨x,?_,?_,?_,?_,?_⟩
  ·simpa [Addr.add] using g 0 (by omega)
  ·simpa [Addr.add] using g 1 (by omega)
  ·simpa [Addr.add] using g 2 (by omega)
  ·simpa [Addr.add] using g 3 (by omega)
  ·simpa [Addr.add] using g 4 (by omega)
 obtain⟨l,hll,hP⟩:=z4k _ len each;refine⟨some ⟨b,off,none⟩,len,cap,λi=>l[i]?.getD ⟨0,0,0,0,0⟩,e,λi hi=>?_,λb' off' e=>by injection e with e;injection e with e1;rw[<-e1];exact hbl⟩;have hi':i<l.length:=by omega
 refine⟨b,off,rfl,?_⟩;simp only[yB hi',Option.getD_some];exact hP i hi'
theorem zvs {H:Type} {enc:TypeId×Value->H} {W:zA} {base fuel:Nat} {sp:Nat->Bool} {held:Bool} {c0 c1 c2:Value} {x:DataW H×List MemPlace}
 (h:DataW.trod enc zF W base sp held fuel 25 [c0,c1,c2]=some x):∃s0 s1 s2:ByteArray,c0=.string s0/\c1=.string s1/\c2=.string s2:=by
 obtain⟨y0,y1,y2,n,_,h0,h1,h2⟩:=z5r Tryz.underlying25 h;obtain⟨s0,e0,_,_⟩:=DataW.trod_string Tryz.underlying23 h0;obtain⟨s1,e1,_,_⟩:=DataW.trod_string Tryz.underlying23 h1;obtain⟨s2,e2,_,_⟩:=DataW.trod_string Tryz.underlying23 h2;rw[show Tryz.prog.cellsOf 23=1 by kernel_rfl] at e0 e1 e2;exact⟨s0,s1,s2,by simpa using e0,by simpa using e1,by simpa using e2⟩
theorem z4j {H:Type} {enc:TypeId×Value->H} {W:zA} {base:Nat} {sp:Nat->Bool} {held:Bool} {r:Reach} {b0:Nat} {v:Value} {d:DataW H} {ps:List MemPlace}
 (hval:Value.okWide zF W r b0 27 v) (hd:DataW.Trod enc zF W base sp held 27 v d ps):∃m:Mbr,v=m.v:=by
 obtain⟨cs,rfl,hs⟩:=okWide_struct Tryz.underlying27 hval;rw[show Tryz.prog.cellsOf 27=11 by kernel_rfl] at hs;obtain⟨fuel,hf⟩:=hd;obtain⟨xs,n,_,_, -,hlen,hf⟩:=DataW.trod_struct Tryz.underlying27 hf;have hi:Tryz.prog.cellsOf 3=1:=by kernel_rfl
 have hs3:Tryz.prog.cellsOf 25=3:=by kernel_rfl
 obtain⟨l⟩:=cs
 match xs,hlen,l,hs with
 |[y0,y1,y2,y3,y4,y5,y6],_,[c0,c1,c2,c3,c4,c5,c6,c7,c8,c9,c10],_=>
  obtain⟨n0,e0,_,_⟩:=DataW.trod_int Tryz.underlying3 (by simpa using hf 0 _ rfl);obtain⟨n1,e1,_,_⟩:=DataW.trod_int Tryz.underlying3 (by simpa using hf 1 _ rfl);obtain⟨n2,e2,_,_⟩:=DataW.trod_int Tryz.underlying3 (by simpa using hf 2 _ rfl);obtain⟨a0,a1,a2,k3,k4,k5⟩:=zvs (c0:=c3) (c1:=c4) (c2:=c5) (by simpa [hs3,Value.cells] using hf 3 _ rfl);obtain⟨b0,b1,b2,k6,k7,k8⟩:=zvs (c0:=c6) (c1:=c7) (c2:=c8) (by simpa [hs3,Value.cells] using hf 4 _ rfl);obtain⟨n5,e5,_,_⟩:=DataW.trod_int Tryz.underlying3 (by simpa using hf 5 _ rfl);obtain⟨n6,e6,_,_⟩:=DataW.trod_int Tryz.underlying3 (by simpa using hf 6 _ rfl);rw[hi] at e0 e1 e2 e5 e6;have k0:c0=.int .i64 n0:=by simpa [Value.cells] using e0
  have k1:c1=.int .i64 n1:=by simpa [Value.cells] using e1
  have k2:c2=.int .i64 n2:=by simpa [Value.cells] using e2
  have k9:c9=.int .i64 n5:=by simpa [Value.cells] using e5
  have k10:c10=.int .i64 n6:=by simpa [Value.cells] using e6
  exact⟨⟨n0,n1,n2,a0,a1,a2,b0,b1,b2,n5,n6⟩,by rw[k0,k1,k2,k3,k4,k5,k6,k7,k8,k9,k10];rfl⟩
theorem zr4 {H:Type} {enc:TypeId×Value->H} {W:zA} {base:Nat} {sp:Nat->Bool} {held:Bool} {v:Value} {d:DataW H} {ps:List MemPlace} {r:Reach} {b0:Nat}
 (hval:Value.okWide zF W r b0 28 v) (hd:DataW.Trod enc zF W base sp held 28 v d ps):∃n:Int,(0<=n/\n<65536)/\v=.int .u16 n/\ps=[]:=by
 obtain⟨n,rfl⟩:=okWide_int Tryz.underlying28 hval;obtain⟨fuel,hf⟩:=hd;obtain⟨m,e,hx,hw⟩:=DataW.trod_int Tryz.underlying28 hf;have hm:n=m:=by simpa [Value.cells] using e
 subst hm;simp[Lit.wf,IntKind.min,IntKind.max,IntKind.signed,IntKind.bits] at hw;simp only[Prod.mk.injEq] at hx;exact⟨n,by omega,rfl,hx.2⟩
theorem z90 {H:Type} {enc:TypeId×Value->H} {W:zA} {base:Nat} {sp:Nat->Bool} {held:Bool} {v:Value} {d:DataW H} {ps:List MemPlace} {r:Reach} {b0:Nat}
 (hval:Value.okWide zF W r b0 23 v) (hd:DataW.Trod enc zF W base sp held 23 v d ps):∃s:ByteArray,v=.string s:=by
 obtain⟨fuel,hf⟩:=hd;obtain⟨s,e,_,_⟩:=DataW.trod_string Tryz.underlying23 hf;obtain⟨s',rfl⟩:=okWide_string Tryz.underlying23 hval;exact⟨s',rfl⟩
theorem zx2 (os:Os) (started:os.Started) (H:Type) (enc:TypeId×Value->H):
 ReturnsInHanded {} Tryz.checked os 3 .any (λw args=>(Rows.topSpansSpec.pre enc zF Tryz.f3 [] false w args/\laidMetH zF Rows.topSpansRow.laid w)/\sizedMet enc zF Tryz.f3 (OpenSpec.ofChange Rows.topSpansSpec) false w args)
  (Rows.topSpansSpec.post enc zF Tryz.f3 false true false false):=by
 refine zf9 (C:=Tryz.checked) (X:=λw _=>laidMetH zF Rows.topSpansRow.laid w) (λ_ _ _ hh h=>h.of_heap hh) zrj started (by kernel_rfl) Tryz.func3
  (ChangeSpec.witness_shaped (enc:=enc) (C:=Tryz.checked) (os:=os) (X:=λw _=>laidMetH zF Rows.topSpansRow.laid w) false (World.laidAll zF os Rows.topSpansRow.laid)
    #[.slice none 0 0,.agg #[.int .i64 0,.int .i64 0,.int .i64 0,.string ⟨#[]⟩,.string ⟨#[]⟩,.string ⟨#[]⟩,.string ⟨#[]⟩,.string ⟨#[]⟩,.string ⟨#[]⟩,.int .i64 0,.int .i64 0],.int .i64 0,.int .i64 0,.int .u16 0,.int .u16 0,.int .u16 0,.string ⟨#[]⟩] 8 (World.laidAll_os _ _ _)
    (World.shaped_of_ZipB (by kernel_rfl) (by kernel_rfl)) (by kernel_rfl) (by kernel_rfl) (by kernel_rfl)
    (by rw[MakeChecks.laidMetH_plain _ _ _ (by kernel_rfl)];exact laidMet_laidAll _ (by kernel_rfl) (by kernel_rfl))) ?_
 intro W args ds gs before base hval0 hW hL hsh;have hval:∀(j:Nat) t v,Tryz.f3.params[j]? =some t->args[j]? =some v->Value.okWide zF W .any base t v:=hval0;have hW':=hW;obtain⟨p,q,hA0,hV,rfl,_,_⟩:=hW;have hA:DataW.TrodAll enc zF W 0 (λ_=>true) true Tryz.f3.params.toList args.toList ds p:=hA0;rw[Tryz.params3] at hA hval;obtain⟨v0,vs0,d0,ds0,p0,q0,e0,rfl,rfl,h0,hA⟩:=trodAll_cons hA;obtain⟨v1,vs1,d1,ds1,p1,q1,rfl,rfl,rfl,h1,hA⟩:=trodAll_cons hA;obtain⟨v2,vs2,d2,ds2,p2,q2,rfl,rfl,rfl,h2,hA⟩:=trodAll_cons hA;obtain⟨v3,vs3,d3,ds3,p3,q3,rfl,rfl,rfl,h3,hA⟩:=trodAll_cons hA;obtain⟨v4,vs4,d4,ds4,p4,q4,rfl,rfl,rfl,h4,hA⟩:=trodAll_cons hA;obtain⟨v5,vs5,d5,ds5,p5,q5,rfl,rfl,rfl,h5,hA⟩:=trodAll_cons hA;obtain⟨v6,vs6,d6,ds6,p6,q6,rfl,rfl,rfl,h6,hA⟩:=trodAll_cons hA;obtain⟨v7,vs7,d7,ds7,p7,q7,rfl,rfl,rfl,h7,hA⟩:=trodAll_cons hA;obtain⟨rfl,rfl,rfl⟩:=trodAll_nil hA;obtain rfl:args= #[v0,v1,v2,v3,v4,v5,v6,v7]:=by cases args;simp_all
 obtain⟨rfl,rfl⟩:=trodVars_none hV;simp only[List.append_nil] at hW';have hlt:∀x∈p0++(p1++(p2++(p3++(p4++(p5++(p6++p7)))))),x.block<W.heap.size:=λx hx=>by simpa using hW'.lt x (by simpa using hx)
 have k0:=h0;have k1:=h1;have k2:=h2;have k3:=h3;have k4:=h4;have k5:=h5;have k6:=h6;have k7:=h7;obtain⟨p,n,cap,q,rfl,hr,hlow⟩:=z9y (hval 0 22 v0 rfl rfl) h0;obtain⟨m,rfl⟩:=z4j (hval 1 27 v1 rfl rfl) h1;obtain⟨sp,rfl⟩:=okWide_int Tryz.underlying3 (hval 2 3 v2 rfl rfl);obtain⟨ld,rfl⟩:=okWide_int Tryz.underlying3 (hval 3 3 v3 rfl rfl);obtain⟨x4,g4,rfl, -⟩:=zr4 (hval 4 28 v4 rfl rfl) h4;obtain⟨x5,g5,rfl, -⟩:=zr4 (hval 5 28 v5 rfl rfl) h5;obtain⟨x6,g6,rfl, -⟩:=zr4 (hval 6 28 v6 rfl rfl) h6;obtain⟨D,rfl⟩:=z90 (hval 7 23 v7 rfl rfl) h7;have hM:laidMet zF Rows.topSpansRow.laid W:=by rw[<-MakeChecks.laidMetH_plain _ _ _ (by kernel_rfl)];exact hL
 have hwd:Wd W:=z0v hM (.tail _ (.tail _ (.head _))) hsh;have hpw:Pw W:=z0w hM (.tail _ (.tail _ (.tail _ (.tail _ (.tail _ (.tail _ (.head _)))))));have hsw:Spw W:=z80 hM (.tail _ (.tail _ (.tail _ (.tail _ (.tail _ (.tail _ (.tail _ (.head _))))))));refine(z8j p cap n q m D sp ld x4 x5 x6 W ⟨hwd,hpw,hsw⟩ hr hlow g4 g5 g6).mono λe W' ⟨he,hb⟩=>?_;subst he;have t0:=Below.trod zgh (by kernel_rfl) (of_decide_eq_true (by kernel_rfl)) k0 hb (λx hx=>hlt x (by simp[hx]));have t1:=Below.trod zgh (by kernel_rfl) (of_decide_eq_true (by kernel_rfl)) k1 hb (λx hx=>hlt x (by simp[hx]));have t2:=Below.trod zgh (by kernel_rfl) (of_decide_eq_true (by kernel_rfl)) k2 hb (λx hx=>hlt x (by simp[hx]));have t3:=Below.trod zgh (by kernel_rfl) (of_decide_eq_true (by kernel_rfl)) k3 hb (λx hx=>hlt x (by simp[hx]));have t4:=Below.trod zgh (by kernel_rfl) (of_decide_eq_true (by kernel_rfl)) k4 hb (λx hx=>hlt x (by simp[hx]));have t5:=Below.trod zgh (by kernel_rfl) (of_decide_eq_true (by kernel_rfl)) k5 hb (λx hx=>hlt x (by simp[hx]));have t6:=Below.trod zgh (by kernel_rfl) (of_decide_eq_true (by kernel_rfl)) k6 hb (λx hx=>hlt x (by simp[hx]));have t7:=Below.trod zgh (by kernel_rfl) (of_decide_eq_true (by kernel_rfl)) k7 hb (λx hx=>hlt x (by simp[hx]));exact⟨_,rfl,_,_,_,[],_,[],hW',trodAll_mk1 (shut_bool Tryz.underlying4 _),trodAll_cons_mk t0 (trodAll_cons_mk t1 (trodAll_cons_mk t2 (trodAll_cons_mk t3 (trodAll_mk4 t4 t5 t6 t7)))),rfl,hb.frame _,λh=>by cases h⟩
theorem ya8:mapsRowed zF=true:=by kernel_rfl
theorem yb3:namedTie zF Rows.topSpansRow.named Rows.topSpansSpec.vars=true:=by kernel_rfl
theorem z93:(Rows.topSpansRow.inPlace==Tryz.prog.inPlace 3)=true:=by kernel_rfl
theorem yb4:(Rows.topSpansRow.unfollowed==Tryz.prog.unfollowed 3)=true:=by kernel_rfl
theorem yb5:(Rows.topSpansRow.recurses==Tryz.prog.recurses 3)=true:=by kernel_rfl
theorem z99:(Rows.topSpansRow.named==Tryz.prog.varsNamed 3)=true:=by kernel_rfl
theorem yaa:Tryz.prog.stopsHeard=true:=by kernel_rfl
theorem yab:Tryz.prog.mayEnter=true:=by kernel_rfl
theorem z8k:(Rows.topSpansRow.lifted==Tryz.prog.liftsFinal)=true:=by kernel_rfl
theorem ya9:(Tryz.prog.make==some Rows.topSpansRow.make)=true:=by kernel_rfl
theorem yba:(Rows.topSpansRow.plainKeys==Tryz.prog.plainKeys)=true:=by kernel_rfl
theorem ybb:Tryz.pinned.checked.prog.funcNamed Rows.topSpansRow.func=some 3:=by kernel_rfl
theorem yb6:joinedFacts zF 3 Tryz.f3 Rows.topSpansSpec Rows.topSpansRow=true:=by
 unfold joinedFacts;simp only[Bool.and_eq_true]
 repeat' apply And.intro
 all_goals first|with_reducible exact zgh|with_reducible exact ya8|with_reducible exact yb3|with_reducible exact z93|with_reducible exact yb4|with_reducible exact yb5|with_reducible exact z99|with_reducible exact yaa|with_reducible exact yab|with_reducible exact z8k|with_reducible exact ya9|with_reducible exact yba|kernel_rfl
theorem z3s:Rows.TopSpansSaid:=
 OpenClaim.holds_of_wide 3 Tryz.f3 rfl rfl rfl rfl rfl rfl rfl ⟨rfl,rfl,rfl,rfl,rfl⟩ rfl rfl rfl rfl rfl ybb Tryz.func3 yb6
  (of_decide_eq_true (by kernel_rfl)) (by unfold Func.isWrapper;first|(rw[if_pos (by decide+kernel)];kernel_rfl)|(rw[if_neg (by decide+kernel)];exact⟨rfl,rfl⟩))
  (λos started H enc _=>zx2 os started H enc)
end
end Go.Proofs.YtfoodcpnnmonhaaGreatDoor
