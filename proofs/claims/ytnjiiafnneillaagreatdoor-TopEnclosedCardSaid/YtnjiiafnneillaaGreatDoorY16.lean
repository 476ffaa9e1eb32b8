/- kingposttop.top05Surd: kingpostref04.Check of surds of up to two terms with numbers of up to 10 bytes. -/
import Derived.Test.YtnjiiafnneillaaGreatDoorY15
import Derived.LaidByTextLater
set_option maxRecDepth 100000
set_option maxHeartbeats 8000000
open Go renaming World → zA, Calls → zC
open Go.Lib renaming decDigits → zD, itoa → zE
open Go.Proofs.Tryz renaming prog → zF
open Go.World renaming alloc_heap_new → zG
open Go.Joins renaming cell_of_block → zJ
open Go.RowKit renaming intOf → zL
open Go.RowKit.Below renaming refl → zM
open Nat renaming le_refl → zN, le_trans → zO
open List renaming getElem?_eq_getElem → yB, mem_cons_self → yD
namespace Go.Proofs.YtnjiiafnneillaaGreatDoor
section
open Go.RowKit Go.Shelf Lib Str Limb Geo
attribute [local go_sem] Oper.semAt_some
def GoX (x y:List UInt8) (c:Rat) (r:Nat):Prop:=x=numS c/\sz c 10/\y=zD r/\r<10^10/\TrmR c r
theorem z9v (x y:List UInt8) (P1 P2:Prop) (hno:¬(P1/\P2))
 (C1:Hid (∀W:zA,Wd W->zC zF 86 #[St x] W λe w'=>∃r:Int,e=.returned (.int .i64 r)/\(r=0↔P1)/\Below W.heap.size W w'))
 (C2:Hid (∀W:zA,Wd W->zC zF 86 #[St y] W λe w'=>∃r:Int,e=.returned (.int .i64 r)/\(r=0↔P2)/\Below W.heap.size W w'))
 (G:Prop) (w:zA) (HW:Hid (Wd w)):
 zC zF 126 #[.agg #[St x,St y]] w (ErrP w G):=by
 obtain⟨s,hs⟩:=zzX (⟨x.toArray⟩:ByteArray);obtain⟨t,ht⟩:=zzX (⟨y.toArray⟩:ByteArray);rw[show St x=.string s by rw[hs],show St y=.string t by rw[ht]] at*
 obtain⟨W0,hW0⟩:=zzX (w.alloc (.cells #[.string s,.string t] 37));have K0:=hid (show BxT w s t W0 by rw[hW0];exact BxT.start w s t);obtain⟨c0,c1⟩:=K0.out.cx;rw[hW0] at c0 c1;have H9:=hid hW0.symm;have HNO:=hid hno;clear hW0 hs ht hno;go_enter Tryz.func126,Tryz.ntmps126;go_wp21;rw[H9.out];clear c0 c1 H9;refine(C1.out W0 (HW.out.below K0.out.bel)).mono ?_;rintro e w1 ⟨r,rfl,hr,hb1⟩;have K1:=hid (K0.out.next hb1);have HR:=hid hr;clear hb1 hr K0 C1;by_cases h0:r=0
 ·subst h0
  have HP1:=hid (HR.out.1 rfl);obtain⟨c0,c1⟩:=K1.out.cx;go_wp21;clear c0 c1;refine(C2.out w1 (HW.out.below K1.out.bel)).mono ?_;rintro e w2 ⟨r,rfl,hr,hb2⟩;have K2:=hid (K1.out.next hb2);have h1:r≠0:=λe=>HNO.out ⟨HP1.out,hr.1 e⟩;have hrb:(r !=0)=true:=by simpa using h1
  have HN:=hid h1;clear hb2 hr K1 C2 h1 HR;go_wp21;go_ret;exact⟨r,rfl,λh=>absurd h HN.out,K2.out.bel⟩
 ·have hrb:(r !=0)=true:=by simpa using h0
  have HN:=hid h0;clear h0 C2 HR;go_wp21;go_ret;exact⟨r,rfl,λh=>absurd h HN.out,K1.out.bel⟩
theorem z12 (x y:List UInt8) (lx:x.length<=10) (ly:y.length<=10) (w:zA) (hw:Wd w):
 zC zF 126 #[.agg #[St x,St y]] w (ErrP w (∃c r,GoX x y c r)):=by
 by_cases h:(∃q,x=numS q/\okQ q)/\(∃q,y=numS q/\okQ q)
 ·obtain⟨⟨c,rfl,hc⟩,q,rfl,hq⟩:=h
  exact z9o 10 (by omega) (by omega) c q hc hq (z31 (by omega) lx) (z31 (by omega) ly) w hw
 ·exact z9v x y _ _ h (hid λW hW=>zt5 x (by omega) W hW) (hid λW hW=>zt5 y (by omega) W hW) _ w (hid hw)
theorem ydg {t:List UInt8×List UInt8} {c:Rat} {r:Nat} (h:GoX t.1 t.2 c r):∃D,[t]=D.map strT/\ShrS D:=by
 obtain⟨h1,h2,h3,h4,h5⟩:=h;refine⟨[(c,r)],by simp[strT,<-h1,<-h3],⟨SdOk.one h5,by simp,λu hu=>?_⟩⟩;simp at hu;subst hu;exact⟨h2,h4⟩
theorem ydh {t u:List UInt8×List UInt8} {c d:Rat} {r s:Nat} (hg:GoX t.1 t.2 c r) (hh:GoX u.1 u.2 d s) (hlt:r<s) (ha:z5c (s:Rat) (r:Rat)=false):∃D,[t,u]=D.map strT/\ShrS D:=by
 obtain⟨h1,h2,h3,h4,h5⟩:=hg;obtain⟨k1,k2,k3,k4,k5⟩:=hh;have pr:(0:Rat)<(r:Rat):=by have:=h5.nr.pos;exact_mod_cast this
 have ps:(0:Rat)<(s:Rat):=by have:=k5.nr.pos;exact_mod_cast this
 refine⟨[(c,r),(d,s)],by simp[strT,<-h1,<-h3,<-k1,<-k3],⟨⟨by simp,λv hv=>?_,λi a b h1 h2=>?_,λi k a b hik h1 h2=>?_⟩,by simp,λv hv=>?_⟩⟩
 ·simp at hv
  rcases hv with rfl|rfl
  ·exact h5
  ·exact k5
 ·match i with
  |0=>simp at h1 h2;subst h1;subst h2;exact hlt
  |i+1=>simp at h2
 ·match i,k with
  |0,0=>exact absurd rfl hik
  |0,1=>simp at h1 h2;subst h1;subst h2;exact ha
  |1,0=>simp at h1 h2;subst h1;subst h2;exact zu9 ps pr ha
  |1,1=>exact absurd rfl hik
  |i+2,_=>simp at h1
  |_,k+2=>simp at h2
 ·simp at hv
  rcases hv with rfl|rfl
  ·exact⟨h2,h4⟩
  ·exact⟨k2,k4⟩
theorem z8h (v:Value) (l:List (List UInt8×List UInt8)) (hl:l.length<=2) (h10:∀t∈l,t.1.length<=10/\t.2.length<=10) (w:zA) (hw:Wd w) (hv:SdT v l w):
 zC zF 58 #[v] w (ErrP w (∃D,l=D.map strT/\ShrS D)):=by
 obtain⟨p,cap,rfl,hc,hx⟩:=hv.slice
 match l,hl,h10,hx with
 |[],_,_,_=>
  exact(z7t p cap w).mono λe w' ⟨r,e1,_,e3⟩=>⟨r,e1,λ_=>⟨[],rfl,SdOk.nil,by simp,λt h=>by cases h⟩,e3⟩
 |[t],_,h10,hx=>
  obtain⟨b,off,rfl,_,d0,d1⟩:=hx 0 t rfl;have hm:=h10 t (yD ..)
  exact(z7u b off cap t.1 t.2 _ (hid λW hW=>z12 t.1 t.2 hm.1 hm.2 W hW) w (hid hw) (hid ⟨by simpa using d0,by simpa using d1⟩)).mono λe w' ⟨r,e1,e2,e3⟩=>⟨r,e1,λh=>by
   obtain⟨c,s,hg⟩:=e2 h;exact ydg hg,e3⟩
 |[t,u],_,h10,hx=>
  obtain⟨b,off,rfl,_,d0,d1⟩:=hx 0 t rfl;obtain⟨b',off',eb,_,k0,k1⟩:=hx 1 u rfl;obtain⟨rfl,rfl⟩:b=b'/\off=off':=by simpa using eb
  have hm:=h10 t (yD ..);have hm2:=h10 u (List.mem_cons_of_mem _ (yD ..));have uniq:∀{x y:List UInt8} {c d:Rat} {r s:Nat},GoX x y c r->GoX x y d s->r=s:=λh1 h2=>by
   have e:=h1.2.2.1.symm.trans h2.2.2.1;rw[<-Str.zad,<-Str.zad] at e;have:=zdo e;omega
  refine(z7v b off cap t.1 t.2 u.1 u.2 (∃c r,GoX t.1 t.2 c r) (∃c r,GoX u.1 u.2 c r) (∀c d r s,GoX t.1 t.2 c r->GoX u.1 u.2 d s->r<s) (∀c d r s,GoX t.1 t.2 c r->GoX u.1 u.2 d s->z5c ((s:Nat):Rat) ((r:Nat):Rat)=false)
   (hid λW hW=>z12 t.1 t.2 hm.1 hm.2 W hW) (hid λW hW=>z12 u.1 u.2 hm2.1 hm2.2 W hW) (hid λh1 h2=>?_) (hid λh1 h2=>?_) w (hid hw) (hid ⟨by simpa using d0,by simpa using d1,by simpa using k0,by simpa using k1⟩)).mono λe w' ⟨r,e1,e2,e3⟩=>⟨r,e1,λh=>?_,e3⟩
  ·obtain⟨c,r,hg⟩:=h1
   obtain⟨d,s,hh⟩:=h2;have a1:=(zgw (show r<10^15 by have:=hg.2.2.2.1;omega)).2.1;have b1:=(zgw (show s<10^15 by have:=hh.2.2.2.1;omega)).2.1;refine⟨cmpR (r:Rat) (s:Rat),λhlt c' d' r' s' hg' hh'=>?_,λW hW=>?_⟩
   ·rw[<-uniq hg hg',<-uniq hh hh']
    have hcc:=zaw (r:Rat) (s:Rat);have:(r:Rat)<(s:Rat):=by grind
    exact_mod_cast this
   ·have:=z29 (r:Rat) (s:Rat) a1 b1 W hW
    rw[zhe,zhe] at this;rw[hg.2.2.1,hh.2.2.1];exact this
  ·obtain⟨c,r,hg⟩:=h1
   obtain⟨d,s,hh⟩:=h2;obtain⟨t0,t1,t2⟩:=ybv r s hg.2.2.2.2.nr hh.2.2.2.2.nr (by have:=hg.2.2.2.1;omega) (by have:=hh.2.2.2.1;omega);refine⟨t0,λhlt c' d' r' s' hg' hh'=>?_,λW hW=>?_⟩
   ·rw[<-uniq hg hg',<-uniq hh hh']
    exact t1 hlt
   ·rw[hg.2.2.1,hh.2.2.1]
    exact t2 W hW
  ·obtain⟨⟨c,r,g1⟩,⟨d,s,g2⟩,g3,g4⟩:=e2 h
   exact ydh g1 g2 (g3 c d r s g1 g2) (g4 c d r s g1 g2)
theorem ya7 (p:Option Addr) (cap n:Nat) (D:Nat->Value) (hD:∀i,i<n->∃q m c,D i=.slice q m c) (hn:n<=5000) (G:Nat->Prop) (w:zA)
 (F:Hid (∀i,i<n->∀W:zA,qL w W->zC zF 55 #[D i] W (z2h W (G i))))
 (HP:Hid (RowSl p n D w)):
 zC zF 124 #[.slice p n cap,.func (.func 55) #[] #[]] w (IdxI w n G):=by
 have D0:=hid (zM w.heap.size w);go_enter Tryz.func124,Tryz.ntmps124;go_wp2;go_loopw [8] (λi wr=>∃(k:Nat),k<=n/\i=.int .i64 (k:Int)/\Hid (∀i,i<k->G i)/\Hid (qL w wr))
  (λi _=>n-(zL i).toNat)
 case atStart=>exact⟨0,Nat.zero_le _,rfl,λi h=>by omega,D0⟩
 case round=>
  clear D0;obtain⟨k,hk,rfl,hG,hB⟩:=hrel;by_cases hlt:k<n
  ·obtain⟨b,off,rfl,c0⟩:=(HP.out.keep (zac hB.out)) k hlt
   have HF:=hid (F.out k hlt wr hB.out);obtain⟨q0,m0,cc,hd⟩:=hD k hlt;rw[hd] at c0 HF;go_wp21;refine HF.out.mono ?_;rintro e w2 ⟨t,rfl,ht,hb2⟩;have hB2:=hid (hB.out.trans (hb2.mono hB.out.size));have HT:=hid ht;clear ht hb2 HF c0;cases t
   ·go_wp21
    go_roundw
    case rel=>exact⟨k+1,by omega,by go_num,λi hi=>(by
     by_cases e:i=k
     ·subst e;exact HT.out (by trivial)
     ·exact hG.out i (by omega)),hB2⟩
    case measure=>simp[zL];omega
   ·go_wp21
    go_ret;exact⟨k,rfl,.inr (by omega),hB2.out⟩
  ·have hkn:k=n:=by omega
   have HK:=hid hkn;clear hkn;go_wp21;go_ret;exact⟨-1,rfl,.inl ⟨rfl,by rw[<-HK.out];exact hG.out⟩,hB.out⟩
theorem z9w (p:Option Addr) (cap n:Nat) (G:Nat->Prop) (w:zA)
 (F:Hid (zC zF 124 #[.slice p n cap,.func (.func 55) #[] #[]] w (IdxI w n G))):
 zC zF 54 #[.slice p n cap,.func (.func 55) #[] #[]] w (z2h w (∀i,i<n->G i)):=by
 go_enter Tryz.func54,Tryz.ntmps54;go_wp21;refine F.out.mono ?_;rintro e w1 ⟨k,rfl,hk,hB⟩;rcases hk with⟨rfl,h⟩|h0
 ·have HN:=hid h;clear h
  go_wp21;go_ret;exact⟨false,rfl,λ_=>HN.out,hB⟩
 ·go_wp21
  go_ret;exact⟨true,rfl,(λh=>by cases h),hB⟩
theorem ya8 (p:Option Addr) (cap n:Nat) (X Y:Nat->List UInt8) (hn:n<=5000) (G:Nat->Prop) (w:zA)
 (F:Hid (∀i,i<n->∀W:zA,qL w W->zC zF 57 #[.agg #[St (X i),St (Y i)]] W (z2h W (G i))))
 (HP:Hid (RowTt p n X Y w)):
 zC zF 125 #[.slice p n cap,.func (.func 57) #[] #[]] w (IdxI w n G):=by
 have D0:=hid (zM w.heap.size w);go_enter Tryz.func125,Tryz.ntmps125;go_wp2;go_loopw [8] (λi wr=>∃(k:Nat),k<=n/\i=.int .i64 (k:Int)/\Hid (∀i,i<k->G i)/\Hid (qL w wr))
  (λi _=>n-(zL i).toNat)
 case atStart=>exact⟨0,Nat.zero_le _,rfl,λi h=>by omega,D0⟩
 case round=>
  clear D0;obtain⟨k,hk,rfl,hG,hB⟩:=hrel;by_cases hlt:k<n
  ·obtain⟨b,off,rfl,c0,c1⟩:=(HP.out.keep (zac hB.out)) k hlt
   have HF:=hid (F.out k hlt wr hB.out);generalize X k=x at*
   generalize Y k=y at*
   go_wp21;refine HF.out.mono ?_;rintro e w2 ⟨t,rfl,ht,hb2⟩;have hB2:=hid (hB.out.trans (hb2.mono hB.out.size));have HT:=hid ht;clear ht hb2 HF c0 c1;cases t
   ·go_wp21
    go_roundw
    case rel=>exact⟨k+1,by omega,by go_num,λi hi=>(by
     by_cases e:i=k
     ·subst e;exact HT.out (by trivial)
     ·exact hG.out i (by omega)),hB2⟩
    case measure=>simp[zL];omega
   ·go_wp21
    go_ret;exact⟨k,rfl,.inr (by omega),hB2.out⟩
  ·have hkn:k=n:=by omega
   have HK:=hid hkn;clear hkn;go_wp21;go_ret;exact⟨-1,rfl,.inl ⟨rfl,by rw[<-HK.out];exact hG.out⟩,hB.out⟩
theorem z9x (p:Option Addr) (cap n:Nat) (G:Nat->Prop) (w:zA)
 (F:Hid (zC zF 125 #[.slice p n cap,.func (.func 57) #[] #[]] w (IdxI w n G))):
 zC zF 56 #[.slice p n cap,.func (.func 57) #[] #[]] w (z2h w (∀i,i<n->G i)):=by
 go_enter Tryz.func56,Tryz.ntmps56;go_wp21;refine F.out.mono ?_;rintro e w1 ⟨k,rfl,hk,hB⟩;rcases hk with⟨rfl,h⟩|h0
 ·have HN:=hid h;clear h
  go_wp21;go_ret;exact⟨false,rfl,λ_=>HN.out,hB⟩
 ·go_wp21
  go_ret;exact⟨true,rfl,(λh=>by cases h),hB⟩
theorem yb9 (x y:List UInt8) (w:zA):zC zF 57 #[.agg #[St x,St y]] w (z2h w (x.length<=10/\y.length<=10)):=by
 obtain⟨v1,hv⟩:=zzX (w.alloc (.cells #[St x,St y] 37));obtain⟨b1,A1⟩:=zdn hv;have k0:v1.cell? ⟨w.heap.size,0,none⟩=some (St x):=by rw[zJ A1];rfl
 have k1:v1.cell? ⟨w.heap.size,1,none⟩=some (St y):=by rw[zJ A1];rfl
 rw[hv] at k0 k1;have B1:=hid b1;have HV:=hid hv.symm;clear hv b1 A1;by_cases h:(10:Int)<max (x.length:Int) (y.length:Int)
 ·have hd:=decide_eq_true h
  clear h;go_enter Tryz.func57,Tryz.ntmps57;go_wp21;go_ret;exact⟨true,rfl,(λh=>by cases h),by rw[HV.out];exact B1.out⟩
 ·have HH:=hid (show x.length<=10/\y.length<=10 by omega)
  have hd:=decide_eq_false h;clear h;go_enter Tryz.func57,Tryz.ntmps57;go_wp21;go_ret;exact⟨false,rfl,λ_=>HH.out,by rw[HV.out];exact B1.out⟩
theorem ydi (v:Value) (l:List (List UInt8×List UInt8)) (w:zA) (hw:Wd w) (hv:SdT v l w):
 zC zF 55 #[v] w (z2h w (∃D,l=D.map strT/\ShrS D)):=by
 obtain⟨p,cap,rfl,hc,hx⟩:=hv.slice;by_cases h2:2<l.length
 ·have hlI:(2:Int)<(l.length:Int):=by omega
  clear h2 hx hv hw;go_enter Tryz.func55,Tryz.ntmps55;go_wp21;go_ret;exact⟨true,rfl,(λh=>by cases h),zM _ _⟩
 ·have hlI:¬(2:Int)<(l.length:Int):=by omega
  have at_:∀i,i<l.length->∃t,l[i]? =some t:=λi hi=>⟨_,yB hi⟩;have hg:∀(i:Nat) (t:List UInt8×List UInt8),l[i]? =some t->l[i]?.getD ([],[])=t:=λi t h=>by rw[h];rfl
  have hr:RowTt p l.length (λi=>(l[i]?.getD ([],[])).1) (λi=>(l[i]?.getD ([],[])).2) w:=λi hi=>by
   obtain⟨t,ht⟩:=at_ i hi;obtain⟨b,off,e,_,c0,c1⟩:=hx i t ht;simp only[hg i t ht];exact⟨b,off,e,c0,c1⟩
  have HC:=hid (z9x p cap l.length _ w (hid (ya8 p cap l.length _ _ (by omega) (λi=>(l[i]?.getD ([],[])).1.length<=10/\(l[i]?.getD ([],[])).2.length<=10) w (hid λi hi W hW=>yb9 _ _ W) (hid hr))))
  have HG:=hid (λh=>⟨by omega,λt ht=>by
   obtain⟨i,hi⟩:=List.mem_iff_getElem?.1 ht;have:=h i (List.getElem?_eq_some_iff.1 hi).1;rw[hg i t hi] at this;exact this⟩:(∀i,i<l.length->(l[i]?.getD ([],[])).1.length<=10/\(l[i]?.getD ([],[])).2.length<=10)->l.length<=2/\∀t∈l,t.1.length<=10/\t.2.length<=10)
  have HK:=hid (λ(h:l.length<=2/\∀t∈l,t.1.length<=10/\t.2.length<=10) (W:zA) (hW:qL w W)=>z8h _ l h.1 h.2 W (hw.below hW) (hv.below hW));clear hr hx hv hw h2 at_ hg;go_enter Tryz.func55,Tryz.ntmps55;go_wp21;refine HC.out.mono ?_;rintro e w1 ⟨b,rfl,hb,hB⟩;have HB:=hid hB;cases b
  ·have HC2:=hid (HK.out (HG.out (hb rfl)) w1 hB)
   clear hb hB HC HK HG;go_wp21;refine HC2.out.mono ?_;rintro e w2 ⟨r,rfl,hr,hb2⟩;have HB2:=qT HB hb2;have HR:=hid hr;clear hb2 hr HC2;by_cases h0:r=0
   ·subst h0
    have HD:=hid (HR.out rfl);go_wp21;go_ret;exact⟨false,rfl,λ_=>HD.out,HB2.out⟩
   ·have hrb:(r !=0)=true:=by simpa using h0
    clear h0 HR;go_wp21;go_ret;exact⟨true,rfl,(λh=>by cases h),HB2.out⟩
  ·clear hb hB HC HK HG
   go_wp21;go_ret;exact⟨true,rfl,(λh=>by cases h),HB.out⟩
theorem z6x (p:Option Addr) (cap n:Nat) (D:Nat->Value) (L:Nat->List (List UInt8×List UInt8)) (hn:n<=5000) (w:zA) (hw:Wd w) (hp:RowSl p n D w) (hD:∀i,i<n->SdT (D i) (L i) w):
 zC zF 13 #[.slice p n cap] w (YesI w (∀i,i<n->∃E,L i=E.map strT/\ShrS E)):=by
 have HC:=hid (z9w p cap n _ w (hid (ya7 p cap n D (λi hi=>(hD i hi).any) hn (λi=>∃E,L i=E.map strT/\ShrS E) w (hid λi hi W hW=>ydi (D i) (L i) W (hw.below hW) ((hD i hi).below hW)) (hid hp))));clear hw hp hD;go_enter Tryz.func13,Tryz.ntmps13;go_wp21;refine HC.out.mono ?_;rintro e w1 ⟨b,rfl,hb,hB⟩;have HN:=hid hb;clear hb;cases b
 ·go_wp21
  go_ret;exact⟨true,rfl,λ_=>HN.out (by trivial),hB⟩
 ·go_wp21
  go_ret;exact⟨false,rfl,(λh=>by cases h),hB⟩
end
section
open Go.RowKit Go.Shelf Lib Str Limb
attribute [local go_sem] Oper.semAt_some
structure Ew (w:zA):Prop where
 wd:Wd w
 pw:Pw w
 sw:Spw w
theorem Ew.below {w w':zA} (h:Ew w) (hb:qL w w'):Ew w':=⟨h.wd.below hb,h.pw.below hb,h.sw.below hb⟩
structure Er (g:Nat) (w:zA):Prop where
 ew:Ew w
 c0:w.cell? ⟨g,0,none⟩=some (St (numS 1))
 c1:w.cell? ⟨g,1,none⟩=some (St (numS 2))
theorem Er.below {g:Nat} {w w':zA} (h:Er g w) (hb:qL w w'):Er g w':=⟨h.ew.below hb,zai hb h.c0,zai hb h.c1⟩
theorem z3k:zD 1=numS 1/\zD 2=numS 2:=⟨by rw[zfc,zae (by omega)];rfl,by rw[nm2,zae (by omega)];rfl⟩
theorem z6z (g cap:Nat) (hc:1<=cap) (W:zA) (h:Er g W):qJ 64 #[.slice (some ⟨g,0,none⟩) 1 cap] W (.int .i64 0):=by
 refine zos (some ⟨g,0,none⟩) cap 1 (λ_=>1) (λ_=>2) (ybk 1 (by decide) zb7.2.1 2 zyl.2) hc W h.ew.wd h.ew.pw λi hi=>?_;obtain rfl:i=0:=by omega
 exact⟨g,0,rfl,h.c0,by show W.cell? ⟨g,1,none⟩=some (St (zD 2));rw[z3k.2];exact h.c1⟩
theorem z60 (a:Rat) (ha:a≠0) (sa:sz a 2) (B d:Nat) (q:Option Addr) (W:zA) (h:Ew W) (ho:W.ownsRow B 37 2 (.slice q 1 d) 1 (zbj (a2L a 1))):qJ 64 #[.slice q 1 d] W (.int .i64 0):=by
 obtain⟨hd,g,rfl, -, -, -,hx⟩:=zpo ho (by omega);obtain⟨c0,c1⟩:=hx 0 _ rfl;refine zos (some ⟨g,0,none⟩) d 1 (λ_=>a) (λ_=>1) ⟨by omega,λi hi=>⟨ha,sa.mono (by omega),zyl.1⟩,λi hi=>by omega,λi k h1 h2=>by omega⟩ hd W h.wd h.pw λi hi=>?_;obtain rfl:i=0:=by omega
 exact⟨g,0,rfl,c0,by show W.cell? ⟨g,1,none⟩=some (St (zD 1));rw[z3k.1];exact c1⟩
theorem yd4 (a:Rat) (ha:a≠0) (sa:sz a 2) (g cap d B:Nat) (q:Option Addr) (hc:1<=cap) (w:zA) (h:Er g w) (ho:w.ownsRow B 37 2 (.slice q 1 d) 1 (zbj (a2L a 1))):
 zC zF 52 #[.slice q 1 d,.slice (some ⟨g,0,none⟩) 1 cap] w λe w'=>∃q' d',e=.returned (.tuple #[.slice q' 2 d',.int .i64 0])/\Below w.heap.size w w'/\∃B',w'.ownsRow B' 37 2 (.slice q' 2 d') 2 (zbj (a2L a 2)):=by
 have hg:g<w.heap.size:=zbe h.c0;have ER:=λ(W:zA) (hb:qL w W)=>h.below hb;have KO:=λ(W:zA) (hb:qL w W)=>zcj (zac hb) ho;obtain⟨-,g1,rfl, -,hg1,hy, -⟩:=zpo ho (by omega);refine z5m (some ⟨g1,0,none⟩) (some ⟨g,0,none⟩) 1 1 d cap 2 2
  (λq d W=>∃B,W.ownsRow B 37 2 (.slice q 1 d) 1 (zbj [(numS (-1),numS 2)]))
  (λq d W=>∃B,W.ownsRow B 37 2 (.slice q 2 d) 2 (zbj (a2L a 2)))
  (λq d W=>∃B,W.ownsRow B 37 2 (.slice q 2 d) 2 (zbj (a2L a 2))) w (hid ?_) (hid λW hW=>?_) (hid λW q2 d2 b hW hb hR k0 k1=>?_) (hid λW q2 d2 hW hR=>?_)
 ·exact z6g _ _ (λW=>qL w W) (λW W' h h'=>h.trans (h'.mono h.size)) (hid λW hW=>z60 a ha sa B d _ W (ER W hW).ew (KO W hW)) (hid λW hW=>z6z g cap hc W (ER W hW)) w (zM _ _)
 ·have hs:=hW.size
  have hm:Hid (∀i,i<1->∀V:zA,Wd V->qJ 9 #[St (numS 1),St (numS (-1))] V (.tuple #[St (numS (-1)),.int .i64 0])):=
   hid λi _ V hV=>zon 1 (-1) (-1) zb7.2.1 zb7.2.2.2.2.1 (by decide+kernel) V hV
  have:=z6y (some ⟨g,0,none⟩) cap 1 (λ_=>numS 1) (λ_=>numS 2) (λ_=>numS (-1)) (numS (-1)) (by omega) W (hid λV hV=>((ER W hW).below hV).ew.wd) hm (hid λi hi=>by
   obtain rfl:i=0:=by omega
   exact⟨g,0,rfl,by omega,(ER W hW).c0,(ER W hW).c1⟩)
  rw[show numS (-1)=[45,49] from nm_1] at this;refine this.mono λe w' ⟨q2,d2,h1,h2,h3⟩=>⟨q2,d2,h1,h2,W.heap.size,?_⟩;rw[nm_1];exact h3
 ·obtain⟨W0,hB0,⟨B2,hR⟩,hBW⟩:=hR
  have o2:=zcj (zac hBW) hR;obtain⟨-,g2,rfl, -,hg2,hz, -⟩:=zpo o2 (by omega);have hc:catL (λk=>if k=0 then[(numS a,numS 1)] else[(numS (-1),numS 2)]) 2=a2L a 2:=rfl
  have ce:=z5g b 2 (λk=>if k=0 then some ⟨g1,0,none⟩ else some ⟨g2,0,none⟩) (λk=>if k=0 then d else d2) (λk=>if k=0 then[(numS a,numS 1)] else[(numS (-1),numS 2)]) (by omega) (by rw[hc,zrl a 2 (by omega)];omega) W (hid λV=>z62 _ (by rw[hc,zrl a 2 (by omega)];omega) (by rw[hc,zrl a 2 (by omega)];omega) V)
   (hid λk hk=>by
     match k,hk with
     |0,_=>exact .inr ⟨g1,0,rfl,λV hV j u hu=>by rw[Nat.zero_add];exact zai hV (zai hW (hy j u hu))⟩
     |1,_=>exact .inr ⟨g2,0,rfl,λV hV j u hu=>by rw[Nat.zero_add];exact zai hV (hz j u hu)⟩)
   (hid λV hV k hk=>by
     match k,hk with
     |0,_=>exact zai hV k0
     |1,_=>exact zai hV k1)
  rw[hc,zrl a 2 (by omega)] at ce;refine ce.mono λe w' ⟨v,h1,h2,h3⟩=>?_;obtain⟨q',d',rfl⟩:=zpa h2;exact⟨q',d',h1,h3,_,h2⟩
 ·obtain⟨B2,o2⟩:=hR
  obtain⟨-,g2,rfl, -,hg2, -,hx⟩:=zpo o2 (by omega);have E:=ER W hW;refine(z8k a ha sa 2 (by omega) (by omega) (some ⟨g2,0,none⟩) d2 W (hid λV hV=>(E.below hV).ew.wd) (hid λV hV=>(E.below hV).ew.pw) (hid λi hi=>?_)).mono λe w' ⟨q',d',h1,h2,h3⟩=>⟨q',d',h1,h2,_,h3⟩;obtain⟨c0,c1⟩:=hx 0 _ rfl;obtain⟨c2,c3⟩:=hx 1 _ rfl
  match i,hi with
  |0,_=>exact⟨g2,0,rfl,hg2,c0,c1⟩
  |1,_=>exact⟨g2,0,rfl,hg2,c2,c3⟩
theorem ydj (a:Rat) (ha:0<a) (sa:sz a 2) (s:Nat) (hs:s*s=a.num.natAbs*a.num.natAbs*1*10^(2*4)) (m:Int) (hm:((s/a.den:Nat):Int)=m) (W:zA) (hW:Wd W):
 qJ 123 #[.agg #[St (numS a),St (numS 1)],.int .i64 4] W (St (zE m)):=by
 have hn:¬a.num<0:=by have:=Rat.num_nonneg.2 (Rat.le_of_lt ha);omega
 have h1:=sa.1;have h2:a.num.natAbs*a.num.natAbs<10^(2+2):=zcc h1 h1;have h3:a.num.natAbs*a.num.natAbs*1*10^(2*4)<10^13:=by
  have:a.num.natAbs*a.num.natAbs*1*10^(2*4)<=10^(2+2)*10^(2*4):=Nat.mul_le_mul_right _ (by omega);exact Nat.lt_of_le_of_lt this (by decide)
 have:=zul a 1 4 s _ (zd0 (by omega) (by omega) sa) (by grind) (by omega) (by omega) rfl (zO (zil (by omega) h3) (by omega)) ⟨Nat.le_of_eq hs,by rw[<-hs];exact Nat.mul_lt_mul_of_lt_of_lt (by omega) (by omega)⟩ W hW;rw[z3k.1] at this;unfold floT at this;rw[if_neg hn,hm] at this;exact this
theorem yca (W:zA) (hW:Wd W):
 qJ 123 #[.agg #[St (numS (-1)),St (numS 2)],.int .i64 4] W (St (zE (-14143))):=by
 have:=zul (-1) 2 4 14142 200000000 (zm5 zb7.2.2.2.2.1) (by decide) (by omega) (by omega) (by decide+kernel) (zO (zil (k:=10) (by omega) (by omega)) (by omega)) ⟨by omega,by omega⟩ W hW;rw[z3k.2] at this;unfold floT at this;rw[if_pos (by decide),if_neg (by omega),show((14142/(-1:Rat).den+1:Nat):Int)=14143 by decide+kernel] at this;exact this
def sgT2 (m:Int):Nat->Int
 |0=>0
 |1=>m
 |_=>m-14143
theorem ydk (a:Rat) (ha:0<a) (sa:sz a 2) (s:Nat) (hs:s*s=a.num.natAbs*a.num.natAbs*1*10^(2*4)) (m:Int) (hm:((s/a.den:Nat):Int)=m) (hm2:m<100000) (sg:Int) (hsg:(14143<m/\sg=1)\/(m<14141/\sg= -1))
 (B d:Nat) (q:Option Addr) (w:zA) (h:Ew w) (ho:w.ownsRow B 37 2 (.slice q 2 d) 2 (zbj (a2L a 2))):
 qJ 53 #[.slice q 2 d] w (.tuple #[.int .i64 sg,.int .i64 0]):=by
 obtain⟨-,g2,rfl, -,hg2, -,hx⟩:=zpo ho (by omega);obtain⟨c0,c1⟩:=hx 0 _ rfl;obtain⟨c2,c3⟩:=hx 1 _ rfl;have hm0:0<=m:=by rw[<-hm];exact Int.natCast_nonneg _
 have dz:∀z:Int, -1000000<z->z<1000000->digs z<=300:=λz h1 h2=>zO (zhd (k:=6) (by omega) (by show z.natAbs<1000000;omega)) (by omega);have z48:zE 0=[48]:=zb9;have z49:zE 1=[49]:=by rw[show(1:Int)=((1:Nat):Int) from rfl,Str.zad,zae (by omega)];rfl
 have hcmp:∀z:Int, -1000000<z->z<1000000->qK 70 #[St (zE z),.string ⟨#[48]⟩] (.tuple #[.int .i64 (cmpZ z 0),.int .i64 0]):=λz h1 h2 W _=>by
  have:=zsx z 0 (dz z h1 h2) (dz 0 (by omega) (by omega)) W;rw[z48] at this;exact this
 have hadd1:∀z:Int, -100000<z->z<100000->qK 44 #[St (zE z),.string ⟨#[49]⟩] (.tuple #[St (zE (z+1)),.int .i64 0]):=λz h1 h2 W hW=>by
  have:=zva z 1 (dz z (by omega) (by omega)) (dz 1 (by omega) (by omega)) (dz _ (by omega) (by omega)) W hW;rw[z49] at this;exact this
 refine z3o (some ⟨g2,0,none⟩) d 2 (by omega) (by omega) (a2X a) a2Y (λi=>if i=0 then zE m else zE (-14143)) (λi=>zE (sgT2 m i)) (λi=>zE (m-14143+i)) (cmpZ (m-14143) 0) (cmpZ (m-14143+2) 0) sg z48
  (hid λi hi W hW=>?_) (hid λi hi W hW=>?_) (hid λW hW=>hcmp (m-14143) (by omega) (by omega) W hW) (hid ?_) w (hid h.wd) (hid h.sw) (hid λi hi=>?_)
 ·match i,hi with
  |0,_=>exact ydj a ha sa s hs m hm W hW
  |1,_=>exact yca W hW
 ·match i,hi with
  |0,_=>
   have:=zva 0 m (dz _ (by omega) (by omega)) (dz _ (by omega) (by omega)) (dz _ (by omega) (by omega)) W hW;rw[Int.zero_add] at this;exact this
  |1,_=>exact zva m (-14143) (dz _ (by omega) (by omega)) (dz _ (by omega) (by omega)) (dz _ (by omega) (by omega)) W hW
 ·rcases hsg with⟨h1,h2⟩|⟨h1,h2⟩
  ·left
   refine⟨?_,h2⟩;unfold cmpZ;rw[if_neg (by omega),if_pos (by omega)];rfl
  ·right
   refine⟨?_,h2,?_,?_,λi hi W hW=>?_,λW hW=>hcmp (m-14143+2) (by omega) (by omega) W hW⟩
   ·unfold cmpZ;rw[if_pos (by omega)];rfl
   ·show zE (m-14143+((0:Nat):Int))=zE (m-14143)
    rw[show m-14143+((0:Nat):Int)=m-14143 by omega]
   ·unfold cmpZ;rw[if_pos (by omega)];rfl
   ·have:=hadd1 (m-14143+(i:Int)) (by omega) (by omega) W hW
    rw[show m-14143+(i:Int)+1=m-14143+((i+1:Nat):Int) by omega] at this;exact this
 ·match i,hi with
  |0,_=>exact⟨g2,0,rfl,hg2,c0,c1⟩
  |1,_=>exact⟨g2,0,rfl,hg2,c2,c3⟩
theorem z30 (a:Rat) (ha:0<a) (sa:sz a 2) (s:Nat) (hs:s*s=a.num.natAbs*a.num.natAbs*1*10^(2*4)) (m:Int) (hm:((s/a.den:Nat):Int)=m) (hm2:m<100000) (sg:Int) (hsg:(14143<m/\sg=1)\/(m<14141/\sg= -1))
 (g cap:Nat) (hc:1<=cap) (w:zA) (h:Er g w):
 qJ 74 #[.slice (some ⟨g,0,none⟩) 1 cap,St (numS a)] w (.tuple #[.int .i64 (-sg),.int .i64 0]):=by
 have ha0:a≠0:=by grind
 have ER:=λ(W:zA) (hb:qL w W)=>h.below hb;refine z5k _ (numS a) 1 sg (by omega) (by omega) (λq d W=>∃B,W.ownsRow B 37 2 (.slice q 1 d) 1 (zbj (a2L a 1))) w (hid λW hW k0 k1=>?_) (hid λW q d hW hR=>?_)
 ·have hl:=zbe k0
  refine(z8k a ha0 sa 1 (by omega) (by omega) _ 1 W (hid λV hV=>((ER W hW).below hV).ew.wd) (hid λV hV=>((ER W hW).below hV).ew.pw) (hid λi hi=>?_)).mono λe w' ⟨q',d',h1,h2,h3⟩=>⟨q',d',h1,h2,_,h3⟩;obtain rfl:i=0:=by omega
  exact⟨w.heap.size,0,rfl,hl,k0,by show W.cell? ⟨w.heap.size,1,none⟩=some (St (numS 1));rw[zfc];exact k1⟩
 ·obtain⟨B,hR⟩:=hR
  refine zzh _ _ 2 sg (λq d W=>∃B,W.ownsRow B 37 2 (.slice q 2 d) 2 (zbj (a2L a 2))) W (hid (yd4 a ha0 sa g cap d B q hc W (ER W hW) hR)) (hid λV q' d' hV hR'=>?_);obtain⟨B',hR'⟩:=hR';exact ydk a ha sa s hs m hm hm2 sg hsg B' d' q' V ((ER W hW).below hV).ew hR'
theorem nm_q:numS (mkRat 1 10)=[49,47,49,48]/\numS (mkRat 1 1000)=[49,47,49,48,48,48]/\numS (mkRat 1 2)=[49,47,50]/\numS (mkRat 1 3)=[49,47,51]/\numS (mkRat 5 6)=[53,47,54]/\numS (mkRat 7 5)=[55,47,53]/\numS (mkRat 3 2)=[51,47,50]:=by
 refine⟨?_,?_,?_,?_,?_,?_,?_⟩<;>decide+kernel
theorem sz_q:sz (mkRat 1 10) 2/\sz (mkRat 1 1000) 4/\sz (mkRat 1 10000) 5/\sz (mkRat 7071 5000) 4/\sz (mkRat 7071 500) 4/\sz (mkRat 7 5) 2/\sz (mkRat 13 10) 2/\sz (mkRat 3 2) 2/\sz (mkRat 1 2) 1/\sz (mkRat 1 3) 1:=by
 refine⟨⟨?_,?_⟩,⟨?_,?_⟩,⟨?_,?_⟩,⟨?_,?_⟩,⟨?_,?_⟩,⟨?_,?_⟩,⟨?_,?_⟩,⟨?_,?_⟩,⟨?_,?_⟩,⟨?_,?_⟩⟩<;>decide+kernel
theorem z41 (a b c:Rat) (i j:Nat) (hi:0<i) (hj:0<j) (hij:i+j<300) (ha:sz a i) (hb:sz b j) (h:a+b=c) (W:zA) (hW:Wd W):qJ 10 #[St (numS a),St (numS b)] W (.tuple #[St (numS c),.int .i64 0]):=by
 rw[<-h];exact zje a b i j hi hj hij ha hb W hW
theorem yej (a b c:Rat) (i j:Nat) (hi:0<i) (hj:0<j) (hij:i+j<300) (ha:sz a i) (hb:sz b j) (h:a-b=c) (W:zA) (hW:Wd W):qJ 8 #[St (numS a),St (numS b)] W (.tuple #[St (numS c),.int .i64 0]):=by
 rw[<-h];exact ztz a b i j hi hj hij ha hb W hW
theorem yek (a b c:Rat) (hb0:b≠0) (i j:Nat) (hi:0<i) (hj:0<j) (hij:i+j<=300) (ha:sz a i) (hb:sz b j) (h:a/b=c) (W:zA) (hW:Wd W):qJ 93 #[St (numS a),St (numS b)] W (.tuple #[St (numS c),.int .i64 0]):=by
 rw[<-h];exact zoj a b hb0 i j hi hj hij ha hb W hW
theorem ydl (W:zA) (hW:Wd W):
 qJ 207 #[.agg #[St (numS 1),St (numS 2)],St (numS (mkRat 1 10000))] W (.tuple #[St (numS (mkRat 7071 5000)),.int .i64 0]):=by
 have h1:St (numS 1)=.string ⟨#[49]⟩:=by rw[zfc]
 rw[h1];refine z7d (numS 2) _ (numS 2) _ (hid λV hV=>?_) (hid λV hV=>?_) (hid λV hV=>?_) W (hid hW)
 ·have:=zon 1 1 1 zb7.2.1 zb7.2.1 (by decide+kernel) V hV
  rw[h1] at this;exact this
 ·have:=zon 1 2 2 zb7.2.1 zb7.2.2.1 (by decide+kernel) V hV
  rw[h1] at this;exact this
 ·have:=z8o 2 (mkRat 1 10000) 1 5 14142 (by decide) (by decide+kernel) (by omega) (by omega) (by omega) (by omega) (by omega) zb7.2.2.1 sz_q.2.2.1 (by decide+kernel) V hV
  rw[show((14142:Nat):Rat)*mkRat 1 10000=mkRat 7071 5000 by decide+kernel] at this;exact this
theorem ya9 (W:zA) (hW:Wd W):
 qJ 208 #[St (numS (mkRat 7071 5000)),St (numS (mkRat 1 10))] W (.tuple #[St (numS (mkRat 7 5)),.int .i64 0]):=by
 refine z5d _ _ (numS (mkRat 7071 500)) (numS 14) _ (hid λV hV=>?_) (hid λV hV=>?_) (hid λV hV=>?_) W (hid hW)
 ·exact yek _ _ _ (by decide+kernel) 4 2 (by omega) (by omega) (by omega) sz_q.2.2.2.1 sz_q.1 (by decide+kernel) V hV
 ·have hn:=λU=>zbm (mkRat 7071 500) ⟨by decide+kernel,by decide+kernel⟩ U
  rw[show(mkRat 7071 500).num=7071 by decide+kernel,show(mkRat 7071 500).den=500 by decide+kernel] at hn;have:=z8m ⟨(numS (mkRat 7071 500)).toArray⟩ 7071 500 14 (by omega) (by omega) (by decide+kernel) (by omega) (by omega) ⟨by omega,by omega⟩ (hid hn) V (hid hV);rw[<-zha 14] at this;exact this
 ·exact z61 _ _ _ 2 2 (by omega) (by omega) (by omega) ⟨by decide,by decide⟩ sz_q.1 (by decide+kernel) V hV
theorem ydm (g cap:Nat) (W:zA) (h:Er g W):
 qJ 131 #[.slice (some ⟨g,0,none⟩) 1 cap,St (numS (mkRat 1 10))] W (.tuple #[St (numS (mkRat 13 10)),.int .i64 0]):=by
 refine z7i g cap (numS 1) (numS 2) _ (numS (mkRat 1 10000)) (numS (mkRat 7071 5000)) (numS (mkRat 7071 5000)) (numS (mkRat 7 5)) _ (hid λV hV=>?_) (hid λV hV=>ydl V hV) (hid λV hV=>?_) (hid λV hV=>ya9 V hV) (hid λV hV=>?_) W (hid h.ew.wd) (hid ⟨h.c0,h.c1⟩)
 ·have:=z61 (mkRat 1 10) (mkRat 1 1000) (mkRat 1 10000) 2 4 (by omega) (by omega) (by omega) sz_q.1 sz_q.2.1 (by decide+kernel) V hV
  rw[show St (numS (mkRat 1 1000))=.string ⟨#[49,47,49,48,48,48]⟩ by rw[nm_q.2.1]] at this;exact this
 ·have:=z41 0 (mkRat 7071 5000) (mkRat 7071 5000) 1 4 (by omega) (by omega) (by omega) zb7.1 sz_q.2.2.2.1 (by decide+kernel) V hV
  rw[show St (numS 0)=.string ⟨#[48]⟩ by rw[nm0]] at this;exact this
 ·exact yej (mkRat 7 5) (mkRat 1 10) (mkRat 13 10) 2 2 (by omega) (by omega) (by omega) sz_q.2.2.2.2.2.1 sz_q.1 (by decide+kernel) V hV
theorem ycb (g cap:Nat) (hc:1<=cap) (W:zA) (h:Er g W):
 qJ 15 #[.slice (some ⟨g,0,none⟩) 1 cap,.int .i64 1] W (.tuple #[.agg #[St (numS (mkRat 7 5)),St (numS (mkRat 3 2))],.int .i64 0]):=by
 refine z9e g cap _ _ (Er g) (λ_ _ h hb=>h.below hb) (hid λV hV=>?_) (hid λV hV=>?_) W (hid h)
 ·refine z5r _ cap 1 (Er g) (λ_ _ h hb=>h.below hb) (hid λU hU=>z6z g cap hc U hU) (hid λU hU=>ya2 _ cap 1 U (hid ?_)) V (hid hV)
  refine ya1 _ cap 1 (λ_=>⟨(numS 1).toArray⟩) (λ_=>⟨(numS 2).toArray⟩) (by omega) (hid λi _ X hX=>?_) U (hid hU.ew.wd) (hid λi hi=>?_)
  ·refine z9k (numS 1) (numS 2) (hid λY hY=>?_) X (hid hX)
   exact yag (numS 1) (zE (1:Rat).num) (zD (1:Rat).den) _ rfl (by decide+kernel) (by decide+kernel) Y (hid hY) (hid λZ hZ=>zk5 1 (zm5 zb7.2.1) Z hZ)
  ·obtain rfl:i=0:=by omega
   exact⟨g,0,rfl,hU.c0,hU.c1⟩
 ·have h10:St (numS (mkRat 1 10))=.string ⟨#[49,47,49,48]⟩:=by rw[nm_q.1]
  rw[<-h10];refine yac g cap _ (numS (mkRat 13 10)) _ _ (Er g) (λ_ _ h hb=>h.below hb) (λ_ h=>h.ew.wd) (hid λU hU=>ydm g cap U hU) (hid λU hU=>?_) (hid λU hU=>?_) (hid λU hU=>?_) (hid λU hU=>?_) (hid λU hU=>?_) V (hid hV)
  ·exact z30 (mkRat 13 10) (by decide+kernel) sz_q.2.2.2.2.2.2.1 130000 (by decide+kernel) 13000 (by decide+kernel) (by omega) (-1) (.inr ⟨by omega,rfl⟩) g cap hc U hU
  ·exact z41 (mkRat 13 10) (mkRat 1 10) (mkRat 7 5) 2 2 (by omega) (by omega) (by omega) sz_q.2.2.2.2.2.2.1 sz_q.1 (by decide+kernel) U hU
  ·exact z30 (mkRat 7 5) (by decide+kernel) sz_q.2.2.2.2.2.1 70000 (by decide+kernel) 14000 (by decide+kernel) (by omega) (-1) (.inr ⟨by omega,rfl⟩) g cap hc U hU
  ·exact z41 (mkRat 7 5) (mkRat 1 10) (mkRat 3 2) 2 2 (by omega) (by omega) (by omega) sz_q.2.2.2.2.2.1 sz_q.1 (by decide+kernel) U hU
  ·exact z30 (mkRat 3 2) (by decide+kernel) sz_q.2.2.2.2.2.2.2.1 30000 (by decide+kernel) 15000 (by decide+kernel) (by omega) 1 (.inl ⟨by omega,rfl⟩) g cap hc U hU
theorem ycc (B c:Nat) (q:Option Addr) (W:zA) (h:Ew W) (ho:W.ownsRow B 37 2 (.slice q 1 c) 1 (zbj [(numS (-1),numS 1)])):
 qJ 60 #[.slice q 1 c] W (.tuple #[St (numS (-1)),.bool true,.int .i64 0]):=by
 have hk:=z60 (-1) (by decide) (zb7.2.2.2.2.1.mono (by omega)) B c q W h ho;obtain⟨-,g,rfl, -, -, -,hx⟩:=zpo ho (by omega);obtain⟨c0,c1⟩:=hx 0 _ rfl;exact yab g c _ W c0 (by rw[show W.cell? ⟨g,1,none⟩=some (St (numS 1)) from c1,zfc]) (hid hk)
theorem z9y (w:zA)
 (A:Hid (∀W:zA,qL w W->qJ 10 #[.string ⟨#[49,47,50]⟩,.string ⟨#[49,47,51]⟩] W (.tuple #[.string ⟨#[53,47,54]⟩,.int .i64 0])))
 (M:Hid (∀(W:zA) (a:Nat),qL w W->a<W.heap.size->a+1<W.heap.size->W.heap[a]? =some (.cells #[St [49],St [49],St [49],St [50]] 37 (0,0))->W.heap[a+1]? =some (.cells #[St [49],St [49],St [45,49],St [50]] 37 (0,0))->
   zC zF 59 #[.slice (some ⟨a,0,none⟩) 2 2,.slice (some ⟨a+1,0,none⟩) 2 2] W λe w'=>∃q c,e=.returned (.tuple #[.slice q 1 c,.int .i64 0])/\Below W.heap.size W w'/\
    ∀V:zA,qL w' V->zC zF 60 #[.slice q 1 c] V λe v'=>e=.returned (.tuple #[.string ⟨#[45,49]⟩,.bool true,.int .i64 0])/\Below V.heap.size V v'))
 (O:Hid (∀(W:zA) (g:Nat),qL w W->W.heap[g]? =some (.cells #[St [49],St [50]] 37 (0,0))->qJ 15 #[.slice (some ⟨g,0,none⟩) 1 1,.int .i64 1] W (.tuple #[.agg #[.string ⟨#[55,47,53]⟩,.string ⟨#[51,47,50]⟩],.int .i64 0]))):
 qJ 14 #[] w (.bool true):=by
 have D0:=hid (zM w.heap.size w);go_enter Tryz.func14,Tryz.ntmps14;go_wp21;refine zzM (A.out w D0.out) λw1 hb1=>?_;obtain⟨v1,hv⟩:=zzX ((w1.alloc (.cells #[St [49],St [49],St [49],St [50]] 37)).alloc (.cells #[St [49],St [49],St [45,49],St [50]] 37));have a1:qL w1 v1:=by rw[hv];exact((zM _ w1).alloc (zN _) _).alloc (by simp) _
 have A1:v1.heap[w1.heap.size]? =some (.cells #[St [49],St [49],St [49],St [50]] 37 (0,0)):=by rw[hv];exact(Below.heap_alloc _ _ _ (by simp)).trans (zG w1 _)
 have A2:v1.heap[w1.heap.size+1]? =some (.cells #[St [49],St [49],St [45,49],St [50]] 37 (0,0)):=by
  rw[hv];have:=zG (w1.alloc (.cells #[St [49],St [49],St [49],St [50]] 37)) (.cells #[St [49],St [49],St [45,49],St [50]] 37);rw[World.size_alloc] at this;exact this
 have hB:=hb1.trans (a1.mono hb1.size);have HM:=hid (M.out v1 w1.heap.size hB (Array.getElem?_eq_some_iff.1 A1).1 (Array.getElem?_eq_some_iff.1 A2).1 A1 A2);have E1:=hid hB;have HV:=hid hv.symm;clear hv a1 A1 A2 hB hb1 M A D0;go_wp21;have h9:=HV.out;rw[show(w1.alloc (.cells #[.string ⟨#[49]⟩,.string ⟨#[49]⟩,.string ⟨#[49]⟩,.string ⟨#[50]⟩] 37)).alloc (.cells #[.string ⟨#[49]⟩,.string ⟨#[49]⟩,.string ⟨#[45,49]⟩,.string ⟨#[50]⟩] 37)=v1 from h9];clear h9 HV;refine HM.out.mono ?_;rintro e w2 ⟨q,c,rfl,hb2,hval⟩;have E2:=hid (E1.out.trans (hb2.mono E1.out.size));have HVL:=hid (hval w2 (zM _ _));clear hb2 hval HM E1;go_wp21;refine zzM HVL.out λw3 hb3=>?_;have hB:=E2.out.trans (hb3.mono E2.out.size);obtain⟨v3,hv⟩:=zzX (w3.alloc (.cells #[St [49],St [50]] 37));have a3:qL w3 v3:=by rw[hv];exact(zM _ w3).alloc (zN _) _
 have A3:v3.heap[w3.heap.size]? =some (.cells #[St [49],St [50]] 37 (0,0)):=by rw[hv];exact zG w3 _
 have hB3:=hB.trans (a3.mono hB.size);have HO:=hid (O.out v3 w3.heap.size hB3 A3);have E3:=hid hB3;have HV:=hid hv.symm;clear hv a3 A3 hB3 hB hb3 O HVL E2;go_wp21;have h9:=HV.out;rw[show w3.alloc (.cells #[.string ⟨#[49]⟩,.string ⟨#[50]⟩] 37)=v3 from h9];clear h9 HV;refine zzM HO.out λw4 hb4=>?_;have E4:=hid (E3.out.trans (hb4.mono E3.out.size));clear hb4 HO E3;have mx4:∀w:zA,(Builtin.max_ #[27,27,27,27] 27 #[.int .i64 0,.int .i64 0,.int .i64 0,.int .i64 0]).run zF w=.ok (.int .i64 0) w:=λ_=>by kernel_rfl
 go_wp21;go_ret;exact⟨rfl,E4.out.alloc E4.out.size _⟩
theorem ycd (w:zA) (HW:Hid (∀W,qL w W->Wd W/\Pw W/\Spw W)):
 qJ 14 #[] w (.bool true):=by
 have EW:=λ(W:zA) (h:qL w W)=>(⟨(HW.out W h).1,(HW.out W h).2.1,(HW.out W h).2.2⟩:Ew W);have n12:numS 1=[49]/\numS 2=[50]/\numS (-1)=[45,49]:=⟨zfc,nm2,nm_1⟩;refine z9y w (hid λW hW=>?_) (hid λW a hW ha ha2 h1 h2=>?_) (hid λW g hW hg=>?_)
 ·have:=z41 (mkRat 1 2) (mkRat 1 3) (mkRat 5 6) 1 1 (by omega) (by omega) (by omega) sz_q.2.2.2.2.2.2.2.2.1 sz_q.2.2.2.2.2.2.2.2.2 (by decide+kernel) W (EW W hW).wd
  rw[nm_q.2.2.1,nm_q.2.2.2.1,nm_q.2.2.2.2.1] at this;exact this
 ·have k1:∀o u,(#[St [49],St [49],St [49],St [50]]:Array Value)[o]? =some u->W.cell? ⟨a,o,none⟩=some u:=λo u hu=>by rw[zJ h1];exact hu
  have k2:∀o u,(#[St [49],St [49],St [45,49],St [50]]:Array Value)[o]? =some u->W.cell? ⟨a+1,o,none⟩=some u:=λo u hu=>by rw[zJ h2];exact hu
  refine(ycq (some ⟨a,0,none⟩) (some ⟨a+1,0,none⟩) 2 2 (by omega) (by omega) W (hid λV hV=>((EW W hW).below hV).wd) (hid λV hV=>((EW W hW).below hV).pw) (hid λi hi=>?_) (hid λi hi=>?_)).mono λe w' ⟨q,c,e1,hb,ho⟩=>⟨q,c,e1,hb,λV hV=>?_⟩
  ·match i,hi with
   |0,_=>exact⟨a,0,rfl,ha,k1 0 _ (by show _=some (St (numS 1));rw[n12.1];rfl),k1 1 _ (by show _=some (St (numS 1));rw[n12.1];rfl)⟩
   |1,_=>exact⟨a,0,rfl,ha,k1 2 _ (by show _=some (St (numS 1));rw[n12.1];rfl),k1 3 _ (by show _=some (St (numS 2));rw[n12.2.1];rfl)⟩
  ·match i,hi with
   |0,_=>exact⟨a+1,0,rfl,ha2,k2 0 _ (by show _=some (St (numS 1));rw[n12.1];rfl),k2 1 _ (by show _=some (St (numS 1));rw[n12.1];rfl)⟩
   |1,_=>exact⟨a+1,0,rfl,ha2,k2 2 _ (by show _=some (St (numS (-1)));rw[n12.2.2];rfl),k2 3 _ (by show _=some (St (numS 2));rw[n12.2.1];rfl)⟩
  ·have:=ycc W.heap.size c q V (((EW W hW).below hb).below hV) (zcj (zac hV) ho)
   rw[n12.2.2] at this;exact this
 ·have hE:Er g W:=⟨EW W hW,by rw[n12.1,zJ hg];rfl,by rw[n12.2.1,zJ hg];rfl⟩
  have:=ycb g 1 (by omega) W hE;rw[nm_q.2.2.2.2.2.1,nm_q.2.2.2.2.2.2] at this;exact this
end
section
open Go.RowKit Go.Shelf Lib Str Limb Geo
theorem z63 (n:Nat):∀(a b:List (Rat×Nat)) (s:Rat×Rat),sumR n (a++b) s=sumR n b (sumR n a s)
 |[],_,_=>rfl
 |t::a,b,s=>by rw[List.cons_append,z2f,z2f,z63 n a b]
def sumT (n:Nat) (l:List (Rat×Nat)) (i:Nat):Rat×Rat:=sumR n (l.take i) (0,0)
theorem z4k {n:Nat} {l:List (Rat×Nat)} {i:Nat} {t:Rat×Nat} (h:l[i]? =some t):sumT n l (i+1)=((sumT n l i).1+(mulR t.1 (betR t.2 n)).1,(sumT n l i).2+(mulR t.1 (betR t.2 n)).2):=by
 unfold sumT;rw[List.take_add_one,h,z63];rfl
theorem yba {t:Rat×Nat} {n:Nat} (h:sz t.1 10/\t.2<10^10) (hn:n<=19):RgR (mulR t.1 (betR t.2 n)) 36:=
 ⟨ydc _ _,(z84 h.1 (zr4 h.2 hn).1 (zr4 h.2 hn).2).1,(z84 h.1 (zr4 h.2 hn).1 (zr4 h.2 hn).2).2⟩
theorem z86 {n:Nat} {l:List (Rat×Nat)} (hn:n<=19) (hs:∀t∈l,sz t.1 10/\t.2<10^10):∀i,i<=l.length->RgR (sumT n l i) (1+37*i)
 |0,_=>⟨by show(0:Rat)<=0;exact Rat.le_refl,zd2 _ (by omega),zd2 _ (by omega)⟩
 |i+1,h=>by
  have ht:l[i]? =some l[i]:=yB (by omega);have R:=z86 hn hs i (by omega);have M:=yba (hs _ (List.getElem_mem (by omega:i<l.length))) hn;rw[z4k ht];refine⟨?_,(zk0 R.s1 M.s1).mono (by omega),(zk0 R.s2 M.s2).mono (by omega)⟩;have:=R.le;have:=M.le;show _+_<=_+_;grind
theorem ybb (l:List (Rat×Nat)):sgnL l=1\/sgnL l= -1\/sgnL l=0:=by
 unfold sgnL;split
 ·exact .inr (.inr rfl)
 ·rcases zg3 l.length λk=>valZ l (plN k) with h|h|h
  ·exact .inl h.1
  ·exact .inr (.inl h.1)
  ·exact .inr (.inr h)
theorem ydn (p:Option Addr) (cap:Nat) (l:List (Rat×Nat)) (h:ShrS l) (n:Nat) (hn:n<=19) (w:zA) (hw:Hw w) (hv:SdL (.slice p l.length cap) l w):
 ∃m e1 R S k e2 b e3,TlQ w (.slice p l.length cap) p n m e1 R l S k e2 b e3:=by
 have hE:EnS l:=⟨h.ok,by have:=h.len;omega,λt ht=>(h.sh t ht).1⟩;have hl:=h.len;refine⟨sgnL l,sgeL l,ofU l (zet n),sumT n l,if sgnL l=0 then 0 else(sepR l 41 0).1,if sgnL l=0 then 7 else(sepR l 41 0).2,(conF l (sumT n l l.length)).1,(conF l (sumT n l l.length)).2,?_,?_,?_⟩
 ·exact λW hW=>z82 _ l hE n (by omega) W (hw.below hW) (hv.below hW)
 ·exact λW hW=>ycv _ l h.ok W (hw.below hW).d (hw.below hW).p (hw.below hW).s (hv.below hW)
 intro q ho h4;have he:sgeL l=0:=by
  by_cases e:sgeL l=0
  ·exact e
  ·exact absurd (z52 l e).1 h4
 obtain⟨-,rg⟩:=z2k hE (zfs n).1 ho;obtain⟨t1,t2,t3,t4,t5⟩:=ya6 hE he (zfs n).1 ho;have z0:numS 0=[48]:=by decide+kernel
 have o1:numS 1=[49]:=by decide+kernel
 have zr:sz 0 1:=zd2 1 (by omega);have mem:∀{i:Nat} {t},l[i]? =some t->t∈l:=λh=>List.mem_of_getElem? h;have rgs:=z86 hn h.sh;have rgl:RgR (sumT n l l.length) 75:=by
  have:=rgs l.length (zN _);exact⟨this.le,this.s1.mono (by omega),this.s2.mono (by omega)⟩
 refine⟨he,λW hW=>?_,λW hW=>?_,?_,λW hW=>z8e _ l hE he W (hw.below hW) (hv.below hW),λg=>by rw[if_pos g],λg=>?_,?_,λi t ht W hW=>?_,λi t ht W hW=>z9t t.2 n (h.ok.trm t (mem ht)).nr (h.sh t (mem ht)).2 hn W (hw.below hW).wd,
  λi t ht W hW=>ya3 t.1 _ 26 (by omega) (by omega) ((h.sh t (mem ht)).1.mono (by omega)) ⟨(z57 t.2 n).2.1,(zr4 (h.sh t (mem ht)).2 hn).1,(zr4 (h.sh t (mem ht)).2 hn).2⟩ W (hw.below hW).wd,
  λi t ht W hW=>?_,rfl,h.len,λW hW=>z4i _ l hE _ 75 (by omega) (by omega) rgl W (hw.below hW) (hv.below hW),?_,λW hW=>z6h _ 75 (by omega) (by omega) rgl W (hw.below hW).wd⟩
 ·have:=zgq q.1 0 60 1 (by omega) (by omega) (by omega) rg.s1 zr W (hw.below hW).wd
  rwa [z0] at this
 ·have:=zgq q.2 0 60 1 (by omega) (by omega) (by omega) rg.s2 zr W (hw.below hW).wd
  rwa [z0] at this
 ·rcases ybb l with g|g|g
  ·have:=t3 (by omega)
   exact .inl ⟨g,decide_eq_false (by omega),decide_eq_false (by omega)⟩
  ·have:=t4 (by omega)
   exact .inr (.inl ⟨g,decide_eq_false (by omega),decide_eq_false (by omega)⟩)
  ·exact .inr (.inr ⟨g,t5 g⟩)
 ·rw[if_neg g,if_neg g]
  rcases z56 l 41 0 with e|⟨k,pp, -,hk,e,eo,hp⟩
  ·rw[e];exact .inl rfl
  ·rw[e]
   refine .inr ⟨rfl,pp,λW hW=>?_,λW hW=>?_⟩
   ·have:=z82 _ l hE k (by omega) W (hw.below hW) (hv.below hW)
    rwa [eo] at this
   ·have rp:=(z2k hE (zfs k).1 eo).2
    have:=z4i (.slice none 0 0) [] EnS.nil pp 60 (by omega) (by omega) rp W (hw.below hW) (SdL.nil W);rwa [yb6 rp.s1 rp.s2 hp] at this
 ·obtain⟨p',cap',e, -,hx⟩:=hv.slice
  injection e with e1 _ _;subst e1;exact hx
 ·have:=zjf ((t.2:Nat):Rat) 1 10 1 (by omega) (by omega) (by omega) (zrg (by omega) (lenp (by omega) (h.sh t (mem ht)).2)) sz_1 W (hw.below hW).wd
  rwa [Rat.mul_one,zhe,o1] at this
 ·have hi:=(List.getElem?_eq_some_iff.1 ht).1
  have R:=rgs i (by omega);have M:=yba (h.sh t (mem ht)) hn;have:=ya0 (sumT n l i) (mulR t.1 (betR t.2 n)) 75 (by omega) (by omega) ⟨R.le,R.s1.mono (by omega),R.s2.mono (by omega)⟩ ⟨M.le,M.s1.mono (by omega),M.s2.mono (by omega)⟩ W (hw.below hW).wd;rwa [<-z4k ht] at this
 ·have:sumT n l l.length=sumR n l (0,0):=by unfold sumT;rw[List.take_length]
  rw[this];rcases yd1 h.ok.pos n with e|e
  ·rw[e];exact .inr ⟨rfl,rfl⟩
  ·rw[e];exact .inl rfl
theorem z64 (vs:Value) (ls:List (List UInt8×List UInt8)) (pl:Nat) (hpl:pl<256) (w:zA) (hw:Hw w) (h1:SdT vs ls w):
 qJ 4 #[vs,.int .u8 (pl:Int)] w (.bool true):=by
 obtain⟨ps,cs,rfl, -⟩:=h1.slice;refine z8g ps ls.length cs pl hpl (∃s,ls=s.map strT/\ShrS s) w (hid λW A hW hA=>?_) (hid λW hW=>ycd W (hid λV hV=>⟨((hw.below hW).below hV).wd,((hw.below hW).below hV).pw,((hw.below hW).below hV).sw⟩)) (hid λhG=>?_)
 ·refine(z6x (some ⟨A,0,none⟩) 1 1 (λ_=>.slice ps ls.length cs) (λ_=>ls) (by omega) W (hw.below hW).wd (λi hi=>?_) (λi hi=>h1.below hW)).mono λe w' ⟨b,e1,e2,e3⟩=>⟨b,e1,λh=>e2 h 0 (by omega),e3⟩
  refine⟨A,0,rfl,?_⟩;rw[zJ hA]
  match i,hi with
  |0,_=>rfl
 ·obtain⟨s,rfl,hs⟩:=hG
  have hd:=h1.sd rfl;rw[List.length_map] at hd⊢;obtain⟨m,e1,R,S,k,e2,b,e3,hQ⟩:=ydn ps cs s hs (pl%20) (by omega) w hw hd;exact⟨m,e1,R,s,S,k,e2,b,e3,rfl,hQ⟩
end
section
open Go.RowKit Go.Shelf Lib Str Limb
open Go.ChangeShapes Go.WideShapes Go.ChangeAt
theorem ybc {H:Type} {enc:TypeId×Value->H} {W:zA} {base:Nat} {sp:Nat->Bool} {held:Bool} {r:Reach} {b0:Nat} {v:Value} {d:DataW H} {ps:List MemPlace}
 (hval:Value.okWide zF W r b0 26 v) (hd:DataW.Trod enc zF W base sp held 26 v d ps):∃l,SdT v l W:=by
 obtain⟨a,n,c,rfl⟩:=okWide_slice Tryz.underlying26 hval;obtain⟨fuel,hf⟩:=hd;obtain⟨u,l,e,h⟩:=z9h hf (λa' m k e=>by
  have e2:Value.slice a n c=.slice (some a') m k:=by simpa [Value.cells] using e
  rw[e2] at hval;exact ybn Tryz.underlying26 (by simpa only[Value.okWide,Tryz.underlying26] using hval))
 have hu:Value.slice a n c=u:=by simpa [Value.cells] using e
 subst hu;exact⟨l,h⟩
theorem zea {H:Type} {enc:TypeId×Value->H} {W:zA} {base:Nat} {sp:Nat->Bool} {held:Bool} {v:Value} {d:DataW H} {ps:List MemPlace} {r:Reach} {b0:Nat}
 (hval:Value.okWide zF W r b0 5 v) (hd:DataW.Trod enc zF W base sp held 5 v d ps):∃n:Nat,n<256/\v=.int .u8 (n:Int)/\ps=[]:=by
 obtain⟨n,rfl⟩:=okWide_int Tryz.underlying5 hval;obtain⟨fuel,hf⟩:=hd;obtain⟨m,e,hx,hw⟩:=DataW.trod_int Tryz.underlying5 hf;have hm:n=m:=by simpa [Value.cells] using e
 subst hm;simp[Lit.wf,IntKind.min,IntKind.max,IntKind.signed,IntKind.bits] at hw;simp only[Prod.mk.injEq] at hx;exact⟨n.toNat,by omega,by rw[show((n.toNat:Nat):Int)=n by omega],hx.2⟩
theorem z2g (os:Os) (started:os.Started) (H:Type) (enc:TypeId×Value->H):
 ReturnsInHanded {} Tryz.checked os 4 .any (λw args=>(Rows.topEnclosedSpec.pre enc zF Tryz.f4 [] false w args/\laidMetH zF Rows.topEnclosedRow.laid w)/\sizedMet enc zF Tryz.f4 (OpenSpec.ofChange Rows.topEnclosedSpec) false w args)
  (Rows.topEnclosedSpec.post enc zF Tryz.f4 false true false false):=by
 refine zf9 (C:=Tryz.checked) (X:=λw _=>laidMetH zF Rows.topEnclosedRow.laid w) (λ_ _ _ hh h=>h.of_heap hh) zrj started (by kernel_rfl) Tryz.func4
  (ChangeSpec.witness_shaped (enc:=enc) (C:=Tryz.checked) (os:=os) (X:=λw _=>laidMetH zF Rows.topEnclosedRow.laid w) false (World.laidAll zF os Rows.topEnclosedRow.laid)
    #[.slice none 0 0,.int .u8 0] 8 (World.laidAll_os _ _ _)
    (World.shaped_of_ZipB (by kernel_rfl) (by kernel_rfl)) (by kernel_rfl) (by kernel_rfl) (by kernel_rfl)
    (by rw[MakeChecks.laidMetH_plain _ _ _ (by kernel_rfl)];exact laidMet_laidAll _ (by kernel_rfl) (by kernel_rfl))) ?_
 intro W args ds gs before base hval0 hW hL hsh;have hval:∀(j:Nat) t v,Tryz.f4.params[j]? =some t->args[j]? =some v->Value.okWide zF W .any base t v:=hval0;have hW':=hW;obtain⟨p,q,hA0,hV,rfl,_,_⟩:=hW;have hA:DataW.TrodAll enc zF W 0 (λ_=>true) true Tryz.f4.params.toList args.toList ds p:=hA0;rw[Tryz.params4] at hA hval;obtain⟨v0,vs0,d0,ds0,p0,q0,e0,rfl,rfl,h0,hA⟩:=trodAll_cons hA;obtain⟨v1,vs1,d1,ds1,p1,q1,rfl,rfl,rfl,h1,hA⟩:=trodAll_cons hA;obtain⟨rfl,rfl,rfl⟩:=trodAll_nil hA;obtain rfl:args= #[v0,v1]:=by cases args;simp_all
 obtain⟨rfl,rfl⟩:=trodVars_none hV;simp only[List.append_nil] at hW';have hlt:∀x∈p0++p1,x.block<W.heap.size:=λx hx=>by simpa using hW'.lt x (by simpa using hx)
 have k0:=h0;have k1:=h1;obtain⟨l0,hs0⟩:=ybc (hval 0 26 v0 rfl rfl) h0;obtain⟨n1,g1,rfl,rfl⟩:=zea (hval 1 5 v1 rfl rfl) h1;have hM:laidMet zF Rows.topEnclosedRow.laid W:=by rw[<-MakeChecks.laidMetH_plain _ _ _ (by kernel_rfl)];exact hL
 have hwd:Wd W:=z0v hM (.tail _ (.tail _ (.head _))) hsh;have hpw:Pw W:=z0w hM (.tail _ (.tail _ (.tail _ (.tail _ (.tail _ (.tail _ (.head _)))))));have hsw:Spw W:=z80 hM (.tail _ (.tail _ (.tail _ (.tail _ (.tail _ (.tail _ (.tail _ (.head _))))))));refine(z64 v0 l0 n1 g1 W ⟨hwd,hpw,hsw⟩ hs0).mono λe W' ⟨he,hb⟩=>?_;subst he;have t0:=Below.trod zgh (by kernel_rfl) (of_decide_eq_true (by kernel_rfl)) k0 hb (λx hx=>hlt x (by simp[hx]));have t1:=Below.trod zgh (by kernel_rfl) (of_decide_eq_true (by kernel_rfl)) k1 hb (λ_ h=>by cases h);exact⟨_,rfl,_,_,_,[],_,[],hW',trodAll_mk1 (shut_bool Tryz.underlying4 _),trodAll_mk2 t0 t1,rfl,hb.frame _,λh=>by cases h⟩
theorem ydo:mapsRowed zF=true:=by kernel_rfl
theorem yd5:namedTie zF Rows.topEnclosedRow.named Rows.topEnclosedSpec.vars=true:=by kernel_rfl
theorem yce:(Rows.topEnclosedRow.inPlace==Tryz.prog.inPlace 4)=true:=by kernel_rfl
theorem yd6:(Rows.topEnclosedRow.unfollowed==Tryz.prog.unfollowed 4)=true:=by kernel_rfl
theorem yd7:(Rows.topEnclosedRow.recurses==Tryz.prog.recurses 4)=true:=by kernel_rfl
theorem ycf:(Rows.topEnclosedRow.named==Tryz.prog.varsNamed 4)=true:=by kernel_rfl
theorem ycg:Tryz.prog.stopsHeard=true:=by kernel_rfl
theorem ych:Tryz.prog.mayEnter=true:=by kernel_rfl
theorem ybd:(Rows.topEnclosedRow.lifted==Tryz.prog.liftsFinal)=true:=by kernel_rfl
theorem ydp:(Tryz.prog.make==some Rows.topEnclosedRow.make)=true:=by kernel_rfl
theorem ydq:(Rows.topEnclosedRow.plainKeys==Tryz.prog.plainKeys)=true:=by kernel_rfl
theorem ydr:Tryz.pinned.checked.prog.funcNamed Rows.topEnclosedRow.func=some 4:=by kernel_rfl
theorem yd8:joinedFacts zF 4 Tryz.f4 Rows.topEnclosedSpec Rows.topEnclosedRow=true:=by
 unfold joinedFacts;simp only[Bool.and_eq_true]
 repeat' apply And.intro
 all_goals first|with_reducible exact zgh|with_reducible exact ydo|with_reducible exact yd5|with_reducible exact yce|with_reducible exact yd6|with_reducible exact yd7|with_reducible exact ycf|with_reducible exact ycg|with_reducible exact ych|with_reducible exact ybd|with_reducible exact ydp|with_reducible exact ydq|kernel_rfl
theorem z3l:Rows.TopEnclosedSaid:=
 OpenClaim.holds_of_wide 4 Tryz.f4 rfl rfl rfl rfl rfl rfl rfl ⟨rfl,rfl,rfl,rfl,rfl⟩ rfl rfl rfl rfl rfl ydr Tryz.func4 yd8
  (of_decide_eq_true (by kernel_rfl)) (by unfold Func.isWrapper;first|(rw[if_pos (by decide+kernel)];kernel_rfl)|(rw[if_neg (by decide+kernel)];exact⟨rfl,rfl⟩))
  (λos started H enc _=>z2g os started H enc)
end
end Go.Proofs.YtnjiiafnneillaaGreatDoor
