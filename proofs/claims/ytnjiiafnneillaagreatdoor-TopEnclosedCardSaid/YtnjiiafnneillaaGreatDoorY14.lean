/- A number and a multiple of a root have a sign that is found, unless they are equal. -/
import Derived.Test.YtnjiiafnneillaaGreatDoorY13
set_option maxRecDepth 100000
set_option maxHeartbeats 8000000
open Go renaming World → zA, Calls → zC
open Go.Lib renaming decDigits → zD, itoa → zE
open Go.Proofs.Tryz renaming prog → zF
open Go.World renaming alloc_heap_new → zG, size_alloc → zH
open Go.IntWalk renaming i64_in → zI
open Go.Joins renaming cell_of_block → zJ, block_setCell → zK
open Go.RowKit renaming intOf → zL
open Go.RowKit.Below renaming refl → zM, heap_setCell → yE
open Nat renaming le_refl → zN, le_trans → zO, zero_le → zR, le_of_lt → zT, pow_le_pow_right → yF
open List renaming getElem_mem → zY, getElem?_eq_getElem → yB
namespace Go.Proofs.YtnjiiafnneillaaGreatDoor
section
open Go.RowKit Go.Shelf Lib Str Limb
theorem zn6 {l:List (Rat×Nat)} (hl:l≠[]) (h:∀t∈l,t.1≠0):(0<valZ l 64->sgeL l=0/\sgnL l=1)/\(valZ l 64+l.length<0->sgeL l=0/\sgnL l= -1):=by
 have s1:sgnL l=sgnP l.length λk=>valZ l (plN k):=if_neg hl;have e1:sgeL l=errP (sgnL l):=if_neg hl;have lp:=List.length_pos_iff.2 hl;have T0:∀q,(0:Int)<((10^q:Nat):Int):=λq=>by exact_mod_cast Nat.pos_of_ne_zero (show 10^q≠0 by simp)
 have some:∀z:Int,valZ l 64=z->(0<z\/z+l.length<0)->sgnL l≠0:=λz hz h0 h1=>by
  rw[s1] at h1;unfold sgnP at h1;split at h1
  ·rename_i g;exact g h1
  ·split at h1
   ·rename_i g;exact g h1
   ·have e2:zap l.length 2 ((λk=>valZ l (plN k)) 2)=zap l.length 2 z:=by rw[<-hz];rfl
    rw[e2] at h1;unfold zap at h1;rcases h0 with h0|h0
    ·rw[if_pos h0] at h1;omega
    ·rw[if_neg (by omega),if_pos (.inl h0)] at h1;omega
 constructor
 ·intro hp
  have hn:=some _ rfl (.inl hp);rcases zg3 l.length (λk=>valZ l (plN k)) with⟨a, -⟩|⟨a,k,hk⟩|a
  ·rw[<-s1] at a
   rw[e1,a];exact⟨by decide,rfl⟩
  ·exfalso
   have hm:=zle 64 (plN k) l h;have:=Int.mul_pos hp (T0 (plN k));have:=Int.mul_nonpos_of_nonpos_of_nonneg hk (Int.le_of_lt (T0 64));omega
  ·rw[<-s1] at a;exact absurd a hn
 ·intro hp
  have hn:=some _ rfl (.inr hp);rcases zg3 l.length (λk=>valZ l (plN k)) with⟨a,k,hk⟩|⟨a, -⟩|a
  ·exfalso
   have hm:=zle (plN k) 64 l h;have:=Int.mul_pos hk (T0 64);have:=Int.mul_nonpos_of_nonpos_of_nonneg (show valZ l 64+(l.length:Int)<=0 by omega) (Int.le_of_lt (T0 (plN k)));omega
  ·rw[<-s1] at a
   rw[e1,a];exact⟨by decide,rfl⟩
  ·rw[<-s1] at a;exact absurd a hn
theorem zzf (q:Nat):rtF 1 q=10^q:=by
 unfold rtF;rw[Nat.one_mul,show 2*q=q+q by omega,Nat.pow_add];exact z1p _
end
section
open Go.RowKit Lib Str Limb
def Gr (f:Nat->Rat):Prop:=∃ε C:Rat,0<ε/\∀q,ε*tn q-C<=f q
def Lo (f:Nat->Rat):Prop:=∃C:Rat,∀q, -C<=f q
theorem Bd.lo {f:Nat->Rat} (h:Bd f):Lo f:=let ⟨K,h⟩:=h;⟨K,λq=>(h q).1⟩
theorem Gr.lo {f:Nat->Rat} (h:Gr f):Lo f:=by
 obtain⟨ε,C,h0,h⟩:=h;exact⟨C,λq=>by have:=h q;have:=Rat.mul_pos h0 (zp3 q);grind⟩
theorem Lo.congr {f g:Nat->Rat} (h:Lo f) (e:∀q,g q=f q):Lo g:=let ⟨C,h⟩:=h;⟨C,λq=>by rw[e];exact h q⟩
theorem Gr.congr {f g:Nat->Rat} (h:Gr f) (e:∀q,g q=f q):Gr g:=let ⟨ε,C,h0,h⟩:=h;⟨ε,C,h0,λq=>by rw[e];exact h q⟩
theorem Lo.add {f g:Nat->Rat} (hf:Lo f) (hg:Lo g):Lo λq=>f q+g q:=by
 obtain⟨C,hf⟩:=hf;obtain⟨D,hg⟩:=hg;exact⟨C+D,λq=>by have:=hf q;have:=hg q;grind⟩
theorem Gr.add {f g:Nat->Rat} (hf:Gr f) (hg:Lo g):Gr λq=>f q+g q:=by
 obtain⟨ε,C,h0,hf⟩:=hf;obtain⟨D,hg⟩:=hg;exact⟨ε,C+D,h0,λq=>by have:=hf q;have:=hg q;grind⟩
theorem Gr.no {f g:Nat->Rat} (h:Gr f) (h':Lo g) (e:∀q,g q= -f q):False:=by
 obtain⟨ε,C,h0,h⟩:=h;obtain⟨D,h'⟩:=h';obtain⟨p,hp⟩:=yak ((C+D)/ε);have h1:=h p;have h2:=h' p;have h3:=hp p (zN _);rw[e] at h2;have h4:=Rat.mul_lt_mul_of_pos_left h3 h0;rw[show ε*((C+D)/ε)=C+D by grind] at h4;grind
theorem z4x {a:Rat} (h:0<=a):Lo λq=>a*tn q:=⟨0,λq=>by have:=Rat.mul_nonneg h (Rat.le_of_lt (zp3 q));grind⟩
theorem z2j {a:Rat} (h:0<a):Gr λq=>a*tn q:=⟨a,0,h,λq=>by grind⟩
theorem yeh (x:Rat):Bd λq=>vZ (rs x) q-x*tn q:=by
 by_cases e:x=0
 ·subst e;exact Bd.zero.congr λq=>by rw[zbc,zfu];grind
 ·rw[za5 e]
  exact(zpl (x,1)).congr λq=>by rw[zfb,zfu];show _=_-x*((rtF 1 q:Nat):Rat);rw[zzf];unfold tn;grind
theorem yc7 {l:List (Rat×Nat)} (hl:PosR l) (a:Rat):Bd λq=>vZ (dfL (rs a) l) q-(a*tn q-vZ l q):=
 ((yc0 (z8v (yaj a) hl)).add ((yeh a).add (z5t (-1) l))).congr λq=>by
   show vZ (mkG (rs a++sclL l (-1))) q-_=_;rw[z5s];grind
def exE (l:List (Rat×Nat)) (a:Rat) (q:Nat):Rat:=vZ l q-a*tn q
theorem ydy {T:List (Rat×Nat)}:∀t∈mkG T,t.1≠0:=λ_ hc=>(zx8 hc).2
theorem yc8 {l:List (Rat×Nat)} (hl:PosR l) (a:Rat) (e:sgeL (dfL (rs a) l)=0):
 (-(sgnL (dfL (rs a) l))=1/\Gr (exE l a))\/(-(sgnL (dfL (rs a) l))= -1/\Gr λq=> -exE l a q)\/(-(sgnL (dfL (rs a) l))=0/\Lo (exE l a)/\Lo λq=> -exE l a q):=by
 have hb:=yc7 hl a;by_cases hn:dfL (rs a) l=[]
 ·right;right
  rw[hn] at hb⊢;refine⟨rfl,hb.lo.congr λq=>?_,hb.neg.lo.congr λq=>?_⟩
  ·rw[zfu];unfold exE;grind
  ·rw[zfu];unfold exE;grind
 ·obtain⟨h1,ε,C,h0, -,h⟩:=yal (l:=dfL (rs a) l) ydy (ybw (z8v (yaj a) hl)) hn e
  have hg:Gr λq=>(sgnL (dfL (rs a) l):Rat)*vZ (dfL (rs a) l) q:=⟨ε,C,h0,h⟩;rcases h1 with h1|h1
  ·right;left
   rw[h1] at hg⊢;refine⟨rfl,(hg.add hb.neg.lo).congr λq=>?_⟩;show _=((1:Int):Rat)*_+_;unfold exE;grind
  ·left
   rw[h1] at hg⊢;refine⟨rfl,(hg.add hb.lo).congr λq=>?_⟩;rw[show(((-1:Int)):Rat)= -1 from rfl];unfold exE;grind
def ordF (l:List (Rat×Nat)) (a:Rat):Int×Int:=if sz a 60/\(∀t∈dfL (rs a) l,sz t.1 60)/\sgeL (dfL (rs a) l)=0 then(-(sgnL (dfL (rs a) l)),0) else(0,4)
theorem zp9 {l:List (Rat×Nat)} (hl:PosR l) {a:Rat} (e:(ordF l a).2=0):
 sz a 60/\(((ordF l a).1=1/\Gr (exE l a))\/((ordF l a).1= -1/\Gr λq=> -exE l a q)\/((ordF l a).1=0/\Lo (exE l a)/\Lo λq=> -exE l a q)):=by
 unfold ordF at e⊢;split at e
 ·rename_i h
  rw[if_pos h];exact⟨h.1,yc8 hl a h.2.2⟩
 ·exact absurd e (by decide)
def z00 (o:Rat->Int×Int) (u:Rat):Nat->Rat->Option (Rat×Rat)
 |0,_=>none
 |k+1,a=>if o (a+u)=(0,0) then some (a+u,a+u) else if((o a).2=0/\(o (a+u)).2=0)/\0<(o a).1/\(o (a+u)).1<0 then some (a,a+u) else z00 o u k (a+u)
def ofR (o:Rat->Int×Int) (u:Rat) (k:Nat) (a:Rat):Option (Rat×Rat):=if o a=(0,0) then some (a,a) else z00 o u k a
theorem z3t {l:List (Rat×Nat)} (hl:PosR l) {a:Rat} (e:ordF l a=(0,0)):(Lo (exE l a)/\Lo λq=> -exE l a q)/\sz a 60:=by
 have:=zp9 hl (a:=a) (by rw[e]);rw[e] at this;rcases this with⟨s,⟨h,_⟩|⟨h,_⟩|⟨_,h⟩⟩
 ·exact absurd h (by decide)
 ·exact absurd h (by decide)
 ·exact⟨h,s⟩
theorem z4a {l:List (Rat×Nat)} (hl:PosR l) {u:Rat} (hu:0<u) {lo hi:Rat}:∀{k:Nat} {a:Rat},z00 (ordF l) u k a=some (lo,hi)->(Lo (exE l lo)/\Lo λq=> -exE l hi q)/\lo<=hi/\sz lo 60/\sz hi 60
 |0,a,h=>by cases h
 |k+1,a,h=>by
  unfold z00 at h;split at h
  ·rename_i e
   injection h with h;injection h with h1 h2;subst h1;subst h2;have:=z3t hl e;exact⟨this.1,Rat.le_refl,this.2,this.2⟩
  ·split at h
   ·rename_i e
    obtain⟨⟨e1,e2⟩,e3,e4⟩:=e;injection h with h;injection h with h1 h2;subst h1;subst h2;obtain⟨s1,p⟩:=zp9 hl e1;obtain⟨s2,r⟩:=zp9 hl e2;refine⟨⟨?_,?_⟩,by grind,s1,s2⟩
    ·rcases p with⟨_,p⟩|⟨p,_⟩|⟨p,_⟩
     ·exact p.lo
     ·omega
     ·omega
    ·rcases r with⟨r,_⟩|⟨_,r⟩|⟨r,_⟩
     ·omega
     ·exact r.lo
     ·omega
   ·exact z4a hl hu h
theorem yc9 {l:List (Rat×Nat)} (hl:PosR l) {u:Rat} (hu:0<u) {k:Nat} {a lo hi:Rat} (h:ofR (ordF l) u k a=some (lo,hi)):(Lo (exE l lo)/\Lo λq=> -exE l hi q)/\lo<=hi/\sz lo 60/\sz hi 60:=by
 unfold ofR at h;split at h
 ·rename_i e
  injection h with h;injection h with h1 h2;subst h1;subst h2;have:=z3t hl e;exact⟨this.1,Rat.le_refl,this.2,this.2⟩
 ·exact z4a hl hu h
theorem yb2 {l:List (Rat×Nat)} (hne:∀t∈l,t.1≠0) (hl:PosR l) {lo hi:Rat} (h:Lo (exE l lo)/\Lo λq=> -exE l hi q) (e:sgeL l=0):
 (0<lo->sgnL l=1)/\(hi<0->sgnL l= -1)/\(0<sgnL l->0<hi)/\(sgnL l<0->lo<0)/\(sgnL l=0↔l=[]):=by
 have hz:∀q,exE [] lo q= -(lo*tn q):=λq=>by unfold exE;rw[zfu];grind
 have hz2:∀q,exE [] hi q= -(hi*tn q):=λq=>by unfold exE;rw[zfu];grind
 by_cases hn:l=[]
 ·subst hn
  refine⟨λg=>?_,λg=>?_,λg=>absurd g (by decide),λg=>absurd g (by decide),⟨λ_=>rfl,λ_=>rfl⟩⟩
  ·exact((z2j g).no h.1 hz).elim
  ·exact((z2j (show 0< -hi by grind)).no h.2 λq=>by rw[hz2];grind).elim
 ·obtain⟨h1,ε,C,h0, -,hs⟩:=yal (l:=l) hne hl hn e
  have hg:Gr λq=>(sgnL l:Rat)*vZ l q:=⟨ε,C,h0,hs⟩;have n0:sgnL l=0↔l=[]:=⟨λg=>by rcases h1 with h1|h1<;>omega,λg=>absurd g hn⟩;rcases h1 with h1|h1
  ·rw[h1] at hg⊢
   refine⟨λ_=>rfl,λg=>?_,λ_=>?_,λg=>absurd g (by decide),by rw[<-h1];exact n0⟩
   ·exact(hg.no (h.2.add (z4x (show 0<= -hi by grind))) λq=>by rw[show(((1:Int)):Rat)=1 from rfl];unfold exE;grind).elim
   ·rcases(show 0<hi\/hi<=0 by grind) with g|g
    ·exact g
    ·exact(hg.no (h.2.add (z4x (show 0<= -hi by grind))) λq=>by rw[show(((1:Int)):Rat)=1 from rfl];unfold exE;grind).elim
  ·rw[h1] at hg⊢
   refine⟨λg=>?_,λ_=>rfl,λg=>absurd g (by decide),λ_=>?_,by rw[<-h1];exact n0⟩
   ·exact(hg.no (h.1.add (z4x (Rat.le_of_lt g))) λq=>by rw[show(((-1:Int)):Rat)= -1 from rfl];unfold exE;grind).elim
   ·rcases(show lo<0\/0<=lo by grind) with g|g
    ·exact g
    ·exact(hg.no (h.1.add (z4x g)) λq=>by rw[show(((-1:Int)):Rat)= -1 from rfl];unfold exE;grind).elim
theorem z8w {l:List (Rat×Nat)} (hl:PosR l) {a:Rat} (h:Lo (exE l a)) (e:(ordF l a).2=0):0<=(ordF l a).1:=by
 rcases(zp9 hl e).2 with⟨p,_⟩|⟨_,p⟩|⟨p,_⟩
 ·omega
 ·exact(p.no h λq=>by grind).elim
 ·omega
theorem z5u {l:List (Rat×Nat)} (hl:PosR l) {a:Rat} (h:Lo λq=> -exE l a q) (e:(ordF l a).2=0):(ordF l a).1<=0:=by
 rcases(zp9 hl e).2 with⟨_,p⟩|⟨p,_⟩|⟨p,_⟩
 ·exact(p.no h λq=>rfl).elim
 ·omega
 ·omega
theorem yb3 {c b b' lo hi:Rat} {m:Nat} (hb:0<=b) (h1:b*b<=(m:Rat)) (hb':0<=b') (h2:(m:Rat)<=b'*b') (hlo:lo<=c*b/\lo<=c*b') (hhi:c*b<=hi/\c*b'<=hi):
 Lo (exE [(c,m)] lo)/\Lo λq=> -exE [(c,m)] hi q:=by
 have hr:∀q,b*tn q-1<=((rtF m q:Nat):Rat)/\((rtF m q:Nat):Rat)<=b'*tn q:=λq=>by
  obtain⟨r1,r2⟩:=zv0 (m*10^(2*q));have t0:=zp3 q;have e:((m*10^(2*q):Nat):Rat)=(m:Rat)*(tn q*tn q):=by rw[<-ydx];unfold tn;push_cast;rfl
  have q1:((rtF m q:Nat):Rat)*((rtF m q:Nat):Rat)<=(m:Rat)*(tn q*tn q):=by rw[<-e];unfold rtF;exact_mod_cast r1
  have q2:(m:Rat)*(tn q*tn q)<(((rtF m q:Nat):Rat)+1)*(((rtF m q:Nat):Rat)+1):=by rw[<-e];unfold rtF;exact_mod_cast r2
  have p0:(0:Rat)<=((rtF m q:Nat):Rat):=by exact_mod_cast zR _
  have tt:=Rat.mul_nonneg (Rat.le_of_lt t0) (Rat.le_of_lt t0);have m1:=Rat.mul_le_mul_of_nonneg_right h1 tt;have m2:=Rat.mul_le_mul_of_nonneg_right h2 tt;have sq:=λ{x y:Rat} (hx:0<=x) (hy:0<=y) (h:x*x<=y*y)=>(show x<=y by
   rcases(show x<=y\/y<x by grind) with g|g
   ·exact g
   ·exfalso
    have a1:=Rat.mul_le_mul_of_nonneg_left (Rat.le_of_lt g) hy;have a2:=Rat.mul_lt_mul_of_pos_right g (show 0<x by grind);grind)
  generalize ((rtF m q:Nat):Rat)=R at*
  generalize tn q=t at*
  have p1:0<=b*t:=Rat.mul_nonneg hb (by grind);have p2:0<=b'*t:=Rat.mul_nonneg hb' (by grind);refine⟨?_,sq p0 p2 (by grind)⟩;have:=sq (x:=b*t) (y:=R+1) p1 (by grind) (by grind);grind
 have hf:=zpl (c,m);have key:Lo (λq=>c*((rtF m q:Nat):Rat)-lo*tn q)/\Lo λq=>hi*tn q-c*((rtF m q:Nat):Rat):=by
  rcases(show 0<=c\/c<=0 by grind) with h|h
  ·refine⟨⟨c,λq=>?_⟩,⟨0,λq=>?_⟩⟩
   ·have a1:=Rat.mul_le_mul_of_nonneg_left (hr q).1 h
    have a2:=Rat.mul_le_mul_of_nonneg_right hlo.1 (Rat.le_of_lt (zp3 q));grind
   ·have a1:=Rat.mul_le_mul_of_nonneg_left (hr q).2 h
    have a2:=Rat.mul_le_mul_of_nonneg_right hhi.2 (Rat.le_of_lt (zp3 q));grind
  ·have h':0<= -c:=by grind
   refine⟨⟨0,λq=>?_⟩,⟨-c,λq=>?_⟩⟩
   ·have a1:=Rat.mul_le_mul_of_nonneg_left (hr q).2 h'
    have a2:=Rat.mul_le_mul_of_nonneg_right hlo.2 (Rat.le_of_lt (zp3 q));grind
   ·have a1:=Rat.mul_le_mul_of_nonneg_left (hr q).1 h'
    have a2:=Rat.mul_le_mul_of_nonneg_right hhi.1 (Rat.le_of_lt (zp3 q));grind
 constructor
 ·exact(key.1.add hf.lo).congr λq=>by unfold exE;rw[zfb,zfu];grind
 ·exact(key.2.add hf.neg.lo).congr λq=>by unfold exE;rw[zfb,zfu];grind
theorem yb4 {t:Rat×Nat} {l:List (Rat×Nat)} {a a' b b':Rat} (h1:Lo (exE l a)/\Lo λq=> -exE l b q) (h2:Lo (exE [t] a')/\Lo λq=> -exE [t] b' q):
 Lo (exE (l++[t]) (a+a'))/\Lo λq=> -exE (l++[t]) (b+b') q:=by
 constructor
 ·exact(h1.1.add h2.1).congr λq=>by unfold exE;rw[z5s];grind
 ·exact(h1.2.add h2.2).congr λq=>by unfold exE;rw[z5s];grind
end
section
open Lib Str
end
section
open Go.RowKit Go.Shelf Lib Str Limb
attribute [local go_sem] Oper.semAt_some
end
section
open Go.RowKit Go.Shelf Lib Str Limb Geo
attribute [local go_sem] Oper.semAt_some
def z01 (o:Nat->Int×Int):Nat->Nat->Option (Nat×Nat)
 |0,_=>none
 |k+1,i=>if o (i+1)=(0,0) then some (i+1,i+1) else if((o i).2=0/\(o (i+1)).2=0)/\0<(o i).1/\(o (i+1)).1<0 then some (i,i+1) else z01 o k (i+1)
def ofN (o:Nat->Int×Int) (k:Nat):Option (Nat×Nat):=if o 0=(0,0) then some (0,0) else z01 o k 0
def ofV (A:Nat->List UInt8):Option (Nat×Nat)->Value
 |some p=>.tuple #[.agg #[St (A p.1),St (A p.2)],.int .i64 0]
 |none=>.tuple #[.agg #[St [],St []],.int .i64 4]
theorem ydz (p:Option Addr) (n cap:Nat) (hn:n<=256) (u:List UInt8) (A:Nat->List UInt8) (o:Nat->Int×Int) (ho:∀i,(o i).2=0\/(o i).2=4) (w:zA)
 (NR:Hid (∀W:zA,qL w W->qJ 131 #[.slice p n cap,St u] W (.tuple #[St (A 0),.int .i64 0])))
 (OD:Hid (∀i,i<=n+4->∀W:zA,qL w W->qJ 74 #[.slice p n cap,St (A i)] W (.tuple #[.int .i64 (o i).1,.int .i64 (o i).2])))
 (AD:Hid (∀i,i<n+4->∀W:zA,qL w W->qJ 10 #[St (A i),St u] W (.tuple #[St (A (i+1)),.int .i64 0]))):
 qJ 62 #[.slice p n cap,St u] w (ofV A (ofN o (n+4))):=by
 obtain⟨v1,hv⟩:=zzX (w.alloc (.cells #[St [],St []] 43));have a1:qL w v1:=by rw[hv];exact(zM _ w).alloc (zN _) _
 have R1:v1.heap[w.heap.size]? =some (.cells #[St [],St []] 43 (0,0)):=by rw[hv];exact zG w _
 have HV1:=hid hv.symm;have E1:=hid a1;have B1:=hid R1;clear hv a1 R1;have n4:wrap64 ((n:Int)+4)=(n:Int)+4:=by unfold wrap64;omega
 have HO:=hid ho;clear ho;obtain⟨R,hR⟩:=zzX (ofN o (n+4));rw[<-hR];have HR:=hid hR;clear hR;obtain⟨K,hK⟩:=zzX (n+4);have HK:=hid hK;rw[<-hK] at OD AD HR;have hK9:K<=1000:=by omega
 clear hK;go_enter Tryz.func62,Tryz.ntmps62;go_wp2_with fail;have h9:=HV1.out;rw[show w.alloc (.cells #[.string ⟨#[]⟩,.string ⟨#[]⟩] 43)=v1 from h9];clear h9 HV1;refine zzM (NR.out v1 E1.out) λw1 hb1=>?_;have E2:=hid (E1.out.trans (hb1.mono E1.out.size));have B2:=hid (zac hb1 _ _ _ _ B1.out);clear hb1 E1 B1;go_wp2_with fail;refine zzM (OD.out 0 (zR _) w1 E2.out) λw2 hb2=>?_;have E3:=hid (E2.out.trans (hb2.mono E2.out.size));have B3:=hid (zac hb2 _ _ _ _ B2.out);clear hb2 E2 B2;by_cases h0:o 0=(0,0)
 ·have hR:R=some (0,0):=by rw[HR.out];unfold ofN;rw[if_pos h0]
  subst hR;rw[h0];clear HR HO OD AD NR h0 n4;have c0:w2.cell? ⟨w.heap.size,0,none⟩=some (St []):=by rw[zJ B3.out];rfl
  have c1:w2.cell? ⟨w.heap.size,1,none⟩=some (St []):=by rw[zJ B3.out];rfl
  have f0:=Go.Joins.unfrozen_of_block B3.out 0;have f1:=Go.Joins.unfrozen_of_block B3.out 1;go_wp2_with fail;have hB7:=E3.out;refine bodyPost_ret (v:=.tuple #[.agg #[St (A 0),St (A 0)],.int .i64 0]) (by simp[results,Tryz.results62,go_sem,c0,c1]) rfl ⟨rfl,?_⟩
  repeat(first|exact hB7|refine Below.setCell ?_ (by simp) _)
 ·have hR:R=z01 o K 0:=by rw[HR.out];unfold ofN;rw[if_neg h0]
  have HS:=hid (show z01 o (K-0) 0=R from hR.symm);have HN:=hid (show ¬((o 0).2=0/\(o 0).1=0) from λh=>h0 (Prod.ext h.2 h.1));clear hR HR h0 NR;have hf:=HO.out 0;have HI:=hid (show ∃m f,m=(o 0).1/\f=(o 0).2 from⟨_,_,rfl,rfl⟩);obtain⟨m,f,hm,hfe⟩:=HI.out;have hN:=HN.out;rw[<-hfe] at hf;rw[<-hfe,<-hm] at hN;rw[<-hfe,<-hm];have M0:=hid hm;have F0:=hid hfe;clear HI hm hfe HN;have b1:(f==0)=decide (f=0):=by by_cases h:f=0<;>simp[h]
  rcases hf with rfl|rfl
  case' inl=>have hm0:(m==0)=false:=by simpa using hN
  all_goals
   clear hN b1;go_wp2_with fail;go_loopw [6,8,9,42] (λlo nn ff ix wr=>∃i:Nat,i<=K/\ix=.int .i64 (i:Int)/\lo=St (A i)/\nn=.int .i64 (o i).1/\ff=.int .i64 (o i).2/\Hid (z01 o (K-i) i=R)/\Hid (qL w wr)/\Hid (wr.heap[w.heap.size]? =some (.cells #[St [],St []] 43 (0,0))))
    (λ_ _ _ ix _=>K-(zL ix).toNat)
   case atStart=>exact⟨0,zR _,rfl,rfl,by rw[M0.out],by rw[<-F0.out],HS,E3,B3⟩
   case round=>
    clear M0 F0 HS E3 B3;obtain⟨i,hi,rfl,rfl,rfl,rfl,HS,E3,B3⟩:=hrel;by_cases hlt:i<K
    ·have hd:(i:Int)<(n:Int)+4:=by have:=HK.out;omega
     have hs:=HS.out;rw[show K-i=(K-(i+1))+1 by omega] at hs;unfold z01 at hs;have hf:=HO.out i;have hf':=HO.out (i+1);have OD':=hid (OD.out (i+1) (by have:=HK.out;omega));have AD':=hid (AD.out i (by have:=HK.out;omega));obtain⟨O',hO'⟩:=zzX (o (i+1));rw[<-hO'] at hs hf' OD';have HX:=hid hO';clear hO';generalize hO:o i=O at hs hf;obtain⟨m,f⟩:=O;obtain⟨m',f'⟩:=O';clear HS;have HS:=hid hs;clear hs;have HO1:=hid hO;clear hO;go_wp2_with fail;refine zzM (AD'.out _ E3.out) λw3 hb=>?_;have E4:=hid (E3.out.trans (hb.mono E3.out.size));have B4:=hid (zac hb _ _ _ _ B3.out);clear hb E3 B3;go_wp2_with fail;refine zzM (OD'.out w3 E4.out) λw4 hb=>?_;have E5:=hid (E4.out.trans (hb.mono E4.out.size));have B5:=hid (zac hb _ _ _ _ B4.out);clear hb E4 B4 OD' AD';have c0:w4.cell? ⟨w.heap.size,0,none⟩=some (St []):=by rw[zJ B5.out];rfl
     have c1:w4.cell? ⟨w.heap.size,1,none⟩=some (St []):=by rw[zJ B5.out];rfl
     have f0:=Go.Joins.unfrozen_of_block B5.out 0;have f1:=Go.Joins.unfrozen_of_block B5.out 1;by_cases hA:f'=0/\m'=0
     ·obtain⟨rfl,rfl⟩:=hA
      have hR:=HS.out;rw[if_pos rfl] at hR;subst hR;clear HS hf hf' HX HO1;go_wp2_with fail;have hB7:=E5.out;refine bodyPost_ret (v:=.tuple #[.agg #[St (A (i+1)),St (A (i+1))],.int .i64 0]) (by simp[results,Tryz.results62,go_sem,c0,c1]) rfl ⟨rfl,?_⟩
      repeat(first|exact hB7|refine Below.setCell ?_ (by simp) _)
     ·by_cases hB:(f=0/\f'=0)/\0<m/\m'<0
      ·have hR:=HS.out
       rw[if_neg (λe=>hA ⟨by have:=congrArg Prod.snd e;exact this,by have:=congrArg Prod.fst e;exact this⟩),if_pos hB] at hR;subst hR;obtain⟨⟨rfl,rfl⟩,g1,g2⟩:=hB;have g3:(m'==0)=false:=by simp;omega
       clear HS hf hf' HX HO1 hA;go_wp2_with fail;have hB7:=E5.out;refine bodyPost_ret (v:=.tuple #[.agg #[St (A i),St (A (i+1))],.int .i64 0]) (by simp[results,Tryz.results62,go_sem,c0,c1]) rfl ⟨rfl,?_⟩
       repeat(first|exact hB7|refine Below.setCell ?_ (by simp) _)
      ·have hR:=HS.out
       rw[if_neg (λe=>hA ⟨by have:=congrArg Prod.snd e;exact this,by have:=congrArg Prod.fst e;exact this⟩),if_neg hB] at hR;have HR2:=hid hR;have HA:=hid hA;have HB:=hid hB;have HX1:=hid (congrArg Prod.fst HX.out);have HX2:=hid (congrArg Prod.snd HX.out);have g0:f'=4\/(f'=0/\(m'==0)=false/\(f=4\/(f=0/\(m<=0\/(0<m/\0<=m'))))):=by
        rcases hf' with g|g
        ·refine .inr ⟨g,by simp;omega,?_⟩
         rcases hf with k|k
         ·exact .inr ⟨k,by omega⟩
         ·exact .inl k
        ·exact .inl g
       clear HS hR hA hB c0 c1 f0 f1 hf';rcases g0 with rfl|⟨rfl,g1,rfl|⟨rfl,g2|⟨g2,g3⟩⟩⟩
       case' inl=>rcases hf with rfl|rfl
       all_goals
        clear HX HA HB;go_wp2_with fail;go_roundw
        case rel=>exact⟨i+1,by omega,by go_num,rfl,by rw[<-HX1.out],by rw[<-HX2.out],HR2,E5,B5⟩
        case measure=>simp[zL];omega
    ·obtain rfl:i=K:=by omega
     have hd:¬(i:Int)<(n:Int)+4:=by have:=HK.out;omega
     have hR:R=none:=by have:=HS.out;rw[Nat.sub_self] at this;exact this.symm
     subst hR;have c0:wr.cell? ⟨w.heap.size,0,none⟩=some (St []):=by rw[zJ B3.out];rfl
     have c1:wr.cell? ⟨w.heap.size,1,none⟩=some (St []):=by rw[zJ B3.out];rfl
     have f0:=Go.Joins.unfrozen_of_block B3.out 0;have f1:=Go.Joins.unfrozen_of_block B3.out 1;go_wp2_with fail;have hB7:=E3.out;refine bodyPost_ret (v:=.tuple #[.agg #[St [],St []],.int .i64 4]) (by simp[results,Tryz.results62,go_sem,c0,c1]) rfl ⟨rfl,?_⟩
     repeat(first|exact hB7|refine Below.setCell ?_ (by simp) _)
end
section
open Go.RowKit Go.Shelf Lib Str Limb
attribute [local go_sem] Oper.semAt_some
theorem z8y:zaa B9 1=[1]:=(zqq (B:=B9) (by decide) [1] (by intro x hx;simp at hx;subst hx;decide) (.inr ⟨[],1,rfl,by decide⟩)).symm
structure DvS (W0:zA) (Q R Y:Nat) (b:Nat×Value×Value) (f:Nat->Bool) (W:zA):Prop where
 bel:qL W0 W
 h1:f 1=true->Sl W (.slice (some ⟨b.1,0,none⟩) 1 1) ((zaa B9 1).map I)
 h2:f 2=true->(∃p k c,b.2.1=.slice p k c)/\Sl W b.2.1 ((zaa B9 (Q+1)).map I)
 h6:f 6=true->(∃p k c,b.2.2=.slice p k c)/\Sl W b.2.2 ((zaa B9 (Y-R)).map I)
theorem DvS.congr {W0:zA} {Q R Y:Nat} {b:Nat×Value×Value} {f g:Nat->Bool} {W:zA} (h:DvS W0 Q R Y b f W) (e1:g 1=f 1) (e2:g 2=f 2) (e6:g 6=f 6):DvS W0 Q R Y b g W:=⟨h.bel,by rw[e1];exact h.h1,by rw[e2];exact h.h2,by rw[e6];exact h.h6⟩
theorem DvS.next {W0:zA} {Q R Y:Nat} {b:Nat×Value×Value} {f:Nat->Bool} {W W':zA} (h:DvS W0 Q R Y b f W) (hb:qL W W'):DvS W0 Q R Y b f W':=
 ⟨h.bel.trans (hb.mono h.bel.size),λe=>(h.h1 e).below hb,λe=>⟨(h.h2 e).1,(h.h2 e).2.below hb⟩,λe=>⟨(h.h6 e).1,(h.h6 e).2.below hb⟩⟩
theorem z7w (x y q r:Int) (hx0:x<0) (hy0:0<y) (hz:0<x.natAbs%y.natAbs) (hq: -((x.natAbs/y.natAbs+1:Nat):Int)=q) (hr:((y.natAbs-x.natAbs%y.natAbs:Nat):Int)=r) (hx:digs x<=300) (hy:digs y<=300) (h:18<(zE x).length\/18<(zE y).length) (w:zA) (hw:Wd w):
 qJ 111 #[St (zE x),St (zE y)] w (.tuple #[St (zE q),St (zE r),.int .i64 0]):=by
 have hb:=λW=>zdh x y hx hy W;have hs:=λW=>ze8 x y h W;have r1:=λW=>zc3 x W (by omega);have r2:=λW=>zc3 y W (by omega);have l1:=zb4 (z:=x) (k:=100) (by omega) (by omega);have l2:=zb4 (z:=y) (k:=100) (by omega) (by omega);have hqd:digs q<=300:=by
  have hqa:q.natAbs<=x.natAbs:=by
   rw[<-hq,Int.natAbs_neg,Int.natAbs_natCast];rcases Nat.lt_or_ge 1 y.natAbs with h1|h1
   ·exact Nat.div_lt_self (by omega) h1
   ·rw[show y.natAbs=1 by omega,Nat.mod_one] at hz;omega
  rw[za3 _ _ (by omega)] at hx⊢;exact Nat.lt_of_le_of_lt hqa hx
 have hrd:digs r<=300:=by
  have hra:r.natAbs<=y.natAbs:=by rw[<-hr,Int.natAbs_natCast];omega
  rw[za3 _ _ (by omega)] at hy⊢;exact Nat.lt_of_le_of_lt hra hy
 have lr:=zd6 (B:=B9) (by decide) (Nat.mod_le x.natAbs y.natAbs);have hyn:(zE y==[48])=false:=by rw[beq_eq_false_iff_ne,<-zb9];exact λh=>by have:=zdo h;omega
 have hne:¬zE y=[48]:=by simpa using hyn
 have hm0:y.natAbs≠0:=by omega
 have lq:=zd6 (B:=B9) (by decide) (Nat.div_le_self x.natAbs y.natAbs);have HB:=hid hb;clear hb;have HS:=hid hs;clear hs hx hy h;have HW:=hid hw;clear hw;have R1:=hid r1;have R2:=hid r2;clear r1 r2;have S1:=hid hq;have S2:=hid hr;clear hq hr;go_enter Tryz.func111,Tryz.ntmps111;go_wp21;refine zzM (HB.out w) λw1 hB1=>?_;go_wp21;refine(HS.out w1).mono ?_;rintro e w2 ⟨rfl,rfl⟩;go_wp21;refine(R1.out w1).mono ?_;rintro e w2 ⟨vx,rfl,hvx,hb2⟩;have hB2:=hB1.trans (hb2.mono hB1.size);clear hb2 hB1;obtain⟨px,kx,cx,rfl, -⟩:=zbx hvx;have HVX:=hid hvx;clear hvx;go_wp21;refine(R2.out w2).mono ?_;rintro e w3 ⟨vy,rfl,hvy,hb3⟩;have hvx:=HVX.out.below hb3;have hB3:=hB2.trans (hb3.mono hB2.size);clear hb3 hB2 HVX;obtain⟨py,ky,cy,rfl, -⟩:=zbx hvy;have HVX:=hid hvx;have HVY:=hid hvy;clear hvx hvy;have hby2:decide (y<0)=false:=by simp;omega
 have hbx2:decide (x<0)=true:=by simp;omega
 rw[hby2,hbx2] at*
 clear hbx2 hby2;go_wp21;have hB4:=(hB3.alloc hB3.size (.cells #[.bool true,.slice px kx cx] 148)).alloc (by have:=hB3.size;simp;omega) (.cells #[.bool false,.slice py ky cy] 148);have hb4:qL w3 ((w3.alloc (.cells #[.bool true,.slice px kx cx] 148)).alloc (.cells #[.bool false,.slice py ky cy] 148)):=((zM _ _).alloc (zN _) _).alloc (by simp) _;have b1k:=(Below.heap_alloc (w3.alloc (.cells #[.bool true,.slice px kx cx] 148)) (.cells #[.bool false,.slice py ky cy] 148) w3.heap.size (by simp)).trans (zG w3 (.cells #[.bool true,.slice px kx cx] 148));have b2k:=zG (w3.alloc (.cells #[.bool true,.slice px kx cx] 148)) (.cells #[.bool false,.slice py ky cy] 148);rw[zH] at b2k;refine(znf (.slice px kx cx) (.slice py ky cy) _ _ _ (HVX.out.below hb4) (HVY.out.below hb4) (by omega) (by omega) hm0).mono ?_;rintro e w5 ⟨v1,v2,rfl,hs1,hs2,hb5⟩;obtain⟨p1,k1,c1,rfl, -⟩:=zbx hs1;obtain⟨p2,k2,c2,rfl,hk2⟩:=zbx hs2;have hk0:0<(k2:Int):=by
  rw[hk2];have:(zaa B9 (x.natAbs%y.natAbs)).length≠0:=λe=>by
   have:=zam (B:=B9) (by decide) (x.natAbs%y.natAbs);rw[List.length_eq_zero_iff.1 e] at this;simp[valL] at this;omega
  omega
 clear hk2;have hB5:=hB4.trans (hb5.mono hB4.size);have b1k:=(hb5.block w3.heap.size (by simp only[zH];omega)).trans b1k;have b2k:=(hb5.block (w3.heap.size+1) (by simp only[zH];omega)).trans b2k;have c1k:w5.cell? ⟨w3.heap.size,0,none⟩=some (.bool true):=by simp[World.cell?,b1k]
 have c2k:w5.cell? ⟨w3.heap.size+1,0,none⟩=some (.bool false):=by simp[World.cell?,b2k]
 have lz:w3.heap.size+1<w5.heap.size:=(Array.getElem?_eq_some_iff.1 b2k).1;have e1k:w5.cell? ⟨w3.heap.size+1,1,none⟩=some (.slice py ky cy):=by simp[World.cell?,b2k]
 have HV1:=hid hs1;have HV2:=hid hs2;have HV3:=hid ((HVY.out.below hb4).below hb5);have C1:=hid c1k;have C2:=hid c2k;have C3:=hid e1k;have LZ:=hid lz;clear hb4 hB4 hb5 hs1 hs2 hB3 HVX HVY b1k b2k;go_wp21;generalize ht:w3.heap.size+1=t at*
 have HT:=hid ht;clear ht;have hQ9:(zaa B9 (x.natAbs/y.natAbs)).length<=1000:=by omega
 have hY9:(zaa B9 y.natAbs).length<=1000:=by omega
 have hR9:(zaa B9 (x.natAbs%y.natAbs)).length<=1000:=by omega
 have hRY:x.natAbs%y.natAbs<=y.natAbs:=zT (Nat.mod_lt _ (by omega));obtain⟨Q,hQ⟩:=zzX (x.natAbs/y.natAbs);obtain⟨R,hR⟩:=zzX (x.natAbs%y.natAbs);obtain⟨Y,hY⟩:=zzX y.natAbs;rw[<-hQ] at HV1 S1 hQ9;rw[<-hR] at HV2 hR9 hRY;rw[<-hY] at HV3 hY9 hRY;rw[<-hR,<-hY] at S2;refine zc4 (λ(b:Nat×Value×Value) i=>([.slice p1 k1 c1,.slice (some ⟨b.1,0,none⟩) 1 1,b.2.1,.pointer (some ⟨t,1,none⟩),.slice py ky cy,.slice p2 k2 c2,b.2.2,b.2.1,b.2.2]:List Value)[i]?.getD undef)
  (DvS w5 Q R Y) (by kernel_rfl) (by kernel_rfl) (0,.slice none 0 0,.slice none 0 0) ⟨(zM _ w5).drew,λk=>(by cases k),λk=>(by cases k),λk=>(by cases k)⟩ λb=>?_
 refine qB (.slice p1 k1 c1) (λf W' h=>h.congr rfl rfl rfl) ?_;simp only[zzQ]
 refine zdc (.slice (some ⟨b.1,0,none⟩) 1 1) (by rfl) (by rfl) (λf W' hf h C' hC'=>by
  have h1:=hf.self;have h2:=hf.no (j:=2) hf.self (by kernel_rfl);have hn:qL W' (W'.alloc (.cells #[.int .i64 1] 3)):=(zM _ W').alloc (zN _) _;have:=hC' (W'.heap.size,b.2) (W'.alloc (.cells #[.int .i64 1] 3)) (λi hi=>?_) ⟨(h.next hn).bel,λ_=>by rw[z8y];exact zwi W' 1 _ rfl,λk=>(h.next hn).h2 (by simpa using k),λk=>(h.next hn).h6 (by simpa using k)⟩
  ·go_simp
   exact this
  ·match i,hi with
   |0,_|2,_|3,_|4,_|5,_|6,_|7,_|8,_=>rfl
   |1,hi=>rw[h1] at hi;cases hi
   |_+9,_=>rfl) ?_
 try simp only[zzQ]
 refine zdc b.2.1 (by rfl) (by rfl) (λf W' hf h C' hC'=>by
  have h1:=hf.done 1 (by kernel_rfl);have h2:=hf.self;have h7:=hf.no (j:=7) hf.self (by kernel_rfl);go_simp;refine(z09 (.slice p1 k1 c1) (.slice (some ⟨b.1,0,none⟩) 1 1) Q 1 W' (HV1.out.below h.bel) (h.h1 h1) hQ9 (by rw[z8y];simp)).mono ?_;rintro e w' ⟨p,c,k,rfl,hs,hb⟩;refine⟨_,rfl,hC' (b.1,.slice p k c,b.2.2) w' (λi hi=>?_) ⟨(h.next hb).bel,λk=>(h.next hb).h1 (by simpa using k),λ_=>⟨⟨p,k,c,rfl⟩,hs⟩,λk=>(h.next hb).h6 (by simpa using k)⟩⟩
  match i,hi with
  |0,_|1,_|3,_|4,_|5,_|6,_|8,_=>rfl
  |2,hi=>rw[h2] at hi;cases hi
  |7,hi=>rw[h7] at hi;cases hi
  |_+9,_=>rfl) ?_
 refine qB (.pointer (some ⟨t,1,none⟩)) (λf W' h=>h.congr rfl rfl rfl) ?_;refine qB (.slice py ky cy) (λf W' h=>h.congr rfl rfl rfl) ?_ (hy:=λf W' hf h=>by have g:=(h.bel.cell (p:=⟨t,1,none⟩) (by show t<w5.heap.size;have:=LZ.out;omega)).trans C3.out;go_simp);simp only[zzQ];refine qB (.slice p2 k2 c2) (λf W' h=>h.congr rfl rfl rfl) ?_;simp only[zzQ]
 refine zdc b.2.2 (by rfl) (by rfl) (λf W' hf h C' hC'=>by
  have h6:=hf.self;have h8:=hf.no (j:=8) hf.self (by kernel_rfl);go_simp;refine(zq3 (.slice py ky cy) (.slice p2 k2 c2) Y R W' (HV3.out.below h.bel) (HV2.out.below h.bel) hY9 hR9 hRY).mono ?_;rintro e w' ⟨p,c,k,rfl,hs,hb⟩;refine⟨_,rfl,hC' (b.1,b.2.1,.slice p k c) w' (λi hi=>?_) ⟨(h.next hb).bel,λk=>(h.next hb).h1 (by simpa using k),λk=>(h.next hb).h2 (by simpa using k),λ_=>⟨⟨p,k,c,rfl⟩,hs⟩⟩⟩
  match i,hi with
  |0,_|1,_|2,_|3,_|4,_|5,_|7,_=>rfl
  |6,hi=>rw[h6] at hi;cases hi
  |8,hi=>rw[h8] at hi;cases hi
  |_+9,_=>rfl) ?_
 refine qB (b.2.1) (λf W' h=>h.congr rfl rfl rfl) ?_;refine qB (b.2.2) (λf W' h=>h.congr rfl rfl rfl) ?_;simp only[zzQ];refine ze1 λf X hf h=>?_;obtain⟨⟨q1,d1,m1,e1⟩,hs1⟩:=h.h2 (hf 2 (by decide));obtain⟨⟨q2,d2,m2,e2⟩,hs2⟩:=h.h6 (hf 6 (by decide));have hB6:=hB5.trans (h.bel.mono hB5.size);have g1:=(h.bel.cell (p:=⟨w3.heap.size,0,none⟩) (by show w3.heap.size<w5.heap.size;have:=LZ.out;have:=HT.out;omega)).trans C1.out;have g2:=(h.bel.cell (p:=⟨t,0,none⟩) (by show t<w5.heap.size;have:=LZ.out;omega)).trans C2.out;obtain⟨b0,b1,b2⟩:=b;dsimp only at e1 e2;subst e1;subst e2;have HV1':=hid hs1;have HV2':=hid hs2;have LX:=hid h.bel.size;have lQ:(zaa B9 (Q+1)).length<=1000:=by
  have:=zb4 (z:=q) (k:=100) (by omega) (by omega);rw[<-S1.out,Int.natAbs_neg,Int.natAbs_natCast] at this;omega
 have lR:(zaa B9 (Y-R)).length<=1000:=by
  have:=zb4 (z:=r) (k:=100) (by omega) (by omega);rw[<-S2.out,Int.natAbs_natCast] at this;omega
 have rs:=zez true (.slice q1 d1 m1) (Q+1) X (HW.out.below hB6) HV1'.out lQ;rw[show sgn true (Q+1)=q from S1.out,zcf hqd,zcg hqd] at rs;have RS:=hid rs;clear rs;have E6:=hid hB6;have G1:=hid g1;have G2:=hid g2;clear hf h hs1 hs2 HV1 HV2 HV3 C1 C2 C3 c1k c2k e1k hB5 hB6 HV1';go_wp21;refine zzM RS.out λw6 hb6=>?_;have g2:=(hb6.cell (p:=⟨t,0,none⟩) (by show t<X.heap.size;have:=LZ.out;have:=LX.out;omega)).trans G2.out;have E7:=hid (E6.out.trans (hb6.mono E6.out.size));have rt:=zez false (.slice q2 d2 m2) (Y-R) w6 (HW.out.below E7.out) (HV2'.out.below hb6) lR;rw[show sgn false (Y-R)=r from S2.out,zcf hrd,zcg hrd] at rt;have RT:=hid rt;clear rt hb6 g1 E6;go_wp21;refine zzM RT.out λw7 hb7=>?_;have E8:=hid (E7.out.trans (hb7.mono E7.out.size));clear hb7 E7;go_wp21;go_ret3;exact⟨rfl,E8.out⟩
theorem z4s (x y q r:Int) (hx0:x<0) (hy0:0<y) (hd:x.tdiv y=q+1) (hm:x.tmod y=r-y) (hr:0<r/\r<y) (hqa: -1000000000000000001<q/\q<0) (hx:(zE x).length<=18) (hy:(zE y).length<=18) (w:zA) (hw:Wd w):
 qJ 111 #[St (zE x),St (zE y)] w (.tuple #[St (zE q),St (zE r),.int .i64 0]):=by
 obtain⟨x1,x2⟩:=lt18 hx;obtain⟨y1,y2⟩:=lt18 hy;have hb:=λW=>zdh x y (zO (zbf (by omega)) (by omega)) (zO (zbf (by omega)) (by omega)) W;have hs:=λW=>zdy x y hx hy W;have hit:=λW hW=>zb3 q (by omega) (by omega) W hW;have hiz:=λW hW=>zb3 r (by omega) (by omega) W hW;have w1:IntKind.i64.wrap (x.tdiv y)=q+1:=by rw[hd];exact zI _ (by omega)
 have w2:IntKind.i64.wrap (x.tmod y)=r-y:=by rw[hm];exact zI _ (by omega)
 have w3:wrap64 q=q:=by unfold wrap64;omega
 have w4:wrap64 (x.tmod y+y)=r:=by rw[hm];unfold wrap64;omega
 have hz:¬x.tmod y=0:=by omega
 have hrn:x.tmod y<0:=by omega
 have hyl:decide (y<0)=false:=decide_eq_false (by omega);have hyn:(zE y==[48])=false:=by rw[beq_eq_false_iff_ne,<-zb9];exact λh=>by have:=zdo h;omega
 have hne:¬zE y=[48]:=by simpa using hyn
 have hy1:¬y=0:=by omega
 have HB:=hid hb;clear hb;have HIT:=hid hit;clear hit;have HIZ:=hid hiz;clear hiz;have HS:=hid hs;clear hs;have HQD:=hid hd;have HMD:=hid hm;clear hx hy hd hm hqa hr x1 x2 y1 y2;have HW:=hid hw;clear hw;go_enter Tryz.func111,Tryz.ntmps111;go_wp21;refine zzM (HB.out w) λw3 hB1=>?_;go_wp21;refine zzM (HS.out w3) λw4 hb2=>?_;have hB2:=hB1.trans (hb2.mono hB1.size);clear hb2 hB1;go_wp21
 (refine wp_region_quiet_lit (by kernel_rfl) (by kernel_rfl) (WQ.out ?_);(repeat(first|(apply WQ.read (by rfl);(focus(rintro W ⟨n,rfl⟩;go_simp;try with_reducible rfl));try simp only[zzQ])|(apply WQ.skip (by rfl);try simp only[zzQ])));refine WQ.nil ?_;rintro _ ⟨nq,rfl⟩)
 have hB3:=hid (zao hB2 nq);clear hB2;go_wp21;refine zzM (HIT.out (w4.drewN nq) (HW.out.below hB3.out)) λw5 hb5=>?_;have hB5:=hid (hB3.out.trans (hb5.mono hB3.out.size));clear hb5 hB3;go_wp21;refine zzM (HIZ.out w5 (HW.out.below hB5.out)) λw6 hb6=>?_;have hB6:=hid (hB5.out.trans (hb6.mono hB5.out.size));clear hb6 hB5;go_wp21;go_ret3;exact⟨rfl,hB6.out⟩
theorem z8m (s:ByteArray) (n d q:Int) (hn:0<=n) (hd:0<d) (hq:n.tdiv d=q) (hn2:n<100000000) (hd2:d<100000000) (hq2:0<=q/\q<=n)
 (N:Hid (∀W:zA,qJ 66 #[.string s] W (.tuple #[.agg #[.int .i64 n,.int .i64 d],.bool true]))) (w:zA) (HW:Hid (Wd w)):
 qJ 257 #[.string s] w (.tuple #[St (zE q),.int .i64 0]):=by
 have hit:=λW hW=>zb3 q (by omega) (by omega) W hW;have w1:IntKind.i64.wrap (n.tdiv d)=q:=by rw[hq];exact zI _ (by omega)
 have w2:IntKind.i64.wrap (n.tmod d)=n.tmod d:=by
  rw[Int.tmod_eq_emod_of_nonneg hn];have h1:=Int.emod_lt_of_pos n hd;have h2:=Int.emod_nonneg n (show d≠0 by omega);exact zI _ (by omega)
 have hrn:decide (n%d<0)=false:=decide_eq_false (by have:=Int.emod_nonneg n (show d≠0 by omega);omega);have hrn2:decide (n.tmod d<0)=false:=by rw[Int.tmod_eq_emod_of_nonneg hn];exact hrn
 have hd0:¬d=0:=by omega
 have HIT:=hid hit;clear hit hq hq2;go_enter Tryz.func257,Tryz.ntmps257;go_wp21;refine zzM (N.out w) λy1 hb1=>?_;obtain⟨v1,hv⟩:=zzX (y1.alloc (.cells #[.int .i64 n,.int .i64 d] 69));have a1:qL y1 v1:=by rw[hv];exact(zM _ y1).alloc (zN _) _
 have A1:v1.heap[y1.heap.size]? =some (.cells #[.int .i64 n,.int .i64 d] 69 (0,0)):=by rw[hv];exact zG y1 _
 have k0:v1.cell? ⟨y1.heap.size,0,none⟩=some (.int .i64 n):=by rw[zJ A1];rfl
 have k1:v1.cell? ⟨y1.heap.size,1,none⟩=some (.int .i64 d):=by rw[zJ A1];rfl
 rw[hv] at k0 k1;have E1:=hid (hb1.trans (a1.mono hb1.size));have HV:=hid hv.symm;clear hv a1 A1 hb1;go_wp21;rw[HV.out];clear k0 k1 HV;refine zzM (HIT.out v1 (HW.out.below E1.out)) λy2 hb2=>?_;have E2:=hid (E1.out.trans (hb2.mono E1.out.size));clear hb2;go_wp21;go_ret2;exact⟨rfl,E2.out⟩
theorem z3h (a b:Nat) (hb:0<b) (hz:0<a%b):(-(a:Int))/(b:Int)= -((a/b+1:Nat):Int)/\(-(a:Int))%(b:Int)=((b-a%b:Nat):Int)/\(-(a:Int)).tdiv (b:Int)= -((a/b:Nat):Int)/\(-(a:Int)).tmod (b:Int)= -((a%b:Nat):Int):=by
 have h1:=Nat.div_add_mod a b;have h2:=Nat.mod_lt a hb;have h3:(b:Int)*(-((a/b+1:Nat):Int))+((b-a%b:Nat):Int)= -(a:Int):=by
  have h1':(b:Int)*((a/b:Nat):Int)+((a%b:Nat):Int)=(a:Int):=by exact_mod_cast h1
  have h4:((b-a%b:Nat):Int)=(b:Int)-((a%b:Nat):Int):=by omega
  have h5:((a/b+1:Nat):Int)=((a/b:Nat):Int)+1:=by omega
  rw[h4,h5,Int.mul_neg,Int.mul_add,Int.mul_one];omega
 obtain⟨e1,e2⟩:=(Int.ediv_emod_unique (a:= -(a:Int)) (b:=(b:Int)) (r:=((b-a%b:Nat):Int)) (q:= -((a/b+1:Nat):Int)) (by omega)).2 ⟨by omega,by omega,by omega⟩;refine⟨e1,e2,?_,?_⟩
 ·rw[Int.neg_tdiv,Int.ofNat_tdiv]
 ·rw[Int.neg_tmod,Int.ofNat_tmod]
theorem z9p (x y:Int) (hy0:0<y) (hx:digs x<=300) (hy:digs y<=300) (w:zA) (hw:Wd w):
 qJ 111 #[St (zE x),St (zE y)] w (.tuple #[St (zE (x/y)),St (zE (x%y)),.int .i64 0]):=by
 obtain⟨b,rfl⟩:∃b:Nat,y=(b:Int):=⟨y.natAbs,by omega⟩;have hb:0<b:=by omega
 rcases(show 0<=x\/x<0 by omega) with h|h
 ·obtain⟨a,rfl⟩:∃a:Nat,x=(a:Int):=⟨x.natAbs,by omega⟩
  rw[zd9] at hx hy;have:=zzn a b hb hx hy w hw;rw[<-Str.zad a,<-Str.zad b,<-Str.zad (a/b),<-Str.zad (a%b)] at this;exact this
 ·obtain⟨a,rfl⟩:∃a:Nat,x= -(a:Int):=⟨x.natAbs,by omega⟩
  have h2:=Nat.mod_lt a hb;rcases Nat.eq_zero_or_pos (a%b) with hz|hz
  ·have e0:(-(a:Int))%(b:Int)=0:=Int.emod_eq_zero_of_dvd (Int.dvd_neg.2 (Int.natCast_dvd_natCast.2 (Nat.dvd_of_mod_eq_zero hz)))
   have e1: -(a:Int)=(-(a:Int))/(b:Int)*(b:Int):=by have:=Int.mul_ediv_add_emod (-(a:Int)) (b:Int);rw[e0,Int.mul_comm] at this;omega
   rw[e0,zb9];exact zky _ _ _ e1 hy0 hx hy w hw
  ·obtain⟨d1,d2,d3,d4⟩:=z3h a b hb hz
   rw[d1,d2];by_cases hl:(zE (-(a:Int))).length<=18/\(zE (b:Int)).length<=18
   ·obtain⟨x1,x2⟩:=lt18 hl.1
    have hle:=Nat.div_le_self a b;refine z4s _ _ _ _ h hy0 ?_ ?_ ?_ ?_ hl.1 hl.2 w hw
    ·rw[d3];generalize a/b=k;omega
    ·rw[d4];clear d1 d2 d3 d4;generalize a%b=m at*;omega
    ·clear d1 d2 d3 d4;generalize a%b=m at*;omega
    ·clear d1 d2 d3 d4;generalize a/b=k at*;omega
   ·exact z7w _ _ _ _ h hy0 (by rw[Int.natAbs_neg,Int.natAbs_natCast,Int.natAbs_natCast];exact hz) (by rw[Int.natAbs_neg,Int.natAbs_natCast,Int.natAbs_natCast]) (by rw[Int.natAbs_neg,Int.natAbs_natCast,Int.natAbs_natCast]) hx hy (by omega) w hw
theorem z3i (s:ByteArray) (n d q:Int) (hn:n<0) (hd:0<d) (hq:(n.tmod d=0/\n.tdiv d=q)\/(n.tmod d<0/\n.tdiv d=q+1)) (hn2: -100000000<n) (hd2:d<100000000) (hq2:n<=q/\q<0)
 (N:Hid (∀W:zA,qJ 66 #[.string s] W (.tuple #[.agg #[.int .i64 n,.int .i64 d],.bool true]))) (w:zA) (HW:Hid (Wd w)):
 qJ 257 #[.string s] w (.tuple #[St (zE q),.int .i64 0]):=by
 have hit:=λW hW=>zb3 q (by omega) (by omega) W hW;have w1:IntKind.i64.wrap (n.tdiv d)=n.tdiv d:=zI _ (by omega);have hml: -d<n.tmod d/\n.tmod d<d:=by have:=Int.tmod_lt_of_pos n hd;have:=Int.lt_tmod_of_pos n hd;omega
 have w2:IntKind.i64.wrap (n.tmod d)=n.tmod d:=zI _ (by omega);have hd0:¬d=0:=by omega
 have HIT:=hid hit;clear hit hml;obtain⟨v,hv⟩:=zzX (n.tdiv d);rcases hq with⟨g,hq⟩|⟨g,hq⟩
 case' inl=>have g1:decide (n.tmod d<0)=false:=decide_eq_false (by omega);have g2:¬n.tmod d<0:=by omega
 case' inr=>have g1:wrap64 (n.tdiv d-1)=q:=by unfold wrap64;omega
 all_goals
  have HQ:=hid hq;clear hq hq2 hv;go_enter Tryz.func257,Tryz.ntmps257;go_wp21;refine zzM (N.out w) λy1 hb1=>?_;obtain⟨v1,hv⟩:=zzX (y1.alloc (.cells #[.int .i64 n,.int .i64 d] 69));have a1:qL y1 v1:=by rw[hv];exact(zM _ y1).alloc (zN _) _
  have A1:v1.heap[y1.heap.size]? =some (.cells #[.int .i64 n,.int .i64 d] 69 (0,0)):=by rw[hv];exact zG y1 _
  have k0:v1.cell? ⟨y1.heap.size,0,none⟩=some (.int .i64 n):=by rw[zJ A1];rfl
  have k1:v1.cell? ⟨y1.heap.size,1,none⟩=some (.int .i64 d):=by rw[zJ A1];rfl
  rw[hv] at k0 k1;have E1:=hid (hb1.trans (a1.mono hb1.size));have HV:=hid hv.symm;clear hv a1 A1 hb1;go_wp21;rw[HV.out];clear k0 k1 HV
  try rw[HQ.out]
  refine zzM (HIT.out v1 (HW.out.below E1.out)) λy2 hb2=>?_;have E2:=hid (E1.out.trans (hb2.mono E1.out.size));clear hb2;go_wp21;go_ret2;exact⟨rfl,E2.out⟩
theorem z7x (s u v q r:List UInt8)
 (N:Hid (qK 66 #[St s] (.tuple #[.agg #[.int .i64 0,.int .i64 0],.bool false])))
 (RD:Hid (qK 68 #[St s] (.tuple #[.agg #[St u,St v],.int .i64 0])))
 (DV:Hid (qK 111 #[St u,St v] (.tuple #[St q,St r,.int .i64 0]))) (w:zA) (HW:Hid (Wd w)):
 qJ 257 #[St s] w (.tuple #[St q,.int .i64 0]):=by
 go_enter Tryz.func257,Tryz.ntmps257;go_wp21;refine zzM (N.out w HW.out) λy1 hb1=>?_;have a1:qL y1 (y1.alloc (.cells #[.int .i64 0,.int .i64 0] 69)):=(zM _ y1).alloc (zN _) _;have E1:=hid (hb1.trans (a1.mono hb1.size));clear hb1 a1;go_wp21;refine zzM (RD.out _ (HW.out.below E1.out)) λy2 hb2=>?_;obtain⟨v1,hv⟩:=zzX (y2.alloc (.cells #[St u,St v] 76));have a1:qL y2 v1:=by rw[hv];exact(zM _ y2).alloc (zN _) _
 have A1:v1.heap[y2.heap.size]? =some (.cells #[St u,St v] 76 (0,0)):=by rw[hv];exact zG y2 _
 have k0:v1.cell? ⟨y2.heap.size,0,none⟩=some (St u):=by rw[zJ A1];rfl
 have k1:v1.cell? ⟨y2.heap.size,1,none⟩=some (St v):=by rw[zJ A1];rfl
 rw[hv] at k0 k1;have E2:=hid ((E1.out.trans (hb2.mono E1.out.size)).trans (a1.mono (E1.out.trans (hb2.mono E1.out.size)).size));have HV:=hid hv.symm;clear hv a1 A1 hb2 E1;go_wp21;have h9:=HV.out;rw[show y2.alloc (.cells #[.string ⟨u.toArray⟩,.string ⟨v.toArray⟩] 76)=v1 from h9];clear k0 k1 HV h9;refine zzM (DV.out v1 (HW.out.below E2.out)) λy3 hb3=>?_;have E3:=hid (E2.out.trans (hb3.mono E2.out.size));clear hb3;go_wp21;go_ret2;exact⟨rfl,E3.out⟩
def floQ (q:Rat):Int:=q.num/(q.den:Int)
theorem z9q (q:Rat) (k:Nat) (hk:0<k) (hk3:k<=300) (h:sz q k) (w:zA) (hw:Wd w):
 qJ 257 #[St (numS q)] w (.tuple #[St (numS ((floQ q:Int):Rat)),.int .i64 0]):=by
 have hd:=q.den_pos;rw[zha];have ok:=zd0 hk hk3 h;by_cases hs:zbb q
 ·have h1:=(zaf q.num.natAbs 8 (by omega)).1 hs.1
  have h2:=(zaf q.den 8 (by omega)).1 hs.2;rcases(show 0<=q.num\/q.num<0 by omega) with hn|hn
  ·have e:q.num.tdiv (q.den:Int)=floQ q:=Int.tdiv_eq_ediv_of_nonneg hn
   have hb:0<=floQ q/\floQ q<=q.num:=⟨Int.ediv_nonneg hn (by omega),Int.ediv_le_self _ hn⟩;exact z8m ⟨(numS q).toArray⟩ q.num q.den (floQ q) hn (by omega) e (by omega) (by omega) hb (hid λW=>zbm q hs W) w (hid hw)
  ·obtain⟨a,ha⟩:∃a:Nat,q.num= -(a:Int):=⟨q.num.natAbs,by omega⟩
   have ha0:0<a:=by omega
   have hle:=Nat.div_le_self a q.den;rcases Nat.eq_zero_or_pos (a%q.den) with hz|hz
   ·have hdv:=Nat.dvd_of_mod_eq_zero hz
    have hk1:1<=a/q.den:=Nat.div_pos (Nat.le_of_dvd ha0 hdv) hd;have e1:floQ q= -((a/q.den:Nat):Int):=by
     unfold floQ;rw[ha,Int.neg_ediv_of_dvd (Int.natCast_dvd_natCast.2 hdv)];rfl
    exact z3i ⟨(numS q).toArray⟩ q.num q.den (floQ q) hn (by omega) (.inl ⟨by rw[ha,Int.neg_tmod,<-Int.ofNat_tmod,hz];rfl,by rw[e1,ha,Int.neg_tdiv,Int.ofNat_tdiv]⟩) (by omega) (by omega) ⟨by omega,by omega⟩ (hid λW=>zbm q hs W) w (hid hw)
   ·obtain⟨d1,d2,d3,d4⟩:=z3h a q.den hd hz
    have e1:floQ q= -((a/q.den+1:Nat):Int):=by unfold floQ;rw[ha,d1]
    have hd2:2<=q.den:=by
     rcases(show q.den=1\/2<=q.den by omega) with g|g
     ·rw[g,Nat.mod_one] at hz;omega
     ·exact g
    have hlt:=Nat.div_lt_self ha0 hd2;exact z3i ⟨(numS q).toArray⟩ q.num q.den (floQ q) hn (by omega) (.inr ⟨by rw[ha,d4];clear d1 d2 d3 d4 e1;generalize a%q.den=m at*;omega,by rw[e1,ha,d3];generalize a/q.den=m at*;omega⟩) (by omega) (by omega) ⟨by rw[e1,ha];generalize a/q.den=m at*;omega,by rw[e1];generalize a/q.den=m at*;omega⟩ (hid λW=>zbm q hs W) w (hid hw)
 ·refine z7x (numS q) (zE q.num) (zD q.den) _ (zE (q.num%(q.den:Int))) (hid λW _=>zb5 q hs (zO ok.1 (by omega)) (zO ok.2 (by omega)) W) (hid λW hW=>zek q ok W hW) (hid λW hW=>?_) w (hid hw)
  have:=z9p q.num (q.den:Int) (by omega) ok.1 (by rw[zd9];exact ok.2) W hW;rw[Str.zad] at this;exact this
theorem zpz {W:zA} {b:Nat} {a:Rat} (c0:W.cell? ⟨b,0,none⟩=some (St (numS a))) (c1:W.cell? ⟨b,1,none⟩=some (.string ⟨#[49]⟩)):SdL (.slice (some ⟨b,0,none⟩) 1 1) [(a,1)] W:=by
 have d1:St (zD 1)=.string ⟨#[49]⟩:=by rw[zae (by omega)];rfl
 refine .inr ⟨_,0,1,rfl,by simp,zbe c0,λi t ht=>?_⟩
 match i,ht with
 |0,ht=>
  injection ht with ht;subst ht;exact⟨c0,by rw[d1];exact c1⟩
theorem zk9 (p:Option Addr) (n cap:Nat) (hn:n<=256) (X Y x s:Nat->List UInt8) (u fine low z:List UInt8) (hs0:s 0=[48])
 (M:Hid (qK 9 #[St u,.string ⟨#[49,47,49,48,48,48]⟩] (.tuple #[St fine,.int .i64 0])))
 (T:Hid (∀i,i<n->qK 207 #[.agg #[St (X i),St (Y i)],St fine] (.tuple #[St (x i),.int .i64 0])))
 (A:Hid (∀i,i<n->qK 10 #[St (s i),St (x i)] (.tuple #[St (s (i+1)),.int .i64 0])))
 (F:Hid (qK 208 #[St (s n),St u] (.tuple #[St low,.int .i64 0])))
 (S:Hid (qK 8 #[St low,St u] (.tuple #[St z,.int .i64 0])))
 (w:zA) (HW:Hid (Wd w)) (C:Hid (∀i,i<n->∃b off,p=some ⟨b,off,none⟩/\w.cell? ⟨b,off+i*2,none⟩=some (St (X i))/\w.cell? ⟨b,off+i*2+1,none⟩=some (St (Y i)))):
 qJ 131 #[.slice p n cap,St u] w (.tuple #[St z,.int .i64 0]):=by
 have hs1:Value.string ⟨#[48]⟩=St (s 0):=by rw[hs0]
 have H0:=hid hs1;clear hs0 hs1;go_enter Tryz.func131,Tryz.ntmps131;go_wp21;refine zzM (M.out w HW.out) λw1 hb1=>?_;have D0:=hid hb1;clear hb1 M;go_wp21;go_loopw [8,24] (λv i wr=>∃(k:Nat),k<=n/\v=St (s k)/\i=.int .i64 (k:Int)/\Hid (qL w wr))
  (λ_ i _=>n-(zL i).toNat)
 case atStart=>exact⟨0,zR _,H0.out,rfl,D0⟩
 case round=>
  clear D0;obtain⟨k,hk,rfl,rfl,D1⟩:=hrel;by_cases hlt:k<n
  ·obtain⟨b,off,rfl,c0,c1⟩:=C.out k hlt
   have t0:=zai D1.out c0;have t1:=zai D1.out c1;have T1:=hid (T.out k hlt);have A1:=hid (A.out k hlt);have HS:=hid (rfl:s (k+1)=s (k+1));obtain⟨v1,hv⟩:=zzX (wr.alloc (.cells #[St (X k),St (Y k)] 37));have a1:qL wr v1:=by rw[hv];exact(zM _ wr).alloc (zN _) _
   have A2:v1.heap[wr.heap.size]? =some (.cells #[St (X k),St (Y k)] 37 (0,0)):=by rw[hv];exact zG wr _
   have k0:v1.cell? ⟨wr.heap.size,0,none⟩=some (St (X k)):=by rw[zJ A2];rfl
   have k1:v1.cell? ⟨wr.heap.size,1,none⟩=some (St (Y k)):=by rw[zJ A2];rfl
   rw[hv] at k0 k1;have HV1:=hid hv.symm;have E1:=hid (D1.out.trans (a1.mono D1.out.size));clear hv a1 A2 c0 c1 C T A F S;generalize X k=xk at*
   generalize Y k=yk at*
   generalize x k=zk at*
   generalize hsk:s k=sk at*
   generalize hsk1:s (k+1)=sk1 at*
   have HK:=hid hsk;have HK1:=hid hsk1;clear hsk hsk1 HS;go_wp21;rw[HV1.out];clear k0 k1 HV1 t0 t1;refine zzM (T1.out v1 (HW.out.below E1.out)) λw2 hb2=>?_;have E2:=hid (E1.out.trans (hb2.mono E1.out.size));clear hb2 E1 T1;go_wp21;refine zzM (A1.out w2 (HW.out.below E2.out)) λw3 hb3=>?_;have E3:=hid (E2.out.trans (hb3.mono E2.out.size));clear hb3 E2 A1;go_wp21;go_roundw
   case rel=>exact⟨k+1,by omega,by rw[HK1.out],by go_num,E3⟩
   case measure=>simp[zL];omega
  ·have hkn:k=n:=by omega
   subst hkn;have F1:=hid F.out;have S1:=hid S.out;clear C T A F S;generalize s k=sk at*
   go_wp21;refine zzM (F1.out wr (HW.out.below D1.out)) λw4 hb4=>?_;have E5:=hid (D1.out.trans (hb4.mono D1.out.size));clear hb4 D1 F1;go_wp21;refine zzM (S1.out w4 (HW.out.below E5.out)) λw5 hb5=>?_;have E6:=hid (E5.out.trans (hb5.mono E5.out.size));clear hb5 E5 S1;go_wp21;go_ret2;exact⟨rfl,E6.out⟩
theorem ya1 (p:Option Addr) (cap n:Nat) (X Y:Nat->ByteArray) (hl:n<=5000)
 (F:Hid (∀i,i<n->∀W:zA,Wd W->zC zF 129 #[.agg #[.string (X i),.string (Y i)]] W (BolQ W false)))
 (w:zA) (HW:Hid (Wd w)) (HP:Hid (RowTm p n X Y w)):
 qJ 125 #[.slice p n cap,.func (.func 129) #[] #[]] w (.int .i64 (-1)):=by
 go_enter Tryz.func125,Tryz.ntmps125;go_wp2;go_loopw [8] (λi wr=>∃(k:Nat),k<=n/\i=.int .i64 (k:Int)/\Hid (qL w wr))
  (λi _=>n-(zL i).toNat)
 case atStart=>exact⟨0,zR _,rfl,zM _ _⟩
 case round=>
  obtain⟨k,hk,rfl,hB⟩:=hrel;by_cases hlt:k<n
  ·obtain⟨b,off,rfl,c0,c1⟩:=(HP.out.keep (zac hB.out)) k hlt
   have HF:=hid (F.out k hlt wr (HW.out.below hB.out));generalize X k=x at*
   generalize Y k=y at*
   go_wp21;refine zzM HF.out λw2 hb2=>?_;have hB2:=hid (hB.out.trans (hb2.mono hB.out.size));clear hb2 HF;go_wp21;go_roundw
   case rel=>exact⟨k+1,by omega,by go_num,hB2⟩
   case measure=>simp[zL];omega
  ·have hkn:k=n:=by omega
   go_wp21;go_ret;exact⟨rfl,hB.out⟩
theorem ya2 (p:Option Addr) (cap n:Nat) (w:zA)
 (F:Hid (qJ 125 #[.slice p n cap,.func (.func 129) #[] #[]] w (.int .i64 (-1)))):
 zC zF 56 #[.slice p n cap,.func (.func 129) #[] #[]] w (BolQ w false):=by
 go_enter Tryz.func56,Tryz.ntmps56;go_wp21;refine zzM F.out λw1 hB=>?_;go_wp21;go_ret;exact⟨rfl,hB⟩
theorem z5r (p:Option Addr) (cap n:Nat) (C:zA->Prop) (hC:∀W W',C W->qL W W'->C W')
 (K:Hid (∀W:zA,C W->qJ 64 #[.slice p n cap] W (.int .i64 0)))
 (F:Hid (∀W:zA,C W->zC zF 56 #[.slice p n cap,.func (.func 129) #[] #[]] W (BolQ W false)))
 (w:zA) (H:Hid (C w)):
 qJ 61 #[.slice p n cap] w (.int .i64 0):=by
 have HC:=hid hC;clear hC;go_enter Tryz.func61,Tryz.ntmps61;go_wp21;refine zzM (K.out w H.out) λw1 hb1=>?_;have B1:=hid hb1;clear hb1;go_wp21;refine zzM (F.out w1 (HC.out _ _ H.out B1.out)) λw2 hb2=>?_;have B2:=hid (B1.out.trans (hb2.mono B1.out.size));clear hb2;go_wp21;go_ret;exact⟨rfl,B2.out⟩
theorem z5w (a b:Nat) (hb:0<b) (ha:(zD a).length<=300) (hb3:(zD b).length<=300) (w:zA) (hw:Wd w):
 qJ 80 #[.agg #[St (zD a),St (zD b)]] w (St (zD (a/b))):=by
 have hd:=λW hW=>zzq a b hb ha hb3 W hW;generalize zD a=x at*
 generalize zD b=y at*
 generalize zD (a/b)=q at*
 generalize zD (a%b)=r at*
 obtain⟨v1,hv⟩:=zzX (w.alloc (.cells #[St x,St y] 123));have a1:qL w v1:=by rw[hv];exact(zM _ w).alloc (zN _) _
 have A1:v1.heap[w.heap.size]? =some (.cells #[St x,St y] 123 (0,0)):=by rw[hv];exact zG w _
 have k0:v1.cell? ⟨w.heap.size,0,none⟩=some (St x):=by rw[zJ A1];rfl
 have k1:v1.cell? ⟨w.heap.size,1,none⟩=some (St y):=by rw[zJ A1];rfl
 have HD:=hid (hd v1 (hw.below a1));rw[hv] at k0 k1;have HV:=hid hv.symm;have E1:=hid a1;clear hv a1 A1 hd hb ha hb3 hw;go_enter Tryz.func80,Tryz.ntmps80;go_wp21;rw[HV.out];clear k0 k1 HV;refine zzM HD.out λw2 hb1=>?_;have B1:=hid (E1.out.trans (hb1.mono E1.out.size));clear hb1;go_wp21;go_ret;exact⟨rfl,B1.out⟩
theorem zyk (x u z:List UInt8) (w:zA)
 (M:Hid (qJ 9 #[St x,St u] w (.tuple #[St z,.int .i64 0]))):
 qJ 300 #[St x,St u] w (St z):=by
 go_enter Tryz.func300,Tryz.ntmps300;go_wp21;refine zzM M.out λw1 hb1=>?_;have B1:=hid hb1;clear hb1;go_wp21;go_ret;exact⟨rfl,B1.out⟩
structure PrdS (w:zA) (a b c d r s:List UInt8) (f:Nat->Bool) (W:zA):Prop where
 bel:qL w W
 h0:W.heap[w.heap.size]? =some (.cells #[St a,St b] 123 (0,0))
 h1:W.heap[w.heap.size+1]? =some (.cells #[St c,St d] 123 (0,0))
 h2:f 11=false->W.heap[w.heap.size+1+1]? =some (.cells #[St [],St []] 123 (0,0))
 h3:f 11=true->W.heap[w.heap.size+1+1]? =some (.cells #[St r,St s] 123 (0,0))
section
variable {w W W':zA} {a b c d r s:List UInt8} {f g:Nat->Bool}
theorem PrdS.congr (h:PrdS w a b c d r s f W) (e:g 11=f 11):PrdS w a b c d r s g W:=⟨h.bel,h.h0,h.h1,by rw[e];exact h.h2,by rw[e];exact h.h3⟩
theorem PrdS.next (h:PrdS w a b c d r s f W) (hb:qL W W'):PrdS w a b c d r s f W':=
 have hc:=zac hb
 ⟨h.bel.trans (hb.mono h.bel.size),hc _ _ _ _ h.h0,hc _ _ _ _ h.h1,λe=>hc _ _ _ _ (h.h2 e),λe=>hc _ _ _ _ (h.h3 e)⟩
theorem PrdS.cells (h:PrdS w a b c d r s f W):W.cell? ⟨w.heap.size,0,none⟩=some (St a)/\W.cell? ⟨w.heap.size,1,none⟩=some (St b)/\W.cell? ⟨w.heap.size+1,0,none⟩=some (St c)/\W.cell? ⟨w.heap.size+1,1,none⟩=some (St d):=
 ⟨by rw[zJ h.h0];rfl,by rw[zJ h.h0];rfl,by rw[zJ h.h1];rfl,by rw[zJ h.h1];rfl⟩
theorem PrdS.soft (h:PrdS w a b c d r s f W):W.frozen? ⟨w.heap.size+1+1,0,none⟩=false/\W.frozen? ⟨w.heap.size+1+1,1,none⟩=false:=by
 cases e:f 11
 ·exact⟨Go.Joins.unfrozen_of_block (h.h2 e) 0,Go.Joins.unfrozen_of_block (h.h2 e) 1⟩
 ·exact⟨Go.Joins.unfrozen_of_block (h.h3 e) 0,Go.Joins.unfrozen_of_block (h.h3 e) 1⟩
theorem PrdS.old (h:PrdS w a b c d r s f W) (e:f 11=false):W.cell? ⟨w.heap.size+1+1,0,none⟩=some (St [])/\W.cell? ⟨w.heap.size+1+1,1,none⟩=some (St []):=
 ⟨by rw[zJ (h.h2 e)];rfl,by rw[zJ (h.h2 e)];rfl⟩
theorem PrdS.new (h:PrdS w a b c d r s f W) (e:f 11=true):W.cell? ⟨w.heap.size+1+1,0,none⟩=some (St r)/\W.cell? ⟨w.heap.size+1+1,1,none⟩=some (St s):=
 ⟨by rw[zJ (h.h3 e)];rfl,by rw[zJ (h.h3 e)];rfl⟩
theorem PrdS.put (h:PrdS w a b c d r s f W) (e:f 11=false):PrdS w a b c d r s (λj=>if 11=j then true else f j) ((W.setCell ⟨w.heap.size+1+1,0,none⟩ (St r)).setCell ⟨w.heap.size+1+1,1,none⟩ (St s)):=by
 have ne:∀{k:Nat} {o:Obj},k≠w.heap.size+1+1->W.heap[k]? =some o->((W.setCell ⟨w.heap.size+1+1,0,none⟩ (St r)).setCell ⟨w.heap.size+1+1,1,none⟩ (St s)).heap[k]? =some o:=λ{k o} hk h=>by
  rw[yE _ _ _ _ (by exact hk),yE _ _ _ _ (by exact hk)];exact h
 refine⟨(h.bel.setCell (p:=⟨w.heap.size+1+1,0,none⟩) (by show _<=w.heap.size+1+1;omega) _).setCell (p:=⟨w.heap.size+1+1,1,none⟩) (by show _<=w.heap.size+1+1;omega) _,ne (by omega) h.h0,ne (by omega) h.h1,λk=>(by simp at k),λ_=>?_⟩;have:=zK (i:=1) (zK (i:=0) (h.h2 e) (St r)) (St s);exact this
end
theorem PrdS.start (w:zA) (a b c d r s:List UInt8):PrdS w a b c d r s (λ_=>false) (((w.alloc (.cells #[St a,St b] 123)).alloc (.cells #[St c,St d] 123)).alloc (.cells #[St [],St []] 123)):=by
 refine⟨(((zM _ w).alloc (zN _) _).alloc (by simp) _).alloc (by simp;omega) _,?_,?_,λ_=>?_,λk=>(by cases k)⟩
 ·exact(Below.heap_alloc _ _ _ (by simp;omega)).trans ((Below.heap_alloc _ _ _ (by simp)).trans (zG w _))
 ·have:=zG (w.alloc (.cells #[St a,St b] 123)) (.cells #[St c,St d] 123)
  rw[zH] at this;exact(Below.heap_alloc _ _ _ (by simp)).trans this
 ·have:=zG ((w.alloc (.cells #[St a,St b] 123)).alloc (.cells #[St c,St d] 123)) (.cells #[St [],St []] 123)
  rw[zH,zH] at this;exact this
theorem z3r (a b c d r s:List UInt8)
 (M1:Hid (qK 79 #[St a,St c] (St r)))
 (M2:Hid (qK 79 #[St b,St d] (St s)))
 (w:zA) (HW:Hid (Wd w)):
 qJ 320 #[.agg #[St a,St b],.agg #[St c,St d]] w (.agg #[St r,St s]):=by
 obtain⟨v1,hv⟩:=zzX (((w.alloc (.cells #[St a,St b] 123)).alloc (.cells #[St c,St d] 123)).alloc (.cells #[St [],St []] 123));have HS0:Hid (PrdS w a b c d r s (λ_=>false) v1):=hid (by rw[hv];exact PrdS.start w a b c d r s);have HV:=hid hv.symm;obtain⟨T,hT⟩:=zzX w.heap.size;have HT:=hid hT;clear hv hT;go_enter Tryz.func320,Tryz.ntmps320;go_wp21;have h9:=HV.out;rw[show((w.alloc (.cells #[.string ⟨a.toArray⟩,.string ⟨b.toArray⟩] 123)).alloc (.cells #[.string ⟨c.toArray⟩,.string ⟨d.toArray⟩] 123)).alloc (.cells #[.string ⟨#[]⟩,.string ⟨#[]⟩] 123)=v1 from h9];clear h9 HV;refine zbl (PrdS w a b c d r s) (by kernel_rfl) (by kernel_rfl) (HS0.out.next (zM _ _).drew) ?_;refine zab (v:=.pointer (some ⟨w.heap.size,0,none⟩)) (by rfl) (λf W' h=>h.congr rfl) (λf W' hf h=>by go_simp) ?_
 try simp only[zzQ]
 refine zab (v:=St a) (by rfl) (λf W' h=>h.congr rfl) (λf W' hf h=>by obtain⟨q0,q1,q2,q3⟩:=h.cells;go_simp) ?_
 try simp only[zzQ]
 refine zab (v:=.pointer (some ⟨w.heap.size+1,0,none⟩)) (by rfl) (λf W' h=>h.congr rfl) (λf W' hf h=>by go_simp) ?_
 try simp only[zzQ]
 refine zab (v:=St c) (by rfl) (λf W' h=>h.congr rfl) (λf W' hf h=>by obtain⟨q0,q1,q2,q3⟩:=h.cells;go_simp) ?_
 try simp only[zzQ]
 refine zar (St r) (by rfl) (λf W' hf h C' hC'=>by
  go_simp;refine zzM (M1.out _ (HW.out.below h.bel)) λw' hb=>?_;exact⟨rfl,hC' _ ((h.next hb).congr rfl)⟩) ?_
 try simp only[zzQ]
 refine zab (v:=.pointer (some ⟨w.heap.size,1,none⟩)) (by rfl) (λf W' h=>h.congr rfl) (λf W' hf h=>by go_simp) ?_
 try simp only[zzQ]
 refine zab (v:=St b) (by rfl) (λf W' h=>h.congr rfl) (λf W' hf h=>by obtain⟨q0,q1,q2,q3⟩:=h.cells;go_simp) ?_
 try simp only[zzQ]
 refine zab (v:=.pointer (some ⟨w.heap.size+1,1,none⟩)) (by rfl) (λf W' h=>h.congr rfl) (λf W' hf h=>by go_simp) ?_
 try simp only[zzQ]
 refine zab (v:=St d) (by rfl) (λf W' h=>h.congr rfl) (λf W' hf h=>by obtain⟨q0,q1,q2,q3⟩:=h.cells;go_simp) ?_
 try simp only[zzQ]
 refine zar (St s) (by rfl) (λf W' hf h C' hC'=>by
  go_simp;refine zzM (M2.out _ (HW.out.below h.bel)) λw' hb=>?_;exact⟨rfl,hC' _ ((h.next hb).congr rfl)⟩) ?_
 try simp only[zzQ]
 refine zab (v:=.agg #[St r,St s]) (by rfl) (λf W' h=>h.congr rfl) (λf W' hf h=>by go_simp) ?_
 try simp only[zzQ]
 refine zar undef (by rfl) (λf W' hf h C' hC'=>by
  have h11:=hf.self;obtain⟨f0,f1⟩:=h.soft;obtain⟨f2,f3⟩:=h.old h11;go_simp;exact⟨rfl,hC' _ (h.put h11)⟩) ?_
 try simp only[Act.put]
 refine zck λf X hf h=>?_;obtain⟨c0,c1⟩:=h.new (hf 11 (by decide));have hB:=hid h.bel;clear h hf;go_wp21;exact bodyPost_ret (v:=.agg #[St r,St s]) (by simp[results,Tryz.results320,go_sem,c0,c1]) rfl ⟨rfl,hB.out⟩
theorem z5y (a b c d r s:List UInt8)
 (M1:Hid (qK 79 #[St a,St d] (St r)))
 (M2:Hid (qK 79 #[St b,St c] (St s)))
 (w:zA) (HW:Hid (Wd w)):
 qJ 319 #[.agg #[St a,St b],.agg #[St c,St d]] w (.agg #[St r,St s]):=by
 obtain⟨v1,hv⟩:=zzX (((w.alloc (.cells #[St a,St b] 123)).alloc (.cells #[St c,St d] 123)).alloc (.cells #[St [],St []] 123));have HS0:Hid (PrdS w a b c d r s (λ_=>false) v1):=hid (by rw[hv];exact PrdS.start w a b c d r s);have HV:=hid hv.symm;obtain⟨T,hT⟩:=zzX w.heap.size;have HT:=hid hT;clear hv hT;go_enter Tryz.func319,Tryz.ntmps319;go_wp21;have h9:=HV.out;rw[show((w.alloc (.cells #[.string ⟨a.toArray⟩,.string ⟨b.toArray⟩] 123)).alloc (.cells #[.string ⟨c.toArray⟩,.string ⟨d.toArray⟩] 123)).alloc (.cells #[.string ⟨#[]⟩,.string ⟨#[]⟩] 123)=v1 from h9];clear h9 HV;refine zbl (PrdS w a b c d r s) (by kernel_rfl) (by kernel_rfl) (HS0.out.next (zM _ _).drew) ?_;refine zab (v:=.pointer (some ⟨w.heap.size,0,none⟩)) (by rfl) (λf W' h=>h.congr rfl) (λf W' hf h=>by go_simp) ?_
 try simp only[zzQ]
 refine zab (v:=St a) (by rfl) (λf W' h=>h.congr rfl) (λf W' hf h=>by obtain⟨q0,q1,q2,q3⟩:=h.cells;go_simp) ?_
 try simp only[zzQ]
 refine zab (v:=.pointer (some ⟨w.heap.size+1,1,none⟩)) (by rfl) (λf W' h=>h.congr rfl) (λf W' hf h=>by go_simp) ?_
 try simp only[zzQ]
 refine zab (v:=St d) (by rfl) (λf W' h=>h.congr rfl) (λf W' hf h=>by obtain⟨q0,q1,q2,q3⟩:=h.cells;go_simp) ?_
 try simp only[zzQ]
 refine zar (St r) (by rfl) (λf W' hf h C' hC'=>by
  go_simp;refine zzM (M1.out _ (HW.out.below h.bel)) λw' hb=>?_;exact⟨rfl,hC' _ ((h.next hb).congr rfl)⟩) ?_
 try simp only[zzQ]
 refine zab (v:=.pointer (some ⟨w.heap.size,1,none⟩)) (by rfl) (λf W' h=>h.congr rfl) (λf W' hf h=>by go_simp) ?_
 try simp only[zzQ]
 refine zab (v:=St b) (by rfl) (λf W' h=>h.congr rfl) (λf W' hf h=>by obtain⟨q0,q1,q2,q3⟩:=h.cells;go_simp) ?_
 try simp only[zzQ]
 refine zab (v:=.pointer (some ⟨w.heap.size+1,0,none⟩)) (by rfl) (λf W' h=>h.congr rfl) (λf W' hf h=>by go_simp) ?_
 try simp only[zzQ]
 refine zab (v:=St c) (by rfl) (λf W' h=>h.congr rfl) (λf W' hf h=>by obtain⟨q0,q1,q2,q3⟩:=h.cells;go_simp) ?_
 try simp only[zzQ]
 refine zar (St s) (by rfl) (λf W' hf h C' hC'=>by
  go_simp;refine zzM (M2.out _ (HW.out.below h.bel)) λw' hb=>?_;exact⟨rfl,hC' _ ((h.next hb).congr rfl)⟩) ?_
 try simp only[zzQ]
 refine zab (v:=.agg #[St r,St s]) (by rfl) (λf W' h=>h.congr rfl) (λf W' hf h=>by go_simp) ?_
 try simp only[zzQ]
 refine zar undef (by rfl) (λf W' hf h C' hC'=>by
  have h11:=hf.self;obtain⟨f0,f1⟩:=h.soft;obtain⟨f2,f3⟩:=h.old h11;go_simp;exact⟨rfl,hC' _ (h.put h11)⟩) ?_
 try simp only[Act.put]
 refine zck λf X hf h=>?_;obtain⟨c0,c1⟩:=h.new (hf 11 (by decide));have hB:=hid h.bel;clear h hf;go_wp21;exact bodyPost_ret (v:=.agg #[St r,St s]) (by simp[results,Tryz.results319,go_sem,c0,c1]) rfl ⟨rfl,hB.out⟩
theorem z8n (x:ByteArray) (h0:(x.toList==[48])=false) (w:zA) (N:Hid (zC zF 146 #[.string x] w λe w'=>e=.returned (.bool false)/\w'=w)):
 zC zF 318 #[.string x] w λe w'=>e=.returned (.int .i64 1)/\w'=w:=by
 go_enter Tryz.func318,Tryz.ntmps318;go_wp21;refine N.out.mono ?_;rintro e w' ⟨rfl,rfl⟩;go_wp21;go_ret;exact⟨rfl,rfl⟩
theorem z1n (x y:ByteArray)
 (CK:Hid (∀W:zA,Wd W->zC zF 75 #[.slice (some ⟨W.heap.size,0,none⟩) 2 2,.slice (some ⟨W.heap.size+1,0,none⟩) 1 1] ((W.alloc (.cells #[.string x,.string y] 30)).alloc (.cells #[.string x] 30)) λe w'=>e=.returned (.int .i64 0)/\Below W.heap.size W w'))
 (SG:Hid (∀W:zA,zC zF 318 #[.string y] W λe w'=>e=.returned (.int .i64 1)/\w'=W)) (w:zA) (HW:Hid (Wd w)):
 qJ 299 #[.string x,.string y] w (.int .i64 0):=by
 have HC:=hid (CK.out w HW.out);clear CK;go_enter Tryz.func299,Tryz.ntmps299;go_wp21;refine zzM HC.out λw2 hb2=>?_;have HB2:=hid hb2;clear hb2 HC;go_wp21;refine(SG.out w2).mono ?_;rintro e w' ⟨rfl,rfl⟩;go_wp21;go_ret;exact⟨rfl,HB2.out⟩
structure UntS (w:zA) (a:Nat) (un ud on od:List UInt8) (b:Nat) (f:Nat->Bool) (W:zA):Prop where
 bel:qL w W
 hu:W.heap[a]? =some (.cells #[St un,St ud] 123 (0,0))
 ge:f 6=true->w.heap.size<=b
 h6:f 6=true->f 7=false->W.heap[b]? =some (.cells #[St [],St []] 123 (0,0))
 h7:f 7=true->W.heap[b]? =some (.cells #[St on,St od] 123 (0,0))
section
variable {w W W':zA} {a b:Nat} {un ud on od:List UInt8} {f g:Nat->Bool}
theorem UntS.congr (h:UntS w a un ud on od b f W) (e6:g 6=f 6) (e7:g 7=f 7):UntS w a un ud on od b g W:=⟨h.bel,h.hu,by rw[e6];exact h.ge,by rw[e6,e7];exact h.h6,by rw[e7];exact h.h7⟩
theorem UntS.next (h:UntS w a un ud on od b f W) (hb:qL W W'):UntS w a un ud on od b f W':=
 have hc:=zac hb
 ⟨h.bel.trans (hb.mono h.bel.size),hc _ _ _ _ h.hu,h.ge,λe e'=>hc _ _ _ _ (h.h6 e e'),λe=>hc _ _ _ _ (h.h7 e)⟩
theorem UntS.cells (h:UntS w a un ud on od b f W):W.cell? ⟨a,0,none⟩=some (St un)/\W.cell? ⟨a,1,none⟩=some (St ud):=
 ⟨by rw[zJ h.hu];rfl,by rw[zJ h.hu];rfl⟩
theorem UntS.old (h:UntS w a un ud on od b f W) (e6:f 6=true) (e7:f 7=false):W.cell? ⟨b,0,none⟩=some (St [])/\W.cell? ⟨b,1,none⟩=some (St [])/\W.frozen? ⟨b,0,none⟩=false/\W.frozen? ⟨b,1,none⟩=false:=
 ⟨by rw[zJ (h.h6 e6 e7)];rfl,by rw[zJ (h.h6 e6 e7)];rfl,Go.Joins.unfrozen_of_block (h.h6 e6 e7) 0,Go.Joins.unfrozen_of_block (h.h6 e6 e7) 1⟩
theorem UntS.put (h:UntS w a un ud on od b f W) (e6:f 6=true) (e7:f 7=false) (hne:a≠b):UntS w a un ud on od b (λj=>if 7=j then true else f j) ((W.setCell ⟨b,0,none⟩ (St on)).setCell ⟨b,1,none⟩ (St od)):=by
 have hg:=h.ge e6;refine⟨(h.bel.setCell (p:=⟨b,0,none⟩) hg _).setCell (p:=⟨b,1,none⟩) hg _,?_,λ_=>hg,λ_ k=>(by simp at k),λ_=>?_⟩
 ·rw[yE _ _ _ _ (by exact hne),yE _ _ _ _ (by exact hne)];exact h.hu
 ·exact zK (i:=1) (zK (i:=0) (h.h6 e6 e7) (St on)) (St od)
theorem UntS.new (h:UntS w a un ud on od b f W) (e7:f 7=false):UntS w a un ud on od W.heap.size (λj=>if 6=j then true else f j) (W.alloc (.cells #[St [],St []] 123)):=
 have hb:qL W (W.alloc (.cells #[St [],St []] 123)):=(zM _ W).alloc (zN _) _
 ⟨h.bel.trans (hb.mono h.bel.size),zac hb _ _ _ _ h.hu,λ_=>h.bel.size,λ_ _=>zG _ _,λk=>(by have k':f 7=true:=(by simpa using k);rw[e7] at k';cases k')⟩
end
theorem z3s (q u fac qn qd un ud tn td on od m fl rt:List UInt8)
 (OQ:Hid (qK 77 #[St q] (.agg #[St qn,St qd])))
 (OU:Hid (qK 77 #[St u] (.agg #[St un,St ud])))
 (TM:Hid (qK 320 #[.agg #[St un,St ud],.agg #[St un,St ud]] (.agg #[St tn,St td])))
 (OV:Hid (qK 319 #[.agg #[St qn,St qd],.agg #[St tn,St td]] (.agg #[St on,St od])))
 (ML:Hid (qK 79 #[St on,St fac] (St m)))
 (FL:Hid (qK 80 #[.agg #[St m,St od]] (St fl)))
 (RT:Hid (qK 78 #[St fl] (.tuple #[St rt,.int .i64 0])))
 (w:zA) (HW:Hid (Wd w)):
 qJ 301 #[St q,St u,St fac] w (St rt):=by
 go_enter Tryz.func301,Tryz.ntmps301;go_wp21;refine zzM (OU.out w HW.out) λw1 hb1=>?_;obtain⟨v1,hv⟩:=zzX (w1.alloc (.cells #[St un,St ud] 123));have a1:qL w1 v1:=by rw[hv];exact(zM _ w1).alloc (zN _) _
 have A1:v1.heap[w1.heap.size]? =some (.cells #[St un,St ud] 123 (0,0)):=by rw[hv];exact zG w1 _
 have HV:=hid hv.symm;have E1:=hid (hb1.trans (a1.mono hb1.size));have B1:=hid A1;have hlt:=(Array.getElem?_eq_some_iff.1 A1).1;have HL:=hid hlt;clear hv a1 A1 hb1 hlt;go_wp21
 try rw[show w1.alloc (.cells #[.string ⟨un.toArray⟩,.string ⟨ud.toArray⟩] 123)=v1 from HV.out]
 clear HV;generalize w1.heap.size=a at*
 refine zc4 (λ(b:Nat) i=>([St q,.agg #[St qn,St qd],.agg #[St un,St ud],.agg #[St un,St ud],.agg #[St tn,St td],.agg #[St on,St od],.pointer (some ⟨b,0,none⟩)]:List Value).getD i undef) (UntS v1 a un ud on od) (by kernel_rfl) (by kernel_rfl) 0 ⟨(zM _ v1).drew,B1.out,λk=>(by cases k),λk=>(by cases k),λk=>(by cases k)⟩ λb=>?_;refine qB (St q) (λf W' h=>h.congr rfl rfl) ?_;simp only[zzQ]
 refine zbv (.agg #[St qn,St qd]) (by rfl) (by rfl) (λf W' hf h C' hC'=>by
  go_simp;refine zzM (OQ.out _ (HW.out.below (E1.out.trans (h.bel.mono E1.out.size)))) λw' hb=>?_;exact⟨_,rfl,hC' _ ((h.next hb).congr rfl rfl)⟩) ?_
 refine qB (.agg #[St un,St ud]) (λf W' h=>h.congr rfl rfl) ?_ (hy:=λf W' hf h=>by obtain⟨q0,q1⟩:=h.cells;go_simp);refine qB (.agg #[St un,St ud]) (λf W' h=>h.congr rfl rfl) ?_ (hy:=λf W' hf h=>by obtain⟨q0,q1⟩:=h.cells;go_simp);simp only[zzQ]
 refine zbv (.agg #[St tn,St td]) (by rfl) (by rfl) (λf W' hf h C' hC'=>by
  go_simp;refine zzM (TM.out _ (HW.out.below (E1.out.trans (h.bel.mono E1.out.size)))) λw' hb=>?_;exact⟨_,rfl,hC' _ ((h.next hb).congr rfl rfl)⟩) ?_
 try simp only[zzQ]
 refine zbv (.agg #[St on,St od]) (by rfl) (by rfl) (λf W' hf h C' hC'=>by
  go_simp;refine zzM (OV.out _ (HW.out.below (E1.out.trans (h.bel.mono E1.out.size)))) λw' hb=>?_;exact⟨_,rfl,hC' _ ((h.next hb).congr rfl rfl)⟩) ?_
 try simp only[zzQ]
 refine zdc (.pointer (some ⟨b,0,none⟩)) (by rfl) (by rfl) (λf W' hf h C' hC'=>by
  have h7:=hf.no (j:=7) hf.self (by kernel_rfl);have:=hC' W'.heap.size (W'.alloc (.cells #[St [],St []] 123)) (λi hi=>?_) (h.new h7)
  ·go_simp
   exact this
  ·match i,hi with
   |0,_|1,_|2,_|3,_|4,_|5,_=>rfl
   |6,hi=>rw[hf.self] at hi;cases hi
   |_+7,_=>rfl) ?_
 try simp only[zzQ]
 refine zbv undef (by rfl) (by rfl) (λf W' hf h C' hC'=>by
  have h7:=hf.self;have h6:=hf.done 6 (by kernel_rfl);obtain⟨q0,q1,q2,q3⟩:=h.old h6 h7;have hge:=h.ge h6;have:=hC' _ (h.put h6 h7 (by have:=HL.out;omega));go_simp;exact this) ?_
 try simp only[Act.put]
 refine ze1 λf X hf h=>?_;have h7:=h.h7 (hf 7 (by decide));have hge:=h.ge (hf 6 (by decide));have E2:=hid (E1.out.trans (h.bel.mono E1.out.size));have hge2:=zO E1.out.size hge;have HB:=hid h7;have q0:X.cell? ⟨b,0,none⟩=some (St on):=by rw[zJ h7];rfl
 have q1:X.cell? ⟨b,1,none⟩=some (St od):=by rw[zJ h7];rfl
 clear hf h h7 hge E1 B1 HL OQ OU TM OV;go_wp21;refine zzM (ML.out X (HW.out.below E2.out)) λw2 hb2=>?_;have E3:=hid (E2.out.trans (hb2.mono E2.out.size));have B3:=zac hb2 _ _ _ _ HB.out;have HB3:=hid B3;clear q0 q1;have q0:w2.cell? ⟨b,0,none⟩=some (St on):=by rw[zJ B3];rfl
 have q1:w2.cell? ⟨b,1,none⟩=some (St od):=by rw[zJ B3];rfl
 have q2:=Go.Joins.unfrozen_of_block B3 0;obtain⟨y2,hy2⟩:=zzX (w2.setCell ⟨b,0,none⟩ (St m));have r0:y2.cell? ⟨b,0,none⟩=some (St m):=by rw[hy2,zJ (zK (i:=0) B3 (St m))];rfl
 have r1:y2.cell? ⟨b,1,none⟩=some (St od):=by rw[hy2,zJ (zK (i:=0) B3 (St m))];rfl
 have E4:Hid (qL w y2):=hid (by rw[hy2];exact E3.out.setCell (p:=⟨b,0,none⟩) hge2 _);rw[hy2] at r0 r1;have HY:=hid hy2.symm;clear hb2 E2 HB ML B3 hge2 hy2;go_wp21
 try rw[show w2.setCell ⟨b,0,none⟩ (.string ⟨m.toArray⟩)=y2 from HY.out]
 clear HY r0 r1 q0 q1 q2;refine zzM (FL.out y2 (HW.out.below E4.out)) λw3 hb3=>?_;have E5:=hid (E4.out.trans (hb3.mono E4.out.size));clear hb3;go_wp21;refine zzM (RT.out w3 (HW.out.below E5.out)) λw4 hb4=>?_;have E6:=hid (E5.out.trans (hb4.mono E5.out.size));clear hb4;go_wp21;go_ret;exact⟨rfl,E6.out⟩
theorem z3v (q u rt z:List UInt8)
 (UE:Hid (qK 299 #[St q,St u] (.int .i64 0)))
 (UN:Hid (qK 301 #[St q,St u,.string ⟨#[49]⟩] (St rt)))
 (MU:Hid (qK 300 #[St rt,St u] (St z)))
 (w:zA) (HW:Hid (Wd w)):
 qJ 256 #[St q,St u] w (.tuple #[St z,.int .i64 0]):=by
 go_enter Tryz.func256,Tryz.ntmps256;go_wp21;refine zzM (UE.out w HW.out) λw1 hb1=>?_;have E1:=hid hb1;clear hb1;go_wp21;refine zzM (UN.out w1 (HW.out.below E1.out)) λw2 hb2=>?_;have E2:=hid (E1.out.trans (hb2.mono E1.out.size));clear hb2;go_wp21;refine zzM (MU.out w2 (HW.out.below E2.out)) λw3 hb3=>?_;have E3:=hid (E2.out.trans (hb3.mono E2.out.size));clear hb3;go_wp21;go_ret2;exact⟨rfl,E3.out⟩
theorem z93 (W:zA) (t:TypeId) (p q:Rat):
 RowNums (some ⟨W.heap.size,0,none⟩) 2 (λi=>if i=0 then p else q) ((W.alloc (.cells #[St (numS p),St (numS q)] t)).alloc (.cells #[St (numS p)] t))/\
 RowNums (some ⟨W.heap.size+1,0,none⟩) 1 (λ_=>p) ((W.alloc (.cells #[St (numS p),St (numS q)] t)).alloc (.cells #[St (numS p)] t)):=by
 have A1:=(Below.heap_alloc (W.alloc (.cells #[St (numS p),St (numS q)] t)) (.cells #[St (numS p)] t) W.heap.size (by simp)).trans (zG W (.cells #[St (numS p),St (numS q)] t (0,0)));have A2:=zG (W.alloc (.cells #[St (numS p),St (numS q)] t)) (.cells #[St (numS p)] t (0,0));rw[zH] at A2;constructor
 ·intro i hi
  refine⟨_,_,rfl,?_⟩;rw[zJ A1]
  match i,hi with
  |0,_|1,_=>rfl
 ·intro i hi
  refine⟨_,_,rfl,?_⟩;rw[zJ A2]
  match i,hi with
  |0,_=>rfl
theorem z8o (q u:Rat) (i j s:Nat) (hq:0<=q) (hu:0<u) (hi:0<i) (hj:0<j) (hij:i+2*j<=190) (hi9:i<=90) (hj9:j<=90) (sq:sz q i) (su:sz u j)
 (hs:s*s<=q.num.natAbs*(u.den*u.den)/(q.den*(u.num.natAbs*u.num.natAbs))/\q.num.natAbs*(u.den*u.den)/(q.den*(u.num.natAbs*u.num.natAbs))<(s+1)*(s+1)) (w:zA) (hw:Wd w):
 qJ 256 #[St (numS q),St (numS u)] w (.tuple #[St (numS ((s:Rat)*u)),.int .i64 0]):=by
 have hu0:u≠0:=by grind
 have hqn:0<=q.num:=Rat.num_nonneg.2 hq;have hun:0<=u.num:=Rat.num_nonneg.2 (Rat.le_of_lt hu);have hup:0<u.num.natAbs:=by
  have:u.num≠0:=λe=>hu0 (Rat.num_eq_zero.1 e);omega
 have okq:=zd0 (k:=i) (by omega) (by omega) sq;have oku:=zd0 (k:=j) (by omega) (by omega) su;have dq:=zok (k:=90) (by omega) (sq.mono hi9);have du:=zok (k:=90) (by omega) (su.mono hj9);have iq:zE q.num=zD q.num.natAbs:=by
  have:=Str.zad q.num.natAbs;rwa [show((q.num.natAbs:Nat):Int)=q.num by omega] at this
 have iu:zE u.num=zD u.num.natAbs:=by
  have:=Str.zad u.num.natAbs;rwa [show((u.num.natAbs:Nat):Int)=u.num by omega] at this
 obtain⟨q1,q2⟩:=sq;obtain⟨u1,u2⟩:=su;have su':sz u j:=⟨u1,u2⟩;have okn:u.num.natAbs*u.num.natAbs<10^(j+j):=zcc u1 u1;have okd:u.den*u.den<10^(j+j):=zcc u2 u2;have k1:q.num.natAbs*(u.den*u.den)<10^(i+(j+j)):=zcc q1 okd;have k2:q.den*(u.num.natAbs*u.num.natAbs)<10^(i+(j+j)):=zcc q2 okn;have len:∀{x k:Nat},0<k->k<=300->x<10^k->(zD x).length<=300:=λ{x k} h0 h3 h=>zO (zil h0 h) h3;have hD:0<q.den*(u.num.natAbs*u.num.natAbs):=Nat.mul_pos q.den_pos (Nat.mul_pos hup hup);have hNd:=Nat.div_le_self (q.num.natAbs*(u.den*u.den)) (q.den*(u.num.natAbs*u.num.natAbs));have k3:q.num.natAbs*(u.den*u.den)/(q.den*(u.num.natAbs*u.num.natAbs))<10^(i+(j+j)):=Nat.lt_of_le_of_lt hNd k1;have hsl:s<10^(i+(j+j)):=Nat.lt_of_le_of_lt (zO (Nat.le_mul_self s) hs.1) k3;have ss:sz (s:Rat) (i+(j+j)):=⟨by rw[show((s:Rat)).num=(s:Int) from rfl];simpa using hsl,by rw[show((s:Rat)).den=1 from rfl];exact Nat.one_lt_pow (by omega) (by omega)⟩;have d1:zD 1=[49]:=by rw[zae (by omega)];rfl
 refine z3v (numS q) (numS u) (zD s) _ (hid λW hW=>?_) (hid λW hW=>?_) (hid λW hW=>?_) w (hid hw)
 ·refine z1n ⟨(numS q).toArray⟩ ⟨(numS u).toArray⟩ (hid λW hW=>?_) (hid λW=>?_) W (hid hW)
  ·obtain⟨t1,t2⟩:=z93 W 30 q u
   have hal:qL W ((W.alloc (.cells #[St (numS q),St (numS u)] 30)).alloc (.cells #[St (numS q)] 30)):=((zM _ W).alloc (zN _) _).alloc (by simp) _;refine(zji _ _ 2 1 2 1 _ _ (by omega) (by omega) (hid λi _ W hW=>?_) (hid λi _ W hW=>?_) (hid λi _=>?_) (hid λi _ W=>?_) _ (hid (hW.below hal)) (hid t1) (hid t2)).mono ?_
   ·show zC _ _ #[St (numS (if i=0 then q else u))] _ _
    split
    ·exact zfj q okq W hW
    ·exact zfj u oku W hW
   ·by_cases c:i=0
    ·simp only[c,if_true];exact zio q okq W hW
    ·simp only[c,if_false];exact zio u oku W hW
   ·by_cases c:i=0
    ·simp only[c,if_true];exact dq
    ·simp only[c,if_false];exact du
   ·exact zma q hqn W
   ·rintro e w' ⟨rfl,hb⟩
    exact⟨rfl,hal.trans (hb.mono hal.size)⟩
  ·refine z8n _ ?_ W (hid (zma u hun W))
   rw[ByteArray.toList_eq,beq_eq_false_iff_ne];exact λh=>hu0 ((zpy u).1 (by simpa using h))
 ·rw[<-d1]
  refine z3s (numS q) (numS u) (zD 1) (zD q.num.natAbs) (zD q.den) (zD u.num.natAbs) (zD u.den) (zD (u.num.natAbs*u.num.natAbs)) (zD (u.den*u.den)) (zD (q.num.natAbs*(u.den*u.den))) (zD (q.den*(u.num.natAbs*u.num.natAbs))) (zD (q.num.natAbs*(u.den*u.den))) (zD (q.num.natAbs*(u.den*u.den)/(q.den*(u.num.natAbs*u.num.natAbs)))) (zD s)
   (hid λW hW=>?_) (hid λW hW=>?_) (hid λW hW=>?_) (hid λW hW=>?_) (hid λW hW=>?_) (hid λW hW=>?_) (hid λW hW=>?_) W (hid hW)
  ·have:=zio q okq W hW;rwa [iq] at this
  ·have:=zio u oku W hW;rwa [iu] at this
  ·exact z3r _ _ _ _ _ _ (hid λW hW=>zs4 _ _ (len hj (by omega) u1) (len hj (by omega) u1) (len (by omega) (by omega) okn) W hW) (hid λW hW=>zs4 _ _ (len hj (by omega) u2) (len hj (by omega) u2) (len (by omega) (by omega) okd) W hW) W (hid hW)
  ·exact z5y _ _ _ _ _ _ (hid λW hW=>zs4 _ _ (len hi (by omega) q1) (len (by omega) (by omega) okd) (len (by omega) (by omega) k1) W hW) (hid λW hW=>zs4 _ _ (len hi (by omega) q2) (len (by omega) (by omega) okn) (len (by omega) (by omega) k2) W hW) W (hid hW)
  ·have:=zs4 (q.num.natAbs*(u.den*u.den)) 1 (len (by omega) (by omega) k1) (by rw[d1];simp) (by rw[Nat.mul_one];exact len (by omega) (by omega) k1) W hW
   rwa [Nat.mul_one] at this
  ·exact z5w _ _ hD (len (by omega) (by omega) k1) (len (by omega) (by omega) k2) W hW
  ·exact zvx _ s hs (zO (zil (by omega) k3) (by omega)) W hW
 ·rw[<-zhe]
  exact zyk _ _ _ W (hid (zjf (s:Rat) u (i+(j+j)) j (by omega) hj (by omega) ss su' W hW))
end
section
open Go.RowKit Go.Shelf Lib Str Limb Geo
attribute [local go_sem] Oper.semAt_some
theorem zlt (v:Value) (l:List (Rat×Nat)) (ok:SdOk l) (hl:l.length<=12) (hs:∀t∈l,sz t.1 20) (w:zA) (hw:Hw w) (hv:SdL v l w):
 qJ 61 #[v] w (.int .i64 0):=by
 obtain⟨p,cap,rfl,hc,hx⟩:=hv.slice;have at_:∀i,i<l.length->∃t,l[i]? =some t/\t∈l:=λi hi=>⟨_,yB hi,zY hi⟩;refine z5r p cap l.length (λW=>Hw W/\SdL (.slice p l.length cap) l W) (λW W' h hb=>⟨h.1.below hb,h.2.below hb⟩) (hid λW h=>zbh _ l ok W h.1.wd h.1.pw h.2)
  (hid λW h=>ya2 p cap l.length W (hid (ya1 p cap l.length (λi=>⟨(numS (l[i]?.getD (1,1)).1).toArray⟩) (λi=>⟨(zD (l[i]?.getD (1,1)).2).toArray⟩) (by omega) (hid λi hi V hV=>?_) W (hid h.1.wd) (hid λi hi=>?_)))) w (hid ⟨hw,hv⟩)
 ·obtain⟨t,ht,hm⟩:=at_ i hi
  rw[ht];have h20:=hs t hm;refine z9k (numS t.1) (zD t.2) (hid λY hY=>?_) V (hid hV);have h1:(trimPrefix (zE t.1.num) [45]).length<=20:=by
   have:=(zok (k:=20) (by omega) h20).1;unfold digs at this;rw[zbi];exact this
  have h2:(zD t.1.den).length<=20:=(zaf t.1.den 20 (by omega)).2 h20.2;exact yag (numS t.1) (zE t.1.num) (zD t.1.den) _ rfl (decide_eq_false (by show ¬(20:Int)<(((trimPrefix (zE t.1.num) [45]).toArray.size:Nat):Int);simp;omega)) (decide_eq_false (by omega)) Y (hid hY) (hid λZ hZ=>zk5 t.1 (zd0 (by omega) (by omega) h20) Z hZ)
 ·obtain⟨t,ht,hm⟩:=at_ i hi
  rcases h.2 with⟨e,hl0⟩|⟨g,o,c,e,_,_,hx2⟩
  ·rw[hl0] at hi;simp at hi
  ·injection e with e1 e2 e3
   dsimp only;rw[ht];obtain⟨h0,h1⟩:=hx2 i t ht;exact⟨g,o,e1,h0,h1⟩
theorem zcl:numS (mkRat 1 1000)=[49,47,49,48,48,48]/\sz (mkRat 1 1000) 4/\(0:Rat)<mkRat 1 1000/\(mkRat 1 1000).den=1000/\(mkRat 1 1000).num.natAbs=1:=by
 refine⟨?_,⟨?_,?_⟩,?_,?_,?_⟩<;>decide+kernel
theorem z50 (s:Value) (a:List UInt8) (R:Value->zA->Prop) (F:Prop) (G:Int->Int->Prop) (hG:∀m r,G m r-> -2<m/\m<2) (w:zA)
 (M:Hid (∀W:zA,qL w W->W.cell? ⟨w.heap.size,0,none⟩=some (St a)->W.cell? ⟨w.heap.size,1,none⟩=some (.string ⟨#[49]⟩)->zC zF 11 #[.slice (some ⟨w.heap.size,0,none⟩) 1 1] W λe w'=>∃q n d r,e=.returned (.tuple #[.slice q n d,.int .i64 r])/\Below W.heap.size W w'/\((r=0/\R (.slice q n d) w')\/(r=4/\F))))
 (C:Hid (∀(W:zA) (u:Value),qL w W->R u W->zC zF 12 #[u,s] W λe w'=>∃m r,e=.returned (.tuple #[.int .i64 m,.int .i64 r])/\Below W.heap.size W w'/\G m r)):
 zC zF 74 #[s,St a] w λe w'=>∃m r,e=.returned (.tuple #[.int .i64 m,.int .i64 r])/\Below w.heap.size w w'/\((r=4/\m=0/\F)\/G (-m) r):=by
 obtain⟨v1,hv⟩:=zzX (w.alloc (.cells #[St a,.string ⟨#[49]⟩] 37));have a1:qL w v1:=by rw[hv];exact(zM _ w).alloc (zN _) _
 have A1:v1.heap[w.heap.size]? =some (.cells #[St a,.string ⟨#[49]⟩] 37 (0,0)):=by rw[hv];exact zG w _
 have HM:=hid (M.out v1 a1 (by rw[zJ A1];rfl) (by rw[zJ A1];rfl));have HV1:=hid hv.symm;have E1:=hid a1;have HG:=hid hG;clear hv a1 A1 M hG;go_enter Tryz.func74,Tryz.ntmps74;go_wp21;rw[HV1.out];clear HV1;refine HM.out.mono ?_;rintro e w1 ⟨q,n,d,r,rfl,hb1,hr⟩;have B1:=hid (E1.out.trans (hb1.mono E1.out.size));clear hb1 HM E1;rcases hr with⟨rfl,hr⟩|⟨rfl,hf⟩
 ·have HC:=hid (C.out w1 _ B1.out hr);clear hr C
  go_wp21;refine HC.out.mono ?_;rintro e w2 ⟨m,r,rfl,hb2,hg⟩;have B2:=hid (B1.out.trans (hb2.mono B1.out.size));obtain⟨g1,g2⟩:=HG.out m r hg;have hw64:wrap64 (-m)= -m:=by unfold wrap64;omega
  have HGG:=hid hg;clear hb2 hg g1 g2;go_wp21;go_ret2;exact⟨_,_,rfl,B2.out,.inr (by rw[hw64,Int.neg_neg];exact HGG.out)⟩
 ·have HF:=hid hf;clear hf C
  go_wp21;go_ret2;exact⟨_,_,rfl,B1.out,.inl ⟨rfl,rfl,HF.out⟩⟩
theorem z52 (l:List (Rat×Nat)) (h:sgeL l≠0):sgeL l=4/\sgnL l=0:=by
 unfold sgeL errP at*
 split at h
 ·exact absurd rfl h
 ·rename_i hn
  rw[if_neg hn];split at h
  ·rename_i hz;rw[if_pos hz];exact⟨rfl,hz⟩
  ·exact absurd rfl h
theorem z4c (v:Value) (l:List (Rat×Nat)) (a:Rat) (ok:SdOk l) (hl:l.length<=11) (sa:sz a 140) (w:zA) (hw:Hw w) (hv:SdL v l w):
 qJ 74 #[v,St (numS a)] w (.tuple #[.int .i64 (ordF l a).1,.int .i64 (ordF l a).2]):=by
 have hr:=zvs (dfL (rs a) l);have n1:NrmR 1:=zyl.1;refine(z50 v (numS a) (λu W=>SdL u (rs a) W/\sz a 60) (¬sz a 60) (λm r=>(r=4/\m=0/\¬(sz a 60/\∀t∈dfL (rs a) l,sz t.1 60))\/(m=sgnL (dfL (rs a) l)/\r=sgeL (dfL (rs a) l)/\sz a 60/\∀t∈dfL (rs a) l,sz t.1 60)) (λm r h=>by
  rcases h with⟨_,h,_⟩|⟨h,_⟩<;>omega) w (hid λW hW c0 c1=>?_) (hid λW u hW ⟨h,s60⟩=>?_)).mono λe w' ⟨m,r,e1,hb,h⟩=>?_
 ·have hW':=hw.below hW
  have hs:=zpz c0 c1;by_cases e:a=0
  ·subst e
   refine(zjg [(0,1)] (by simp) (λt ht=>by simp at ht;rw[ht]) (λt ht=>by simp at ht;rw[ht];exact n1) _ W hW'.d hs).mono λe w' ⟨v',e1,hb,h⟩=>?_;obtain⟨q,n,c,rfl⟩:=h.any;exact⟨q,n,c,0,e1,hb,.inl ⟨rfl,by rw[zbc];exact h,zd2 60 (by omega)⟩⟩
  ·have one:∀t∈([(a,1)]:List (Rat×Nat)),t=(a,1):=λt ht=>List.mem_singleton.1 ht
   have hG:MkGT [(a,1)]:=by
    refine⟨by simp,λt ht=>by rw[one t ht];exact e,λt ht=>by rw[one t ht];exact sa,λt ht=>by rw[one t ht];exact n1,λi hi c hc=>?_,λc hc=>?_⟩
    ·obtain rfl:i=0:=by simp at hi;omega
     cases hc
    ·rw[one c hc];exact sa.mono (by omega)
   have hm:mkG [(a,1)]=[(a,1)]:=by
    unfold mkG keG;rw[List.foldl_cons,List.foldl_nil,show gaG [] (a,1)=[(a,1)] from rfl];simp[srtS,insS,e]
   refine(z23 [(a,1)] hG _ W hW'.d hW'.p hs).mono λe' w' ⟨q,n,c,r,e1,hb,h⟩=>⟨q,n,c,r,e1,hb,?_⟩;rw[hm] at h;rcases h with⟨h1,h2,h3⟩|⟨h1,h2,h3⟩
   ·exact .inl ⟨h1,by rw[za5 e];exact h2,h3 (a,1) (by simp)⟩
   ·exact .inr ⟨h1,λk=>h3 λc hc=>by obtain rfl:=List.mem_singleton.1 hc;exact k⟩
 ·have hl2:(rs a).length+(sclL l (-1)).length<=12:=by
   have:=zcz a;have:(sclL l (-1)).length=l.length:=by simp[sclL]
   omega
  refine(zjn u v (sgnL (dfL (rs a) l)) (sgeL (dfL (rs a) l)) (λu W=>SdL u (dfL (rs a) l) W) (∀t∈dfL (rs a) l,sz t.1 60) (¬ ∀t∈dfL (rs a) l,sz t.1 60) W
   (hid ((z6n u v (rs a) l (zbz s60) ok (by have:=zcz a;omega) W (hw.below hW).d (hw.below hW).p h (hv.below hW)).mono λe w' ⟨q,n,c,r,e1,e2,e3⟩=>⟨q,n,c,r,e1,e2,e3.imp id λh=>⟨h.1,h.2.2⟩⟩))
   (hid λV u' hE hV hu=>z0a u' _ (z0m (zbz s60) (zvn ok) hl2 hE) V ((hw.below hW).below hV).wd ((hw.below hW).below hV).sw hu)).mono λe w' ⟨m,r,e1,hb,h⟩=>⟨m,r,e1,hb,?_⟩
  rcases h with⟨h1,h2,h3⟩|⟨h1,h2,h3⟩
  ·exact .inl ⟨h1,h2,λk=>h3 k.2⟩
  ·exact .inr ⟨h1,h2,s60,h3⟩
 ·have key:m=(ordF l a).1/\r=(ordF l a).2:=by
   rcases h with⟨h1,h2,h3⟩|⟨h1,h2,h3⟩|⟨h1,h2,h3,h4⟩
   ·unfold ordF;rw[if_neg (λk=>h3 k.1)];exact⟨h2,h1⟩
   ·unfold ordF;rw[if_neg (λk=>h3 ⟨k.1,k.2.1⟩)];exact⟨by omega,h1⟩
   ·by_cases g:sgeL (dfL (rs a) l)=0
    ·unfold ordF;rw[if_pos ⟨h3,h4,g⟩];exact⟨by omega,by omega⟩
    ·obtain⟨z1,z2⟩:=z52 (dfL (rs a) l) g
     unfold ordF;rw[if_neg (λk=>g k.2.2)];exact⟨by omega,by omega⟩
  rw[<-key.1,<-key.2];exact⟨e1,hb⟩
def tmF (q f:Rat):Rat:=((isq (q.num.natAbs*(f.den*f.den)/(q.den*(f.num.natAbs*f.num.natAbs))):Nat):Rat)*f
def tmV (f:Rat) (t:Rat×Nat):Rat:=if t.1<0 then 0-tmF (t.1*t.1*(t.2:Rat)) f else tmF (t.1*t.1*(t.2:Rat)) f
theorem z7y (c:ByteArray) (neg:Bool) (r u s1 s2 x y:List UInt8) (h0:0<c.size) (hb:(((c[0]'h0).toNat:Int)==45)=neg) (hy:neg=false->y=x)
 (M:Hid (qK 9 #[.string c,.string c] (.tuple #[St s1,.int .i64 0])))
 (M2:Hid (qK 9 #[St s1,St r] (.tuple #[St s2,.int .i64 0])))
 (F:Hid (qK 256 #[St s2,St u] (.tuple #[St x,.int .i64 0])))
 (S:Hid (neg=true->qK 8 #[.string ⟨#[48]⟩,St x] (.tuple #[St y,.int .i64 0])))
 (w:zA) (HW:Hid (Wd w)):
 qJ 207 #[.agg #[.string c,St r],St u] w (.tuple #[St y,.int .i64 0]):=by
 obtain⟨v1,hv⟩:=zzX (w.alloc (.cells #[.string c,St r] 37));have a1:qL w v1:=by rw[hv];exact(zM _ w).alloc (zN _) _
 have A1:v1.heap[w.heap.size]? =some (.cells #[.string c,St r] 37 (0,0)):=by rw[hv];exact zG w _
 have k0:v1.cell? ⟨w.heap.size,0,none⟩=some (.string c):=by rw[zJ A1];rfl
 rw[hv] at k0;have HV1:=hid hv.symm;have E1:=hid a1;have B1:=hid A1;have HY:=hid hy;clear hv a1 A1 hy;go_enter Tryz.func207,Tryz.ntmps207;go_wp21;rw[HV1.out];clear k0 HV1;refine zzM (M.out v1 (HW.out.below E1.out)) λy1 hb1=>?_;have E2:=hid (E1.out.trans (hb1.mono E1.out.size));have B2:=hid (zac hb1 _ _ _ _ B1.out);clear hb1 E1 B1;have k1:y1.cell? ⟨w.heap.size,1,none⟩=some (St r):=by rw[zJ B2.out];rfl
 go_wp21;refine zzM (M2.out y1 (HW.out.below E2.out)) λy2 hb1=>?_;have E3:=hid (E2.out.trans (hb1.mono E2.out.size));have B3:=hid (zac hb1 _ _ _ _ B2.out);clear hb1 k1 E2 B2;go_wp21;refine zzM (F.out y2 (HW.out.below E3.out)) λy3 hb1=>?_;have E4:=hid (E3.out.trans (hb1.mono E3.out.size));have B4:=hid (zac hb1 _ _ _ _ B3.out);clear hb1 E3 B3;have k0:y3.cell? ⟨w.heap.size,0,none⟩=some (.string c):=by rw[zJ B4.out];rfl
 cases neg
 ·obtain rfl:=HY.out rfl
  go_wp21;go_ret2;exact⟨rfl,E4.out⟩
 ·have HS:=hid (S.out rfl);clear S HY
  go_wp21;refine zzM (HS.out y3 (HW.out.below E4.out)) λy4 hb1=>?_;have E5:=hid (E4.out.trans (hb1.mono E4.out.size));clear hb1 k0 E4 B4;go_wp21;go_ret2;exact⟨rfl,E5.out⟩
def tmZ (f:Rat) (t:Rat×Nat):Int:=if t.1<0 then-((isq ((t.1*t.1*(t.2:Rat)).num.natAbs*(f.den*f.den)/((t.1*t.1*(t.2:Rat)).den*(f.num.natAbs*f.num.natAbs))):Nat):Int) else((isq ((t.1*t.1*(t.2:Rat)).num.natAbs*(f.den*f.den)/((t.1*t.1*(t.2:Rat)).den*(f.num.natAbs*f.num.natAbs))):Nat):Int)
theorem yei (f:Rat) (t:Rat×Nat):tmV f t=(tmZ f t:Rat)*f:=by
 unfold tmV tmZ tmF;generalize isq ((t.1*t.1*(t.2:Rat)).num.natAbs*(f.den*f.den)/((t.1*t.1*(t.2:Rat)).den*(f.num.natAbs*f.num.natAbs)))=s;split
 ·rw[show((-(s:Int):Int):Rat)= -((s:Nat):Rat) by push_cast;rfl];grind
 ·rfl
theorem yam {q f:Rat} {m j s:Nat} (sq:sz q (m+m)) (sf:sz f j) (hs:s=isq (q.num.natAbs*(f.den*f.den)/(q.den*(f.num.natAbs*f.num.natAbs)))):s<10^(m+j):=by
 obtain⟨h1, -⟩:=zv0 (q.num.natAbs*(f.den*f.den)/(q.den*(f.num.natAbs*f.num.natAbs)));rw[<-hs] at h1;have h2:=zO h1 (Nat.div_le_self _ _);have h3:q.num.natAbs*(f.den*f.den)<10^(m+m+(j+j)):=zcc sq.1 (zcc sf.2 sf.2);rw[show m+m+(j+j)=(m+j)+(m+j) by omega,Nat.pow_add] at h3;exact Nat.mul_self_lt_mul_self_iff.1 (Nat.lt_of_le_of_lt h2 h3)
theorem ycj {t:Rat×Nat} {k:Nat} (st:sz t.1 k) (sr:sz ((t.2:Nat):Rat) 20):0<=t.1*t.1*((t.2:Nat):Rat)/\sz (t.1*t.1*((t.2:Nat):Rat)) (k+10+(k+10)):=
 ⟨Rat.mul_nonneg (zmg _) (by exact_mod_cast zR _),by have:=zca (zca st st) sr;rwa [show k+k+20=k+10+(k+10) by omega] at this⟩
theorem z54 {t:Rat×Nat} {f:Rat} {k j:Nat} (st:sz t.1 k) (sr:sz ((t.2:Nat):Rat) 20) (sf:sz f j):(tmZ f t).natAbs<10^(k+10+j):=by
 have:=yam (ycj st sr).2 sf rfl;unfold tmZ;split
 ·rw[Int.natAbs_neg,Int.natAbs_natCast];exact this
 ·rw[Int.natAbs_natCast];exact this
theorem z1v {z:Int} {k:Nat} (hk:0<k) (h:z.natAbs<10^k):sz (z:Rat) k:=⟨h,by show 1<10^k;exact Nat.one_lt_pow (by omega) (by omega)⟩
theorem yb5 (t:Rat×Nat) (f:Rat) (k j:Nat) (hf:0<f) (hk:0<k) (hj:0<j) (hk2:2*k+20+2*j<=190) (hk9:2*k+20<=90) (hj9:j<=80) (st:sz t.1 k) (sr:sz ((t.2:Nat):Rat) 20) (sf:sz f j) (w:zA) (hw:Wd w):
 qJ 207 #[.agg #[St (numS t.1),St (zD t.2)],St (numS f)] w (.tuple #[St (numS ((tmZ f t:Rat)*f)),.int .i64 0]):=by
 obtain⟨h0,hb⟩:=ybz t.1;have s1:=zca st st;obtain⟨hq,s2⟩:=ycj st sr;have z0:St (numS 0)=.string ⟨#[48]⟩:=by rw[nm0]<;>rfl
 have hlt:=yam s2 sf rfl;rw[<-yei];refine z7y ⟨(numS t.1).toArray⟩ (decide (t.1<0)) (zD t.2) (numS f) (numS (t.1*t.1)) (numS (t.1*t.1*((t.2:Nat):Rat))) (numS (tmF (t.1*t.1*((t.2:Nat):Rat)) f)) _ h0 hb (λh=>by unfold tmV;rw[if_neg (of_decide_eq_false h)]) (hid λW hW=>zjf t.1 t.1 k k hk hk (by omega) st st W hW) (hid λW hW=>?_) (hid λW hW=>?_) (hid λh W hW=>?_) w (hid hw)
 ·have:=zjf (t.1*t.1) ((t.2:Nat):Rat) (k+k) 20 (by omega) (by omega) (by omega) s1 sr W hW
  rw[zhe] at this;exact this
 ·exact z8o _ f (k+10+(k+10)) j _ hq hf (by omega) hj (by omega) (by omega) (by omega) s2 sf (zv0 _) W hW
 ·have sF:sz (tmF (t.1*t.1*((t.2:Nat):Rat)) f) (k+10+j+j):=zca (z1v (by omega) (by rw[Int.natAbs_natCast];exact hlt)) sf
  have:=ztz 0 (tmF (t.1*t.1*((t.2:Nat):Rat)) f) 1 (k+10+j+j) (by omega) (by omega) (by omega) (zd2 1 (by omega)) sF W hW;rw[z0] at this;unfold tmV;rw[if_pos (of_decide_eq_true h)];exact this
def sumZ (f:Rat) (l:List (Rat×Nat)) (i:Nat):Int:=((l.take i).map (tmZ f)).sum
theorem yan {α:Type} (f:α->Int) {l:List α} {i:Nat} {t:α} (h:l[i]? =some t):((l.take (i+1)).map f).sum=((l.take i).map f).sum+f t:=by
 rw[List.take_add_one,h];simp
theorem z4f {f:Rat} {l:List (Rat×Nat)} {i:Nat} {t:Rat×Nat} (h:l[i]? =some t):sumZ f l (i+1)=sumZ f l i+tmZ f t:=by
 unfold sumZ;exact yan _ h
theorem z3w {f:Rat} {l:List (Rat×Nat)} {B:Nat} (h:∀t∈l,(tmZ f t).natAbs<=B):∀i,i<=l.length->(sumZ f l i).natAbs<=i*B
 |0,_=>by show(0:Int).natAbs<=_;simp
 |i+1,hi=>by
  have e:=z4f (f:=f) (yB (show i<l.length by omega));have h1:=z3w h i (by omega);have h2:=h _ (zY (show i<l.length by omega));rw[e,Nat.add_mul,Nat.one_mul];generalize tmZ f l[i]=z at*
  omega
def zp8 (u:Rat) (l:List (Rat×Nat)):Int:=floQ ((sumZ (u*mkRat 1 1000) l l.length:Rat)*mkRat 1 1000)
theorem z8z {q:Rat}:(floQ q).natAbs<=q.num.natAbs:=by
 unfold floQ;have hd:=q.den_pos;rcases(show 0<=q.num\/q.num<0 by omega) with h|h
 ·have:=Int.ediv_nonneg h (show(0:Int)<=(q.den:Int) by omega)
  have:=Int.ediv_le_self (q.den:Int) h;omega
 ·have h1:=Int.ediv_lt_of_lt_mul (show(0:Int)<(q.den:Int) by omega) (show q.num<0*(q.den:Int) by omega)
  have h2:q.num<=q.num/(q.den:Int):=by
   refine Int.le_ediv_of_mul_le (by omega) ?_;have h3:=Int.mul_nonneg (show 0<= -q.num by omega) (show 0<=(q.den:Int)-1 by omega);rw[Int.neg_mul,Int.mul_sub,Int.mul_one] at h3;omega
  omega
theorem thou:mkRat 1 1000≠0/\(0:Rat)<mkRat 1 1000/\sz (mkRat 1 1000) 4/\numS (mkRat 1 1000)=[49,47,49,48,48,48]:=⟨by decide+kernel,zcl.2.2.1,zcl.2.1,zcl.1⟩
theorem yao (v:Value) (l:List (Rat×Nat)) (u:Rat) (j:Nat) (hl:l.length<=9) (hs:∀t∈l,sz t.1 10/\sz ((t.2:Nat):Rat) 20) (hu:0<u) (hj:0<j) (hj9:j<=41) (su:sz u j) (w:zA) (hw:Wd w) (hv:SdL v l w):
 qJ 131 #[v,St (numS u)] w (.tuple #[St (numS (((zp8 u l-1:Int):Rat)*u)),.int .i64 0]):=by
 obtain⟨h10,h1p,h1s,h1n⟩:=thou;obtain⟨p,cap,rfl, -,hx⟩:=hv.slice;have hf:0<u*mkRat 1 1000:=Rat.mul_pos hu h1p;have sf:sz (u*mkRat 1 1000) (j+4):=zca su h1s;obtain⟨f,hfe⟩:=zzX (u*mkRat 1 1000);have at_:∀i,i<l.length->l[i]? =some (l[i]?.getD (1,1))/\l[i]?.getD (1,1)∈l:=λi hi=>by
  rw[yB hi];exact⟨rfl,zY hi⟩
 have hz:∀i,i<=l.length->(sumZ f l i).natAbs<10^(j+25):=λi hi=>by
  have:=z3w (f:=f) (l:=l) (B:=10^(10+10+(j+4))) (λt ht=>zT (by rw[hfe];exact z54 (hs t ht).1 (hs t ht).2 sf)) i hi;have h2:i*10^(10+10+(j+4))<=9*10^(10+10+(j+4)):=Nat.mul_le_mul_right _ (by omega);have h3:10^(j+25)=10*10^(10+10+(j+4)):=by rw[show j+25=1+(10+10+(j+4)) by omega,Nat.pow_add]
  have h4:0<10^(10+10+(j+4)):=Nat.pow_pos (by omega);omega
 have sZ:∀i,i<=l.length->sz ((sumZ f l i:Int):Rat) (j+25):=λi hi=>z1v (by omega) (hz i hi);have hN:zp8 u l=floQ ((sumZ f l l.length:Rat)*mkRat 1 1000):=by rw[hfe];rfl
 have sq:=zca (sZ l.length (zN _)) h1s;have sF:sz ((zp8 u l:Int):Rat) (j+25+4):=by
  rw[hN];exact z1v (by omega) (Nat.lt_of_le_of_lt z8z sq.1)
 have sf':=sf;rw[<-hfe] at sf' hf
 refine zk9 p l.length cap (by omega) (λi=>numS (l[i]?.getD (1,1)).1) (λi=>zD (l[i]?.getD (1,1)).2) (λi=>numS ((tmZ f (l[i]?.getD (1,1)):Rat)*f)) (λi=>numS (((sumZ f l i:Int):Rat)*f)) (numS u) (numS f) (numS (((zp8 u l:Int):Rat)*u)) _ (by show numS ((((0:Int)):Rat)*f)=_;rw[show(((0:Int)):Rat)=0 from rfl,Rat.zero_mul,nm0])
  (hid λW hW=>?_) (hid λi hi W hW=>?_) (hid λi hi W hW=>?_) (hid λW hW=>?_) (hid λW hW=>?_) w (hid hw) (hid λi hi=>?_)
 ·have:=zjf u (mkRat 1 1000) j 4 hj (by omega) (by omega) su h1s W hW
  rw[h1n,<-hfe] at this;exact this
 ·obtain⟨g1,g2⟩:=hs _ (at_ i hi).2
  exact yb5 _ f 10 (j+4) hf (by omega) (by omega) (by omega) (by omega) (by omega) g1 g2 sf' W hW
 ·have e:=z4f (f:=f) (at_ i hi).1
  have e2:((sumZ f l i:Int):Rat)*f+(tmZ f (l[i]?.getD (1,1)):Rat)*f=((sumZ f l (i+1):Int):Rat)*f:=by rw[e];push_cast;grind
  obtain⟨g1,g2⟩:=hs _ (at_ i hi).2;have sx:sz ((tmZ f (l[i]?.getD (1,1)):Rat)*f) (10+10+(j+4)+(j+4)):=zca (z1v (by omega) (z54 g1 g2 sf')) sf';have:=zje _ _ (j+25+(j+4)) (10+10+(j+4)+(j+4)) (by omega) (by omega) (by omega) (zca (sZ i (by omega)) sf') sx W hW;rw[e2] at this;exact this
 ·have hd:((sumZ f l l.length:Int):Rat)*f/u=((sumZ f l l.length:Int):Rat)*mkRat 1 1000:=by rw[hfe];grind
  refine z5d _ _ (numS (((sumZ f l l.length:Int):Rat)*mkRat 1 1000)) (numS ((zp8 u l:Int):Rat)) _ (hid λV hV=>?_) (hid λV hV=>?_) (hid λV hV=>zjf _ u (j+25+4) j (by omega) hj (by omega) sF su V hV) W (hid hW)
  ·have:=zoj (((sumZ f l l.length:Int):Rat)*f) u (by grind) (j+25+(j+4)) j (by omega) hj (by omega) (zca (sZ l.length (zN _)) sf') su V hV
   rw[hd] at this;exact this
  ·rw[hN]
   exact z9q _ (j+25+4) (by omega) (by omega) sq V hV
 ·have:=ztz (((zp8 u l:Int):Rat)*u) u (j+25+4+j) j (by omega) hj (by omega) (zca sF su) su W hW
  rw[show((zp8 u l:Int):Rat)*u-u=((zp8 u l-1:Int):Rat)*u by push_cast;grind] at this;exact this
 ·obtain⟨b,off,e,_,h0,h1⟩:=hx i _ (at_ i hi).1
  exact⟨b,off,e,h0,h1⟩
def ofU (l:List (Rat×Nat)) (u:Rat):Option (Rat×Rat):=ofR (ordF l) u (l.length+4) (((zp8 u l-1:Int):Rat)*u)
def rngV:Option (Rat×Rat)->Value
 |some p=>.tuple #[.agg #[St (numS p.1),St (numS p.2)],.int .i64 0]
 |none=>.tuple #[.agg #[St [],St []],.int .i64 4]
theorem z81 (o:Rat->Int×Int) (u a0:Rat) (A:Nat->Rat) (hA:∀i,A (i+1)=A i+u):∀k i,z00 o u k (A i)=(z01 (λj=>o (A j)) k i).map λp=>(A p.1,A p.2)
 |0,_=>rfl
 |k+1,i=>by
  unfold z00 z01;rw[<-hA i];split
  ·rfl
  ·split
   ·rfl
   ·exact z81 o u a0 A hA k (i+1)
theorem z11 (l:List (Rat×Nat)) (a:Rat):(ordF l a).2=0\/(ordF l a).2=4:=by
 unfold ordF;split
 ·exact .inl rfl
 ·exact .inr rfl
structure EnS (l:List (Rat×Nat)):Prop where
 ok:SdOk l
 len:l.length<=9
 csz:∀t∈l,sz t.1 10
theorem EnS.sh {l:List (Rat×Nat)} (h:EnS l):∀t∈l,sz t.1 10/\sz ((t.2:Nat):Rat) 20:=λt ht=>⟨h.csz t ht,zrg (by omega) (h.ok.trm t ht).nr.len⟩
theorem EnS.nil:EnS []:=⟨SdOk.nil,by simp,λt h=>(by cases h)⟩
theorem of_l (v:Value) (l:List (Rat×Nat)) (h:EnS l) (u:Rat) (j:Nat) (hu:0<u) (hj:0<j) (hj9:j<=41) (su:sz u j) (w:zA) (hw:Hw w) (hv:SdL v l w):
 qJ 62 #[v,St (numS u)] w (rngV (ofU l u)):=by
 obtain⟨p,cap,rfl, -, -⟩:=hv.slice;obtain⟨N,hN⟩:=zzX (zp8 u l);let A:Nat->Rat:=λi=>((N-1+(i:Int):Int):Rat)*u;have hA0:A 0=((N-1:Int):Rat)*u:=by show((N-1+((0:Nat):Int):Int):Rat)*u=_;rw[show N-1+((0:Nat):Int)=N-1 by omega]
 have hA:∀i,A (i+1)=A i+u:=λi=>by
  show((N-1+((i+1:Nat):Int):Int):Rat)*u=((N-1+(i:Int):Int):Rat)*u+u;rw[show N-1+((i+1:Nat):Int)=N-1+(i:Int)+1 by omega];push_cast;grind
 have sN:N.natAbs<10^(j+29):=by
  obtain⟨h10,h1p,h1s,h1n⟩:=thou;have sf:sz (u*mkRat 1 1000) (j+4):=zca su h1s;have h1:=z3w (f:=u*mkRat 1 1000) (l:=l) (B:=10^(10+10+(j+4))) (λt ht=>zT (z54 (h.sh t ht).1 (h.sh t ht).2 sf)) l.length (zN _);have h2:l.length*10^(10+10+(j+4))<=9*10^(10+10+(j+4)):=Nat.mul_le_mul_right _ h.len;have h3:10^(j+25)=10*10^(10+10+(j+4)):=by rw[show j+25=1+(10+10+(j+4)) by omega,Nat.pow_add]
  have h4:0<10^(10+10+(j+4)):=Nat.pow_pos (by omega);have sq:=zca (z1v (z:=sumZ (u*mkRat 1 1000) l l.length) (k:=j+25) (by omega) (by omega)) h1s;rw[hN];exact Nat.lt_of_le_of_lt z8z sq.1
 have sA:∀i,i<=l.length+4->sz (A i) (j+30+j):=λi hi=>zca (z1v (by omega) (by
  have:10^(j+30)=10*10^(j+29):=by rw[show j+30=1+(j+29) by omega,Nat.pow_add]
  have h4:10^2<=10^(j+29):=yF (by omega) (by omega);have:=h.len;omega)) su
 have hl:=h.len;refine(ydz p l.length cap (by omega) (numS u) (λi=>numS (A i)) (λi=>ordF l (A i)) (λi=>z11 l _) w (hid λW hW=>?_) (hid λi hi W hW=>z4c _ l (A i) h.ok (by omega) ((sA i hi).mono (by omega)) W (hw.below hW) (hv.below hW)) (hid λi hi W hW=>?_)).mono λe w' ⟨e1,hb⟩=>⟨?_,hb⟩
 ·rw[hA0,hN]
  exact yao _ l u j hl h.sh hu hj hj9 su W (hw.below hW).wd (hv.below hW)
 ·rw[hA]
  exact zje (A i) u (j+30+j) j (by omega) hj (by omega) (sA i (by omega)) su W (hw.below hW).wd
 ·rw[e1]
  have hR:ofU l u=(ofN (λi=>ordF l (A i)) (l.length+4)).map λp=>(A p.1,A p.2):=by
   unfold ofU ofR ofN;rw[<-hN,<-hA0];split
   ·rfl
   ·exact z81 (ordF l) u 0 A hA _ 0
  rw[hR];cases ofN (λi=>ordF l (A i)) (l.length+4)<;>rfl
def zet (n:Nat):Rat:=1/((10^n:Nat):Rat)
theorem zfs (n:Nat):0<zet n/\sz (zet n) (n+1)/\numS (zet n)=if n=0 then[49] else[49,47,49]++List.replicate n 48:=by
 have h0:(0:Rat)<((10^n:Nat):Rat):=by exact_mod_cast Nat.pow_pos (by omega)
 have e:zet n=Rat.divInt 1 ((10^n:Nat):Int):=by unfold zet;rw[Rat.divInt_eq_div];rfl
 have hp:(0:Int)<((10^n:Nat):Int):=by exact_mod_cast Nat.pow_pos (by omega)
 refine⟨by unfold zet;rw[Rat.div_def,Rat.one_mul];exact Rat.inv_pos.2 h0,?_,?_⟩
 ·rw[e]
  exact zig (by omega) (by show(1:Int).natAbs<_;exact Nat.one_lt_pow (by omega) (by omega)) (by rw[Int.natAbs_natCast];exact Nat.pow_lt_pow_right (by omega) (by omega))
 ·rw[e,zif 1 _ hp]
  have g:Int.gcd 1 ((10^n:Nat):Int)=1:=by rw[Int.one_gcd]
  rw[g];simp only[Int.natCast_one,Int.ediv_one];by_cases hn:n=0
  ·subst hn;decide+kernel
  ·rw[if_neg hn,if_neg (by have:10^1<=10^n:=yF (by omega) (by omega);omega),Str.zad,z13,show zE 1=[49] by decide+kernel]
   rfl
theorem z55 (n:Nat) (hn:n<=40) (w:zA):qJ 63 #[.int .i64 (n:Int)] w (St (numS (zet n))):=by
 rw[(zfs n).2.2];rcases Nat.eq_zero_or_pos n with h|h
 ·subst h
  go_enter Tryz.func63,Tryz.ntmps63;go_wp21;go_ret;exact⟨rfl,zM _ _⟩
 ·have hr:=Tryz.strings_Repeat ⟨#[48]⟩ n w (by omega) (by show 1*n<=_;omega)
  have hx:(⟨#[49,47,49]⟩:ByteArray)++⟨(Lib.repeatL (⟨#[48]⟩:ByteArray).data.toList n).toArray⟩=⟨(if n=0 then[49] else[49,47,49]++List.replicate n 48).toArray⟩:=by
   rw[if_neg (by omega)];have:=zhy n;show(⟨#[49,47,49]⟩:ByteArray)++⟨(Lib.repeatL [48] n).toArray⟩=_;rw[this];apply ByteArray.ext;rw[ByteArray.data_append];simp
  have hne:¬(n:Int)=0:=by omega
  have hne2:¬n=0:=by omega
  have hl:(Lib.repeatL (⟨#[48]⟩:ByteArray).data.toList n).length<=40:=by
   show(Lib.repeatL [48] n).length<=40;rw[zhy,List.length_replicate];exact hn
  generalize Lib.repeatL (⟨#[48]⟩:ByteArray).data.toList n=R at*
  rw[if_neg (by omega)] at hx⊢;generalize [49,47,49]++List.replicate n 48=Z at*
  have hl2:¬9223372036854775807<3+R.length:=by omega
  have HR:=hid hr;have HX:=hid hx;clear hr hx;go_enter Tryz.func63,Tryz.ntmps63;go_wp21;refine zzM HR.out λw1 hb=>?_;have B:=hid hb;clear hb;go_wp21;go_ret;exact⟨congrArg (λs=>Ending.returned (.string s)) HX.out,B.out⟩
theorem z22 (v:Value) (n:Nat) (hn:n<=40) (a b:List UInt8) (r:Int) (_:r=0\/r=4/\a=[]/\b=[]) (w:zA)
 (K:Hid (∀W:zA,qL w W->qJ 61 #[v] W (.int .i64 0)))
 (O:Hid (∀W:zA,qL w W->qJ 62 #[v,St (numS (zet n))] W (.tuple #[.agg #[St a,St b],.int .i64 r]))):
 qJ 15 #[v,.int .i64 (n:Int)] w (.tuple #[.agg #[St a,St b],.int .i64 r]):=by
 have HUN:=hid (z55 n hn);generalize numS (zet n)=u at*
 have d1:decide ((n:Int)<0)=false:=decide_eq_false (by omega);have d2:decide ((40:Int)<(n:Int))=false:=decide_eq_false (by omega);obtain⟨v1,hv⟩:=zzX (w.alloc (.cells #[St [],St []] 43));have a1:qL w v1:=by rw[hv];exact(zM _ w).alloc (zN _) _
 have R1:v1.heap[w.heap.size]? =some (.cells #[St [],St []] 43 (0,0)):=by rw[hv];exact zG w _
 have HV1:=hid hv.symm;have E1:=hid a1;have B1:=hid R1;clear hv a1 R1;go_enter Tryz.func15,Tryz.ntmps15;go_wp21;have h9:=HV1.out;rw[show w.alloc (.cells #[.string ⟨#[]⟩,.string ⟨#[]⟩] 43)=v1 from h9];clear h9 HV1;refine zzM (K.out v1 E1.out) λw1 hb1=>?_;have E2:=hid (E1.out.trans (hb1.mono E1.out.size));have B2:=hid (zac hb1 _ _ _ _ B1.out);clear hb1 E1 B1;go_wp21;refine zzM (HUN.out w1) λw2 hb2=>?_;have E3:=hid (E2.out.trans (hb2.mono E2.out.size));have B3:=hid (zac hb2 _ _ _ _ B2.out);clear hb2 E2 B2;go_wp21;refine zzM (O.out w2 E3.out) λw6 hb6=>?_;have E7:=hid (E3.out.trans (hb6.mono E3.out.size));have B7:=hid (zac hb6 _ _ _ _ B3.out);clear hb6 E3 B3;have c0:w6.cell? ⟨w.heap.size,0,none⟩=some (St []):=by rw[zJ B7.out];rfl
 have c1:w6.cell? ⟨w.heap.size,1,none⟩=some (St []):=by rw[zJ B7.out];rfl
 have f0:=Go.Joins.unfrozen_of_block B7.out 0;have f1:=Go.Joins.unfrozen_of_block B7.out 1;go_wp21;have hB7:=E7.out;refine bodyPost_ret (v:=.tuple #[.agg #[St a,St b],.int .i64 r]) (by simp[results,Tryz.results15,go_sem,c0,c1]) rfl ⟨rfl,?_⟩
 repeat(first|exact hB7|refine Below.setCell ?_ (by simp) _)
theorem z82 (v:Value) (l:List (Rat×Nat)) (h:EnS l) (n:Nat) (hn:n<=40) (w:zA) (hw:Hw w) (hv:SdL v l w):
 qJ 15 #[v,.int .i64 (n:Int)] w (rngV (ofU l (zet n))):=by
 obtain⟨u0,su, -⟩:=zfs n;have K:=λ(W:zA) (hW:qL w W)=>zlt v l h.ok (by have:=h.len;omega) (λt ht=>(h.csz t ht).mono (by omega)) W (hw.below hW) (hv.below hW);have O:=λ(W:zA) (hW:qL w W)=>of_l v l h (zet n) (n+1) u0 (by omega) (by omega) su W (hw.below hW) (hv.below hW)
 cases ho:ofU l (zet n) with
 |none=>
  rw[ho] at O;exact z22 v n hn [] [] 4 (.inr ⟨rfl,rfl,rfl⟩) w (hid K) (hid O)
 |some p=>
  rw[ho] at O;exact z22 v n hn (numS p.1) (numS p.2) 0 (.inl rfl) w (hid K) (hid O)
end
end Go.Proofs.YtnjiiafnneillaaGreatDoor
