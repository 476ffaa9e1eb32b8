/- surds of root 2 and a number: those of the example. -/
import Derived.Test.YtgeapfaiacoajaaGreatDoorY11
set_option maxRecDepth 100000
set_option maxHeartbeats 8000000
open Go renaming World → zA, Calls → zC
open Go.RowKit renaming Below → zB, intOf → zL
open Go.Lib renaming decDigits → zD, itoa → zE
open Go.Proofs.Tryz renaming prog → zF
open Go.World renaming alloc_heap_new → zG, size_alloc → zH
open Go.IntWalk renaming i64_in → zI
open Go.Joins renaming cell_of_block → zJ, block_setCell → zK
open Go.RowKit.Below renaming refl → zM, heap_setCell → yE
open Nat renaming le_refl → zN, le_trans → zO, zero_le → zR, lt_of_lt_of_le → zS, pos_of_ne_zero → yS
namespace Go.Proofs.YtgeapfaiacoajaaGreatDoor
section
open Go.RowKit Go.Shelf Lib Str Limb
attribute [local go_sem] Oper.semAt_some
theorem zjh:z5c ((2:Nat):Rat) ((1:Nat):Rat)=false/\z5c ((1:Nat):Rat) ((2:Nat):Rat)=false:=by
 constructor<;>decide+kernel
def ab2 (a b:Rat):List (Rat×Nat):=[(a,1),(b,2)]
theorem zsj {a b:Rat} (ha:a≠0) (hb:b≠0) (sa:sz a 60) (sb:sz b 60):SdOk (ab2 a b):=by
 refine⟨by simp[ab2],λt ht=>?_,λi t u h1 h2=>?_,λi k t u hik h1 h2=>?_⟩
 ·simp[ab2] at ht
  rcases ht with rfl|rfl
  ·exact⟨ha,sa,zyl.1⟩
  ·exact⟨hb,sb,zyl.2⟩
 ·match i with
  |0=>simp[ab2] at h1 h2;subst h1;subst h2;show 1<2;omega
  |i+1=>simp[ab2] at h2
 ·match i,k with
  |0,0=>exact absurd rfl hik
  |0,1=>simp[ab2] at h1 h2;subst h1;subst h2;exact zjh.1
  |1,0=>simp[ab2] at h1 h2;subst h1;subst h2;exact zjh.2
  |1,1=>exact absurd rfl hik
  |i+2,_=>simp[ab2] at h1
  |_,k+2=>simp[ab2] at h2
def b2 (b:Rat):List (Rat×Nat):=[(b,2)]
theorem zs7 {b:Rat} (hb:b≠0) (sb:sz b 60):SdOk (b2 b):=SdOk.one ⟨hb,sb,zyl.2⟩
theorem zp8 (v:Value) (w:zA) (hw:Wd w) (hp:Spw w) (hv:SdL v (ab2 (-1) 1) w):
 qJ 109 #[v] w (.tuple #[.int .i64 1,.int .i64 0]):=by
 obtain⟨p,cap,rfl, -,hx⟩:=hv.slice;have z48:zE 0=[48]:=zb9;have dz:∀z:Int, -1000000<z->z<1000000->digs z<=300:=λz h1 h2=>zO (zhd (k:=6) (by omega) (by show z.natAbs<1000000;omega)) (by omega)
 refine z3w p cap 2 (by omega) (by omega) (λi=>if i=0 then numS (-1) else numS 1) (λi=>if i=0 then zD 1 else zD 2) (λi=>if i=0 then zE (-10000) else zE 14142) (λi=>zE (if i=0 then 0 else if i=1 then-10000 else 4142)) (λ_=>[]) 1 0 1 z48
  (hid λi hi W hW=>?_) (hid λi hi W hW=>?_) (hid λW hW=>?_) (hid (.inl ⟨by decide,rfl⟩)) w (hid hw) (hid hp) (hid λi hi=>?_)
 ·match i,hi with
  |0,_=>
   have:=zul (-1) 1 4 10000 100000000 (zm5 zb7.2.2.2.2.1) (by decide) (by omega) (by omega) (by decide+kernel) (zO (zil (k:=10) (by omega) (by omega)) (by omega)) ⟨by omega,by omega⟩ W hW;unfold floT at this;rw[if_pos (by decide),if_pos ⟨by omega,by decide+kernel⟩,show((10000/(-1:Rat).den+0:Nat):Int)=10000 by decide+kernel] at this;exact this
  |1,_=>
   have:=zul 1 2 4 14142 200000000 (zm5 zb7.2.1) (by decide) (by omega) (by omega) (by decide+kernel) (zO (zil (k:=10) (by omega) (by omega)) (by omega)) ⟨by omega,by omega⟩ W hW;unfold floT at this;rw[if_neg (by decide),show((14142/(1:Rat).den:Nat):Int)=14142 by decide+kernel] at this;exact this
 ·match i,hi with
  |0,_=>
   have:=zva 0 (-10000) (dz _ (by omega) (by omega)) (dz _ (by omega) (by omega)) (dz _ (by omega) (by omega)) W hW;exact this
  |1,_=>
   have:=zva (-10000) 14142 (dz _ (by omega) (by omega)) (dz _ (by omega) (by omega)) (dz _ (by omega) (by omega)) W hW;exact this
 ·have:=zsx 4142 0 (dz _ (by omega) (by omega)) (dz _ (by omega) (by omega)) W
  rw[z48] at this;exact this
 ·match i,hi with
  |0,_=>exact hx 0 (-1,1) rfl
  |1,_=>exact hx 1 (1,2) rfl
theorem zml (p:Option Addr) (cap n:Nat) (q:Nat->Rat) (hn:n<=5000)
 (C:Hid (∀k,k<n->qK 41 #[St (numS (q k))] (.int .i64 0)))
 (w:zA) (HW:Hid (Wd w)) (HP:Hid (RowNums p n q w)):
 qJ 77 #[.slice p n cap] w (.int .i64 0):=by
 have D0:=hid (zM w.heap.size w);go_enter Tryz.func77,Tryz.ntmps77;go_wp21;go_loopw [8] (λi wr=>∃(k:Nat),k<=n/\i=.int .i64 (k:Int)/\Hid (qL w wr))
  (λi _=>n-(zL i).toNat)
 case atStart=>exact⟨0,zR _,rfl,D0⟩
 case round=>
  clear D0;obtain⟨k,hk,rfl,hB⟩:=hrel;by_cases hlt:k<n
  ·obtain⟨b,off,rfl,c0⟩:=(HP.out.keep (zac hB.out)) k hlt
   have HC:=hid (C.out k hlt);generalize numS (q k)=x at*
   go_wp21;refine zzM (HC.out wr (HW.out.below hB.out)) λw2 hb2=>?_;have hB2:=hid (hB.out.trans (hb2.mono hB.out.size));clear hb2 HC;go_wp21;go_roundw
   case rel=>exact⟨k+1,by omega,by go_num,hB2⟩
   case measure=>simp[zL];omega
  ·go_wp21
   go_ret;exact⟨rfl,hB.out⟩
theorem zea (a:Rat) (k:Nat) (h0:0<k) (hk:k<=290) (h:sz a k) (w:zA) (hw:Wd w):
 qJ 79 #[St (numS a)] w (St (numS (-a))):=by
 have hc:=ztz 0 a 1 k (by omega) h0 (by omega) zb7.1 h w hw;rw[show(0:Rat)-a= -a by grind,show St (numS 0)=.string ⟨#[48]⟩ by rw[nm0]] at hc;generalize numS a=x at*
 generalize numS (-a)=y at*
 have HC:=hid hc;clear hc;go_enter Tryz.func79,Tryz.ntmps79;go_wp21;refine zzM HC.out λw1 hb=>?_;have HB:=hid hb;clear hb;go_wp21;go_ret;exact⟨rfl,HB.out⟩
theorem z5u (x:List UInt8) (R:Value->zA->Prop) (hR:Hid (∀v W,R v W->∃q n c,v=.slice q n c)) (w:zA)
 (M:Hid (∀W:zA,qL w W->W.heap[w.heap.size]? =some (.cells #[St x,.string ⟨#[49]⟩] 69 (0,0))->zC zF 43 #[.slice (some ⟨w.heap.size,0,none⟩) 1 1] W λe w'=>∃v,e=.returned (.tuple #[v,.int .i64 0])/\zB W.heap.size W w'/\R v w')):
 zC zF 53 #[St x] w λe w'=>∃v,e=.returned (.tuple #[v,.int .i64 0])/\zB w.heap.size w w'/\R v w':=by
 obtain⟨v1,hv⟩:=zzX (w.alloc (.cells #[St x,.string ⟨#[49]⟩] 69));have a1:qL w v1:=by rw[hv];exact(zM _ w).alloc (zN _) _
 have A1:v1.heap[w.heap.size]? =some (.cells #[St x,.string ⟨#[49]⟩] 69 (0,0)):=by rw[hv];exact zG w _
 have HM:=hid (M.out v1 a1 A1);have HV1:=hid hv.symm;have E1:=hid a1;clear hv a1 A1 M;go_enter Tryz.func53,Tryz.ntmps53;go_wp21;rw[HV1.out];clear HV1;refine HM.out.mono ?_;rintro e w1 ⟨v,rfl,hb1,hr⟩;obtain⟨q,n,c,rfl⟩:=hR.out v w1 hr;have FE:=hid (⟨E1.out.trans (hb1.mono E1.out.size),hr⟩:qL w w1/\R (.slice q n c) w1);clear hb1 hr HM;go_wp21;go_ret2;exact⟨_,rfl,FE.out.1,FE.out.2⟩
theorem z7c (a:Rat) (h:sz a 60) (w:zA) (HW:Hid (∀W,qL w W->Wd W)) (HP:Hid (∀W,qL w W->Pw W)):
 zC zF 53 #[St (numS a)] w λe w'=>∃v,e=.returned (.tuple #[v,.int .i64 0])/\zB w.heap.size w w'/\SdL v (rs a) w':=by
 refine z5u (numS a) (λv W=>SdL v (rs a) W) (hid λv W h=>h.any) w (hid λW hW hx=>?_);have hl:=(Array.getElem?_eq_some_iff.1 hx).1;refine zrs _ a h W (hid λV hV=>HW.out V (hW.trans (hV.mono hW.size))) (hid λV hV=>HP.out V (hW.trans (hV.mono hW.size))) (.inr ⟨w.heap.size,0,1,rfl,zN _,hl,λi t ht=>?_⟩);obtain rfl:i=0:=by have:=(List.getElem?_eq_some_iff.1 ht).1;simpa using this
 obtain rfl:t=(a,1):=by simpa using ht.symm
 exact⟨by rw[zJ hx];rfl,by rw[zJ hx];show _=some (St (zD 1));rw[show zD 1=[49] by rw[zae (by omega)];rfl];rfl⟩
theorem zcl (a b c:List UInt8) (p:Option Addr) (n k:Nat) (w:zA):
 qJ 46 #[.agg #[St a,St b,St c,.slice p n k]] w (.agg #[St a,St b,St c]):=by
 go_enter Tryz.func46,Tryz.ntmps46;go_wp21;exact bodyPost_ret (v:=.agg #[St a,St b,St c]) (by simp[results,Tryz.results46,go_sem]) rfl ⟨rfl,((zM _ w).alloc (zN _) _).alloc (by simp) _⟩
theorem zr2 (q:Rat):numS q≠[]:=by
 intro h;have h1:(zE q.num).length<=(numS q).length:=by unfold numS;simp
 have h2:zE q.num≠[]:=by
  rcases zbg q.num with⟨_,e⟩|⟨_,e⟩
  ·rw[e];exact zci _
  ·rw[e];simp
 rw[h] at h1;exact h2 (List.length_eq_zero_iff.1 (by simpa using h1))
theorem SdL.other {v:Value} {l:List (Rat×Nat)} {W W':zA} {k:Nat} (h:SdL v l W) (hk:∀b,b≠k->W'.heap[b]? =W.heap[b]?) (hs:W.heap.size<=W'.heap.size) (hz:∀i q,W.cell? ⟨k,i,none⟩≠some (St (numS q))):SdL v l W':=by
 rcases h with h|⟨b,off,cap,e,hc,hl,hx⟩
 ·exact .inl h
 ·refine .inr ⟨b,off,cap,e,hc,by omega,λi t ht=>?_⟩
  obtain⟨c0,c1⟩:=hx i t ht;have hb:b≠k:=λe=>by subst e;exact hz _ _ c0
  have hh:∀o,W'.cell? ⟨b,o,none⟩=W.cell? ⟨b,o,none⟩:=λo=>by unfold World.cell?;rw[show((⟨b,o,none⟩:Addr).block)=b from rfl,hk b hb]
  exact⟨by rw[hh];exact c0,by rw[hh];exact c1⟩
def zc1:Array Value:= #[St [],St [],St [],.slice none 0 0]
theorem zk8 {W:zA} {k:Nat} (h:W.heap[k]? =some (.cells zc1 26 (0,0))):∀i q,W.cell? ⟨k,i,none⟩≠some (St (numS q)):=λi q e=>by
 rw[zJ h] at e;have hne:=zr2 q;have bad:∀x:List UInt8,St []=St x->x=[]:=λx hx=>by
  have:=congrArg (λv=>match v with| .string s=>s.data.toList|_=>[]) hx;simpa using this.symm
 match i,e with
 |0,e=>exact hne (bad _ (Option.some.inj e))
 |1,e=>exact hne (bad _ (Option.some.inj e))
 |2,e=>exact hne (bad _ (Option.some.inj e))
 |3,e=>cases Option.some.inj e
 |i+4,e=>simp[zc1] at e
section
variable {w W W':zA} {o:Nat} {a b c a' b' c':List UInt8} {d d':Value} {l:List (Rat×Nat)} {f g:Nat->Bool}
end
theorem zn4 (a b c:List UInt8) (p:Option Addr) (n k:Nat) (l:List (Rat×Nat)) (w:zA) (hs:SdL (.slice p n k) l w):
 zC zF 130 #[.agg #[St a,St b,St c,.slice p n k]] w λe w'=>e=.returned (.tuple #[.agg #[St a,St b,St c,.slice p n k],.int .i64 0])/\zB w.heap.size w w'/\SdL (.slice p n k) l w':=by
 go_enter Tryz.func130,Tryz.ntmps130;go_wp21;have hB:∀cs:Array Value,qL w ((w.alloc (.cells #[St a,St b,St c,.slice p n k] 26)).alloc (.cells cs 26)):=λcs=>((zM _ w).alloc (zN _) _).alloc (by simp) _;exact bodyPost_ret (v:=.tuple #[.agg #[St a,St b,St c,.slice p n k],.int .i64 0]) (by simp[results,Tryz.results130,go_sem]) rfl ⟨rfl,hB _,hs.below (hB _)⟩
theorem zgj (b:Bool) (w:zA):zC zF 78 #[.bool b] w λe w'=>e=.returned (.func (.func (if b=true then 130 else 131)) #[] #[])/\w'=w:=by
 cases b
 ·go_enter Tryz.func78,Tryz.ntmps78
  go_wp21;go_ret;exact⟨rfl,rfl⟩
 ·go_enter Tryz.func78,Tryz.ntmps78
  go_wp21;go_ret;exact⟨rfl,rfl⟩
structure OfS (w:zA) (a b c:List UInt8) (v:Value) (l:List (Rat×Nat)) (a2 b2 c2:List UInt8) (l2:List (Rat×Nat)) (d:Value) (f:Nat->Bool) (W:zA):Prop where
 bel:qL w W
 h0:W.heap[w.heap.size]? =some (.cells #[St a,St b,St c] 67 (0,0))
 h2:f 14=false->W.heap[w.heap.size+1]? =some (.cells zc1 26 (0,0))
 h3:f 14=true->W.heap[w.heap.size+1]? =some (.cells #[St a2,St b2,St c2,d] 26 (0,0))
 sv:SdL v l W
 sd:f 11=true->SdL d l2 W
section
variable {w W W':zA} {a b c a2 b2 c2:List UInt8} {v d:Value} {l l2:List (Rat×Nat)} {f g:Nat->Bool}
theorem OfS.congr (h:OfS w a b c v l a2 b2 c2 l2 d f W) (e1:g 11=f 11) (e:g 14=f 14):OfS w a b c v l a2 b2 c2 l2 d g W:=⟨h.bel,h.h0,by rw[e];exact h.h2,by rw[e];exact h.h3,h.sv,by rw[e1];exact h.sd⟩
theorem OfS.next (h:OfS w a b c v l a2 b2 c2 l2 d f W) (hb:qL W W'):OfS w a b c v l a2 b2 c2 l2 d f W':=
 have hc:=zac hb
 ⟨h.bel.trans (hb.mono h.bel.size),hc _ _ _ _ h.h0,λe=>hc _ _ _ _ (h.h2 e),λe=>hc _ _ _ _ (h.h3 e),h.sv.below hb,λe=>(h.sd e).below hb⟩
theorem OfS.cells (h:OfS w a b c v l a2 b2 c2 l2 d f W):W.cell? ⟨w.heap.size,0,none⟩=some (St a)/\W.cell? ⟨w.heap.size,1,none⟩=some (St b)/\W.cell? ⟨w.heap.size,2,none⟩=some (St c):=
 ⟨by rw[zJ h.h0];rfl,by rw[zJ h.h0];rfl,by rw[zJ h.h0];rfl⟩
theorem OfS.soft (h:OfS w a b c v l a2 b2 c2 l2 d f W) (e:f 14=false):W.frozen? ⟨w.heap.size+1,0,none⟩=false/\W.frozen? ⟨w.heap.size+1,1,none⟩=false/\W.frozen? ⟨w.heap.size+1,2,none⟩=false/\W.frozen? ⟨w.heap.size+1,3,none⟩=false:=
 ⟨Go.Joins.unfrozen_of_block (h.h2 e) 0,Go.Joins.unfrozen_of_block (h.h2 e) 1,Go.Joins.unfrozen_of_block (h.h2 e) 2,Go.Joins.unfrozen_of_block (h.h2 e) 3⟩
theorem OfS.old (h:OfS w a b c v l a2 b2 c2 l2 d f W) (e:f 14=false):W.cell? ⟨w.heap.size+1,0,none⟩=some (St [])/\W.cell? ⟨w.heap.size+1,1,none⟩=some (St [])/\W.cell? ⟨w.heap.size+1,2,none⟩=some (St [])/\W.cell? ⟨w.heap.size+1,3,none⟩=some (.slice none 0 0):=
 ⟨by rw[zJ (h.h2 e)];rfl,by rw[zJ (h.h2 e)];rfl,by rw[zJ (h.h2 e)];rfl,by rw[zJ (h.h2 e)];rfl⟩
theorem OfS.new (h:OfS w a b c v l a2 b2 c2 l2 d f W) (e:f 14=true):W.cell? ⟨w.heap.size+1,0,none⟩=some (St a2)/\W.cell? ⟨w.heap.size+1,1,none⟩=some (St b2)/\W.cell? ⟨w.heap.size+1,2,none⟩=some (St c2)/\W.cell? ⟨w.heap.size+1,3,none⟩=some d:=
 ⟨by rw[zJ (h.h3 e)];rfl,by rw[zJ (h.h3 e)];rfl,by rw[zJ (h.h3 e)];rfl,by rw[zJ (h.h3 e)];rfl⟩
theorem OfS.res (h:OfS w a b c v l a2 b2 c2 l2 d f W) (hb:qL W W') {u:Value} (hu:SdL u l2 W') (e14:f 14=false) (g14:g 14=f 14):OfS w a b c v l a2 b2 c2 l2 u g W':=
 have hn:=h.next hb
 ⟨hn.bel,hn.h0,by rw[g14];exact hn.h2,λk=>(by rw[g14,e14] at k;cases k),hn.sv,λ_=>hu⟩
theorem OfS.put (h:OfS w a b c v l a2 b2 c2 l2 d f W) (e:f 14=false):OfS w a b c v l a2 b2 c2 l2 d (λj=>if 14=j then true else f j) ((((W.setCell ⟨w.heap.size+1,0,none⟩ (St a2)).setCell ⟨w.heap.size+1,1,none⟩ (St b2)).setCell ⟨w.heap.size+1,2,none⟩ (St c2)).setCell ⟨w.heap.size+1,3,none⟩ d):=by
 have ne:∀{k:Nat},k≠w.heap.size+1->((((W.setCell ⟨w.heap.size+1,0,none⟩ (St a2)).setCell ⟨w.heap.size+1,1,none⟩ (St b2)).setCell ⟨w.heap.size+1,2,none⟩ (St c2)).setCell ⟨w.heap.size+1,3,none⟩ d).heap[k]? =W.heap[k]? :=λ{k} hk=>by
  rw[yE _ _ _ _ (by exact hk),yE _ _ _ _ (by exact hk),yE _ _ _ _ (by exact hk),yE _ _ _ _ (by exact hk)]
 have hz:=zk8 (h.h2 e);refine⟨(((h.bel.setCell (p:=⟨w.heap.size+1,0,none⟩) (by show _<=w.heap.size+1;omega) _).setCell (p:=⟨w.heap.size+1,1,none⟩) (by show _<=w.heap.size+1;omega) _).setCell (p:=⟨w.heap.size+1,2,none⟩) (by show _<=w.heap.size+1;omega) _).setCell (p:=⟨w.heap.size+1,3,none⟩) (by show _<=w.heap.size+1;omega) _,?_,λk=>(by simp at k),λ_=>?_,h.sv.other (λb hb=>ne hb) (by simp[World.setCell]) hz,λk=>(h.sd (by simpa using k)).other (λb hb=>ne hb) (by simp[World.setCell]) hz⟩
 ·rw[ne (by omega)];exact h.h0
 ·exact zK (i:=3) (zK (i:=2) (zK (i:=1) (zK (i:=0) (h.h2 e) (St a2)) (St b2)) (St c2)) d
end
theorem zlt (a b c a1 b1 a2 b2 c2:List UInt8) (ab:Bool) (g:FuncId) (l l2:List (Rat×Nat)) (w:zA) (HW:Hid (∀W,qL w W->Wd W))
 (FI:Hid (∀W:zA,qL w W->∀A,W.heap[A]? =some (.cells #[St a,St b,St c] 22 (0,0))->qJ 77 #[.slice (some ⟨A,0,none⟩) 3 3] W (.int .i64 0)))
 (NU:Hid (∀W:zA,qL w W->zC zF 53 #[St c] W λe w'=>∃v,e=.returned (.tuple #[v,.int .i64 0])/\zB W.heap.size W w'/\SdL v l w'))
 (CH:Hid (∀W:zA,zC zF 78 #[.bool (!ab)] W λe w'=>e=.returned (.func (.func g) #[] #[])/\w'=W))
 (O1:Hid (qK 79 #[St a] (St a1)))
 (O2:Hid (qK 79 #[St b] (St b1)))
 (GO:Hid (∀(W:zA) (p:Option Addr) (n k:Nat),qL w W->SdL (.slice p n k) l W->zC zF g #[.agg #[St a1,St b1,.string ⟨#[49]⟩,.slice p n k]] W λe w'=>∃v,e=.returned (.tuple #[.agg #[St a2,St b2,St c2,v],.int .i64 0])/\zB W.heap.size W w'/\SdL v l2 w')) (eg:∀args w,(callFunc g args).run zF w=.ok (.enter g args) w):
 zC zF 27 #[.agg #[St a,St b,St c],.bool ab] w λe w'=>∃v,e=.returned (.tuple #[.agg #[St a2,St b2,St c2,v],.int .i64 0])/\zB w.heap.size w w'/\SdL v l2 w':=by
 obtain⟨v1,hv⟩:=zzX ((w.alloc (.cells #[St a,St b,St c] 67)).alloc (.cells zc1 26));have b1':qL w v1:=by rw[hv];exact((zM _ w).alloc (zN _) _).alloc (by simp) _
 have A1:v1.heap[w.heap.size]? =some (.cells #[St a,St b,St c] 67 (0,0)):=by rw[hv];exact(Below.heap_alloc _ _ _ (by simp)).trans (zG w _)
 have A2:v1.heap[w.heap.size+1]? =some (.cells zc1 26 (0,0)):=by
  rw[hv];have:=zG (w.alloc (.cells #[St a,St b,St c] 67)) (.cells zc1 26);rw[zH] at this;exact this
 have q0:v1.cell? ⟨w.heap.size,0,none⟩=some (St a):=by rw[zJ A1];rfl
 have q1:v1.cell? ⟨w.heap.size,1,none⟩=some (St b):=by rw[zJ A1];rfl
 have q2:v1.cell? ⟨w.heap.size,2,none⟩=some (St c):=by rw[zJ A1];rfl
 obtain⟨v2,hv2⟩:=zzX (v1.alloc (.cells #[St a,St b,St c] 22));have b2':qL v1 v2:=by rw[hv2];exact(zM _ v1).alloc (zN _) _
 have A3:v2.heap[v1.heap.size]? =some (.cells #[St a,St b,St c] 22 (0,0)):=by rw[hv2];exact zG v1 _
 have hb:=b1'.trans (b2'.mono b1'.size);have hsz:v1.heap.size=w.heap.size+1+1:=by rw[hv];simp
 rw[hsz] at A3;have HF:=hid (FI.out v2 hb _ A3);have B2:=hid hb;have P1:=hid (zac b2' _ _ _ _ A1);have P2:=hid (zac b2' _ _ _ _ A2);have HV:=hid hv.symm;have HV2:=hid hv2.symm;have EG:=hid eg;clear hv hv2 b1' b2' A1 A2 A3 hb FI eg hsz;go_enter Tryz.func27,Tryz.ntmps27;go_wp21;have h9:=HV.out;rw[show(w.alloc (.cells #[.string ⟨a.toArray⟩,.string ⟨b.toArray⟩,.string ⟨c.toArray⟩] 67)).alloc (.cells #[.string ⟨#[]⟩,.string ⟨#[]⟩,.string ⟨#[]⟩,.slice none 0 0] 26)=v1 from h9];clear h9 HV;go_wp21;have h9:=HV2.out;rw[show v1.alloc (.cells #[.string ⟨a.toArray⟩,.string ⟨b.toArray⟩,.string ⟨c.toArray⟩] 22)=v2 from h9];clear h9 HV2 q0 q1 q2;refine zzM HF.out λw1 hb1=>?_;have hb:=B2.out.trans (hb1.mono B2.out.size);have B3:=hid hb;have P3:=hid (zac hb1 _ _ _ _ P1.out);have P4:=hid (zac hb1 _ _ _ _ P2.out);have HN:=hid (NU.out w1 hb);clear hb hb1 B2 P1 P2 HF NU;have q2:w1.cell? ⟨w.heap.size,2,none⟩=some (St c):=by rw[zJ P3.out];rfl
 go_wp21;refine HN.out.mono ?_;rintro e w2 ⟨v,rfl,hb2,hs⟩;obtain⟨p,n,k,rfl⟩:=hs.any;have HS:=hid (⟨B3.out.trans (hb2.mono B3.out.size),zac hb2 _ _ _ _ P3.out,λ_=>zac hb2 _ _ _ _ P4.out,λk=>(by cases k),hs,λk=>(by cases k)⟩:OfS w a b c (.slice p n k) l a2 b2 c2 l2 (.slice none 0 0) (λ_=>false) w2);clear hb2 hs q2 HN B3 P3 P4;go_wp21;refine zc4 (λ(g3:Option Addr×Nat×Nat) i=>([.bool ab,.bool (!ab),.func (.func g) #[] #[],.pointer (some ⟨w.heap.size,0,none⟩),St a,St a1,.pointer (some ⟨w.heap.size,1,none⟩),St b,St b1,.slice p n k,.agg #[St a1,St b1,.string ⟨#[49]⟩,.slice p n k],.tuple #[.agg #[St a2,St b2,St c2,.slice g3.1 g3.2.1 g3.2.2],.int .i64 0],.agg #[St a2,St b2,St c2,.slice g3.1 g3.2.1 g3.2.2],.int .i64 0,undef,.int .i64 0]:List Value).getD i undef) (λg3=>OfS w a b c (.slice p n k) l a2 b2 c2 l2 (.slice g3.1 g3.2.1 g3.2.2)) (by kernel_rfl) (by kernel_rfl) (none,0,0) (HS.out.next (zM _ _).drew) λg3=>?_;refine qB (.bool ab) (λf W' h=>h.congr rfl rfl) ?_;refine qB (.bool (!ab)) (λf W' h=>h.congr rfl rfl) ?_;simp only[zzQ]
 refine zbv (.func (.func g) #[] #[]) (by rfl) (by rfl) (λf W' hf h C' hC'=>by
  go_simp;refine(CH.out _).mono ?_;rintro e w' ⟨rfl,rfl⟩;exact⟨_,rfl,hC' _ (h.congr rfl rfl)⟩) ?_
 refine qB (.pointer (some ⟨w.heap.size,0,none⟩)) (λf W' h=>h.congr rfl rfl) ?_;refine qB (St a) (λf W' h=>h.congr rfl rfl) ?_ (hy:=λf W' hf h=>by obtain⟨q0,q1,q2⟩:=h.cells;go_simp);simp only[zzQ]
 refine zbv (St a1) (by rfl) (by rfl) (λf W' hf h C' hC'=>by
  go_simp;refine zzM (O1.out _ (HW.out _ h.bel)) λw' hb=>?_;exact⟨_,rfl,hC' _ ((h.next hb).congr rfl rfl)⟩) ?_
 refine qB (.pointer (some ⟨w.heap.size,1,none⟩)) (λf W' h=>h.congr rfl rfl) ?_;refine qB (St b) (λf W' h=>h.congr rfl rfl) ?_ (hy:=λf W' hf h=>by obtain⟨q0,q1,q2⟩:=h.cells;go_simp);simp only[zzQ]
 refine zbv (St b1) (by rfl) (by rfl) (λf W' hf h C' hC'=>by
  go_simp;refine zzM (O2.out _ (HW.out _ h.bel)) λw' hb=>?_;exact⟨_,rfl,hC' _ ((h.next hb).congr rfl rfl)⟩) ?_
 refine qB (.slice p n k) (λf W' h=>h.congr rfl rfl) ?_;refine qB (.agg #[St a1,St b1,.string ⟨#[49]⟩,.slice p n k]) (λf W' h=>h.congr rfl rfl) ?_;simp only[zzQ]
 refine zdc (.tuple #[.agg #[St a2,St b2,St c2,.slice g3.1 g3.2.1 g3.2.2],.int .i64 0]) (by rfl) (by rfl) (λf W' hf h C' hC'=>by
  have h11:=hf.self;have h12:=hf.no (j:=12) hf.self (by kernel_rfl);have h14:=hf.no (j:=14) h12 (by kernel_rfl);have hg:=GO.out W' p n k h.bel h.sv;have heg:=EG.out;go_simp;refine hg.mono ?_;rintro e w' ⟨u0,rfl,hb,hu⟩;obtain⟨u1,u2,u3,rfl⟩:=hu.any;have hj:∀j,f j=true->(([.bool ab,.bool (!ab),.func (.func g) #[] #[],.pointer (some ⟨w.heap.size,0,none⟩),St a,St a1,.pointer (some ⟨w.heap.size,1,none⟩),St b,St b1,.slice p n k,.agg #[St a1,St b1,.string ⟨#[49]⟩,.slice p n k],.tuple #[.agg #[St a2,St b2,St c2,.slice u1 u2 u3],.int .i64 0],.agg #[St a2,St b2,St c2,.slice u1 u2 u3],.int .i64 0,undef,.int .i64 0]:List Value).getD j undef)=(([.bool ab,.bool (!ab),.func (.func g) #[] #[],.pointer (some ⟨w.heap.size,0,none⟩),St a,St a1,.pointer (some ⟨w.heap.size,1,none⟩),St b,St b1,.slice p n k,.agg #[St a1,St b1,.string ⟨#[49]⟩,.slice p n k],.tuple #[.agg #[St a2,St b2,St c2,.slice g3.1 g3.2.1 g3.2.2],.int .i64 0],.agg #[St a2,St b2,St c2,.slice g3.1 g3.2.1 g3.2.2],.int .i64 0,undef,.int .i64 0]:List Value).getD j undef):=by
   intro j hj
   match j,hj with
   |0,_|1,_|2,_|3,_|4,_|5,_|6,_|7,_|8,_|9,_|10,_|13,_|14,_|15,_=>rfl
   |11,hj=>rw[h11] at hj;cases hj
   |12,hj=>rw[h12] at hj;cases hj
   |_+16,_=>rfl
  exact⟨_,rfl,hC' (u1,u2,u3) _ hj (h.res hb hu h14 rfl)⟩) ?_
 refine qB (.agg #[St a2,St b2,St c2,.slice g3.1 g3.2.1 g3.2.2]) (λf W' h=>h.congr rfl rfl) ?_;refine qB (.int .i64 0) (λf W' h=>h.congr rfl rfl) ?_;simp only[zzQ]
 refine zbv undef (by rfl) (by rfl) (λf W' hf h C' hC'=>by
  have h14:=hf.self;have h11:=hf.done 11 (by kernel_rfl);obtain⟨d0,d1,d2,d3⟩:=h.old h14;obtain⟨f0,f1,f2,f3⟩:=h.soft h14;have:=hC' _ (h.put h14);go_simp;exact this) ?_
 try simp only[Act.put]
 refine qB (.int .i64 0) (λf W' h=>h.congr rfl rfl) ?_;simp only[zzQ];refine ze1 λf X hf h=>?_;obtain⟨c0,c1,c2',c3⟩:=h.new (hf 14 (by decide));have hF:=hid (⟨h.bel,h.sd (hf 11 (by decide))⟩:_/\_);clear h hf HS;go_wp21;exact bodyPost_ret (v:=.tuple #[.agg #[St a2,St b2,St c2,.slice g3.1 g3.2.1 g3.2.2],.int .i64 0]) (by simp[results,Tryz.results27,go_sem,c0,c1,c2',c3]) rfl ⟨_,rfl,hF.out.1,hF.out.2⟩
theorem zbc {W:zA} {k:Nat} {p0 p1 p2:Value} {t:TypeId} (h:W.heap[k]? =some (.cells #[p0,p1,p2] t (0,0))) (h0:∃q n c,p0=.slice q n c) (h1:∃q n c,p1=.slice q n c) (h2:∃q n c,p2=.slice q n c):∀i q,W.cell? ⟨k,i,none⟩≠some (St (numS q)):=λi q e=>by
 rw[zJ h] at e;obtain⟨_,_,_,rfl⟩:=h0;obtain⟨_,_,_,rfl⟩:=h1;obtain⟨_,_,_,rfl⟩:=h2
 match i,e with
 |0,e=>cases Option.some.inj e
 |1,e=>cases Option.some.inj e
 |2,e=>cases Option.some.inj e
 |i+3,e=>simp at e
structure ScS (w:zA) (s0 s1 s2:Value) (x0 x1 x2:List UInt8) (p0 p1 p2:Value) (W:zA):Prop where
 bel:qL w W
 h0:W.heap[w.heap.size]? =some (.cells #[s0,s1,s2] 103 (0,0))
 h2:W.heap[w.heap.size+1+1]? =some (.cells #[p0,p1,p2] 103 (0,0))
 h3:W.heap[w.heap.size+1+1+1]? =some (.cells #[St x0,St x1,St x2] 22 (0,0))
section
variable {w W W':zA} {s0 s1 s2 p0 p1 p2:Value} {x0 x1 x2:List UInt8}
theorem ScS.next (h:ScS w s0 s1 s2 x0 x1 x2 p0 p1 p2 W) (hb:qL W W'):ScS w s0 s1 s2 x0 x1 x2 p0 p1 p2 W':=
 have hc:=zac hb
 ⟨h.bel.trans (hb.mono h.bel.size),hc _ _ _ _ h.h0,hc _ _ _ _ h.h2,hc _ _ _ _ h.h3⟩
theorem ScS.cells (h:ScS w s0 s1 s2 x0 x1 x2 p0 p1 p2 W):W.cell? ⟨w.heap.size,0,none⟩=some s0/\W.cell? ⟨w.heap.size,1,none⟩=some s1/\W.cell? ⟨w.heap.size,2,none⟩=some s2/\
 W.cell? ⟨w.heap.size+1+1,0,none⟩=some p0/\W.cell? ⟨w.heap.size+1+1,1,none⟩=some p1/\W.cell? ⟨w.heap.size+1+1,2,none⟩=some p2/\
 W.cell? ⟨w.heap.size+1+1+1,0,none⟩=some (St x0)/\W.cell? ⟨w.heap.size+1+1+1,1,none⟩=some (St x1)/\W.cell? ⟨w.heap.size+1+1+1,2,none⟩=some (St x2):=
 ⟨by rw[zJ h.h0];rfl,by rw[zJ h.h0];rfl,by rw[zJ h.h0];rfl,by rw[zJ h.h2];rfl,by rw[zJ h.h2];rfl,by rw[zJ h.h2];rfl,by rw[zJ h.h3];rfl,by rw[zJ h.h3];rfl,by rw[zJ h.h3];rfl⟩
theorem ScS.soft (h:ScS w s0 s1 s2 x0 x1 x2 p0 p1 p2 W) (i:Nat):W.frozen? ⟨w.heap.size+1+1,i,none⟩=false:=Go.Joins.unfrozen_of_block h.h2 i
theorem ScS.ne (h:ScS w s0 s1 s2 x0 x1 x2 p0 p1 p2 W) (i:Nat) (u:Value):qL w (W.setCell ⟨w.heap.size+1+1,i,none⟩ u)/\(∀b,b≠w.heap.size+1+1->(W.setCell ⟨w.heap.size+1+1,i,none⟩ u).heap[b]? =W.heap[b]?)/\W.heap.size<=(W.setCell ⟨w.heap.size+1+1,i,none⟩ u).heap.size:=
 ⟨h.bel.setCell (p:=⟨w.heap.size+1+1,i,none⟩) (by show _<=w.heap.size+1+1;omega) _,λb hb=>yE _ _ _ _ (by exact hb),by simp[World.setCell]⟩
theorem ScS.put0 (h:ScS w s0 s1 s2 x0 x1 x2 p0 p1 p2 W) (u:Value):ScS w s0 s1 s2 x0 x1 x2 u p1 p2 (W.setCell ⟨w.heap.size+1+1,0,none⟩ u):=by
 obtain⟨h1,h2,_⟩:=h.ne 0 u;exact⟨h1,(h2 _ (by omega)).trans h.h0,zK (i:=0) h.h2 u,(h2 _ (by omega)).trans h.h3⟩
theorem ScS.put1 (h:ScS w s0 s1 s2 x0 x1 x2 p0 p1 p2 W) (u:Value):ScS w s0 s1 s2 x0 x1 x2 p0 u p2 (W.setCell ⟨w.heap.size+1+1,1,none⟩ u):=by
 obtain⟨h1,h2,_⟩:=h.ne 1 u;exact⟨h1,(h2 _ (by omega)).trans h.h0,zK (i:=1) h.h2 u,(h2 _ (by omega)).trans h.h3⟩
theorem ScS.put2 (h:ScS w s0 s1 s2 x0 x1 x2 p0 p1 p2 W) (u:Value):ScS w s0 s1 s2 x0 x1 x2 p0 p1 u (W.setCell ⟨w.heap.size+1+1,2,none⟩ u):=by
 obtain⟨h1,h2,_⟩:=h.ne 2 u;exact⟨h1,(h2 _ (by omega)).trans h.h0,zK (i:=2) h.h2 u,(h2 _ (by omega)).trans h.h3⟩
end
theorem z0p (q0 q1 q2:Option Addr) (n0 n1 n2 k0 k1 k2:Nat) (x0 x1 x2:List UInt8) (L0 L1 L2 M1 M2:List (Rat×Nat)) (Ea Eb Ec E1 E2 F:Prop) (w:zA)
 (S0:Hid (∀W:zA,qL w W->zC zF 11 #[.slice q0 n0 k0,St x0] W λe w'=>∃q n c r,e=.returned (.tuple #[.slice q n c,.int .i64 r])/\zB W.heap.size W w'/\OutR L0 Ea F (.slice q n c) r w'))
 (S1:Hid (∀W:zA,qL w W->zC zF 11 #[.slice q1 n1 k1,St x1] W λe w'=>∃q n c r,e=.returned (.tuple #[.slice q n c,.int .i64 r])/\zB W.heap.size W w'/\OutR L1 Eb F (.slice q n c) r w'))
 (S2:Hid (∀W:zA,qL w W->zC zF 11 #[.slice q2 n2 k2,St x2] W λe w'=>∃q n c r,e=.returned (.tuple #[.slice q n c,.int .i64 r])/\zB W.heap.size W w'/\OutR L2 Ec F (.slice q n c) r w'))
 (A1:Hid (∀(W:zA) (u v:Value),Ea->Eb->qL w W->SdL u L0 W->SdL v L1 W->zC zF 17 #[u,v] W λe w'=>∃q n c r,e=.returned (.tuple #[.slice q n c,.int .i64 r])/\zB W.heap.size W w'/\OutR M1 E1 F (.slice q n c) r w'))
 (A2:Hid (∀(W:zA) (u v:Value),Ea->Eb->E1->Ec->qL w W->SdL u M1 W->SdL v L2 W->zC zF 17 #[u,v] W λe w'=>∃q n c r,e=.returned (.tuple #[.slice q n c,.int .i64 r])/\zB W.heap.size W w'/\OutR M2 E2 F (.slice q n c) r w')):
 zC zF 49 #[.agg #[.slice q0 n0 k0,.slice q1 n1 k1,.slice q2 n2 k2],.agg #[St x0,St x1,St x2]] w λe w'=>∃q n c r,e=.returned (.tuple #[.slice q n c,.int .i64 r])/\zB w.heap.size w w'/\OutR M2 (Ea/\Eb/\Ec/\E1/\E2) F (.slice q n c) r w':=by
 obtain⟨v1,hv⟩:=zzX (((w.alloc (.cells #[.slice q0 n0 k0,.slice q1 n1 k1,.slice q2 n2 k2] 103)).alloc (.cells #[St x0,St x1,St x2] 45)).alloc (.cells #[.slice none 0 0,.slice none 0 0,.slice none 0 0] 103));have hb1:qL w v1:=by rw[hv];exact(((zM _ w).alloc (zN _) _).alloc (by simp) _).alloc (by simp;omega) _
 have e1:v1.heap[w.heap.size]? =some (.cells #[.slice q0 n0 k0,.slice q1 n1 k1,.slice q2 n2 k2] 103 (0,0)):=by
  rw[hv];exact(Below.heap_alloc _ _ _ (by simp;omega)).trans ((Below.heap_alloc _ _ _ (by simp)).trans (zG w _))
 have e2:v1.heap[w.heap.size+1]? =some (.cells #[St x0,St x1,St x2] 45 (0,0)):=by
  rw[hv];have:=zG (w.alloc (.cells #[.slice q0 n0 k0,.slice q1 n1 k1,.slice q2 n2 k2] 103)) (.cells #[St x0,St x1,St x2] 45);rw[zH] at this;exact(Below.heap_alloc _ _ _ (by simp)).trans this
 have e3:v1.heap[w.heap.size+1+1]? =some (.cells #[.slice none 0 0,.slice none 0 0,.slice none 0 0] 103 (0,0)):=by
  rw[hv];have:=zG ((w.alloc (.cells #[.slice q0 n0 k0,.slice q1 n1 k1,.slice q2 n2 k2] 103)).alloc (.cells #[St x0,St x1,St x2] 45)) (.cells #[.slice none 0 0,.slice none 0 0,.slice none 0 0] 103);rw[zH,zH] at this;exact this
 have hsz:v1.heap.size=w.heap.size+1+1+1:=by rw[hv];simp
 have y0:v1.cell? ⟨w.heap.size+1,0,none⟩=some (St x0):=by rw[zJ e2];rfl
 have y1:v1.cell? ⟨w.heap.size+1,1,none⟩=some (St x1):=by rw[zJ e2];rfl
 have y2:v1.cell? ⟨w.heap.size+1,2,none⟩=some (St x2):=by rw[zJ e2];rfl
 obtain⟨v2,hv2⟩:=zzX (v1.alloc (.cells #[St x0,St x1,St x2] 22));have b2:qL v1 v2:=by rw[hv2];exact(zM _ v1).alloc (zN _) _
 have HS0:Hid (ScS w (.slice q0 n0 k0) (.slice q1 n1 k1) (.slice q2 n2 k2) x0 x1 x2 (.slice none 0 0) (.slice none 0 0) (.slice none 0 0) v2):=hid
  ⟨hb1.trans (b2.mono hb1.size),zac b2 _ _ _ _ e1,zac b2 _ _ _ _ e3,by rw[hv2,<-hsz];exact zG v1 _⟩
 have HV:=hid hv.symm;have HV2:=hid hv2.symm;have HSZ:=hid hsz;clear hv hv2 hb1 b2 e1 e2 e3 hsz;go_enter Tryz.func49,Tryz.ntmps49;go_wp21;have h9:=HV.out;rw[show((w.alloc (.cells #[.slice q0 n0 k0,.slice q1 n1 k1,.slice q2 n2 k2] 103)).alloc (.cells #[.string ⟨x0.toArray⟩,.string ⟨x1.toArray⟩,.string ⟨x2.toArray⟩] 45)).alloc (.cells #[.slice none 0 0,.slice none 0 0,.slice none 0 0] 103)=v1 from h9];clear h9 HV;go_wp21;have h9:=HV2.out;rw[show v1.alloc (.cells #[.string ⟨x0.toArray⟩,.string ⟨x1.toArray⟩,.string ⟨x2.toArray⟩] 22)=v2 from h9]
 try rw[HSZ.out]
 clear h9 HV2 HSZ y0 y1 y2;refine wp_loop_rounds 4 ?_;rw[rounds_succ];obtain⟨c0,c1,c2,d0,d1,d2,z0,z1,z2⟩:=HS0.out.cells;have fz:=HS0.out.soft 0;have HC:=hid (S0.out v2 HS0.out.bel);go_wp21;clear c0 c1 c2 d0 d1 d2 z0 z1 z2 fz;refine HC.out.mono ?_;rintro e r0 ⟨a0,m0,j0,er,rfl,hb,hu⟩;have HR0:=hid (HS0.out.next hb);rcases hu with⟨rfl,hu,hE⟩|⟨rfl,hu,hF⟩
 rotate_left
 ·injection hu with e1 e2 e3
  subst e1;subst e2;subst e3;have HF:=hid hF;clear hb HC hF;go_wp21;go_ret2;exact⟨_,_,_,_,rfl,HR0.out.bel,.inr ⟨rfl,rfl,HF.out⟩⟩
 have HE0:=hid hE;clear hE;have HU0:=hid hu;clear hb hu HC HS0;obtain⟨c0,c1,c2,d0,d1,d2,z0,z1,z2⟩:=HR0.out.cells;have fz:=HR0.out.soft 0;obtain⟨t0,ht0⟩:=zzX (r0.setCell ⟨w.heap.size+1+1,0,none⟩ (.slice a0 m0 j0));have hp:=HR0.out.put0 (.slice a0 m0 j0);obtain⟨-,hne,hsz⟩:=HR0.out.ne 0 (.slice a0 m0 j0);have hno:=zbc HR0.out.h2 ⟨_,_,_,rfl⟩ ⟨_,_,_,rfl⟩ ⟨_,_,_,rfl⟩;rw[<-ht0] at hp hne hsz;have HP0:=hid hp;have HU0:=hid (HU0.out.other hne hsz hno);have HT:=hid ht0.symm;clear hp hne hsz hno ht0;go_wp21
 try rw[HT.out]
 clear HT c0 c1 c2 d0 d1 d2 z0 z1 z2 fz HR0;rw[rounds_succ];obtain⟨c0,c1,c2,d0,d1,d2,z0,z1,z2⟩:=HP0.out.cells;have fz:=HP0.out.soft 1;have HC:=hid (S1.out t0 HP0.out.bel);go_wp21;clear c0 c1 c2 d0 d1 d2 z0 z1 z2 fz;refine HC.out.mono ?_;rintro e r1 ⟨a1,m1,j1,er,rfl,hb,hu⟩;have HR1:=hid (HP0.out.next hb);rcases hu with⟨rfl,hu,hE⟩|⟨rfl,hu,hF⟩
 rotate_left
 ·injection hu with e1 e2 e3
  subst e1;subst e2;subst e3;have HF:=hid hF;clear hb HC hF HU0;go_wp21;go_ret2;exact⟨_,_,_,_,rfl,HR1.out.bel,.inr ⟨rfl,rfl,HF.out⟩⟩
 have HE1:=hid hE;clear hE;have HU1:=hid hu;have HU0:=hid (HU0.out.below hb);clear hb hu HC HP0;obtain⟨c0,c1,c2,d0,d1,d2,z0,z1,z2⟩:=HR1.out.cells;have fz:=HR1.out.soft 1;obtain⟨t1,ht1⟩:=zzX (r1.setCell ⟨w.heap.size+1+1,1,none⟩ (.slice a1 m1 j1));have hp:=HR1.out.put1 (.slice a1 m1 j1);obtain⟨-,hne,hsz⟩:=HR1.out.ne 1 (.slice a1 m1 j1);have hno:=zbc HR1.out.h2 ⟨_,_,_,rfl⟩ ⟨_,_,_,rfl⟩ ⟨_,_,_,rfl⟩;rw[<-ht1] at hp hne hsz;have HP1:=hid hp;have HU1:=hid (HU1.out.other hne hsz hno);have HU0:=hid (HU0.out.other hne hsz hno);have HT:=hid ht1.symm;clear hp hne hsz hno ht1;go_wp21
 try rw[HT.out]
 clear HT c0 c1 c2 d0 d1 d2 z0 z1 z2 fz HR1;rw[rounds_succ];obtain⟨c0,c1,c2,d0,d1,d2,z0,z1,z2⟩:=HP1.out.cells;have fz:=HP1.out.soft 2;have HC:=hid (S2.out t1 HP1.out.bel);go_wp21;clear c0 c1 c2 d0 d1 d2 z0 z1 z2 fz;refine HC.out.mono ?_;rintro e r2 ⟨a2,m2,j2,er,rfl,hb,hu⟩;have HR2:=hid (HP1.out.next hb);rcases hu with⟨rfl,hu,hE⟩|⟨rfl,hu,hF⟩
 rotate_left
 ·injection hu with e1 e2 e3
  subst e1;subst e2;subst e3;have HF:=hid hF;clear hb HC hF HU0 HU1;go_wp21;go_ret2;exact⟨_,_,_,_,rfl,HR2.out.bel,.inr ⟨rfl,rfl,HF.out⟩⟩
 have HE2:=hid hE;clear hE;have HU2:=hid hu;have HU0:=hid (HU0.out.below hb);have HU1:=hid (HU1.out.below hb);clear hb hu HC HP1;obtain⟨c0,c1,c2,d0,d1,d2,z0,z1,z2⟩:=HR2.out.cells;have fz:=HR2.out.soft 2;obtain⟨t2,ht2⟩:=zzX (r2.setCell ⟨w.heap.size+1+1,2,none⟩ (.slice a2 m2 j2));have hp:=HR2.out.put2 (.slice a2 m2 j2);obtain⟨-,hne,hsz⟩:=HR2.out.ne 2 (.slice a2 m2 j2);have hno:=zbc HR2.out.h2 ⟨_,_,_,rfl⟩ ⟨_,_,_,rfl⟩ ⟨_,_,_,rfl⟩;rw[<-ht2] at hp hne hsz;have HP2:=hid hp;have HU2:=hid (HU2.out.other hne hsz hno);have HU0:=hid (HU0.out.other hne hsz hno);have HU1:=hid (HU1.out.other hne hsz hno);have HT:=hid ht2.symm;clear hp hne hsz hno ht2;go_wp21
 try rw[HT.out]
 clear HT c0 c1 c2 d0 d1 d2 z0 z1 z2 fz HR2;rw[rounds_succ];obtain⟨c0,c1,c2,d0,d1,d2,z0,z1,z2⟩:=HP2.out.cells;have HC:=hid (A1.out t2 _ _ HE0.out HE1.out HP2.out.bel HU0.out HU1.out);go_wp21;clear c0 c1 c2 d0 d1 d2 z0 z1 z2;refine HC.out.mono ?_;rintro e r3 ⟨a3,m3,j3,er,rfl,hb,hu⟩;have HP3:=hid (HP2.out.next hb);rcases hu with⟨rfl,hu,hsz⟩|⟨rfl,hu,hF⟩
 ·have HU3:=hid hu
  have HU2:=hid (HU2.out.below hb);have HC:=hid (A2.out r3 _ _ HE0.out HE1.out hsz HE2.out HP3.out.bel HU3.out HU2.out);have HSZ:=hid hsz;clear hb hu HP2 HU0 HU1 A2 hsz;obtain⟨c0,c1,c2,d0,d1,d2,z0,z1,z2⟩:=HP3.out.cells;go_wp21;refine HC.out.mono ?_;rintro e r4 ⟨a4,m4,j4,er,rfl,hb,hu⟩;have HF:=hid (⟨HP3.out.bel.trans (hb.mono HP3.out.bel.size),hu⟩:qL w r4/\OutR M2 E2 F (.slice a4 m4 j4) er r4);clear hb hu HC c0 c1 c2 d0 d1 d2 z0 z1 z2;go_wp21;go_ret2;exact⟨_,_,_,_,rfl,HF.out.1,HF.out.2.imp (λh=>⟨h.1,h.2.1,HE0.out,HE1.out,HE2.out,HSZ.out,h.2.2⟩) id⟩
 ·injection hu with e1 e2 e3
  subst e1;subst e2;subst e3;have HFF:=hid hF;clear hb HC HP2 HU0 HU1 HU2 A2 hF;go_wp21;go_ret2;exact⟨_,_,_,_,rfl,HP3.out.bel,.inr ⟨rfl,rfl,HFF.out⟩⟩
theorem zcq (q0 q1 q2:Option Addr) (n0 n1 n2 k0 k1 k2:Nat) (x0 x1 x2:List UInt8) (L0 L1 L2 M1 M2:List (Rat×Nat)) (w:zA)
 (S0:Hid (∀W:zA,qL w W->zC zF 11 #[.slice q0 n0 k0,St x0] W λe w'=>∃v,e=.returned (.tuple #[v,.int .i64 0])/\zB W.heap.size W w'/\SdL v L0 w'))
 (S1:Hid (∀W:zA,qL w W->zC zF 11 #[.slice q1 n1 k1,St x1] W λe w'=>∃v,e=.returned (.tuple #[v,.int .i64 0])/\zB W.heap.size W w'/\SdL v L1 w'))
 (S2:Hid (∀W:zA,qL w W->zC zF 11 #[.slice q2 n2 k2,St x2] W λe w'=>∃v,e=.returned (.tuple #[v,.int .i64 0])/\zB W.heap.size W w'/\SdL v L2 w'))
 (A1:Hid (∀(W:zA) (u v:Value),qL w W->SdL u L0 W->SdL v L1 W->zC zF 17 #[u,v] W λe w'=>∃r,e=.returned (.tuple #[r,.int .i64 0])/\zB W.heap.size W w'/\SdL r M1 w'))
 (A2:Hid (∀(W:zA) (u v:Value),qL w W->SdL u M1 W->SdL v L2 W->zC zF 17 #[u,v] W λe w'=>∃r,e=.returned (.tuple #[r,.int .i64 0])/\zB W.heap.size W w'/\SdL r M2 w')):
 zC zF 49 #[.agg #[.slice q0 n0 k0,.slice q1 n1 k1,.slice q2 n2 k2],.agg #[St x0,St x1,St x2]] w λe w'=>∃r,e=.returned (.tuple #[r,.int .i64 0])/\zB w.heap.size w w'/\SdL r M2 w':=
 (z0p q0 q1 q2 n0 n1 n2 k0 k1 k2 x0 x1 x2 L0 L1 L2 M1 M2 True True True True True False w (hid λW h=>zce (S0.out W h)) (hid λW h=>zce (S1.out W h)) (hid λW h=>zce (S2.out W h)) (hid λW u v _ _ h1 h2 h3=>zce (A1.out W u v h1 h2 h3)) (hid λW u v _ _ _ _ h1 h2 h3=>zce (A2.out W u v h1 h2 h3))).mono λe w' ⟨q,n,c,r,h1,h2,h3⟩=>by
   rcases h3 with⟨rfl,h3, -⟩|h3
   ·exact⟨_,h1,h2,h3⟩
   ·exact h3.2.2.elim
theorem zda (a b c:List UInt8) (w:zA):
 qJ 110 #[.agg #[St a,St b,St c]] w (.agg #[St a,St b,St c]):=by
 go_enter Tryz.func110,Tryz.ntmps110;go_wp21;exact bodyPost_ret (v:=.agg #[St a,St b,St c]) (by simp[results,Tryz.results110,go_sem]) rfl ⟨rfl,((zM _ w).alloc (zN _) _).alloc (by simp) _⟩
theorem zdr (a b c:List UInt8) (w:zA):(Instr.index 170 (.agg #[St a,St b,St c]) (.int .i64 0)).run zF w=.ok (St a) w/\(Instr.index 170 (.agg #[St a,St b,St c]) (.int .i64 1)).run zF w=.ok (St b) w/\(Instr.index 170 (.agg #[St a,St b,St c]) (.int .i64 2)).run zF w=.ok (St c) w:=
 ⟨by kernel_rfl,by kernel_rfl,by kernel_rfl⟩
theorem zgk (a b c:List UInt8)
 (C0:Hid (qK 41 #[St a] (.int .i64 0)))
 (C1:Hid (qK 41 #[St b] (.int .i64 0)))
 (C2:Hid (qK 41 #[St c] (.int .i64 0)))
 (w:zA) (HW:Hid (Wd w)):
 qJ 52 #[.agg #[St a,St b,St c]] w (.int .i64 0):=by
 have n0:=λw=>(zdr a b c w).1;have n1:=λw=>(zdr a b c w).2.1;have n2:=λw=>(zdr a b c w).2.2;obtain⟨v1,hv⟩:=zzX (w.alloc (.cells #[St a,St b,St c] 45));have a1:qL w v1:=by rw[hv];exact(zM _ w).alloc (zN _) _
 have HV:=hid hv.symm;have E1:=hid a1;clear hv a1;go_enter Tryz.func52,Tryz.ntmps52;go_wp21;have h9:=HV.out;rw[show w.alloc (.cells #[.string ⟨a.toArray⟩,.string ⟨b.toArray⟩,.string ⟨c.toArray⟩] 45)=v1 from h9];clear h9 HV;refine zzM (zda a b c v1) λr0 hb=>?_;have E2:=hid (E1.out.trans (hb.mono E1.out.size));clear hb E1;go_wp21;refine wp_loop_rounds 4 ?_;rw[rounds_succ];go_wp21;refine zzM (C0.out r0 (HW.out.below E2.out)) λr1 hb=>?_;have E3:=hid (E2.out.trans (hb.mono E2.out.size));clear hb E2;go_wp21;rw[rounds_succ];go_wp21;refine zzM (C1.out r1 (HW.out.below E3.out)) λr2 hb=>?_;have E4:=hid (E3.out.trans (hb.mono E3.out.size));clear hb E3;go_wp21;rw[rounds_succ];go_wp21;refine zzM (C2.out r2 (HW.out.below E4.out)) λr3 hb=>?_;have E5:=hid (E4.out.trans (hb.mono E4.out.size));clear hb E4;go_wp21;rw[rounds_succ];go_wp21;go_ret;exact⟨rfl,E5.out⟩
theorem zh5 (a b c:List UInt8) (p:Option Addr) (n k:Nat) (hz:(a==[48])=false\/((a==[48])=true/\(b==[48])=false)\/((a==[48])=true/\(b==[48])=true/\(c==[48])=false)) (w:zA)
 (FI:Hid (∀W:zA,qL w W->∀A,W.heap[A]? =some (.cells #[St a,St b,St c] 22 (0,0))->qJ 77 #[.slice (some ⟨A,0,none⟩) 3 3] W (.int .i64 0)))
 (SC:Hid (∀W:zA,qL w W->qJ 26 #[.slice p n k] W (.int .i64 0))):
 qJ 106 #[.agg #[St a,St b,St c,.slice p n k]] w (.int .i64 0):=by
 obtain⟨v1,hv⟩:=zzX ((w.alloc (.cells #[St a,St b,St c,.slice p n k] 26)).alloc (.cells #[St a,St b,St c] 22));have b1:qL w v1:=by rw[hv];exact((zM _ w).alloc (zN _) _).alloc (by simp) _
 have A1:v1.heap[w.heap.size]? =some (.cells #[St a,St b,St c,.slice p n k] 26 (0,0)):=by rw[hv];exact(Below.heap_alloc _ _ _ (by simp)).trans (zG w _)
 have A2:v1.heap[w.heap.size+1]? =some (.cells #[St a,St b,St c] 22 (0,0)):=by
  rw[hv];have:=zG (w.alloc (.cells #[St a,St b,St c,.slice p n k] 26)) (.cells #[St a,St b,St c] 22);rw[zH] at this;exact this
 have HF:=hid (FI.out v1 b1 _ A2);have B1:=hid b1;have P1:=hid A1;have HV:=hid hv.symm;clear hv b1 A1 A2 FI;go_enter Tryz.func106,Tryz.ntmps106;go_wp21;have h9:=HV.out;rw[show(w.alloc (.cells #[.string ⟨a.toArray⟩,.string ⟨b.toArray⟩,.string ⟨c.toArray⟩,.slice p n k] 26)).alloc (.cells #[.string ⟨a.toArray⟩,.string ⟨b.toArray⟩,.string ⟨c.toArray⟩] 22)=v1 from h9];clear h9 HV;refine zzM HF.out λr1 hb=>?_;have hbb:=B1.out.trans (hb.mono B1.out.size);have B2:=hid hbb;have P2:=hid (zac hb _ _ _ _ P1.out);have HS:=hid (SC.out r1 hbb);clear hb hbb B1 P1 HF SC;have k0:r1.cell? ⟨w.heap.size,0,none⟩=some (St a):=by rw[zJ P2.out];rfl
 have k1:r1.cell? ⟨w.heap.size,1,none⟩=some (St b):=by rw[zJ P2.out];rfl
 have k2:r1.cell? ⟨w.heap.size,2,none⟩=some (St c):=by rw[zJ P2.out];rfl
 have k3:r1.cell? ⟨w.heap.size,3,none⟩=some (.slice p n k):=by rw[zJ P2.out];rfl
 rcases hz with z0|⟨z0,z1⟩|⟨z0,z1,z2⟩
 all_goals
  go_wp21;refine zzM HS.out λr2 hb=>?_;have B3:=hid (B2.out.trans (hb.mono B2.out.size));clear hb;go_wp21;go_ret;exact⟨rfl,B3.out⟩
def RowHf (p:Option Addr) (n:Nat) (X Y Z:Nat->List UInt8) (D:Nat->Value) (W:zA):Prop:=∀i,i<n->∃b off,p=some ⟨b,off,none⟩/\W.cell? ⟨b,off+i*4,none⟩=some (St (X i))/\W.cell? ⟨b,off+i*4+1,none⟩=some (St (Y i))/\W.cell? ⟨b,off+i*4+2,none⟩=some (St (Z i))/\W.cell? ⟨b,off+i*4+3,none⟩=some (D i)
theorem RowHf.keep {p:Option Addr} {n:Nat} {X Y Z:Nat->List UInt8} {D:Nat->Value} {W W':zA} (h:RowHf p n X Y Z D W) (hc:CellsKept W W'):RowHf p n X Y Z D W':=λi hi=>let ⟨b,off,e,h1,h2,h3,h4⟩:=h i hi;⟨b,off,e,hc.cell h1,hc.cell h2,hc.cell h3,hc.cell h4⟩
theorem zef (p:Option Addr) (cap n:Nat) (X Y Z:Nat->List UInt8) (D:Nat->Value) (hn:n<=5000) (hD:∀i,i<n->∃q m c,D i=.slice q m c) (w:zA)
 (CK:Hid (∀i,i<n->∀W:zA,qL w W->qJ 106 #[.agg #[St (X i),St (Y i),St (Z i),D i]] W (.int .i64 0))) (HP:Hid (RowHf p n X Y Z D w)):
 qJ 44 #[.slice p n cap] w (.int .i64 0):=by
 have D0:=hid (zM w.heap.size w);go_enter Tryz.func44,Tryz.ntmps44;go_wp21;go_loopw [7] (λi wr=>∃(k:Nat),k<=n/\i=.int .i64 (k:Int)/\Hid (qL w wr))
  (λi _=>n-(zL i).toNat)
 case atStart=>exact⟨0,zR _,rfl,D0⟩
 case round=>
  clear D0;obtain⟨k,hk,rfl,hB⟩:=hrel;by_cases hlt:k<n
  ·obtain⟨b,off,rfl,c0,c1,c2,c3⟩:=(HP.out.keep (zac hB.out)) k hlt
   have HC:=hid (CK.out k hlt);obtain⟨q,m,c,hd⟩:=hD k hlt;rw[hd] at c3 HC;generalize X k=x at*
   generalize Y k=y at*
   generalize Z k=z at*
   obtain⟨v1,hv⟩:=zzX (wr.alloc (.cells #[St x,St y,St z,.slice q m c] 26));have a1:qL wr v1:=by rw[hv];exact(zM _ wr).alloc (zN _) _
   have hE:=hB.out.trans (a1.mono hB.out.size);have HE:=hid hE;have HK:=hid (HC.out v1 hE);have HV:=hid hv.symm;clear hv a1 hE hd HC;go_wp21;have h9:=HV.out;rw[show wr.alloc (.cells #[.string ⟨x.toArray⟩,.string ⟨y.toArray⟩,.string ⟨z.toArray⟩,.slice q m c] 26)=v1 from h9];clear h9 HV c0 c1 c2 c3;refine zzM HK.out λw2 hb2=>?_;have hB2:=qT HE hb2;clear hb2 HK HE;go_wp21;go_roundw
   case rel=>exact⟨k+1,by omega,by go_num,hB2⟩
   case measure=>simp[zL];omega
  ·go_wp21
   go_ret;exact⟨rfl,hB.out⟩
section
variable {w W W':zA} {P:Nat} {p0 p1 p2:Value} {x0 x1 x2:List UInt8}
end
structure SdeG (w:zA) (a b c:List UInt8) (d s0 s1 s2:Value) (M:List (Rat×Nat)) (E F:Prop) (r:Value) (er:Int) (f:Nat->Bool) (W:zA):Prop where
 bel:qL w W
 h0:W.heap[w.heap.size]? =some (.cells #[St a,St b,St c,d] 26 (0,0))
 h1:W.heap[w.heap.size+1]? =some (.cells #[s0,s1,s2] 28 (0,0))
 sr:f 9=true->OutR M E F r er W
section
variable {w W W':zA} {a b c:List UInt8} {d s0 s1 s2 r:Value} {M:List (Rat×Nat)} {E F:Prop} {er:Int} {f g:Nat->Bool}
theorem SdeG.congr (h:SdeG w a b c d s0 s1 s2 M E F r er f W) (e:g 9=f 9):SdeG w a b c d s0 s1 s2 M E F r er g W:=⟨h.bel,h.h0,h.h1,by rw[e];exact h.sr⟩
theorem SdeG.next (h:SdeG w a b c d s0 s1 s2 M E F r er f W) (hb:qL W W'):SdeG w a b c d s0 s1 s2 M E F r er f W':=
 have hc:=zac hb
 ⟨h.bel.trans (hb.mono h.bel.size),hc _ _ _ _ h.h0,hc _ _ _ _ h.h1,λe=>(h.sr e).below hb⟩
theorem SdeG.res (h:SdeG w a b c d s0 s1 s2 M E F r er f W) (hb:qL W W') {u:Value} {eu:Int} (hu:OutR M E F u eu W'):SdeG w a b c d s0 s1 s2 M E F u eu g W':=
 have hn:=h.next hb
 ⟨hn.bel,hn.h0,hn.h1,λ_=>hu⟩
theorem SdeG.hcells (h:SdeG w a b c d s0 s1 s2 M E F r er f W):W.cell? ⟨w.heap.size,0,none⟩=some (St a)/\W.cell? ⟨w.heap.size,1,none⟩=some (St b)/\W.cell? ⟨w.heap.size,2,none⟩=some (St c)/\W.cell? ⟨w.heap.size,3,none⟩=some d:=
 ⟨by rw[zJ h.h0];rfl,by rw[zJ h.h0];rfl,by rw[zJ h.h0];rfl,by rw[zJ h.h0];rfl⟩
theorem SdeG.mcells (h:SdeG w a b c d s0 s1 s2 M E F r er f W):W.cell? ⟨w.heap.size+1,0,none⟩=some s0/\W.cell? ⟨w.heap.size+1,1,none⟩=some s1/\W.cell? ⟨w.heap.size+1,2,none⟩=some s2:=
 ⟨by rw[zJ h.h1];rfl,by rw[zJ h.h1];rfl,by rw[zJ h.h1];rfl⟩
end
theorem z36 (a b c:List UInt8) (qd q0 q1 q2:Option Addr) (nd kd n0 n1 n2 k0 k1 k2:Nat) (M M2:List (Rat×Nat)) (E E2 F F2:Prop) (sg e2:Int) (w:zA)
 (CK:Hid (∀W:zA,qL w W->∀B,W.heap[B]? =some (.cells #[St a,St b,St c,.slice qd nd kd] 26 (0,0))->qJ 44 #[.slice (some ⟨B,0,none⟩) 1 1] W (.int .i64 0)))
 (K0:Hid (∀W:zA,qL w W->qJ 26 #[.slice q0 n0 k0] W (.int .i64 0)))
 (K1:Hid (∀W:zA,qL w W->qJ 26 #[.slice q1 n1 k1] W (.int .i64 0)))
 (K2:Hid (∀W:zA,qL w W->qJ 26 #[.slice q2 n2 k2] W (.int .i64 0)))
 (SL:Hid (∀W:zA,qL w W->zC zF 49 #[.agg #[.slice q0 n0 k0,.slice q1 n1 k1,.slice q2 n2 k2],.agg #[St a,St b,St c]] W λe w'=>∃q n c r,e=.returned (.tuple #[.slice q n c,.int .i64 r])/\zB W.heap.size W w'/\OutR M E F (.slice q n c) r w'))
 (SB:Hid (∀(W:zA) (r:Value),E->qL w W->SdL r M W->zC zF 50 #[r,.slice qd nd kd] W λe w'=>∃q n c r,e=.returned (.tuple #[.slice q n c,.int .i64 r])/\zB W.heap.size W w'/\OutR M2 E2 F2 (.slice q n c) r w'))
 (SG:Hid (∀(W:zA) (u:Value),E->E2->qL w W->SdL u M2 W->qJ 51 #[u] W (.tuple #[.int .i64 sg,.int .i64 e2]))):
 zC zF 13 #[.agg #[St a,St b,St c,.slice qd nd kd],.agg #[.slice q0 n0 k0,.slice q1 n1 k1,.slice q2 n2 k2]] w λe w'=>∃m r,e=.returned (.tuple #[.int .i64 m,.int .i64 r])/\zB w.heap.size w w'/\((r=4/\m=0/\(F\/F2))\/(m=sg/\r=e2/\E/\E2)):=by
 obtain⟨v1,hv⟩:=zzX ((w.alloc (.cells #[St a,St b,St c,.slice qd nd kd] 26)).alloc (.cells #[.slice q0 n0 k0,.slice q1 n1 k1,.slice q2 n2 k2] 28));have b1:qL w v1:=by rw[hv];exact((zM _ w).alloc (zN _) _).alloc (by simp) _
 have A1:v1.heap[w.heap.size]? =some (.cells #[St a,St b,St c,.slice qd nd kd] 26 (0,0)):=by rw[hv];exact(Below.heap_alloc _ _ _ (by simp)).trans (zG w _)
 have A2:v1.heap[w.heap.size+1]? =some (.cells #[.slice q0 n0 k0,.slice q1 n1 k1,.slice q2 n2 k2] 28 (0,0)):=by
  rw[hv];have:=zG (w.alloc (.cells #[St a,St b,St c,.slice qd nd kd] 26)) (.cells #[.slice q0 n0 k0,.slice q1 n1 k1,.slice q2 n2 k2] 28);rw[zH] at this;exact this
 have hT1:SdeG w a b c (.slice qd nd kd) (.slice q0 n0 k0) (.slice q1 n1 k1) (.slice q2 n2 k2) M E F (.slice none 0 0) 0 (λ_=>false) v1:=⟨b1,A1,A2,λk=>(by cases k)⟩;obtain⟨z0,z1,z2,z3⟩:=hT1.hcells;have hsz:v1.heap.size=w.heap.size+1+1:=by rw[hv];simp
 obtain⟨v2,hv2⟩:=zzX (v1.alloc (.cells #[St a,St b,St c,.slice qd nd kd] 26));have b2:qL v1 v2:=by rw[hv2];exact(zM _ v1).alloc (zN _) _
 have A3:v2.heap[v1.heap.size]? =some (.cells #[St a,St b,St c,.slice qd nd kd] 26 (0,0)):=by rw[hv2];exact zG v1 _
 rw[hsz] at A3;have HT2:=hid (hT1.next b2);have HC:=hid (CK.out v2 HT2.out.bel _ A3);have HV:=hid hv.symm;have HV2:=hid hv2.symm;clear hv hv2 b1 b2 A1 A2 A3 hT1 hsz CK;go_enter Tryz.func13,Tryz.ntmps13;go_wp21;have h9:=HV.out;rw[show(w.alloc (.cells #[.string ⟨a.toArray⟩,.string ⟨b.toArray⟩,.string ⟨c.toArray⟩,.slice qd nd kd] 26)).alloc (.cells #[.slice q0 n0 k0,.slice q1 n1 k1,.slice q2 n2 k2] 28)=v1 from h9];clear h9 HV;go_wp21;have h9:=HV2.out;rw[show v1.alloc (.cells #[.string ⟨a.toArray⟩,.string ⟨b.toArray⟩,.string ⟨c.toArray⟩,.slice qd nd kd] 26)=v2 from h9];clear h9 HV2 z0 z1 z2 z3;refine zzM HC.out λy1 hb=>?_;have HT3:=hid (HT2.out.next hb);clear hb HC HT2;obtain⟨z0,z1,z2⟩:=HT3.out.mcells;obtain⟨Q,hQ⟩:=zzX y1.heap.size;obtain⟨y2,hy2⟩:=zzX (y1.alloc (.cells #[.slice q0 n0 k0,.slice q1 n1 k1,.slice q2 n2 k2] 24));have ay:qL y1 y2:=by rw[hy2];exact(zM _ y1).alloc (zN _) _
 have QB:y2.heap[Q]? =some (.cells #[.slice q0 n0 k0,.slice q1 n1 k1,.slice q2 n2 k2] 24 (0,0)):=by rw[hy2,hQ];exact zG y1 _
 have HT4:=hid (HT3.out.next ay);have HQ:=hid QB;have HY:=hid hy2.symm;have HQe:=hid hQ.symm;clear hy2 ay QB HT3 hQ;go_wp21;have h9:=HY.out;rw[h9,HQe.out];clear h9 HY HQe z0 z1 z2;refine wp_loop_rounds 4 ?_;rw[rounds_succ];have x0:y2.cell? ⟨Q,0,none⟩=some (.slice q0 n0 k0):=by rw[zJ HQ.out];rfl
 have HK:=hid (K0.out y2 HT4.out.bel);go_wp21;clear x0;refine zzM HK.out λr0 hb=>?_;have HR0:=hid (HT4.out.next hb);have HQ0:=hid (zac hb _ _ _ _ HQ.out);clear hb HK HT4 HQ;go_wp21;rw[rounds_succ];have x1:r0.cell? ⟨Q,1,none⟩=some (.slice q1 n1 k1):=by rw[zJ HQ0.out];rfl
 have HK:=hid (K1.out r0 HR0.out.bel);go_wp21;clear x1;refine zzM HK.out λr1 hb=>?_;have HR1:=hid (HR0.out.next hb);have HQ1:=hid (zac hb _ _ _ _ HQ0.out);clear hb HK HR0 HQ0;go_wp21;rw[rounds_succ];have x2:r1.cell? ⟨Q,2,none⟩=some (.slice q2 n2 k2):=by rw[zJ HQ1.out];rfl
 have HK:=hid (K2.out r1 HR1.out.bel);go_wp21;clear x2;refine zzM HK.out λr2 hb=>?_;have HR2:=hid (HR1.out.next hb);have HQ2:=hid (zac hb _ _ _ _ HQ1.out);clear hb HK HR1 HQ1;go_wp21;rw[rounds_succ];go_wp21;clear HQ2 K0 K1 K2;refine zc4 (λ(g3:Option Addr×Nat×Nat×Int) i=>([.pointer (some ⟨w.heap.size+1,0,none⟩),.slice q0 n0 k0,.pointer (some ⟨w.heap.size+1,1,none⟩),.slice q1 n1 k1,.pointer (some ⟨w.heap.size+1,2,none⟩),.slice q2 n2 k2,.agg #[.slice q0 n0 k0,.slice q1 n1 k1,.slice q2 n2 k2],.agg #[St a,St b,St c,.slice qd nd kd],.agg #[St a,St b,St c],.tuple #[.slice g3.1 g3.2.1 g3.2.2.1,.int .i64 g3.2.2.2],.tuple #[.slice g3.1 g3.2.1 g3.2.2.1,.int .i64 g3.2.2.2],.slice g3.1 g3.2.1 g3.2.2.1,.int .i64 g3.2.2.2,.slice g3.1 g3.2.1 g3.2.2.1,.int .i64 g3.2.2.2]:List Value).getD i undef) (λg3=>SdeG w a b c (.slice qd nd kd) (.slice q0 n0 k0) (.slice q1 n1 k1) (.slice q2 n2 k2) M E F (.slice g3.1 g3.2.1 g3.2.2.1) g3.2.2.2) (by kernel_rfl) (by kernel_rfl) (none,0,0,0) (HR2.out.next (zM _ _).drew) λg3=>?_;refine qB (.pointer (some ⟨w.heap.size+1,0,none⟩)) (λf W' h=>h.congr rfl) ?_;refine qB (.slice q0 n0 k0) (λf W' h=>h.congr rfl) ?_ (hy:=λf W' hf h=>by obtain⟨q0',q1',q2'⟩:=h.mcells;go_simp);refine qB (.pointer (some ⟨w.heap.size+1,1,none⟩)) (λf W' h=>h.congr rfl) ?_;simp only[zzQ];refine qB (.slice q1 n1 k1) (λf W' h=>h.congr rfl) ?_ (hy:=λf W' hf h=>by obtain⟨q0',q1',q2'⟩:=h.mcells;go_simp);refine qB (.pointer (some ⟨w.heap.size+1,2,none⟩)) (λf W' h=>h.congr rfl) ?_;refine qB (.slice q2 n2 k2) (λf W' h=>h.congr rfl) ?_ (hy:=λf W' hf h=>by obtain⟨q0',q1',q2'⟩:=h.mcells;go_simp);simp only[zzQ];refine qB (.agg #[.slice q0 n0 k0,.slice q1 n1 k1,.slice q2 n2 k2]) (λf W' h=>h.congr rfl) ?_;refine qB (.agg #[St a,St b,St c,.slice qd nd kd]) (λf W' h=>h.congr rfl) ?_ (hy:=λf W' hf h=>by obtain⟨q0',q1',q2',q3'⟩:=h.hcells;go_simp);simp only[zzQ]
 refine zbv (.agg #[St a,St b,St c]) (by rfl) (by rfl) (λf W' hf h C' hC'=>by
  go_simp;refine zzM (zcl a b c qd nd kd _) λw' hb=>?_;exact⟨_,rfl,hC' _ ((h.next hb).congr rfl)⟩) ?_
 try simp only[zzQ]
 refine zdc (.tuple #[.slice g3.1 g3.2.1 g3.2.2.1,.int .i64 g3.2.2.2]) (by rfl) (by rfl) (λf W' hf h C' hC'=>by
  have h9:=hf.self;have h10:=hf.no (j:=10) hf.self (by kernel_rfl);have h11:=hf.no (j:=11) h10 (by kernel_rfl);have h13:=hf.no (j:=13) h11 (by kernel_rfl);have h12:=hf.no (j:=12) h10 (by kernel_rfl);have h14:=hf.no (j:=14) h12 (by kernel_rfl);have hg:=SL.out W' h.bel;go_simp;refine hg.mono ?_;rintro e w' ⟨u1,u2,u3,eu,rfl,hb,hu⟩;have hj:∀j,f j=true->(([.pointer (some ⟨w.heap.size+1,0,none⟩),.slice q0 n0 k0,.pointer (some ⟨w.heap.size+1,1,none⟩),.slice q1 n1 k1,.pointer (some ⟨w.heap.size+1,2,none⟩),.slice q2 n2 k2,.agg #[.slice q0 n0 k0,.slice q1 n1 k1,.slice q2 n2 k2],.agg #[St a,St b,St c,.slice qd nd kd],.agg #[St a,St b,St c],.tuple #[.slice u1 u2 u3,.int .i64 eu],.tuple #[.slice u1 u2 u3,.int .i64 eu],.slice u1 u2 u3,.int .i64 eu,.slice u1 u2 u3,.int .i64 eu]:List Value).getD j undef)=(([.pointer (some ⟨w.heap.size+1,0,none⟩),.slice q0 n0 k0,.pointer (some ⟨w.heap.size+1,1,none⟩),.slice q1 n1 k1,.pointer (some ⟨w.heap.size+1,2,none⟩),.slice q2 n2 k2,.agg #[.slice q0 n0 k0,.slice q1 n1 k1,.slice q2 n2 k2],.agg #[St a,St b,St c,.slice qd nd kd],.agg #[St a,St b,St c],.tuple #[.slice g3.1 g3.2.1 g3.2.2.1,.int .i64 g3.2.2.2],.tuple #[.slice g3.1 g3.2.1 g3.2.2.1,.int .i64 g3.2.2.2],.slice g3.1 g3.2.1 g3.2.2.1,.int .i64 g3.2.2.2,.slice g3.1 g3.2.1 g3.2.2.1,.int .i64 g3.2.2.2]:List Value).getD j undef):=by
   intro j hj
   match j,hj with
   |0,_|1,_|2,_|3,_|4,_|5,_|6,_|7,_|8,_=>rfl
   |9,hj=>rw[h9] at hj;cases hj
   |10,hj=>rw[h10] at hj;cases hj
   |11,hj=>rw[h11] at hj;cases hj
   |13,hj=>rw[h13] at hj;cases hj
   |12,hj=>rw[h12] at hj;cases hj
   |14,hj=>rw[h14] at hj;cases hj
   |_+15,_=>rfl
  exact⟨_,rfl,hC' (u1,u2,u3,eu) _ hj (h.res hb hu)⟩) ?_
 refine qB (.tuple #[.slice g3.1 g3.2.1 g3.2.2.1,.int .i64 g3.2.2.2]) (λf W' h=>h.congr rfl) ?_;refine qB (.slice g3.1 g3.2.1 g3.2.2.1) (λf W' h=>h.congr rfl) ?_;simp only[zzQ];refine qB (.int .i64 g3.2.2.2) (λf W' h=>h.congr rfl) ?_;refine qB (.slice g3.1 g3.2.1 g3.2.2.1) (λf W' h=>h.congr rfl) ?_;refine qB (.int .i64 g3.2.2.2) (λf W' h=>h.congr rfl) ?_;simp only[zzQ];refine ze1 λf X hf h=>?_;obtain⟨g1,g2,g4,ge⟩:=g3;have hr:=h.sr (hf 9 (by decide));have HX:=hid h.bel;obtain⟨z0,z1,z2,z3⟩:=h.hcells;dsimp only at hr⊢;rcases hr with⟨rfl,hr,hE⟩|⟨rfl,hu,hF⟩
 ·have HS:=hid (SB.out X _ hE h.bel hr)
  have HSG:=hid λW u=>SG.out W u hE;have HEE:=hid hE;clear h hf hr HR2 SL SB hE SG;go_wp21;refine HS.out.mono ?_;rintro e t1 ⟨u1,u2,u3,ew,rfl,hb,hu⟩;have hb2:=HX.out.trans (hb.mono HX.out.size);have HB:=hid hb2;rcases hu with⟨rfl,hu,hE⟩|⟨rfl,hu,hF⟩
  ·have HG:=hid (HSG.out t1 _ hE hb2 hu)
   have HEF:=hid hE;clear hb hb2 hu HS HX HSG z0 z1 z2 z3 hE;go_wp21;refine zzM HG.out λt2 hb=>?_;have HB2:=qT HB hb;clear hb;go_wp21;go_ret2;exact⟨_,_,rfl,HB2.out,.inr ⟨rfl,rfl,HEE.out,HEF.out⟩⟩
  ·injection hu with e1 e2 e3
   subst e1;subst e2;subst e3;have HFF:=hid hF;clear hb hb2 HS HX HSG z0 z1 z2 z3 hF;go_wp21;go_ret2;exact⟨_,_,rfl,HB.out,.inl ⟨rfl,rfl,.inr HFF.out⟩⟩
 ·injection hu with e1 e2 e3
  subst e1;subst e2;subst e3;have HFF:=hid hF;clear h hf HR2 SL SB SG hF;go_wp21;go_ret2;exact⟨_,_,rfl,HX.out,.inl ⟨rfl,rfl,.inl HFF.out⟩⟩
theorem zjj (a b c:List UInt8) (qd q0 q1 q2:Option Addr) (nd kd n0 n1 n2 k0 k1 k2:Nat) (M M2:List (Rat×Nat)) (sg:Int) (w:zA)
 (CK:Hid (∀W:zA,qL w W->∀B,W.heap[B]? =some (.cells #[St a,St b,St c,.slice qd nd kd] 26 (0,0))->qJ 44 #[.slice (some ⟨B,0,none⟩) 1 1] W (.int .i64 0)))
 (K0:Hid (∀W:zA,qL w W->qJ 26 #[.slice q0 n0 k0] W (.int .i64 0)))
 (K1:Hid (∀W:zA,qL w W->qJ 26 #[.slice q1 n1 k1] W (.int .i64 0)))
 (K2:Hid (∀W:zA,qL w W->qJ 26 #[.slice q2 n2 k2] W (.int .i64 0)))
 (SL:Hid (∀W:zA,qL w W->zC zF 49 #[.agg #[.slice q0 n0 k0,.slice q1 n1 k1,.slice q2 n2 k2],.agg #[St a,St b,St c]] W λe w'=>∃r,e=.returned (.tuple #[r,.int .i64 0])/\zB W.heap.size W w'/\SdL r M w'))
 (SB:Hid (∀(W:zA) (r:Value),qL w W->SdL r M W->zC zF 50 #[r,.slice qd nd kd] W λe w'=>∃u,e=.returned (.tuple #[u,.int .i64 0])/\zB W.heap.size W w'/\SdL u M2 w'))
 (SG:Hid (∀(W:zA) (u:Value),qL w W->SdL u M2 W->qJ 51 #[u] W (.tuple #[.int .i64 sg,.int .i64 0]))):
 qJ 13 #[.agg #[St a,St b,St c,.slice qd nd kd],.agg #[.slice q0 n0 k0,.slice q1 n1 k1,.slice q2 n2 k2]] w (.tuple #[.int .i64 sg,.int .i64 0]):=
 (z36 a b c qd q0 q1 q2 nd kd n0 n1 n2 k0 k1 k2 M M2 True True False False sg 0 w CK K0 K1 K2 (hid λW h1=>zce (SL.out W h1)) (hid λW u _ h1 h2=>zce (SB.out W u h1 h2)) (hid λW u _ _ h1 h2=>SG.out W u h1 h2)).mono λe w' ⟨m,r,h1,h2,h3⟩=>by
   rcases h3 with⟨_,_,h⟩|⟨rfl,rfl, -⟩
   ·exact h.elim False.elim False.elim
   ·exact⟨h1,h2⟩
structure Hw (w:zA):Prop where
 wd:Wd w
 pw:Pw w
 sw:Spw w
theorem Hw.below {w w':zA} (h:Hw w) (hb:qL w w'):Hw w':=⟨h.wd.below hb,h.pw.below hb,h.sw.below hb⟩
theorem Hw.d {w:zA} (h:Hw w):Hid (∀W,qL w W->Wd W):=hid λ_ hW=>(h.below hW).wd
theorem Hw.p {w:zA} (h:Hw w):Hid (∀W,qL w W->Pw W):=hid λ_ hW=>(h.below hW).pw
theorem Hw.s {w:zA} (h:Hw w):Hid (∀W,qL w W->Spw W):=hid λ_ hW=>(h.below hW).sw
theorem zjl (A:Nat) (t:TypeId) (a b c:Rat) (W:zA) (h:W.heap[A]? =some (.cells #[St (numS a),St (numS b),St (numS c)] t (0,0))):RowNums (some ⟨A,0,none⟩) 3 (λi=>if i=0 then a else if i=1 then b else c) W:=λi hi=>by
 refine⟨_,_,rfl,?_⟩;rw[zJ h]
 match i,hi with
 |0,_|1,_|2,_=>rfl
theorem zgr (a b c:Rat) (ha:sz a 60) (hb:sz b 60) (hc:sz c 60) (A:Nat) (t:TypeId) (W:zA) (hW:Wd W) (h:W.heap[A]? =some (.cells #[St (numS a),St (numS b),St (numS c)] t (0,0))):
 qJ 77 #[.slice (some ⟨A,0,none⟩) 3 3] W (.int .i64 0):=by
 refine zml (some ⟨A,0,none⟩) 3 3 (λi=>if i=0 then a else if i=1 then b else c) (by omega) (hid λk hk V hV=>?_) W (hid hW) (hid (zjl A t a b c W h))
 match k,hk with
 |0,_=>exact zfj a (zd0 (by omega) (by omega) ha) V hV
 |1,_=>exact zfj b (zd0 (by omega) (by omega) hb) V hV
 |2,_=>exact zfj c (zd0 (by omega) (by omega) hc) V hV
theorem zc9 (a b c:Rat) (ha:sz a 60) (hb:sz b 60) (hc:sz c 60) (hz:a≠0\/b≠0\/c≠0) (d:Value) (l:List (Rat×Nat)) (hl:SdOk l) (W:zA) (hW:Hw W) (hd:SdL d l W):
 qJ 106 #[.agg #[St (numS a),St (numS b),St (numS c),d]] W (.int .i64 0):=by
 obtain⟨p,n,k,rfl⟩:=hd.any;have z0:∀q:Rat,q=0->(numS q==[48])=true:=λq h=>by rw[h,zie];rfl
 refine zh5 (numS a) (numS b) (numS c) p n k ?_ W (hid λV hV A hA=>zgr a b c ha hb hc A _ V (hW.below hV).wd hA) (hid λV hV=>zbh _ l hl V (hW.below hV).wd (hW.below hV).pw (hd.below hV));by_cases h0:a=0
 ·by_cases h1:b=0
  ·right;right
   exact⟨z0 a h0,z0 b h1,zsf (by rcases hz with h|h|h;exact absurd h0 h;exact absurd h1 h;exact h)⟩
  ·right;left
   exact⟨z0 a h0,zsf h1⟩
 ·left;exact zsf h0
theorem zjk (a b c:Rat) (ha:sz a 60) (hb:sz b 60) (hc:sz c 60) (hz:a≠0\/b≠0\/c≠0) (d:Value) (l:List (Rat×Nat)) (hl:SdOk l) (B:Nat) (W:zA) (hW:Hw W) (hd:SdL d l W) (hB:W.heap[B]? =some (.cells #[St (numS a),St (numS b),St (numS c),d] 26 (0,0))):
 qJ 44 #[.slice (some ⟨B,0,none⟩) 1 1] W (.int .i64 0):=by
 obtain⟨p,n,k,rfl⟩:=hd.any;refine zef (some ⟨B,0,none⟩) 1 1 (λ_=>numS a) (λ_=>numS b) (λ_=>numS c) (λ_=>.slice p n k) (by omega) (λi _=>⟨_,_,_,rfl⟩) W (hid λi _ V hV=>zc9 a b c ha hb hc hz _ l hl V (hW.below hV) (hd.below hV)) (hid λi hi=>?_);obtain rfl:i=0:=by omega
 exact⟨B,0,rfl,by rw[zJ hB];rfl,by rw[zJ hB];rfl,by rw[zJ hB];rfl,by rw[zJ hB];rfl⟩
theorem zgg (a b c d x y z:Rat) (ha:sz a 60) (hb:sz b 60) (hc:sz c 60) (hz:a≠0\/b≠0\/c≠0) (hd:sz d 60) (hx:sz x 60) (hy:sz y 60) (hzz:sz z 60)
 (h1:sz (x*a) 60) (h2:sz (y*b) 60) (h3:sz (z*c) 60) (h4:sz (x*a+y*b) 60) (h5:sz (x*a+y*b+z*c) 60) (h6:sz (x*a+y*b+z*c-d) 60)
 (v ux uy uz:Value) (w:zA) (hw:Hw w) (hv:SdL v (rs d) w) (hux:SdL ux (rs x) w) (huy:SdL uy (rs y) w) (huz:SdL uz (rs z) w):
 qJ 13 #[.agg #[St (numS a),St (numS b),St (numS c),v],.agg #[ux,uy,uz]] w (.tuple #[.int .i64 (Geo.cmpR (x*a+y*b+z*c-d) 0),.int .i64 0]):=by
 obtain⟨qd,nd,kd,rfl⟩:=hv.any;obtain⟨q0,n0,k0,rfl⟩:=hux.any;obtain⟨q1,n1,k1,rfl⟩:=huy.any;obtain⟨q2,n2,k2,rfl⟩:=huz.any;have H:=λ(W:zA) (h:qL w W)=>hw.below h;refine zjj (numS a) (numS b) (numS c) qd q0 q1 q2 nd kd n0 n1 n2 k0 k1 k2 (rs (x*a+y*b+z*c)) (rs (x*a+y*b+z*c-d)) _ w
  (hid λW hW B hB=>zjk a b c ha hb hc hz _ (rs d) (zc8 hd) B W (H W hW) (hv.below hW) hB)
  (hid λW hW=>zbh _ (rs x) (zc8 hx) W (H W hW).wd (H W hW).pw (hux.below hW)) (hid λW hW=>zbh _ (rs y) (zc8 hy) W (H W hW).wd (H W hW).pw (huy.below hW)) (hid λW hW=>zbh _ (rs z) (zc8 hzz) W (H W hW).wd (H W hW).pw (huz.below hW))
  (hid λW hW=>?_)
  (hid λW r hW hr=>zsh r _ _ d h5 hd h6 W (H W hW).d (H W hW).p hr (hv.below hW))
  (hid λW u hW hu=>zp6 u _ h6 W (H W hW).d (H W hW).p (H W hW).s hu)
 refine zcq q0 q1 q2 n0 n1 n2 k0 k1 k2 (numS a) (numS b) (numS c) (rs (x*a)) (rs (y*b)) (rs (z*c)) (rs (x*a+y*b)) (rs (x*a+y*b+z*c)) W
  (hid λV hV=>zd3 _ x a hx (ha.mono (by omega)) h1 V ((H W hW).below hV).d ((H W hW).below hV).p ((hux.below hW).below hV))
  (hid λV hV=>zd3 _ y b hy (hb.mono (by omega)) h2 V ((H W hW).below hV).d ((H W hW).below hV).p ((huy.below hW).below hV))
  (hid λV hV=>zd3 _ z c hzz (hc.mono (by omega)) h3 V ((H W hW).below hV).d ((H W hW).below hV).p ((huz.below hW).below hV))
  (hid λV u v hV hu hv=>zny u v _ _ h1 h2 h4 V ((H W hW).below hV).d ((H W hW).below hV).p hu hv)
  (hid λV u v hV hu hv=>zny u v _ _ h4 h3 h5 V ((H W hW).below hV).d ((H W hW).below hV).p hu hv)
theorem zr4:∀args w,(callFunc 130 args).run zF w=.ok (.enter 130 args) w:=enters_of Tryz.func130 (by kernel_rfl) rfl
theorem zol (a b c:Rat) (ha:sz a 60) (hb:sz b 60) (hc:sz c 60) (w:zA) (hw:Hw w):
 zC zF 27 #[.agg #[St (numS a),St (numS b),St (numS c)],.bool false] w λe w'=>∃v,e=.returned (.tuple #[.agg #[St (numS (-a)),St (numS (-b)),St (numS 1),v],.int .i64 0])/\zB w.heap.size w w'/\SdL v (rs c) w':=by
 have n1:St (numS 1)=.string ⟨#[49]⟩:=by rw[zfc]
 refine zlt (numS a) (numS b) (numS c) _ _ (numS (-a)) (numS (-b)) (numS 1) false 130 (rs c) (rs c) w hw.d
  (hid λW hW A hA=>zgr a b c ha hb hc A _ W (hw.below hW).wd hA) (hid λW hW=>z7c c hc W (hw.below hW).d (hw.below hW).p) (hid λW=>zgj true W)
  (hid λW hW=>zea a 60 (by omega) (by omega) ha W hW) (hid λW hW=>zea b 60 (by omega) (by omega) hb W hW) (hid λW p n k hW hs=>?_) zr4
 rw[<-n1];exact(zn4 _ _ _ p n k (rs c) W hs).mono λe w' ⟨h1,h2,h3⟩=>⟨_,h1,h2,h3⟩
def trN (t:Rat×Nat) (p:Nat):Nat:=t.1.num.natAbs*t.1.num.natAbs*t.2*10^(2*p)
def flT (t:Rat×Nat) (p:Nat):Int:=floT t.1 (isq (trN t p)) (trN t p)
def valZ:List (Rat×Nat)->Nat->Int
 |[],_=>0
 |t::l,p=>flT t p+valZ l p
theorem z0a (p:Nat):∀l m:List (Rat×Nat),valZ (l++m) p=valZ l p+valZ m p
 |[],m=>by simp[valZ]
 |t::l,m=>by
  rw[List.cons_append];show flT t p+valZ (l++m) p=flT t p+valZ l p+valZ m p;rw[z0a p l m];omega
theorem zyg {l:List (Rat×Nat)} {i:Nat} {t:Rat×Nat} (h:l[i]? =some t) (p:Nat):valZ (l.take (i+1)) p=valZ (l.take i) p+flT t p:=by
 rw[List.take_add_one,h,z0a];show _+(flT t p+0)=_;omega
def sgnL (l:List (Rat×Nat)):Int:=if l=[] then 0 else sgnP l.length λk=>valZ l (plN k)
def sgeL (l:List (Rat×Nat)):Int:=if l=[] then 0 else errP (sgnL l)
theorem z3a {t:Rat×Nat} (h:TrmR t.1 t.2) (k:Nat):trN t (plN k)<10^132*10^132:=by
 have h1:=h.sc.1;have h2:t.2<10^16:=(zaf _ _ (by omega)).1 h.nr.len;have h3:(10:Nat)^(2*plN k)<=10^128:=Nat.pow_le_pow_right (by omega) (by have:=zn3 k;omega);have h4:t.1.num.natAbs*t.1.num.natAbs*t.2<10^136:=zcc (i:=120) (j:=16) (zcc (i:=60) (j:=60) h1 h1) h2;unfold trN
 calc _<10^136*10^(2*plN k):=Nat.mul_lt_mul_of_pos_right h4 (yS (by simp))
  _<=10^136*10^128:=Nat.mul_le_mul_left _ h3
  _=10^132*10^132:=by decide+kernel
theorem z54 {n:Nat} (h:n<10^132*10^132):isq n<10^132:=Nat.mul_self_lt_mul_self_iff.1 (Nat.lt_of_le_of_lt (zv0 n).1 h)
theorem z5h {t:Rat×Nat} (h:TrmR t.1 t.2) (k:Nat):(zD (trN t (plN k))).length<=290:=by
 have:(10:Nat)^132*10^132<=10^290:=by decide+kernel
 exact zil (by omega) (zS (z3a h k) this)
theorem z3e {t:Rat×Nat} (h:TrmR t.1 t.2) (k:Nat):(flT t (plN k)).natAbs<=10^132:=by
 have hs:=z54 (z3a h k);have hd:=Nat.div_le_self (isq (trN t (plN k))) t.1.den;unfold flT floT;generalize isq (trN t (plN k))/t.1.den=x at*
 split
 ·rw[Int.natAbs_neg,Int.natAbs_natCast]
  split<;>omega
 ·rw[Int.natAbs_natCast]
  omega
theorem z5i {l:List (Rat×Nat)} (h:∀t∈l,TrmR t.1 t.2) (k:Nat):(valZ l (plN k)).natAbs<=l.length*10^132:=by
 induction l with
 |nil=>simp[valZ]
 |cons t l ih=>
  have h1:=z3e (h t (List.mem_cons_self ..)) k;have h2:=ih λu hu=>h u (List.mem_cons_of_mem _ hu);show(flT t (plN k)+valZ l (plN k)).natAbs<=(l.length+1)*10^132;rw[Nat.add_mul,Nat.one_mul];omega
theorem z55 (v:Value) (l:List (Rat×Nat)) (h:SdOk l) (w:zA) (hw:Wd w) (hp:Spw w) (hv:SdL v l w):
 qJ 109 #[v] w (.tuple #[.int .i64 (sgnL l),.int .i64 (sgeL l)]):=by
 obtain⟨p,cap,rfl, -,hx⟩:=hv.slice;by_cases h0:l=[]
 ·subst h0
  exact zkl p cap w
 have hl0:0<l.length:=List.length_pos_iff.2 h0;have hl:=h.len;rw[show sgeL l=errP (sgnL l) from if_neg h0,show sgnL l=sgnP l.length λk=>valZ l (plN k) from if_neg h0];have z48:zE 0=[48]:=zb9;have z49:zE 1=[49]:=by rw[show(1:Int)=((1:Nat):Int) from rfl,Str.zad,zae (by omega)];rfl
 have dz:∀z:Int,z.natAbs<=12*10^132+12->digs z<=300:=λz hz=>by
  have p1:12*(10:Nat)^132+12<10^140:=by decide+kernel
  exact zO (zhd (k:=140) (by omega) (by omega)) (by omega)
 have vb:∀(k i:Nat),(valZ (l.take i) (plN k)).natAbs<=12*10^132:=λk i=>by
  have h1:=z5i (l:=l.take i) (λt ht=>h.trm t (List.mem_of_mem_take ht)) k;have h2:(l.take i).length<=12:=by rw[List.length_take];omega
  exact zO h1 (Nat.mul_le_mul_right _ h2)
 have at_:∀i,i<l.length->∃t,l[i]? =some t:=λi hi=>⟨_,List.getElem?_eq_getElem hi⟩;have hg:∀(i:Nat) (t:Rat×Nat),l[i]? =some t->l[i]?.getD (1,1)=t:=λi t h=>by rw[h];rfl
 have hall:=zj5 p cap l.length hl0 (by omega) (λi=>numS (l[i]?.getD (1,1)).1) (λi=>zD (l[i]?.getD (1,1)).2) (λk i=>flT (l[i]?.getD (1,1)) (plN k)) (λk i=>valZ (l.take i) (plN k)) (hid λk=>rfl)
  (hid λk i hk hi W hW=>by
    obtain⟨t,ht⟩:=at_ i hi;rw[hg i t ht];have htr:=h.trm t (List.mem_of_getElem? ht);exact zul t.1 t.2 (plN k) (isq (trN t (plN k))) (trN t (plN k)) (zd0 (by omega) (by omega) htr.sc) htr.ne htr.nr.pos (by have:=zn3 k;omega) rfl (z5h htr k) (zv0 _) W hW)
  (hid λk i hk hi W hW=>by
    obtain⟨t,ht⟩:=at_ i hi;rw[hg i t ht,zyg ht];have h1:=vb k i;have h2:=vb k (i+1);rw[zyg ht] at h2;have h3:=z3e (h.trm t (List.mem_of_getElem? ht)) k;exact zva _ _ (dz _ (by omega)) (dz _ (by omega)) (dz _ (by omega)) W hW)
  (hid λk j hk hj W hW=>by
    have h1:=vb k l.length;have:=zva (valZ (l.take l.length) (plN k)+(j:Int)) 1 (dz _ (by omega)) (dz _ (by omega)) (dz _ (by omega)) W hW;rw[z49,show valZ (l.take l.length) (plN k)+(j:Int)+1=valZ (l.take l.length) (plN k)+((j+1:Nat):Int) by omega] at this;exact this)
  (hid λk j hk hj W hW=>by
    have h1:=vb k l.length;have:=zsx (valZ (l.take l.length) (plN k)+(j:Int)) 0 (dz _ (by omega)) (dz _ (by omega)) W;rw[z48] at this;exact this)
  w (hid hw) (hid hp)
  (hid λi hi=>by
    obtain⟨t,ht⟩:=at_ i hi;rw[hg i t ht];exact hx i t ht)
 rw[List.take_length] at hall;exact hall
theorem z5j (v:Value) (l:List (Rat×Nat)) (h:SdOk l) (w:zA) (HW:Hid (∀W,qL w W->Wd W)) (HP:Hid (∀W,qL w W->Pw W)) (HS:Hid (∀W,qL w W->Spw W)) (hv:SdL v l w):
 qJ 51 #[v] w (.tuple #[.int .i64 (sgnL l),.int .i64 (sgeL l)]):=by
 obtain⟨p,cap,e, -⟩:=hv.slice;subst e;exact zff p l.length cap _ _ w (hid (zbh _ l h w (HW.out w (zM _ _)) (HP.out w (zM _ _)) hv)) (hid λW hW=>z55 _ l h W (HW.out W hW) (HS.out W hW) (hv.below hW))
theorem z41 {a b:Nat} (h:a*a<=b*b):a<=b:=Nat.mul_self_le_mul_self_iff.1 h
theorem z6o {a b:Nat} (h:a*a<b*b):a<b:=Nat.mul_self_lt_mul_self_iff.1 h
theorem zzd (M d p q:Nat) (hd:0<d):
 (isq (M*10^(2*p))/d)*10^q<=(isq (M*10^(2*q))/d+(if isq (M*10^(2*q))*isq (M*10^(2*q))=M*10^(2*q)/\isq (M*10^(2*q))%d=0 then 0 else 1))*10^p/\
 (isq (M*10^(2*q))/d+(if isq (M*10^(2*q))*isq (M*10^(2*q))=M*10^(2*q)/\isq (M*10^(2*q))%d=0 then 0 else 1))*10^p<(isq (M*10^(2*p))/d+1)*10^q+10^p:=by
 obtain⟨s1,s2⟩:=zv0 (M*10^(2*p));obtain⟨r1,r2⟩:=zv0 (M*10^(2*q));generalize isq (M*10^(2*p))=s at*
 generalize isq (M*10^(2*q))=r at*
 have ep:(10:Nat)^(2*p)=10^p*10^p:=by rw[Nat.two_mul,Nat.pow_add]
 have eq:(10:Nat)^(2*q)=10^q*10^q:=by rw[Nat.two_mul,Nat.pow_add]
 rw[ep] at s1 s2;rw[eq] at r1 r2⊢;have hP:0<(10:Nat)^p:=yS (by simp);have hQ:0<(10:Nat)^q:=yS (by simp);generalize (10:Nat)^p=P at*
 generalize (10:Nat)^q=Q at*
 have a1:s/d*d<=s:=Nat.div_mul_le_self s d;have a2:s<(s/d+1)*d:=by
  have:=Nat.lt_div_mul_add hd (a:=s);rw[Nat.add_mul,Nat.one_mul];exact this
 have b1:r/d*d<=r:=Nat.div_mul_le_self r d;have b2:r<(r/d+1)*d:=by
  have:=Nat.lt_div_mul_add hd (a:=r);rw[Nat.add_mul,Nat.one_mul];exact this
 have b3:r%d=0->r/d*d=r:=λh=>Nat.div_mul_cancel (Nat.dvd_of_mod_eq_zero h);generalize s/d=x at*
 generalize r/d=y at*
 have c1:(x*d)*(x*d)<=M*(P*P):=zO (Nat.mul_le_mul a1 a1) s1;have c2:M*(P*P)<((x+1)*d)*((x+1)*d):=zS s2 (Nat.mul_le_mul a2 a2);have c3:(y*d)*(y*d)<=M*(Q*Q):=zO (Nat.mul_le_mul b1 b1) r1;have mono:∀{a b c:Nat},a<=b->a*c<=b*c:=λh=>Nat.mul_le_mul_right _ h;constructor
 ·split
  ·rename_i h
   have c4:(y*d)*(y*d)=M*(Q*Q):=by rw[b3 h.2];exact h.1
   have:(x*Q*d)*(x*Q*d)<=(y*P*d)*(y*P*d):=by
    calc (x*Q*d)*(x*Q*d)=(x*d)*(x*d)*(Q*Q):=by ac_rfl
     _<=M*(P*P)*(Q*Q):=mono c1
     _=M*(Q*Q)*(P*P):=by ac_rfl
     _=(y*d)*(y*d)*(P*P):=by rw[c4]
     _=(y*P*d)*(y*P*d):=by ac_rfl
   have:=z41 this;exact Nat.le_of_mul_le_mul_right this hd
  ·have c4:M*(Q*Q)<=((y+1)*d)*((y+1)*d):=Nat.le_of_lt (zS r2 (Nat.mul_le_mul b2 b2))
   have:(x*Q*d)*(x*Q*d)<=((y+1)*P*d)*((y+1)*P*d):=by
    calc (x*Q*d)*(x*Q*d)=(x*d)*(x*d)*(Q*Q):=by ac_rfl
     _<=M*(P*P)*(Q*Q):=mono c1
     _=M*(Q*Q)*(P*P):=by ac_rfl
     _<=((y+1)*d)*((y+1)*d)*(P*P):=mono c4
     _=((y+1)*P*d)*((y+1)*P*d):=by ac_rfl
   have:=z41 this;exact Nat.le_of_mul_le_mul_right this hd
 ·have:(y*P*d)*(y*P*d)<((x+1)*Q*d)*((x+1)*Q*d):=by
   calc (y*P*d)*(y*P*d)=(y*d)*(y*d)*(P*P):=by ac_rfl
    _<=M*(Q*Q)*(P*P):=mono c3
    _=M*(P*P)*(Q*Q):=by ac_rfl
    _<((x+1)*d)*((x+1)*d)*(Q*Q):=Nat.mul_lt_mul_of_pos_right c2 (Nat.mul_pos hQ hQ)
    _=((x+1)*Q*d)*((x+1)*Q*d):=by ac_rfl
  have:=z6o this;have:y*P<(x+1)*Q:=Nat.lt_of_mul_lt_mul_right this;rw[Nat.add_mul];split
  ·rw[Nat.zero_mul];omega
  ·rw[Nat.one_mul];omega
theorem z56 (c:Rat):(-c).num= -c.num/\(-c).den=c.den:=⟨rfl,rfl⟩
theorem z57 (t:Rat×Nat) (hne:t.1≠0) (p q:Nat):
 flT t p*(10^q:Nat)+flT (ngT t) q*(10^p:Nat)<=0/\0<(flT t p+1)*(10^q:Nat)+(flT (ngT t) q+1)*(10^p:Nat):=by
 have hn0:t.1.num≠0:=λe=>hne (Rat.num_eq_zero.1 e);have hd:=t.1.den_pos;obtain⟨n1,n2⟩:=z56 t.1;have hM:trN (ngT t) q=t.1.num.natAbs*t.1.num.natAbs*t.2*10^(2*q):=by
  show(-t.1).num.natAbs*(-t.1).num.natAbs*t.2*10^(2*q)=_;rw[n1,Int.natAbs_neg]
 have hM0:trN t p=t.1.num.natAbs*t.1.num.natAbs*t.2*10^(2*p):=rfl;unfold flT floT;rw[hM,hM0,show(ngT t).1= -t.1 from rfl,n1,n2];generalize t.1.num.natAbs*t.1.num.natAbs*t.2=M;by_cases hs:t.1.num<0
 ·rw[if_pos hs,if_neg (show ¬ -t.1.num<0 by omega)]
  obtain⟨f1,f2⟩:=zzd M t.1.den q p hd;generalize isq (M*10^(2*q))/t.1.den=x at*
  generalize (isq (M*10^(2*p))/t.1.den+if isq (M*10^(2*p))*isq (M*10^(2*p))=M*10^(2*p)/\isq (M*10^(2*p))%t.1.den=0 then 0 else 1)=y at*
  generalize (10:Nat)^p=P at*
  generalize (10:Nat)^q=Q at*
  have g1:((x*P:Nat):Int)<=((y*Q:Nat):Int):=by exact_mod_cast f1
  have g2:((y*Q:Nat):Int)<(((x+1)*P+Q:Nat):Int):=by exact_mod_cast f2
  simp only[Int.natCast_mul,Int.natCast_add,Int.natCast_one] at g1 g2;rw[Int.neg_mul,Int.add_mul,Int.add_mul,Int.neg_mul];rw[Int.add_mul] at g2;simp only[Int.one_mul] at*
  omega
 ·rw[if_neg hs,if_pos (show-t.1.num<0 by have:=hn0;omega)]
  obtain⟨f1,f2⟩:=zzd M t.1.den p q hd;generalize isq (M*10^(2*p))/t.1.den=x at*
  generalize (isq (M*10^(2*q))/t.1.den+if isq (M*10^(2*q))*isq (M*10^(2*q))=M*10^(2*q)/\isq (M*10^(2*q))%t.1.den=0 then 0 else 1)=y at*
  generalize (10:Nat)^p=P at*
  generalize (10:Nat)^q=Q at*
  have g1:((x*Q:Nat):Int)<=((y*P:Nat):Int):=by exact_mod_cast f1
  have g2:((y*P:Nat):Int)<(((x+1)*Q+P:Nat):Int):=by exact_mod_cast f2
  simp only[Int.natCast_mul,Int.natCast_add,Int.natCast_one] at g1 g2;rw[Int.neg_mul,Int.add_mul,Int.add_mul,Int.neg_mul];rw[Int.add_mul] at g2;simp only[Int.one_mul] at*
  omega
theorem zu6 (n:Nat) (Z:Nat->Int):(sgnP n Z=1/\∃k,0<Z k)\/(sgnP n Z= -1/\∃k,Z k+n<=0)\/sgnP n Z=0:=by
 have r:∀k,(zap n k (Z k)=1/\0<Z k)\/(zap n k (Z k)= -1/\Z k+n<=0)\/zap n k (Z k)=0:=λk=>by
  unfold zap;split
  ·exact .inl ⟨rfl,by assumption⟩
  ·split
   ·exact .inr (.inl ⟨rfl,by omega⟩)
   ·exact .inr (.inr rfl)
 unfold sgnP;split
 ·rcases r 0 with⟨h,k⟩|⟨h,k⟩|h
  ·exact .inl ⟨h,0,k⟩
  ·exact .inr (.inl ⟨h,0,k⟩)
  ·exact .inr (.inr h)
 ·split
  ·rcases r 1 with⟨h,k⟩|⟨h,k⟩|h
   ·exact .inl ⟨h,1,k⟩
   ·exact .inr (.inl ⟨h,1,k⟩)
   ·exact .inr (.inr h)
  ·rcases r 2 with⟨h,k⟩|⟨h,k⟩|h
   ·exact .inl ⟨h,2,k⟩
   ·exact .inr (.inl ⟨h,2,k⟩)
   ·exact .inr (.inr h)
theorem MkOut.calls {P:Program} {f:FuncId} {a:Array Value} {w:zA} {l:List (Rat×Nat)} (h:zC P f a w (MkOut l w)):zC P f a w λe w'=>∃q n c r,e=.returned (.tuple #[.slice q n c,.int .i64 r])/\zB w.heap.size w w'/\OutR l (∀c∈l,sz c.1 60) True (.slice q n c) r w':=
 h.mono λ_ _ ⟨q,n,c,r,h1,h2,h3⟩=>⟨q,n,c,r,h1,h2,h3.imp id λh=>⟨h.1,h.2.1,trivial⟩⟩
theorem zw6 {l:List (Rat×Nat)} (h:SdOk l) {c:Rat} (hs:∀t∈sclR l c,sz t.1 60):SdOk (sclR l c):=by
 unfold sclR at hs⊢;split
 ·exact SdOk.nil
 ·rename_i e
  rw[if_neg e] at hs;exact zpk h e λt ht=>hs (t.1*c,t.2) (List.mem_map.2 ⟨t,ht,rfl⟩)
theorem zp4 {l:List (Rat×Nat)} {c:Rat} {k:Nat} (h:∀t∈l,sz (t.1*c) k):∀t∈sclR l c,sz t.1 k:=λt ht=>by
 unfold sclR at ht;split at ht
 ·cases ht
 ·obtain⟨u,hu,rfl⟩:=List.mem_map.1 ht
  exact h u hu
theorem zxp (l:List (Rat×Nat)) (c:Rat):(sclR l c).length<=l.length:=by
 unfold sclR;split
 ·simp
 ·simp[sclL]
theorem z2e {l r:List (Rat×Nat)} (hl:SdOk l) (hr:SdOk r) (hlen:l.length+r.length<=12) (hs:∀c∈mkG (l++r),sz c.1 60):SdOk (mkG (l++r)):=
 z5t (λt ht=>((List.mem_append.1 ht).elim (λh=>hl.trm t h) λh=>hr.trm t h).nr) (by simpa using hlen) hs
theorem z3f (l r:List (Rat×Nat)):(mkG (l++r)).length<=l.length+r.length:=by
 have:=zw5 (l++r);rw[List.length_append] at this;omega
def sdM1 (X Y:List (Rat×Nat)) (a b:Rat):List (Rat×Nat):=mkG (sclR X a++sclR Y b)
def sdM2 (X Y Z:List (Rat×Nat)) (a b c:Rat):List (Rat×Nat):=mkG (sdM1 X Y a b++sclR Z c)
def sdM3 (D X Y Z:List (Rat×Nat)) (a b c:Rat):List (Rat×Nat):=mkG (sdM2 X Y Z a b c++sclL D (-1))
def SclS (l:List (Rat×Nat)) (c:Rat):Prop:=∀t∈l,sz (t.1*c) 140
def SmE (X Y Z:List (Rat×Nat)) (a b c:Rat):Prop:=(∀t∈sclR X a,sz t.1 60)/\(∀t∈sclR Y b,sz t.1 60)/\(∀t∈sclR Z c,sz t.1 60)/\(∀t∈sdM1 X Y a b,sz t.1 60)/\∀t∈sdM2 X Y Z a b c,sz t.1 60
theorem SmE.ok {X Y Z:List (Rat×Nat)} {a b c:Rat} (h:SmE X Y Z a b c) (hX:SdOk X) (hY:SdOk Y) (hZ:SdOk Z) (k1:X.length+Y.length<=12) (k2:(sdM1 X Y a b).length+Z.length<=12):SdOk (sdM1 X Y a b)/\SdOk (sdM2 X Y Z a b c):=by
 have l0:=zxp X a;have l1:=zxp Y b;have l2:=zxp Z c;have o:=z2e (zw6 hX h.1) (zw6 hY h.2.1) (by omega) h.2.2.2.1;exact⟨o,z2e o (zw6 hZ h.2.2.1) (by first|omega|(unfold sdM1 at k2;omega)) h.2.2.2.2⟩
theorem zo6 (D X Y Z:List (Rat×Nat)) (a b c:Rat) (hlen:X.length+Y.length+Z.length+D.length<=12):X.length+Y.length<=12/\(sdM1 X Y a b).length+Z.length<=12/\(sdM2 X Y Z a b c).length+D.length<=12:=by
 have l0:=zxp X a;have l1:=zxp Y b;have l2:=zxp Z c;have m1:=z3f (sclR X a) (sclR Y b);have m2:=z3f (sdM1 X Y a b) (sclR Z c);unfold sdM2;unfold sdM1 at m2⊢;omega
theorem zs9 (a b c:Rat) (ha:sz a 140) (hb:sz b 140) (hc:sz c 140) (X Y Z:List (Rat×Nat)) (hX:SdOk X) (hY:SdOk Y) (hZ:SdOk Z) (k1:X.length+Y.length<=12) (k2:(sdM1 X Y a b).length+Z.length<=12)
 (h1:SclS X a) (h2:SclS Y b) (h3:SclS Z c) (ux uy uz:Value) (w:zA) (hw:Hw w) (hux:SdL ux X w) (huy:SdL uy Y w) (huz:SdL uz Z w):
 zC zF 49 #[.agg #[ux,uy,uz],.agg #[St (numS a),St (numS b),St (numS c)]] w λe w'=>∃q n c' r,e=.returned (.tuple #[.slice q n c',.int .i64 r])/\zB w.heap.size w w'/\OutR (sdM2 X Y Z a b c) (SmE X Y Z a b c) True (.slice q n c') r w':=by
 obtain⟨q0,n0,k0,rfl⟩:=hux.any;obtain⟨q1,n1,k1',rfl⟩:=huy.any;obtain⟨q2,n2,k2',rfl⟩:=huz.any;have l0:=zxp X a;have l1:=zxp Y b;have l2:=zxp Z c;exact z0p q0 q1 q2 n0 n1 n2 k0 k1' k2' (numS a) (numS b) (numS c) (sclR X a) (sclR Y b) (sclR Z c) (sdM1 X Y a b) (sdM2 X Y Z a b c) _ _ _ _ _ True w
  (hid λV hV=>MkOut.calls (zeu _ X a hX (by omega) (ha.mono (by omega)) h1 V (hw.below hV).d (hw.below hV).p (hux.below hV)))
  (hid λV hV=>MkOut.calls (zeu _ Y b hY (by omega) (hb.mono (by omega)) h2 V (hw.below hV).d (hw.below hV).p (huy.below hV)))
  (hid λV hV=>MkOut.calls (zeu _ Z c hZ (by omega) (hc.mono (by omega)) h3 V (hw.below hV).d (hw.below hV).p (huz.below hV)))
  (hid λV u v g0 g1 hV hu hv=>MkOut.calls (z4w u v _ _ (zw6 hX g0) (zw6 hY g1) (by omega) V (hw.below hV).d (hw.below hV).p hu hv))
  (hid λV u v g0 g1 hM g2 hV hu hv=>MkOut.calls (z4w u v _ _ (z2e (zw6 hX g0) (zw6 hY g1) (by omega) hM) (zw6 hZ g2) (by first|omega|(unfold sdM1 at k2;omega)) V (hw.below hV).d (hw.below hV).p hu hv))
theorem z3g (a b c:Rat) (ha:sz a 60) (hb:sz b 60) (hc:sz c 60) (hz:a≠0\/b≠0\/c≠0) (D X Y Z:List (Rat×Nat)) (hD:SdOk D) (hX:SdOk X) (hY:SdOk Y) (hZ:SdOk Z) (hlen:X.length+Y.length<=12/\(sdM1 X Y a b).length+Z.length<=12/\(sdM2 X Y Z a b c).length+D.length<=12)
 (h1:SclS X a) (h2:SclS Y b) (h3:SclS Z c) (v ux uy uz:Value) (w:zA) (hw:Hw w) (hv:SdL v D w) (hux:SdL ux X w) (huy:SdL uy Y w) (huz:SdL uz Z w):
 zC zF 13 #[.agg #[St (numS a),St (numS b),St (numS c),v],.agg #[ux,uy,uz]] w λe w'=>∃m r,e=.returned (.tuple #[.int .i64 m,.int .i64 r])/\zB w.heap.size w w'/\((r=4/\m=0)\/(m=sgnL (sdM3 D X Y Z a b c)/\r=sgeL (sdM3 D X Y Z a b c)/\∀t∈sdM3 D X Y Z a b c,t.1≠0)):=by
 obtain⟨qd,nd,kd,rfl⟩:=hv.any;obtain⟨q0,n0,k0,rfl⟩:=hux.any;obtain⟨q1,n1,k1,rfl⟩:=huy.any;obtain⟨q2,n2,k2,rfl⟩:=huz.any;obtain⟨e1,e2,e3⟩:=hlen;have H:=λ(W:zA) (h:qL w W)=>hw.below h;have ld:(sclL D (-1)).length=D.length:=by simp[sclL]
 have g2:=λ(h:SmE X Y Z a b c)=>(h.ok hX hY hZ e1 e2).2;refine(z36 (numS a) (numS b) (numS c) qd q0 q1 q2 nd kd n0 n1 n2 k0 k1 k2 (sdM2 X Y Z a b c) (sdM3 D X Y Z a b c) (SmE X Y Z a b c) (∀t∈sdM3 D X Y Z a b c,sz t.1 60) True True (sgnL (sdM3 D X Y Z a b c)) (sgeL (sdM3 D X Y Z a b c)) w
  (hid λW hW B hB=>zjk a b c ha hb hc hz _ D hD B W (H W hW) (hv.below hW) hB)
  (hid λW hW=>zbh _ X hX W (H W hW).wd (H W hW).pw (hux.below hW)) (hid λW hW=>zbh _ Y hY W (H W hW).wd (H W hW).pw (huy.below hW)) (hid λW hW=>zbh _ Z hZ W (H W hW).wd (H W hW).pw (huz.below hW))
  (hid λW hW=>zs9 a b c (ha.mono (by omega)) (hb.mono (by omega)) (hc.mono (by omega)) X Y Z hX hY hZ e1 e2 h1 h2 h3 _ _ _ W (H W hW) (hux.below hW) (huy.below hW) (huz.below hW))
  (hid λW r hE hW hr=>MkOut.calls (z6n r _ _ D (g2 hE) hD e3 W (H W hW).d (H W hW).p hr (hv.below hW)))
  (hid λW u hE hE2 hW hu=>z5j u _ (z2e (g2 hE) (zvn hD) (by omega) hE2) W (H W hW).d (H W hW).p (H W hW).s hu)).mono ?_
 rintro e w' ⟨m,r,he,hb',⟨h1,h2, -⟩|⟨e1,e2,hE,hM2⟩⟩
 ·exact⟨m,r,he,hb',.inl ⟨h1,h2⟩⟩
 ·exact⟨m,r,he,hb',.inr ⟨e1,e2,λt ht=>((z2e (g2 hE) (zvn hD) (by omega) hM2).trm t ht).ne⟩⟩
def zzx (w:zA) (G:Prop) (e:Ending) (w':zA):Prop:=∃b:Bool,e=.returned (.bool b)/\(b=false->G)/\zB w.heap.size w w'
def IdxI (w:zA) (n:Nat) (G:Nat->Prop) (e:Ending) (w':zA):Prop:=∃k:Int,e=.returned (.int .i64 k)/\((k= -1/\∀i,i<n->G i)\/0<=k)/\zB w.heap.size w w'
def YesI (w:zA) (G:Prop) (e:Ending) (w':zA):Prop:=∃b:Bool,e=.returned (.bool b)/\(b=true->G)/\zB w.heap.size w w'
def RowSl (p:Option Addr) (n:Nat) (D:Nat->Value) (W:zA):Prop:=∀i,i<n->∃b off,p=some ⟨b,off,none⟩/\W.cell? ⟨b,off+i,none⟩=some (D i)
theorem RowSl.keep {p:Option Addr} {n:Nat} {D:Nat->Value} {W W':zA} (h:RowSl p n D W) (hc:CellsKept W W'):RowSl p n D W':=λi hi=>let ⟨b,off,e,h1⟩:=h i hi;⟨b,off,e,hc.cell h1⟩
def RowTt (p:Option Addr) (n:Nat) (X Y:Nat->List UInt8) (W:zA):Prop:=∀i,i<n->∃b off,p=some ⟨b,off,none⟩/\W.cell? ⟨b,off+i*2,none⟩=some (St (X i))/\W.cell? ⟨b,off+i*2+1,none⟩=some (St (Y i))
theorem RowTt.keep {p:Option Addr} {n:Nat} {X Y:Nat->List UInt8} {W W':zA} (h:RowTt p n X Y W) (hc:CellsKept W W'):RowTt p n X Y W':=λi hi=>let ⟨b,off,e,h1,h2⟩:=h i hi;⟨b,off,e,hc.cell h1,hc.cell h2⟩
theorem z4h (p:Option Addr) (cap n:Nat) (D:Nat->Value) (hD:∀i,i<n->∃q m c,D i=.slice q m c) (hn:n<=5000) (G:Nat->Prop) (w:zA)
 (F:Hid (∀i,i<n->∀W:zA,qL w W->zC zF 61 #[D i] W (BoolP W (G i))))
 (HP:Hid (RowSl p n D w)):
 zC zF 115 #[.slice p n cap,.func (.func 61) #[] #[]] w (IdxP w n G):=by
 have D0:=hid (zM w.heap.size w);go_enter Tryz.func115,Tryz.ntmps115;go_wp2;go_loopw [8] (λi wr=>∃(k:Nat),k<=n/\i=.int .i64 (k:Int)/\Hid (∀i,i<k->G i)/\Hid (qL w wr))
  (λi _=>n-(zL i).toNat)
 case atStart=>exact⟨0,zR _,rfl,λi h=>by omega,D0⟩
 case round=>
  clear D0;obtain⟨k,hk,rfl,hG,hB⟩:=hrel;by_cases hlt:k<n
  ·obtain⟨b,off,rfl,c0⟩:=(HP.out.keep (zac hB.out)) k hlt
   have HF:=hid (F.out k hlt wr hB.out);obtain⟨q0,m0,cc,hd⟩:=hD k hlt;rw[hd] at c0 HF;go_wp21;refine HF.out.mono ?_;rintro e w2 ⟨t,rfl,ht,hb2⟩;have hB2:=hid (hB.out.trans (hb2.mono hB.out.size));have HT:=hid ht;clear ht hb2 HF c0;cases t
   ·go_wp21
    go_roundw
    case rel=>exact⟨k+1,by omega,by go_num,λi hi=>(by
     by_cases e:i=k
     ·subst e;exact HT.out.1 (by trivial)
     ·exact hG.out i (by omega)),hB2⟩
    case measure=>simp[zL];omega
   ·go_wp21
    go_ret;exact IdxP.hit hlt (λh=>by have:=HT.out.2 h;simp at this) hB2.out
  ·have hkn:k=n:=by omega
   have HK:=hid hkn;clear hkn;go_wp21;go_ret;exact IdxP.none (by rw[<-HK.out];exact hG.out) hB.out
theorem z3h (p:Option Addr) (cap n:Nat) (G:Nat->Prop) (w:zA)
 (F:Hid (zC zF 115 #[.slice p n cap,.func (.func 61) #[] #[]] w (IdxP w n G))):
 zC zF 60 #[.slice p n cap,.func (.func 61) #[] #[]] w (BoolP w (∀i,i<n->G i)):=by
 go_enter Tryz.func60,Tryz.ntmps60;go_wp21;refine F.out.mono ?_;rintro e w1 ⟨k,rfl,hk,hB⟩;rcases hk with⟨rfl,h⟩|⟨h0,i,hi,h⟩
 ·have HN:=hid h;clear h
  go_wp21;go_ret;exact BoolP.yes HN.out hB
 ·have HN:=hid (λh'=>h (h' i hi):¬ ∀i,i<n->G i);clear h
  go_wp21;go_ret;exact BoolP.no HN.out hB
theorem z3i (p:Option Addr) (cap n:Nat) (X Y:Nat->List UInt8) (hn:n<=5000) (G:Nat->Prop) (w:zA)
 (F:Hid (∀i,i<n->∀W:zA,qL w W->zC zF 63 #[.agg #[St (X i),St (Y i)]] W (BoolP W (G i))))
 (HP:Hid (RowTt p n X Y w)):
 zC zF 116 #[.slice p n cap,.func (.func 63) #[] #[]] w (IdxP w n G):=by
 have D0:=hid (zM w.heap.size w);go_enter Tryz.func116,Tryz.ntmps116;go_wp2;go_loopw [8] (λi wr=>∃(k:Nat),k<=n/\i=.int .i64 (k:Int)/\Hid (∀i,i<k->G i)/\Hid (qL w wr))
  (λi _=>n-(zL i).toNat)
 case atStart=>exact⟨0,zR _,rfl,λi h=>by omega,D0⟩
 case round=>
  clear D0;obtain⟨k,hk,rfl,hG,hB⟩:=hrel;by_cases hlt:k<n
  ·obtain⟨b,off,rfl,c0,c1⟩:=(HP.out.keep (zac hB.out)) k hlt
   have HF:=hid (F.out k hlt wr hB.out);generalize X k=x at*
   generalize Y k=y at*
   go_wp21;refine HF.out.mono ?_;rintro e w2 ⟨t,rfl,ht,hb2⟩;have hB2:=hid (hB.out.trans (hb2.mono hB.out.size));have HT:=hid ht;clear ht hb2 HF c0 c1;cases t
   ·go_wp21
    go_roundw
    case rel=>exact⟨k+1,by omega,by go_num,λi hi=>(by
     by_cases e:i=k
     ·subst e;exact HT.out.1 (by trivial)
     ·exact hG.out i (by omega)),hB2⟩
    case measure=>simp[zL];omega
   ·go_wp21
    go_ret;exact IdxP.hit hlt (λh=>by have:=HT.out.2 h;simp at this) hB2.out
  ·have hkn:k=n:=by omega
   have HK:=hid hkn;clear hkn;go_wp21;go_ret;exact IdxP.none (by rw[<-HK.out];exact hG.out) hB.out
theorem z2f (p:Option Addr) (cap n:Nat) (G:Nat->Prop) (w:zA)
 (F:Hid (zC zF 116 #[.slice p n cap,.func (.func 63) #[] #[]] w (IdxP w n G))):
 zC zF 62 #[.slice p n cap,.func (.func 63) #[] #[]] w (BoolP w (∀i,i<n->G i)):=by
 go_enter Tryz.func62,Tryz.ntmps62;go_wp21;refine F.out.mono ?_;rintro e w1 ⟨k,rfl,hk,hB⟩;rcases hk with⟨rfl,h⟩|⟨h0,i,hi,h⟩
 ·have HN:=hid h;clear h
  go_wp21;go_ret;exact BoolP.yes HN.out hB
 ·have HN:=hid (λh'=>h (h' i hi):¬ ∀i,i<n->G i);clear h
  go_wp21;go_ret;exact BoolP.no HN.out hB
theorem z4i (p:Option Addr) (cap n:Nat) (X Y Z:Nat->List UInt8) (D:Nat->Value) (hD:∀i,i<n->∃q m c,D i=.slice q m c) (hn:n<=5000) (G:Nat->Prop) (w:zA)
 (F:Hid (∀i,i<n->∀W:zA,qL w W->zC zF 20 #[.agg #[St (X i),St (Y i),St (Z i),D i]] W (zzx W (G i))))
 (HP:Hid (RowHf p n X Y Z D w)):
 zC zF 59 #[.slice p n cap,.func (.func 20) #[] #[]] w (IdxI w n G):=by
 have D0:=hid (zM w.heap.size w);go_enter Tryz.func59,Tryz.ntmps59;go_wp2;go_loopw [8] (λi wr=>∃(k:Nat),k<=n/\i=.int .i64 (k:Int)/\Hid (∀i,i<k->G i)/\Hid (qL w wr))
  (λi _=>n-(zL i).toNat)
 case atStart=>exact⟨0,zR _,rfl,λi h=>by omega,D0⟩
 case round=>
  clear D0;obtain⟨k,hk,rfl,hG,hB⟩:=hrel;by_cases hlt:k<n
  ·obtain⟨b,off,rfl,c0,c1,c2,c3⟩:=(HP.out.keep (zac hB.out)) k hlt
   have HF:=hid (F.out k hlt wr hB.out);obtain⟨q0,m0,cc,hd⟩:=hD k hlt;rw[hd] at c3 HF;generalize X k=x at*
   generalize Y k=y at*
   generalize Z k=z at*
   go_wp21;refine HF.out.mono ?_;rintro e w2 ⟨t,rfl,ht,hb2⟩;have hB2:=hid (hB.out.trans (hb2.mono hB.out.size));have HT:=hid ht;clear ht hb2 HF c0 c1 c2 c3;cases t
   ·go_wp21
    go_roundw
    case rel=>exact⟨k+1,by omega,by go_num,λi hi=>(by
     by_cases e:i=k
     ·subst e;exact HT.out (by trivial)
     ·exact hG.out i (by omega)),hB2⟩
    case measure=>simp[zL];omega
   ·go_wp21
    go_ret;exact⟨k,rfl,.inr (by omega),hB2.out⟩
  ·have hkn:k=n:=by omega
   have HK:=hid hkn;clear hkn;go_wp21;go_ret;exact⟨-1,rfl,.inl ⟨rfl,by rw[<-HK.out];exact hG.out⟩,hB.out⟩
theorem z3k (p:Option Addr) (cap n:Nat) (G:Nat->Prop) (w:zA)
 (F:Hid (zC zF 59 #[.slice p n cap,.func (.func 20) #[] #[]] w (IdxI w n G))):
 zC zF 19 #[.slice p n cap,.func (.func 20) #[] #[]] w (zzx w (∀i,i<n->G i)):=by
 go_enter Tryz.func19,Tryz.ntmps19;go_wp21;refine F.out.mono ?_;rintro e w1 ⟨k,rfl,hk,hB⟩;rcases hk with⟨rfl,h⟩|h0
 ·have HN:=hid h;clear h
  go_wp21;go_ret;exact⟨false,rfl,λ_=>HN.out,hB⟩
 ·go_wp21
  go_ret;exact⟨true,rfl,(λh=>by cases h),hB⟩
def zm0 (q:Rat):Prop:=digs q.num<=9/\(zD q.den).length<=9
theorem z4m (q:Rat):(denS q).length<=9↔(zD q.den).length<=9:=by
 unfold denS;split
 ·rename_i h
  rw[h];have:(zD 1).length=1:=by decide+kernel
  simp[this]
 ·exact Iff.rfl
theorem zu7 (q:Rat) (h:okN q) (hn:zm0 q) (w:zA):
 qJ 163 #[St (numS q)] w (.tuple #[.int .i64 q.num,.int .i64 (q.den:Int),.bool true]):=by
 have hc:=zx3 q h w;have hl1:(zD q.num.natAbs).length<=9:=hn.1;have hl2:(denS q).length<=9:=(z4m q).2 hn.2;have s1:=λW=>zz9 (zD q.num.natAbs) (zan _) (by omega) W;have s2:=λW=>zz9 (zD q.den) (zan _) (by have:=hn.2;omega) W;rw[zb2] at s1 s2;have b1:q.num.natAbs<1000000000:=(zaf _ 9 (by omega)).1 hn.1;have hd2:q.den≠1->denS q=zD q.den:=λe=>by unfold denS;rw[if_neg e]
 have HC:=hid hc;have S1:=hid s1;have S2:=hid s2;have HD2:=hid hd2;obtain⟨a,ha⟩:=zzX q.num.natAbs;rw[<-ha] at HC S1 hl1 b1;have g1:¬(9:Int)<(zD a).length:=by omega
 have g2:¬(9:Int)<(denS q).length:=by omega
 clear hc h hn s1 s2 hd2;generalize zD a=da at*
 generalize numS q=s at*
 by_cases hm:q.num<0<;>by_cases h1:q.den=1
 ·rw[decide_eq_true hm,decide_eq_false (by simpa using h1)] at HC
  have hw:IntKind.i64.wrap (-(a:Int))=q.num:=by rw[show-(a:Int)=q.num by omega];exact zI _ (by omega)
  rw[h1];clear hm ha HD2 b1;generalize q.num=nn at*
  generalize denS q=ds at*
  generalize q.den=den at*
  generalize zD den=dd at*
  go_enter Tryz.func163,Tryz.ntmps163;go_wp21;refine zzM HC.out λw1 hb=>?_;go_wp21;refine zzM (S1.out w1) λw2 hw2=>?_;have hw2':=hw2.symm;subst hw2';go_wp21;go_ret3;exact⟨rfl,hb⟩
 ·rw[decide_eq_true hm,decide_eq_true (by simpa using h1)] at HC
  have hw:IntKind.i64.wrap (-(a:Int))=q.num:=by rw[show-(a:Int)=q.num by omega];exact zI _ (by omega)
  rw[HD2.out h1] at HC g2 hl2;clear hm ha HD2 b1;generalize q.num=nn at*
  generalize denS q=ds at*
  generalize q.den=den at*
  generalize zD den=dd at*
  go_enter Tryz.func163,Tryz.ntmps163;go_wp21;refine zzM HC.out λw1 hb=>?_;go_wp21;refine zzM (S1.out w1) λw2 hw2=>?_;have hw2':=hw2.symm;subst hw2';go_wp21;refine zzM (S2.out w1) λw3 hw3=>?_;have hw3':=hw3.symm;subst hw3';go_wp21;go_ret3;exact⟨rfl,hb⟩
 ·rw[decide_eq_false hm,decide_eq_false (by simpa using h1)] at HC
  have hw:(q.num:Int)=(a:Int):=by omega
  rw[hw];rw[h1];clear hm ha HD2 b1 hw;generalize q.num=nn at*
  generalize denS q=ds at*
  generalize q.den=den at*
  generalize zD den=dd at*
  go_enter Tryz.func163,Tryz.ntmps163;go_wp21;refine zzM HC.out λw1 hb=>?_;go_wp21;refine zzM (S1.out w1) λw2 hw2=>?_;have hw2':=hw2.symm;subst hw2';go_wp21;go_ret3;exact⟨rfl,hb⟩
 ·rw[decide_eq_false hm,decide_eq_true (by simpa using h1)] at HC
  have hw:(q.num:Int)=(a:Int):=by omega
  rw[hw];rw[HD2.out h1] at HC g2 hl2;clear hm ha HD2 b1 hw;generalize q.num=nn at*
  generalize denS q=ds at*
  generalize q.den=den at*
  generalize zD den=dd at*
  go_enter Tryz.func163,Tryz.ntmps163;go_wp21;refine zzM HC.out λw1 hb=>?_;go_wp21;refine zzM (S1.out w1) λw2 hw2=>?_;have hw2':=hw2.symm;subst hw2';go_wp21;refine zzM (S2.out w1) λw3 hw3=>?_;have hw3':=hw3.symm;subst hw3';go_wp21;go_ret3;exact⟨rfl,hb⟩
theorem z6h (n k:Nat) (h:n≠k) (l:List UInt8) (hl:zD k=l):(zD n==l)=false/\¬zD n=l:=by
 have:¬zD n=l:=λe=>h (by rw[<-hl] at e;have:=congrArg val e;rwa [zb2,zb2] at this);exact⟨by rw[beq_eq_false_iff_ne];exact this,this⟩
theorem zft (q:Rat) (h:okN q) (w:zA) (hw:Wd w):
 qJ 25 #[St (numS q)] w (.int .i64 0):=by
 refine(zuj (numS q) (z10 h) w hw).mono ?_;rintro e w' ⟨r,rfl,hr,hb⟩;rw[hr.2 ⟨q,rfl,h⟩];exact⟨rfl,hb⟩
theorem zx4 (q r:Rat) (hq:okN q) (hr:okN r) (w:zA) (hw:Wd w):
 qJ 111 #[St (numS q),St (numS r)] w (.int .i64 0):=by
 have c1:=λW hW=>zft q hq W hW;have c2:=λW hW=>zft r hr W hW;generalize numS q=x at*
 generalize numS r=y at*
 have C1:=hid c1;have C2:=hid c2;have HW:=hid hw;clear c1 c2 hq hr hw;go_enter Tryz.func111,Tryz.ntmps111;go_wp21;refine zzM (C1.out w HW.out) λw1 hb1=>?_;have HB1:=hid hb1;clear hb1;go_wp21;refine zzM (C2.out w1 (HW.out.below HB1.out)) λw2 hb2=>?_;have HB2:=qT HB1 hb2;clear hb2;go_wp21;go_ret;exact⟨rfl,HB2.out⟩
theorem znm (q:Rat) (h:okN q) (w:zA) (hw:Wd w):
 qJ 170 #[St (numS q)] w (.tuple #[St (zE q.num),St (zD q.den),.int .i64 0]):=by
 have c1:=zft q h w hw;have c2:=λW=>z2d q h W;generalize numS q=x at*
 generalize zE q.num=n at*
 generalize zD q.den=d at*
 have C1:=hid c1;have C2:=hid c2;clear c1 c2 h hw;go_enter Tryz.func170,Tryz.ntmps170;go_wp21;refine zzM C1.out λw1 hb1=>?_;have HB1:=hid hb1;clear hb1;go_wp21;refine zzM (C2.out w1) λw2 hb2=>?_;have HB2:=qT HB1 hb2;clear hb2;go_wp21;go_ret3;exact⟨rfl,HB2.out⟩
theorem zvq (z:Int) (s:ByteArray) (hs:s=⟨(zE z).toArray⟩):∃h:0<s.size,(((s[0]'h).toNat:Int)==45)=decide (z<0)/\(z<0->s.extract 1 s.size=⟨(zD z.natAbs).toArray⟩):=by
 obtain⟨b1,b2⟩:=zdd (zE z) s hs;have hp:0<(zE z).length:=zS (zbn z) (zbr z);have h:0<s.size:=by omega
 refine⟨h,?_,?_⟩
 ·rw[b2 0 hp h]
  rcases zbg z with⟨k,e⟩|⟨k,e⟩
  ·rw[decide_eq_false (by omega),beq_eq_false_iff_ne]
   have hd:=zan z.natAbs ((zE z)[0]'hp) (by simp only[e];exact List.getElem_mem _);omega
  ·rw[decide_eq_true k,beq_iff_eq]
   simp only[e];rfl
 ·intro k
  rcases zbg z with⟨k',e⟩|⟨_,e⟩
  ·omega
  ·rw[hs,zev,e];rfl
theorem z3m (n:Nat) (s:ByteArray) (hs:s=⟨(zD n).toArray⟩):∃h:0<s.size,(((s[0]'h).toNat:Int)==45)=false:=by
 obtain⟨h,e,_⟩:=zvq (n:Int) s (by rw[Str.zad];exact hs);exact⟨h,by rw[e];simp⟩
theorem z6i {q:Rat} {k:Nat} (hk:0<k) (hk3:k<=300) (h:sz q k):okN q:=
 ⟨zO ((za3 _ k hk).2 h.1) hk3,zO ((zaf _ k hk).2 h.2) hk3⟩
theorem zx6 {q:Rat} (h:zm0 q):q.num.natAbs<1000000000/\q.den<1000000000:=⟨(za3 _ 9 (by omega)).1 h.1,(zaf _ 9 (by omega)).1 h.2⟩
instance (q:Rat):Decidable (zm0 q):=by unfold zm0;infer_instance
end
section
open Go.RowKit Go.Shelf Lib Str Limb Geo
attribute [local go_sem] Oper.semAt_some
theorem zzm (p q:Rat) (hp:okN p) (hq:okN q) (np:zm0 p) (nq:zm0 q) (w:zA) (hw:Wd w):
 qJ 172 #[St (numS p),St (numS q)] w (.tuple #[.int .i64 (cmpR p q),.int .i64 0]):=by
 rw[<-zim];have c0:=λW hW=>zx4 p q hp hq W hW;have c1:=λW=>zu7 p hp np W;have c2:=λW=>zu7 q hq nq W;obtain⟨b1,b2⟩:=zx6 np;obtain⟨b3,b4⟩:=zx6 nq;have m1:(p.num*q.den).natAbs<=999999998000000001:=by
  rw[Int.natAbs_mul,Int.natAbs_natCast];exact Nat.mul_le_mul (show p.num.natAbs<=999999999 by omega) (show q.den<=999999999 by omega)
 have m2:(q.num*p.den).natAbs<=999999998000000001:=by
  rw[Int.natAbs_mul,Int.natAbs_natCast];exact Nat.mul_le_mul (show q.num.natAbs<=999999999 by omega) (show p.den<=999999999 by omega)
 have e1:IntKind.i64.wrap (p.num*q.den)=p.num*q.den:=zI _ (by omega);have e2:IntKind.i64.wrap (q.num*p.den)=q.num*p.den:=zI _ (by omega);have CZ:=hid (show(p.num*q.den<q.num*p.den->cmpZ (p.num*q.den) (q.num*p.den)= -1)/\(q.num*p.den<p.num*q.den->cmpZ (p.num*q.den) (q.num*p.den)=1)/\(p.num*q.den=q.num*p.den->cmpZ (p.num*q.den) (q.num*p.den)=0) by
  unfold cmpZ;refine⟨λh=>?_,λh=>?_,λh=>?_⟩
  ·simp[h]
  ·have:¬p.num*q.den<q.num*p.den:=by omega
   simp[this,h]
  ·rw[h];simp)
 have C0:=hid c0;have C1:=hid c1;have C2:=hid c2;have HW:=hid hw;clear c0 c1 c2 np nq hp hq b1 b2 b3 b4 m1 m2 hw;generalize cmpZ (p.num*q.den) (q.num*p.den)=t at*
 generalize numS p=sp at*
 generalize numS q=sq at*
 generalize p.num=a at*
 generalize q.num=b at*
 generalize p.den=c at*
 generalize q.den=d at*
 go_enter Tryz.func172,Tryz.ntmps172;go_wp21;refine zzM (C0.out w HW.out) λw0 hb0=>?_;have HB0:=hid hb0;clear hb0;go_wp21;refine zzM (C1.out w0) λw1 hb1=>?_;have HB1:=qT HB0 hb1;clear hb1;go_wp21;refine zzM (C2.out w1) λw2 hb2=>?_;have HB2:=qT HB1 hb2;clear hb2;rcases Int.lt_trichotomy (a*d) (b*c) with h|h|h
 ·obtain rfl:=CZ.out.1 h
  go_wp21;go_ret2;exact⟨rfl,HB2.out⟩
 ·obtain rfl:=CZ.out.2.2 h
  have h1:¬a*d<b*c:=by omega
  have h2:¬b*c<a*d:=by omega
  clear h;go_wp21;go_ret2;exact⟨rfl,HB2.out⟩
 ·obtain rfl:=CZ.out.2.1 h
  have h1:¬a*d<b*c:=by omega
  go_wp21;go_ret2;exact⟨rfl,HB2.out⟩
end
end Go.Proofs.YtgeapfaiacoajaaGreatDoor
