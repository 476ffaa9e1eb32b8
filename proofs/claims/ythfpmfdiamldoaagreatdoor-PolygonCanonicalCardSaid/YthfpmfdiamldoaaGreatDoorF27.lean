/- slices.Grow and slices.Concat, of points. -/
import Derived.Test.YthfpmfdiamldoaaGreatDoorF26
import Derived.Lib.AppendZerosOnto
set_option maxRecDepth 100000
set_option maxHeartbeats 8000000
open Go renaming World → zA, Calls → zC
open Go.RowKit renaming Below → zB, intOf → zL
open Go.Proofs.Tryz renaming prog → zF
open Go.World renaming alloc_heap_new → zG
open Go.IntWalk renaming i64_in → zI
open Go.Joins renaming block_setCell → zK
open Go.RowKit.Below renaming refl → zM
open Nat renaming le_refl → zN, mod_lt → zP, zero_le → zR
open List renaming length_append → zU
namespace Go.Proofs.YthfpmfdiamldoaaGreatDoor
section
open Go.RowKit Go.Shelf Lib Str Limb Geo
attribute [local go_sem] Oper.semAt_some
theorem z50 (n:Nat) (h1:1<=n) (hn:n<=10000) (w:zA):
 zC zF 150 #[.slice none 0 0,.int .i64 (n:Int)] w λe w'=>∃v,e=.returned v/\w'.ownsRow w.heap.size 25 2 v 0 []/\zB w.heap.size w w':=by
 obtain⟨i0,hi,hz0,hz1,hz2⟩:=info_parts z4u
 have hrz:∀ty,(Builtin.append_ #[22,3] ty #[.slice none 0 0,.int .i64 (n:Int)]).run zF w=
  .ok (.slice (some ⟨w.heap.size,0,none⟩) n (grownCap w n 0 25)) (w.drew.alloc (.cells (#[]++Builtin.zeroCells (Value.agg #[St [],St []]).cells n++Builtin.zeroCells (Value.agg #[St [],St []]).cells (grownCap w n 0 25-n)) 25)):=λty=>by
  have h:=Lib.run_append_grow_zeros w 22 3 ty 25 i0 (.agg #[St [],St []]) .i64 .i64 Tryz.underlying22 Tryz.underlying3 hi hz0 none 0 0 [] (run_firstCells_none w.drew i0.size 0 0 0) n h1 (by omega) (by omega) (by omega) (by rw[hz2];omega) (by rw[hz2];exact growslice_fits (by omega) (by omega))
  simpa using h
 have hGn:n<=grownCap w n 0 25:=grownCap_ge w _ _ _
 have hGm:grownCap w n 0 25<=maxLen:=grownCap_le_maxLen w n 0 25 (by unfold maxLen;omega)
 generalize grownCap w n 0 25=G at*
 have HR:=hid (hrz);clear hrz
 have HG:=hid (⟨hGn,hGm⟩:n<=G/\G<=maxLen)
 have hG63:G<=9223372036854775807:=by unfold maxLen at hGm;omega
 clear hi hz0 hz1 hz2 hGm
 have hn0:¬(n:Int)<0:=by omega
 have hn1:(0:Int)<n:=by omega
 have hw1:IntKind.i64.wrap (n:Int)=n:=zI _ ⟨by omega,by omega⟩
 go_enter Tryz.func150,Tryz.ntmps150
 go_wp2_with (at_builtin;refine Lib.wpList_append_run _ rfl _ _ _ _ rfl _ _ rfl rfl _ _ (HR.out _) ?_)
 go_ret
 refine⟨_,rfl,⟨rfl,.inr ⟨w.heap.size,G,_,rfl,zN _,zG w _,zR _,HG.out.2,?_,by simp⟩⟩,((zM _ w).alloc (zN _) _).drew⟩
 have:=HG.out.1
 rw[Array.size_append,size_zeroCells,size_zeroCells]
 show n*2+(G-n)*2=G*2
 omega
theorem z4v:∀(l:List Pt) (F:Nat),z3k (l.drop F)=(z3k l).drop (F*2)
 |l,0=>by simp
 |[],F+1=>by simp[z3k]
 |a::r,F+1=>by
  rw[List.drop_succ_cons,z4v r F,show(F+1)*2=F*2+1+1 by omega]
  rfl
theorem z4w:∀(l:List Pt) (F:Nat),z3k (l.take F)=(z3k l).take (F*2)
 |l,0=>by simp[z3k]
 |[],F+1=>by simp[z3k]
 |a::r,F+1=>by
  rw[List.take_succ_cons,show(F+1)*2=F*2+1+1 by omega]
  show St (numS a.x)::St (numS a.y)::z3k (r.take F)=_
  rw[z4w r F]
  rfl
theorem z4a:∀(l:List Pt),∀u∈z3k l,u.oneCell'=true
 |[],u,h=>by simp[z3k] at h
 |a::r,u,h=>by
  rcases List.mem_cons.1 h with rfl|h
  ·rfl
  ·rcases List.mem_cons.1 h with rfl|h
   ·rfl
   ·exact z4a r u h
def catY (x:List Pt) (F:Nat):Nat->List Pt
 |0=>[]
 |1=>x.drop F
 |_=>x.drop F++x.take F
theorem z5h (b g off c F N:Nat) (x:List Pt) (hN:N<=4096) (h0:F<N) (w:zA)
 (GR:Hid (∀W:zA,zC zF 150 #[.slice none 0 0,.int .i64 (N:Int)] W λe w'=>∃v,e=.returned v/\w'.ownsRow W.heap.size 25 2 v 0 []/\zB W.heap.size W w'))
 (hx:x.length=N) (HX:Hid (∀W:zA,zB w.heap.size w W->∀j u,(z3k x)[j]? =some u->W.cell? ⟨g,off+j,none⟩=some u))
 (HA:Hid (w.heap[b]? =some (.cells #[.slice (some ⟨g,off+F*2,none⟩) (N-F) (c-F),.slice (some ⟨g,off,none⟩) F c] 22 (0,0)))):
 zC zF 93 #[.slice (some ⟨b,0,none⟩) 2 2] w λe w'=>∃v,e=.returned v/\w'.ownsRow w.heap.size 25 2 v N (z3k (x.drop F++x.take F))/\zB w.heap.size w w':=by
 have a0:w.cell? ⟨b,0,none⟩=some (.slice (some ⟨g,off+F*2,none⟩) (N-F) (c-F)):=by have:=HA.out;simp[World.cell?,this]
 have a1:w.cell? ⟨b,1,none⟩=some (.slice (some ⟨g,off,none⟩) F c):=by have:=HA.out;simp[World.cell?,this]
 have hw0:IntKind.i64.wrap (0+((N-F:Nat):Int))=((N-F:Nat):Int):=by rw[zI _ ⟨by omega,by omega⟩];omega
 have hw1:IntKind.i64.wrap (((N-F:Nat):Int)+(F:Int))=(N:Int):=by rw[zI _ ⟨by omega,by omega⟩];omega
 have hn0:¬((N-F:Nat):Int)<0:=by omega
 have hn1:¬(N:Int)<0:=by omega
 go_enter Tryz.func93,Tryz.ntmps93
 go_wp2_with fail
 go_loopw [11,3] (λi z wr=>∃(k:Nat),k<=2/\i=.int .i64 (k:Int)/\z=.int .i64 (if k=0 then 0 else if k=1 then((N-F:Nat):Int) else(N:Int))/\Hid (wr=w))
  (λi _ _=>2-(zL i).toNat)
 case atStart=>exact⟨0,zR _,rfl,rfl,hid rfl⟩
 case round=>
  obtain⟨k,hk,rfl,rfl,hB⟩:=hrel
  obtain rfl:=hB.out.symm
  clear hB
  match k,hk with
  |0,_=>
   go_wp2_with fail
   go_roundw
   case rel=>exact⟨1,by omega,by go_num,by simp,hid trivial⟩
   case measure=>simp[zL]
  |1,_=>
   go_wp2_with fail
   go_roundw
   case rel=>exact⟨2,by omega,by go_num,by simp,hid trivial⟩
   case measure=>simp[zL]
  |2,_=>
   go_wp2_with fail
   refine(GR.out w).mono ?_
   rintro e w1 ⟨v,rfl,hown,hb1⟩
   obtain⟨q0,c0,rfl⟩:=z3z hown
   have HO1:=hid hown;have HB1:=hid hb1
   clear hown hb1 GR hw0 hw1 hn0 hn1
   have hdl:(x.drop F).length=N-F:=by rw[List.length_drop,hx]
   have htl:(x.take F).length=F:=by rw[List.length_take,hx];omega
   have HX0:=hid (⟨hx,hdl,htl⟩:_/\_/\_)
   clear hx hdl htl
   go_wp2_with fail
   go_loopw [27,6] (λi v wr=>∃(k:Nat) (q:Option Addr) (c':Nat),k<=2/\i=.int .i64 (k:Int)/\v=.slice q (catY x F k).length c'/\Hid (zB w.heap.size w wr)/\Hid (wr.ownsRow w.heap.size 25 2 (.slice q (catY x F k).length c') (catY x F k).length (z3k (catY x F k))))
    (λi _ _=>2-(zL i).toNat)
   case atStart=>exact⟨0,q0,c0,zR _,rfl,rfl,HB1,HO1⟩
   case round=>
    obtain⟨k,q,c',hk,rfl,rfl,hB,hO⟩:=hrel
    clear a0 a1
    have a0:wr.cell? ⟨b,0,none⟩=some (.slice (some ⟨g,off+F*2,none⟩) (N-F) (c-F)):=by have:=(hB.out.block _ (Array.getElem?_eq_some_iff.1 HA.out).1).trans HA.out;simp[World.cell?,this]
    have a1:wr.cell? ⟨b,1,none⟩=some (.slice (some ⟨g,off,none⟩) F c):=by have:=(hB.out.block _ (Array.getElem?_eq_some_iff.1 HA.out).1).trans HA.out;simp[World.cell?,this]
    obtain⟨i0,hi,hz0,hz1,hz2⟩:=info_parts z4u
    have HD:=hid (⟨hi,hz0,hz1,hz2⟩:_/\_/\_/\_)
    clear hi hz0 hz1 hz2
    have HN0:=hid (show ∀j u,(z3k (x.drop F))[j]? =some u->wr.cell? ((⟨g,off+F*2,none⟩:Addr).add j)=some u from λj u hu=>by
     rw[z4v,List.getElem?_drop] at hu
     have ea:(⟨g,off+F*2,none⟩:Addr).add j=⟨g,off+F*2+j,none⟩:=by unfold Addr.add;split<;>simp_all
     rw[ea]
     rw[Nat.add_assoc]
     exact HX.out wr hB.out _ _ hu)
    have HN1:=hid (show ∀j u,(z3k (x.take F))[j]? =some u->wr.cell? ((⟨g,off,none⟩:Addr).add j)=some u from λj u hu=>by
     rw[z4w,List.getElem?_take] at hu
     have ea:(⟨g,off,none⟩:Addr).add j=⟨g,off+j,none⟩:=by unfold Addr.add;split<;>simp_all
     rw[ea]
     split at hu
     ·exact HX.out wr hB.out _ _ hu
     ·cases hu)
    have HL:=hid (show(catY x F k).length<=4096 by
     obtain⟨e1,e2,e3⟩:=HX0.out
     match k,hk with
     |0,_=>exact zR _
     |1,_=>show(x.drop F).length<=4096;omega
     |2,_=>show(x.drop F++x.take F).length<=4096;rw[zU];omega)
    match k,hk with
    |0,_=>
     go_wp2_with (at_builtin;refine wpList_append_own_at _ rfl _ _ 22 rfl w.heap.size 25 i0 (.agg #[St [],St []]) 2 32 Tryz.underlying22 HD.out.1 HD.out.2.1 HD.out.2.2.1 HD.out.2.2.2 rfl (by decide) (.slice q (catY x F 0).length c') (catY x F 0).length (z3k (catY x F 0)) rfl hO.out ⟨g,off+F*2,none⟩ (N-F) (c-F) (z3k (x.drop F)) rfl (by rw[z3v,HX0.out.2.1]) HN0.out (z4a _) (by have:=HL.out;unfold maxLen;omega) (by have:=HL.out;omega) hB.out.size ?_)
     intro v' w2 hown' hgrow hnil hat
     obtain⟨q',c2,rfl⟩:=z3z hown'
     have HB2:=hid (hB.out.grown hgrow hB.out.size (λg e=>(hO.out.lt g e).1))
     have HO2:=hid (show w2.ownsRow w.heap.size 25 2 (.slice q' (catY x F 1).length c2) (catY x F 1).length (z3k (catY x F 1)) by
      have e:catY x F 1=catY x F 0++(x.drop F):=(List.nil_append _).symm
      rw[e,zU,HX0.out.2.1,z39];exact hown')
     have HE:=hid (show(catY x F 0).length+(N-F)=(catY x F 1).length by
      have e:catY x F 1=catY x F 0++(x.drop F):=(List.nil_append _).symm
      rw[e,zU,HX0.out.2.1])
     clear hown' hgrow hnil hat
     go_wp2_with fail
     go_roundw
     case rel=>exact⟨1,q',c2,by omega,by go_num,by rw[<-HE.out],HB2,HO2⟩
     case measure=>simp[zL]
    |1,_=>
     go_wp2_with (at_builtin;refine wpList_append_own_at _ rfl _ _ 22 rfl w.heap.size 25 i0 (.agg #[St [],St []]) 2 32 Tryz.underlying22 HD.out.1 HD.out.2.1 HD.out.2.2.1 HD.out.2.2.2 rfl (by decide) (.slice q (catY x F 1).length c') (catY x F 1).length (z3k (catY x F 1)) rfl hO.out ⟨g,off,none⟩ F c (z3k (x.take F)) rfl (by rw[z3v,HX0.out.2.2]) HN1.out (z4a _) (by have:=HL.out;unfold maxLen;omega) (by have:=HL.out;omega) hB.out.size ?_)
     intro v' w2 hown' hgrow hnil hat
     obtain⟨q',c2,rfl⟩:=z3z hown'
     have HB2:=hid (hB.out.grown hgrow hB.out.size (λg e=>(hO.out.lt g e).1))
     have HO2:=hid (show w2.ownsRow w.heap.size 25 2 (.slice q' (catY x F 2).length c2) (catY x F 2).length (z3k (catY x F 2)) by
      have e:catY x F 2=catY x F 1++(x.take F):=rfl
      rw[e,zU,HX0.out.2.2,z39];exact hown')
     have HE:=hid (show(catY x F 1).length+F=(catY x F 2).length by
      have e:catY x F 2=catY x F 1++(x.take F):=rfl
      rw[e,zU,HX0.out.2.2])
     clear hown' hgrow hnil hat
     go_wp2_with fail
     go_roundw
     case rel=>exact⟨2,q',c2,by omega,by go_num,by rw[<-HE.out],HB2,HO2⟩
     case measure=>simp[zL]
    |2,_=>
     have HE:=hid (show(catY x F 2).length=N by
      obtain⟨e1,e2,e3⟩:=HX0.out
      show(x.drop F++x.take F).length=N;rw[zU];omega)
     go_wp2_with fail
     go_ret
     refine⟨_,rfl,?_,hB.out⟩
     have:=hO.out
     rw[HE.out] at this
     rw[HE.out]
     exact this
theorem z52:∀(y:List Pt) (i:Nat) (p:Pt),z3k (y.set i p)=((z3k y).set (i*2) (St (numS p.x))).set (i*2+1) (St (numS p.y))
 |[],i,p=>by simp[z3k]
 |a::r,0,p=>rfl
 |a::r,i+1,p=>by
  rw[List.set_cons_succ,show(i+1)*2=i*2+1+1 by omega]
  show St (numS a.x)::St (numS a.y)::z3k (r.set i p)=_
  rw[z52 r i p]
  rfl
theorem z6l {W:zA} {B g N c:Nat} {y:List Pt} (h:W.ownsRow B 25 2 (.slice (some ⟨g,0,none⟩) N c) N (z3k y)) (i:Nat) (p:Pt):
 ((W.setCell ⟨g,i*2,none⟩ (St (numS p.x))).setCell ⟨g,i*2+1,none⟩ (St (numS p.y))).ownsRow B 25 2 (.slice (some ⟨g,0,none⟩) N c) N (z3k (y.set i p)):=by
 obtain⟨hl,ho⟩:=h
 rcases ho with⟨e,_⟩|⟨g',cap,cur,e,hb,hg,h1,h2,h3,h4⟩
 ·cases e
 ·cases e
  refine⟨by rw[z3v,List.length_set,<-z3v];exact hl,.inr ⟨g,c,_,rfl,hb,zK (zK hg _) _,h1,h2,by simpa using h3,?_⟩⟩
  rw[z52,<-h4]
  simp[List.take_set]
theorem z5t {W:zA} {B g N c:Nat} {xs:List Value} (h:W.ownsRow B 25 2 (.slice (some ⟨g,0,none⟩) N c) N xs) (i:Nat):W.frozen? ⟨g,i,none⟩=false:=by
 rcases h.2 with⟨e,_⟩|⟨g',cap,cur,e,hb,hg,_⟩
 ·cases e
 ·cases e;simp[World.frozen?,hg]
theorem z45 {W:zA} {B g N c:Nat} {xs:List Value} (h:W.ownsRow B 25 2 (.slice (some ⟨g,0,none⟩) N c) N xs):B<=g:=by
 rcases h.2 with⟨e,_⟩|⟨g',cap,cur,e,hb,hg,_⟩
 ·cases e
 ·cases e;exact hb
theorem z47 {W:zA} {B g N c:Nat} {y:List Pt} (h:W.ownsRow B 25 2 (.slice (some ⟨g,0,none⟩) N c) N (z3k y)) (hy:y.length=N) {i:Nat} (hi:i<N):W.cell? ⟨g,i*2,none⟩=some (St (numS (cor y i).x))/\W.cell? ⟨g,i*2+1,none⟩=some (St (numS (cor y i).y)):=by
 obtain⟨g',c',e,_,hc⟩:=z30 h (by omega)
 cases e
 obtain⟨h1,h2⟩:=z5o y i (by omega)
 exact⟨hc _ _ h1,hc _ _ h2⟩
def revK (x y:List Pt) (k:Nat):Prop:=y.length=x.length/\∀t,t<x.length->cor y t=if t<k\/x.length-1<t+k then cor x (x.length-1-t) else cor x t
theorem z6m {y:List Pt} {i t:Nat} {p:Pt} (ht:t<y.length):cor (y.set i p) t=if i=t then p else cor y t:=by
 rw[z3r (by simpa using ht),z3r ht,List.getElem_set]
theorem z7a {x y:List Pt} {k:Nat} (h:revK x y k) (hk:2*k+1<x.length):revK x ((y.set k (cor y (x.length-1-k))).set (x.length-1-k) (cor y k)) (k+1):=by
 obtain⟨hl,h⟩:=h
 refine⟨by simp[hl],λt ht=>?_⟩
 have e1:cor y (x.length-1-k)=cor x (x.length-1-k):=by rw[h _ (by omega),if_neg (by omega)]
 have e2:cor y k=cor x k:=by rw[h _ (by omega),if_neg (by omega)]
 rw[z6m (by simp[hl];omega),z6m (by omega),e1,e2]
 by_cases c1:x.length-1-k=t
 ·rw[if_pos c1,if_pos (by omega)];congr 1;omega
 ·rw[if_neg c1]
  by_cases c2:k=t
  ·rw[if_pos c2,if_pos (by omega),c2]
  ·rw[if_neg c2,h t ht]
   by_cases c3:t<k\/x.length-1<t+k
   ·rw[if_pos c3,if_pos (by omega)]
   ·rw[if_neg c3,if_neg (by omega)]
theorem z7y {x y:List Pt} {k:Nat} (h:revK x y k) (hk:x.length<=2*k+1):y=x.reverse:=by
 obtain⟨hl,h⟩:=h
 refine z6k (by simp[hl]) λt ht=>?_
 rw[hl] at ht
 rw[h t ht,z4i x ht]
 by_cases c:t<k\/x.length-1<t+k
 ·rw[if_pos c]
 ·rw[if_neg c];congr 1;omega
def revY (y:List Pt) (k j:Nat) (f:Nat->Bool):List Pt:=if f 15=true then(y.set k (cor y j)).set j (cor y k) else if f 13=true then y.set k (cor y j) else y
structure RevS (w:zA) (B g N c:Nat) (y:List Pt) (k j:Nat) (q:Nat) (f:Nat->Bool) (W:zA):Prop where
 bel:zB B w W
 own:W.ownsRow B 25 2 (.slice (some ⟨g,0,none⟩) N c) N (z3k (revY y k j f))
theorem RevS.congr {w W:zA} {B g N c:Nat} {y:List Pt} {k j q:Nat} {f f':Nat->Bool} (h:RevS w B g N c y k j q f W) (e13:f' 13=f 13) (e15:f' 15=f 15):RevS w B g N c y k j q f' W:=
 ⟨h.bel,by have:=h.own;unfold revY at this⊢;rw[e13,e15];exact this⟩
def revV (g N c k j:Nat) (xi yi xj yj:List UInt8) (_:Nat) (i:Nat):Value:=
 ([.slice (some ⟨g,0,none⟩) N c,.int .i64 (k:Int),.slice (some ⟨g,0,none⟩) N c,.int .i64 (j:Int),.slice (some ⟨g,0,none⟩) N c,.int .i64 (j:Int),.pointer (some ⟨g,j*2,none⟩),.agg #[St xj,St yj],.slice (some ⟨g,0,none⟩) N c,.int .i64 (k:Int),.pointer (some ⟨g,k*2,none⟩),.agg #[St xi,St yi],.pointer (some ⟨g,k*2,none⟩),undef,.pointer (some ⟨g,j*2,none⟩),undef]:List Value).getD i undef
theorem z48 (B g c N:Nat) (x:List Pt) (hx:x.length=N) (h0:0<N) (hN:N<=4096) (w:zA)
 (HO:Hid (w.ownsRow B 25 2 (.slice (some ⟨g,0,none⟩) N c) N (z3k x))):
 zC zF 92 #[.slice (some ⟨g,0,none⟩) N c] w λe w'=>e=.returned (.tuple #[])/\w'.ownsRow B 25 2 (.slice (some ⟨g,0,none⟩) N c) N (z3k x.reverse)/\zB B w w':=by
 have HG:=hid (z45 HO.out)
 have hw0:IntKind.i64.wrap ((N:Int)-1)=((N-1:Nat):Int):=by rw[zI _ ⟨by omega,by omega⟩];omega
 have HXN:=hid hx;clear hx
 go_enter Tryz.func92,Tryz.ntmps92
 go_wp2_with fail
 go_loopw [2,3] (λi j wr=>∃(k:Nat) (y:List Pt),2*k<=N/\i=.int .i64 (k:Int)/\j=.int .i64 ((N-1-k:Nat):Int)/\Hid (revK x y k)/\Hid (zB B w wr)/\Hid (wr.ownsRow B 25 2 (.slice (some ⟨g,0,none⟩) N c) N (z3k y)))
  (λi _ _=>N-(zL i).toNat)
 case atStart=>exact⟨0,x,by omega,rfl,rfl,⟨rfl,λt ht=>by rw[if_neg (by omega)]⟩,zM _ _,HO⟩
 case round=>
  obtain⟨k,y,hk,rfl,rfl,hR,hB,hO⟩:=hrel
  clear hw0
  by_cases hlt:2*k+1<N
  ·obtain⟨j,hj⟩:∃j,j=N-1-k:=⟨_,rfl⟩
   have hR2:=hid (z7a hR.out (by rw[HXN.out];exact hlt))
   have hyl:=hid (hR.out.1.trans HXN.out)
   rw[HXN.out] at hR2
   rw[<-hj] at hR2⊢
   have hkj:(k:Int)<(j:Int):=by omega
   have hkN:k<N:=by omega
   have hjN:j<N:=by omega
   have hw1:IntKind.i64.wrap ((k:Int)+1)=((k+1:Nat):Int):=by rw[zI _ ⟨by omega,by omega⟩];omega
   have hw2:IntKind.i64.wrap ((j:Int)-1)=((N-1-(k+1):Nat):Int):=by rw[zI _ ⟨by omega,by omega⟩];omega
   have HJ:=hid (⟨hj,hlt⟩:_/\_)
   clear hj hlt hR
   obtain⟨xi,hxi⟩:∃xi,numS (cor y k).x=xi:=⟨_,rfl⟩
   obtain⟨yi,hyi⟩:∃yi,numS (cor y k).y=yi:=⟨_,rfl⟩
   obtain⟨xj,hxj⟩:∃xj,numS (cor y j).x=xj:=⟨_,rfl⟩
   obtain⟨yj,hyj⟩:∃yj,numS (cor y j).y=yj:=⟨_,rfl⟩
   have HV:=hid (⟨hxi,hyi,hxj,hyj⟩:_/\_/\_/\_)
   clear hxi hyi hxj hyj
   go_wp2_with fail
   refine zc4 (revV g N c k j xi yi xj yj) (RevS w B g N c y k j) (by kernel_rfl) (by kernel_rfl) 0 ⟨hB.out.drew,hO.out⟩ λq=>?_
   refine zag (.slice (some ⟨g,0,none⟩) N c) (by rfl) (by rfl) (λf W' h=>h.congr rfl rfl) (λf W' hf h=>by go_simp) ?_
   try simp only[zzQ]
   refine zag (.int .i64 (k:Int)) (by rfl) (by rfl) (λf W' h=>h.congr rfl rfl) (λf W' hf h=>by go_simp) ?_
   try simp only[zzQ]
   refine zag (.slice (some ⟨g,0,none⟩) N c) (by rfl) (by rfl) (λf W' h=>h.congr rfl rfl) (λf W' hf h=>by go_simp) ?_
   try simp only[zzQ]
   refine zag (.int .i64 (j:Int)) (by rfl) (by rfl) (λf W' h=>h.congr rfl rfl) (λf W' hf h=>by go_simp) ?_
   try simp only[zzQ]
   refine zag (.slice (some ⟨g,0,none⟩) N c) (by rfl) (by rfl) (λf W' h=>h.congr rfl rfl) (λf W' hf h=>by go_simp) ?_
   try simp only[zzQ]
   refine zag (.int .i64 (j:Int)) (by rfl) (by rfl) (λf W' h=>h.congr rfl rfl) (λf W' hf h=>by go_simp) ?_
   try simp only[zzQ]
   refine zag (.pointer (some ⟨g,j*2,none⟩)) (by rfl) (by rfl) (λf W' h=>h.congr rfl rfl) (λf W' hf h=>by go_simp) ?_
   try simp only[zzQ]
   refine zag (.agg #[St xj,St yj]) (by rfl) (by rfl) (λf W' h=>h.congr rfl rfl) (λf W' hf h=>by
    have h13:=hf.no (j:=13) hf.self (by kernel_rfl)
    have h15:=hf.no (j:=15) hf.self (by kernel_rfl)
    have ho:=h.own
    rw[show revY y k j f=y by unfold revY;rw[h13,h15];rfl] at ho
    obtain⟨c0,c1⟩:=z47 ho hyl.out hjN
    obtain⟨v1,v2,v3,v4⟩:=HV.out
    rw[v3] at c0;rw[v4] at c1
    go_simp) ?_
   try simp only[zzQ]
   refine zag (.slice (some ⟨g,0,none⟩) N c) (by rfl) (by rfl) (λf W' h=>h.congr rfl rfl) (λf W' hf h=>by go_simp) ?_
   try simp only[zzQ]
   refine zag (.int .i64 (k:Int)) (by rfl) (by rfl) (λf W' h=>h.congr rfl rfl) (λf W' hf h=>by go_simp) ?_
   try simp only[zzQ]
   refine zag (.pointer (some ⟨g,k*2,none⟩)) (by rfl) (by rfl) (λf W' h=>h.congr rfl rfl) (λf W' hf h=>by go_simp) ?_
   try simp only[zzQ]
   refine zag (.agg #[St xi,St yi]) (by rfl) (by rfl) (λf W' h=>h.congr rfl rfl) (λf W' hf h=>by
    have h13:=hf.no (j:=13) hf.self (by kernel_rfl)
    have h15:=hf.no (j:=15) hf.self (by kernel_rfl)
    have ho:=h.own
    rw[show revY y k j f=y by unfold revY;rw[h13,h15];rfl] at ho
    obtain⟨c0,c1⟩:=z47 ho hyl.out hkN
    obtain⟨v1,v2,v3,v4⟩:=HV.out
    rw[v1] at c0;rw[v2] at c1
    go_simp) ?_
   try simp only[zzQ]
   refine zag (.pointer (some ⟨g,k*2,none⟩)) (by rfl) (by rfl) (λf W' h=>h.congr rfl rfl) (λf W' hf h=>by go_simp) ?_
   try simp only[zzQ]
   refine zbv undef (by rfl) (by rfl) (λf W' hf h C' hC'=>by
    have h13:=hf.self
    have h15:=hf.no (j:=15) hf.self (by kernel_rfl)
    have ho:=h.own
    rw[show revY y k j f=y by unfold revY;simp[h13,h15]] at ho
    obtain⟨c0,c1⟩:=z47 ho (by have:=hyl.out;simp[this]) hkN
    have z0:=z5t ho (k*2);have z1:=z5t ho (k*2+1)
    have hp:=z6l ho k (cor y j)
    obtain⟨v1,v2,v3,v4⟩:=HV.out
    rw[v3,v4] at hp
    have hB':=z45 ho
    have hc:=hC' _ (⟨(h.bel.setCell (by simp;omega) _).setCell (by simp;omega) _,(by unfold revY;simp[h15];exact hp)⟩:RevS w B g N c y k j q (λi=>if 13=i then true else f i) ((W'.setCell ⟨g,k*2,none⟩ (St xj)).setCell ⟨g,k*2+1,none⟩ (St yj)))
    clear ho hp h
    go_simp
    exact hc) ?_
   try simp only[zzQ]
   refine zag (.pointer (some ⟨g,j*2,none⟩)) (by rfl) (by rfl) (λf W' h=>h.congr rfl rfl) (λf W' hf h=>by go_simp) ?_
   try simp only[zzQ]
   refine zbv undef (by rfl) (by rfl) (λf W' hf h C' hC'=>by
    have h13:=hf.done 13 (by kernel_rfl)
    have h15:=hf.self
    have ho:=h.own
    rw[show revY y k j f=y.set k (cor y j) by unfold revY;simp[h13,h15]] at ho
    obtain⟨c0,c1⟩:=z47 ho (by have:=hyl.out;simp[this]) hjN
    have z0:=z5t ho (j*2);have z1:=z5t ho (j*2+1)
    have hp:=z6l ho j (cor y k)
    obtain⟨v1,v2,v3,v4⟩:=HV.out
    rw[v1,v2] at hp
    have hB':=z45 ho
    have hc:=hC' _ (⟨(h.bel.setCell (by simp;omega) _).setCell (by simp;omega) _,(by unfold revY;simp[];exact hp)⟩:RevS w B g N c y k j q (λi=>if 15=i then true else f i) ((W'.setCell ⟨g,j*2,none⟩ (St xi)).setCell ⟨g,j*2+1,none⟩ (St yi)))
    clear ho hp h
    go_simp
    exact hc) ?_
   try simp only[zzQ]
   refine ze1 λf W5 hf h=>?_
   have HF:=hid h
   have HL:=hid (show revY y k j f=(y.set k (cor y j)).set j (cor y k) from if_pos (hf 15 (by decide)))
   clear h hf
   go_wp2_with fail
   go_roundw
   case rel=>exact⟨k+1,(y.set k (cor y j)).set j (cor y k),by have:=HJ.out.2;omega,by first|go_num|rfl,by first|go_num|rfl,hR2,HF.out.bel,by rw[<-HL.out];exact HF.out.own⟩
   case measure=>simp[zL];omega
  ·have hkj:¬(k:Int)<((N-1-k:Nat):Int):=by omega
   have HE:=hid (z7y hR.out (by rw[HXN.out];omega))
   clear hlt hR
   go_wp2_with fail
   go_end0
   exact⟨rfl,by rw[<-HE.out];exact hO.out,hB.out⟩
theorem z4h (o:List Pt) (h:0<o.length):(z31 o).length=o.length:=by
 obtain⟨h1,_⟩:=z4f h o.length (zN _)
 unfold z31
 generalize z3l o o.length=f at*
 split
 ·simp;omega
 ·simp;omega
theorem z5f (l:List Pt):(z3n l).length<=l.length:=(z5m l).length_le
theorem z8e {l:List Pt} {k:Nat} (hz:∀p∈l,szP p k) (h0:0<(z3n l).length) (i:Nat):szP (cor (z3n l) i) k:=by
 rw[<-zt4,z3r (zP _ h0)]
 exact hz _ ((z5m l).subset (List.getElem_mem _))
theorem z49 {l:List Pt} {k:Nat} (hz:∀p∈l,szP p k) (h0:0<l.length) (i:Nat):szP (cor l i) k:=by
 rw[<-zt4,z3r (zP _ h0)]
 exact hz _ (List.getElem_mem _)
theorem z4j {p:Option Addr} {l:List Pt} {W:zA} (h:RowPts p l W) (h0:0<l.length):∃b off,p=some ⟨b,off,none⟩/\∀W':zA,zB W.heap.size W W'->∀k,W'.cell? ⟨b,off+k%l.length*2,none⟩=some (St (numS (cor l k).x))/\W'.cell? ⟨b,off+k%l.length*2+1,none⟩=some (St (numS (cor l k).y)):=by
 obtain⟨b,off,e,_⟩:=h 0 h0
 refine⟨b,off,e,λW' hb k=>?_⟩
 obtain⟨b',off',e',h1,h2⟩:=(h.keep (zac hb)) (k%l.length) (zP _ h0)
 rw[e] at e'
 cases e'
 rw[zj4 l _ (zP _ h0),zt4] at h1 h2
 exact⟨h1,h2⟩
theorem z5a {W:zA} {B B':Nat} {e:TypeId} {s:Nat} {v:Value} {n:Nat} {xs:List Value} (h:W.ownsRow B e s v n xs) (hb:B'<=B):W.ownsRow B' e s v n xs:=by
 refine⟨h.1,?_⟩
 rcases h.2 with h|⟨g,cap,cur,e,h1,h2⟩
 ·exact .inl h
 ·exact .inr ⟨g,cap,cur,e,by omega,h2⟩
theorem z4k (p:Option Addr) (cap:Nat) (l:List Pt) (h3:3<=l.length) (hlen:l.length<=4096) (hz:∀q∈l,szP q 36) (hp:z3q l) (w:zA) (hw:Wd w) (hr:RowPts p l w):
 zC zF 41 #[.slice p l.length cap] w λe w'=>∃v,e=.returned v/\w'.ownsRow w.heap.size 25 2 v (z3p l).length (z3k (z3p l))/\zB w.heap.size w w':=by
 have h0:0<(z3n l).length:=List.length_pos_iff.2 (zkl h3 hp)
 have hk:=z5f l
 have hks:=z8e hz h0
 have hcs:=z49 hz (by omega)
 obtain⟨b,off,rfl,hc⟩:=z4j hr (by omega)
 have e:(z3p l).length=(z3n l).length:=z4h _ h0
 rw[e]
 refine z5w b off cap l.length (z3n l) h0 (by omega) w (hid hw)
  (hid (z6b b off cap l h3 hlen (hid λk W hW=>z8d l k hcs W hW) w (hid hw) (hid hc)))
  (hid λi j W hW=>zmy _ _ 36 36 (by omega) (by omega) (by omega) (hks i) (hks j) W hW)
  (hid λg c W ho=>z48 w.heap.size g c (z3n l).length (z3n l) rfl h0 (by omega) W (hid ho))
  (hid λg c F b' x hx hF W hs ho ha=>?_)
  (hid λi j k W hW=>zjg _ _ _ 36 (by omega) (by omega) (hks i) (hks j) (hks k) W hW)
 refine(z5h b' g 0 c F (z3n l).length x (by omega) hF W (hid λW'=>z50 _ (by omega) (by omega) W') hx (hid λW' hb j u hu=>?_) (hid (by simpa using ha))).mono ?_
 ·obtain⟨g',c',e',_,hcc⟩:=z30 ho h0
  cases e'
  rw[Nat.zero_add]
  exact(zac hb).cell (hcc j u hu)
 ·rintro e w' ⟨v,rfl,h1,h2⟩
  exact⟨v,rfl,z5a h1 hs,h2⟩
theorem z60 (p1:Option Addr) (cap1 n1:Nat) (x:List Pt) (w:zA)
 (C1:Hid (∀W:zA,zB w.heap.size w W->qJ 18 #[.slice p1 n1 cap1] W (.int .i64 0)))
 (K1:Hid (∀W:zA,zB w.heap.size w W->zC zF 41 #[.slice p1 n1 cap1] W λe w'=>∃v,e=.returned v/\w'.ownsRow W.heap.size 25 2 v x.length (z3k x)/\zB W.heap.size W w')):
 zC zF 15 #[.slice p1 n1 cap1] w λe w'=>∃v,e=.returned (.tuple #[v,.int .i64 0])/\w'.ownsRow w.heap.size 25 2 v x.length (z3k x)/\zB w.heap.size w w':=by
 go_enter Tryz.func15,Tryz.ntmps15
 go_wp2_with fail
 refine(C1.out w (zM _ _)).mono ?_
 rintro e w1 ⟨rfl,hb1⟩
 have HB1:=hid hb1;clear hb1 C1
 go_wp2_with fail
 refine(K1.out w1 HB1.out).mono ?_
 rintro e w2 ⟨v1,rfl,ho1,hb2⟩
 obtain⟨q,c,rfl⟩:=z3z ho1
 have HO:=hid (z5a ho1 HB1.out.size)
 have HB2:=qT HB1 hb2;clear hb2 HB1 K1 ho1
 generalize hn:x.length=n at*
 have HN:=hid hn;clear hn
 go_wp2_with fail
 go_ret2
 exact⟨_,rfl,by rw[HN.out];exact HO.out,HB2.out⟩
theorem z5b (p1:Option Addr) (cap1:Nat) (q1:List Pt) (h1:3<=q1.length) (l1:q1.length<=4096) (z1:∀q∈q1,szP q 36) (y1:z3q q1) (w:zA) (hw:Wd w) (r1:RowPts p1 q1 w):
 zC zF 15 #[.slice p1 q1.length cap1] w λe w'=>∃v,e=.returned (.tuple #[v,.int .i64 0])/\w'.ownsRow w.heap.size 25 2 v (z3p q1).length (z3k (z3p q1))/\zB w.heap.size w w':=
 z60 p1 cap1 q1.length (z3p q1) w
  (hid λW hb=>zj5 p1 cap1 q1 h1 l1 (z49 z1 (by omega)) y1.1 y1.2 W (hw.below hb) (r1.keep (zac hb)))
  (hid λW hb=>z4k p1 cap1 q1 h1 l1 z1 y1 W (hw.below hb) (r1.keep (zac hb)))
theorem ybi (x1 y1 x2 y2 x3 y3 x4 y4:List UInt8) (r:Int)
 (C1:Hid (qK 31 #[.agg #[St x1,St y1]] (.int .i64 0)))
 (C2:Hid (qK 31 #[.agg #[St x2,St y2]] (.int .i64 0)))
 (C3:Hid (qK 31 #[.agg #[St x3,St y3]] (.int .i64 0)))
 (C4:Hid (qK 31 #[.agg #[St x4,St y4]] (.int .i64 0)))
 (M:Hid (qK 33 #[.agg #[St x1,St y1,St x2,St y2],.agg #[St x3,St y3,St x4,St y4]] (.int .i64 r)))
 (w:zA) (HW:Hid (Wd w)):
 qJ 12 #[.agg #[St x1,St y1],.agg #[St x2,St y2],.agg #[St x3,St y3],.agg #[St x4,St y4]] w (.tuple #[.int .i64 r,.int .i64 0]):=by
 have hinit:=FourS.start w x1 y1 x2 y2 x3 y3 x4 y4
 obtain⟨i1,i2,i3,i4,i5,i6,i7,i8⟩:=hinit.cells
 obtain⟨W1,hW1⟩:∃W1,W1=(((w.alloc (.cells #[St x1,St y1] 25)).alloc (.cells #[St x2,St y2] 25)).alloc (.cells #[St x3,St y3] 25)).alloc (.cells #[St x4,St y4] 25):=⟨_,rfl⟩
 rw[<-hW1] at hinit
 have HI:=hid hinit;clear hinit
 have HW1:=hid hW1;clear hW1
 have x0:∀w:zA,(Instr.index 69 (.agg #[St x1,St y1,St x2,St y2,St x3,St y3,St x4,St y4]) (.int .i64 0)).run zF w=.ok (.agg #[St x1,St y1]) w:=λ_=>by kernel_rfl
 have x1':∀w:zA,(Instr.index 69 (.agg #[St x1,St y1,St x2,St y2,St x3,St y3,St x4,St y4]) (.int .i64 1)).run zF w=.ok (.agg #[St x2,St y2]) w:=λ_=>by kernel_rfl
 have x2':∀w:zA,(Instr.index 69 (.agg #[St x1,St y1,St x2,St y2,St x3,St y3,St x4,St y4]) (.int .i64 2)).run zF w=.ok (.agg #[St x3,St y3]) w:=λ_=>by kernel_rfl
 have x3':∀w:zA,(Instr.index 69 (.agg #[St x1,St y1,St x2,St y2,St x3,St y3,St x4,St y4]) (.int .i64 3)).run zF w=.ok (.agg #[St x4,St y4]) w:=λ_=>by kernel_rfl
 go_enter Tryz.func12,Tryz.ntmps12
 go_wp2_with fail
 rw[<-HW1.out]
 clear i1 i2 i3 i4 i5 i6 i7 i8
 refine wp_loop_rounds 5 ?_
 rw[rounds_succ]
 go_wp2_with fail
 have b1:zB W1.heap.size W1 (W1.alloc (.cells #[St x1,St y1] 25)):=(zM _ W1).alloc (zN _) _
 refine(C1.out _ (HW.out.below (HI.out.next b1).bel)).mono ?_
 rintro e V1 ⟨rfl,c1⟩
 have K1:=hid ((HI.out.next b1).next c1);clear HI b1 c1
 go_wp2_with fail
 rw[rounds_succ]
 go_wp2_with fail
 have b2:zB V1.heap.size V1 (V1.alloc (.cells #[St x2,St y2] 25)):=(zM _ V1).alloc (zN _) _
 refine(C2.out _ (HW.out.below (K1.out.next b2).bel)).mono ?_
 rintro e V2 ⟨rfl,c2⟩
 have K2:=hid ((K1.out.next b2).next c2);clear K1 b2 c2
 go_wp2_with fail
 rw[rounds_succ]
 go_wp2_with fail
 have b3:zB V2.heap.size V2 (V2.alloc (.cells #[St x3,St y3] 25)):=(zM _ V2).alloc (zN _) _
 refine(C3.out _ (HW.out.below (K2.out.next b3).bel)).mono ?_
 rintro e V3 ⟨rfl,c3⟩
 have K3:=hid ((K2.out.next b3).next c3);clear K2 b3 c3
 go_wp2_with fail
 rw[rounds_succ]
 go_wp2_with fail
 have b4:zB V3.heap.size V3 (V3.alloc (.cells #[St x4,St y4] 25)):=(zM _ V3).alloc (zN _) _
 refine(C4.out _ (HW.out.below (K3.out.next b4).bel)).mono ?_
 rintro e V4 ⟨rfl,c4⟩
 have K4:=hid ((K3.out.next b4).next c4);clear K3 b4 c4
 go_wp2_with fail
 rw[rounds_succ]
 obtain⟨i1,i2,i3,i4,i5,i6,i7,i8⟩:=K4.out.cells
 change V4.cell? ⟨w.heap.size+1+1,0,none⟩=_ at i5
 change V4.cell? ⟨w.heap.size+1+1,1,none⟩=_ at i6
 change V4.cell? ⟨w.heap.size+1+1+1,0,none⟩=_ at i7
 change V4.cell? ⟨w.heap.size+1+1+1,1,none⟩=_ at i8
 have hB:=K4.out.bel
 go_wp2_with fail
 refine(M.out _ (HW.out.below hB)).mono ?_
 rintro e V5 ⟨rfl,c5⟩
 have hB5:=hB.trans (c5.mono hB.size)
 clear i1 i2 i3 i4 i5 i6 i7 i8 K4 c5 hB
 go_wp2_with fail
 go_ret2
 exact⟨rfl,hB5⟩
theorem z0s (a b c d:Pt) (ha:szP a 36) (hb:szP b 36) (hc:szP c 36) (hd:szP d 36) (w:zA) (hw:Wd w):
 qJ 12 #[ptV a,ptV b,ptV c,ptV d] w (.tuple #[.int .i64 (meet a b c d),.int .i64 0]):=
 ybi _ _ _ _ _ _ _ _ _ (hid λW hW=>zdi a ha W hW) (hid λW hW=>zdi b hb W hW) (hid λW hW=>zdi c hc W hW) (hid λW hW=>zdi d hd W hW)
  (hid λW hW=>zol a b c d 36 (by omega) (by omega) ha hb hc hd W hW) w (hid hw)
structure CnQ (b off cap n m:Nat) (l:List (List UInt8×List UInt8)) (c:List Pt) (sa sc:ByteArray) (ng:Bool) (cx cy:Nat->Int):Prop where
 C1:Hid (∀W:zA,Wd W->RowTx (some ⟨b,off,none⟩) l W->zC zF 15 #[.slice (some ⟨b,off,none⟩) n cap] W λe w'=>∃v,e=.returned (.tuple #[v,.int .i64 0])/\w'.ownsRow W.heap.size 25 2 v m (z3k c)/\zB W.heap.size W w')
 C2:Hid (∀g k,∀W:zA,Wd W->RowPts (some ⟨g,0,none⟩) c W->zC zF 15 #[.slice (some ⟨g,0,none⟩) m k] W λe w'=>∃v,e=.returned (.tuple #[v,.int .i64 0])/\w'.ownsRow W.heap.size 25 2 v m (z3k c)/\zB W.heap.size W w')
 A1:Hid (∀W:zA,Wd W->RowTx (some ⟨b,off,none⟩) l W->qJ 16 #[.slice (some ⟨b,off,none⟩) n cap] W (.tuple #[.string sa,.int .i64 0]))
 A2:Hid (∀g k,∀W:zA,Wd W->RowPts (some ⟨g,0,none⟩) c W->qJ 16 #[.slice (some ⟨g,0,none⟩) m k] W (.tuple #[.string sc,.int .i64 0]))
 CH:Hid (∀g k,∀W:zA,Wd W->RowPts (some ⟨g,0,none⟩) c W->qJ 18 #[.slice (some ⟨g,0,none⟩) m k] W (.int .i64 0))
 SG:Hid (∀k,qK 12 #[.agg #[St (numS (cor c (k+m-1)).x),St (numS (cor c (k+m-1)).y)],.agg #[St (numS (cor c (k+1)).x),St (numS (cor c (k+1)).y)],.agg #[St (numS (cor c k).x),St (numS (cor c k).y)],.agg #[St (numS (cor c k).x),St (numS (cor c k).y)]] (.tuple #[.int .i64 0,.int .i64 0]))
 CN:Hid (∀k,k<m->∀W:zA,Wd W->RowTx (some ⟨b,off,none⟩) l W->qJ 19 #[.slice (some ⟨b,off,none⟩) n cap,.agg #[St (numS (cor c k).x),St (numS (cor c k).y)]] W (.bool true))
 CX:Hid (∀k,qK 20 #[St (numS (cor c 0).x),St (numS (cor c k).x)] (.tuple #[.int .i64 (cx k),.int .i64 0]))
 CY:Hid (∀k,qK 20 #[St (numS (cor c 0).y),St (numS (cor c k).y)] (.tuple #[.int .i64 (cy k),.int .i64 0]))
 FR:Hid (∀k,k<m->cx k<=0/\(cx k=0->0<k->cy k<0))
 NN:Hid (m=c.length/\3<=m/\m<=10)
 T1:Hid (((sa.size:Int)==0)=false/\((sc.size:Int)==0)=false/\0<(sa.size:Int)/\0<(sc.size:Int))
 T2:Hid (∀h:0<sc.size,(((sc[0]'h).toNat:Int)==45)=false)
 T3:Hid (∀h:0<sa.size,(((sa[0]'h).toNat:Int)==45)=ng)
 T4:Hid (ng=true->1<=(sa.size:Int)/\sa.extract 1 sa.size=sc)
 T5:Hid (ng=false->sa=sc)
theorem yb8 (p:Option Addr) (cap n:Nat) (l:List (List UInt8×List UInt8)) (G:Prop)
 (FI:Hid (∀W:zA,Wd W->RowTx p l W->zC zF 14 #[.slice p n cap] W (OnlyP W G)))
 (w:zA) (HW:Hid (Wd w)) (HP:Hid (RowTx p l w)) (AW:Hid (∀W:zA,zB w.heap.size w W->qJ 7 #[] W (.bool true)))
 (GD:Hid (G->∃b off m c sa sc ng cx cy,p=some ⟨b,off,none⟩/\CnQ b off cap n m l c sa sc ng cx cy)):
 qJ 4 #[.slice p n cap] w (.bool true):=by
 have HFI:=hid (FI.out w HW.out HP.out)
 clear FI
 go_enter Tryz.func4,Tryz.ntmps4
 go_wp2_with fail
 refine HFI.out.mono ?_
 rintro e w2 ⟨t,rfl,ht,hB⟩
 have HB2:=hid hB
 have HT:=hid ht
 clear ht hB HFI
 cases t
 case false=>
  go_wp2_with fail
  refine(AW.out w2 HB2.out).mono ?_
  rintro e w3 ⟨rfl,hb3⟩
  have HB3:=qT HB2 hb3
  clear hb3
  go_wp2_with fail
  go_ret
  exact⟨rfl,HB3.out⟩
 case true=>
  obtain⟨b,off,m,c,sa,sc,ng,cx,cy,rfl,C1,C2,A1,A2,CH,SG,CN,CX,CY,FR,NN,T1,T2,T3,T4,T5⟩:=GD.out (HT.out (by trivial))
  clear GD HT
  obtain⟨hmc,hm3,hm10⟩:=NN.out
  have HMC:=hid hmc
  clear hmc NN
  have HC1:=hid (C1.out w2 (HW.out.below HB2.out) (HP.out.keep (zac HB2.out)))
  clear C1
  go_wp2_with fail
  refine HC1.out.mono ?_
  rintro e w3 ⟨v,rfl,ho,hb⟩
  obtain⟨g,k1,rfl,hr,hc⟩:=z98 HMC.out ho (by omega)
  have HB3:=qT HB2 hb
  have HR3:=hid (⟨hr,λW h=>hc W h⟩:_/\∀W':zA,zB w3.heap.size w3 W'->_)
  have HC2:=hid (C2.out g k1 w3 (HW.out.below HB3.out) hr)
  clear hb hc ho hr HC1 HB2 C2
  go_wp2_with fail
  refine HC2.out.mono ?_
  rintro e w4 ⟨v,rfl,ho,hb⟩
  obtain⟨g2,k2,rfl,_,hc⟩:=z98 HMC.out ho (by omega)
  have HB4:=qT HB3 hb
  have HR4:=hid (⟨HR3.out.1.keep (zac hb),λW h=>HR3.out.2 W (hb.trans (h.mono hb.size)),λW h=>hc W h⟩:_/\(∀W':zA,zB w4.heap.size w4 W'->_)/\∀W':zA,zB w4.heap.size w4 W'->_)
  have HA1:=hid (A1.out w4 (HW.out.below HB4.out) (HP.out.keep (zac HB4.out)))
  clear hb hc ho HC2 HB3 HR3 A1
  go_wp2_with fail
  refine HA1.out.mono ?_
  rintro e w5 ⟨rfl,hb⟩
  have HB5:=qT HB4 hb
  have HR5:=hid (⟨HR4.out.1.keep (zac hb),λW h=>HR4.out.2.1 W (hb.trans (h.mono hb.size)),λW h=>HR4.out.2.2 W (hb.trans (h.mono hb.size))⟩:_/\(∀W':zA,zB w5.heap.size w5 W'->_)/\∀W':zA,zB w5.heap.size w5 W'->_)
  have HA2:=hid (A2.out g k1 w5 (HW.out.below HB5.out) HR5.out.1)
  clear hb HA1 HB4 HR4 A2
  go_wp2_with fail
  refine HA2.out.mono ?_
  rintro e w6 ⟨rfl,hb⟩
  have HB6:=qT HB5 hb
  have HE:=hid (ydb g k1 g2 k2 m c HMC.out (by omega) (by omega) w6 (λW h=>HR5.out.2.1 W (hb.trans (h.mono hb.size))) (λW h=>HR5.out.2.2 W (hb.trans (h.mono hb.size))))
  have HR6:=hid (⟨HR5.out.1.keep (zac hb),λW h=>HR5.out.2.1 W (hb.trans (h.mono hb.size))⟩:_/\(∀W':zA,zB w6.heap.size w6 W'->_))
  clear hb HA2 HB5 HR5
  go_wp2_with fail
  refine HE.out.mono ?_
  rintro e w7 ⟨rfl,hb⟩
  have HB7:=qT HB6 hb
  have HR7:=hid (⟨HR6.out.1.keep (zac hb),λW h=>HR6.out.2 W (hb.trans (h.mono hb.size))⟩:_/\(∀W':zA,zB w7.heap.size w7 W'->_))
  have HCH:=hid (CH.out g k1 w7 (HW.out.below HB7.out) HR7.out.1)
  clear hb HE HB6 HR6 CH
  go_wp2_with fail
  refine HCH.out.mono ?_
  rintro e w8 ⟨rfl,hb⟩
  have HB8:=qT HB7 hb
  have HC8:=hid (λW h=>HR7.out.2 W (hb.trans (h.mono hb.size)):∀W':zA,zB w8.heap.size w8 W'->_)
  clear hb HCH HB7 HR7
  obtain⟨t1,t2,t3,t4⟩:=T1.out
  have t5:=T2.out;have t6:=T3.out
  have h45:ng=true\/ng=false:=by cases ng<;>simp
  rcases h45 with rfl|rfl
  case' inl=>
   obtain⟨t7,t8⟩:=T4.out rfl
   go_wp2_with fail
   clear t7 t8
  case' inr=>
   have t7:=(T5.out rfl).symm
   go_wp2_with fail
   subst t7
  all_goals
   clear t1 t2 t3 t4 t5 t6 T1 T2 T3 T4 T5
   go_loopw [91] (λi wr=>∃(k:Nat),k<=m/\i=.int .i64 (k:Int)/\Hid (zB w8.heap.size w8 wr))
    (λi _=>m-(zL i).toNat)
   case atStart=>exact⟨0,zR _,rfl,zM _ _⟩
   case round=>
    obtain⟨k,hk,rfl,hB⟩:=hrel
    by_cases hlt:k<m
    ·have hcs:=HC8.out
     have HCj:=hid λW h=>hcs W h k
     have HC0:=hid λW h=>hcs W h 0
     have HCp:=hid λW h=>hcs W h (k+m-1)
     have HCn:=hid λW h=>hcs W h (k+1)
     rw[Nat.mod_eq_of_lt hlt] at HCj
     rw[Nat.zero_mod] at HC0
     have hsg:=SG.out k;have hcn:=CN.out k hlt;have hcx:=CX.out k;have hcy:=CY.out k
     obtain⟨f1,f2⟩:=FR.out k hlt
     have ht:=z5z (k:=k) (n:=m) (by omega)
     have ht2:=z44 k m
     have hm0:¬m=0:=by omega
     have hw1:IntKind.i64.wrap ((k:Int)+m)=(k:Int)+m:=zI _ ⟨by omega,by omega⟩
     have hw2:IntKind.i64.wrap ((k:Int)+m-1)=(k:Int)+m-1:=zI _ ⟨by omega,by omega⟩
     have hw3:IntKind.i64.wrap ((k:Int)+1)=(k:Int)+1:=zI _ ⟨by omega,by omega⟩
     have hk1:(k+m-1)%m<m:=zP _ (by omega)
     have hk2:(k+1)%m<m:=zP _ (by omega)
     generalize (k+m-1)%m=i' at*
     generalize (k+1)%m=k' at*
     have HF:=hid (⟨f1,f2⟩:cx k<=0/\(cx k=0->0<k->cy k<0))
     clear hcs f1 f2
     generalize cx k=a1 at*
     generalize cy k=a2 at*
     have HSG:=hid hsg;have HCN:=hid hcn;have HCX:=hid hcx;have HCY:=hid hcy
     clear hsg hcn hcx hcy
     generalize numS (cor c k).x=xj at HCj HSG HCN HCX
     generalize numS (cor c k).y=yj at HCj HSG HCN HCY
     generalize numS (cor c 0).x=x0 at HC0 HCX
     generalize numS (cor c 0).y=y0 at HC0 HCY
     generalize numS (cor c (k+m-1)).x=xi at HCp HSG
     generalize numS (cor c (k+m-1)).y=yi at HCp HSG
     generalize numS (cor c (k+1)).x=xk at HCn HSG
     generalize numS (cor c (k+1)).y=yk at HCn HSG
     obtain⟨c0,c1⟩:=HCj.out wr hB.out
     have HS:Hid (BoxS w8 wr.heap.size xj yj (wr.alloc (.cells #[St xj,St yj] 25))):=hid (by
      have hal:zB wr.heap.size wr (wr.alloc (.cells #[St xj,St yj] 25)):=(zM _ wr).alloc (zN _) _
      exact⟨hB.out.trans (hal.mono hB.out.size),zG _ _⟩)
     go_wp2_with fail
     clear hB c0 c1
     obtain⟨W1,hW1⟩:∃W1,W1=wr.alloc (.cells #[St xj,St yj] 25):=⟨_,rfl⟩
     rw[<-hW1] at HS
     try rw[show wr.alloc (.cells #[.string ⟨xj.toArray⟩,.string ⟨yj.toArray⟩] 25)=W1 from hW1.symm]
     clear hW1
     generalize wr.heap.size=A at*
     refine zbl (λ_ W=>BoxS w8 A xj yj W) (by kernel_rfl) (by kernel_rfl) (HS.out.next (zM _ _).drew) ?_
     refine qR (.slice (some ⟨g,0,none⟩) m k1) ?_;try simp only[zzQ]
     refine qR (.int .i64 (k:Int)) ?_;try simp only[zzQ]
     refine qR (.int .i64 (m:Int)) ?_;try simp only[zzQ]
     refine qR (.int .i64 ((k:Int)+m)) ?_;try simp only[zzQ]
     refine qR (.int .i64 ((k:Int)+m-1)) ?_;try simp only[zzQ]
     refine qR (.int .i64 (m:Int)) ?_;try simp only[zzQ]
     refine qR (.int .i64 (i':Int)) ?_;try simp only[zzQ]
     refine qR (.pointer (some ⟨g,i'*2,none⟩)) ?_;try simp only[zzQ]
     refine qR (.agg #[St xi,St yi]) ?_ (hy:=λf W' hf h=>by obtain⟨c0,c1⟩:=HCp.out _ h.bel;go_simp);try simp only[zzQ]
     refine qR (.slice (some ⟨g,0,none⟩) m k1) ?_;try simp only[zzQ]
     refine qR (.int .i64 (k:Int)) ?_;try simp only[zzQ]
     refine qR (.int .i64 ((k:Int)+1)) ?_;try simp only[zzQ]
     refine qR (.int .i64 (m:Int)) ?_;try simp only[zzQ]
     refine qR (.int .i64 (k':Int)) ?_;try simp only[zzQ]
     refine qR (.pointer (some ⟨g,k'*2,none⟩)) ?_;try simp only[zzQ]
     refine qR (.agg #[St xk,St yk]) ?_ (hy:=λf W' hf h=>by obtain⟨c0,c1⟩:=HCn.out _ h.bel;go_simp);try simp only[zzQ]
     refine qR (.agg #[St xj,St yj]) ?_ (hy:=λf W' hf h=>by obtain⟨c0,c1⟩:=h.cx;go_simp);try simp only[zzQ]
     refine qR (.agg #[St xj,St yj]) ?_ (hy:=λf W' hf h=>by obtain⟨c0,c1⟩:=h.cx;go_simp);try simp only[zzQ]
     refine zar (.tuple #[.int .i64 0,.int .i64 0]) (by rfl) (λf W' hf h C' hC'=>by
      go_simp
      refine(HSG.out _ (HW.out.below (HB8.out.trans (h.bel.mono HB8.out.size)))).mono ?_
      rintro e w' ⟨rfl,hb⟩
      exact⟨rfl,hC' _ (h.next hb)⟩) ?_
     try simp only[zzQ]
     refine qR (.tuple #[.int .i64 0,.int .i64 0]) ?_;try simp only[zzQ]
     refine qR (.int .i64 0) ?_;try simp only[zzQ]
     refine qR (.int .i64 0) ?_;try simp only[zzQ]
     refine qR (.int .i64 0) ?_;try simp only[zzQ]
     refine qR (.int .i64 0) ?_;try simp only[zzQ]
     refine zck λf W5 hf h5=>?_
     have HS5:=hid h5
     clear hf h5 HS HCp HCn HSG
     obtain⟨c0,c1⟩:=HS5.out.cx
     have HCC:=hid (HCN.out W5 (HW.out.below (HB8.out.trans (HS5.out.bel.mono HB8.out.size))) (HP.out.keep (zac (HB8.out.trans (HS5.out.bel.mono HB8.out.size)))))
     clear HCN
     go_wp2_with fail
     refine HCC.out.mono ?_
     rintro e w9 ⟨rfl,hb9⟩
     have HS9:=hid (HS5.out.next hb9)
     clear hb9 HS5 HCC c0 c1
     go_wp2_with fail
     refine zbl (λ_ W=>BoxS w8 A xj yj W) (by kernel_rfl) (by kernel_rfl) (HS9.out.next (zM _ _).drew) ?_
     refine qR (.slice (some ⟨g,0,none⟩) m k1) ?_;try simp only[zzQ]
     refine qR (.pointer (some ⟨g,0,none⟩)) ?_;try simp only[zzQ]
     refine qR (.pointer (some ⟨g,0,none⟩)) ?_;try simp only[zzQ]
     refine qR (St x0) ?_ (hy:=λf W' hf h=>by obtain⟨c0,c1⟩:=HC0.out _ h.bel;go_simp);try simp only[zzQ]
     refine qR (.pointer (some ⟨A,0,none⟩)) ?_;try simp only[zzQ]
     refine qR (St xj) ?_ (hy:=λf W' hf h=>by obtain⟨c0,c1⟩:=h.cx;go_simp);try simp only[zzQ]
     refine zar (.tuple #[.int .i64 a1,.int .i64 0]) (by rfl) (λf W' hf h C' hC'=>by
      go_simp
      refine(HCX.out _ (HW.out.below (HB8.out.trans (h.bel.mono HB8.out.size)))).mono ?_
      rintro e w' ⟨rfl,hb⟩
      exact⟨rfl,hC' _ (h.next hb)⟩) ?_
     try simp only[zzQ]
     refine qR (.tuple #[.int .i64 a1,.int .i64 0]) ?_;try simp only[zzQ]
     refine qR (.int .i64 a1) ?_;try simp only[zzQ]
     refine qR (.int .i64 0) ?_;try simp only[zzQ]
     refine qR (.int .i64 a1) ?_;try simp only[zzQ]
     refine qR (.int .i64 0) ?_;try simp only[zzQ]
     refine zck λf W10 hf h5=>?_
     have HS10:=hid h5
     clear hf h5 HS9 HCX
     go_wp2_with fail
     refine zbl (λ_ W=>BoxS w8 A xj yj W) (by kernel_rfl) (by kernel_rfl) (HS10.out.next (zM _ _).drew) ?_
     refine qR (.slice (some ⟨g,0,none⟩) m k1) ?_;try simp only[zzQ]
     refine qR (.pointer (some ⟨g,0,none⟩)) ?_;try simp only[zzQ]
     refine qR (.pointer (some ⟨g,1,none⟩)) ?_;try simp only[zzQ]
     refine qR (St y0) ?_ (hy:=λf W' hf h=>by obtain⟨c0,c1⟩:=HC0.out _ h.bel;go_simp);try simp only[zzQ]
     refine qR (.pointer (some ⟨A,1,none⟩)) ?_;try simp only[zzQ]
     refine qR (St yj) ?_ (hy:=λf W' hf h=>by obtain⟨c0,c1⟩:=h.cx;go_simp);try simp only[zzQ]
     refine zar (.tuple #[.int .i64 a2,.int .i64 0]) (by rfl) (λf W' hf h C' hC'=>by
      go_simp
      refine(HCY.out _ (HW.out.below (HB8.out.trans (h.bel.mono HB8.out.size)))).mono ?_
      rintro e w' ⟨rfl,hb⟩
      exact⟨rfl,hC' _ (h.next hb)⟩) ?_
     try simp only[zzQ]
     refine qR (.tuple #[.int .i64 a2,.int .i64 0]) ?_;try simp only[zzQ]
     refine qR (.int .i64 a2) ?_;try simp only[zzQ]
     refine qR (.int .i64 0) ?_;try simp only[zzQ]
     refine qR (.int .i64 a2) ?_;try simp only[zzQ]
     refine qR (.int .i64 0) ?_;try simp only[zzQ]
     refine zck λf W11 hf h5=>?_
     have HS11:=hid h5
     clear hf h5 HS10 HCY
     have hway:(decide (0<a1)=false/\(a1==0)=false)\/(a1=0/\¬0<k)\/(a1=0/\0<k/\¬0<=a2):=by
      obtain⟨f1,f2⟩:=HF.out
      by_cases h:a1=0
      ·by_cases h2:0<k
       ·exact .inr (.inr ⟨h,h2,by have:=f2 h h2;omega⟩)
       ·exact .inr (.inl ⟨h,h2⟩)
      ·exact .inl ⟨decide_eq_false (by omega),beq_eq_false_iff_ne.2 h⟩
     rcases hway with⟨h1,h2⟩|⟨h1,h2⟩|⟨h1,h2,h3⟩
     ·go_wp2_with fail
      all_goals
       refine⟨⟨k+1,by omega,by go_num,hid HS11.out.bel⟩,?_⟩
       simp[zL];omega
     ·subst h1
      go_wp2_with fail
      all_goals
       refine⟨⟨k+1,by omega,by go_num,hid HS11.out.bel⟩,?_⟩
       simp[zL];omega
     ·subst h1
      go_wp2_with fail
      all_goals
       refine⟨⟨k+1,by omega,by go_num,hid HS11.out.bel⟩,?_⟩
       simp[zL];omega
    ·obtain rfl:m=k:=by omega
     have HB9:=hid (HB8.out.trans (hB.out.mono HB8.out.size))
     clear hB
     go_wp2_with fail
     refine(AW.out wr HB9.out).mono ?_
     rintro e w10 ⟨rfl,hb10⟩
     have HB10:=qT HB9 hb10
     clear hb10
     go_wp2_with fail
     go_ret
     exact⟨rfl,HB10.out⟩
end
section
open Go.RowKit Go.Shelf Lib Str Limb Geo
theorem z9c {p:Option Addr} {q:List Pt} {W:zA} (h:RowTx p (txt q) W):RowPts p q W:=λi hi=>h i (by rw[za2];exact hi)
theorem z9u (p:Option Addr) (cap:Nat) (l:List (List UInt8×List UInt8))
 (w:zA) (AW:Hid (∀W:zA,zB w.heap.size w W->qJ 7 #[] W (.bool true))) (hw:Wd w) (hp:RowTx p l w):
 qJ 4 #[.slice p l.length cap] w (.bool true):=by
 refine yb8 p cap l.length l (yc0 l) (hid λW hW hr=>yda p cap l W hW hr) w (hid hw) (hid hp) AW (hid ?_)
 rintro⟨q,rfl,hz,hP,h3,h10⟩
 have C:=yam h3 hP
 rw[za2]
 obtain⟨b,off,rfl,_⟩:=z4j (z9c hp) (by omega)
 obtain⟨c,hc⟩:∃c,c=z3p q:=⟨_,rfl⟩
 rw[<-hc] at C
 have hcz:∀p∈c,szC p:=C.short hz
 have h36:∀a∈q,szP a 36:=λa ha=>⟨(hz a ha).1.1.mono (by omega),(hz a ha).1.2.mono (by omega)⟩
 have hc36:∀a∈c,szP a 36:=λa ha=>⟨(hcz a ha).1.1.mono (by omega),(hcz a ha).1.2.mono (by omega)⟩
 have hl3:=C.len
 have cz36:∀i,szP (cor c i) 36:=z49 hc36 (by omega)
 have hc10:c.length<=10:=Nat.le_trans C.le_len h10
 obtain⟨t1,t2,t3,t4,t5⟩:=ybh C.pos C.area
 obtain⟨sa,hsa⟩:∃s:ByteArray,s=⟨(numS (zbj q/2)).toArray⟩:=⟨_,rfl⟩
 obtain⟨sc,hsc⟩:∃s:ByteArray,s=⟨(numS (zbj c/2)).toArray⟩:=⟨_,rfl⟩
 obtain⟨a0,a1⟩:=z81 _ sa hsa t5
 obtain⟨c0,c1⟩:=z81 _ sc hsc t4
 refine⟨b,off,c.length,c,sa,sc,decide ((numS (zbj q/2)).head? =some 45),λk=>cmpR (cor c 0).x (cor c k).x,λk=>cmpR (cor c 0).y (cor c k).y,rfl,?_⟩
 refine⟨hid λW hW hr=>?_,hid λg k W hW hr=>?_,hid λW hW hr=>?_,hid λg k W hW hr=>?_,hid λg k W hW hr=>?_,hid λk W hW=>?_,hid λk hk W hW hr=>?_,hid λk W hW=>?_,hid λk W hW=>?_,hid λk hk=>?_,hid ⟨rfl,hl3,hc10⟩,hid ⟨?_,?_,by omega,by omega⟩,hid λh=>?_,hid λh=>a1,hid λh=>?_,hid λh=>?_⟩
 ·rw[hc];exact z5b _ cap q h3 (by omega) h36 hP W hW (z9c hr)
 ·have:=z5b (some ⟨g,0,none⟩) k c hl3 (by omega) hc36 C.poly W hW hr
  rw[C.own] at this
  exact this
 ·rw[hsa];exact z9p _ cap q h3 h10 hz hP W hW (z9c hr)
 ·rw[hsc];exact z9p _ k c hl3 hc10 hcz C.poly W hW hr
 ·exact zj5 _ k c hl3 (by omega) cz36 C.poly.1 C.poly.2 W hW hr
 ·have:=z0s (cor c (k+c.length-1)) (cor c (k+1)) (cor c k) (cor c k) (cz36 _) (cz36 _) (cz36 _) (cz36 _) W hW
  rw[C.side k] at this
  exact this
 ·obtain⟨j,hj,e⟩:=C.at_mem hk
  refine z99 _ cap q.length j (txt q) _ _ (by omega) hj (za2 q) ?_ W hr
  rw[zj4 q j hj,e]
 ·exact zgq _ _ 36 36 (by omega) (by omega) (by omega) (cz36 _).1 (cz36 _).1 W hW
 ·exact zgq _ _ 36 36 (by omega) (by omega) (by omega) (cz36 _).2 (cz36 _).2 W hW
 ·exact C.first hk
 ·exact beq_eq_false_iff_ne.2 (by omega)
 ·exact beq_eq_false_iff_ne.2 (by omega)
 ·rw[c1];exact decide_eq_false t3
 ·obtain⟨x,r,hx⟩:=List.exists_cons_of_ne_nil t5
  have e:=t1 (of_decide_eq_true h)
  rw[hx] at e hsa
  simp only[List.tail_cons] at e
  exact⟨by omega,by rw[hsa,hsc,<-e];exact ze9 _ _⟩
 ·rw[hsa,hsc,t2 (of_decide_eq_false h)]
end
end Go.Proofs.YthfpmfdiamldoaaGreatDoor
