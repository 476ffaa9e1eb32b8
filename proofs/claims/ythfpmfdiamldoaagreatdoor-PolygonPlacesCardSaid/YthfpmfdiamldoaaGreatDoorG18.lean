/- kingpostref01.short. -/
import Derived.Test.YthfpmfdiamldoaaGreatDoorG17
set_option maxRecDepth 100000
set_option maxHeartbeats 8000000
open Go renaming World → zA, Calls → zC
open Go.Proofs.Tryz renaming prog → zF
open Go.World renaming size_alloc → zH
open Go.IntWalk renaming i64_in → zI
open Go.RowKit renaming intOf → zL
open Go.RowKit.Below renaming refl → zM, heap_setCell → yE
open Nat renaming le_refl → zN, le_trans → zO, zero_le → zR, le_of_lt → zT, mul_comm → yP
open List renaming length_map → zV
namespace Go.Proofs.YthfpmfdiamldoaaGreatDoor
section
open Go.RowKit Lib Str Limb
theorem zvf (va:Value) (a:List Nat) (d:Nat) (w:zA) (ha:Sl w va (a.map I)) (la:a.length<=1000) (sa:zal B6 a) (hd0:0<d) (hd:d<B6):
 zC zF 200 #[va,I d] w (λe w'=>∃v1 v2,e=.returned (.tuple #[v1,v2])/\Sl w' v1 ((zaa B6 (valL B6 a/d)).map I)/\Sl w' v2 ((zaa B6 (valL B6 a%d)).map I)/\Below w.heap.size w w'):=by
 obtain⟨i0,hi,hz0,hz1,hz2⟩:=info_parts zdv
 have ha':=ha
 obtain⟨pa,ca,rfl,hca,hcella⟩:=ha
 have HA:=hid ha';clear ha' hcella hca
 have SA:=hid sa;clear sa
 simp only[zV] at*
 have hd':d<1000000:=hd
 clear hd
 have hdz:¬(d:Int)=0:=by omega
 go_enter Tryz.func200,Tryz.ntmps200
 go_wp2_with (at_make;refine wpList_make_full _ rfl _ _ 107 rfl w.heap.size 3 i0 (.int .i64 0) 1 Tryz.underlying107 hi hz0 hz1 .i64 .i64 _ _ a.length rfl rfl (by omega) (by omega) (by rw[hz2];omega) (by unfold maxLen;omega) (zN _) ?_)
 intro w0 hown hgrow
 rw[toList_madeCells_one,<-show(List.replicate a.length 0).map I=List.replicate a.length (.int .i64 0) by simp] at hown
 obtain⟨hrow, -⟩:=Row.of_own hown
 have hB0:qL w w0:=(zM _ _).grown hgrow (zN _) (λ_ e=>by cases e)
 clear hown hgrow
 obtain⟨N,hN⟩:∃N,N=a.length:=⟨_,rfl⟩
 obtain⟨g,hg⟩:∃g,g=w.heap.size:=⟨_,rfl⟩
 rw[<-hg] at hrow⊢
 have HG:=hid hg;clear hg
 rw[<-hN] at hrow⊢
 have HN:=hid hN
 have hN1:N<=1000:=by omega
 clear hN la
 go_wp2
 go_loopw [7,8] (λc i wr=>∃k:Nat,k<=N/\i=.int .i64 ((N:Int)-1-k)/\c=I (za8 B6 d a k).2/\Row wr g N (za8 B6 d a k).1/\Below w.heap.size w wr)
  (λ_ i _=>(zL i+1).toNat)
 case atStart=>exact⟨0,zR _,by simp,rfl,by rw[za8,<-HN.out];exact hrow,hB0⟩
 case round=>
  clear hrow hB0
  obtain⟨k,hk,rfl,rfl,hrow,hB⟩:=hrel
  obtain⟨s1,s2,s3, -⟩:=zeo (B:=B6) hd0 SA.out k (by rw[<-HN.out];exact hk)
  by_cases hlt:k<N
  ·obtain⟨j,hj⟩:∃j,j=N-1-k:=⟨_,rfl⟩
   have hjI:(N:Int)-1-k=(j:Int):=by omega
   rw[hjI]
   have hja:j<a.length:=by rw[<-HN.out];omega
   obtain⟨ba,offa,rfl,hba,hcapa,hcx⟩:=(HA.out.below hB).at hja
   have hst:za8 B6 d a (k+1)=zdl B6 d (za8 B6 d a k) j (a[j]?.getD 0):=by rw[hj,HN.out];rfl
   have hx:=zaj SA.out (by decide) j
   have hx':a[j]?.getD 0<1000000:=hx
   have hJ:=hid hj
   have hjN:j<N:=by omega
   have hj1:j=N-1-k:=hj
   have hj2:(j:Int)-1=(N:Int)-1-((k+1:Nat):Int):=by omega
   have HJ2:=hid hj2
   have hlen:j<(za8 B6 d a k).1.length:=by rw[s1];exact hja
   have HST:=hid hst
   clear hst hx hj hj1 hj2 s1 s2 hjI
   generalize za8 B6 d a k=s at*
   obtain⟨l,r⟩:=s
   dsimp only at*
   generalize a[j]?.getD 0=x at*
   obtain⟨n,hn⟩:∃n,n=x+r*1000000:=⟨_,rfl⟩
   have hnI:(r:Int)*1000000+x=(n:Int):=by omega
   have e1:IntKind.i64.wrap ((r:Int)*1000000)=(r:Int)*1000000:=zI _ (by omega)
   have e2:IntKind.i64.wrap ((r:Int)*1000000+x)=(n:Int):=by rw[hnI];exact zI _ (by omega)
   obtain⟨q,hq⟩:∃q,q=n/d:=⟨_,rfl⟩
   obtain⟨m,hm⟩:∃m,m=n%d:=⟨_,rfl⟩
   have hq1:q<=n:=by rw[hq];exact Nat.div_le_self _ _
   have hm1:m<d:=by rw[hm];exact Nat.mod_lt _ hd0
   have hq2:q<2000000000000:=by
    have:=Nat.mul_le_mul (show r<=999999 by omega) (zN 1000000)
    omega
   have hm2:m<1000000:=by omega
   have e3:(n:Int)/(d:Int)=(q:Int):=by rw[<-Int.natCast_ediv,<-hq]
   have e4:(n:Int)%(d:Int)=(m:Int):=by rw[<-Int.natCast_emod,<-hm]
   have hcell:=hrow.cell (getD_some hlen)
   have hfz:=hrow.frozen j
   have HROW:=hid hrow
   have HQ:=hid (⟨by rw[hq,hn],by rw[hm,hn]⟩:q=(x+r*1000000)/d/\m=(x+r*1000000)%d)
   clear hrow hlen hn hnI hq hm hq1 hm1
   generalize l[j]?.getD 0=z at*
   go_wp2
   go_roundw
   case rel=>
    refine⟨k+1,by omega,by rw[<-HJ2.out],by rw[HST.out,e4];show I m=I ((x+r*B6)%d);rw[HQ.out.2];rfl,?_,?_⟩
    ·rw[HST.out]
     show Row _ g N (l.set j ((x+r*B6)/d))
     rw[show(x+r*B6)/d=q from HQ.out.1.symm]
     exact Row.set HROW.out j q
    ·exact hB.setCell (by rw[HG.out];exact zN _) _
   case measure=>simp[zL]
  ·obtain rfl:k=N:=by omega
   have hend:(k:Int)-1-k= -1:=by omega
   rw[hend]
   obtain⟨f1,f2⟩:=zjq (B:=B6) (by decide) hd0 SA.out
   rw[<-HN.out] at f1 f2 s1
   have hsl:=hrow.sl
   rw[s1] at hsl
   have hr:(za8 B6 d a k).2<1000000:=by omega
   have HF:=hid (⟨f1,f2⟩:_/\_)
   have HSL:=hid hsl
   have HS1:=hid s1
   have HROW:=hid hrow
   clear f1 f2 s1 s2 s3 hsl hrow hend
   generalize hs:za8 B6 d a k=s at*
   obtain⟨l,r⟩:=s
   dsimp only at*
   have HSS:=hid hs;clear hs
   go_wp2_with fail
   refine(zeb _ _ _ l wr HSL.out (by rw[HS1.out];omega)).mono ?_
   rintro e w1 ⟨rfl,rfl⟩
   go_wp2_with fail
   have b1:qL wr (wr.alloc (.cells #[I r] 3)):=(zM _ wr).alloc (zN _) _
   have A1:=heap_alloc_new wr (.cells #[I r] 3)
   have hs1:Sl (wr.alloc (.cells #[I r] 3)) (.slice (some ⟨wr.heap.size,0,none⟩) 1 1) ([r].map I):=by
    refine⟨_,_,rfl,zN _,λi x hx=>⟨_,_,rfl,?_⟩⟩
    match i,hx with
    |0,hx=>rw[<-hx];exact cell_of_row _ _ _ _ _ _ A1
   refine(zeb _ _ _ [r] _ hs1 (by simp)).mono ?_
   rintro e w1 ⟨rfl,hw1⟩
   have hw1':=hw1.symm;subst hw1'
   go_wp2_with fail
   go_ret2
   refine⟨_,_,rfl,?_,?_,hB.trans (b1.mono hB.size)⟩
   ·rw[<-HF.out.1]
    exact(Sl.trim_at HSL.out HS1.out).below b1
   ·rw[<-HF.out.2,<-zqr (B:=B6) (by decide) (show r<B6 from hr)]
    exact Sl.trim_at (n:=1) hs1 rfl
theorem zxi {w w':zA} {base:Nat} {t:TypeId} {s:Nat} {v:Value} {n:Nat} {xs:List Value} (h:w.ownsRow base t s v n xs) (hb:qL w w'):w'.ownsRow base t s v n xs:=by
 refine⟨h.1,?_⟩
 rcases h.2 with h|⟨g,cap,cur,e,h1,hg,r⟩
 ·exact .inl h
 ·exact .inr ⟨g,cap,cur,e,h1,(hb.block g (Array.getElem?_eq_some_iff.1 hg).1).trans hg,r⟩
theorem zzu {w:zA} {base base':Nat} {t:TypeId} {s:Nat} {v:Value} {n:Nat} {xs:List Value} (h:w.ownsRow base t s v n xs) (hb:base'<=base):w.ownsRow base' t s v n xs:=by
 refine⟨h.1,?_⟩
 rcases h.2 with h|⟨g,cap,cur,e,h1,r⟩
 ·exact .inl h
 ·exact .inr ⟨g,cap,cur,e,zO hb h1,r⟩
theorem zmh {w:zA} {base:Nat} {t:TypeId} {s:Nat} {v:Value} {n:Nat} {xs:List Value} (h:w.ownsRow base t s v n xs) {p:Addr} (hp:p.block<base) (u:Value):(w.setCell p u).ownsRow base t s v n xs:=by
 refine⟨h.1,?_⟩
 rcases h.2 with h|⟨g,cap,cur,e,h1,hg,r⟩
 ·exact .inl h
 ·exact .inr ⟨g,cap,cur,e,h1,by rw[yE _ _ _ _ (by omega)];exact hg,r⟩
theorem zzv {w:zA} {base g n c:Nat} {xs:List Value} (h:w.ownsRow base 3 1 (.slice (some ⟨g,0,none⟩) n c) n xs):∀j u,xs[j]? =some u->w.cell? ((⟨g,0,none⟩:Addr).add j)=some u:=
 h.cells (g:=g) rfl
theorem zzw (l:List Nat):∀u∈l.map I,u.oneCell'=true:=λu hu=>by
 obtain⟨x,_,rfl⟩:=List.mem_map.1 hu;rfl
theorem zvg {R x:Nat} (hx:x<B6):zat (x::zaa B6 R)=zaa B6 (x+B6*R):=by
 have hs:zal B6 (x::zaa B6 R):=λy hy=>by
  rcases List.mem_cons.1 hy with rfl|h
  ·exact hx
  ·exact zak (B:=B6) (by decide) R y h
 rw[zbu (B:=B6) (by decide) hs,valL,zam (B:=B6) (by decide)]
theorem zel {m k:Nat} (hm:m<=k):(zaa B6 m).length<=(zaa B6 k).length:=by
 rcases Nat.lt_or_ge (zaa B6 k).length (zaa B6 m).length with h'|h'
 ·have:=zc2 (B:=B6) (by decide) h';omega
 ·exact h'
theorem ztg (va vb:Value) (m n:Nat) (w:zA) (ha:Sl w va ((zaa B6 m).map I)) (hb:Sl w vb ((zaa B6 n).map I)) (la:(zaa B6 m).length<=1000) (hn:0<n) (h1:n<B6):
 zC zF 161 #[va,vb] w (λe w'=>∃v1 v2,e=.returned (.tuple #[v1,v2])/\Sl w' v1 ((zaa B6 (m/n)).map I)/\Sl w' v2 ((zaa B6 (m%n)).map I)/\Below w.heap.size w w'):=by
 have hS:=zvf va (zaa B6 m) n w ha la (zak (by decide) m) hn h1
 rw[zam (B:=B6) (by decide)] at hS
 have e1:zaa B6 n=[n]:=by
  rw[zfl (by decide) (by omega),Nat.mod_eq_of_lt h1,Nat.div_eq_of_lt h1,zaz]
 rw[e1] at hb
 obtain⟨pa,ca,rfl,hca,_⟩:=ha
 obtain⟨pb,cb,rfl,hcb,hc⟩:=hb
 obtain⟨b,off,rfl,hcell⟩:=hc 0 (I n) rfl
 rw[Nat.add_zero] at hcell
 have HS:=hid hS
 clear hS hc hca hcb e1 la
 simp only[zV,List.map_cons,List.map_nil,List.length_cons,List.length_nil] at*
 generalize (zaa B6 m).length=q at*
 go_enter Tryz.func161,Tryz.ntmps161
 go_wp2_with fail
 refine HS.out.mono ?_
 rintro e w1 ⟨v1,v2,rfl,r1,r2,hB⟩
 have HR:=hid (⟨r1,r2,hB⟩:_/\_/\_)
 clear r1 r2 hB HS
 go_wp2_with fail
 go_ret2
 exact⟨_,_,rfl,HR.out.1,HR.out.2.1,HR.out.2.2⟩
theorem zub {w:zA} {base:Nat} (x:Nat) (hb:base<=w.heap.size):(w.alloc (.cells #[I x] 3)).ownsRow base 3 1 (.slice (some ⟨w.heap.size,0,none⟩) 1 1) 1 [I x]:=
 ⟨rfl,.inr ⟨w.heap.size,1,#[I x],rfl,hb,heap_alloc_new w _,zN _,by unfold maxLen;omega,rfl,rfl⟩⟩
structure DivS (w:zA) (G N:Nat) (n R:Nat) (l:List Nat) (v:Value) (W:zA):Prop where
 bel:qL w W
 row:Row W G N l
 rem:∃g c,v=.slice (some ⟨g,0,none⟩) (zaa B6 R).length c/\W.ownsRow (G+1) 3 1 (.slice (some ⟨g,0,none⟩) (zaa B6 R).length c) (zaa B6 R).length ((zaa B6 R).map I)
 hG:G=w.heap.size
theorem DivS.next {w:zA} {G N n R R':Nat} {l:List Nat} {v:Value} {W W':zA} {e:Ending} (h:DivS w G N n R l v W) (hr:zua W (zaa B6 R') e W'):∃v',e=.returned v'/\DivS w G N n R' l v' W':=by
 obtain⟨g,c,rfl,ho,hb⟩:=hr
 have hlt:=h.row.lt
 exact⟨_,rfl,h.bel.trans (hb.mono h.bel.size),h.row.below hb hlt,⟨g,c,rfl,zzu ho hlt⟩,h.hG⟩
theorem DivS.grow {w:zA} {G N n R:Nat} {l:List Nat} {v:Value} {W W':zA} (h:DivS w G N n R l v W) (hb:qL W W'):DivS w G N n R l v W':=by
 obtain⟨g,c,rfl,ho⟩:=h.rem
 exact⟨h.bel.trans (hb.mono h.bel.size),h.row.below hb h.row.lt,⟨g,c,rfl,zxi ho hb⟩,h.hG⟩
theorem DivS.store {w:zA} {G N n R:Nat} {l:List Nat} {v:Value} {W:zA} (h:DivS w G N n R l v W) (j x:Nat):DivS w G N n R (l.set j x) v (W.setCell ⟨G,j,none⟩ (I x)):=by
 obtain⟨g,c,rfl,ho⟩:=h.rem
 exact⟨h.bel.setCell (by rw[<-h.hG];exact zN _) _,h.row.set j x,⟨g,c,rfl,zmh ho (by show G<G+1;omega) _⟩,h.hG⟩
theorem DivS.sl {w:zA} {G N n R:Nat} {l:List Nat} {v:Value} {W:zA} (h:DivS w G N n R l v W):Sl W v ((zaa B6 R).map I):=by
 obtain⟨g,c,rfl,ho⟩:=h.rem
 exact Sl.of_own ho
theorem zxj {m n:Nat} (h:m<n):ordN m n= -1:=by unfold ordN;rw[if_pos h]
theorem zxk {m n:Nat} (h:n<=m):0<=ordN m n:=by unfold ordN;rw[if_neg (by omega)];split<;>omega
theorem zrx {l:List Nat} {i:Nat} (h:i<l.length):(l.map I)[i]? =some (I (l[i]?.getD 0)):=by
 rw[List.getElem?_map,List.getElem?_eq_getElem h];rfl
theorem zry (va vb:Value) (m n nn:Nat) (w:zA) (ha:Sl w va ((zaa B6 m).map I)) (hb:Sl w vb ((zaa B6 n).map I)) (la:(zaa B6 m).length<=1000) (lb:(zaa B6 n).length<=990) (hD:(zaa B6 n).length=nn+2):
 zC zF 161 #[va,vb] w (λe w'=>∃v1 v2,e=.returned (.tuple #[v1,v2])/\Sl w' v1 ((zaa B6 (m/n)).map I)/\Sl w' v2 ((zaa B6 (m%n)).map I)/\Below w.heap.size w w'):=by
 obtain⟨i0,hi,hz0,hz1,hz2⟩:=info_parts zdv
 have hn0:0<n:=by
  rcases Nat.eq_zero_or_pos n with rfl|h
  ·rw[zaz] at hD;simp at hD
  ·exact h
 have hnB:n<B6^(nn+2):=by rw[<-hD];exact zgb (by decide) n
 have ha':=ha;have hb':=hb
 obtain⟨pa,ca,rfl,hca,_⟩:=ha
 obtain⟨pb,cb,rfl,hcb,hcb2⟩:=hb
 obtain⟨bb,offb,rfl, -⟩:=hcb2 0 _ (zrx (by omega))
 have c1:w.cell? ⟨bb,offb+(nn+1),none⟩=some (I (n/B6^(nn+1)%B6)):=by
  obtain⟨b2,o2,e2,h2⟩:=hcb2 (nn+1) _ (zrx (by omega))
  cases e2;rw[h2,zec (by decide)]
 have c0:w.cell? ⟨bb,offb+nn,none⟩=some (I (n/B6^nn%B6)):=by
  obtain⟨b2,o2,e2,h2⟩:=hcb2 nn _ (zrx (by omega))
  cases e2;rw[h2,zec (by decide)]
 have EST:=hid λR (hR:R<B6*n)=>z16 (B:=B6) (n:=nn) (V:=n) (R:=R) (by decide) hnB hn0 hR
 simp only[zV] at*
 have HA:=hid ha';clear ha' hca
 have HB:=hid hb';clear hb' hcb hcb2 hnB
 have hu1:n/B6^(nn+1)%B6<1000000:=Nat.mod_lt _ (by decide)
 have hu0:n/B6^nn%B6<1000000:=Nat.mod_lt _ (by decide)
 generalize n/B6^(nn+1)%B6=u1 at*
 generalize n/B6^nn%B6=u0 at*
 obtain⟨P,hP⟩:∃P,P=u1*1000000+u0:=⟨_,rfl⟩
 have p1:IntKind.i64.wrap ((u1:Int)*1000000)=(u1:Int)*1000000:=zI _ (by omega)
 have p2:IntKind.i64.wrap ((u1:Int)*1000000+u0)=(P:Int):=by rw[show(u1:Int)*1000000+u0=(P:Int) by omega];exact zI _ (by omega)
 have hPb:P<1000000000000:=by omega
 have HP:=hid hP;clear hP
 obtain⟨n1,hn1⟩:∃n1,n1=nn+1:=⟨_,rfl⟩
 rw[<-hn1] at c1
 obtain⟨D,hD'⟩:∃D,D=(zaa B6 n).length:=⟨_,rfl⟩
 have hDi:(D:Int)-1=(n1:Int):=by omega
 have hDj:(D:Int)-2=(nn:Int):=by omega
 have hD2:¬((D:Int)=1):=by omega
 have hDn:n1<D:=by omega
 have hDm:nn<D:=by omega
 have hD3:D<=990:=by omega
 obtain⟨N,hN⟩:∃N,N=(zaa B6 m).length:=⟨_,rfl⟩
 have hN3:N<=1000:=by omega
 rw[<-hD',<-hN]
 have HD:=hid (⟨hD',hn1,hD⟩:_/\_/\_)
 have HN:=hid hN
 have HLA:=hid la;have HLB:=hid lb
 clear hD' hD hN hn1 la lb
 go_enter Tryz.func161,Tryz.ntmps161
 go_wp2
 go_quiet (fail)
 have hBq:qL w (w.drewN nq):=zzD (zM _ w) _
 have HBQ:=hid hBq;clear hBq c0 c1
 go_wp2_with (at_make;refine wpList_make_full _ rfl _ _ 107 rfl w.heap.size 3 i0 (.int .i64 0) 1 Tryz.underlying107 hi hz0 hz1 .i64 .i64 _ _ N rfl rfl (by omega) (by omega) (by rw[hz2];omega) (by unfold maxLen;omega) (by exact HBQ.out.size) ?_)
 intro w0 hown hgrow
 rw[toList_madeCells_one,<-show(List.replicate N 0).map I=List.replicate N (.int .i64 0) by simp] at hown
 obtain⟨hrow, -⟩:=Row.of_own hown
 have hB0:qL w w0:=HBQ.out.grown hgrow (zN _) (λ_ e=>by cases e)
 clear hown hgrow HBQ
 obtain⟨G,hG⟩:∃G,G=w.heap.size:=⟨_,rfl⟩
 rw[<-hG] at hrow⊢
 have HG:=hid hG
 have hlt0:=hrow.lt
 have hD0:DivS w G N n 0 (List.replicate N 0) (.slice (some ⟨w0.heap.size,0,none⟩) 0 0) (w0.alloc (.cells #[] 3)):=by
  have b:=(zM w0.heap.size w0).alloc (zN _) (.cells #[] 3)
  refine⟨hB0.alloc hB0.size _,hrow.below b hlt0,⟨w0.heap.size,0,by rw[zaz];rfl,?_⟩,hG⟩
  rw[zaz]
  exact World.ownsRow_made w0 #[] 0 (by omega) (by unfold maxLen;omega) rfl
 have HD0:=hid hD0
 clear hD0 hrow hB0 hlt0 hG
 have SA:=hid (zak (B:=B6) (by decide) m)
 have SB:=hid (zak (B:=B6) (by decide) n)
 go_wp2
 go_loopw [9,10] (λv i wr=>∃k:Nat,k<=N/\i=.int .i64 ((N:Int)-1-k)/\DivS w G N n (za8 B6 n (zaa B6 m) k).2 (za8 B6 n (zaa B6 m) k).1 v wr)
  (λ_ i _=>(zL i+1).toNat)
 case atStart=>exact⟨0,zR _,by simp,by rw[za8,<-HN.out];exact HD0.out⟩
 case round=>
  clear HD0
  obtain⟨k,hk,rfl,hS⟩:=hrel
  obtain⟨s1,s2,s3, -⟩:=zeo (B:=B6) hn0 SA.out k (by rw[<-HN.out];exact hk)
  by_cases hlt:k<N
  ·obtain⟨j,hj⟩:∃j,j=N-1-k:=⟨_,rfl⟩
   have hjI:(N:Int)-1-k=(j:Int):=by omega
   rw[hjI]
   have hja:j<(zaa B6 m).length:=by rw[<-HN.out];omega
   obtain⟨ba,offa,rfl,hba,hcapa,hcx⟩:=(HA.out.below hS.bel).at hja
   have hst:za8 B6 n (zaa B6 m) (k+1)=zdl B6 n (za8 B6 n (zaa B6 m) k) j ((zaa B6 m)[j]?.getD 0):=by rw[hj,HN.out];rfl
   have hx:=zaj SA.out (by decide) j
   have hx':(zaa B6 m)[j]?.getD 0<1000000:=hx
   have hjN:j<N:=by omega
   have hj2:(j:Int)-1=(N:Int)-1-((k+1:Nat):Int):=by omega
   have HJ2:=hid hj2
   have HST:=hid hst
   have hlenl:(za8 B6 n (zaa B6 m) k).1.length=N:=by rw[s1,HN.out]
   clear hst hx hj hj2 s1 s2 hjI
   generalize za8 B6 n (zaa B6 m) k=s at*
   obtain⟨l,R⟩:=s
   dsimp only at*
   generalize (zaa B6 m)[j]?.getD 0=x at*
   have hmR:x+B6*R<=m\/True:=.inr trivial
   clear hmR
   obtain⟨gr,cr,rfl,hor⟩:=hS.rem
   obtain⟨R',hR'⟩:∃R',R'=x+B6*R:=⟨_,rfl⟩
   have hRn:R'<B6*n:=by
    have:=Nat.mul_le_mul_left B6 (show R+1<=n from s3)
    rw[Nat.mul_add,Nat.mul_one] at this
    have hx6:x<B6:=hx'
    omega
   have hlR:(zaa B6 R).length<=990:=zO (zel (zT s3)) HLB.out
   have hlR':(zaa B6 R').length<=1000:=by
    have h1:R'<B6^(nn+3):=by
     refine Nat.lt_of_lt_of_le hRn ?_
     have:=zgb (B:=B6) (by decide) n
     rw[HD.out.2.2] at this
     rw[show nn+3=(nn+2)+1 from rfl,Nat.pow_succ,yP]
     exact Nat.mul_le_mul_right _ (zT this)
    have h2:=zfv (B:=B6) (by decide) h1
    have:=HLB.out;have:=HD.out.2.2
    omega
   have HR':=hid (⟨hR',hRn,hlR,hlR'⟩:_/\_/\_/\_)
   have hltG:=hS.row.lt
   have hown1:=zub (w:=wr) (base:=G+1) x hltG
   have hnews:=zzv (hor.alloc (.cells #[I x] 3))
   have HS:=hid (⟨hS,hown1,hnews,hltG,hlR⟩:_/\_/\_/\_/\_)
   clear hS hown1 hnews hltG hor hR' hRn hlR' hba hcapa s3
   obtain⟨LR,hLR⟩:∃LR,LR=(zaa B6 R).length:=⟨_,rfl⟩
   rw[<-hLR] at HS⊢
   rw[<-hLR] at hlR
   have HLR:=hid hLR;clear hLR
   go_wp2_with (at_builtin;refine wpList_append_own _ rfl _ _ 107 rfl (G+1) 3 i0 (.int .i64 0) 1 8 Tryz.underlying107 hi hz0 hz1 hz2 rfl (by decide) _ _ _ rfl HS.out.2.1 ⟨gr,0,none⟩ LR cr ((zaa B6 R).map I) rfl (by rw[HLR.out];simp) HS.out.2.2.1 (zzw _) (by unfold maxLen;omega) (by omega) (by have:=HS.out.2.2.2.1;simp;omega) ?_)
   intro v' w1 hown' hgrow hnn
   obtain⟨g1,c1,rfl⟩:=zrr hown' hnn
   have hb1:qL wr w1:=((zM _ wr).alloc (zN _) _).grown hgrow (by simp) (λq e=>by cases e;exact zN _)
   have hown2:w1.ownsRow (G+1) 3 1 (.slice (some ⟨g1,0,none⟩) (1+LR) c1) (1+LR) ((x::zaa B6 R).map I):=hown'
   have T:=zeb _ _ _ (x::zaa B6 R) w1 (Sl.of_own hown2) (by have:=HLR.out;simp;omega)
   have hown3:=zh4 hown2 (by have:=HLR.out;simp;omega)
   rw[zvg (show x<B6 from hx'),<-HR'.out.1] at T hown3
   have hS1:DivS w G N n R' l (.slice (some ⟨g1,0,none⟩) (zaa B6 R').length c1) w1:=by
    have:=HS.out.1.grow hb1
    exact⟨this.bel,this.row,⟨g1,c1,rfl,hown3⟩,this.hG⟩
   have LM:=hid λi=>zgz _ (zaa B6 R') i w1 (Sl.of_own hown3) (by have:=HR'.out.2.2.2;omega)
   have hE:=EST.out R' HR'.out.2.1
   have f2:(zaa B6 R')[D]?.getD 0=R'/B6^(nn+2)%B6:=by rw[zec (by decide),HD.out.1,HD.out.2.2]
   have f1:(zaa B6 R')[n1]?.getD 0=R'/B6^(nn+1)%B6:=by rw[zec (by decide),HD.out.2.1]
   have f0:(zaa B6 R')[nn]?.getD 0=R'/B6^nn%B6:=by rw[zec (by decide)]
   rw[<-f2,<-f1,<-f0] at hE
   have g2:(zaa B6 R')[D]?.getD 0<1000000:=zaj (zak (by decide) R') (by decide) _
   have g1':(zaa B6 R')[n1]?.getD 0<1000000:=zaj (zak (by decide) R') (by decide) _
   have g0':(zaa B6 R')[nn]?.getD 0<1000000:=zaj (zak (by decide) R') (by decide) _
   have L2:=hid (LM.out D);have L1:=hid (LM.out n1);have L0:=hid (LM.out nn)
   clear hown' hown2 hown3 hgrow hnn hb1 HS f2 f1 f0 LM
   generalize (zaa B6 R')[D]?.getD 0=t2 at*
   generalize (zaa B6 R')[n1]?.getD 0=t1 at*
   generalize (zaa B6 R')[nn]?.getD 0=t0 at*
   obtain⟨X1,hX1⟩:∃X1,X1=t2*1000000+t1:=⟨_,rfl⟩
   obtain⟨X0,hX0⟩:∃X0,X0=X1*1000000+t0:=⟨_,rfl⟩
   obtain⟨P1,hP1⟩:∃P1,P1=P+1:=⟨_,rfl⟩
   obtain⟨q0,hq0⟩:∃q0,q0=X0/P1:=⟨_,rfl⟩
   have hq:q0*n<=R'/\q0<1000000:=by
    have e:((t2*B6+t1)*B6+t0)/(u1*B6+u0+1)=q0:=by rw[hq0,hX0,hX1,hP1,HP.out];rfl
    rw[e] at hE;exact hE
   have k1:IntKind.i64.wrap ((t2:Int)*1000000)=(t2:Int)*1000000:=zI _ (by omega)
   have k2:IntKind.i64.wrap ((t2:Int)*1000000+t1)=(X1:Int):=by rw[show(t2:Int)*1000000+t1=(X1:Int) by omega];exact zI _ (by omega)
   have k3:IntKind.i64.wrap ((X1:Int)*1000000)=(X1:Int)*1000000:=zI _ (by omega)
   have k4:IntKind.i64.wrap ((X1:Int)*1000000+t0)=(X0:Int):=by rw[show(X1:Int)*1000000+t0=(X0:Int) by omega];exact zI _ (by omega)
   have k5:IntKind.i64.wrap ((P:Int)+1)=(P1:Int):=by rw[show(P:Int)+1=(P1:Int) by omega];exact zI _ (by omega)
   have k6:(X0:Int)/(P1:Int)=(q0:Int):=by rw[<-Int.natCast_ediv,<-hq0]
   have k7:¬(P1:Int)=0:=by omega
   have hq2:q0<1000000:=hq.2
   have HQ:=hid hq
   have HS1:=hid hS1
   clear hE hX1 hX0 hP1 hq0 hq hS1 g1' g0'
   generalize hL':(zaa B6 R').length=L' at*
   have HL':=hid hL';clear hL'
   go_wp2_with fail
   have hTT:=T
   refine hTT.mono ?_
   rintro e w2 ⟨rfl,hw2⟩
   have hw2':=hw2.symm;subst hw2'
   clear T
   go_wp2_with fail
   refine L2.out.mono ?_
   rintro e w2 ⟨rfl,hw2⟩
   have hw2':=hw2.symm;subst hw2'
   go_wp2_with fail
   refine L1.out.mono ?_
   rintro e w2 ⟨rfl,hw2⟩
   have hw2':=hw2.symm;subst hw2'
   go_wp2_with fail
   refine L0.out.mono ?_
   rintro e w2 ⟨rfl,hw2⟩
   have hw2':=hw2.symm;subst hw2'
   clear L2 L1 L0
   go_wp2_with fail
   clear hTT k1 k2 k3 k4 k5 k6 k7 g2 hlR
   have hb3:qL w2 (w2.alloc (.cells #[I q0] 3)):=(zM _ w2).alloc (zN _) _
   have hTM:=znx _ (.slice (some ⟨w2.heap.size,0,none⟩) 1 1) (zaa B6 n) [q0] _ (HB.out.below (HS1.out.bel.trans (hb3.mono HS1.out.bel.size))) (Sl.of_own (zub (w:=w2) (base:=0) q0 (zR _))) SB.out (λy hy=>by rw[List.mem_singleton] at hy;subst hy;exact hq2) (zO HLB.out (by omega)) (by simp)
   rw[zam (B:=B6) (by decide),show valL B6 [q0]=q0 by simp[valL],<-HD.out.1] at hTM
   have HTM:=hid hTM
   have HB3:=hid hb3
   clear hTM hb3
   refine HTM.out.mono ?_
   rintro e w3 ⟨v3,rfl,own3,hb4⟩
   have hS3:=HS1.out.grow (HB3.out.trans (hb4.mono HB3.out.size))
   have hMN:=zix _ v3 (zaa B6 R') (zaa B6 (n*q0)) w3 hS3.sl (Sl.of_own own3) (zak (by decide) _) (zak (by decide) _) (by have:=HR'.out.2.2.2;rw[HL'.out];exact this) (zel (by rw[yP];exact HQ.out.1)) (by rw[zam (by decide),zam (by decide),yP];exact HQ.out.1)
   rw[zam (B:=B6) (by decide),zam (B:=B6) (by decide)] at hMN
   have HS3:=hid hS3
   have HMN:=hid hMN
   clear HTM HB3 hS3 hMN own3 hb4 HS1
   go_wp2_with fail
   refine HMN.out.mono ?_
   intro e w4 hr4
   obtain⟨v4,rfl,hS4⟩:=HS3.out.next hr4
   clear hr4 HMN HS3
   have hsum0:q0*n+(R'-n*q0)=R':=by have:=HQ.out.1;rw[yP n q0];omega
   have HINIT:=hid (⟨hS4,hsum0⟩:_/\_)
   clear hS4 hsum0
   go_wp2
   go_loopw [9,11] (λv c wr=>∃gg R2:Nat,c=.int .i64 gg/\gg*n+R2=R'/\DivS w G N n R2 l v wr)
    (λ_ c _=>R'+1-(zL c).toNat)
   case atStart=>exact⟨q0,_,rfl,HINIT.out.2,HINIT.out.1⟩
   case round=>
    clear HINIT
    obtain⟨gg,R2,rfl,hsum,hS5⟩:=hrel
    obtain⟨g5,c5,rfl,ho5⟩:=hS5.rem
    have hR2:R2<=R':=by omega
    have hl5:(zaa B6 R2).length<=1000:=zO (zel hR2) (by rw[HL'.out];exact HR'.out.2.2.2)
    have hgg:gg<=R':=by have:=Nat.mul_le_mul_left gg (show 1<=n from hn0);omega
    have hg6:gg<1000000:=by
     rcases Nat.lt_or_ge gg 1000000 with h|h
     ·exact h
     ·have h1:=Nat.mul_le_mul_right n h
      have h2:R'<B6*n:=HR'.out.2.1
      have:B6=1000000:=rfl
      rw[this] at h2;omega
    have CZ:=hid (zlc _ _ R2 n wr (Sl.of_own ho5) (HB.out.below hS5.bel) hl5 (zO HLB.out (by omega)))
    rw[<-HD.out.1] at CZ
    have HS5:=hid hS5
    have HSUM:=hid hsum
    have HGG:=hid hgg
    clear hS5 ho5 hsum hgg hR2
    generalize hL5:(zaa B6 R2).length=L5 at*
    have HL5:=hid hL5;clear hL5
    go_wp2_with fail
    refine CZ.out.mono ?_
    rintro e w6 ⟨rfl,hb6⟩
    have HS6:=hid (HS5.out.grow hb6)
    clear CZ HS5 hb6
    by_cases hlt2:R2<n
    ·rw[zxj hlt2]
     have hfin:gg=R'/n/\R2=R'%n:=by
      have hs:=HSUM.out
      constructor
      ·rw[<-hs,Nat.add_comm,Nat.add_mul_div_right _ _ hn0,Nat.div_eq_of_lt hlt2,Nat.zero_add]
      ·rw[<-hs,Nat.add_comm,Nat.add_mul_mod_self_right,Nat.mod_eq_of_lt hlt2]
     have HFIN:=hid hfin
     have hcell:=HS6.out.row.cell (getD_some (show j<l.length by omega))
     have hfz:=HS6.out.row.frozen j
     clear hfin hlt2
     generalize l[j]?.getD 0=z at*
     go_wp2
     go_roundw
     case rel=>
      refine⟨k+1,by omega,by rw[<-HJ2.out],?_⟩
      have e:za8 B6 n (zaa B6 m) (k+1)=(l.set j gg,R2):=by
       rw[HST.out]
       show(l.set j ((x+R*B6)/n),(x+R*B6)%n)=_
       rw[HFIN.out.1,HFIN.out.2,HR'.out.1,yP R B6]
      rw[e]
      have:=HS6.out.store j gg
      exact this
     case measure=>simp[zL]
    ·have h0:=zxk (show n<=R2 by omega)
     have hc2:¬ordN R2 n<0:=by omega
     have hMN:=zix _ _ (zaa B6 R2) (zaa B6 n) w6 HS6.out.sl (HB.out.below HS6.out.bel) (zak (by decide) _) SB.out (by rw[HL5.out];exact hl5) (zel (by omega)) (by rw[zam (by decide),zam (by decide)];omega)
     rw[zam (B:=B6) (by decide),zam (B:=B6) (by decide),<-HD.out.1] at hMN
     have HMN:=hid hMN
     have HGE:=hid (show n<=R2 by omega)
     clear hMN hlt2
     generalize ordN R2 n=oc at*
     go_wp2_with fail
     refine HMN.out.mono ?_
     intro e w7 hr7
     obtain⟨v7,rfl,hS7⟩:=HS6.out.next hr7
     have HS7:=hid hS7
     clear hr7 HMN hS7
     go_wp2
     go_roundw
     case rel=>exact⟨gg+1,R2-n,by go_num,by have:=HSUM.out;have:=HGE.out;rw[Nat.add_mul];omega,HS7.out⟩
     case measure=>have:=HGG.out;simp[zL];omega
  ·obtain rfl:k=N:=by omega
   have hend:(k:Int)-1-k= -1:=by omega
   rw[hend]
   obtain⟨f1,f2⟩:=zjq (B:=B6) (by decide) hn0 SA.out
   rw[<-HN.out] at f1 f2 s1
   rw[zam (B:=B6) (by decide)] at f1 f2
   have hsl:=hS.row.sl
   rw[s1] at hsl
   obtain⟨gr,cr,rfl,hor⟩:=hS.rem
   have hslr:=Sl.of_own hor
   have HF:=hid (⟨f1,f2,s1,hslr,hS.bel⟩:_/\_/\_/\_/\_)
   have HSL:=hid hsl
   clear f1 f2 s1 s2 s3 hsl hslr hS hor hend
   generalize za8 B6 n (zaa B6 m) k=s at*
   obtain⟨l,R⟩:=s
   dsimp only at*
   generalize hLR:(zaa B6 R).length=LR at*
   have HLR:=hid hLR;clear hLR
   go_wp2_with fail
   refine(zeb _ _ _ l wr HSL.out (by rw[HF.out.2.2.1];omega)).mono ?_
   rintro e w1 ⟨rfl,rfl⟩
   go_wp2_with fail
   go_ret2
   refine⟨_,_,rfl,?_,?_,HF.out.2.2.2.2⟩
   ·rw[<-HF.out.1]
    exact Sl.trim_at HSL.out HF.out.2.2.1
   ·rw[<-HF.out.2.1]
    exact HF.out.2.2.2.1
theorem zmi (va vb:Value) (m n:Nat) (w:zA) (ha:Sl w va ((zaa B6 m).map I)) (hb:Sl w vb ((zaa B6 n).map I)) (la:(zaa B6 m).length<=1000) (lb:(zaa B6 n).length<=990) (hn:0<n):
 zC zF 161 #[va,vb] w (λe w'=>∃v1 v2,e=.returned (.tuple #[v1,v2])/\Sl w' v1 ((zaa B6 (m/n)).map I)/\Sl w' v2 ((zaa B6 (m%n)).map I)/\Below w.heap.size w w'):=by
 rcases Nat.lt_or_ge n B6 with h|h
 ·exact ztg va vb m n w ha hb la hn h
 ·have h2:2<=(zaa B6 n).length:=by
   rcases Nat.lt_or_ge (zaa B6 n).length 2 with h'|h'
   ·have h1:=zgb (B:=B6) (by decide) n
    have h3:B6^(zaa B6 n).length<=B6^1:=Nat.pow_le_pow_right (by decide) (by omega)
    rw[Nat.pow_one] at h3;omega
   ·exact h'
  exact zry va vb m n ((zaa B6 n).length-2) w ha hb la lb (by omega)
end
section
open Go.RowKit Go.Shelf Lib Str Limb
attribute [local go_sem] Oper.semAt_some
theorem zzx (va vb:Value) (m n:Nat) (w:zA) (ha:Sl w va ((zaa B6 m).map I)) (hb:Sl w vb ((zaa B6 n).map I)) (la:(zaa B6 m).length<=1000) (lb:(zaa B6 n).length<=1000):
 zC zF 254 #[va,vb] w λe w'=>∃p c k,e=.returned (.slice p k c)/\Sl w' (.slice p k c) ((zaa B6 (m+n)).map I)/\Below w.heap.size w w':=by
 have h:=zxb va vb _ _ w ha hb (zak (by decide) m) (zak (by decide) n) la lb
 rw[zam (B:=B6) (by decide),zam (B:=B6) (by decide)] at h
 refine h.mono ?_
 intro e w' hr
 obtain⟨p,c,rfl,hs,hb⟩:=zny hr
 exact⟨p,c,_,rfl,hs,hb⟩
theorem zxl (m:Bool) (vx vy:Value) (nx ny:Nat) (w:zA) (hx:Sl w vx ((zaa B6 nx).map I)) (hy:Sl w vy ((zaa B6 ny).map I)) (lx:(zaa B6 nx).length<=1000) (ly:(zaa B6 ny).length<=1000):
 zC zF 194 #[.agg #[.bool m,vx],.agg #[.bool m,vy]] w (zh5 w (sgn m nx+sgn m ny)):=by
 obtain⟨px,cx,rfl, -⟩:=id hx
 obtain⟨py,cy,rfl, -⟩:=id hy
 simp only[zV] at*
 have hpl:=λW h1 h2=>zzx (.slice px (zaa B6 nx).length cx) (.slice py (zaa B6 ny).length cy) nx ny W h1 h2 lx ly
 generalize (zaa B6 nx).length=kx at*
 generalize (zaa B6 ny).length=ky at*
 have HPL:=hid hpl;clear hpl
 have HX:=hid hx;clear hx
 have HY:=hid hy;clear hy
 go_enter Tryz.func194,Tryz.ntmps194
 go_wp2
 obtain⟨W3,hW3⟩:∃W3,W3=((w.alloc (.cells #[.bool m,.slice px kx cx] 191)).alloc (.cells #[.bool m,.slice py ky cy] 191)).alloc (.cells #[.bool false,.slice none 0 0] 191):=⟨_,rfl⟩
 have hB3:qL w W3:=by rw[hW3];exact(((zM _ w).alloc (zN _) _).alloc (by simp) _).alloc (by simp;omega) _
 have b2:W3.heap[w.heap.size]? =some (.cells #[.bool m,.slice px kx cx] 191 (0,0)):=by
  rw[hW3];exact(Below.heap_alloc _ _ _ (by simp only[zH];omega)).trans ((Below.heap_alloc _ _ _ (by simp only[zH];omega)).trans (heap_alloc_new w _))
 have b3:W3.heap[w.heap.size+1]? =some (.cells #[.bool m,.slice py ky cy] 191 (0,0)):=by
  rw[hW3];refine(Below.heap_alloc _ _ _ (by simp only[zH];omega)).trans ?_
  have:=heap_alloc_new (w.alloc (.cells #[.bool m,.slice px kx cx] 191)) (.cells #[.bool m,.slice py ky cy] 191)
  rwa [zH] at this
 have b4:W3.heap[w.heap.size+1+1]? =some (.cells #[.bool false,.slice none 0 0] 191 (0,0)):=by
  rw[hW3]
  have:=heap_alloc_new ((w.alloc (.cells #[.bool m,.slice px kx cx] 191)).alloc (.cells #[.bool m,.slice py ky cy] 191)) (.cells #[.bool false,.slice none 0 0] 191)
  rwa [zH,zH] at this
 rw[<-hW3]
 clear hW3
 have c20:∀W:zA,W.heap[w.heap.size]? =W3.heap[w.heap.size]? ->W.cell? ⟨w.heap.size,0,none⟩=some (.bool m):=λW h=>by simp[World.cell?,h,b2]
 have c21:∀W:zA,W.heap[w.heap.size]? =W3.heap[w.heap.size]? ->W.cell? ⟨w.heap.size,1,none⟩=some (.slice px kx cx):=λW h=>by simp[World.cell?,h,b2]
 have c30:∀W:zA,W.heap[w.heap.size+1]? =W3.heap[w.heap.size+1]? ->W.cell? ⟨w.heap.size+1,0,none⟩=some (.bool m):=λW h=>by simp[World.cell?,h,b3]
 have c31:∀W:zA,W.heap[w.heap.size+1]? =W3.heap[w.heap.size+1]? ->W.cell? ⟨w.heap.size+1,1,none⟩=some (.slice py ky cy):=λW h=>by simp[World.cell?,h,b3]
 have C20:=hid c20;have C21:=hid c21;have C30:=hid c30;have C31:=hid c31
 clear c20 c21 c30 c31
 have L3:w.heap.size+1+1<W3.heap.size:=(Array.getElem?_eq_some_iff.1 b4).1
 have B4:=hid b4;clear b2 b3 b4
 refine zey 6 (λW=>W.cell? ⟨w.heap.size,0,none⟩=some (.bool m)/\W.cell? ⟨w.heap.size,1,none⟩=some (.slice px kx cx)/\W.cell? ⟨w.heap.size+1,0,none⟩=some (.bool m)/\W.cell? ⟨w.heap.size+1,1,none⟩=some (.slice py ky cy))
  (by kernel_rfl) (by kernel_rfl) ⟨C20.out _ rfl,C21.out _ rfl,C30.out _ rfl,C31.out _ rfl⟩ ?_
 simp only[List.take_succ_cons,List.take_zero,List.drop_succ_cons,List.drop_zero]
 repeat(apply zer (by rfl);(focus(rintro W ⟨h1,h2,h3,h4⟩;go_simp;try with_reducible rfl));try simp only[zzQ])
 refine ze6 ?_
 refine zbt (by rfl) λK hK=>?_
 go_simp
 refine(HPL.out W3.drew (HX.out.below (hB3.drew)) (HY.out.below hB3.drew)).mono ?_
 rintro e W4 ⟨p,c,k,rfl,hs,hB4⟩
 have e2:W4.heap[w.heap.size]? =W3.heap[w.heap.size]? :=hB4.block _ (by show _<W3.heap.size;omega)
 have e3:W4.heap[w.heap.size+1]? =W3.heap[w.heap.size+1]? :=hB4.block _ (by show _<W3.heap.size;omega)
 have b4:W4.heap[w.heap.size+1+1]? =some (.cells #[.bool false,.slice none 0 0] 191 (0,0)):=(hB4.block _ (by show _<W3.heap.size;omega)).trans B4.out
 have hB5:qL w W4:=hB3.drew.trans (hB4.mono (by show _<=W3.heap.size;omega))
 have hS:=And.intro (C20.out W4 e2) (And.intro (C21.out W4 e2) (And.intro (C30.out W4 e3) (C31.out W4 e3)))
 have E2:=hid e2;have E3:=hid e3;clear e2 e3 hB4
 have HS:=hid hs;clear hs
 refine hK _ _ hS ?_
 clear hK K
 try simp only[zzQ]
 refine zbt (by rfl) λK hK=>?_
 go_simp
 refine hK _ _ hS ?_
 clear hK K
 try simp only[zzQ]
 have d0:W4.cell? ⟨w.heap.size+1+1,0,none⟩=some (.bool false):=by simp[World.cell?,b4]
 have d1:W4.cell? ⟨w.heap.size+1+1,1,none⟩=some (.slice none 0 0):=by simp[World.cell?,b4]
 have f0:W4.frozen? ⟨w.heap.size+1+1,0,none⟩=false:=by simp[World.frozen?,b4]
 have f1:W4.frozen? ⟨w.heap.size+1+1,1,none⟩=false:=by simp[World.frozen?,b4]
 refine zbt (by rfl) λK hK=>?_
 go_simp
 have g2:((W4.setCell ⟨w.heap.size+1+1,0,none⟩ (.bool m)).setCell ⟨w.heap.size+1+1,1,none⟩ (.slice p k c)).heap[w.heap.size]? =W3.heap[w.heap.size]? :=
  (yE _ _ _ _ (by show w.heap.size≠w.heap.size+1+1;omega)).trans ((yE _ _ _ _ (by show w.heap.size≠w.heap.size+1+1;omega)).trans E2.out)
 have g3:((W4.setCell ⟨w.heap.size+1+1,0,none⟩ (.bool m)).setCell ⟨w.heap.size+1+1,1,none⟩ (.slice p k c)).heap[w.heap.size+1]? =W3.heap[w.heap.size+1]? :=
  (yE _ _ _ _ (by show w.heap.size+1≠w.heap.size+1+1;omega)).trans ((yE _ _ _ _ (by show w.heap.size+1≠w.heap.size+1+1;omega)).trans E3.out)
 refine hK _ _ ⟨C20.out _ g2,C21.out _ g2,C30.out _ g3,C31.out _ g3⟩ ?_
 clear hK K g2 g3
 try simp only[zzQ]
 refine ze7 ⟨rfl,?_⟩
 have hs0:=HS.out.set d0 (λx=>by simp[I]) (.bool m)
 have e1:=(World.cell?_setCell_other _ _ _ (.bool m) (show(⟨w.heap.size+1+1,0,none⟩:Addr)≠⟨w.heap.size+1+1,1,none⟩ by simp)).trans d1
 have hs1:=hs0.set e1 (λx=>by simp[I]) (.slice p k c)
 have e0:=(World.cell?_setCell_other _ _ _ (.slice p k c) (show(⟨w.heap.size+1+1,1,none⟩:Addr)≠⟨w.heap.size+1+1,0,none⟩ by simp)).trans (za9 (u:=.bool m) d0)
 have e2:=za9 (u:=.slice p k c) e1
 have hB6:=(hB5.setCell (p:=⟨w.heap.size+1+1,0,none⟩) (by show w.heap.size<=w.heap.size+1+1;omega) (.bool m)).setCell (p:=⟨w.heap.size+1+1,1,none⟩) (by show w.heap.size<=w.heap.size+1+1;omega) (.slice p k c)
 clear hs0 e1 d0 d1 f0 f1 b4 hS hB5
 have HS1:=hid hs1;clear hs1
 go_wp2
 exact bodyPost_ret (v:=.agg #[.bool m,.slice p k c]) (by simp[results,Tryz.results194,go_sem,e0,e2]) rfl ⟨m,_,_,rfl,by cases m<;>simp[sgn]<;>omega,HS1.out,hB6⟩
theorem z18 (m:Bool) (vx vy:Value) (nx ny:Nat) (hge:ny<=nx) (w:zA) (hx:Sl w vx ((zaa B6 nx).map I)) (hy:Sl w vy ((zaa B6 ny).map I)) (lx:(zaa B6 nx).length<=1000) (ly:(zaa B6 ny).length<=1000):
 zC zF 194 #[.agg #[.bool m,vx],.agg #[.bool !m,vy]] w (zh5 w (sgn m nx+sgn (!m) ny)):=by
 obtain⟨px,cx,rfl, -⟩:=id hx
 obtain⟨py,cy,rfl, -⟩:=id hy
 simp only[zV] at*
 have hpl:=λW h1 h2=>znw (.slice px (zaa B6 nx).length cx) (.slice py (zaa B6 ny).length cy) (zaa B6 nx) (zaa B6 ny) W h1 h2 (zak (by decide) _) (zak (by decide) _) lx (zel hge) (by rw[zam (by decide),zam (by decide)];exact hge)
 rw[zam (B:=B6) (by decide),zam (B:=B6) (by decide)] at hpl
 have hsz:=λW h1 h2=>zlc (.slice px (zaa B6 nx).length cx) (.slice py (zaa B6 ny).length cy) nx ny W h1 h2 lx ly
 have ho:=zxk hge
 have HZ:=hid (show sgn m (nx-ny)=sgn m nx+sgn (!m) ny by cases m<;>simp[sgn]<;>omega)
 generalize (zaa B6 nx).length=kx at*
 generalize (zaa B6 ny).length=ky at*
 have HPL:=hid hpl;clear hpl
 have HSZ:=hid hsz;clear hsz
 obtain⟨W3,hW3,hB3,hz3,b2,b3,b4⟩:=ziy w m (!m) (.slice px kx cx) (.slice py ky cy)
 have HW3:=hid hW3
 have cells:∀X:zA,qL W3 X->X.cell? ⟨w.heap.size,0,none⟩=some (.bool m)/\X.cell? ⟨w.heap.size,1,none⟩=some (.slice px kx cx)/\X.cell? ⟨w.heap.size+1,1,none⟩=some (.slice py ky cy):=λX h=>by
  have e2:=(h.block w.heap.size (by omega)).trans b2
  have e3:=(h.block (w.heap.size+1) (by omega)).trans b3
  refine⟨?_,?_,?_⟩<;>simp[World.cell?,e2,e3]
 have CL3:=hid cells
 have H3:=hid (⟨hB3,hz3,b4,hx.below hB3,hy.below hB3⟩:_/\_/\_/\_/\_)
 clear cells hB3 hz3 b2 b3 b4 hW3 lx ly hx hy
 generalize hoc:ordN nx ny=oc at*
 have hoc2:¬oc<0:=by omega
 go_enter Tryz.func194,Tryz.ntmps194
 go_wp2_with fail
 rw[<-HW3.out]
 refine(HSZ.out W3 H3.out.2.2.2.1 H3.out.2.2.2.2).mono ?_
 rintro e W4 ⟨rfl,hb4⟩
 have HA:=hid (H3.out.2.2.2.1.below hb4)
 have HB:=hid (H3.out.2.2.2.2.below hb4)
 have CL:=hid λX (h:qL W4 X)=>CL3.out X (hb4.trans (h.mono hb4.size))
 have H4:=hid (⟨H3.out.1.trans (hb4.mono (by have:=H3.out.2.1;omega)),by have:=hb4.size;have:=H3.out.2.1;omega,(hb4.block _ (by have:=H3.out.2.1;omega)).trans H3.out.2.2.1⟩:qL w W4/\w.heap.size+3<=W4.heap.size/\W4.heap[w.heap.size+1+1]? =some (.cells #[.bool false,.slice none 0 0] 191 (0,0)))
 clear hb4 HSZ HW3 CL3 H3
 go_wp2_with fail
 refine zc4 (λ(b:Nat×Value) i=>([.pointer (some ⟨w.heap.size,0,none⟩),.bool m,.pointer (some ⟨w.heap.size,1,none⟩),.slice px kx cx,.pointer (some ⟨w.heap.size+1,1,none⟩),.slice py ky cy,b.2,.agg #[.bool m,b.2],.pointer (some ⟨b.1,0,none⟩),undef]:List Value)[i]?.getD undef)
  (BigS W4 (m) (nx-ny) 6 8 9) (by kernel_rfl) (by kernel_rfl) (0,.slice none 0 0) ⟨(zM _ W4).drew,λk=>(by cases k),λk=>(by cases k),λk=>(by cases k)⟩ λb=>?_
 refine qB (.pointer (some ⟨w.heap.size,0,none⟩)) (λf W' h=>h.congr rfl rfl rfl) ?_
 simp only[zzQ]
 refine qB (.bool m) (λf W' h=>h.congr rfl rfl rfl) ?_ (hy:=λf W' hf h=>by have g:=CL.out _ h.pre;obtain⟨q0,q1,q3⟩:=g;go_simp)
 simp only[zzQ]
 refine qB (.pointer (some ⟨w.heap.size,1,none⟩)) (λf W' h=>h.congr rfl rfl rfl) ?_
 simp only[zzQ]
 refine qB (.slice px kx cx) (λf W' h=>h.congr rfl rfl rfl) ?_ (hy:=λf W' hf h=>by have g:=CL.out _ h.pre;obtain⟨q0,q1,q3⟩:=g;go_simp)
 simp only[zzQ]
 refine qB (.pointer (some ⟨w.heap.size+1,1,none⟩)) (λf W' h=>h.congr rfl rfl rfl) ?_
 simp only[zzQ]
 refine qB (.slice py ky cy) (λf W' h=>h.congr rfl rfl rfl) ?_ (hy:=λf W' hf h=>by have g:=CL.out _ h.pre;obtain⟨q0,q1,q3⟩:=g;go_simp)
 simp only[zzQ]
 refine zdc b.2 (by rfl) (by rfl) (λf W' hf h C' hC'=>by
  have h9:=hf.self
  have h12:=(hf.no (j:=9) (hf.no (j:=7) hf.self (by kernel_rfl)) (by kernel_rfl))
  go_simp
  refine(HPL.out W' (HA.out.below h.pre) (HB.out.below h.pre)).mono ?_
  intro e w' hr
  obtain⟨p,c,rfl,hs,hb⟩:=zny hr
  refine⟨_,rfl,hC' (b.1,.slice p (zaa B6 (nx-ny)).length c) w' (λi hi=>?_) (h.call h9 h12 rfl rfl rfl hb hs)⟩
  match i,hi with
  |0,_|1,_|2,_|3,_|4,_|5,_|8,_|9,_=>rfl
  |6,hi=>rw[h9] at hi;cases hi
  |7,hi=>rw[hf.no (j:=7) hf.self (by kernel_rfl)] at hi;cases hi
  |_+10,_=>rfl) ?_
 try simp only[zzQ]
 refine qB (.agg #[.bool m,b.2]) (λf W' h=>h.congr rfl rfl rfl) ?_ (hy:=λf W' hf h=>by
  obtain⟨p,c,e, -⟩:=h.cv (hf.done 6 (by kernel_rfl))
  obtain⟨b1,v⟩:=b
  dsimp only at e
  subst e
  go_simp)
 try simp only[zzQ]
 refine zdc (.pointer (some ⟨b.1,0,none⟩)) (by rfl) (by rfl) (λf W' hf h C' hC'=>by
  have h12:=(hf.no (j:=9) hf.self (by kernel_rfl))
  have:=hC' (W'.heap.size,b.2) (W'.alloc (.cells #[.bool false,.slice none 0 0] 191)) (λi hi=>?_) (h.new h12 rfl rfl)
  ·go_simp
   exact this
  ·match i,hi with
   |0,_|1,_|2,_|3,_|4,_|5,_|6,_|7,_|9,_=>rfl
   |8,hi=>rw[hf.self] at hi;cases hi
   |_+10,_=>rfl) ?_
 try simp only[zzQ]
 refine zbv undef (by rfl) (by rfl) (λf W' hf h C' hC'=>by
  have h9:=hf.done 6 (by kernel_rfl)
  have h11:=hf.done 8 (by kernel_rfl)
  have h12:=hf.self
  obtain⟨k1,k2⟩:=h.al h11
  have hx:=k2 h12
  have d0:W'.cell? ⟨b.1,0,none⟩=some (.bool false):=by simp[World.cell?,hx]
  have d1:W'.cell? ⟨b.1,1,none⟩=some (.slice none 0 0):=by simp[World.cell?,hx]
  have f0:W'.frozen? ⟨b.1,0,none⟩=false:=by simp[World.frozen?,hx]
  have f1:W'.frozen? ⟨b.1,1,none⟩=false:=by simp[World.frozen?,hx]
  have:=hC' _ (h.put h9 h11 h12 rfl)
  obtain⟨p,c,e, -⟩:=h.cv h9
  rw[e] at this⊢
  clear hC' h k2 hx e
  go_simp
  exact this) ?_
 try simp only[Act.put]
 refine ze1 λf X hf h=>?_
 obtain⟨p,c,e,hs⟩:=h.cv (hf 6 (by decide))
 have hfin:=h.fin (hf 9 (by decide))
 obtain⟨k1, -⟩:=h.al (hf 8 (by decide))
 obtain⟨b1,v⟩:=b
 dsimp only at e hfin k1 hs
 subst e
 have hres:=(h.pre.block (w.heap.size+1+1) (by have:=H4.out.2.1;omega)).trans H4.out.2.2
 have HS:=hid hs
 have HBX:=hid (H4.out.1.trans (h.pre.mono (by have:=H4.out.2.1;omega)))
 have hk:w.heap.size+1+1<b1:=by have:=H4.out.2.1;omega
 clear h hf hs k1
 have c0:X.cell? ⟨b1,0,none⟩=some (.bool m):=by simp[World.cell?,hfin]
 have c1:X.cell? ⟨b1,1,none⟩=some (.slice p (zaa B6 (nx-ny)).length c):=by simp[World.cell?,hfin]
 have f0:X.frozen? ⟨b1,0,none⟩=false:=by simp[World.frozen?,hfin]
 have r0:X.cell? ⟨w.heap.size+1+1,0,none⟩=some (.bool false):=by simp[World.cell?,hres]
 have r1:X.cell? ⟨w.heap.size+1+1,1,none⟩=some (.slice none 0 0):=by simp[World.cell?,hres]
 have fr0:X.frozen? ⟨w.heap.size+1+1,0,none⟩=false:=by simp[World.frozen?,hres]
 have fr1:X.frozen? ⟨w.heap.size+1+1,1,none⟩=false:=by simp[World.frozen?,hres]
 have hne:w.heap.size+1+1≠b1:=by omega
 have hne2:b1≠w.heap.size+1+1:=by omega
 generalize hn:nx-ny=n at*
 clear hres hfin HPL HA HB CL H4 hn
 by_cases h0:n=0
 ·subst h0
  rw[zaz] at*
  have d0:=(zau X (b:=w.heap.size+1+1) (b':=b1) 0 0 (.bool false) hne).trans r0
  have d1:=(zau X (b:=w.heap.size+1+1) (b':=b1) 1 0 (.bool false) hne).trans r1
  have hs1:=HS.out.set c0 (λx=>by simp[I]) (.bool false)
  have F:=hid (zhr d0 d1 false (.slice p 0 c) _ [] hs1 (HBX.out.setCell (p:=⟨b1,0,none⟩) (by show w.heap.size<=b1;omega) _) (show w.heap.size<=w.heap.size+1+1 by omega))
  have HZ2:=hid HZ.out
  clear d0 d1 hs1
  simp only[List.length_nil] at*
  go_wp2
  obtain⟨g0,g1,g2,g3⟩:=F.out
  exact bodyPost_ret (v:=.agg #[.bool false,.slice p 0 c]) (by simp[results,Tryz.results194,go_sem,g0,g1]) rfl ⟨false,_,0,rfl,by rw[<-HZ2.out];cases m<;>simp[sgn],by rw[zaz];exact g2,g3⟩
 ·have hl0:¬(zaa B6 n).length=0:=λh=>h0 ((zbd (B:=B6) (by decide) n).1 (List.length_eq_zero_iff.1 h))
  have hlb:(((zaa B6 n).length:Int)==0)=false:=by rw[beq_eq_false_iff_ne];omega
  have F:=hid (zhr r0 r1 (m) (.slice p (zaa B6 n).length c) _ (zaa B6 n) HS.out HBX.out (show w.heap.size<=w.heap.size+1+1 by omega))
  clear h0
  generalize (zaa B6 n).length=L at*
  go_wp2
  obtain⟨g0,g1,g2,g3⟩:=F.out
  exact bodyPost_ret (v:=.agg #[.bool m,.slice p L c]) (by simp[results,Tryz.results194,go_sem,g0,g1]) rfl ⟨m,_,n,rfl,HZ.out,g2,g3⟩
theorem put2 {Y:zA} {B:Nat} {t:TypeId} {x0 x1:Value} (h:Y.heap[B]? =some (.cells #[x0,x1] t (0,0))) (y0 y1:Value):((Y.setCell ⟨B,0,none⟩ y0).setCell ⟨B,1,none⟩ y1).heap[B]? =some (.cells #[y0,y1] t (0,0)):=by
 simp[World.setCell,Array.getElem?_modify,h]
theorem z19 (m:Bool) (vx vy:Value) (nx ny:Nat) (hlt:nx<ny) (w:zA) (hx:Sl w vx ((zaa B6 nx).map I)) (hy:Sl w vy ((zaa B6 ny).map I)) (lx:(zaa B6 nx).length<=1000) (ly:(zaa B6 ny).length<=1000):
 zC zF 194 #[.agg #[.bool m,vx],.agg #[.bool !m,vy]] w (zh5 w (sgn m nx+sgn (!m) ny)):=by
 obtain⟨px,cx,rfl, -⟩:=id hx
 obtain⟨py,cy,rfl, -⟩:=id hy
 simp only[zV] at*
 have hpl:=λW h1 h2=>znw (.slice py (zaa B6 ny).length cy) (.slice px (zaa B6 nx).length cx) (zaa B6 ny) (zaa B6 nx) W h1 h2 (zak (by decide) _) (zak (by decide) _) ly (zel (zT hlt)) (by rw[zam (by decide),zam (by decide)];exact zT hlt)
 rw[zam (B:=B6) (by decide),zam (B:=B6) (by decide)] at hpl
 have hsz:=λW h1 h2=>zlc (.slice px (zaa B6 nx).length cx) (.slice py (zaa B6 ny).length cy) nx ny W h1 h2 lx ly
 rw[zxj hlt] at hsz
 have HZ:=hid (show sgn (!m) (ny-nx)=sgn m nx+sgn (!m) ny by cases m<;>simp[sgn]<;>omega)
 generalize (zaa B6 nx).length=kx at*
 generalize (zaa B6 ny).length=ky at*
 have HPL:=hid hpl;clear hpl
 have HSZ:=hid hsz;clear hsz
 obtain⟨W3,hW3,hB3,hz3,b2,b3,b4⟩:=ziy w m (!m) (.slice px kx cx) (.slice py ky cy)
 have HW3:=hid hW3
 have H3:=hid (⟨hB3,hz3,b4,hx.below hB3,hy.below hB3⟩:_/\_/\_/\_/\_)
 have HB2:=hid (⟨b2,b3⟩:_/\_)
 have cells3:∀X:zA,qL W3 X->X.cell? ⟨w.heap.size,0,none⟩=some (.bool m)/\X.cell? ⟨w.heap.size,1,none⟩=some (.slice px kx cx)/\X.cell? ⟨w.heap.size+1,1,none⟩=some (.slice py ky cy):=λX h=>by
  have e2:=(h.block w.heap.size (by omega)).trans b2
  have e3:=(h.block (w.heap.size+1) (by omega)).trans b3
  refine⟨?_,?_,?_⟩<;>simp[World.cell?,e2,e3]
 clear hB3 hz3 b2 b3 b4 hW3 lx ly hx hy hlt cells3
 go_enter Tryz.func194,Tryz.ntmps194
 go_wp2_with fail
 rw[<-HW3.out]
 refine(HSZ.out W3 H3.out.2.2.2.1 H3.out.2.2.2.2).mono ?_
 rintro e W4 ⟨rfl,hb4⟩
 have a2:=(hb4.block w.heap.size (by have:=H3.out.2.1;omega)).trans HB2.out.1
 have a3:=(hb4.block (w.heap.size+1) (by have:=H3.out.2.1;omega)).trans HB2.out.2
 have x0:W4.cell? ⟨w.heap.size,0,none⟩=some (.bool m):=by simp[World.cell?,a2]
 have x1:W4.cell? ⟨w.heap.size,1,none⟩=some (.slice px kx cx):=by simp[World.cell?,a2]
 have y0:W4.cell? ⟨w.heap.size+1,0,none⟩=some (.bool !m):=by simp[World.cell?,a3]
 have y1:W4.cell? ⟨w.heap.size+1,1,none⟩=some (.slice py ky cy):=by simp[World.cell?,a3]
 have fx0:W4.frozen? ⟨w.heap.size,0,none⟩=false:=by simp[World.frozen?,a2]
 have fx1:W4.frozen? ⟨w.heap.size,1,none⟩=false:=by simp[World.frozen?,a2]
 have fy0:W4.frozen? ⟨w.heap.size+1,0,none⟩=false:=by simp[World.frozen?,a3]
 have fy1:W4.frozen? ⟨w.heap.size+1,1,none⟩=false:=by simp[World.frozen?,a3]
 have hne:w.heap.size+1≠w.heap.size:=by omega
 have hne2:w.heap.size≠w.heap.size+1:=by omega
 obtain⟨W5,hW5⟩:∃W5,W5=(((W4.setCell ⟨w.heap.size,0,none⟩ (.bool !m)).setCell ⟨w.heap.size,1,none⟩ (.slice py ky cy)).setCell ⟨w.heap.size+1,0,none⟩ (.bool m)).setCell ⟨w.heap.size+1,1,none⟩ (.slice px kx cx):=⟨_,rfl⟩
 have z2:W5.heap[w.heap.size]? =some (.cells #[.bool !m,.slice py ky cy] 191 (0,0)):=by
  rw[hW5]
  exact(yE _ _ _ _ (by show w.heap.size≠w.heap.size+1;omega)).trans ((yE _ _ _ _ (by show w.heap.size≠w.heap.size+1;omega)).trans (put2 a2 _ _))
 have z3:W5.heap[w.heap.size+1]? =some (.cells #[.bool m,.slice px kx cx] 191 (0,0)):=by
  rw[hW5]
  exact put2 ((yE _ _ _ _ (by show w.heap.size+1≠w.heap.size;omega)).trans ((yE _ _ _ _ (by show w.heap.size+1≠w.heap.size;omega)).trans a3)) _ _
 have z4:W5.heap[w.heap.size+1+1]? =some (.cells #[.bool false,.slice none 0 0] 191 (0,0)):=by
  rw[hW5]
  exact(yE _ _ _ _ (by show w.heap.size+1+1≠w.heap.size+1;omega)).trans ((yE _ _ _ _ (by show w.heap.size+1+1≠w.heap.size+1;omega)).trans ((yE _ _ _ _ (by show w.heap.size+1+1≠w.heap.size;omega)).trans ((yE _ _ _ _ (by show w.heap.size+1+1≠w.heap.size;omega)).trans ((hb4.block _ (by have:=H3.out.2.1;omega)).trans H3.out.2.2.1))))
 have hs5:∀(v:Value) (l:List Nat),Sl W4 v (l.map I)->Sl W5 v (l.map I):=λv l h=>by
  rw[hW5]
  have h1:=h.set x0 (λx=>by simp[I]) (.bool !m)
  have h2:=h1.set ((World.cell?_setCell_other _ _ _ (.bool !m) (show(⟨w.heap.size,0,none⟩:Addr)≠⟨w.heap.size,1,none⟩ by simp)).trans x1) (λx=>by simp[I]) (.slice py ky cy)
  have h3:=h2.set (((World.cell?_setCell_other _ _ _ _ (show(⟨w.heap.size,1,none⟩:Addr)≠⟨w.heap.size+1,0,none⟩ by simp)).trans (World.cell?_setCell_other _ _ _ _ (show(⟨w.heap.size,0,none⟩:Addr)≠⟨w.heap.size+1,0,none⟩ by simp))).trans y0) (λx=>by simp[I]) (.bool m)
  exact h3.set (((World.cell?_setCell_other _ _ _ _ (show(⟨w.heap.size+1,0,none⟩:Addr)≠⟨w.heap.size+1,1,none⟩ by simp)).trans ((World.cell?_setCell_other _ _ _ _ (show(⟨w.heap.size,1,none⟩:Addr)≠⟨w.heap.size+1,1,none⟩ by simp)).trans (World.cell?_setCell_other _ _ _ _ (show(⟨w.heap.size,0,none⟩:Addr)≠⟨w.heap.size+1,1,none⟩ by simp)))).trans y1) (λx=>by simp[I]) (.slice px kx cx)
 have hb5:qL w W5:=by
  rw[hW5]
  exact((((H3.out.1.trans (hb4.mono (by have:=H3.out.2.1;omega))).setCell (p:=⟨w.heap.size,0,none⟩) (zN _) _).setCell (p:=⟨w.heap.size,1,none⟩) (zN _) _).setCell (p:=⟨w.heap.size+1,0,none⟩) (by show w.heap.size<=w.heap.size+1;omega) _).setCell (p:=⟨w.heap.size+1,1,none⟩) (by show w.heap.size<=w.heap.size+1;omega) _
 have hsz5:W5.heap.size=W4.heap.size:=by rw[hW5];simp[World.setCell]
 have hsz6:w.heap.size+3<=W5.heap.size:=by have:=hb4.size;have:=H3.out.2.1;omega
 have HA:=hid (hs5 _ _ (H3.out.2.2.2.2.below hb4))
 have HB:=hid (hs5 _ _ (H3.out.2.2.2.1.below hb4))
 have cells:∀X:zA,qL W5 X->X.cell? ⟨w.heap.size,0,none⟩=some (.bool !m)/\X.cell? ⟨w.heap.size,1,none⟩=some (.slice py ky cy)/\X.cell? ⟨w.heap.size+1,1,none⟩=some (.slice px kx cx):=λX h=>by
  have e2:=(h.block w.heap.size (by omega)).trans z2
  have e3:=(h.block (w.heap.size+1) (by omega)).trans z3
  refine⟨?_,?_,?_⟩<;>simp[World.cell?,e2,e3]
 have CL:=hid cells
 have H4:=hid (⟨hb5,hsz6,z4⟩:_/\_/\_)
 have HW5:=hid hW5
 clear hb4 HSZ HW3 H3 HB2 a2 a3 z2 z3 z4 hs5 hb5 hsz5 hsz6 cells hW5
 go_wp2_with fail
 rw[<-HW5.out]
 clear x0 x1 y0 y1 fx0 fx1 fy0 fy1 hne hne2 HW5
 refine zc4 (λ(b:Nat×Value) i=>([.pointer (some ⟨w.heap.size,0,none⟩),.bool (!m),.pointer (some ⟨w.heap.size,1,none⟩),.slice py ky cy,.pointer (some ⟨w.heap.size+1,1,none⟩),.slice px kx cx,b.2,.agg #[.bool (!m),b.2],.pointer (some ⟨b.1,0,none⟩),undef]:List Value)[i]?.getD undef)
  (BigS W5 (!m) (ny-nx) 6 8 9) (by kernel_rfl) (by kernel_rfl) (0,.slice none 0 0) ⟨(zM _ W5).drew,λk=>(by cases k),λk=>(by cases k),λk=>(by cases k)⟩ λb=>?_
 refine qB (.pointer (some ⟨w.heap.size,0,none⟩)) (λf W' h=>h.congr rfl rfl rfl) ?_
 simp only[zzQ]
 refine qB (.bool (!m)) (λf W' h=>h.congr rfl rfl rfl) ?_ (hy:=λf W' hf h=>by have g:=CL.out _ h.pre;obtain⟨q0,q1,q3⟩:=g;go_simp)
 simp only[zzQ]
 refine qB (.pointer (some ⟨w.heap.size,1,none⟩)) (λf W' h=>h.congr rfl rfl rfl) ?_
 simp only[zzQ]
 refine qB (.slice py ky cy) (λf W' h=>h.congr rfl rfl rfl) ?_ (hy:=λf W' hf h=>by have g:=CL.out _ h.pre;obtain⟨q0,q1,q3⟩:=g;go_simp)
 simp only[zzQ]
 refine qB (.pointer (some ⟨w.heap.size+1,1,none⟩)) (λf W' h=>h.congr rfl rfl rfl) ?_
 simp only[zzQ]
 refine qB (.slice px kx cx) (λf W' h=>h.congr rfl rfl rfl) ?_ (hy:=λf W' hf h=>by have g:=CL.out _ h.pre;obtain⟨q0,q1,q3⟩:=g;go_simp)
 simp only[zzQ]
 refine zdc b.2 (by rfl) (by rfl) (λf W' hf h C' hC'=>by
  have h9:=hf.self
  have h12:=(hf.no (j:=9) (hf.no (j:=7) hf.self (by kernel_rfl)) (by kernel_rfl))
  go_simp
  refine(HPL.out W' (HA.out.below h.pre) (HB.out.below h.pre)).mono ?_
  intro e w' hr
  obtain⟨p,c,rfl,hs,hb⟩:=zny hr
  refine⟨_,rfl,hC' (b.1,.slice p (zaa B6 (ny-nx)).length c) w' (λi hi=>?_) (h.call h9 h12 rfl rfl rfl hb hs)⟩
  match i,hi with
  |0,_|1,_|2,_|3,_|4,_|5,_|8,_|9,_=>rfl
  |6,hi=>rw[h9] at hi;cases hi
  |7,hi=>rw[hf.no (j:=7) hf.self (by kernel_rfl)] at hi;cases hi
  |_+10,_=>rfl) ?_
 try simp only[zzQ]
 refine qB (.agg #[.bool (!m),b.2]) (λf W' h=>h.congr rfl rfl rfl) ?_ (hy:=λf W' hf h=>by
  obtain⟨p,c,e, -⟩:=h.cv (hf.done 6 (by kernel_rfl))
  obtain⟨b1,v⟩:=b
  dsimp only at e
  subst e
  go_simp)
 try simp only[zzQ]
 refine zdc (.pointer (some ⟨b.1,0,none⟩)) (by rfl) (by rfl) (λf W' hf h C' hC'=>by
  have h12:=(hf.no (j:=9) hf.self (by kernel_rfl))
  have:=hC' (W'.heap.size,b.2) (W'.alloc (.cells #[.bool false,.slice none 0 0] 191)) (λi hi=>?_) (h.new h12 rfl rfl)
  ·go_simp
   exact this
  ·match i,hi with
   |0,_|1,_|2,_|3,_|4,_|5,_|6,_|7,_|9,_=>rfl
   |8,hi=>rw[hf.self] at hi;cases hi
   |_+10,_=>rfl) ?_
 try simp only[zzQ]
 refine zbv undef (by rfl) (by rfl) (λf W' hf h C' hC'=>by
  have h9:=hf.done 6 (by kernel_rfl)
  have h11:=hf.done 8 (by kernel_rfl)
  have h12:=hf.self
  obtain⟨k1,k2⟩:=h.al h11
  have hx:=k2 h12
  have d0:W'.cell? ⟨b.1,0,none⟩=some (.bool false):=by simp[World.cell?,hx]
  have d1:W'.cell? ⟨b.1,1,none⟩=some (.slice none 0 0):=by simp[World.cell?,hx]
  have f0:W'.frozen? ⟨b.1,0,none⟩=false:=by simp[World.frozen?,hx]
  have f1:W'.frozen? ⟨b.1,1,none⟩=false:=by simp[World.frozen?,hx]
  have:=hC' _ (h.put h9 h11 h12 rfl)
  obtain⟨p,c,e, -⟩:=h.cv h9
  rw[e] at this⊢
  clear hC' h k2 hx e
  go_simp
  exact this) ?_
 try simp only[Act.put]
 refine ze1 λf X hf h=>?_
 obtain⟨p,c,e,hs⟩:=h.cv (hf 6 (by decide))
 have hfin:=h.fin (hf 9 (by decide))
 obtain⟨k1, -⟩:=h.al (hf 8 (by decide))
 obtain⟨b1,v⟩:=b
 dsimp only at e hfin k1 hs
 subst e
 have hres:=(h.pre.block (w.heap.size+1+1) (by have:=H4.out.2.1;omega)).trans H4.out.2.2
 have HS:=hid hs
 have HBX:=hid (H4.out.1.trans (h.pre.mono (by have:=H4.out.2.1;omega)))
 have hk:w.heap.size+1+1<b1:=by have:=H4.out.2.1;omega
 clear h hf hs k1
 have c0:X.cell? ⟨b1,0,none⟩=some (.bool (!m)):=by simp[World.cell?,hfin]
 have c1:X.cell? ⟨b1,1,none⟩=some (.slice p (zaa B6 (ny-nx)).length c):=by simp[World.cell?,hfin]
 have f0:X.frozen? ⟨b1,0,none⟩=false:=by simp[World.frozen?,hfin]
 have r0:X.cell? ⟨w.heap.size+1+1,0,none⟩=some (.bool false):=by simp[World.cell?,hres]
 have r1:X.cell? ⟨w.heap.size+1+1,1,none⟩=some (.slice none 0 0):=by simp[World.cell?,hres]
 have fr0:X.frozen? ⟨w.heap.size+1+1,0,none⟩=false:=by simp[World.frozen?,hres]
 have fr1:X.frozen? ⟨w.heap.size+1+1,1,none⟩=false:=by simp[World.frozen?,hres]
 have hne:w.heap.size+1+1≠b1:=by omega
 have hne2:b1≠w.heap.size+1+1:=by omega
 generalize hn:ny-nx=n at*
 clear hres hfin HPL HA HB CL H4 hn
 by_cases h0:n=0
 ·subst h0
  rw[zaz] at*
  have d0:=(zau X (b:=w.heap.size+1+1) (b':=b1) 0 0 (.bool false) hne).trans r0
  have d1:=(zau X (b:=w.heap.size+1+1) (b':=b1) 1 0 (.bool false) hne).trans r1
  have hs1:=HS.out.set c0 (λx=>by simp[I]) (.bool false)
  have F:=hid (zhr d0 d1 false (.slice p 0 c) _ [] hs1 (HBX.out.setCell (p:=⟨b1,0,none⟩) (by show w.heap.size<=b1;omega) _) (show w.heap.size<=w.heap.size+1+1 by omega))
  have HZ2:=hid HZ.out
  clear d0 d1 hs1
  simp only[List.length_nil] at*
  go_wp2
  obtain⟨g0,g1,g2,g3⟩:=F.out
  exact bodyPost_ret (v:=.agg #[.bool false,.slice p 0 c]) (by simp[results,Tryz.results194,go_sem,g0,g1]) rfl ⟨false,_,0,rfl,by rw[<-HZ2.out];cases m<;>simp[sgn],by rw[zaz];exact g2,g3⟩
 ·have hl0:¬(zaa B6 n).length=0:=λh=>h0 ((zbd (B:=B6) (by decide) n).1 (List.length_eq_zero_iff.1 h))
  have hlb:(((zaa B6 n).length:Int)==0)=false:=by rw[beq_eq_false_iff_ne];omega
  have F:=hid (zhr r0 r1 (!m) (.slice p (zaa B6 n).length c) _ (zaa B6 n) HS.out HBX.out (show w.heap.size<=w.heap.size+1+1 by omega))
  clear h0
  generalize (zaa B6 n).length=L at*
  go_wp2
  obtain⟨g0,g1,g2,g3⟩:=F.out
  exact bodyPost_ret (v:=.agg #[.bool (!m),.slice p L c]) (by simp[results,Tryz.results194,go_sem,g0,g1]) rfl ⟨(!m),_,n,rfl,HZ.out,g2,g3⟩
theorem zrz (m m':Bool) (vx vy:Value) (nx ny:Nat) (w:zA) (hx:Sl w vx ((zaa B6 nx).map I)) (hy:Sl w vy ((zaa B6 ny).map I)) (lx:(zaa B6 nx).length<=1000) (ly:(zaa B6 ny).length<=1000):
 zC zF 194 #[.agg #[.bool m,vx],.agg #[.bool m',vy]] w (zh5 w (sgn m nx+sgn m' ny)):=by
 by_cases h:m'=m
 ·subst h;exact zxl _ vx vy nx ny w hx hy lx ly
 ·obtain rfl:m'=!m:=by cases m<;>cases m'<;>simp at*
  rcases Nat.lt_or_ge nx ny with h|h
  ·exact z19 m vx vy nx ny h w hx hy lx ly
  ·exact z18 m vx vy nx ny h w hx hy lx ly
theorem zzy (m:Bool) (vx:Value) (nx:Nat) (w:zA) (hx:Sl w vx ((zaa B6 nx).map I)) (_:(zaa B6 nx).length<=1000):
 zC zF 195 #[.agg #[.bool m,vx]] w (zh5 w (-(sgn m nx))):=by
 obtain⟨px,cx,rfl, -⟩:=id hx
 simp only[zV] at*
 have fin:∀q:Bool,∃F,F=(w.alloc (.cells #[.bool m,.slice px (zaa B6 nx).length cx] 191)).alloc (.cells #[.bool q,.slice px (zaa B6 nx).length cx] 191)/\F.cell? ⟨w.heap.size+1,0,none⟩=some (.bool q)/\F.cell? ⟨w.heap.size+1,1,none⟩=some (.slice px (zaa B6 nx).length cx)/\Sl F (.slice px (zaa B6 nx).length cx) ((zaa B6 nx).map I)/\Below w.heap.size w F:=λq=>by
  have hb2:qL w ((w.alloc (.cells #[.bool m,.slice px (zaa B6 nx).length cx] 191)).alloc (.cells #[.bool q,.slice px (zaa B6 nx).length cx] 191)):=((zM _ w).alloc (zN _) _).alloc (by simp) _
  have A:=heap_alloc_new (w.alloc (.cells #[.bool m,.slice px (zaa B6 nx).length cx] 191)) (.cells #[.bool q,.slice px (zaa B6 nx).length cx] 191)
  rw[zH] at A
  exact⟨_,rfl,cell_of_row _ _ _ _ _ _ A,cell_of_row _ _ _ _ _ _ A,hx.below hb2,hb2⟩
 by_cases h0:nx=0
 ·obtain⟨F,hF,g0,g1,g2,g3⟩:=fin m
  have HF:=hid (⟨hF,g0,g1,g2,g3⟩:_/\_/\_/\_/\_)
  have hl:(zaa B6 nx).length=0:=by rw[h0,zaz];rfl
  have HZ:=hid (show sgn m nx= -(sgn m nx) by rw[h0];cases m<;>simp[sgn])
  clear fin hF g0 g1 g2 g3 hx h0
  rw[hl] at HF⊢
  go_enter Tryz.func195,Tryz.ntmps195
  go_wp2
  rw[<-HF.out.1]
  obtain⟨-,g0,g1,g2,g3⟩:=HF.out
  exact bodyPost_ret (v:=.agg #[.bool m,.slice px 0 cx]) (by simp[results,Tryz.results195,go_sem,g0,g1]) rfl ⟨m,_,nx,rfl,HZ.out,g2,g3⟩
 ·obtain⟨F,hF,g0,g1,g2,g3⟩:=fin (!m)
  have HF:=hid (⟨hF,g0,g1,g2,g3⟩:_/\_/\_/\_/\_)
  have hl:¬(zaa B6 nx).length=0:=λh=>h0 ((zbd (B:=B6) (by decide) nx).1 (List.length_eq_zero_iff.1 h))
  have hlb:(((zaa B6 nx).length:Int)==0)=false:=by rw[beq_eq_false_iff_ne];omega
  have HZ:=hid (show sgn (!m) nx= -(sgn m nx) by cases m<;>simp[sgn])
  clear fin hF g0 g1 g2 g3 hx h0
  generalize (zaa B6 nx).length=L at*
  go_enter Tryz.func195,Tryz.ntmps195
  go_wp2
  rw[<-HF.out.1]
  obtain⟨-,g0,g1,g2,g3⟩:=HF.out
  exact bodyPost_ret (v:=.agg #[.bool (!m),.slice px L cx]) (by simp[results,Tryz.results195,go_sem,g0,g1]) rfl ⟨!m,_,nx,rfl,HZ.out,g2,g3⟩
end
end Go.Proofs.YthfpmfdiamldoaaGreatDoor
