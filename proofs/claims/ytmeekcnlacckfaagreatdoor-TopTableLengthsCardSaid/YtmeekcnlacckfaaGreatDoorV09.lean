/- kingpostref01.divide. -/
import Derived.Test.YtmeekcnlacckfaaGreatDoorV08
import Derived.Deep.Onto
set_option maxRecDepth 100000
set_option maxHeartbeats 8000000
open Go renaming World → zA, Calls → zC
open Go.RowKit renaming Below → zB, intOf → zL
open Go.Lib renaming decDigits → zD, itoa → zE
open Go.Proofs.Tryz renaming prog → zF
open Go.World renaming alloc_heap_new → zG, size_alloc → zH
open Go.IntWalk renaming i64_in → zI
open Go.Joins renaming cell_of_block → zJ, block_setCell → zK
open Go.RowKit.Below renaming refl → zM, heap_setCell → yE
open Nat renaming le_refl → zN, le_trans → zO, mod_lt → zP, mod_eq_of_lt → zQ, zero_le → zR, lt_of_lt_of_le → zS, le_of_lt → zT, pow_le_pow_right → yF, pow_succ → yO, mul_comm → yP, pos_of_ne_zero → yS
open List renaming getElem?_eq_getElem → yB, append_nil → yH
namespace Go.Proofs.YtmeekcnlacckfaaGreatDoor
section
open Go.RowKit Lib Str Limb
theorem zu8 {w w':zA} {base:Nat} {t:TypeId} {s:Nat} {v:Value} {n:Nat} {xs:List Value} (h:w.ownsRow base t s v n xs) (hb:qL w w'):w'.ownsRow base t s v n xs:=by
 refine⟨h.1,?_⟩;rcases h.2 with h|⟨g,cap,cur,e,h1,hg,r⟩
 ·exact .inl h
 ·exact .inr ⟨g,cap,cur,e,h1,(hb.block g (Array.getElem?_eq_some_iff.1 hg).1).trans hg,r⟩
theorem zxk {w:zA} {base base':Nat} {t:TypeId} {s:Nat} {v:Value} {n:Nat} {xs:List Value} (h:w.ownsRow base t s v n xs) (hb:base'<=base):w.ownsRow base' t s v n xs:=by
 refine⟨h.1,?_⟩;rcases h.2 with h|⟨g,cap,cur,e,h1,r⟩
 ·exact .inl h
 ·exact .inr ⟨g,cap,cur,e,zO hb h1,r⟩
theorem zka {w:zA} {base:Nat} {t:TypeId} {s:Nat} {v:Value} {n:Nat} {xs:List Value} (h:w.ownsRow base t s v n xs) {p:Addr} (hp:p.block<base) (u:Value):(w.setCell p u).ownsRow base t s v n xs:=by
 refine⟨h.1,?_⟩;rcases h.2 with h|⟨g,cap,cur,e,h1,hg,r⟩
 ·exact .inl h
 ·exact .inr ⟨g,cap,cur,e,h1,by rw[yE _ _ _ _ (by omega)];exact hg,r⟩
theorem zxm {w:zA} {base g n c:Nat} {xs:List Value} (h:w.ownsRow base 3 1 (.slice (some ⟨g,0,none⟩) n c) n xs):∀j u,xs[j]? =some u->w.cell? ((⟨g,0,none⟩:Addr).add j)=some u:=
 h.cells (g:=g) rfl
theorem zxn (l:List Nat):∀u∈l.map I,u.oneCell'=true:=λu hu=>by
 obtain⟨x,_,rfl⟩:=List.mem_map.1 hu;rfl
theorem ztq {R x:Nat} (hx:x<B6):zat (x::zaa B6 R)=zaa B6 (x+B6*R):=by
 have hs:zal B6 (x::zaa B6 R):=λy hy=>by
  rcases List.mem_cons.1 hy with rfl|h
  ·exact hx
  ·exact zak (B:=B6) (by decide) R y h
 rw[zbu (B:=B6) (by decide) hs,valL,zam (B:=B6) (by decide)]
theorem zed {m k:Nat} (hm:m<=k):(zaa B6 m).length<=(zaa B6 k).length:=by
 rcases Nat.lt_or_ge (zaa B6 k).length (zaa B6 m).length with h'|h'
 ·have:=zc2 (B:=B6) (by decide) h';omega
 ·exact h'
theorem zs0 (va vb:Value) (m n:Nat) (w:zA) (ha:Sl w va ((zaa B6 m).map I)) (hb:Sl w vb ((zaa B6 n).map I)) (la:(zaa B6 m).length<=1000) (hn:0<n) (h1:n<B6):
 zC zF 160 #[va,vb] w (λe w'=>∃v1 v2,e=.returned (.tuple #[v1,v2])/\Sl w' v1 ((zaa B6 (m/n)).map I)/\Sl w' v2 ((zaa B6 (m%n)).map I)/\zB w.heap.size w w'):=by
 have hS:=zto va (zaa B6 m) n w ha la (zak (by decide) m) hn h1;rw[zam (B:=B6) (by decide)] at hS;have e1:zaa B6 n=[n]:=by
  rw[zfl (by decide) (by omega),zQ h1,Nat.div_eq_of_lt h1,zaz]
 rw[e1] at hb;obtain⟨pa,ca,rfl,hca,_⟩:=ha;obtain⟨pb,cb,rfl,hcb,hc⟩:=hb;obtain⟨b,off,rfl,hcell⟩:=hc 0 (I n) rfl;rw[Nat.add_zero] at hcell;have HS:=hid hS;clear hS hc hca hcb e1 la;simp only[List.length_map,List.map_cons,List.map_nil,List.length_cons,List.length_nil] at*
 generalize (zaa B6 m).length=q at*
 go_enter Tryz.func160,Tryz.ntmps160;go_wp21;refine HS.out.mono ?_;rintro e w1 ⟨v1,v2,rfl,r1,r2,hB⟩;have HR:=hid (⟨r1,r2,hB⟩:_/\_/\_);clear r1 r2 hB HS;go_wp21;go_ret2;exact⟨_,_,rfl,HR.out.1,HR.out.2.1,HR.out.2.2⟩
theorem ztc {w:zA} {base:Nat} (x:Nat) (hb:base<=w.heap.size):(w.alloc (.cells #[I x] 3)).ownsRow base 3 1 (.slice (some ⟨w.heap.size,0,none⟩) 1 1) 1 [I x]:=
 ⟨rfl,.inr ⟨w.heap.size,1,#[I x],rfl,hb,heap_alloc_new w _,zN _,by unfold maxLen;omega,rfl,rfl⟩⟩
structure DivS (w:zA) (G N:Nat) (n R:Nat) (l:List Nat) (v:Value) (W:zA):Prop where
 bel:qL w W
 row:Row W G N l
 rem:∃g c,v=.slice (some ⟨g,0,none⟩) (zaa B6 R).length c/\W.ownsRow (G+1) 3 1 (.slice (some ⟨g,0,none⟩) (zaa B6 R).length c) (zaa B6 R).length ((zaa B6 R).map I)
 hG:G=w.heap.size
theorem DivS.next {w:zA} {G N n R R':Nat} {l:List Nat} {v:Value} {W W':zA} {e:Ending} (h:DivS w G N n R l v W) (hr:ztb W (zaa B6 R') e W'):∃v',e=.returned v'/\DivS w G N n R' l v' W':=by
 obtain⟨g,c,rfl,ho,hb⟩:=hr;have hlt:=h.row.lt;exact⟨_,rfl,h.bel.trans (hb.mono h.bel.size),h.row.below hb hlt,⟨g,c,rfl,zxk ho hlt⟩,h.hG⟩
theorem DivS.grow {w:zA} {G N n R:Nat} {l:List Nat} {v:Value} {W W':zA} (h:DivS w G N n R l v W) (hb:qL W W'):DivS w G N n R l v W':=by
 obtain⟨g,c,rfl,ho⟩:=h.rem;exact⟨h.bel.trans (hb.mono h.bel.size),h.row.below hb h.row.lt,⟨g,c,rfl,zu8 ho hb⟩,h.hG⟩
theorem DivS.store {w:zA} {G N n R:Nat} {l:List Nat} {v:Value} {W:zA} (h:DivS w G N n R l v W) (j x:Nat):DivS w G N n R (l.set j x) v (W.setCell ⟨G,j,none⟩ (I x)):=by
 obtain⟨g,c,rfl,ho⟩:=h.rem;exact⟨h.bel.setCell (by rw[<-h.hG];exact zN _) _,h.row.set j x,⟨g,c,rfl,zka ho (by show G<G+1;omega) _⟩,h.hG⟩
theorem DivS.sl {w:zA} {G N n R:Nat} {l:List Nat} {v:Value} {W:zA} (h:DivS w G N n R l v W):Sl W v ((zaa B6 R).map I):=by
 obtain⟨g,c,rfl,ho⟩:=h.rem;exact Sl.of_own ho
theorem zzx {m n:Nat} (h:m<n):ordN m n= -1:=by unfold ordN;rw[if_pos h]
theorem zz3 {m n:Nat} (h:n<=m):0<=ordN m n:=by unfold ordN;rw[if_neg (by omega)];split<;>omega
theorem zqg {l:List Nat} {i:Nat} (h:i<l.length):(l.map I)[i]? =some (I (l[i]?.getD 0)):=by
 rw[List.getElem?_map,yB h];rfl
theorem zqk (va vb:Value) (m n nn:Nat) (w:zA) (ha:Sl w va ((zaa B6 m).map I)) (hb:Sl w vb ((zaa B6 n).map I)) (la:(zaa B6 m).length<=1000) (lb:(zaa B6 n).length<=990) (hD:(zaa B6 n).length=nn+2):
 zC zF 160 #[va,vb] w (λe w'=>∃v1 v2,e=.returned (.tuple #[v1,v2])/\Sl w' v1 ((zaa B6 (m/n)).map I)/\Sl w' v2 ((zaa B6 (m%n)).map I)/\zB w.heap.size w w'):=by
 obtain⟨i0,hi,hz0,hz1,hz2⟩:=info_parts zdv;have hn0:0<n:=by
  rcases Nat.eq_zero_or_pos n with rfl|h
  ·rw[zaz] at hD;simp at hD
  ·exact h
 have hnB:n<B6^(nn+2):=by rw[<-hD];exact zgb (by decide) n
 have ha':=ha;have hb':=hb;obtain⟨pa,ca,rfl,hca,_⟩:=ha;obtain⟨pb,cb,rfl,hcb,hcb2⟩:=hb;obtain⟨bb,offb,rfl, -⟩:=hcb2 0 _ (zqg (by omega));have c1:w.cell? ⟨bb,offb+(nn+1),none⟩=some (I (n/B6^(nn+1)%B6)):=by
  obtain⟨b2,o2,e2,h2⟩:=hcb2 (nn+1) _ (zqg (by omega));cases e2;rw[h2,zcp (by decide)]
 have c0:w.cell? ⟨bb,offb+nn,none⟩=some (I (n/B6^nn%B6)):=by
  obtain⟨b2,o2,e2,h2⟩:=hcb2 nn _ (zqg (by omega));cases e2;rw[h2,zcp (by decide)]
 have EST:=hid λR (hR:R<B6*n)=>zy6 (B:=B6) (n:=nn) (V:=n) (R:=R) (by decide) hnB hn0 hR;simp only[List.length_map] at*
 have HA:=hid ha';clear ha' hca;have HB:=hid hb';clear hb' hcb hcb2 hnB;have hu1:n/B6^(nn+1)%B6<1000000:=zP _ (by decide);have hu0:n/B6^nn%B6<1000000:=zP _ (by decide);generalize n/B6^(nn+1)%B6=u1 at*
 generalize n/B6^nn%B6=u0 at*
 obtain⟨P,hP⟩:=zzX (u1*1000000+u0);have p1:IntKind.i64.wrap ((u1:Int)*1000000)=(u1:Int)*1000000:=zI _ (by omega);have p2:IntKind.i64.wrap ((u1:Int)*1000000+u0)=(P:Int):=by rw[show(u1:Int)*1000000+u0=(P:Int) by omega];exact zI _ (by omega)
 have hPb:P<1000000000000:=by omega
 have HP:=hid hP;clear hP;obtain⟨n1,hn1⟩:=zzX (nn+1);rw[<-hn1] at c1;obtain⟨D,hD'⟩:=zzX ((zaa B6 n).length);have hDi:(D:Int)-1=(n1:Int):=by omega
 have hDj:(D:Int)-2=(nn:Int):=by omega
 have hD2:¬((D:Int)=1):=by omega
 have hDn:n1<D:=by omega
 have hDm:nn<D:=by omega
 have hD3:D<=990:=by omega
 obtain⟨N,hN⟩:=zzX ((zaa B6 m).length);have hN3:N<=1000:=by omega
 rw[<-hD',<-hN];have HD:=hid (⟨hD',hn1,hD⟩:_/\_/\_);have HN:=hid hN;have HLA:=hid la;have HLB:=hid lb;clear hD' hD hN hn1 la lb;go_enter Tryz.func160,Tryz.ntmps160;go_wp2;go_quiet (fail);have hBq:qL w (w.drewN nq):=zzD (zM _ w) _;have HBQ:=hid hBq;clear hBq c0 c1;go_wp2_with (at_make;refine wpList_make_full _ rfl _ _ 159 rfl w.heap.size 3 i0 (.int .i64 0) 1 Tryz.underlying159 hi hz0 hz1 .i64 .i64 _ _ N rfl rfl (by omega) (by omega) (by rw[hz2];omega) (by unfold maxLen;omega) (by exact HBQ.out.size) ?_);intro w0 hown hgrow;rw[toList_madeCells_one,<-show(List.replicate N 0).map I=List.replicate N (.int .i64 0) by simp] at hown;obtain⟨hrow, -⟩:=Row.of_own hown;have hB0:qL w w0:=HBQ.out.grown hgrow (zN _) (λ_ e=>by cases e);clear hown hgrow HBQ;obtain⟨G,hG⟩:=zzX w.heap.size;rw[<-hG] at hrow⊢;have HG:=hid hG;have hlt0:=hrow.lt;have hD0:DivS w G N n 0 (List.replicate N 0) (.slice (some ⟨w0.heap.size,0,none⟩) 0 0) (w0.alloc (.cells #[] 3)):=by
  have b:=(zM w0.heap.size w0).alloc (zN _) (.cells #[] 3);refine⟨hB0.alloc hB0.size _,hrow.below b hlt0,⟨w0.heap.size,0,by rw[zaz];rfl,?_⟩,hG⟩;rw[zaz];exact World.ownsRow_made w0 #[] 0 (by omega) (by unfold maxLen;omega) rfl
 have HD0:=hid hD0;clear hD0 hrow hB0 hlt0 hG;have SA:=hid (zak (B:=B6) (by decide) m);have SB:=hid (zak (B:=B6) (by decide) n);go_wp2;go_loopw [9,10] (λv i wr=>∃k:Nat,k<=N/\i=.int .i64 ((N:Int)-1-k)/\DivS w G N n (za8 B6 n (zaa B6 m) k).2 (za8 B6 n (zaa B6 m) k).1 v wr)
  (λ_ i _=>(zL i+1).toNat)
 case atStart=>exact⟨0,zR _,by simp,by rw[za8,<-HN.out];exact HD0.out⟩
 case round=>
  clear HD0;obtain⟨k,hk,rfl,hS⟩:=hrel;obtain⟨s1,s2,s3, -⟩:=zeo (B:=B6) hn0 SA.out k (by rw[<-HN.out];exact hk);by_cases hlt:k<N
  ·obtain⟨j,hj⟩:=zzX (N-1-k)
   have hjI:(N:Int)-1-k=(j:Int):=by omega
   rw[hjI];have hja:j<(zaa B6 m).length:=by rw[<-HN.out];omega
   obtain⟨ba,offa,rfl,hba,hcapa,hcx⟩:=(HA.out.below hS.bel).at hja;have hst:za8 B6 n (zaa B6 m) (k+1)=zdl B6 n (za8 B6 n (zaa B6 m) k) j ((zaa B6 m)[j]?.getD 0):=by rw[hj,HN.out];rfl
   have hx:=zaj SA.out (by decide) j;have hx':(zaa B6 m)[j]?.getD 0<1000000:=hx;have hjN:j<N:=by omega
   have hj2:(j:Int)-1=(N:Int)-1-((k+1:Nat):Int):=by omega
   have HJ2:=hid hj2;have HST:=hid hst;have hlenl:(za8 B6 n (zaa B6 m) k).1.length=N:=by rw[s1,HN.out]
   clear hst hx hj hj2 s1 s2 hjI;generalize za8 B6 n (zaa B6 m) k=s at*
   obtain⟨l,R⟩:=s;dsimp only at*
   generalize (zaa B6 m)[j]?.getD 0=x at*
   have hmR:x+B6*R<=m\/True:=.inr trivial;clear hmR;obtain⟨gr,cr,rfl,hor⟩:=hS.rem;obtain⟨R',hR'⟩:=zzX (x+B6*R);have hRn:R'<B6*n:=by
    have:=Nat.mul_le_mul_left B6 (show R+1<=n from s3);rw[Nat.mul_add,Nat.mul_one] at this;have hx6:x<B6:=hx';omega
   have hlR:(zaa B6 R).length<=990:=zO (zed (zT s3)) HLB.out;have hlR':(zaa B6 R').length<=1000:=by
    have h1:R'<B6^(nn+3):=by
     refine zS hRn ?_;have:=zgb (B:=B6) (by decide) n;rw[HD.out.2.2] at this;rw[show nn+3=(nn+2)+1 from rfl,yO,yP];exact Nat.mul_le_mul_right _ (zT this)
    have h2:=zfv (B:=B6) (by decide) h1;have:=HLB.out;have:=HD.out.2.2;omega
   have HR':=hid (⟨hR',hRn,hlR,hlR'⟩:_/\_/\_/\_);have hltG:=hS.row.lt;have hown1:=ztc (w:=wr) (base:=G+1) x hltG;have hnews:=zxm (hor.alloc (.cells #[I x] 3));have HS:=hid (⟨hS,hown1,hnews,hltG,hlR⟩:_/\_/\_/\_/\_);clear hS hown1 hnews hltG hor hR' hRn hlR' hba hcapa s3;obtain⟨LR,hLR⟩:=zzX ((zaa B6 R).length);rw[<-hLR] at HS⊢;rw[<-hLR] at hlR;have HLR:=hid hLR;clear hLR;go_wp2_with (at_builtin;refine wpList_append_own _ rfl _ _ 159 rfl (G+1) 3 i0 (.int .i64 0) 1 8 Tryz.underlying159 hi hz0 hz1 hz2 rfl (by decide) _ _ _ rfl HS.out.2.1 ⟨gr,0,none⟩ LR cr ((zaa B6 R).map I) rfl (by rw[HLR.out];simp) HS.out.2.2.1 (zxn _) (by unfold maxLen;omega) (by omega) (by have:=HS.out.2.2.2.1;simp;omega) ?_);intro v' w1 hown' hgrow hnn;obtain⟨g1,c1,rfl⟩:=zqe hown' hnn;have hb1:qL wr w1:=((zM _ wr).alloc (zN _) _).grown hgrow (by simp) (λq e=>by cases e;exact zN _);have hown2:w1.ownsRow (G+1) 3 1 (.slice (some ⟨g1,0,none⟩) (1+LR) c1) (1+LR) ((x::zaa B6 R).map I):=hown';have T:=zdq _ _ _ (x::zaa B6 R) w1 (Sl.of_own hown2) (by have:=HLR.out;simp;omega);have hown3:=zgz hown2 (by have:=HLR.out;simp;omega);rw[ztq (show x<B6 from hx'),<-HR'.out.1] at T hown3;have hS1:DivS w G N n R' l (.slice (some ⟨g1,0,none⟩) (zaa B6 R').length c1) w1:=by
    have:=HS.out.1.grow hb1;exact⟨this.bel,this.row,⟨g1,c1,rfl,hown3⟩,this.hG⟩
   have LM:=hid λi=>zh4 _ (zaa B6 R') i w1 (Sl.of_own hown3) (by have:=HR'.out.2.2.2;omega);have hE:=EST.out R' HR'.out.2.1;have f2:(zaa B6 R')[D]?.getD 0=R'/B6^(nn+2)%B6:=by rw[zcp (by decide),HD.out.1,HD.out.2.2]
   have f1:(zaa B6 R')[n1]?.getD 0=R'/B6^(nn+1)%B6:=by rw[zcp (by decide),HD.out.2.1]
   have f0:(zaa B6 R')[nn]?.getD 0=R'/B6^nn%B6:=by rw[zcp (by decide)]
   rw[<-f2,<-f1,<-f0] at hE;have g2:(zaa B6 R')[D]?.getD 0<1000000:=zaj (zak (by decide) R') (by decide) _;have g1':(zaa B6 R')[n1]?.getD 0<1000000:=zaj (zak (by decide) R') (by decide) _;have g0':(zaa B6 R')[nn]?.getD 0<1000000:=zaj (zak (by decide) R') (by decide) _;have L2:=hid (LM.out D);have L1:=hid (LM.out n1);have L0:=hid (LM.out nn);clear hown' hown2 hown3 hgrow hnn hb1 HS f2 f1 f0 LM;generalize (zaa B6 R')[D]?.getD 0=t2 at*
   generalize (zaa B6 R')[n1]?.getD 0=t1 at*
   generalize (zaa B6 R')[nn]?.getD 0=t0 at*
   obtain⟨X1,hX1⟩:=zzX (t2*1000000+t1);obtain⟨X0,hX0⟩:=zzX (X1*1000000+t0);obtain⟨P1,hP1⟩:=zzX (P+1);obtain⟨q0,hq0⟩:=zzX (X0/P1);have hq:q0*n<=R'/\q0<1000000:=by
    have e:((t2*B6+t1)*B6+t0)/(u1*B6+u0+1)=q0:=by rw[hq0,hX0,hX1,hP1,HP.out];rfl
    rw[e] at hE;exact hE
   have k1:IntKind.i64.wrap ((t2:Int)*1000000)=(t2:Int)*1000000:=zI _ (by omega);have k2:IntKind.i64.wrap ((t2:Int)*1000000+t1)=(X1:Int):=by rw[show(t2:Int)*1000000+t1=(X1:Int) by omega];exact zI _ (by omega)
   have k3:IntKind.i64.wrap ((X1:Int)*1000000)=(X1:Int)*1000000:=zI _ (by omega);have k4:IntKind.i64.wrap ((X1:Int)*1000000+t0)=(X0:Int):=by rw[show(X1:Int)*1000000+t0=(X0:Int) by omega];exact zI _ (by omega)
   have k5:IntKind.i64.wrap ((P:Int)+1)=(P1:Int):=by rw[show(P:Int)+1=(P1:Int) by omega];exact zI _ (by omega)
   have k6:(X0:Int)/(P1:Int)=(q0:Int):=by rw[<-Int.natCast_ediv,<-hq0]
   have k7:¬(P1:Int)=0:=by omega
   have hq2:q0<1000000:=hq.2;have HQ:=hid hq;have HS1:=hid hS1;clear hE hX1 hX0 hP1 hq0 hq hS1 g1' g0';generalize hL':(zaa B6 R').length=L' at*
   have HL':=hid hL';clear hL';go_wp21;have hTT:=T;refine zzM hTT λw2 hw2=>?_;have hw2':=hw2.symm;subst hw2';clear T;go_wp21;refine zzM L2.out λw2 hw2=>?_;have hw2':=hw2.symm;subst hw2';go_wp21;refine zzM L1.out λw2 hw2=>?_;have hw2':=hw2.symm;subst hw2';go_wp21;refine zzM L0.out λw2 hw2=>?_;have hw2':=hw2.symm;subst hw2';clear L2 L1 L0;go_wp21;clear hTT k1 k2 k3 k4 k5 k6 k7 g2 hlR;have hb3:qL w2 (w2.alloc (.cells #[I q0] 3)):=(zM _ w2).alloc (zN _) _;have hTM:=ztg _ (.slice (some ⟨w2.heap.size,0,none⟩) 1 1) (zaa B6 n) [q0] _ (HB.out.below (HS1.out.bel.trans (hb3.mono HS1.out.bel.size))) (Sl.of_own (ztc (w:=w2) (base:=0) q0 (zR _))) SB.out (λy hy=>by rw[List.mem_singleton] at hy;subst hy;exact hq2) (zO HLB.out (by omega)) (by simp);rw[zam (B:=B6) (by decide),show valL B6 [q0]=q0 by simp[valL],<-HD.out.1] at hTM;have HTM:=hid hTM;have HB3:=hid hb3;clear hTM hb3;refine HTM.out.mono ?_;rintro e w3 ⟨v3,rfl,own3,hb4⟩;have hS3:=HS1.out.grow (HB3.out.trans (hb4.mono HB3.out.size));have hMN:=zj6 _ v3 (zaa B6 R') (zaa B6 (n*q0)) w3 hS3.sl (Sl.of_own own3) (zak (by decide) _) (zak (by decide) _) (by have:=HR'.out.2.2.2;rw[HL'.out];exact this) (zed (by rw[yP];exact HQ.out.1)) (by rw[zam (by decide),zam (by decide),yP];exact HQ.out.1);rw[zam (B:=B6) (by decide),zam (B:=B6) (by decide)] at hMN;have HS3:=hid hS3;have HMN:=hid hMN;clear HTM HB3 hS3 hMN own3 hb4 HS1;go_wp21;refine HMN.out.mono ?_;intro e w4 hr4;obtain⟨v4,rfl,hS4⟩:=HS3.out.next hr4;clear hr4 HMN HS3
   have hsum0:q0*n+(R'-n*q0)=R':=by have:=HQ.out.1;rw[yP n q0];omega
   have HINIT:=hid (⟨hS4,hsum0⟩:_/\_);clear hS4 hsum0;go_wp2;go_loopw [9,11] (λv c wr=>∃gg R2:Nat,c=.int .i64 gg/\gg*n+R2=R'/\DivS w G N n R2 l v wr)
    (λ_ c _=>R'+1-(zL c).toNat)
   case atStart=>exact⟨q0,_,rfl,HINIT.out.2,HINIT.out.1⟩
   case round=>
    clear HINIT;obtain⟨gg,R2,rfl,hsum,hS5⟩:=hrel;obtain⟨g5,c5,rfl,ho5⟩:=hS5.rem;have hR2:R2<=R':=by omega
    have hl5:(zaa B6 R2).length<=1000:=zO (zed hR2) (by rw[HL'.out];exact HR'.out.2.2.2);have hgg:gg<=R':=by have:=Nat.mul_le_mul_left gg (show 1<=n from hn0);omega
    have hg6:gg<1000000:=by
     rcases Nat.lt_or_ge gg 1000000 with h|h
     ·exact h
     ·have h1:=Nat.mul_le_mul_right n h
      have h2:R'<B6*n:=HR'.out.2.1;have:B6=1000000:=rfl;rw[this] at h2;omega
    have CZ:=hid (zu4 _ _ R2 n wr (Sl.of_own ho5) (HB.out.below hS5.bel) hl5 (zO HLB.out (by omega)));rw[<-HD.out.1] at CZ;have HS5:=hid hS5;have HSUM:=hid hsum;have HGG:=hid hgg;clear hS5 ho5 hsum hgg hR2;generalize hL5:(zaa B6 R2).length=L5 at*
    have HL5:=hid hL5;clear hL5;go_wp21;refine zzM CZ.out λw6 hb6=>?_;have HS6:=hid (HS5.out.grow hb6);clear CZ HS5 hb6;by_cases hlt2:R2<n
    ·rw[zzx hlt2]
     have hfin:gg=R'/n/\R2=R'%n:=by
      have hs:=HSUM.out;constructor
      ·rw[<-hs,Nat.add_comm,Nat.add_mul_div_right _ _ hn0,Nat.div_eq_of_lt hlt2,Nat.zero_add]
      ·rw[<-hs,Nat.add_comm,Nat.add_mul_mod_self_right,zQ hlt2]
     have HFIN:=hid hfin;have hcell:=HS6.out.row.cell (getD_some (show j<l.length by omega));have hfz:=HS6.out.row.frozen j;clear hfin hlt2;generalize l[j]?.getD 0=z at*
     go_wp2;go_roundw
     case rel=>
      refine⟨k+1,by omega,by rw[<-HJ2.out],?_⟩;have e:za8 B6 n (zaa B6 m) (k+1)=(l.set j gg,R2):=by
       rw[HST.out];show(l.set j ((x+R*B6)/n),(x+R*B6)%n)=_;rw[HFIN.out.1,HFIN.out.2,HR'.out.1,yP R B6]
      rw[e];have:=HS6.out.store j gg;exact this
     case measure=>simp[zL]
    ·have h0:=zz3 (show n<=R2 by omega)
     have hc2:¬ordN R2 n<0:=by omega
     have hMN:=zj6 _ _ (zaa B6 R2) (zaa B6 n) w6 HS6.out.sl (HB.out.below HS6.out.bel) (zak (by decide) _) SB.out (by rw[HL5.out];exact hl5) (zed (by omega)) (by rw[zam (by decide),zam (by decide)];omega);rw[zam (B:=B6) (by decide),zam (B:=B6) (by decide),<-HD.out.1] at hMN;have HMN:=hid hMN;have HGE:=hid (show n<=R2 by omega);clear hMN hlt2;generalize ordN R2 n=oc at*
     go_wp21;refine HMN.out.mono ?_;intro e w7 hr7;obtain⟨v7,rfl,hS7⟩:=HS6.out.next hr7;have HS7:=hid hS7;clear hr7 HMN hS7;go_wp2;go_roundw
     case rel=>exact⟨gg+1,R2-n,by go_num,by have:=HSUM.out;have:=HGE.out;rw[Nat.add_mul];omega,HS7.out⟩
     case measure=>have:=HGG.out;simp[zL];omega
  ·obtain rfl:k=N:=by omega
   have hend:(k:Int)-1-k= -1:=by omega
   rw[hend];obtain⟨f1,f2⟩:=zjq (B:=B6) (by decide) hn0 SA.out;rw[<-HN.out] at f1 f2 s1;rw[zam (B:=B6) (by decide)] at f1 f2;have hsl:=hS.row.sl;rw[s1] at hsl;obtain⟨gr,cr,rfl,hor⟩:=hS.rem;have hslr:=Sl.of_own hor;have HF:=hid (⟨f1,f2,s1,hslr,hS.bel⟩:_/\_/\_/\_/\_);have HSL:=hid hsl;clear f1 f2 s1 s2 s3 hsl hslr hS hor hend;generalize za8 B6 n (zaa B6 m) k=s at*
   obtain⟨l,R⟩:=s;dsimp only at*
   generalize hLR:(zaa B6 R).length=LR at*
   have HLR:=hid hLR;clear hLR;go_wp21;refine(zdq _ _ _ l wr HSL.out (by rw[HF.out.2.2.1];omega)).mono ?_;rintro e w1 ⟨rfl,rfl⟩;go_wp21;go_ret2;refine⟨_,_,rfl,?_,?_,HF.out.2.2.2.2⟩
   ·rw[<-HF.out.1]
    exact Sl.trim_at HSL.out HF.out.2.2.1
   ·rw[<-HF.out.2.1]
    exact HF.out.2.2.2.1
theorem zs1 (va vb:Value) (m n:Nat) (w:zA) (ha:Sl w va ((zaa B6 m).map I)) (hb:Sl w vb ((zaa B6 n).map I)) (la:(zaa B6 m).length<=1000) (lb:(zaa B6 n).length<=990) (hn:0<n):
 zC zF 160 #[va,vb] w (λe w'=>∃v1 v2,e=.returned (.tuple #[v1,v2])/\Sl w' v1 ((zaa B6 (m/n)).map I)/\Sl w' v2 ((zaa B6 (m%n)).map I)/\zB w.heap.size w w'):=by
 rcases Nat.lt_or_ge n B6 with h|h
 ·exact zs0 va vb m n w ha hb la hn h
 ·have h2:2<=(zaa B6 n).length:=by
   rcases Nat.lt_or_ge (zaa B6 n).length 2 with h'|h'
   ·have h1:=zgb (B:=B6) (by decide) n
    have h3:B6^(zaa B6 n).length<=B6^1:=yF (by decide) (by omega);rw[Nat.pow_one] at h3;omega
   ·exact h'
  exact zqk va vb m n ((zaa B6 n).length-2) w ha hb la lb (by omega)
end
section
open Go.RowKit Go.Shelf Lib Str Limb
attribute [local go_sem] Oper.semAt_some
theorem put2 {Y:zA} {B:Nat} {t:TypeId} {x0 x1:Value} (h:Y.heap[B]? =some (.cells #[x0,x1] t (0,0))) (y0 y1:Value):((Y.setCell ⟨B,0,none⟩ y0).setCell ⟨B,1,none⟩ y1).heap[B]? =some (.cells #[y0,y1] t (0,0)):=by
 simp[World.setCell,Array.getElem?_modify,h]
theorem zty (a:List UInt8):∀b:List UInt8,val (a++b)=val a*10^b.length+val b:=by
 intro b
 induction h:b.length generalizing b with
 |zero=>have:b=[]:=List.length_eq_zero_iff.1 h;subst this;simp[val]
 |succ k ih=>
  rcases Limb.snoc_cases b with rfl|⟨i,x,rfl⟩
  ·simp at h
  ·have hi:i.length=k:=by simpa using h
   rw[<-List.append_assoc,zde,ih i hi,zde,yO];rw[Nat.mul_add];have:10*(val a*10^k)=val a*(10^k*10):=by rw[Nat.mul_left_comm,yP 10]
   omega
def zb0 (n k:Nat):List Nat:=(List.range k).map λi=>n/B6^i%B6
theorem zkc (n k:Nat):zb0 n (k+1)=zb0 n k++[n/B6^k%B6]:=by simp[zb0,List.range_succ]
theorem zg0 (n k:Nat):(zb0 n k).length=k:=by simp[zb0]
theorem zqn (n k:Nat):zal B6 (zb0 n k):=λx hx=>by
 obtain⟨i,_,rfl⟩:=List.mem_map.1 hx;exact zP _ (by decide)
theorem zlx (n:Nat):∀k,valL B6 (zb0 n k)=n%B6^k
 |0=>by simp[zb0,valL,Nat.mod_one]
 |k+1=>by
  rw[zkc,zcm,zlx n k,zg0,yO,Nat.mod_mul]
theorem zk1 {n k:Nat} (h:n<B6^k):zat (zb0 n k)=zaa B6 n:=by
 rw[zbu (B:=B6) (by decide) (zqn n k),zlx,zQ h]
theorem zqr (n e:Nat) (_:e<=(zD n).length):val ((zD n).take e)=n/10^((zD n).length-e):=by
 have h1:=zty ((zD n).take e) ((zD n).drop e);rw[List.take_append_drop,zb2,List.length_drop] at h1;have h2:=zjc ((zD n).drop e) (λc hc=>⟨(zan n c (List.mem_of_mem_drop hc)).1,(zan n c (List.mem_of_mem_drop hc)).2⟩);rw[List.length_drop] at h2;generalize (zD n).length-e=k at*
 have hp:0<10^k:=Nat.pow_pos (by omega)
 conv=>rhs;rw[h1]
 rw[yP,Nat.mul_add_div hp,Nat.div_eq_of_lt h2,Nat.add_zero]
theorem zvc (n k x:Nat) (hk:6*k<(zD n).length) (h:val ((zD n).take ((zD n).length-6*k))=val ((zD n).take ((zD n).length-6*k-6))*10^((zD n).length-6*k-((zD n).length-6*k-6))+x)
 (hx:x<10^((zD n).length-6*k-((zD n).length-6*k-6))):x=n/B6^k%B6:=by
 have e1:=zqr n ((zD n).length-6*k) (by omega);rw[show(zD n).length-((zD n).length-6*k)=6*k by omega,Nat.pow_mul] at e1;have e2:n/B6^k=val ((zD n).take ((zD n).length-6*k)):=e1.symm;rw[e2];rcases Nat.lt_or_ge ((zD n).length-6*k) 6 with h6|h6
 ·have h0:(zD n).length-6*k-6=0:=by omega
  rw[h0] at h hx;rw[List.take_zero,zyb,Nat.zero_mul,Nat.zero_add] at h;have:10^((zD n).length-6*k-0)<=10^6:=yF (by omega) (by omega);rw[h];exact(zQ (show x<B6 from zS hx this)).symm
 ·rw[show(zD n).length-6*k-((zD n).length-6*k-6)=6 by omega] at h hx
  rw[h,yP];show x=(B6*_+x)%B6;rw[Nat.mul_add_mod];exact(zQ (show x<B6 from hx)).symm
theorem zvd (n k:Nat) (h:(zD n).length<=6*k):n<B6^k:=by
 have h1:n<10^(zD n).length:=by
  have:=zjc (zD n) (λc hc=>zan n c hc);rwa [zb2] at this
 have h2:10^(zD n).length<=10^(6*k):=yF (by omega) h;rw[Nat.pow_mul] at h2;exact zS h1 h2
structure ReadS (w:zA) (neg:Bool) (n k:Nat) (v:Value) (W:zA):Prop where
 bel:qL w W
 rb:W.heap[w.heap.size]? =some (.cells #[.bool false,.slice none 0 0] 203 (0,0))
 xb:W.heap[w.heap.size+1]? =some (.cells #[.bool neg,v] 203 (0,0))
 own:W.ownsRow (w.heap.size+2) 3 1 v k ((zb0 n k).map I)
theorem ReadS.c1 {w:zA} {neg:Bool} {n k:Nat} {v:Value} {W:zA} (h:ReadS w neg n k v W):W.cell? ⟨w.heap.size+1,1,none⟩=some v/\W.frozen? ⟨w.heap.size+1,1,none⟩=false/\W.cell? ⟨w.heap.size+1,0,none⟩=some (.bool neg):=by
 refine⟨?_,?_,?_⟩<;>simp[World.cell?,World.frozen?,h.xb]
theorem ReadS.r {w:zA} {neg:Bool} {n k:Nat} {v:Value} {W:zA} (h:ReadS w neg n k v W):W.cell? ⟨w.heap.size,0,none⟩=some (.bool false)/\W.frozen? ⟨w.heap.size,0,none⟩=false/\W.cell? ⟨w.heap.size,1,none⟩=some (.slice none 0 0)/\W.frozen? ⟨w.heap.size,1,none⟩=false:=by
 refine⟨?_,?_,?_,?_⟩<;>simp[World.cell?,World.frozen?,h.rb]
theorem ReadS.step {w:zA} {neg:Bool} {n k:Nat} {v v':Value} {W W':zA} (h:ReadS w neg n k v W) (x:Nat) (hx:x=n/B6^k%B6)
 (hown:W'.ownsRow (w.heap.size+2) 3 1 v' (k+1) ((zb0 n k).map I++[.int .i64 x])) (hb:zB (w.heap.size+2) W W'):
 ReadS w neg n (k+1) v' (W'.setCell ⟨w.heap.size+1,1,none⟩ v'):=by
 refine⟨(h.bel.trans (hb.mono (by omega))).setCell (by show w.heap.size<=w.heap.size+1;omega) _,?_,?_,?_⟩
 ·exact(yE _ ⟨w.heap.size+1,1,none⟩ _ w.heap.size (by show w.heap.size≠w.heap.size+1;omega)).trans ((hb.block _ (by omega)).trans h.rb)
 ·have:=(hb.block (w.heap.size+1) (by omega)).trans h.xb
  simp[World.setCell,Array.getElem?_modify,this]
 ·have:=zka (p:=⟨w.heap.size+1,1,none⟩) hown (by show w.heap.size+1<w.heap.size+2;omega) v'
  rw[zkc,<-hx,List.map_append];exact this
theorem znu (z:Int) (w:zA) (hl:digs z<=700):
 zC zF 159 #[St (zE z)] w λe w'=>∃v,e=.returned (.agg #[.bool (decide (z<0)),v])/\Sl w' v ((zaa B6 z.natAbs).map I)/\zB w.heap.size w w':=by
 obtain⟨i0,hi,hz0,hz1,hz2⟩:=info_parts zdv;obtain⟨n,hn⟩:=zzX z.natAbs;have hl2:(zD n).length<=700:=by rw[hn];exact hl
 have hd:=zan n;have hpos:1<=(zD n).length:=by have:=zbn (n:Int);unfold digs at this;simpa using this
 have CV:=hid (zvc n);have CE:=hid (zvd n);obtain⟨l,hll⟩:=zzX (zD n);rw[<-hll] at hd hl2 hpos CV CE;obtain⟨s,hs⟩:=zzX (⟨l.toArray⟩:ByteArray);obtain⟨b1,b2⟩:=zds l s hs;have hst:∀k (hb:k<s.size),48<=(s[k]'hb).toNat/\(s[k]'hb).toNat<=57/\val (l.take (k+1))=10*val (l.take k)+((s[k]'hb).toNat-48):=λk hb=>by
  have hk:k<l.length:=by omega
  rw[b2 k hk hb,List.take_succ_eq_append_getElem hk,zde];exact⟨(hd _ (List.getElem_mem hk)).1,(hd _ (List.getElem_mem hk)).2,rfl⟩
 rw[<-b1] at CV CE;generalize hvf:(λk=>val (l.take k))=vf at*
 have ST:=hid (show ∀k (hb:k<s.size),48<=(s[k]'hb).toNat/\(s[k]'hb).toNat<=57/\vf (k+1)=10*vf k+((s[k]'hb).toNat-48) by rw[<-hvf];exact hst);have CV2:=hid (show ∀k x,6*k<s.size->vf (s.size-6*k)=vf (s.size-6*k-6)*10^(s.size-6*k-(s.size-6*k-6))+x->x<10^(s.size-6*k-(s.size-6*k-6))->x=n/B6^k%B6 by rw[<-hvf];exact CV.out);have hs0:0<s.size:=by omega
 have hs7:s.size<=700:=by omega
 clear hst hvf CV;have hhead:(0<=z/\zE z=l)\/(z<0/\zE z=45::l):=by
  rcases zbg z with⟨h,e⟩|⟨h,e⟩
  ·exact .inl ⟨h,by rw[e,hll,hn]⟩
  ·exact .inr ⟨h,by rw[e,hll,hn]⟩
 rcases hhead with⟨hzn,he⟩|⟨hzn,he⟩
 ·have hdec:decide (z<0)=false:=by rw[decide_eq_false_iff_not];omega
  rw[he,hdec,<-hn];show zC _ _ #[.string ⟨l.toArray⟩] _ _;rw[<-hs];have h45:(((s[0]'hs0).toNat:Int)==45)=false:=by rw[beq_eq_false_iff_ne];have:=(ST.out 0 hs0).1;omega
  have hI:ReadS w false n 0 (.slice none 0 0) ((w.alloc (.cells #[.bool false,.slice none 0 0] 203)).alloc (.cells #[.bool false,.slice none 0 0] 203)):=by
   refine⟨((zM _ w).alloc (zN _) _).alloc (by simp) _,?_,?_,?_⟩
   ·exact(Below.heap_alloc _ _ _ (by simp)).trans (heap_alloc_new w _)
   ·have:=heap_alloc_new (w.alloc (.cells #[.bool false,.slice none 0 0] 203)) (.cells #[.bool false,.slice none 0 0] 203)
    rwa [zH] at this
   ·exact World.ownsRow_nil _ _ _ _
  have HI:=hid hI;clear hI b1 b2 hs hll hd hpos hl2 he hl hn hzn hdec;go_enter Tryz.func159,Tryz.ntmps159;go_wp2;go_loopw [4] (λi wr=>∃(k:Nat) (v:Value),i=.int .i64 ((s.size:Int)-6*k)/\6*k<s.size+6/\ReadS w false n k v wr) (λi _=>(zL i+6).toNat)
  case atStart=>exact⟨0,_,by simp,by omega,HI.out⟩
  case round=>
   clear HI h45;obtain⟨k,v,rfl,hk,hS⟩:=hrel;obtain⟨c1,f1, -⟩:=hS.c1;by_cases hlt:6*k<s.size
   ·obtain⟨e,he⟩:=zzX (s.size-6*k)
    obtain⟨f,hf⟩:=zzX (e-6);have hE:(s.size:Int)-6*k=(e:Int):=by omega
    rw[hE];have hm:max (0:Int) ((e:Int)-6)=(f:Int):=by omega
    have hef:e-f<=6:=by omega
    have hfe:f<=e:=by omega
    have hes:e<=s.size:=by omega
    have he0:0<e:=by omega
    have CVk:=CV2.out k;rw[<-he,<-hf] at CVk;have HCV:=hid CVk;have HE:=hid hE;have HS:=hid hS;clear hE CVk hS hf c1 f1 he;go_wp2;go_loopw [5,6] (λa i wr'=>wr'=wr/\∃j x:Nat,f<=j/\j<=e/\i=.int .i64 j/\a=.int .i64 x/\vf j=vf f*10^(j-f)+x/\x<10^(j-f)) (λ_ i _=>e-(zL i).toNat)
    case atStart=>exact⟨rfl,f,0,zN _,hfe,rfl,rfl,by simp,by simp⟩
    case round=>
     obtain⟨hw',j,x,hj1,hj2,rfl,rfl,hv,hx⟩:=hrel;subst hw';have hx6:x<1000000:=zS hx (yF (by omega) (by omega):10^(j-f)<=10^6);by_cases hje:j<e
     ·have hjs:j<s.size:=by omega
      obtain⟨d1',d2',d3⟩:=ST.out j hjs;have HV:=hid (show vf (j+1)=vf f*10^(j+1-f)+(10*x+((s[j]'hjs).toNat-48))/\10*x+((s[j]'hjs).toNat-48)<10^(j+1-f) by
       rw[show j+1-f=(j-f)+1 by omega,yO,d3,hv];constructor
       ·rw[Nat.mul_add,<-Nat.mul_assoc,yP 10,Nat.mul_assoc,yP 10];omega
       ·omega)
      have d1:(48:Int)<=((s[j]'hjs).toNat:Int):=by omega
      have d2:((s[j]'hjs).toNat:Int)<=57:=by omega
      clear hv hx d3;go_wp2;go_roundw
      case rel=>exact⟨by first|rfl|trivial,j+1,10*x+((s[j]'hjs).toNat-48),by omega,by omega,by go_num,by show Value.int .i64 _=Value.int .i64 _;congr 1;omega,HV.out.1,HV.out.2⟩
      case measure=>simp[zL];omega
     ·obtain rfl:j=e:=by omega
      have hxc:=HCV.out x hlt hv hx;have HX:=hid hxc;obtain⟨c1,f1, -⟩:=HS.out.c1;have hsz:w.heap.size+2<=wr.heap.size:=by
       have h1:=(Array.getElem?_eq_some_iff.1 HS.out.xb).1;omega
      clear hv hx hxc;go_wp2_with (at_builtin;refine wpList_append_own _ rfl _ _ 159 rfl (w.heap.size+2) 3 i0 (.int .i64 0) 1 8 Tryz.underlying159 hi hz0 hz1 hz2 rfl (by decide) _ _ _ rfl (HS.out.own.alloc _) ⟨wr.heap.size,0,none⟩ 1 1 [.int .i64 (x:Int)] rfl rfl (zep _ _ _) (zfn _) (by unfold maxLen;omega) (by omega) (by simp;omega) ?_);intro v' w1 hown' hgrow _;obtain⟨vp',vm',vc',rfl⟩:=ze4 hown';have hb1:zB (w.heap.size+2) wr w1:=((zM (w.heap.size+2) wr).alloc hsz _).grown hgrow (by simp;omega) (λq e=>(HS.out.own.lt q e).1);have hxb:=(hb1.block (w.heap.size+1) (by omega)).trans HS.out.xb;have k1:w1.cell? ⟨w.heap.size+1,1,none⟩=some v:=by simp[World.cell?,hxb]
      have k2:w1.frozen? ⟨w.heap.size+1,1,none⟩=false:=by simp[World.frozen?,hxb]
      have HN:=hid (HS.out.step x HX.out hown' hb1);clear hgrow hown' hb1 hxb c1 f1 hsz;go_wp2;go_roundw
      case rel=>exact⟨k+1,_,by have:=HE.out;show Value.int .i64 _=Value.int .i64 _;congr 1;omega,by omega,HN.out⟩
      case measure=>simp[zL];omega
   ·have hle:¬(0:Int)<(s.size:Int)-6*k:=by omega
    have hch:=CE.out k (by omega);obtain⟨vp,vm,vc,rfl⟩:=ze4 hS.own;have hlen:=zg0 n k;have hk2:k<=200:=by omega
    have hrr:=hS.r;obtain⟨r0,fr0,r1,fr1⟩:=hrr;obtain⟨-, -,c0⟩:=hS.c1;have T:=hid (zdq vp vm vc (zb0 n k) wr (Sl.of_own hS.own) (by rw[hlen];omega));have hst:Sl wr (.slice vp (zat (zb0 n k)).length vc) ((zat (zb0 n k)).map I):=Sl.of_own (zgz hS.own hlen);rw[zk1 hch] at T hst;have HST:=hid hst;have HB:=hid hS.bel;have hne:w.heap.size≠w.heap.size+1:=by omega
    have hne2:w.heap.size+1≠w.heap.size:=by omega
    clear hS hst hch hlen hlt hk hk2;go_wp21;refine zzM T.out λw9 hw9=>?_;have hw9':=hw9.symm;subst hw9';clear T hw9;generalize hLL:(zaa B6 n).length=LL at*
    have d0:=(zau _ (b:=w.heap.size) (b':=w.heap.size+1) 0 1 (.slice vp LL vc) hne).trans r0;have d1:=(zau _ (b:=w.heap.size) (b':=w.heap.size+1) 1 1 (.slice vp LL vc) hne).trans r1;have e1:=(World.cell?_setCell_other _ _ _ (.bool false) (show(⟨w.heap.size,0,none⟩:Addr)≠⟨w.heap.size,1,none⟩ by simp)).trans d1;have e0:=za9 (u:=.bool false) d0;have g0:=((World.cell?_setCell_other _ _ _ (.slice vp LL vc) (show(⟨w.heap.size,1,none⟩:Addr)≠⟨w.heap.size,0,none⟩ by simp)).trans e0);have g1:=(za9 (u:=.slice vp LL vc) e1);have hs1:=HST.out.set c1 (λx=>by simp[I]) (.slice vp LL vc);have hs2:=hs1.set d0 (λx=>by simp[I]) (.bool false);have hs3:=hid (hs2.set e1 (λx=>by simp[I]) (.slice vp LL vc));have hB3:=hid (((HB.out.setCell (p:=⟨w.heap.size+1,1,none⟩) (by show w.heap.size<=w.heap.size+1;omega) (.slice vp LL vc)).setCell (p:=⟨w.heap.size,0,none⟩) (zN _) (.bool false)).setCell (p:=⟨w.heap.size,1,none⟩) (zN _) (.slice vp LL vc));have G:=hid (⟨g0,g1⟩:_/\_);clear hs1 hs2 d0 d1 e0 e1 g0 g1;go_wp2;have g0:=G.out.1;have g1:=G.out.2;exact bodyPost_ret (v:=.agg #[.bool false,.slice vp LL vc]) (by simp[results,Tryz.results159,go_sem,g0,g1]) rfl ⟨_,rfl,hs3.out,hB3.out⟩
 ·have hdec:decide (z<0)=true:=by rw[decide_eq_true_iff];exact hzn
  rw[he,hdec,<-hn];obtain⟨t,ht⟩:=zzX (⟨(45::l).toArray⟩:ByteArray);obtain⟨t1,t2⟩:=zds (45::l) t ht;have hts:t.size=s.size+1:=by rw[t1,b1];simp
  have ht0:0<t.size:=by omega
  have htb:t.size<=701:=by omega
  have hx:t.extract 1 t.size=s:=by rw[ht,zel,hs];rfl
  show zC _ _ #[.string ⟨(45::l).toArray⟩] _ _;rw[<-ht];have h45:(((t[0]'ht0).toNat:Int)==45)=true:=by rw[t2 0 (by simp) ht0];rfl
  have hI:ReadS w true n 0 (.slice none 0 0) ((w.alloc (.cells #[.bool false,.slice none 0 0] 203)).alloc (.cells #[.bool true,.slice none 0 0] 203)):=by
   refine⟨((zM _ w).alloc (zN _) _).alloc (by simp) _,?_,?_,?_⟩
   ·exact(Below.heap_alloc _ _ _ (by simp)).trans (heap_alloc_new w _)
   ·have:=heap_alloc_new (w.alloc (.cells #[.bool false,.slice none 0 0] 203)) (.cells #[.bool true,.slice none 0 0] 203)
    rwa [zH] at this
   ·exact World.ownsRow_nil _ _ _ _
  have HI:=hid hI;clear hI b1 b2 hs hll hd hpos hl2 he hl hn hzn hdec ht t1 t2 hts;go_enter Tryz.func159,Tryz.ntmps159;go_wp2;clear hx h45;go_loopw [4] (λi wr=>∃(k:Nat) (v:Value),i=.int .i64 ((s.size:Int)-6*k)/\6*k<s.size+6/\ReadS w true n k v wr) (λi _=>(zL i+6).toNat)
  case atStart=>exact⟨0,_,by simp,by omega,HI.out⟩
  case round=>
   clear HI;obtain⟨k,v,rfl,hk,hS⟩:=hrel;obtain⟨c1,f1, -⟩:=hS.c1;by_cases hlt:6*k<s.size
   ·obtain⟨e,he⟩:=zzX (s.size-6*k)
    obtain⟨f,hf⟩:=zzX (e-6);have hE:(s.size:Int)-6*k=(e:Int):=by omega
    rw[hE];have hm:max (0:Int) ((e:Int)-6)=(f:Int):=by omega
    have hef:e-f<=6:=by omega
    have hfe:f<=e:=by omega
    have hes:e<=s.size:=by omega
    have he0:0<e:=by omega
    have CVk:=CV2.out k;rw[<-he,<-hf] at CVk;have HCV:=hid CVk;have HE:=hid hE;have HS:=hid hS;clear hE CVk hS hf c1 f1 he;go_wp2;go_loopw [5,6] (λa i wr'=>wr'=wr/\∃j x:Nat,f<=j/\j<=e/\i=.int .i64 j/\a=.int .i64 x/\vf j=vf f*10^(j-f)+x/\x<10^(j-f)) (λ_ i _=>e-(zL i).toNat)
    case atStart=>exact⟨rfl,f,0,zN _,hfe,rfl,rfl,by simp,by simp⟩
    case round=>
     obtain⟨hw',j,x,hj1,hj2,rfl,rfl,hv,hx⟩:=hrel;subst hw';have hx6:x<1000000:=zS hx (yF (by omega) (by omega):10^(j-f)<=10^6);by_cases hje:j<e
     ·have hjs:j<s.size:=by omega
      obtain⟨d1',d2',d3⟩:=ST.out j hjs;have HV:=hid (show vf (j+1)=vf f*10^(j+1-f)+(10*x+((s[j]'hjs).toNat-48))/\10*x+((s[j]'hjs).toNat-48)<10^(j+1-f) by
       rw[show j+1-f=(j-f)+1 by omega,yO,d3,hv];constructor
       ·rw[Nat.mul_add,<-Nat.mul_assoc,yP 10,Nat.mul_assoc,yP 10];omega
       ·omega)
      have d1:(48:Int)<=((s[j]'hjs).toNat:Int):=by omega
      have d2:((s[j]'hjs).toNat:Int)<=57:=by omega
      clear hv hx d3;go_wp2;go_roundw
      case rel=>exact⟨by first|rfl|trivial,j+1,10*x+((s[j]'hjs).toNat-48),by omega,by omega,by go_num,by show Value.int .i64 _=Value.int .i64 _;congr 1;omega,HV.out.1,HV.out.2⟩
      case measure=>simp[zL];omega
     ·obtain rfl:j=e:=by omega
      have hxc:=HCV.out x hlt hv hx;have HX:=hid hxc;obtain⟨c1,f1, -⟩:=HS.out.c1;have hsz:w.heap.size+2<=wr.heap.size:=by
       have h1:=(Array.getElem?_eq_some_iff.1 HS.out.xb).1;omega
      clear hv hx hxc;go_wp2_with (at_builtin;refine wpList_append_own _ rfl _ _ 159 rfl (w.heap.size+2) 3 i0 (.int .i64 0) 1 8 Tryz.underlying159 hi hz0 hz1 hz2 rfl (by decide) _ _ _ rfl (HS.out.own.alloc _) ⟨wr.heap.size,0,none⟩ 1 1 [.int .i64 (x:Int)] rfl rfl (zep _ _ _) (zfn _) (by unfold maxLen;omega) (by omega) (by simp;omega) ?_);intro v' w1 hown' hgrow _;obtain⟨vp',vm',vc',rfl⟩:=ze4 hown';have hb1:zB (w.heap.size+2) wr w1:=((zM (w.heap.size+2) wr).alloc hsz _).grown hgrow (by simp;omega) (λq e=>(HS.out.own.lt q e).1);have hxb:=(hb1.block (w.heap.size+1) (by omega)).trans HS.out.xb;have k1:w1.cell? ⟨w.heap.size+1,1,none⟩=some v:=by simp[World.cell?,hxb]
      have k2:w1.frozen? ⟨w.heap.size+1,1,none⟩=false:=by simp[World.frozen?,hxb]
      have HN:=hid (HS.out.step x HX.out hown' hb1);clear hgrow hown' hb1 hxb c1 f1 hsz;go_wp2;go_roundw
      case rel=>exact⟨k+1,_,by have:=HE.out;show Value.int .i64 _=Value.int .i64 _;congr 1;omega,by omega,HN.out⟩
      case measure=>simp[zL];omega
   ·have hle:¬(0:Int)<(s.size:Int)-6*k:=by omega
    have hch:=CE.out k (by omega);obtain⟨vp,vm,vc,rfl⟩:=ze4 hS.own;have hlen:=zg0 n k;have hk2:k<=200:=by omega
    have hrr:=hS.r;obtain⟨r0,fr0,r1,fr1⟩:=hrr;obtain⟨-, -,c0⟩:=hS.c1;have T:=hid (zdq vp vm vc (zb0 n k) wr (Sl.of_own hS.own) (by rw[hlen];omega));have hst:Sl wr (.slice vp (zat (zb0 n k)).length vc) ((zat (zb0 n k)).map I):=Sl.of_own (zgz hS.own hlen);rw[zk1 hch] at T hst;have HST:=hid hst;have HB:=hid hS.bel;have hne:w.heap.size≠w.heap.size+1:=by omega
    have hne2:w.heap.size+1≠w.heap.size:=by omega
    clear hS hst hch hlen hlt hk hk2;go_wp21;refine zzM T.out λw9 hw9=>?_;have hw9':=hw9.symm;subst hw9';clear T hw9;generalize hLL:(zaa B6 n).length=LL at*
    have d0:=(zau _ (b:=w.heap.size) (b':=w.heap.size+1) 0 1 (.slice vp LL vc) hne).trans r0;have d1:=(zau _ (b:=w.heap.size) (b':=w.heap.size+1) 1 1 (.slice vp LL vc) hne).trans r1;have e1:=(World.cell?_setCell_other _ _ _ (.bool true) (show(⟨w.heap.size,0,none⟩:Addr)≠⟨w.heap.size,1,none⟩ by simp)).trans d1;have e0:=za9 (u:=.bool true) d0;have g0:=((World.cell?_setCell_other _ _ _ (.slice vp LL vc) (show(⟨w.heap.size,1,none⟩:Addr)≠⟨w.heap.size,0,none⟩ by simp)).trans e0);have g1:=(za9 (u:=.slice vp LL vc) e1);have hs1:=HST.out.set c1 (λx=>by simp[I]) (.slice vp LL vc);have hs2:=hs1.set d0 (λx=>by simp[I]) (.bool true);have hs3:=hid (hs2.set e1 (λx=>by simp[I]) (.slice vp LL vc));have hB3:=hid (((HB.out.setCell (p:=⟨w.heap.size+1,1,none⟩) (by show w.heap.size<=w.heap.size+1;omega) (.slice vp LL vc)).setCell (p:=⟨w.heap.size,0,none⟩) (zN _) (.bool true)).setCell (p:=⟨w.heap.size,1,none⟩) (zN _) (.slice vp LL vc));have G:=hid (⟨g0,g1⟩:_/\_);clear hs1 hs2 d0 d1 e0 e1 g0 g1;go_wp2;have g0:=G.out.1;have g1:=G.out.2;exact bodyPost_ret (v:=.agg #[.bool true,.slice vp LL vc]) (by simp[results,Tryz.results159,go_sem,g0,g1]) rfl ⟨_,rfl,hs3.out,hB3.out⟩
theorem zs2 (m:Bool) (p:Option Addr) (c:Nat) (w:zA):
 qJ 161 #[.agg #[.bool m,.slice p 0 c]] w (.string ⟨#[48]⟩):=by
 have hb1:qL w (w.alloc (.cells #[.bool m,.slice p 0 c] 203)):=(zM _ w).alloc (zN _) _;have HB:=hid hb1;clear hb1;go_enter Tryz.func161,Tryz.ntmps161;go_wp2;go_ret;exact⟨rfl,HB.out⟩
theorem zt0 (m:Bool) (vx:Value) (n:Nat) (w:zA) (hx:Sl w vx ((zaa B6 n).map I)) (lx:(zaa B6 n).length<=200):
 qJ 161 #[.agg #[.bool m,vx]] w (St (zE (sgn m n))):=by
 rcases Nat.eq_zero_or_pos n with rfl|h
 ·obtain⟨p,c,rfl, -⟩:=hx
  rw[zaz];have e:zE (sgn m 0)=[48]:=by rw[show sgn m 0=((0:Nat):Int) by cases m<;>simp[sgn],Str.zad];decide+kernel
  rw[e];exact zs2 m p c w
 ·exact ztn m vx n h w hx lx
theorem zve (z:Int) (k:Nat) (hk:0<k) (h:digs z<=6*k):(zaa B6 z.natAbs).length<=k:=by
 apply zfv (B:=B6) (by decide);have:=(za3 z (6*k) (by omega)).1 h;rwa [Nat.pow_mul] at this
theorem zt3 (x y:Int) (hx:(zE x).length<=17) (hy:(zE y).length<=17) (w:zA) (hw:Wd w):
 qJ 95 #[St (zE x),St (zE y)] w (.tuple #[St (zE (Int.gcd x y:Int)),.int .i64 0]):=by
 obtain⟨x1,x2⟩:=lt18 (zO hx (by omega));obtain⟨y1,y2⟩:=lt18 (zO hy (by omega));have hb:=λW=>zj7 x y (zO (zbf (by omega)) (by omega)) (zO (zbf (by omega)) (by omega)) W;have hs:=λW=>zth x y hx hy W;have HB:=hid hb;clear hb;have HS:=hid hs;clear hs hx hy;have HW:=hid hw;clear hw;obtain⟨g,hg⟩:=zzX (Int.gcd x y);rw[<-hg];have HG:=hid hg;clear hg;go_enter Tryz.func95,Tryz.ntmps95;go_wp21;refine zzM (HB.out w) λw1 hw1=>?_;have hw1':=hw1.symm;subst hw1';go_wp21;refine zzM (HS.out w) λw2 hw2=>?_;have hw2':=hw2.symm;subst hw2';have hB2:qL w w:=zM _ _;go_wp21;go_loopw [7,8] (λa b wr=>∃m n:Int,a=.int .i64 m/\b=.int .i64 n/\Hid (Int.gcd m n=g)/\(-1000000000000000000<m/\m<1000000000000000000)/\(-1000000000000000000<n/\n<1000000000000000000)/\Hid (qL w wr))
  (λ_ b _=>(zL b).natAbs)
 case atStart=>exact⟨x,y,rfl,rfl,HG.out.symm,⟨x1,x2⟩,⟨y1,y2⟩,hB2⟩
 case round=>
  clear x1 x2 y1 y2 hB2;obtain⟨m,n,rfl,rfl,hgm,⟨m1,m2⟩,⟨n1,n2⟩,hBr⟩:=hrel;by_cases h0:n=0
  ·subst h0
   have hgm':Int.gcd m 0=g:=hgm.out;rw[Int.gcd_zero_right] at hgm';have hmx:max m (-m)=(g:Int):=by omega
   have HM:=hid hgm';clear hgm hgm';have hg1:(g:Int)<=1000000000000000000:=by omega
   have hneg:IntKind.i64.wrap (-m)= -m:=zI _ (by omega);go_wp21;refine zzM (zb3 (g:Int) (by omega) (by omega) wr (HW.out.below hBr.out)) λw3 hb3=>?_;have hB3:=hBr.out.trans (hb3.mono hBr.out.size);clear hb3;go_wp21;go_ret2;exact⟨rfl,hB3⟩
  ·have hn0:(n !=0)=true:=by simpa using h0
   have ht1:(m.tmod n).natAbs<n.natAbs:=by rw[Int.natAbs_tmod];exact zP _ (by omega)
   obtain⟨t,ht⟩:=zzX (m.tmod n);have hgt:=zmt m n;rw[<-ht] at ht1 hgt;have hwr:IntKind.i64.wrap (m.tmod n)=t:=by rw[<-ht];exact zI _ (by omega)
   have HGT:=hid hgt;have HT:=hid ht;clear hgt ht hwr;go_wp2
   (refine wp_region_quiet_lit (by kernel_rfl) (by kernel_rfl) (WQ.out ?_);(repeat(first|(apply WQ.read (by rfl);(focus(rintro W ⟨n,rfl⟩;go_simp;try with_reducible rfl));try simp only[zzQ])|(apply WQ.skip (by rfl);try simp only[zzQ])));refine WQ.nil ?_;rintro _ ⟨nq,rfl⟩)
   go_wp2;go_roundw
   case rel=>exact⟨n,t,rfl,by rw[HT.out],HGT.out.trans hgm.out,⟨n1,n2⟩,by omega,zao hBr.out _⟩
   case measure=>show(m.tmod n).natAbs<n.natAbs;rw[<-HT.out];exact ht1
theorem zld (b:Bool) (p:Option Addr) (k c:Nat) (W:zA):(Instr.field 203 (.agg #[.bool b,.slice p k c]) 1).run zF W=.ok (.slice p k c) W:=by kernel_rfl
theorem zvf (x y:Int) (hx:digs x<=300) (hy:digs y<=300) (h:17<(zE x).length\/17<(zE y).length) (w:zA) (hw:Wd w):
 qJ 95 #[St (zE x),St (zE y)] w (.tuple #[St (zE (Int.gcd x y:Int)),.int .i64 0]):=by
 have hb:=λW=>zj7 x y hx hy W;have hs:=λW=>ztj x y h (zO (za7 x) (by omega)) (zO (za7 y) (by omega)) W;have r1:=λW=>znu x W (by omega);have r2:=λW=>znu y W (by omega);have l1:=zO (zve x 50 (by omega) hx) (show 50<=100 by omega);have l2:=zO (zve y 50 (by omega) hy) (show 50<=100 by omega);have hgd:=zq4 x y hx hy;have HB:=hid hb;clear hb;have HS:=hid hs;clear hs hx hy h;have HW:=hid hw;clear hw;have R1:=hid r1;have R2:=hid r2;clear r1 r2;obtain⟨g,hg⟩:=zzX (Int.gcd x y);rw[<-hg] at hgd⊢;have HG:=hid hg;clear hg;have hfd:=zld;go_enter Tryz.func95,Tryz.ntmps95;go_wp21;refine zzM (HB.out w) λw1 hw1=>?_;have hw1':=hw1.symm;subst hw1';go_wp21;refine(HS.out w).mono ?_;rintro e w2 ⟨⟨za,zb,rfl⟩,hw2⟩;have hw2':=hw2.symm;subst hw2';go_wp21;refine(R1.out w).mono ?_;rintro e w2 ⟨vx,rfl,hvx,hb2⟩;have hB2:=hb2;clear hb2;obtain⟨px,kx,cx,rfl, -⟩:=zbx hvx;have HVX:=hid hvx;clear hvx;go_wp21;refine(R2.out w2).mono ?_;rintro e w3 ⟨vy,rfl,hvy,hb3⟩;have hvx:=HVX.out.below hb3;have hB3:=hB2.trans (hb3.mono hB2.size);clear hb3 hB2 HVX;obtain⟨py,ky,cy,rfl, -⟩:=zbx hvy;have HVX:=hid hvx;have HVY:=hid hvy;clear hvx hvy;go_wp2;go_loopg [10,11] y.natAbs (λk va vb wr=>∃a b p kb c,vb=.slice p kb c/\Hid (k=b)/\Hid (kb=(zaa B6 b).length)/\(zaa B6 a).length<=100/\(zaa B6 b).length<=100/\Hid (Sl wr va ((zaa B6 a).map I))/\Hid (Sl wr vb ((zaa B6 b).map I))/\Hid (Nat.gcd a b=g)/\Hid (qL w wr))
 case atStart=>
  obtain⟨p,k,c,e,hk⟩:=zbx HVY.out;cases e;exact⟨x.natAbs,y.natAbs,py,ky,cy,rfl,rfl,hk,l1,l2,HVX.out,HVY.out,HG.out.symm,hB3⟩
 case round=>
  clear HVX HVY hB3;obtain⟨a,b,p,kb,c,rfl,hk,hkb,la,lb,hva,hvb,hgc,hBr⟩:=hrel;by_cases h0:kb=0
  ·have hb0:b=0:=(zbd (B:=B6) (by decide) b).1 (List.length_eq_zero_iff.1 (by rw[<-hkb.out];exact h0))
   have hga:a=g:=by have:=hgc.out;rw[hb0,Nat.gcd_zero_right] at this;exact this
   have hz0:¬(0:Int)<kb:=by omega
   have HA:=hid hga;clear hga;have HB0:=hid hb0;clear hb0;have HK0:=hid h0;clear h0;obtain⟨p1,k1,c1,rfl, -⟩:=zbx hva.out;have hres:=zt0 false _ a wr hva.out (by omega);rw[zkw,HA.out] at hres;have HRES:=hid hres;clear hres;go_wp21;refine zzM HRES.out λw4 hb4=>?_;have hB4:=hBr.out.trans (hb4.mono hBr.out.size);clear hb4;go_wp21;go_ret2;exact⟨rfl,hB4⟩
  ·have hz0:(0:Int)<kb:=by omega
   have hb0:b≠0:=λe=>h0 (by rw[hkb.out,e,zaz];rfl);go_wp21;refine(zs1 _ (.slice p kb c) a b wr hva.out hvb.out (by omega) (by omega) (yS hb0)).mono ?_;rintro e w4 ⟨v1,v2,rfl,hs1,hs2,hb4⟩;have hB4:=hBr.out.trans (hb4.mono hBr.out.size);have hvb4:=hvb.out.below hb4;obtain⟨p2,k2,c2,rfl,hk2⟩:=zbx hs2;have HS2:=hid hs2;have HB4:=hid hB4;have HVB:=hid hvb4;have HK2:=hid hk2;have HB0:=hid hb0;clear hs1 hs2 hb4 hB4 hvb4 hk2 hb0 hva hvb hBr;go_wp2;go_roundg (a%b)
   case measure=>rw[hk.out];exact zP _ (yS HB0.out)
   case rel=>exact⟨b,a%b,p2,k2,c2,rfl,rfl,HK2.out,lb,zO (zd6 (by decide) (zT (zP _ (yS HB0.out)))) lb,HVB.out,HS2.out,(zkx a b).trans hgc.out,HB4.out⟩
theorem zxp (x y:Int) (hx:digs x<=300) (hy:digs y<=300) (w:zA) (hw:Wd w):
 qJ 95 #[St (zE x),St (zE y)] w (.tuple #[St (zE (Int.gcd x y:Int)),.int .i64 0]):=by
 by_cases h:17<(zE x).length\/17<(zE y).length
 ·exact zvf x y hx hy h w hw
 ·exact zt3 x y (by omega) (by omega) w hw
theorem zq6 (n:Nat) (t:List UInt8):(zD n++47::t).takeWhile (· !=47)=zD n/\((zD n++47::t).dropWhile (· !=47)).tail=t:=by
 have h:∀c∈zD n,(c !=47)=true:=λc hc=>by
  have:=zan n c hc;simp;intro e;subst e;simp at this
 constructor
 ·rw[List.takeWhile_append_of_pos h];simp
 ·rw[List.dropWhile_append_of_pos h];simp
theorem znx (n:Nat):(zD n).takeWhile (· !=47)=zD n/\((zD n).dropWhile (· !=47)).tail=[]:=by
 have h:∀c∈zD n,(c !=47)=true:=λc hc=>by
  have:=zan n c hc;simp;intro e;subst e;simp at this
 constructor
 ·have:=List.takeWhile_append_of_pos (p:=λx:UInt8=>x !=47) (l₁:=zD n) (l₂:=[]) h
  simpa using this
 ·have:=List.dropWhile_append_of_pos (p:=λx:UInt8=>x !=47) (l₁:=zD n) (l₂:=[]) h
  rw[yH] at this;rw[this];rfl
def denS (q:Rat):List UInt8:=if q.den=1 then[] else zD q.den
theorem zvg (q:Rat):upS (numS q)=zD q.num.natAbs/\dnS (numS q)=denS q/\((numS q).head? =some 45↔q.num<0)/\((47:UInt8)∈bare (numS q)↔q.den≠1):=by
 have hb:bare (numS q)=zD q.num.natAbs++(if q.den=1 then[] else 47::zD q.den):=zhw _ _;unfold upS dnS denS;rw[hb];refine⟨?_,?_,zk2 _ _,?_⟩
 ·by_cases h:q.den=1
  ·rw[if_pos h,yH];exact(znx _).1
  ·rw[if_neg h];exact(zq6 _ _).1
 ·by_cases h:q.den=1
  ·rw[if_pos h,if_pos h,yH];exact(znx _).2
  ·rw[if_neg h,if_neg h];exact(zq6 _ _).2
 ·by_cases h:q.den=1
  ·rw[if_pos h,yH]
   exact⟨λk=>absurd k (zdz _),λk=>absurd h k⟩
  ·rw[if_neg h]
   exact⟨λ_=>h,λ_=>by simp⟩
theorem zt4 (x u v:ByteArray) (m sl b1 b2 z1 z2 z3:Bool) (hz:(300:Int)<u.size\/(¬(300:Int)<u.size/\(300:Int)<v.size))
 (e1:(v.toList==[48])=z1) (e2:(v.toList==[49])=z2) (e3:(u.toList==[48])=z3)
 (SP:Hid (∀W:zA,qJ 91 #[.string x] W (.tuple #[.bool m,.string u,.string v,.bool sl])))
 (D1:Hid (∀W:zA,zC zF 92 #[.string u] W λe w'=>e=.returned (.bool b1)/\w'=W))
 (D2:Hid (∀W:zA,zC zF 92 #[.string v] W λe w'=>e=.returned (.bool b2)/\w'=W))
 (w:zA):
 zC zF 33 #[.string x] w λe w'=>∃r:Int,e=.returned (.int .i64 r)/\r≠0/\zB w.heap.size w w':=by
 go_enter Tryz.func33,Tryz.ntmps33;go_wp21;refine zzM (SP.out w) λw1 hB=>?_;go_wp21;refine zzM (D1.out w1) λw2 hw=>?_;have hw2:=hw.symm;subst hw2;clear hw;cases b1
 ·go_wp21
  all_goals first|exact(zzU ‹_›).elim|skip
  go_ret;exact⟨11,rfl,by decide,hB⟩
 ·cases sl
  ·cases m
   ·rcases hz with h|⟨h,h'⟩
    all_goals
     go_wp21
     all_goals first|exact(zzU ‹_›).elim|skip
     go_ret;exact⟨4,rfl,by decide,hB⟩
   ·cases z3
    ·rcases hz with h|⟨h,h'⟩
     all_goals
      go_wp21
      all_goals first|exact(zzU ‹_›).elim|skip
      go_ret;exact⟨4,rfl,by decide,hB⟩
    ·go_wp21
     all_goals first|exact(zzU ‹_›).elim|skip
     go_ret;exact⟨11,rfl,by decide,hB⟩
  ·go_wp21
   all_goals first|exact(zzU ‹_›).elim|skip
   refine zzM (D2.out _) λw2 hw=>?_;have hw2:=hw.symm;subst hw2;clear hw;cases b2
   ·go_wp21
    all_goals first|exact(zzU ‹_›).elim|skip
    go_ret;exact⟨11,rfl,by decide,hB⟩
   ·cases z1<;>cases z2<;>cases m<;>cases z3
    all_goals
     rcases hz with h|⟨h,h'⟩
     all_goals
      go_wp21
      all_goals first|exact(zzU ‹_›).elim|skip
      go_ret
      first|exact⟨4,rfl,by decide,hB⟩|exact⟨11,rfl,by decide,hB⟩
theorem zri {q:Rat}:okQ q↔(upS (numS q)).length<=300/\(dnS (numS q)).length<=300:=by
 obtain⟨h1,h2,_,_⟩:=zvg q;rw[h1,h2];unfold okQ denS digs;by_cases c:q.den=1
 ·rw[if_pos c,c,(zta 1).2 rfl];simp
 ·rw[if_neg c]
theorem zt5 (l:List UInt8) (hl:l.length<=1000) (w:zA) (hw:Wd w):
 zC zF 33 #[St l] w λe w'=>∃r:Int,e=.returned (.int .i64 r)/\(r=0↔∃q,l=numS q/\okQ q)/\zB w.heap.size w w':=by
 classical
 have sz:∀k:List UInt8,(⟨k.toArray⟩:ByteArray).size=k.length:=λk=>by show k.toArray.size=_;simp
 have lb:(bare l).length<=1000:=by
  have h2:(bare l).length<=l.length:=by unfold bare;split<;>simp
  omega
 have lu:(upS l).length<=1000:=zO (List.takeWhile_sublist _).length_le lb;have ld:(dnS l).length<=1000:=by
  have h1:((bare l).dropWhile (· !=47)).length<=(bare l).length:=(List.dropWhile_sublist _).length_le;have h3:(dnS l).length=((bare l).dropWhile (· !=47)).length-1:=by unfold dnS;rw[List.length_tail]
  omega
 have hd:∀k:List UInt8,k.length<=1000->∀W,zC zF 92 #[.string ⟨k.toArray⟩] W (λe w'=>e=.returned (.bool (decide (zcb k)))/\w'=W):=λk hk W=>by
  refine(zsg k (by omega) W).mono ?_;rintro e w' ⟨b,rfl,h,rfl⟩;refine⟨?_,rfl⟩;congr 2;cases b
  ·rw[eq_comm,decide_eq_false_iff_not];intro h';exact absurd (h.2 h') (by simp)
  ·rw[eq_comm,decide_eq_true_iff];exact h.1 rfl
 have hok:(∃q,l=numS q/\okQ q)↔okS l/\(upS l).length<=300/\(dnS l).length<=300:=by
  rw[zy2];constructor
  ·rintro⟨q,rfl,h⟩;exact⟨⟨q,rfl⟩,zri.1 h⟩
  ·rintro⟨⟨q,rfl⟩,h⟩;exact⟨q,rfl,zri.2 h⟩
 by_cases hL:(upS l).length<=300/\(dnS l).length<=300
 ·obtain⟨hu,hv⟩:=hL
  have e:(∃q,l=numS q/\okQ q)↔okS l:=by rw[hok];exact⟨λh=>h.1,λh=>⟨h,hu,hv⟩⟩
  simp only[e];refine zsl ⟨l.toArray⟩ ⟨(upS l).toArray⟩ ⟨(dnS l).toArray⟩ (decide (l.head? =some 45)) (decide ((47:UInt8)∈bare l)) (decide (zcb (upS l))) (decide (zcb (dnS l))) (decide (dnS l=[48])) (decide (dnS l=[49])) (decide (upS l=[48]))
   (Nat.gcd (val (upS l)) (val (dnS l))) (okS l) (by rw[sz];exact hu) (by rw[sz];exact hv) (hid ?_) (zeb _ _ rfl _) (zeb _ _ rfl _) (zeb _ _ rfl _)
   (hid λW=>zlq l (by omega) W) (hid λW=>hd _ lu W) (hid λW=>hd _ ld W) (hid λh1 h2 h3 h4=>?_) (hid λh1 h2=>?_) w (hid hw)
  ·rw[zuh]
   simp only[decide_eq_true_eq,decide_eq_false_iff_not,ne_eq]
  ·rw[sz] at h3 h4
   have n1:zcb (upS l):=of_decide_eq_true h1;have n2:zcb (dnS l):=of_decide_eq_true h2;refine⟨val (upS l),val (dnS l),λW=>zlj _ n1.2.1 h3 W,λW=>zlj _ n2.2.1 h4 W,λW=>?_⟩;have b1:=zS (zjc _ n1.2.1) (yF (by omega) h3:10^(upS l).length<=10^9);have b2:=zS (zjc _ n2.2.1) (yF (by omega) h4:10^(dnS l).length<=10^9);refine(zxf _ _ (by omega) (by omega) W).mono ?_;rintro e w' ⟨nd,rfl,rfl⟩;exact⟨rfl,zao (zM _ _) _⟩
  ·have n1:zcb (upS l):=of_decide_eq_true h1
   have n2:zcb (dnS l):=of_decide_eq_true h2;refine⟨⟨(zD (Nat.gcd (val (upS l)) (val (dnS l)))).toArray⟩,?_,λW hW=>?_⟩
   ·rw[zeb _ _ rfl]
    exact decide_eq_decide.2 (zta _)
   ·have:=zxp (val (upS l):Int) (val (dnS l):Int) (by unfold digs;rw[Int.natAbs_natCast,zdd n1];exact hu) (by unfold digs;rw[Int.natAbs_natCast,zdd n2];exact hv) W hW
    rw[Str.zad,Str.zad,Str.zad,zdd n1,zdd n2] at this;exact this
 ·refine(zt4 ⟨l.toArray⟩ ⟨(upS l).toArray⟩ ⟨(dnS l).toArray⟩ (decide (l.head? =some 45)) (decide ((47:UInt8)∈bare l)) (decide (zcb (upS l))) (decide (zcb (dnS l))) (decide (dnS l=[48])) (decide (dnS l=[49])) (decide (upS l=[48])) ?_ (zeb _ _ rfl _) (zeb _ _ rfl _) (zeb _ _ rfl _)
   (hid λW=>zlq l (by omega) W) (hid λW=>hd _ lu W) (hid λW=>hd _ ld W) w).mono ?_
  ·rw[sz,sz];omega
  ·rintro e w' ⟨r,rfl,hr,hb⟩
   exact⟨r,rfl,⟨λk=>absurd k hr,λk=>absurd (hok.1 k).2 hL⟩,hb⟩
def RowSt (p:Option Addr) (l:List (List UInt8)) (W:zA):Prop:=∀i,i<l.length->∃b off,p=some ⟨b,off,none⟩/\W.cell? ⟨b,off+i,none⟩=some (St (l[i]?.getD []))
theorem RowSt.keep {p:Option Addr} {l:List (List UInt8)} {W W':zA} (h:RowSt p l W) (hc:CellsKept W W'):RowSt p l W':=λi hi=>let ⟨b,off,e,h1⟩:=h i hi;⟨b,off,e,hc.cell h1⟩
end
section
open Go.RowKit Go.Shelf Lib Str Limb Geo
attribute [local go_sem] Oper.semAt_some
def ze5 (l:List Pt) (q:Pt) (k:Nat):Prop:=
 (cmpR (cor l k).y q.y<=0/\0<cmpR (cor l (k+1)).y q.y/\0<turn (cor l k) (cor l (k+1)) q)\/(cmpR (cor l (k+1)).y q.y<=0/\0<cmpR (cor l k).y q.y/\turn (cor l k) (cor l (k+1)) q<0)
instance (l:List Pt) (q:Pt) (k:Nat):Decidable (ze5 l q k):=by unfold ze5;infer_instance
end
section
open Go.RowKit Go.Shelf Lib Str Limb
attribute [local go_sem] Oper.semAt_some
theorem zsc:(Tryz.prog.info? 37).map (λi=>(i.zero,i.size,i.bytes))=some (some (.agg #[St [],St []]),2,32):=by kernel_rfl
theorem zoq (W:zA) (x y:Value) (t:TypeId):∀i u,[x,y][i]? =some u->(W.alloc (.cells #[x,y] t)).cell? ((⟨W.heap.size,0,none⟩:Addr).add i)=some u:=λi u hu=>by
 have A:=zG W (.cells #[x,y] t);have:((⟨W.heap.size,0,none⟩:Addr).add i)=⟨W.heap.size,i,none⟩:=by simp only[Addr.add,Nat.zero_add];split<;>simp_all
 rw[this,zJ A]
 match i,hu with
 |0,hu=>exact hu
 |1,hu=>exact hu
theorem zm4 (x y:List UInt8):∀u∈[St x,St y],u.oneCell'=true:=λu hu=>by
 simp at hu;rcases hu with rfl|rfl<;>rfl
theorem zgy (n:Nat) (W:zA):zC zF 55 #[St (zD n),.string ⟨#[45]⟩] W λe w'=>e=.returned (.bool false)/\w'=W:=by
 have hc:=Tryz.strings_HasPrefix ⟨(zD n).toArray⟩ ⟨#[45]⟩ W;obtain⟨c,r,e,hc1,_⟩:=dec_head n;have hc5:c≠45:=λh=>by subst h;simp at hc1
 have hp:Lib.hasPrefix (zD n) [45]=false:=by rw[e];simp[Lib.hasPrefix,List.isPrefixOf,Ne.symm hc5]
 rw[show(⟨(zD n).toArray⟩:ByteArray).data.toList=zD n from rfl,show(⟨#[45]⟩:ByteArray).data.toList=[45] from rfl,hp] at hc;exact hc
end
section
open Go.RowKit Go.Shelf Lib Str Limb Geo
attribute [local go_sem] Oper.semAt_some
theorem zye {w:zA} {base:Nat} {t:TypeId} {s:Nat} {v:Value} {n:Nat} {xs:List Value} (h:w.ownsRow base t s v n xs) (hn:0<n):
 ∃g c,v=.slice (some ⟨g,0,none⟩) n c/\base<=g/\∀i u,xs[i]? =some u->w.cell? ⟨g,i,none⟩=some u:=by
 rcases h.2 with⟨_,e⟩|⟨g,cp,cur,e,hg1,hg2,_,_,hcs,htk⟩
 ·omega
 ·refine⟨g,cp,e,hg1,λi u hu=>?_⟩
  rw[zJ hg2,<-Array.getElem?_toList];rw[<-htk,List.getElem?_take] at hu;split at hu
  ·exact hu
  ·cases hu
end
section
open Go.RowKit Go.Shelf Lib Str Limb
attribute [local go_sem] Oper.semAt_some
def zbj:List (List UInt8×List UInt8)->List Value
 |[]=>[]
 |c::l=>St c.1::St c.2::zbj l
theorem zn8:∀l,(zbj l).length=l.length*2
 |[]=>rfl
 |c::l=>by simp[zbj,zn8 l];omega
theorem zjb:∀l r,zbj (l++r)=zbj l++zbj r
 |[],_=>rfl
 |c::l,r=>by simp[zbj,zjb l r]
theorem zpb:∀(l:List (List UInt8×List UInt8)) (i:Nat) (c:List UInt8×List UInt8),l[i]? =some c->(zbj l)[i*2]? =some (St c.1)/\(zbj l)[i*2+1]? =some (St c.2)
 |c::l,0,d,h=>by simp at h;subst h;exact⟨rfl,rfl⟩
 |c::l,i+1,d,h=>by
  have:=zpb l i d (by simpa using h);rw[show(i+1)*2=i*2+1+1 by omega];exact this
structure GatL (gb:Nat) (l:List (List UInt8×List UInt8)) (W:zA):Prop where
 cls:∃v,W.cell? ⟨gb,0,none⟩=some v/\W.ownsRow (gb+1) 97 2 v l.length (zbj l)
 fr:W.frozen? ⟨gb,0,none⟩=false
theorem GatL.keep {gb:Nat} {l:List (List UInt8×List UInt8)} {W W':zA} (h:GatL gb l W) (hc:CellsKept W W'):GatL gb l W':=
 let ⟨v,h1,h2⟩:=h.cls
 ⟨⟨v,hc.cell h1,zcj hc h2⟩,hc.frozen h1 h.fr⟩
def RowCl (p:Option Addr) (l:List (List UInt8×List UInt8)) (W:zA):Prop:=∀i c,l[i]? =some c->∃g,p=some ⟨g,0,none⟩/\W.cell? ⟨g,i*2,none⟩=some (St c.1)/\W.cell? ⟨g,i*2+1,none⟩=some (St c.2)
theorem RowCl.keep {p:Option Addr} {l:List (List UInt8×List UInt8)} {W W':zA} (h:RowCl p l W) (hc:CellsKept W W'):RowCl p l W':=λi c hi=>let ⟨g,e,h1,h2⟩:=h i c hi;⟨g,e,hc.cell h1,hc.cell h2⟩
theorem GatL.row {gb:Nat} {l:List (List UInt8×List UInt8)} {W:zA} (h:GatL gb l W):∃p cap,W.cell? ⟨gb,0,none⟩=some (.slice p l.length cap)/\W.ownsRow (gb+1) 97 2 (.slice p l.length cap) l.length (zbj l)/\RowCl p l W:=by
 obtain⟨v,h1,h2⟩:=h.cls;rcases Nat.eq_zero_or_pos l.length with e|e
 ·rcases h2.2 with⟨rfl,e1⟩|⟨g,cp,cur,rfl,_⟩
  ·refine⟨none,0,by rw[e];exact h1,by rw[e] at h2⊢;exact h2,λi c hi=>?_⟩
   rw[List.length_eq_zero_iff.1 e] at hi;simp at hi
  ·refine⟨_,cp,h1,h2,λi c hi=>?_⟩
   rw[List.length_eq_zero_iff.1 e] at hi;simp at hi
 ·obtain⟨g,c,rfl, -,hx⟩:=zye h2 e
  refine⟨_,c,h1,h2,λi d hi=>⟨g,rfl,?_,?_⟩⟩
  ·exact hx _ _ (zpb l i d hi).1
  ·exact hx _ _ (zpb l i d hi).2
structure AdnS (W:zA) (x xr:List UInt8) (l:List (List UInt8×List UInt8)) (n:Nat) (v0:Value) (gb:Nat) (b:Nat×Value) (f:Nat->Bool) (X:zA):Prop where
 pre:f 11=false->qL W X
 new:f 11=false->f 10=true->X.cell? ⟨b.1,0,none⟩=some (St x)/\X.cell? ⟨b.1,1,none⟩=some (St xr)
 post:f 11=true->∃Y Z,qL W Y/\Y.grownBy Z v0.ownBlock/\Z.ownsRow (gb+1) 97 2 b.2 (n+1) (zbj l++[St x,St xr])/\X=if f 14=true then Z.setCell ⟨gb,0,none⟩ b.2 else Z
theorem AdnS.congr {W:zA} {x xr:List UInt8} {l:List (List UInt8×List UInt8)} {n:Nat} {v0:Value} {gb:Nat} {b:Nat×Value} {f g:Nat->Bool} {X:zA} (h:AdnS W x xr l n v0 gb b f X) (e10:g 10=f 10) (e11:g 11=f 11) (e14:g 14=f 14):AdnS W x xr l n v0 gb b g X:=
 ⟨by rw[e11];exact h.pre,by rw[e10,e11];exact h.new,by rw[e11,e14];exact h.post⟩
theorem zot (gb:Nat) (l:List (List UInt8×List UInt8)) (x xr:List UInt8) (hl:l.length<=5000)
 (R:Hid (∀(i:Nat) (c:List UInt8×List UInt8),l[i]? =some c->∃k,qK 121 #[St xr,St c.2] (.tuple #[.string k,.bool false,.int .i64 0])))
 (w:zA) (HW:Hid (Wd w)) (HG:Hid (GatL gb l w)):
 zC zF 57 #[.pointer (some ⟨gb,0,none⟩),.agg #[St x,St xr]] w λe w'=>e=.returned (.int .i64 0)/\zB gb w w'/\GatL gb (l++[(x,xr)]) w':=by
 obtain⟨i0,hi,hz0,hz1,hz2⟩:=info_parts zx5;obtain⟨p,cap,g0,o0,r0⟩:=HG.out.row;have hlt:=zbe g0;obtain⟨W1,hW1⟩:=zzX (w.alloc (.cells #[St x,St xr] 37));have hb1:qL w W1:=by rw[hW1];exact(zM _ w).alloc (zN _) _
 have A1:W1.heap[w.heap.size]? =some (.cells #[St x,St xr] 37 (0,0)):=by rw[hW1];exact zG w _
 have c0:=zai hb1 g0;rw[hW1] at c0;have HW1:=hid hW1.symm;have HB1:=hid hb1;have HA1:=hid A1;have HR0:=hid r0;have HO:=hid o0;have HG0:=hid g0;obtain⟨n,hn⟩:=zzX l.length;rw[<-hn] at c0 hl HO HG0;have HN:=hid hn;clear hW1 hb1 A1 r0 o0 g0 hn;go_enter Tryz.func57,Tryz.ntmps57;go_wp21;rw[HW1.out];clear c0 HW1;go_loopw [19] (λi wr=>∃(k:Nat),k<=n/\i=.int .i64 (k:Int)/\Hid (qL w wr)/\Hid (wr.heap[w.heap.size]? =some (.cells #[St x,St xr] 37 (0,0))))
  (λi _=>n-(zL i).toNat)
 case atStart=>exact⟨0,zR _,rfl,HB1,HA1⟩
 case round=>
  obtain⟨k,hk,rfl,hB,hT⟩:=hrel;by_cases hlt:k<n
  ·obtain⟨c,hc⟩:∃c,l[k]? =some c:=⟨_,yB (by rw[<-HN.out];exact hlt)⟩
   obtain⟨g,rfl,c0,c1⟩:=(HR0.out.keep (zac hB.out)) k c hc;obtain⟨q,hR⟩:=R.out k c hc;obtain⟨y,yr⟩:=c;have HRT:=hid hR;clear hR hc;simp only at c0 c1 HRT;obtain⟨v1,hv⟩:=zzX (wr.alloc (.cells #[St y,St yr] 97));have a1:qL wr v1:=by rw[hv];exact(zM _ wr).alloc (zN _) _
   have A1:v1.heap[wr.heap.size]? =some (.cells #[St y,St yr] 97 (0,0)):=by rw[hv];exact zG wr _
   have T1:=zac a1 _ _ _ _ hT.out;have k1:v1.cell? ⟨wr.heap.size,1,none⟩=some (St yr):=by rw[zJ A1];rfl
   have t1:v1.cell? ⟨w.heap.size,1,none⟩=some (St xr):=by rw[zJ T1];rfl
   have E1:=hid (hB.out.trans (a1.mono hB.out.size));have HT1:=hid T1;rw[hv] at k1 t1;have HV:=hid hv.symm;clear hv a1 A1 T1;go_wp21;rw[HV.out];clear k1 t1 HV c0 c1;refine zzM (HRT.out v1 (HW.out.below E1.out)) λw2 hb2=>?_;have hB2:=hid (E1.out.trans (hb2.mono E1.out.size));have hT2:=hid (zac hb2 _ _ _ _ HT1.out);clear hb2 HRT E1 HT1;go_wp21;go_roundw
   case rel=>exact⟨k+1,by omega,by go_num,hB2,hT2⟩
   case measure=>simp[zL];omega
  ·have hkn:k=n:=by omega
   go_wp21;have hks:∀w':zA,qL wr w'->w'.cell? ⟨gb,0,none⟩=some (.slice p n cap)/\w'.cell? ⟨w.heap.size,0,none⟩=some (St x)/\w'.cell? ⟨w.heap.size,1,none⟩=some (St xr):=λw' hb=>
    ⟨zai hb (zai hB.out HG0.out),zai hb (by rw[zJ hT.out];rfl),zai hb (by rw[zJ hT.out];rfl)⟩
   have KS:=hid hks;have HF:=hid ((zac hB.out).frozen HG0.out HG.out.fr);have HOw:=hid (zcj (zac hB.out) HO.out);have hgs:gb<w.heap.size:=zbe HG0.out;have hws:=hB.out.size;have hne:some gb≠(Value.slice p n cap).ownBlock:=λe=>by have:=(HO.out.lt _ e.symm).1;omega
   have HNE:=hid hne;clear hks hne HR0 HG R hkn hk hlt HW HB1 HA1;refine zc4 (λ(b:Nat×Value) i=>([.pointer (some ⟨gb,0,none⟩),.pointer (some ⟨gb,0,none⟩),.pointer (some ⟨gb,0,none⟩),.pointer (some ⟨gb,0,none⟩),.slice p n cap,.pointer (some ⟨w.heap.size,0,none⟩),St x,.pointer (some ⟨w.heap.size,1,none⟩),St xr,.agg #[St x,St xr],.slice (some ⟨b.1,0,none⟩) 1 1,b.2,.pointer (some ⟨gb,0,none⟩),.pointer (some ⟨gb,0,none⟩)]:List Value).getD i undef) (AdnS wr x xr l n (.slice p n cap) gb) (by kernel_rfl) (by kernel_rfl) (0,.slice none 0 0) ⟨λ_=>(zM _ wr).drew,λ_ h=>(by cases h),λh=>(by cases h)⟩ λb=>?_;refine qB (.pointer (some ⟨gb,0,none⟩)) (λf W' h=>h.congr rfl rfl rfl) ?_;refine qB (.pointer (some ⟨gb,0,none⟩)) (λf W' h=>h.congr rfl rfl rfl) ?_;refine qB (.pointer (some ⟨gb,0,none⟩)) (λf W' h=>h.congr rfl rfl rfl) ?_;simp only[zzQ];refine qB (.pointer (some ⟨gb,0,none⟩)) (λf W' h=>h.congr rfl rfl rfl) ?_;refine qB (.slice p n cap) (λf W' h=>h.congr rfl rfl rfl) ?_ (hy:=λf W' hf h=>by have g:=KS.out _ (h.pre (hf.no (j:=11) hf.self (by kernel_rfl)));obtain⟨q0,q1,q2⟩:=g;go_simp);refine qB (.pointer (some ⟨w.heap.size,0,none⟩)) (λf W' h=>h.congr rfl rfl rfl) ?_;simp only[zzQ];refine qB (St x) (λf W' h=>h.congr rfl rfl rfl) ?_ (hy:=λf W' hf h=>by have g:=KS.out _ (h.pre (hf.no (j:=11) (hf.no (j:=10) (hf.no (j:=9) hf.self (by kernel_rfl)) (by kernel_rfl)) (by kernel_rfl)));obtain⟨q0,q1,q2⟩:=g;go_simp);refine qB (.pointer (some ⟨w.heap.size,1,none⟩)) (λf W' h=>h.congr rfl rfl rfl) ?_;refine qB (St xr) (λf W' h=>h.congr rfl rfl rfl) ?_ (hy:=λf W' hf h=>by have g:=KS.out _ (h.pre (hf.no (j:=11) (hf.no (j:=10) (hf.no (j:=9) hf.self (by kernel_rfl)) (by kernel_rfl)) (by kernel_rfl)));obtain⟨q0,q1,q2⟩:=g;go_simp);simp only[zzQ];refine qB (.agg #[St x,St xr]) (λf W' h=>h.congr rfl rfl rfl) ?_;simp only[zzQ]
   refine zdc (.slice (some ⟨b.1,0,none⟩) 1 1) (by rfl) (by rfl) (λf W' hf h C' hC'=>by
    have h11:=(hf.no (j:=11) hf.self (by kernel_rfl));have hp:=h.pre h11;have ha:qL W' (W'.alloc (.cells #[St x,St xr] 97)):=(zM _ W').alloc (zN _) _;have A:=zG W' (.cells #[St x,St xr] 97);have:=hC' (W'.heap.size,b.2) (W'.alloc (.cells #[St x,St xr] 97)) (λi hi=>?_) ⟨λ_=>hp.trans (ha.mono hp.size),λ_ _=>⟨by rw[zJ A];rfl,by rw[zJ A];rfl⟩,λk=>(by have k':f 11=true:=k;rw[h11] at k';cases k')⟩
    ·go_simp
     exact this
    ·match i,hi with
     |0,_|1,_|2,_|3,_|4,_|5,_|6,_|7,_|8,_|9,_|11,_|12,_|13,_=>rfl
     |10,hi=>rw[hf.self] at hi;cases hi
     |_+14,_=>rfl) ?_
   try simp only[zzQ]
   refine zdc b.2 (by rfl) (by rfl) (λf W' hf h C' hC'=>by
    have h11:=hf.self;have h14:=(hf.no (j:=14) hf.self (by kernel_rfl));have h10:=hf.done 10 (by kernel_rfl);have hp:=h.pre h11;obtain⟨n0,n1⟩:=h.new h11 h10;refine zmb _ W' _ _ 91 rfl (gb+1) 97 i0 (.agg #[St [],St []]) 2 32 Tryz.underlying91 hi hz0 hz1 hz2 rfl (by decide) (.slice p n cap) n (zbj l) rfl (zcj (zac hp) HOw.out) ⟨b.1,0,none⟩ 1 1 [St x,St xr] rfl rfl (λi u hu=>?_) (λu hu=>?_) (by unfold maxLen;omega) (by omega) (by have:=hp.size;omega) (λv' w' hown' hgrow=>?_)
    ·match i,hu with
     |0,hu=>simp at hu;subst hu;exact n0
     |1,hu=>simp at hu;subst hu;exact n1
     |_+2,hu=>simp at hu
    ·simp at hu;rcases hu with rfl|rfl<;>rfl
    ·refine hC' (b.1,v') w' (λi hi=>?_) ⟨λk=>?_,λk=>?_,λ_=>⟨W',w',hp,hgrow,hown',?_⟩⟩
     ·match i,hi with
      |0,_|1,_|2,_|3,_|4,_|5,_|6,_|7,_|8,_|9,_|10,_|12,_|13,_=>rfl
      |11,hi=>rw[hf.self] at hi;cases hi
      |_+14,_=>rfl
     ·cases k
     ·cases k
     ·show w'=if f 14=true then _ else w'
      rw[h14];rfl) ?_
   refine qB (.pointer (some ⟨gb,0,none⟩)) (λf W' h=>h.congr rfl rfl rfl) ?_;refine qB (.pointer (some ⟨gb,0,none⟩)) (λf W' h=>h.congr rfl rfl rfl) ?_;simp only[zzQ]
   refine zbv undef (by rfl) (by rfl) (λf W' hf h C' hC'=>by
    have h11:=hf.done 11 (by kernel_rfl);have h14:=hf.self;obtain⟨Y,Z,hY,hZ,hz',rfl⟩:=h.post h11;rw[h14,if_neg (by simp)] at*
    have hc0:=(KS.out _ hY).1;have hcell:=hZ.cell hc0 HNE.out;have hfr:Z.frozen? ⟨gb,0,none⟩=false:=by
     rw[World.frozen?_of_block (a:=⟨gb,0,none⟩) (hZ.block _ (zbe hc0) HNE.out)];exact(zac hY).frozen (KS.out _ (zM _ wr)).1 HF.out
    have:=hC' (Z.setCell ⟨gb,0,none⟩ b.2) ⟨λk=>(by have k':f 11=false:=k;rw[h11] at k';cases k'),λk=>(by have k':f 11=false:=k;rw[h11] at k';cases k'),λ_=>⟨Y,Z,hY,hZ,hz',rfl⟩⟩;obtain⟨q,m,c,e2⟩:∃q m c,b.2=.slice q m c:=by
     rcases hz'.2 with⟨e,_⟩|⟨g,cp,cur,e,_⟩<;>exact⟨_,_,_,e⟩
    rw[e2] at this;go_simp;exact this) ?_
   try simp only[Act.put]
   refine ze1 λf X hf h=>?_;obtain⟨Y,Z,hY,hZ,hz',rfl⟩:=h.post (hf 11 (by decide));rw[if_pos (hf 14 (by decide))];have hc0:=(KS.out _ hY).1;have hcell:=hZ.cell hc0 HNE.out;have hfr:Z.frozen? ⟨gb,0,none⟩=false:=by
    rw[World.frozen?_of_block (a:=⟨gb,0,none⟩) (hZ.block _ (zbe hc0) HNE.out)];exact(zac hY).frozen (KS.out _ (zM _ wr)).1 HF.out
   have hbel:zB gb w (Z.setCell ⟨gb,0,none⟩ b.2):=by
    have h1:zB gb w Y:=(hB.out.mono (by omega)).trans (hY.mono (by omega));exact(h1.grown hZ (by have:=hY.size;omega) (λq e=>by have:=(HO.out.lt q e).1;omega)).setCell (by simp) _
   have hgate:GatL gb (l++[(x,xr)]) (Z.setCell ⟨gb,0,none⟩ b.2):=by
    refine⟨⟨b.2,za9 hcell,?_⟩,by rw[World.frozen?_setCell];exact hfr⟩;rw[zjb,List.length_append,<-HN.out];show World.ownsRow _ _ _ _ _ (n+1) (zbj l++[St x,St xr]);exact ownsRow_setCell_below hz' (by simp) _
   have HE:=hid (⟨hbel,hgate⟩:zB gb w (Z.setCell ⟨gb,0,none⟩ b.2)/\GatL gb (l++[(x,xr)]) (Z.setCell ⟨gb,0,none⟩ b.2));clear hbel hgate hcell hfr hY hZ hz' h hf hc0;go_wp21;go_ret;exact⟨rfl,HE.out⟩
theorem z4d:∀(l:List (List UInt8×List UInt8)) (k:Nat) (c:List UInt8×List UInt8),zbj (l.set k c)=((zbj l).set (k*2) (St c.1)).set (k*2+1) (St c.2)
 |[],_,_=>rfl
 |_::_,0,_=>rfl
 |d::l,k+1,c=>by
  rw[show(k+1)*2=k*2+1+1 by omega];simp[zbj,z4d l k c]
theorem z42 {W:zA} {B g n cap:Nat} {e:TypeId} {s:Nat} {xs:List Value} (h:W.ownsRow B e s (.slice (some ⟨g,0,none⟩) n cap) n xs) (i:Nat):W.frozen? ⟨g,i,none⟩=false:=by
 rcases h.2 with⟨e1,_⟩|⟨g',cp,cur,e1,_,hg,_⟩
 ·cases e1
 ·cases e1;exact Go.Joins.unfrozen_of_block hg i
theorem z6l {W:zA} {B g n cap k:Nat} {e:TypeId} {l:List (List UInt8×List UInt8)} {z zr:List UInt8} (h:W.ownsRow B e 2 (.slice (some ⟨g,0,none⟩) n cap) n (zbj l)) (hn:n=l.length) (_:k<n):
 ((W.setCell ⟨g,k*2,none⟩ (St z)).setCell ⟨g,k*2+1,none⟩ (St zr)).ownsRow B e 2 (.slice (some ⟨g,0,none⟩) n cap) n (zbj (l.set k (z,zr))):=by
 refine⟨by rw[zn8,List.length_set,hn],?_⟩;rcases h.2 with⟨e1,_⟩|⟨g',cp,cur,e1,h1,hg,h2,h3,h4,h5⟩
 ·cases e1
 ·cases e1
  refine .inr ⟨g,cap,_,rfl,h1,zK (i:=k*2+1) (zK (i:=k*2) hg (St z)) (St zr),h2,h3,by simpa using h4,?_⟩;rw[z4d,<-h5];simp[List.take_set]
theorem zrp (gb:Nat) (l:List (List UInt8×List UInt8)) (x xr y yr z zr:List UInt8) (kk:ByteArray) (j:Nat) (nn:Int) (o:Bool) (hl:l.length<=5000) (hj:l[j]? =some (y,yr)) (hnn:decide (nn<0)=o)
 (R:Hid (∀(i:Nat) (c:List UInt8×List UInt8),i<j->l[i]? =some c->∃k,qK 121 #[St xr,St c.2] (.tuple #[.string k,.bool false,.int .i64 0])))
 (R1:Hid (qK 121 #[St xr,St yr] (.tuple #[.string kk,.bool true,.int .i64 0])))
 (CM:Hid (qK 27 #[St xr,St yr] (.tuple #[.int .i64 nn,.int .i64 0])))
 (P:Hid (qK 122 #[bif o then .agg #[St x,St xr] else .agg #[St y,St yr],bif o then .agg #[St y,St yr] else .agg #[St x,St xr]] (.tuple #[.agg #[St z,St zr],.int .i64 0])))
 (w:zA) (HW:Hid (Wd w)) (HG:Hid (GatL gb l w)):
 zC zF 57 #[.pointer (some ⟨gb,0,none⟩),.agg #[St x,St xr]] w λe w'=>e=.returned (.int .i64 0)/\zB gb w w'/\GatL gb (l.set j (z,zr)) w':=by
 obtain⟨p,cap,g0,o0,r0⟩:=HG.out.row;have hlt:=zbe g0;obtain⟨W1,hW1⟩:=zzX (w.alloc (.cells #[St x,St xr] 37));have hb1:qL w W1:=by rw[hW1];exact(zM _ w).alloc (zN _) _
 have A1:W1.heap[w.heap.size]? =some (.cells #[St x,St xr] 37 (0,0)):=by rw[hW1];exact zG w _
 have c0:=zai hb1 g0;rw[hW1] at c0;have HW1:=hid hW1.symm;have HB1:=hid hb1;have HA1:=hid A1;have HR0:=hid r0;have HO:=hid o0;have HG0:=hid g0;obtain⟨n,hn⟩:=zzX l.length;have hjn:j<n:=by rw[hn];exact(List.getElem?_eq_some_iff.1 hj).1
 rw[<-hn] at c0 hl HO HG0;have HN:=hid hn;have HJ:=hid hj;clear hW1 hb1 A1 r0 o0 g0 hn hj;go_enter Tryz.func57,Tryz.ntmps57;go_wp21;rw[HW1.out];clear c0 HW1;go_loopw [19] (λi wr=>∃(k:Nat),k<=j/\i=.int .i64 (k:Int)/\Hid (qL w wr)/\Hid (wr.heap[w.heap.size]? =some (.cells #[St x,St xr] 37 (0,0))))
  (λi _=>n-(zL i).toNat)
 case atStart=>exact⟨0,zR _,rfl,HB1,HA1⟩
 case round=>
  obtain⟨k,hk,rfl,hB,hT⟩:=hrel;have hlt:k<n:=by omega
  by_cases hkj:k<j
  ·obtain⟨c,hc⟩:∃c,l[k]? =some c:=⟨_,yB (by rw[<-HN.out];exact hlt)⟩
   obtain⟨g,rfl,c0,c1⟩:=(HR0.out.keep (zac hB.out)) k c hc;obtain⟨q,hR⟩:=R.out k c hkj hc;obtain⟨u,ur⟩:=c;have HRT:=hid hR;clear hR hc;simp only at c0 c1 HRT;obtain⟨v1,hv⟩:=zzX (wr.alloc (.cells #[St u,St ur] 97));have a1:qL wr v1:=by rw[hv];exact(zM _ wr).alloc (zN _) _
   have A1:v1.heap[wr.heap.size]? =some (.cells #[St u,St ur] 97 (0,0)):=by rw[hv];exact zG wr _
   have T1:=zac a1 _ _ _ _ hT.out;have k1:v1.cell? ⟨wr.heap.size,1,none⟩=some (St ur):=by rw[zJ A1];rfl
   have t1:v1.cell? ⟨w.heap.size,1,none⟩=some (St xr):=by rw[zJ T1];rfl
   have E1:=hid (hB.out.trans (a1.mono hB.out.size));have HT1:=hid T1;rw[hv] at k1 t1;have HV:=hid hv.symm;clear hv a1 A1 T1;go_wp21;rw[HV.out];clear k1 t1 HV c0 c1;refine zzM (HRT.out v1 (HW.out.below E1.out)) λw2 hb2=>?_;have hB2:=hid (E1.out.trans (hb2.mono E1.out.size));have hT2:=hid (zac hb2 _ _ _ _ HT1.out);clear hb2 HRT E1 HT1;go_wp21;go_roundw
   case rel=>exact⟨k+1,by omega,by go_num,hB2,hT2⟩
   case measure=>simp[zL];omega
  ·have hkn:k=j:=by omega
   subst hkn;obtain⟨g,rfl,c0,c1⟩:=(HR0.out.keep (zac hB.out)) k (y,yr) HJ.out;simp only at c0 c1;obtain⟨v1,hv⟩:=zzX (wr.alloc (.cells #[St y,St yr] 97));have hvs:wr.heap.size+1=v1.heap.size:=by rw[hv];simp
   have a1:qL wr v1:=by rw[hv];exact(zM _ wr).alloc (zN _) _
   have A1:v1.heap[wr.heap.size]? =some (.cells #[St y,St yr] 97 (0,0)):=by rw[hv];exact zG wr _
   have T1:=zac a1 _ _ _ _ hT.out;have k1:v1.cell? ⟨wr.heap.size,1,none⟩=some (St yr):=by rw[zJ A1];rfl
   have t1:v1.cell? ⟨w.heap.size,1,none⟩=some (St xr):=by rw[zJ T1];rfl
   have E1:=hid (hB.out.trans (a1.mono hB.out.size));have HT1:=hid T1;have HK1:=hid A1;rw[hv] at k1 t1;have HV:=hid hv.symm;clear hv a1 A1 T1;go_wp21;rw[HV.out];clear k1 t1 HV c0 c1;refine zzM (R1.out v1 (HW.out.below E1.out)) λw2 hb2=>?_;have E2:=hid (E1.out.trans (hb2.mono E1.out.size));have HT2:=hid (zac hb2 _ _ _ _ HT1.out);have hlw2:wr.heap.size<w2.heap.size:=zS (by omega) hb2.size;have HK2:=hid (zac hb2 _ _ _ _ HK1.out);clear hb2 R1 E1 HT1 HK1;have t0:w2.cell? ⟨w.heap.size,0,none⟩=some (St x):=by rw[zJ HT2.out];rfl
   have t1:w2.cell? ⟨w.heap.size,1,none⟩=some (St xr):=by rw[zJ HT2.out];rfl
   obtain⟨w3,hw3⟩:=zzX (w2.alloc (.cells #[St x,St xr] 97));have b3:qL w2 w3:=by rw[hw3];exact(zM _ w2).alloc (zN _) _
   have A3:w3.heap[w2.heap.size]? =some (.cells #[St x,St xr] 97 (0,0)):=by rw[hw3];exact zG w2 _
   have E3:=hid (E2.out.trans (b3.mono E2.out.size));have HK3:=hid (zac b3 _ _ _ _ HK2.out);have p1:w3.cell? ⟨wr.heap.size,1,none⟩=some (St yr):=by rw[zJ HK3.out];rfl
   have p2:w3.cell? ⟨w2.heap.size,1,none⟩=some (St xr):=by rw[zJ A3];rfl
   rw[hw3] at p1 p2;have HA3:=hid A3;have HW3:=hid hw3.symm;clear hw3 b3 A3;go_wp21;rw[HW3.out];clear t0 t1 p1 p2 HW3 E2 HK2 HT2;refine zzM (CM.out w3 (HW.out.below E3.out)) λw4 hb4=>?_;have E4:=hid (E3.out.trans (hb4.mono E3.out.size));have HK4:=hid (zac hb4 _ _ _ _ HK3.out);have HA4:=hid (zac hb4 _ _ _ _ HA3.out);clear hb4 E3 HK3 HA3 CM;have hlow:=hB.out.size;have l0:w4.cell? ⟨wr.heap.size,0,none⟩=some (St y):=by rw[zJ HK4.out];rfl
   have l1:w4.cell? ⟨wr.heap.size,1,none⟩=some (St yr):=by rw[zJ HK4.out];rfl
   have p0:w4.cell? ⟨w2.heap.size,0,none⟩=some (St x):=by rw[zJ HA4.out];rfl
   have p1:w4.cell? ⟨w2.heap.size,1,none⟩=some (St xr):=by rw[zJ HA4.out];rfl
   cases o
   case' true=>
    have hab:wr.heap.size<w2.heap.size:=hlw2;have f0:w4.frozen? ⟨wr.heap.size,0,none⟩=false:=Go.Joins.unfrozen_of_block HK4.out 0;have f1:w4.frozen? ⟨wr.heap.size,1,none⟩=false:=Go.Joins.unfrozen_of_block HK4.out 1;have f2:w4.frozen? ⟨w2.heap.size,0,none⟩=false:=Go.Joins.unfrozen_of_block HA4.out 0;have f3:w4.frozen? ⟨w2.heap.size,1,none⟩=false:=Go.Joins.unfrozen_of_block HA4.out 1;obtain⟨v4,hv4⟩:=zzX ((((w4.setCell ⟨wr.heap.size,0,none⟩ (St x)).setCell ⟨wr.heap.size,1,none⟩ (St xr)).setCell ⟨w2.heap.size,0,none⟩ (St y)).setCell ⟨w2.heap.size,1,none⟩ (St yr));have V1:v4.heap[wr.heap.size]? =some (.cells #[St x,St xr] 97 (0,0)):=by
     rw[hv4,yE _ _ _ _ (by show wr.heap.size≠w2.heap.size;omega),yE _ _ _ _ (by show wr.heap.size≠w2.heap.size;omega)];exact zK (i:=1) (zK (i:=0) HK4.out _) _
    have V2:v4.heap[w2.heap.size]? =some (.cells #[St y,St yr] 97 (0,0)):=by
     have hA:((w4.setCell ⟨wr.heap.size,0,none⟩ (St x)).setCell ⟨wr.heap.size,1,none⟩ (St xr)).heap[w2.heap.size]? =some (.cells #[St x,St xr] 97 (0,0)):=by
      rw[yE _ _ _ _ (by show w2.heap.size≠wr.heap.size;omega),yE _ _ _ _ (by show w2.heap.size≠wr.heap.size;omega)];exact HA4.out
     rw[hv4];exact zK (i:=1) (zK (i:=0) hA _) _
    have VB:qL w v4:=by
     rw[hv4];exact(((E4.out.setCell (by show w.heap.size<=wr.heap.size;omega) _).setCell (by show w.heap.size<=wr.heap.size;omega) _).setCell (by show w.heap.size<=w2.heap.size;omega) _).setCell (by show w.heap.size<=w2.heap.size;omega) _
    have q0:v4.cell? ⟨wr.heap.size,0,none⟩=some (St x):=by rw[zJ V1];rfl
    have q1:v4.cell? ⟨wr.heap.size,1,none⟩=some (St xr):=by rw[zJ V1];rfl
    have q2:v4.cell? ⟨w2.heap.size,0,none⟩=some (St y):=by rw[zJ V2];rfl
    have q3:v4.cell? ⟨w2.heap.size,1,none⟩=some (St yr):=by rw[zJ V2];rfl
    rw[hv4] at q0 q1 q2 q3;have u1:(w4.setCell ⟨wr.heap.size,0,none⟩ (St x)).frozen? ⟨wr.heap.size,1,none⟩=false:=by rw[World.frozen?_setCell];exact f1
    have u2:((w4.setCell ⟨wr.heap.size,0,none⟩ (St x)).setCell ⟨wr.heap.size,1,none⟩ (St xr)).frozen? ⟨w2.heap.size,0,none⟩=false:=by rw[World.frozen?_setCell,World.frozen?_setCell];exact f2
    have u3:(((w4.setCell ⟨wr.heap.size,0,none⟩ (St x)).setCell ⟨wr.heap.size,1,none⟩ (St xr)).setCell ⟨w2.heap.size,0,none⟩ (St y)).frozen? ⟨w2.heap.size,1,none⟩=false:=by rw[World.frozen?_setCell,World.frozen?_setCell,World.frozen?_setCell];exact f3
    have HV4:=hid hv4.symm;have HVB:=hid VB;clear hv4 V1 V2 VB;go_wp21;rw[HV4.out];clear l0 l1 p0 p1 f0 f1 f2 f3 q0 q1 q2 q3 u1 u2 u3 HV4 E4 HK4 HA4
   case' false=>
    have HVB:=E4;clear E4 HK4 HA4 hlow hlw2;go_wp21;clear l0 l1 p0 p1
   all_goals
    refine zzM (P.out _ (HW.out.below HVB.out)) λw5 hb5=>?_;have E5:=qT HVB hb5;clear hb5 HVB P;obtain⟨w6,hw6⟩:=zzX (w5.alloc (.cells #[St z,St zr] 97));have b6:qL w5 w6:=by rw[hw6];exact(zM _ w5).alloc (zN _) _
    have A6:w6.heap[w5.heap.size]? =some (.cells #[St z,St zr] 97 (0,0)):=by rw[hw6];exact zG w5 _
    have hB6:=E5.out.trans (b6.mono E5.out.size);have HW6:=hid hw6.symm;clear hw6 b6;go_wp21;rw[HW6.out];clear HW6;obtain⟨g',e',r0,r1⟩:=(HR0.out.keep (zac hB6)) k (y,yr) HJ.out;obtain rfl:g=g':=by cases e';rfl
    have hgs:gb<w.heap.size:=zbe HG0.out;have m0:w6.drew.cell? ⟨gb,0,none⟩=some (.slice (some ⟨g,0,none⟩) n cap):=zai hB6 HG0.out;have m2:w6.drew.cell? ⟨g,k*2,none⟩=some (St y):=r0;have m3:w6.drew.cell? ⟨g,k*2+1,none⟩=some (St yr):=r1;have o6:w6.drew.ownsRow (gb+1) 97 2 (.slice (some ⟨g,0,none⟩) n cap) n (zbj l):=zcj (zac hB6) HO.out;have hgg:gb<g:=(o6.lt g rfl).1;have m4:w6.drew.frozen? ⟨g,k*2,none⟩=false:=z42 o6 _;have m5:w6.drew.frozen? ⟨g,k*2+1,none⟩=false:=z42 o6 _;have m6:w6.drew.cell? ⟨w5.heap.size,0,none⟩=some (St z):=by rw[zJ (show w6.drew.heap[w5.heap.size]? =_ from A6)];rfl
    have m7:w6.drew.cell? ⟨w5.heap.size,1,none⟩=some (St zr):=by rw[zJ (show w6.drew.heap[w5.heap.size]? =_ from A6)];rfl
    have n2:w6.cell? ⟨g,k*2,none⟩=some (St y):=m2;have n3:w6.cell? ⟨g,k*2+1,none⟩=some (St yr):=m3;have n4:w6.frozen? ⟨g,k*2,none⟩=false:=m4;have n5:w6.frozen? ⟨g,k*2+1,none⟩=false:=m5;have HF:=hid ((zac hB6).frozen HG0.out HG.out.fr);have HO6:=hid o6;have HM0:=hid m0;have HB6:=hid hB6;clear R HR0 HB1 HA1 HG r0 r1 e' o6 hT hB;refine zc4 (λ(_:Unit) i=>([.pointer (some ⟨gb,0,none⟩),.pointer (some ⟨gb,0,none⟩),.pointer (some ⟨gb,0,none⟩),.slice (some ⟨g,0,none⟩) n cap,.int .i64 (k:Int),.agg #[St z,St zr],.pointer (some ⟨g,k*2,none⟩)]:List Value).getD i undef) (λ_ f W'=>(f 7=false->W'=w6.drew)/\(f 7=true->W'=((w6.drew.setCell ⟨g,k*2,none⟩ (St z)).setCell ⟨g,k*2+1,none⟩ (St zr)))) (by kernel_rfl) (by kernel_rfl) () ⟨λ_=>rfl,λh=>(by cases h)⟩ λb=>?_;refine qB (.pointer (some ⟨gb,0,none⟩)) (λf W' h=>⟨h.1,h.2⟩) ?_ (hy:=λf W' hf h=>by
     obtain rfl:=h.1 (hf.no (j:=7) hf.self (by kernel_rfl));go_simp)
    refine qB (.pointer (some ⟨gb,0,none⟩)) (λf W' h=>⟨h.1,h.2⟩) ?_ (hy:=λf W' hf h=>by
     obtain rfl:=h.1 (hf.no (j:=7) hf.self (by kernel_rfl));go_simp)
    refine qB (.pointer (some ⟨gb,0,none⟩)) (λf W' h=>⟨h.1,h.2⟩) ?_ (hy:=λf W' hf h=>by
     obtain rfl:=h.1 (hf.no (j:=7) hf.self (by kernel_rfl));go_simp)
    try simp only[zzQ]
    refine qB (.slice (some ⟨g,0,none⟩) n cap) (λf W' h=>⟨h.1,h.2⟩) ?_ (hy:=λf W' hf h=>by
     obtain rfl:=h.1 (hf.no (j:=7) hf.self (by kernel_rfl));go_simp)
    refine qB (.int .i64 (k:Int)) (λf W' h=>⟨h.1,h.2⟩) ?_ (hy:=λf W' hf h=>by
     obtain rfl:=h.1 (hf.no (j:=7) hf.self (by kernel_rfl));go_simp)
    refine qB (.agg #[St z,St zr]) (λf W' h=>⟨h.1,h.2⟩) ?_ (hy:=λf W' hf h=>by
     obtain rfl:=h.1 (hf.no (j:=7) hf.self (by kernel_rfl));go_simp)
    try simp only[zzQ]
    refine qB (.pointer (some ⟨g,k*2,none⟩)) (λf W' h=>⟨h.1,h.2⟩) ?_ (hy:=λf W' hf h=>by
     obtain rfl:=h.1 (hf.no (j:=7) hf.self (by kernel_rfl));go_simp)
    try simp only[zzQ]
    refine zbv undef (by rfl) (by rfl) (λf W' hf h C' hC'=>by
     obtain rfl:=h.1 hf.self;have:=hC' ((w6.drew.setCell ⟨g,k*2,none⟩ (St z)).setCell ⟨g,k*2+1,none⟩ (St zr)) ⟨λk=>(by cases k),λ_=>rfl⟩;go_simp;exact this) ?_
    try simp only[Act.put]
    refine ze1 λf X hf h=>?_;obtain rfl:=h.2 (hf 7 (by decide));have hbel:zB gb w ((w6.drew.setCell ⟨g,k*2,none⟩ (St z)).setCell ⟨g,k*2+1,none⟩ (St zr)):=
     (((HB6.out.mono (by omega)).drew).setCell (by simp;omega) _).setCell (by simp;omega) _
    have hgate:GatL gb (l.set k (z,zr)) ((w6.drew.setCell ⟨g,k*2,none⟩ (St z)).setCell ⟨g,k*2+1,none⟩ (St zr)):=by
     refine⟨⟨_,by rw[zau _ _ _ _ (by omega),zau _ _ _ _ (by omega)];exact HM0.out,?_⟩,?_⟩
     ·rw[List.length_set,<-HN.out];exact z6l HO6.out HN.out (by omega)
     ·rw[World.frozen?_setCell,World.frozen?_setCell];exact HF.out
    have HE:=hid (⟨hbel,hgate⟩:zB gb w ((w6.drew.setCell ⟨g,k*2,none⟩ (St z)).setCell ⟨g,k*2+1,none⟩ (St zr))/\GatL gb (l.set k (z,zr)) ((w6.drew.setCell ⟨g,k*2,none⟩ (St z)).setCell ⟨g,k*2+1,none⟩ (St zr)));clear hbel hgate m0 m2 m3 m4 m5 m6 m7 n2 n3 n4 n5 h hf;go_wp21;go_ret;exact⟨rfl,HE.out⟩
structure VisC (gb:Nat) (c r:List UInt8) (S S':zA->Prop) (one:Bool) (k n m:List UInt8) (ln:Int):Prop where
 cz:(c==[48])=false
 rz:(r==[48])=false
 n1:(r==[49])=one
 kn:one=true->k=[49]/\n=r
 norm:one=false->∀W:zA,Wd W->Pw W->qJ 120 #[St r] W (.tuple #[St k,St n,.int .i64 0])
 lng:qK 58 #[St n] (.int .i64 ln)
 ln9:decide (90<ln)=false
 mul:qK 11 #[St c,St k] (.tuple #[St m,.int .i64 0])
 keep:∀W W':zA,S W->qL W W'->S W'
 each:∀W:zA,Wd W->S W->zC zF 57 #[.pointer (some ⟨gb,0,none⟩),.agg #[St m,St n]] W λe w'=>e=.returned (.int .i64 0)/\zB gb W w'/\S' w'
theorem z4e (gb:Nat) (p:Option Addr) (cap n:Nat) (X Y:Nat->List UInt8) (S:Nat->zA->Prop) (hn:n<=5000)
 (V:Hid (∀i,i<n->∃one k n m ln,VisC gb (X i) (Y i) (S i) (S (i+1)) one k n m ln))
 (w:zA) (hgb:gb<=w.heap.size) (HW:Hid (∀W,zB gb w W->Wd W)) (HP:Hid (∀W,zB gb w W->Pw W)) (h0:S 0 w)
 (HT:Hid (∀i,i<n->∃b off,p=some ⟨b,off,none⟩/\b<gb/\w.cell? ⟨b,off+i*2,none⟩=some (St (X i))/\w.cell? ⟨b,off+i*2+1,none⟩=some (St (Y i)))):
 zC zF 56 #[.slice p n cap,.func (.func 57) #[.pointer (some ⟨gb,0,none⟩)] #[]] w λe w'=>e=.returned (.int .i64 0)/\zB gb w w'/\S n w':=by
 have D0:=hid (zM gb w);have s0:=hid h0;have g0:=hid hgb;clear h0 hgb;go_enter Tryz.func56,Tryz.ntmps56;go_wp21;go_loopw [13] (λi wr=>∃(k:Nat),k<=n/\i=.int .i64 (k:Int)/\Hid (zB gb w wr)/\Hid (gb<=wr.heap.size)/\Hid (S k wr))
  (λi _=>n-(zL i).toNat)
 case atStart=>exact⟨0,zR _,rfl,D0,g0,s0⟩
 case round=>
  obtain⟨k,hk,rfl,D1,g1,s1⟩:=hrel;by_cases hlt:k<n
  ·obtain⟨b,off,rfl,hb,c0,c1⟩:=HT.out k hlt
   obtain⟨one,kk,nr,m,ln,HV⟩:=V.out k hlt;have R1:=hid HV;generalize X k=x at*
   generalize Y k=y at*
   have cz:=HV.cz;have rz:=HV.rz;have n1:=HV.n1;have ln9:=HV.ln9;have t0:wr.cell? ⟨b,off+k*2,none⟩=some (St x):=by rw[D1.out.cell (p:=⟨b,off+k*2,none⟩) hb];exact c0
   have t1:wr.cell? ⟨b,off+k*2+1,none⟩=some (St y):=by rw[D1.out.cell (p:=⟨b,off+k*2+1,none⟩) hb];exact c1
   obtain⟨v1,hv⟩:=zzX (wr.alloc (.cells #[St x,St y] 37));have a1:qL wr v1:=by rw[hv];exact(zM _ wr).alloc (zN _) _
   have A1:v1.heap[wr.heap.size]? =some (.cells #[St x,St y] 37 (0,0)):=by rw[hv];exact zG wr _
   have k0:v1.cell? ⟨wr.heap.size,0,none⟩=some (St x):=by rw[zJ A1];rfl
   have k1:v1.cell? ⟨wr.heap.size,1,none⟩=some (St y):=by rw[zJ A1];rfl
   have k0':=k0;have k1':=k1;rw[hv] at k0 k1;have HV1:=hid hv.symm;have E1:=hid a1;have B1:=hid A1;clear hv a1 A1 HV c0 c1 hb;go_wp21;rw[HV1.out];clear t0 t1 k0 k1 HV1
   (refine wp_region_quiet_lit (by kernel_rfl) (by kernel_rfl) (WQ.out ?_);(repeat(first|(apply WQ.read (by rfl);(focus(rintro W ⟨n,rfl⟩;go_simp;try with_reducible rfl));try simp only[zzQ])|(apply WQ.skip (by rfl);try simp only[zzQ])));refine WQ.nil ?_;rintro _ ⟨nq,rfl⟩)
   have E2:=hid (zao E1.out nq);have B2:=hid (show(v1.drewN nq).heap[wr.heap.size]? =_ from B1.out);clear E1 B1;cases one
   ·go_wp21
    refine zzM (R1.out.norm rfl _ (HW.out _ (D1.out.trans (E2.out.mono g1.out))) (HP.out _ (D1.out.trans (E2.out.mono g1.out)))) λy1 hb1=>?_;have E3:=hid (E2.out.trans (hb1.mono E2.out.size));have B3:=hid (zac hb1 _ _ _ _ B2.out);clear hb1 E2 B2 k0' k1' cz rz n1;go_wp21;refine zzM (R1.out.lng _ (HW.out _ (D1.out.trans (E3.out.mono g1.out)))) λy2 hb1=>?_;have E4:=hid (E3.out.trans (hb1.mono E3.out.size));have B4:=hid (zac hb1 _ _ _ _ B3.out);clear hb1 E3 B3;have k0:y2.cell? ⟨wr.heap.size,0,none⟩=some (St x):=by rw[zJ B4.out];rfl
    go_wp21;refine zzM (R1.out.mul y2 (HW.out _ (D1.out.trans (E4.out.mono g1.out)))) λy3 hb1=>?_;have E5:=hid (E4.out.trans (hb1.mono E4.out.size));clear hb1 E4 B4 k0;go_wp21;refine(R1.out.each y3 (HW.out _ (D1.out.trans (E5.out.mono g1.out))) (R1.out.keep _ _ s1.out E5.out)).mono ?_;rintro e u1 ⟨rfl,hb1,hs⟩;have D2:=hid ((D1.out.trans (E5.out.mono g1.out)).trans hb1);have g2:Hid (gb<=u1.heap.size):=hid (zO g1.out (zO E5.out.size hb1.size));have s2:=hid hs;clear hb1 hs E5 s1 R1 HT;go_wp21;go_roundw
    case rel=>exact⟨k+1,by omega,by go_num,D2,g2,s2⟩
    case measure=>simp[zL];omega
   ·obtain⟨rfl,rfl⟩:=R1.out.kn rfl
    have E3:=E2;have B3:=B2;clear E2 B2;go_wp21;clear k0' k1' cz rz n1;refine zzM (R1.out.lng _ (HW.out _ (D1.out.trans (E3.out.mono g1.out)))) λy2 hb1=>?_;have E4:=hid (E3.out.trans (hb1.mono E3.out.size));have B4:=hid (zac hb1 _ _ _ _ B3.out);clear hb1 E3 B3;have k0:y2.cell? ⟨wr.heap.size,0,none⟩=some (St x):=by rw[zJ B4.out];rfl
    go_wp21;refine zzM (R1.out.mul y2 (HW.out _ (D1.out.trans (E4.out.mono g1.out)))) λy3 hb1=>?_;have E5:=hid (E4.out.trans (hb1.mono E4.out.size));clear hb1 E4 B4 k0;go_wp21;refine(R1.out.each y3 (HW.out _ (D1.out.trans (E5.out.mono g1.out))) (R1.out.keep _ _ s1.out E5.out)).mono ?_;rintro e u1 ⟨rfl,hb1,hs⟩;have D2:=hid ((D1.out.trans (E5.out.mono g1.out)).trans hb1);have g2:Hid (gb<=u1.heap.size):=hid (zO g1.out (zO E5.out.size hb1.size));have s2:=hid hs;clear hb1 hs E5 s1 R1 HT;go_wp21;go_roundw
    case rel=>exact⟨k+1,by omega,by go_num,D2,g2,s2⟩
    case measure=>simp[zL];omega
  ·have hkn:k=n:=by omega
   subst hkn;go_wp21;go_ret;exact⟨rfl,D1.out,s1.out⟩
def zin (l:List (List UInt8×List UInt8)):List (List UInt8×List UInt8):=l.filter λc=>!(c.1==[48])
def ziq (l:List (List UInt8×List UInt8)) (k:Nat):List (List UInt8×List UInt8):=zin (l.take k)
theorem z7n (l:List (List UInt8×List UInt8)):ziq l l.length=zin l:=by simp[ziq]
theorem z6s {l:List (List UInt8×List UInt8)} {k:Nat} {c:List UInt8×List UInt8} (h:l[k]? =some c):ziq l (k+1)=ziq l k++(if(c.1==[48])=true then[] else[c]):=by
 unfold ziq zin;rw[List.take_add_one,h,List.filter_append];cases hc:(c.1==[48])<;>simp[hc]
theorem z8a (l:List (List UInt8×List UInt8)) (k:Nat):(ziq l k).length<=l.length:=by
 have h1:=List.length_filter_le (λc:List UInt8×List UInt8=>!(c.1==[48])) (l.take k);have h2:(l.take k).length<=l.length:=by simp;omega
 unfold ziq zin;omega
theorem zl0 (p:Option Addr) (cap n:Nat) (X Y:Nat->List UInt8) (L M:List (List UInt8×List UInt8)) (j0:Nat) (hn:n<=256) (hm:L.length<=5000)
 (CK:Hid (∀i,i<n->qK 54 #[St (X i)] (.int .i64 0)))
 (RK:Hid (∀i,i<n->qK 54 #[St (Y i)] (.int .i64 0)))
 (PF:Hid (∀i,i<n->∀W:zA,zC zF 55 #[St (Y i),.string ⟨#[45]⟩] W λe w'=>e=.returned (.bool false)/\w'=W))
 (w:zA) (HW:Hid (∀W,qL w W->Wd W))
 (HT:Hid (∀i,i<n->∃b off,p=some ⟨b,off,none⟩/\b<w.heap.size/\w.cell? ⟨b,off+i*2,none⟩=some (St (X i))/\w.cell? ⟨b,off+i*2+1,none⟩=some (St (Y i))))
 (VIS:Hid (∀u vg:zA,qL w u->qL u vg->vg.heap.size=u.heap.size+1->GatL u.heap.size [] vg->zC zF 56 #[.slice p n cap,.func (.func 57) #[.pointer (some ⟨u.heap.size,0,none⟩)] #[]] vg λe w'=>e=.returned (.int .i64 0)/\zB u.heap.size vg w'/\GatL u.heap.size L w'))
 (LG:Hid (∀(i:Nat) (c:List UInt8×List UInt8),i<j0->L[i]? =some c->(c.1==[48])=false->∃a b:Int,(qK 58 #[St c.1] (.int .i64 a))/\(qK 58 #[St c.2] (.int .i64 b))/\decide (60<a)=false/\decide (40<b)=false))
 (END:Hid ((j0=L.length/\(zin L).length<=16/\∀(B:Nat) (W:zA) (q:Option Addr) (c:Nat),qL w W->w.heap.size<=B->B<=W.heap.size->W.ownsRow B 37 2 (.slice q (zin L).length c) (zin L).length (zbj (zin L))->zC zF 59 #[.slice q (zin L).length c,.func (.func 60) #[] #[]] W λe w'=>(∃u,e=.returned u)/\zB B W w'/\w'.ownsRow B 37 2 (.slice q (zin L).length c) (zin L).length (zbj M))\/∃(bx br:List UInt8) (a0:Int),L[j0]? =some (bx,br)/\(bx==[48])=false/\decide (60<a0)=true/\qK 58 #[St bx] (.int .i64 a0))):
 zC zF 13 #[.slice p n cap] w λe w'=>∃q m c r,e=.returned (.tuple #[.slice q m c,.int .i64 r])/\zB w.heap.size w w'/\((r=0/\j0=L.length/\m=(zin L).length/\w'.ownsRow w.heap.size 37 2 (.slice q m c) m (zbj M))\/(r=4/\j0<L.length/\q=none/\m=0/\c=0)):=by
 obtain⟨i0,hi,hz0,hz1,hz2⟩:=info_parts zsc;have D0:=hid (zM w.heap.size w);go_enter Tryz.func13,Tryz.ntmps13;go_wp21;go_loopw [18] (λi wr=>∃(k:Nat),k<=n/\i=.int .i64 (k:Int)/\Hid (qL w wr))
  (λi _=>n-(zL i).toNat)
 case atStart=>exact⟨0,zR _,rfl,D0⟩
 case round=>
  obtain⟨k,hk,rfl,D1⟩:=hrel;by_cases hlt:k<n
  ·obtain⟨b,off,rfl,hb,c0,c1⟩:=HT.out k hlt
   have C1:=hid (CK.out k hlt);have C2:=hid (RK.out k hlt);have C3:=hid (PF.out k hlt);generalize X k=x at*
   generalize Y k=y at*
   have t0:wr.cell? ⟨b,off+k*2,none⟩=some (St x):=by rw[D1.out.cell (p:=⟨b,off+k*2,none⟩) hb];exact c0
   have t1:wr.cell? ⟨b,off+k*2+1,none⟩=some (St y):=by rw[D1.out.cell (p:=⟨b,off+k*2+1,none⟩) hb];exact c1
   obtain⟨v1,hv⟩:=zzX (wr.alloc (.cells #[St x,St y] 37));have a1:qL wr v1:=by rw[hv];exact(zM _ wr).alloc (zN _) _
   have A1:v1.heap[wr.heap.size]? =some (.cells #[St x,St y] 37 (0,0)):=by rw[hv];exact zG wr _
   have k0:v1.cell? ⟨wr.heap.size,0,none⟩=some (St x):=by rw[zJ A1];rfl
   rw[hv] at k0;have HV1:=hid hv.symm;have E1:=hid (D1.out.trans (a1.mono D1.out.size));have B1:=hid A1;clear hv a1 A1 c0 c1 hb;go_wp21;rw[HV1.out];clear t0 t1 k0 HV1;refine zzM (C1.out v1 (HW.out _ E1.out)) λy1 hb1=>?_;have E2:=hid (E1.out.trans (hb1.mono E1.out.size));have B2:=hid (zac hb1 _ _ _ _ B1.out);clear hb1 E1 B1;have k1:y1.cell? ⟨wr.heap.size,1,none⟩=some (St y):=by rw[zJ B2.out];rfl
   go_wp21;refine zzM (C2.out y1 (HW.out _ E2.out)) λy2 hb1=>?_;have E3:=hid (E2.out.trans (hb1.mono E2.out.size));have B3:=hid (zac hb1 _ _ _ _ B2.out);clear hb1 k1 E2 B2;have k1:y2.cell? ⟨wr.heap.size,1,none⟩=some (St y):=by rw[zJ B3.out];rfl
   go_wp21;refine zzM (C3.out y2) λu1 hw1=>?_;have D2:Hid (qL w u1):=hid (by rw[hw1];exact E3.out);clear hw1 k1 E3 B3;go_wp21;go_roundw
   case rel=>exact⟨k+1,by omega,by go_num,D2⟩
   case measure=>simp[zL];omega
  ·have hkn:k=n:=by omega
   subst hkn;go_wp21;have N0:qL wr (wr.alloc (.cells #[.slice none 0 0] 93)):=(zM _ wr).alloc (zN _) _;have NA:=zG wr (.cells #[.slice none 0 0] 93);have NZ:(wr.alloc (.cells #[.slice none 0 0] 93)).heap.size=wr.heap.size+1:=by simp
   generalize wr.alloc (.cells #[.slice none 0 0] 93)=vg at*
   have HV:=hid (VIS.out wr vg D1.out N0 NZ ⟨⟨_,by rw[zJ NA];rfl,World.ownsRow_nil _ _ _ _⟩,by rw[Go.Joins.unfrozen_of_block NA]⟩);have HN0:=hid N0;clear NA NZ N0 VIS HT CK RK PF;refine HV.out.mono ?_;rintro e z ⟨rfl,hz,hg⟩;have DZ:Hid (qL w z):=hid (D1.out.trans ((HN0.out.trans hz).mono D1.out.size));obtain⟨pc,cc,g0, -,r0⟩:=hg.row;have HR:=hid r0;obtain⟨m,hmm⟩:=zzX L.length;have hjm:j0<=m:=by
    rcases END.out with⟨h,_⟩|⟨_,_,_,h,_⟩
    ·omega
    ·have:=(List.getElem?_eq_some_iff.1 h).1;omega
   rw[<-hmm] at g0 hm;have HM:=hid hmm;have Z0:=hid (zM z.heap.size z);have ZO:=hid (show z.ownsRow z.heap.size 37 2 (.slice none 0 0) (ziq L 0).length (zbj (ziq L 0)) from World.ownsRow_nil _ _ _ _);clear hmm r0 hg hz HV;go_wp21;clear g0;go_loopw [10,47] (λv i wr=>∃(k:Nat) (q:Option Addr) (c:Nat),k<=j0/\i=.int .i64 (k:Int)/\v=.slice q (ziq L k).length c/\Hid (qL z wr)/\Hid (wr.ownsRow z.heap.size 37 2 (.slice q (ziq L k).length c) (ziq L k).length (zbj (ziq L k))))
    (λ_ i _=>m-(zL i).toNat)
   case atStart=>exact⟨0,none,0,zR _,rfl,rfl,Z0,ZO⟩
   case round=>
    obtain⟨k,q,c,hk,rfl,rfl,E0,O0⟩:=hrel;by_cases hlt:k<j0
    ·have hkm0:k<m:=by omega
     obtain⟨d,hd⟩:∃d,L[k]? =some d:=⟨_,yB (by rw[<-HM.out];exact hkm0)⟩;obtain⟨g,rfl,c0,c1⟩:=(HR.out.keep (zac E0.out)) k d hd;have hks:=z6s hd;have hkl:=z8a L k;rw[<-HM.out] at hkl;have hL:=λh=>LG.out k d hlt hd h;obtain⟨x,y⟩:=d;simp only at c0 c1 hks hL;obtain⟨v1,hv⟩:=zzX (wr.alloc (.cells #[St x,St y] 97));have a1:qL wr v1:=by rw[hv];exact(zM _ wr).alloc (zN _) _
     have A1:v1.heap[wr.heap.size]? =some (.cells #[St x,St y] 97 (0,0)):=by rw[hv];exact zG wr _
     have k0:v1.cell? ⟨wr.heap.size,0,none⟩=some (St x):=by rw[zJ A1];rfl
     rw[hv] at k0;have HV1:=hid hv.symm;have E1:=hid (E0.out.trans (a1.mono E0.out.size));have B1:=hid A1;have O1:=hid (zcj (zac a1) O0.out);have HK:=hid hks;have HL:=hid hL;clear hv a1 A1 O0 hd hks hL;cases hx:(x==[48])
     ·obtain⟨a,b,La,Lb,la,lb⟩:=HL.out hx
      have HLa:=hid La;have HLb:=hid Lb;clear La Lb;go_wp21;rw[HV1.out];clear c0 c1 k0 HV1;refine zzM (HLa.out v1 (HW.out _ (DZ.out.trans (E1.out.mono DZ.out.size)))) λy1 hb1=>?_;have E2:=hid (E1.out.trans (hb1.mono E1.out.size));have B2:=hid (zac hb1 _ _ _ _ B1.out);have O2:=hid (zcj (zac hb1) O1.out);clear hb1 E1 B1 O1;have k1:y1.cell? ⟨wr.heap.size,1,none⟩=some (St y):=by rw[zJ B2.out];rfl
      go_wp21;refine zzM (HLb.out y1 (HW.out _ (DZ.out.trans (E2.out.mono DZ.out.size)))) λy2 hb1=>?_;have E3:=hid (E2.out.trans (hb1.mono E2.out.size));have B3:=hid (zac hb1 _ _ _ _ B2.out);have O3:=hid (zcj (zac hb1) O2.out);clear hb1 k1 E2 B2 O2;have k0:y2.cell? ⟨wr.heap.size,0,none⟩=some (St x):=by rw[zJ B3.out];rfl
      have k1:y2.cell? ⟨wr.heap.size,1,none⟩=some (St y):=by rw[zJ B3.out];rfl
      go_wp2_with (at_builtin;refine wpList_append_own _ rfl _ _ 26 rfl z.heap.size 37 i0 (.agg #[St [],St []]) 2 32 Tryz.underlying26 hi hz0 hz1 hz2 rfl (by decide) _ _ _ rfl (O3.out.alloc _) ⟨y2.heap.size,0,none⟩ 1 1 [St x,St y] rfl rfl (zoq _ _ _ _) (zm4 _ _) (by unfold maxLen;omega) (by omega) (by have:=E3.out.size;simp;omega) (λv' w' hown' hgrow _=>?_));obtain⟨g',c',rfl, -, -⟩:=zye hown' (by omega);have F1:Hid (qL z w'):=hid ((E3.out.alloc E3.out.size _).grown hgrow (by have:=E3.out.size;simp;omega) (λq e=>(O3.out.lt q e).1));have he:ziq L (k+1)=ziq L k++[(x,y)]:=by rw[HK.out,hx];rfl
      have hel:(ziq L (k+1)).length=(ziq L k).length+1:=by rw[he];simp
      have G1:Hid (w'.ownsRow z.heap.size 37 2 (.slice (some ⟨g',0,none⟩) (ziq L (k+1)).length c') (ziq L (k+1)).length (zbj (ziq L (k+1)))):=hid (by rw[hel,he,zjb];exact hown');have HE:=hid hel;clear hgrow hown' k0 k1 E3 O3 B3 he hel HK HL;go_roundw
      case rel=>exact⟨k+1,some ⟨g',0,none⟩,c',by omega,by go_num,by rw[HE.out],F1,G1⟩
      case measure=>simp[zL];omega
     ·have he:ziq L (k+1)=ziq L k:=by rw[HK.out,hx];simp
      have HE:=hid he;clear he HK HL;go_wp21;rw[HV1.out];clear c0 c1 k0 HV1;go_roundw
      case rel=>exact⟨k+1,q,c,by omega,by go_num,by rw[HE.out],E1,by rw[HE.out];exact O1⟩
      case measure=>simp[zL];omega
    ·have hkm:k=j0:=by omega
     subst hkm;clear LG;rcases END.out with⟨hjl,ho,hS⟩|⟨bx,br,a0,hj,hb0,ha0,hLB⟩
     ·have HX:=hid hjl
      have hkm:k=m:=by rw[HM.out];exact hjl
      subst hkm;clear END hjl hjm hlt;have he:ziq L k=zin L:=by rw[HX.out,z7n]
      rw[he] at O0⊢;have DE:=hid (DZ.out.trans (E0.out.mono DZ.out.size));have hs:=hS z.heap.size wr q c DE.out DZ.out.size E0.out.size O0.out;have HS:=hid hs;clear hs he hS;go_wp21;refine HS.out.mono ?_;rintro e y5 ⟨⟨u,rfl⟩,h1,h2⟩;have FE:=hid (⟨DE.out.trans (h1.mono DZ.out.size),h2.mono DZ.out.size⟩:qL w y5/\y5.ownsRow w.heap.size 37 2 (.slice q (zin L).length c) (zin L).length (zbj M));clear h1 h2;go_wp21;go_ret2;exact⟨q,_,c,0,rfl,FE.out.1,.inl ⟨rfl,HX.out,rfl,FE.out.2⟩⟩
     ·have hkm0:k<m:=by have:=(List.getElem?_eq_some_iff.1 hj).1;rw[HM.out];exact this
      have HKM:=hid (show k<L.length by rw[<-HM.out];exact hkm0);have HJ:=hid hj;have HB0:=hid hb0;have HA0:=hid ha0;have LB:=hid hLB;clear END hj hb0 ha0 hLB hlt;obtain⟨g,rfl,c0,c1⟩:=(HR.out.keep (zac E0.out)) k (bx,br) HJ.out;simp only at c0 c1;have hx:=HB0.out;obtain⟨v1,hv⟩:=zzX (wr.alloc (.cells #[St bx,St br] 97));have a1:qL wr v1:=by rw[hv];exact(zM _ wr).alloc (zN _) _
      have A1:v1.heap[wr.heap.size]? =some (.cells #[St bx,St br] 97 (0,0)):=by rw[hv];exact zG wr _
      have k0:v1.cell? ⟨wr.heap.size,0,none⟩=some (St bx):=by rw[zJ A1];rfl
      rw[hv] at k0;have HV1:=hid hv.symm;have E1:=hid (E0.out.trans (a1.mono E0.out.size));clear hv a1 A1 O0;go_wp21;rw[HV1.out];clear c0 c1 k0 HV1;refine zzM (LB.out v1 (HW.out _ (DZ.out.trans (E1.out.mono DZ.out.size)))) λy1 hb1=>?_;have E2:=hid (DZ.out.trans ((E1.out.trans (hb1.mono E1.out.size)).mono DZ.out.size));have hai:60<a0:=by first|exact of_decide_eq_true HA0.out|exact HA0.out
      have ha:decide (60<a0)=true:=decide_eq_true hai;clear hb1 E1;go_wp21;go_ret2;exact⟨none,0,0,4,rfl,E2.out,.inr ⟨rfl,HKM.out,rfl,rfl,rfl⟩⟩
theorem z6g (v1 v2:Value) (C:zA->Prop) (hC:∀W W',C W->qL W W'->C W')
 (K1:Hid (∀W:zA,C W->qJ 70 #[v1] W (.int .i64 0)))
 (K2:Hid (∀W:zA,C W->qJ 70 #[v2] W (.int .i64 0)))
 (w:zA) (h:C w):
 qJ 71 #[v1,v2] w (.bool true):=by
 have HC:=hid hC;have H:=hid h;clear hC h;go_enter Tryz.func71,Tryz.ntmps71;go_wp21;refine zzM (K1.out w H.out) λw1 hb1=>?_;have B1:=hid hb1;clear hb1;go_wp21;refine zzM (K2.out w1 (HC.out _ _ H.out B1.out)) λw2 hb2=>?_;have B2:=hid (B1.out.trans (hb2.mono B1.out.size));clear hb2;go_wp21;go_ret;exact⟨rfl,B2.out⟩
end
section
open Go.RowKit Go.Shelf Lib Str Limb
end
section
open Go.RowKit Go.Shelf Lib Str Limb
attribute [local go_sem] Oper.semAt_some
structure PlsS (w:zA) (x xr y yr:List UInt8) (W:zA):Prop where
 bel:qL w W
 h0:W.heap[w.heap.size]? =some (.cells #[St x,St xr] 97 (0,0))
 h1:W.heap[w.heap.size+1]? =some (.cells #[St y,St yr] 97 (0,0))
 h2:W.heap[w.heap.size+1+1]? =some (.cells #[St [],St []] 97 (0,0))
theorem PlsS.next {w:zA} {x xr y yr:List UInt8} {W W':zA} (h:PlsS w x xr y yr W) (hb:qL W W'):PlsS w x xr y yr W':=
 have hc:=zac hb
 ⟨h.bel.trans (hb.mono h.bel.size),hc _ _ _ _ h.h0,hc _ _ _ _ h.h1,hc _ _ _ _ h.h2⟩
theorem PlsS.cells {w:zA} {x xr y yr:List UInt8} {W:zA} (h:PlsS w x xr y yr W):
 W.cell? ⟨w.heap.size,0,none⟩=some (St x)/\W.cell? ⟨w.heap.size,1,none⟩=some (St xr)/\W.cell? ⟨w.heap.size+1,0,none⟩=some (St y)/\W.cell? ⟨w.heap.size+1,1,none⟩=some (St yr)/\
 W.cell? ⟨w.heap.size+1+1,0,none⟩=some (St [])/\W.cell? ⟨w.heap.size+1+1,1,none⟩=some (St [])/\W.frozen? ⟨w.heap.size+1+1,0,none⟩=false/\W.frozen? ⟨w.heap.size+1+1,1,none⟩=false:=by
 refine⟨?_,?_,?_,?_,?_,?_,Go.Joins.unfrozen_of_block h.h2 0,Go.Joins.unfrozen_of_block h.h2 1⟩
 ·rw[zJ h.h0];rfl
 ·rw[zJ h.h0];rfl
 ·rw[zJ h.h1];rfl
 ·rw[zJ h.h1];rfl
 ·rw[zJ h.h2];rfl
 ·rw[zJ h.h2];rfl
theorem PlsS.start (w:zA) (x xr y yr:List UInt8):PlsS w x xr y yr (((w.alloc (.cells #[St x,St xr] 97)).alloc (.cells #[St y,St yr] 97)).alloc (.cells #[St [],St []] 97)):=by
 refine⟨(((zM _ w).alloc (zN _) _).alloc (by simp) _).alloc (by simp;omega) _,?_,?_,?_⟩
 ·exact(Below.heap_alloc _ _ _ (by simp;omega)).trans ((Below.heap_alloc _ _ _ (by simp)).trans (zG w _))
 ·have:=zG (w.alloc (.cells #[St x,St xr] 97)) (.cells #[St y,St yr] 97)
  rw[zH] at this;exact(Below.heap_alloc _ _ _ (by simp)).trans this
 ·have:=zG ((w.alloc (.cells #[St x,St xr] 97)).alloc (.cells #[St y,St yr] 97)) (.cells #[St [],St []] 97)
  simp only[zH] at this;exact this
theorem zvt (x xr y yr k m z:List UInt8) (is:Bool)
 (R:Hid (qK 121 #[St yr,St xr] (.tuple #[St k,.bool is,.int .i64 0])))
 (M:Hid (qK 11 #[St y,St k] (.tuple #[St m,.int .i64 0])))
 (A:Hid (qK 12 #[St x,St m] (.tuple #[St z,.int .i64 0])))
 (w:zA) (HW:Hid (Wd w)):
 qJ 122 #[.agg #[St x,St xr],.agg #[St y,St yr]] w (.tuple #[.agg #[St z,St xr],.int .i64 0]):=by
 have hS:=PlsS.start w x xr y yr;obtain⟨c0,c1,c2,c3,c4,c5,f0,f1⟩:=hS.cells;obtain⟨W1,hW1⟩:=zzX (((w.alloc (.cells #[St x,St xr] 97)).alloc (.cells #[St y,St yr] 97)).alloc (.cells #[St [],St []] 97));rw[<-hW1] at hS;have HS:=hid hS;have HW1:=hid hW1;clear hS hW1;go_enter Tryz.func122,Tryz.ntmps122;go_wp21;have h9:=HW1.out;rw[<-h9];clear h9 c0 c1 c2 c3 c4 c5 f0 f1;refine zzM (R.out W1 (HW.out.below HS.out.bel)) λw2 hb2=>?_;have H2:=hid (HS.out.next hb2);clear hb2 HS HW1;obtain⟨c0,c1,c2,c3,c4,c5,f0,f1⟩:=H2.out.cells;go_wp21;refine zzM (M.out w2 (HW.out.below H2.out.bel)) λw3 hb3=>?_;have H3:=hid (H2.out.next hb3);clear hb3 H2 c0 c1 c2 c3 c4 c5 f0 f1;obtain⟨c0,c1,c2,c3,c4,c5,f0,f1⟩:=H3.out.cells;go_wp21;refine zzM (A.out w3 (HW.out.below H3.out.bel)) λw4 hb4=>?_;have H4:=hid (H3.out.next hb4);clear hb4 H3 c0 c1 c2 c3 c4 c5 f0 f1;obtain⟨c0,c1,c2,c3,c4,c5,f0,f1⟩:=H4.out.cells;have hB4:=H4.out.bel;go_wp21;refine bodyPost_ret (v:=.tuple #[.agg #[St z,St xr],.int .i64 0]) (by simp[results,Tryz.results122,go_sem,c4,c5]) rfl ⟨rfl,?_⟩
 repeat(first|exact hB4|refine Below.setCell ?_ (by simp;omega) _)
end
end Go.Proofs.YtmeekcnlacckfaaGreatDoor
