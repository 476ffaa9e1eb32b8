/- integer.add. -/
import Derived.Test.YtfoodcpnnmonhaaGreatDoorZ04
set_option maxRecDepth 100000
set_option maxHeartbeats 8000000
open Go renaming World → zA, Calls → zC
open Go.Lib renaming decDigits → zD, itoa → zE
open Go.Proofs.Tryz renaming prog → zF
open Go.World renaming alloc_heap_new → zG, size_alloc → zH
open Go.IntWalk renaming i64_in → zI
open Go.RowKit renaming intOf → zL
open Go.RowKit.Below renaming refl → zM, heap_setCell → yE
open Nat renaming le_refl → zN, le_trans → zO, mod_lt → zP, zero_le → zR, lt_of_lt_of_le → zS, pow_le_pow_right → yF
open List renaming append_nil → yH, cons_append → yM
open Int renaming natAbs_mul → yK
namespace Go.Proofs.YtfoodcpnnmonhaaGreatDoor
open Go.RowKit Go.Shelf Lib Str Limb
attribute [local go_sem] Oper.semAt_some
def zni (w:zA) (z:Int) (e:Ending) (w':zA):Prop:=
 ∃m v n,e=.returned (.agg #[.bool m,v])/\sgn m n=z/\Sl w' v ((zaa B9 n).map I)/\Below w.heap.size w w'
theorem z09 (va vb:Value) (m n:Nat) (w:zA) (ha:Sl w va ((zaa B9 m).map I)) (hb:Sl w vb ((zaa B9 n).map I)) (la:(zaa B9 m).length<=1000) (lb:(zaa B9 n).length<=1000):
 zC zF 131 #[va,vb,.func (.func 132) #[] #[]] w λe w'=>∃p c k,e=.returned (.slice p k c)/\Sl w' (.slice p k c) ((zaa B9 (m+n)).map I)/\Below w.heap.size w w':=by
 refine(zqs va vb _ _ w ha hb (zak (by decide) m) (zak (by decide) n) la lb).mono ?_;rintro e w' ⟨v,rfl,hown,hB⟩;rw[zov (by decide) (zak (by decide) m) (zak (by decide) n),zam (by decide),zam (by decide)] at hown;have hs:=Sl.of_own hown;obtain⟨p,c,e, -⟩:=id hs;subst e;exact⟨p,c,_,rfl,hs,hB⟩
theorem zq3 (va vb:Value) (m n:Nat) (w:zA) (ha:Sl w va ((zaa B9 m).map I)) (hb:Sl w vb ((zaa B9 n).map I)) (la:(zaa B9 m).length<=1000) (lb:(zaa B9 n).length<=1000) (h:n<=m):
 zC zF 131 #[va,vb,.func (.func 133) #[] #[]] w λe w'=>∃p c k,e=.returned (.slice p k c)/\Sl w' (.slice p k c) ((zaa B9 (m-n)).map I)/\Below w.heap.size w w':=by
 refine(zpr va vb _ _ w ha hb (zak (by decide) m) (zak (by decide) n) la lb).mono ?_;rintro e w' ⟨v,rfl,hown,hB⟩;rw[znb (by decide) (zak (by decide) m) (zak (by decide) n) (by rw[zam (by decide),zam (by decide)];exact h) _ (by omega) (by omega),zam (by decide),zam (by decide)] at hown;have hs:=Sl.of_own hown;obtain⟨p,c,e, -⟩:=id hs;subst e;exact⟨p,c,_,rfl,hs,hB⟩
theorem zog (m m':Bool) (vx vy:Value) (nx ny:Nat) (w:zA) (hx:Sl w vx ((zaa B9 nx).map I)) (hy:Sl w vy ((zaa B9 ny).map I)) (lx:(zaa B9 nx).length<=1000) (ly:(zaa B9 ny).length<=1000):
 zC zF 117 #[.agg #[.bool m,vx],.agg #[.bool m',vy]] w (zni w (sgn m nx+sgn m' ny)):=by
 obtain⟨px,cx,rfl, -⟩:=id hx;obtain⟨py,cy,rfl, -⟩:=id hy;simp only[List.length_map] at*
 have hcm:=λW h1 h2=>zi9 (.slice px (zaa B9 nx).length cx) (.slice py (zaa B9 ny).length cy) nx ny W h1 h2 lx ly;have hps:=λW h1 h2=>z09 (.slice px (zaa B9 nx).length cx) (.slice py (zaa B9 ny).length cy) nx ny W h1 h2 lx ly;have hmx:=λ(h:ny<=nx) W h1 h2=>zq3 (.slice px (zaa B9 nx).length cx) (.slice py (zaa B9 ny).length cy) nx ny W h1 h2 lx ly h;have hmy:=λ(h:nx<ny) W h1 h2=>zq3 (.slice py (zaa B9 ny).length cy) (.slice px (zaa B9 nx).length cx) ny nx W h1 h2 ly lx (by omega);have K:((m==m')=true/\m'=m)\/((m==m')=false/\m'=(!m)/\ny<=nx)\/((m==m')=false/\m'=(!m)/\nx<ny):=by
  rcases Nat.lt_or_ge nx ny with h|h<;>cases m<;>cases m'<;>simp[h]
 generalize (zaa B9 nx).length=kx at*
 generalize (zaa B9 ny).length=ky at*
 have HPS:=hid hps;have HMX:=hid hmx;have HMY:=hid hmy;have HC:=hid hcm;have HX:=hid hx;have HY:=hid hy;clear hps hmx hmy hcm hx hy;rcases K with⟨hmm,hm⟩|⟨hmm,hm,hle⟩|⟨hmm,hm,hle⟩
 case' inl=>have HPL:=hid HPS.out;have HLE:=hid hm
 case' inr.inl=>have HPL:=hid (HMX.out hle);have HLE:=hid hle
 case' inr.inr=>have HPL:=hid (HMY.out hle);have HLE:=hid hle
 all_goals
  have HM:=hid hm;clear HPS HMX HMY hm
  try clear hle
  go_enter Tryz.func117,Tryz.ntmps117;go_wp21;obtain⟨W3,hW3⟩:=zzX (((w.alloc (.cells #[.bool m,.slice px kx cx] 150)).alloc (.cells #[.bool m',.slice py ky cy] 150)).alloc (.cells #[.bool false,.slice none 0 0] 150));have hB3:qL w W3:=by rw[hW3];exact(((zM _ w).alloc (zN _) _).alloc (by simp) _).alloc (by simp;omega) _
  have b2:W3.heap[w.heap.size]? =some (.cells #[.bool m,.slice px kx cx] 150 (0,0)):=by
   rw[hW3];exact(Below.heap_alloc _ _ _ (by simp only[zH];omega)).trans ((Below.heap_alloc _ _ _ (by simp only[zH];omega)).trans (zG w _))
  have b3:W3.heap[w.heap.size+1]? =some (.cells #[.bool m',.slice py ky cy] 150 (0,0)):=by
   rw[hW3];refine(Below.heap_alloc _ _ _ (by simp only[zH];omega)).trans ?_;have:=zG (w.alloc (.cells #[.bool m,.slice px kx cx] 150)) (.cells #[.bool m',.slice py ky cy] 150);rwa [zH] at this
  have b4:W3.heap[w.heap.size+1+1]? =some (.cells #[.bool false,.slice none 0 0] 150 (0,0)):=by
   rw[hW3];have:=zG ((w.alloc (.cells #[.bool m,.slice px kx cx] 150)).alloc (.cells #[.bool m',.slice py ky cy] 150)) (.cells #[.bool false,.slice none 0 0] 150);rwa [zH,zH] at this
  rw[<-hW3];clear hW3
  try
   refine(HC.out W3 (HX.out.below hB3) (HY.out.below hB3)).mono ?_;rintro e W5 ⟨cc,rfl,⟨hc1,hc2⟩,hBc⟩
   first|have hge:0<=cc:=by have:=HLE.out;omega|have hge:¬0<=cc:=by have:=HLE.out;omega
   clear hc1 hc2;replace b2:=(hBc.block _ (Array.getElem?_eq_some_iff.1 b2).1).trans b2;replace b3:=(hBc.block _ (Array.getElem?_eq_some_iff.1 b3).1).trans b3;replace b4:=(hBc.block _ (Array.getElem?_eq_some_iff.1 b4).1).trans b4;replace hB3:qL w W5:=hB3.trans (hBc.mono hB3.size);clear hBc;clear W3;obtain⟨W3,rfl⟩:=zzX W5;go_wp2
  have c20:∀W:zA,W.heap[w.heap.size]? =W3.heap[w.heap.size]? ->W.cell? ⟨w.heap.size,0,none⟩=some (.bool m):=λW h=>by simp[World.cell?,h,b2]
  have c21:∀W:zA,W.heap[w.heap.size]? =W3.heap[w.heap.size]? ->W.cell? ⟨w.heap.size,1,none⟩=some (.slice px kx cx):=λW h=>by simp[World.cell?,h,b2]
  have c30:∀W:zA,W.heap[w.heap.size+1]? =W3.heap[w.heap.size+1]? ->W.cell? ⟨w.heap.size+1,0,none⟩=some (.bool m'):=λW h=>by simp[World.cell?,h,b3]
  have c31:∀W:zA,W.heap[w.heap.size+1]? =W3.heap[w.heap.size+1]? ->W.cell? ⟨w.heap.size+1,1,none⟩=some (.slice py ky cy):=λW h=>by simp[World.cell?,h,b3]
  have C20:=hid c20;have C21:=hid c21;have C30:=hid c30;have C31:=hid c31;clear c20 c21 c30 c31;have L3:w.heap.size+1+1<W3.heap.size:=(Array.getElem?_eq_some_iff.1 b4).1;have B4:=hid b4;clear b2 b3 b4;refine zey 6 (λW=>W.cell? ⟨w.heap.size,0,none⟩=some (.bool m)/\W.cell? ⟨w.heap.size,1,none⟩=some (.slice px kx cx)/\W.cell? ⟨w.heap.size+1,0,none⟩=some (.bool m')/\W.cell? ⟨w.heap.size+1,1,none⟩=some (.slice py ky cy))
   (by kernel_rfl) (by kernel_rfl) ⟨C20.out _ rfl,C21.out _ rfl,C30.out _ rfl,C31.out _ rfl⟩ ?_
  simp only[List.take_succ_cons,List.take_zero,List.drop_succ_cons,List.drop_zero]
  repeat(apply zer (by rfl);(focus(rintro W ⟨h1,h2,h3,h4⟩;go_simp;try with_reducible rfl));try simp only[zzQ])
  refine ze6 ?_;refine zbt (by rfl) λK hK=>?_;go_simp
  first|refine(HPL.out W3.drew (HX.out.below hB3.drew) (HY.out.below hB3.drew)).mono ?_|refine(HPL.out W3.drew (HY.out.below hB3.drew) (HX.out.below hB3.drew)).mono ?_
  rintro e W4 ⟨p,c,k,rfl,hs,hB4⟩;have e2:W4.heap[w.heap.size]? =W3.heap[w.heap.size]? :=hB4.block _ (by show _<W3.heap.size;omega);have e3:W4.heap[w.heap.size+1]? =W3.heap[w.heap.size+1]? :=hB4.block _ (by show _<W3.heap.size;omega);have b4:W4.heap[w.heap.size+1+1]? =some (.cells #[.bool false,.slice none 0 0] 150 (0,0)):=(hB4.block _ (by show _<W3.heap.size;omega)).trans B4.out;have hB5:qL w W4:=hB3.drew.trans (hB4.mono (by show _<=W3.heap.size;omega));have hS:=And.intro (C20.out W4 e2) (And.intro (C21.out W4 e2) (And.intro (C30.out W4 e3) (C31.out W4 e3)));have E2:=hid e2;have E3:=hid e3;clear e2 e3 hB4;have HS:=hid hs;clear hs;refine hK _ _ hS ?_;clear hK K
  try simp only[zzQ]
  refine zbt (by rfl) λK hK=>?_;go_simp;refine hK _ _ hS ?_;clear hK K
  try simp only[zzQ]
  have d0:W4.cell? ⟨w.heap.size+1+1,0,none⟩=some (.bool false):=by simp[World.cell?,b4]
  have d1:W4.cell? ⟨w.heap.size+1+1,1,none⟩=some (.slice none 0 0):=by simp[World.cell?,b4]
  have f0:W4.frozen? ⟨w.heap.size+1+1,0,none⟩=false:=by simp[World.frozen?,b4]
  have f1:W4.frozen? ⟨w.heap.size+1+1,1,none⟩=false:=by simp[World.frozen?,b4]
  refine zbt (by rfl) λK hK=>?_;go_simp;have g2:∀r:Bool,((W4.setCell ⟨w.heap.size+1+1,0,none⟩ (.bool r)).setCell ⟨w.heap.size+1+1,1,none⟩ (.slice p k c)).heap[w.heap.size]? =W3.heap[w.heap.size]? :=λ_=>
   (yE _ _ _ _ (by show w.heap.size≠w.heap.size+1+1;omega)).trans ((yE _ _ _ _ (by show w.heap.size≠w.heap.size+1+1;omega)).trans E2.out)
  have g3:∀r:Bool,((W4.setCell ⟨w.heap.size+1+1,0,none⟩ (.bool r)).setCell ⟨w.heap.size+1+1,1,none⟩ (.slice p k c)).heap[w.heap.size+1]? =W3.heap[w.heap.size+1]? :=λ_=>
   (yE _ _ _ _ (by show w.heap.size+1≠w.heap.size+1+1;omega)).trans ((yE _ _ _ _ (by show w.heap.size+1≠w.heap.size+1+1;omega)).trans E3.out)
  refine hK _ _ ⟨C20.out _ (g2 _),C21.out _ (g2 _),C30.out _ (g3 _),C31.out _ (g3 _)⟩ ?_;clear hK K g2 g3
  try simp only[zzQ]
  refine ze7 ⟨rfl,?_⟩;have hs0:=λr:Bool=>HS.out.set d0 (λx=>by simp[I]) (.bool r);have e1:=λr:Bool=>(World.cell?_setCell_other _ _ _ (.bool r) (show(⟨w.heap.size+1+1,0,none⟩:Addr)≠⟨w.heap.size+1+1,1,none⟩ by simp)).trans d1;have hs1:=λr:Bool=>(hs0 r).set (e1 r) (λx=>by simp[I]) (.slice p k c);have e0:=λr:Bool=>(World.cell?_setCell_other _ _ _ (.slice p k c) (show(⟨w.heap.size+1+1,1,none⟩:Addr)≠⟨w.heap.size+1+1,0,none⟩ by simp)).trans (za9 (u:=.bool r) d0);have e2:=λr:Bool=>za9 (u:=.slice p k c) (e1 r);have hB6:=λr:Bool=>(hB5.setCell (p:=⟨w.heap.size+1+1,0,none⟩) (by show w.heap.size<=w.heap.size+1+1;omega) (.bool r)).setCell (p:=⟨w.heap.size+1+1,1,none⟩) (by show w.heap.size<=w.heap.size+1+1;omega) (.slice p k c);clear hs0 e1 d0 d1 f0 f1 b4 hS hB5;have HS1:=hid hs1;clear hs1;go_wp2
  first
   |(refine bodyPost_ret (v:=.agg #[.bool m,.slice p k c]) ?_ rfl ⟨m,_,_,rfl,?_,HS1.out _,hB6 _⟩
     focus(simp[results,Tryz.results117,go_sem,e0,e2];done)
     have h1:=HLE.out;have h2:=HM.out;cases m<;>cases m'<;>first|exact absurd h2 (by decide)|(simp[sgn]<;>omega))
   |(refine bodyPost_ret (v:=.agg #[.bool m',.slice p k c]) ?_ rfl ⟨m',_,_,rfl,?_,HS1.out _,hB6 _⟩
     focus(simp[results,Tryz.results117,go_sem,e0,e2];done)
     have h1:=HLE.out;have h2:=HM.out;cases m<;>cases m'<;>first|exact absurd h2 (by decide)|(simp[sgn]<;>omega))
theorem lt18 {x:Int} (h:(zE x).length<=18): -1000000000000000000<x/\x<1000000000000000000:=by
 have h1:=zbr x;have h2:=(za3 x 18 (by omega)).1 (by omega);have e:(10:Nat)^18=1000000000000000000:=rfl;rw[e] at h2;omega
theorem zbf {z:Int} (h: -10000000000000000000<z/\z<10000000000000000000):digs z<=19:=by
 rw[za3 _ _ (by omega)];have e:(10:Nat)^19=10000000000000000000:=rfl;rw[e];omega
theorem zwr (x y:Int) (hx:(zE x).length<=18) (hy:(zE y).length<=18) (w:zA) (hw:Wd w):
 qJ 64 #[St (zE x),St (zE y)] w (.tuple #[St (resL (x+y)),.int .i64 (resE (x+y))]):=by
 obtain⟨x1,x2⟩:=lt18 hx;obtain⟨y1,y2⟩:=lt18 hy;have h0:digs (x+y)<=300:=zO (zbf (by omega)) (by omega);rw[zcf h0,zcg h0];have hb:=λW=>zdh x y (zO (zbf (by omega)) (by omega)) (zO (zbf (by omega)) (by omega)) W;have hs:=λW=>zdy x y hx hy W;have HB:=hid hb;clear hb;have HS:=hid hs;clear hs hx hy h0;have HW:=hid hw;clear hw;go_enter Tryz.func64,Tryz.ntmps64;go_wp21;refine zzM (HB.out w) λw1 hB1=>?_;go_wp21;refine zzM (HS.out w1) λw2 hb2=>?_;have hB2:=hB1.trans (hb2.mono hB1.size);clear hb2 hB1;go_wp21;refine zzM (zb3 (x+y) (by omega) (by omega) w2 (HW.out.below hB2)) λw3 hb3=>?_;have hB3:=hB2.trans (hb3.mono hB2.size);clear hb3 hB2;go_wp21;go_ret2;exact⟨rfl,hB3⟩
theorem z1b (x y:Int) (hx:digs x<=300) (hy:digs y<=300) (h:18<(zE x).length\/18<(zE y).length) (w:zA) (hw:Wd w):
 qJ 64 #[St (zE x),St (zE y)] w (.tuple #[St (resL (x+y)),.int .i64 (resE (x+y))]):=by
 have hb:=λW=>zdh x y hx hy W;have hs:=λW=>ze8 x y h W;have r1:=λW=>zc3 x W (by omega);have r2:=λW=>zc3 y W (by omega);have l1:=zb4 (z:=x) (k:=100) (by omega) (by omega);have l2:=zb4 (z:=y) (k:=100) (by omega) (by omega);have l3:=zb4 (z:=x+y) (k:=100) (by omega) (zO (zhz (by omega) hx hy) (by omega));have HB:=hid hb;clear hb;have HS:=hid hs;clear hs hx hy h;have HW:=hid hw;clear hw;have R1:=hid r1;have R2:=hid r2;clear r1 r2;go_enter Tryz.func64,Tryz.ntmps64;go_wp21;refine zzM (HB.out w) λw1 hB1=>?_;go_wp21;refine(HS.out w1).mono ?_;rintro e w2 ⟨rfl,rfl⟩;go_wp21;refine(R1.out w1).mono ?_;rintro e w2 ⟨vx,rfl,hvx,hb2⟩;have hB2:=hB1.trans (hb2.mono hB1.size);clear hb2 hB1;have HVX:=hid hvx;clear hvx;go_wp21;refine(R2.out w2).mono ?_;rintro e w3 ⟨vy,rfl,hvy,hb3⟩;have hvx:=HVX.out.below hb3;have hB3:=hB2.trans (hb3.mono hB2.size);clear hb3 hB2;have HVX2:=hid hvx;have HVY:=hid hvy;clear hvx hvy HVX;go_wp21;refine(zog _ _ vx vy _ _ w3 HVX2.out HVY.out (by omega) (by omega)).mono ?_;rintro e w4 ⟨m,v,n,rfl,hz,hv,hb4⟩;rw[zcs,zcs] at hz;have hn:n=(x+y).natAbs:=by rw[<-hz,zge]
 have hB4:=hB3.trans (hb4.mono hB3.size);clear hb4 hB3;have HZ:=hid hz;clear hz;have HV:=hid hv;clear hv;have hnl:(zaa B9 n).length<=1000:=by rw[hn];omega
 clear hn;go_wp21;refine(zez m v n w4 (HW.out.below hB4) HV.out hnl).mono ?_;rw[HZ.out];rintro e w5 ⟨rfl,hb5⟩;have hB5:=hB4.trans (hb5.mono hB4.size);clear hb5 hB4;go_wp21;go_ret2;exact⟨rfl,hB5⟩
theorem z1c (x y:Int) (hx:digs x<=300) (hy:digs y<=300) (w:zA) (hw:Wd w):
 qJ 64 #[St (zE x),St (zE y)] w (.tuple #[St (resL (x+y)),.int .i64 (resE (x+y))]):=by
 by_cases h:(zE x).length<=18/\(zE y).length<=18
 ·exact zwr x y h.1 h.2 w hw
 ·exact z1b x y hx hy (by omega) w hw
theorem zbx {w:zA} {v:Value} {l:List Nat} (h:Sl w v (l.map I)):∃p k c,v=.slice p k c/\k=l.length:=by
 obtain⟨p,c,rfl, -⟩:=h;exact⟨p,_,c,rfl,by simp⟩
theorem zws (x y:Int) (hx:(zE x).length<=18) (hy:(zE y).length<=18) (w:zA) (hw:Wd w):
 qJ 127 #[St (zE x),St (zE y)] w (.tuple #[St (resL (x-y)),.int .i64 (resE (x-y))]):=by
 obtain⟨x1,x2⟩:=lt18 hx;obtain⟨y1,y2⟩:=lt18 hy;have h0:digs (x-y)<=300:=zO (zbf (by omega)) (by omega);rw[zcf h0,zcg h0];have hb:=λW=>zdh x y (zO (zbf (by omega)) (by omega)) (zO (zbf (by omega)) (by omega)) W;have hs:=λW=>zdy x y hx hy W;have HB:=hid hb;clear hb;have HS:=hid hs;clear hs hx hy h0;have HW:=hid hw;clear hw;go_enter Tryz.func127,Tryz.ntmps127;go_wp21;refine zzM (HB.out w) λw1 hB1=>?_;go_wp21;refine zzM (HS.out w1) λw2 hb2=>?_;have hB2:=hB1.trans (hb2.mono hB1.size);clear hb2 hB1;go_wp21;refine zzM (zb3 (x-y) (by omega) (by omega) w2 (HW.out.below hB2)) λw3 hb3=>?_;have hB3:=hB2.trans (hb3.mono hB2.size);clear hb3 hB2;go_wp21;go_ret2;exact⟨rfl,hB3⟩
theorem z1d (x y:Int) (hx:digs x<=300) (hy:digs y<=300) (h:18<(zE x).length\/18<(zE y).length) (w:zA) (hw:Wd w):
 qJ 127 #[St (zE x),St (zE y)] w (.tuple #[St (resL (x-y)),.int .i64 (resE (x-y))]):=by
 have hb:=λW=>zdh x y hx hy W;have hs:=λW=>ze8 x y h W;have r1:=λW=>zc3 x W (by omega);have r2:=λW=>zc3 y W (by omega);have l1:=zb4 (z:=x) (k:=100) (by omega) (by omega);have l2:=zb4 (z:=y) (k:=100) (by omega) (by omega);have l3:=zb4 (z:=x-y) (k:=100) (by omega) (zO (by rw[Int.sub_eq_add_neg];exact zhz (by omega) hx (by rw[zy1];exact hy)) (by omega));have HB:=hid hb;clear hb;have HS:=hid hs;clear hs hx hy h;have HW:=hid hw;clear hw;have R1:=hid r1;have R2:=hid r2;clear r1 r2;go_enter Tryz.func127,Tryz.ntmps127;go_wp21;refine zzM (HB.out w) λw1 hB1=>?_;go_wp21;refine(HS.out w1).mono ?_;rintro e w2 ⟨rfl,rfl⟩;go_wp21;refine(R2.out w1).mono ?_;rintro e w2 ⟨vy,rfl,hvy,hb2⟩;have hB2:=hB1.trans (hb2.mono hB1.size);clear hb2 hB1;obtain⟨py,ky,cy,rfl, -⟩:=zbx hvy;have HVY:=hid hvy;clear hvy;have snot:=ztv y;generalize hby:decide (y<0)=b at*
 have SN:=hid snot;clear snot;have HBY:=hid hby;clear hby
 go_wp2;have bk:=zG w2 (.cells #[.bool !b,.slice py ky cy] 150);have hB3:=hB2.alloc hB2.size (.cells #[.bool !b,.slice py ky cy] 150);have hb3:qL w2 (w2.alloc (.cells #[.bool !b,.slice py ky cy] 150)):=(zM _ _).alloc (zN _) _;have HVY2:=hid (HVY.out.below hb3);clear HVY hb3;generalize w2.alloc (.cells #[.bool !b,.slice py ky cy] 150)=W3 at*
 obtain⟨z,hz⟩:=zzX w2.heap.size;rw[<-hz] at bk⊢;clear hz hB2 w2;have ck:∀W:zA,W.heap[z]? =W3.heap[z]? ->W.cell? ⟨z,0,none⟩=some (.bool !b)/\W.cell? ⟨z,1,none⟩=some (.slice py ky cy):=λW h=>⟨by simp[World.cell?,h,bk],by simp[World.cell?,h,bk]⟩;have CK:=hid ck;clear ck;have lz:z<W3.heap.size:=(Array.getElem?_eq_some_iff.1 bk).1;clear bk;refine zwm [(0,true),(2,true),(1,false),(3,false),(4,false),(5,true),(6,true),(7,true),(8,true)] (λW=>W.cell? ⟨z,0,none⟩=some (.bool !b)/\W.cell? ⟨z,1,none⟩=some (.slice py ky cy)) (by kernel_rfl) (by kernel_rfl) (CK.out _ rfl) ?_
 (apply MQ.take (by simp only[List.getElem?_toArray,List.getElem?_cons_zero];rfl) (by rfl);(focus(rintro W ⟨h1,h2⟩;go_simp;try with_reducible rfl));try simp only[zzQ])
 (apply MQ.take (by simp only[List.getElem?_toArray,List.getElem?_cons_succ,List.getElem?_cons_zero];rfl) (by rfl);(focus(rintro W ⟨h1,h2⟩;go_simp;try with_reducible rfl));try simp only[zzQ])
 (refine MQ.only (by simp only[List.getElem?_toArray,List.getElem?_cons_succ,List.getElem?_cons_zero];rfl) (by rfl) λK hK=>?_;go_simp)
 refine(R1.out W3.drew).mono ?_;rintro e w4 ⟨vx,rfl,hvx,hb4⟩;have e4:w4.heap[z]? =W3.heap[z]? :=hb4.block z lz;have hB4:=hB3.drew.trans (hb4.mono (by show _<=W3.heap.size;exact hB3.size));have hvy:=HVY2.out.below (((zM W3.heap.size W3).drew).trans hb4);have lz4:z<w4.heap.size:=zS lz hb4.size;have HVY3:=hid hvy;have HVX:=hid hvx;have S4:=CK.out w4 e4;have E4:=hid e4;clear hb4 hvy hvx e4
 (refine hK _ _ S4 ?_;clear hK K;try simp only[zzQ])
 (refine MQ.only (by simp only[List.getElem?_toArray,List.getElem?_cons_succ,List.getElem?_cons_zero];rfl) (by rfl) λK hK=>?_;go_simp)
 refine(zog _ _ vx (.slice py ky cy) _ _ w4 HVX.out HVY3.out (by omega) (by omega)).mono ?_;rintro e w5 ⟨m,v,n,rfl,hz,hv,hb5⟩;rw[SN.out,zcs] at hz;have hn:n=(x-y).natAbs:=by rw[show x-y=x+ -y from Int.sub_eq_add_neg,<-hz,zge]
 have hB5:=hB4.trans (hb5.mono hB4.size);have e5:w5.heap[z]? =W3.heap[z]? :=(hb5.block z lz4).trans E4.out;have S5:=CK.out w5 e5;have lz5:z<w5.heap.size:=zS lz4 hb5.size;have E5:=hid e5;have HZ:=hid (show sgn m n=x-y by rw[hz];omega);have HV:=hid hv;have hnl:(zaa B9 n).length<=1000:=by rw[hn];omega
 clear hn hb5 hB4 e5 hz hv
 (refine hK _ _ S5 ?_;clear hK K;try simp only[zzQ])
 (refine MQ.only (by simp only[List.getElem?_toArray,List.getElem?_cons_succ,List.getElem?_cons_zero];rfl) (by rfl) λK hK=>?_;go_simp)
 refine(zez m v n w5 (HW.out.below hB5) HV.out hnl).mono ?_;rw[HZ.out];rintro e w6 ⟨rfl,hb6⟩;have hB6:=hB5.trans (hb6.mono hB5.size);have S6:=CK.out w6 ((hb6.block z lz5).trans E5.out);clear hb6 hB5
 (refine hK _ _ S6 ?_;clear hK K;try simp only[zzQ])
 iterate 4 (apply MQ.take (by simp only[List.getElem?_toArray,List.getElem?_cons_succ,List.getElem?_cons_zero];rfl) (by rfl);(focus(rintro W ⟨h1,h2⟩;go_simp;try with_reducible rfl));try simp only[zzQ])
 refine MQ.nil ⟨rfl,?_⟩;go_wp21;go_ret2;exact⟨rfl,hB6⟩
theorem z1e (x y:Int) (hx:digs x<=300) (hy:digs y<=300) (w:zA) (hw:Wd w):
 qJ 127 #[St (zE x),St (zE y)] w (.tuple #[St (resL (x-y)),.int .i64 (resE (x-y))]):=by
 by_cases h:(zE x).length<=18/\(zE y).length<=18
 ·exact zws x y h.1 h.2 w hw
 ·exact z1d x y hx hy (by omega) w hw
theorem zy4 (va vb:Value) (m n:Nat) (w:zA) (ha:Sl w va ((zaa B9 m).map I)) (hb:Sl w vb ((zaa B9 n).map I)) (la:(zaa B9 m).length<=1000) (lb:(zaa B9 n).length<=1000):
 zC zF 174 #[va,vb] w λe w'=>∃p c k,e=.returned (.slice p k c)/\Sl w' (.slice p k c) ((zaa B9 (m*n)).map I)/\Below w.heap.size w w':=by
 refine(zox va vb _ _ w ha hb (zak (by decide) m) (zak (by decide) n) la lb).mono ?_;rintro e w' ⟨v,rfl,hown,hB⟩;rw[zjp (by decide) (zak (by decide) m) (zak (by decide) n),zam (by decide),zam (by decide)] at hown;have hs:=Sl.of_own hown;obtain⟨p,c,e, -⟩:=id hs;subst e;exact⟨p,c,_,rfl,hs,hB⟩
theorem z1f (x y:Int):sgn (decide (x<0) !=decide (y<0)) (x.natAbs*y.natAbs)=x*y:=by
 unfold sgn;have e:((x.natAbs*y.natAbs:Nat):Int)=(x.natAbs:Int)*y.natAbs:=by simp
 by_cases h1:x<0<;>by_cases h2:y<0
 ·simp only[h1,h2,decide_true,bne_self_eq_false,Bool.false_eq_true,if_false]
  rw[e,show(x.natAbs:Int)= -x by omega,show(y.natAbs:Int)= -y by omega,Int.neg_mul_neg]
 ·have:(decide (x<0) !=decide (y<0))=true:=by simp[h1,h2]
  rw[this,if_pos rfl,e,show(x.natAbs:Int)= -x by omega,show(y.natAbs:Int)=y by omega,Int.neg_mul,Int.neg_neg]
 ·have:(decide (x<0) !=decide (y<0))=true:=by simp[h1,h2]
  rw[this,if_pos rfl,e,show(x.natAbs:Int)=x by omega,show(y.natAbs:Int)= -y by omega,Int.mul_neg,Int.neg_neg]
 ·simp only[h1,h2,decide_false,bne_self_eq_false,Bool.false_eq_true,if_false]
  rw[e,show(x.natAbs:Int)=x by omega,show(y.natAbs:Int)=y by omega]
theorem z1g {x y:Int} (h:(zE x).length+(zE y).length<=18): -1000000000000000000<x*y/\x*y<1000000000000000000:=by
 have h1:=zbr x;have h2:=zbr y;have p1:=zbn x;have p2:=zbn y;have h3:=zq2 (x:=x) (y:=y) (i:=digs x) (j:=digs y) (by omega) (by omega) (zN _) (zN _);have h4:=(za3 (x*y) 18 (by omega)).1 (by omega);have e:(10:Nat)^18=1000000000000000000:=rfl;rw[e] at h4;omega
theorem zwt (x y:Int) (h:(zE x).length+(zE y).length<=18) (w:zA) (hw:Wd w):
 qJ 106 #[St (zE x),St (zE y)] w (.tuple #[St (resL (x*y)),.int .i64 (resE (x*y))]):=by
 obtain⟨x1,x2⟩:=lt18 (x:=x) (by omega);obtain⟨y1,y2⟩:=lt18 (x:=y) (by omega);obtain⟨p1,p2⟩:=z1g h;have h0:digs (x*y)<=300:=zO (zbf (by omega)) (by omega);rw[zcf h0,zcg h0];have hb:=λW=>zdh x y (zO (zbf (by omega)) (by omega)) (zO (zbf (by omega)) (by omega)) W;have hs:=λW=>zdy x y (by omega) (by omega) W;have hle:decide (((zE x).length:Int)+((zE y).length:Int)<=18)=true:=by simp;omega
 have hit:=λW hW=>zb3 (x*y) (by omega) (by omega) W hW;have hwr:IntKind.i64.wrap (x*y)=x*y:=zI _ (by omega);have hl1:(zE x).length<=18:=by omega
 have hl2:(zE y).length<=18:=by omega
 have HIT:=hid hit;clear hit;have HB:=hid hb;clear hb;have HS:=hid hs;clear hs h h0;have HW:=hid hw;clear hw;go_enter Tryz.func106,Tryz.ntmps106;go_wp21;refine zzM (HB.out w) λw1 hB1=>?_;go_wp21;refine zzM (HS.out w1) λw2 hb2=>?_;have hB2:=hB1.trans (hb2.mono hB1.size);clear hb2 hB1;go_wp21;refine zzM (HIT.out w2 (HW.out.below hB2)) λw3 hb3=>?_;have hB3:=hB2.trans (hb3.mono hB2.size);clear hb3 hB2;go_wp21;go_ret2;exact⟨rfl,hB3⟩
theorem z1h (x y:Int) (hx:digs x<=300) (hy:digs y<=300) (h:¬(zE x).length+(zE y).length<=18) (w:zA) (hw:Wd w):
 qJ 106 #[St (zE x),St (zE y)] w (.tuple #[St (resL (x*y)),.int .i64 (resE (x*y))]):=by
 have hb:=λW=>zdh x y hx hy W;have r1:=λW=>zc3 x W (by omega);have r2:=λW=>zc3 y W (by omega);have l1:=zb4 (z:=x) (k:=100) (by omega) (by omega);have l2:=zb4 (z:=y) (k:=100) (by omega) (by omega);have l3:=zb4 (z:=x*y) (k:=100) (by omega) (zO (zq2 (by omega) (by omega) hx hy) (by omega));rw[yK] at l3;have hle:decide (((zE x).length:Int)+((zE y).length:Int)<=18)=false:=by simp;omega
 have q1:=za7 x;have q2:=za7 y;have hl1:(zE x).length<=301:=by omega
 have hl2:(zE y).length<=301:=by omega
 clear q1 q2;have HB:=hid hb;clear hb hx hy h;have HW:=hid hw;clear hw;have R1:=hid r1;have R2:=hid r2;clear r1 r2;go_enter Tryz.func106,Tryz.ntmps106;go_wp21;refine zzM (HB.out w) λw1 hB1=>?_;go_wp21;refine(R1.out w1).mono ?_;rintro e w2 ⟨vx,rfl,hvx,hb2⟩;have hB2:=hB1.trans (hb2.mono hB1.size);clear hb2 hB1;have HVX:=hid hvx;clear hvx;go_wp21;refine(R2.out w2).mono ?_;rintro e w3 ⟨vy,rfl,hvy,hb3⟩;have hvx:=HVX.out.below hb3;have hB3:=hB2.trans (hb3.mono hB2.size);clear hb3 hB2 HVX;obtain⟨px,kx,cx,rfl, -⟩:=zbx hvx;obtain⟨py,ky,cy,rfl, -⟩:=zbx hvy;have HVX:=hid hvx;have HVY:=hid hvy;clear hvx hvy;have sm:=z1f x y;generalize hbx:decide (x<0)=b1 at*
 generalize hby:decide (y<0)=b2 at*
 have SM:=hid sm;clear sm hbx hby
 go_wp2;have b1k:=(Below.heap_alloc (w3.alloc (.cells #[.bool b1,.slice px kx cx] 150)) (.cells #[.bool b2,.slice py ky cy] 150) w3.heap.size (by simp)).trans (zG w3 (.cells #[.bool b1,.slice px kx cx] 150));have b2k:=zG (w3.alloc (.cells #[.bool b1,.slice px kx cx] 150)) (.cells #[.bool b2,.slice py ky cy] 150);rw[zH] at b2k;have hB4:=(hB3.alloc hB3.size (.cells #[.bool b1,.slice px kx cx] 150)).alloc (by have:=hB3.size;simp;omega) (.cells #[.bool b2,.slice py ky cy] 150);have hb4:qL w3 ((w3.alloc (.cells #[.bool b1,.slice px kx cx] 150)).alloc (.cells #[.bool b2,.slice py ky cy] 150)):=((zM _ _).alloc (zN _) _).alloc (by simp) _;have HVX2:=hid (HVX.out.below hb4);have HVY2:=hid (HVY.out.below hb4);clear HVX HVY hb4;generalize (w3.alloc (.cells #[.bool b1,.slice px kx cx] 150)).alloc (.cells #[.bool b2,.slice py ky cy] 150)=W4 at*
 obtain⟨z,hz⟩:=zzX w3.heap.size;rw[<-hz] at b1k b2k⊢;clear hz hB3 w3;have ck:∀W:zA,W.heap[z]? =W4.heap[z]? ->W.heap[z+1]? =W4.heap[z+1]? ->(W.cell? ⟨z,0,none⟩=some (.bool b1)/\W.cell? ⟨z,1,none⟩=some (.slice px kx cx))/\W.cell? ⟨z+1,0,none⟩=some (.bool b2)/\W.cell? ⟨z+1,1,none⟩=some (.slice py ky cy):=
  λW h k=>⟨⟨by simp[World.cell?,h,b1k],by simp[World.cell?,h,b1k]⟩,by simp[World.cell?,k,b2k],by simp[World.cell?,k,b2k]⟩
 have CK:=hid ck;clear ck;have lz:z+1<W4.heap.size:=(Array.getElem?_eq_some_iff.1 b2k).1;clear b1k b2k;refine zwm [(0,true),(1,true),(2,true),(3,true),(4,true),(5,true),(6,true),(7,true),(8,true),(9,false),(10,true),(11,false),(12,true),(13,true),(14,true),(15,true)]
  (λW=>(W.cell? ⟨z,0,none⟩=some (.bool b1)/\W.cell? ⟨z,1,none⟩=some (.slice px kx cx))/\W.cell? ⟨z+1,0,none⟩=some (.bool b2)/\W.cell? ⟨z+1,1,none⟩=some (.slice py ky cy)) (by kernel_rfl) (by kernel_rfl) (CK.out _ rfl rfl) ?_
 iterate 9 (apply MQ.take (by simp only[List.getElem?_toArray,List.getElem?_cons_succ,List.getElem?_cons_zero];rfl) (by rfl);(focus(rintro W ⟨⟨h1,h2⟩,h3,h4⟩;go_simp;try with_reducible rfl));try simp only[zzQ])
 (refine MQ.only (by simp only[List.getElem?_toArray,List.getElem?_cons_succ,List.getElem?_cons_zero];rfl) (by rfl) λK hK=>?_;go_simp)
 refine(zy4 (.slice px kx cx) (.slice py ky cy) _ _ W4.drew (HVX2.out.below (zM _ _).drew) (HVY2.out.below (zM _ _).drew) (by omega) (by omega)).mono ?_;rintro e w5 ⟨p,c,k,rfl,hv,hb5⟩;have hB5:=hB4.drew.trans (hb5.mono (by show _<=W4.heap.size;exact hB4.size));have e5:w5.heap[z]? =W4.heap[z]? :=hb5.block z (by show z<W4.heap.size;omega);have f5:w5.heap[z+1]? =W4.heap[z+1]? :=hb5.block (z+1) lz;have lz5:z+1<w5.heap.size:=zS lz hb5.size;have S5:=CK.out w5 e5 f5;have E5:=hid e5;have F5:=hid f5;have HV:=hid hv;clear hb5 e5 f5 hv hB4
 (refine hK _ _ S5 ?_;clear hK K;try simp only[zzQ])
 (apply MQ.take (by simp only[List.getElem?_toArray,List.getElem?_cons_succ,List.getElem?_cons_zero];rfl) (by rfl);(focus(rintro W ⟨⟨h1,h2⟩,h3,h4⟩;go_simp;try with_reducible rfl));try simp only[zzQ])
 (refine MQ.only (by simp only[List.getElem?_toArray,List.getElem?_cons_succ,List.getElem?_cons_zero];rfl) (by rfl) λK hK=>?_;go_simp)
 refine(zez (b1 !=b2) (.slice p k c) (x.natAbs*y.natAbs) w5 (HW.out.below hB5) HV.out (by omega)).mono ?_;rw[SM.out];rintro e w6 ⟨rfl,hb6⟩;have hB6:=hB5.trans (hb6.mono hB5.size);have S6:=CK.out w6 ((hb6.block z (by omega)).trans E5.out) ((hb6.block (z+1) lz5).trans F5.out);clear hb6 hB5
 (refine hK _ _ S6 ?_;clear hK K;try simp only[zzQ])
 iterate 4 (apply MQ.take (by simp only[List.getElem?_toArray,List.getElem?_cons_succ,List.getElem?_cons_zero];rfl) (by rfl);(focus(rintro W ⟨⟨h1,h2⟩,h3,h4⟩;go_simp;try with_reducible rfl));try simp only[zzQ])
 refine MQ.nil ⟨rfl,?_⟩;go_wp21;go_ret2;exact⟨rfl,hB6⟩
theorem zhk (x y:Int) (hx:digs x<=300) (hy:digs y<=300) (w:zA) (hw:Wd w):
 qJ 106 #[St (zE x),St (zE y)] w (.tuple #[St (resL (x*y)),.int .i64 (resE (x*y))]):=by
 by_cases h:(zE x).length+(zE y).length<=18
 ·exact zwt x y h w hw
 ·exact z1h x y hx hy h w hw
def cmpZ (x y:Int):Int:=if x<y then-1 else if x>y then 1 else 0
theorem zpx (x y:Int) (hx:(zE x).length<=18) (hy:(zE y).length<=18) (w:zA):
 qJ 59 #[St (zE x),St (zE y)] w (.tuple #[.int .i64 (cmpZ x y),.int .i64 0]):=by
 obtain⟨x1,x2⟩:=lt18 hx;obtain⟨y1,y2⟩:=lt18 hy;have hb:=λW=>zdh x y (zO (zbf (by omega)) (by omega)) (zO (zbf (by omega)) (by omega)) W;have hs:=λW=>zdy x y hx hy W;have hc:∀W,zC zF 56 #[.int .i64 x,.int .i64 y] W λe w'=>e=.returned (.int .i64 (cmpZ x y))/\w'=W:=λW=>Tryz.cmp_Compare_int x y W;have HB:=hid hb;clear hb;have HC:=hid hc;clear hc;have HS:=hid hs;clear hs hx hy;go_enter Tryz.func59,Tryz.ntmps59;go_wp21;refine zzM (HB.out w) λw1 hB1=>?_;go_wp21;refine zzM (HS.out w1) λw2 hb2=>?_;have hB2:=hB1.trans (hb2.mono hB1.size);clear hb2 hB1;go_wp21;refine(HC.out w2).mono ?_;rintro e w3 ⟨rfl,rfl⟩;go_wp21;go_ret2;exact⟨rfl,hB2⟩
theorem zsw (x y:Int) (hx:digs x<=300) (hy:digs y<=300) (h:18<(zE x).length\/18<(zE y).length) (w:zA):
 qJ 59 #[St (zE x),St (zE y)] w (.tuple #[.int .i64 (cmpZ x y),.int .i64 0]):=by
 have hb:=λW=>zdh x y hx hy W;have hs:=λW=>ze8 x y h W;have r1:=λW=>zc3 x W (by omega);have r2:=λW=>zc3 y W (by omega);have l1:=zb4 (z:=x) (k:=100) (by omega) (by omega);have l2:=zb4 (z:=y) (k:=100) (by omega) (by omega);have HB:=hid hb;clear hb;have HS:=hid hs;clear hs hx hy h;have R1:=hid r1;have R2:=hid r2;clear r1 r2;go_enter Tryz.func59,Tryz.ntmps59;go_wp21;refine zzM (HB.out w) λw1 hB1=>?_;go_wp21;refine(HS.out w1).mono ?_;rintro e w2 ⟨rfl,rfl⟩;go_wp21;refine(R1.out w1).mono ?_;rintro e w2 ⟨vx,rfl,hvx,hb2⟩;have hB2:=hB1.trans (hb2.mono hB1.size);clear hb2 hB1;have HVX:=hid hvx;clear hvx;go_wp21;refine(R2.out w2).mono ?_;rintro e w3 ⟨vy,rfl,hvy,hb3⟩;have hvx:=HVX.out.below hb3;have hB3:=hB2.trans (hb3.mono hB2.size);clear hb3 hB2 HVX;obtain⟨px,kx,cx,rfl, -⟩:=zbx hvx;obtain⟨py,ky,cy,rfl, -⟩:=zbx hvy;have HVX:=hid hvx;have HVY:=hid hvy;clear hvx hvy;have sx:=zcs x;have sy:=ztv y;generalize hbx:decide (x<0)=b1 at*
 generalize hby:decide (y<0)=b2 at*
 have SX:=hid sx;have SY:=hid sy;clear sx sy hbx hby
 go_wp21;have hB4:=(hB3.alloc hB3.size (.cells #[.bool b1,.slice px kx cx] 150)).alloc (by have:=hB3.size;simp;omega) (.cells #[.bool !b2,.slice py ky cy] 150);have hb4:qL w3 ((w3.alloc (.cells #[.bool b1,.slice px kx cx] 150)).alloc (.cells #[.bool !b2,.slice py ky cy] 150)):=((zM _ _).alloc (zN _) _).alloc (by simp) _;refine(zog _ _ (.slice px kx cx) (.slice py ky cy) _ _ _ (HVX.out.below hb4) (HVY.out.below hb4) (by omega) (by omega)).mono ?_;rintro e w5 ⟨m,v,n,rfl,hz,hv,hb5⟩;rw[SX.out,SY.out] at hz;obtain⟨p,k,c,rfl,hk⟩:=zbx hv;have hB5:=hB4.trans (hb5.mono hB4.size);clear hb4 hB4 hb5 hB3 HVX HVY;have hk0:k=0↔n=0:=by rw[hk];exact⟨λe=>(zbd (by decide) n).1 (List.length_eq_zero_iff.1 e),λe=>by rw[e,zaz];rfl⟩
 clear hk hv;have hfin:(n=0->cmpZ x y=0)/\(n≠0->m=true->cmpZ x y= -1)/\(n≠0->m=false->cmpZ x y=1):=by
  unfold cmpZ;refine⟨λh=>?_,λh1 h2=>?_,λh1 h2=>?_⟩
  ·subst h
   have:x=y:=by cases m<;>simp[sgn] at hz<;>omega
   rw[if_neg (by omega),if_neg (by omega)]
  ·subst h2;simp[sgn] at hz;rw[if_pos (by omega)]
  ·subst h2;simp[sgn] at hz;rw[if_neg (by omega),if_pos (by omega)]
 have HF:=hid hfin;clear hfin hz;have hBF:=hB5.alloc hB5.size (.cells #[.bool m,.slice p k c] 150);by_cases h0:n=0
 ·have hkz:((k:Int)==0)=true:=by rw[beq_iff_eq];have:=hk0.2 h0;omega
  have HH:=hid h0;clear h0 hk0;go_wp21;go_ret2;exact⟨by rw[HF.out.1 HH.out];rfl,hBF⟩
 ·have hkz:((k:Int)==0)=false:=by rw[beq_eq_false_iff_ne];have:=mt hk0.1 h0;omega
  have HH:=hid h0;clear h0 hk0;cases m
  ·go_wp21
   go_ret2;exact⟨by rw[HF.out.2.2 HH.out (by simp)];rfl,hBF⟩
  ·go_wp21
   go_ret2;exact⟨by rw[HF.out.2.1 HH.out (by simp)];rfl,hBF⟩
theorem zsx (x y:Int) (hx:digs x<=300) (hy:digs y<=300) (w:zA):
 qJ 59 #[St (zE x),St (zE y)] w (.tuple #[.int .i64 (cmpZ x y),.int .i64 0]):=by
 by_cases h:(zE x).length<=18/\(zE y).length<=18
 ·exact zpx x y h.1 h.2 w
 ·exact zsw x y hx hy (by omega) w
theorem zmt (a b:Int):Int.gcd b (a.tmod b)=Int.gcd a b:=by
 unfold Int.gcd;rw[Int.natAbs_tmod,Nat.gcd_comm b.natAbs,<-Nat.gcd_rec,Nat.gcd_comm]
theorem zq4 (x y:Int) (hx:digs x<=300) (hy:digs y<=300):digs (Int.gcd x y:Int)<=300:=by
 by_cases h0:x=0
 ·subst h0
  rw[Int.gcd_zero_left];unfold digs at*;simpa using hy
 ·rw[za3 _ _ (by omega)] at hx⊢
  rw[Int.natAbs_natCast];exact Nat.lt_of_le_of_lt (Nat.le_of_dvd (by omega) (Nat.gcd_dvd_left _ _)) hx
theorem zwu (x y:Int) (hx:(zE x).length<=18) (hy:(zE y).length<=18) (w:zA) (hw:Wd w):
 qJ 68 #[St (zE x),St (zE y)] w (.tuple #[St (zE (Int.gcd x y:Int)),.int .i64 0]):=by
 obtain⟨x1,x2⟩:=lt18 hx;obtain⟨y1,y2⟩:=lt18 hy;have hb:=λW=>zdh x y (zO (zbf (by omega)) (by omega)) (zO (zbf (by omega)) (by omega)) W;have hs:=λW=>zdy x y hx hy W;have HB:=hid hb;clear hb;have HS:=hid hs;clear hs hx hy;have HW:=hid hw;clear hw;obtain⟨g,hg⟩:=zzX (Int.gcd x y);rw[<-hg];have HG:=hid hg;clear hg;go_enter Tryz.func68,Tryz.ntmps68;go_wp21;refine zzM (HB.out w) λw1 hB1=>?_;go_wp21;refine zzM (HS.out w1) λw2 hb2=>?_;have hB2:=hB1.trans (hb2.mono hB1.size);clear hb2 hB1;go_wp21;go_loopw [7,8] (λa b wr=>∃m n:Int,a=.int .i64 m/\b=.int .i64 n/\Hid (Int.gcd m n=g)/\(-1000000000000000000<m/\m<1000000000000000000)/\(-1000000000000000000<n/\n<1000000000000000000)/\Hid (qL w wr))
  (λ_ b _=>(zL b).natAbs)
 case atStart=>exact⟨x,y,rfl,rfl,HG.out.symm,⟨x1,x2⟩,⟨y1,y2⟩,hB2⟩
 case round=>
  clear x1 x2 y1 y2 hB2;obtain⟨m,n,rfl,rfl,hgm,⟨m1,m2⟩,⟨n1,n2⟩,hBr⟩:=hrel;by_cases h0:n=0
  ·subst h0
   have hgm':Int.gcd m 0=g:=hgm.out;rw[Int.gcd_zero_right] at hgm';have hmx:max m (-m)=(g:Int):=by omega
   have HM:=hid hgm';clear hgm hgm';have hg1:(g:Int)<=1000000000000000000:=by omega
   have hneg:IntKind.i64.wrap (-m)= -m:=zI _ (by omega);go_wp21;refine zzM (zb3 (g:Int) (by omega) (by omega) wr (HW.out.below hBr.out)) λw3 hb3=>?_;have hB3:=hBr.out.trans (hb3.mono hBr.out.size);clear hb3;go_wp21;go_ret2;exact⟨rfl,hB3⟩
  ·have hn0:(n !=0)=true:=by simpa using h0
   have ht1:(m.tmod n).natAbs<n.natAbs:=by rw[Int.natAbs_tmod];exact zP _ (by omega)
   obtain⟨t,ht⟩:=zzX (m.tmod n);have hgt:=zmt m n;rw[<-ht] at ht1 hgt;have hwr:IntKind.i64.wrap (m.tmod n)=t:=by rw[<-ht];exact zI _ (by omega)
   have HGT:=hid hgt;have HT:=hid ht;clear hgt ht hwr;go_wp2
   (refine wp_region_quiet_lit (by kernel_rfl) (by kernel_rfl) (WQ.out ?_);(repeat(first|(apply WQ.read (by rfl);(focus(rintro W ⟨n,rfl⟩;go_simp;try with_reducible rfl));try simp only[zzQ])|(apply WQ.skip (by rfl);try simp only[zzQ])));refine WQ.nil ?_;rintro _ ⟨nq,rfl⟩)
   go_wp2;go_roundw
   case rel=>exact⟨n,t,rfl,by rw[HT.out],HGT.out.trans hgm.out,⟨n1,n2⟩,by omega,zao hBr.out _⟩
   case measure=>show(m.tmod n).natAbs<n.natAbs;rw[<-HT.out];exact ht1
theorem znj (b:Bool) (p:Option Addr) (k c:Nat) (W:zA):(Instr.field 150 (.agg #[.bool b,.slice p k c]) 1).run zF W=.ok (.slice p k c) W:=by kernel_rfl
theorem zkx (a b:Nat):Nat.gcd b (a%b)=Nat.gcd a b:=by
 rw[Nat.gcd_comm b,<-Nat.gcd_rec,Nat.gcd_comm]
theorem z1i (x y:Int) (hx:digs x<=300) (hy:digs y<=300) (h:18<(zE x).length\/18<(zE y).length) (w:zA) (hw:Wd w):
 qJ 68 #[St (zE x),St (zE y)] w (.tuple #[St (zE (Int.gcd x y:Int)),.int .i64 0]):=by
 have hb:=λW=>zdh x y hx hy W;have hs:=λW=>ze8 x y h W;have r1:=λW=>zc3 x W (by omega);have r2:=λW=>zc3 y W (by omega);have l1:=zb4 (z:=x) (k:=100) (by omega) (by omega);have l2:=zb4 (z:=y) (k:=100) (by omega) (by omega);have hgd:=zq4 x y hx hy;have HB:=hid hb;clear hb;have HS:=hid hs;clear hs hx hy h;have HW:=hid hw;clear hw;have R1:=hid r1;have R2:=hid r2;clear r1 r2;obtain⟨g,hg⟩:=zzX (Int.gcd x y);rw[<-hg] at hgd⊢;have HG:=hid hg;clear hg;have hfd:=znj;go_enter Tryz.func68,Tryz.ntmps68;go_wp21;refine zzM (HB.out w) λw1 hB1=>?_;go_wp21;refine(HS.out w1).mono ?_;rintro e w2 ⟨rfl,rfl⟩;go_wp21;refine(R1.out w1).mono ?_;rintro e w2 ⟨vx,rfl,hvx,hb2⟩;have hB2:=hB1.trans (hb2.mono hB1.size);clear hb2 hB1;obtain⟨px,kx,cx,rfl, -⟩:=zbx hvx;have HVX:=hid hvx;clear hvx;go_wp21;refine(R2.out w2).mono ?_;rintro e w3 ⟨vy,rfl,hvy,hb3⟩;have hvx:=HVX.out.below hb3;have hB3:=hB2.trans (hb3.mono hB2.size);clear hb3 hB2 HVX;obtain⟨py,ky,cy,rfl, -⟩:=zbx hvy;have HVX:=hid hvx;have HVY:=hid hvy;clear hvx hvy;go_wp2;go_loopg [10,11] y.natAbs (λk va vb wr=>∃a b p kb c,vb=.slice p kb c/\Hid (k=b)/\Hid (kb=(zaa B9 b).length)/\(zaa B9 a).length<=100/\(zaa B9 b).length<=100/\Hid (Sl wr va ((zaa B9 a).map I))/\Hid (Sl wr vb ((zaa B9 b).map I))/\Hid (Nat.gcd a b=g)/\Hid (qL w wr))
 case atStart=>
  obtain⟨p,k,c,e,hk⟩:=zbx HVY.out;cases e;exact⟨x.natAbs,y.natAbs,py,ky,cy,rfl,rfl,hk,l1,l2,HVX.out,HVY.out,HG.out.symm,hB3⟩
 case round=>
  clear HVX HVY hB3;obtain⟨a,b,p,kb,c,rfl,hk,hkb,la,lb,hva,hvb,hgc,hBr⟩:=hrel;by_cases h0:kb=0
  ·have hb0:b=0:=(zbd (B:=B9) (by decide) b).1 (List.length_eq_zero_iff.1 (by rw[<-hkb.out];exact h0))
   have hga:a=g:=by have:=hgc.out;rw[hb0,Nat.gcd_zero_right] at this;exact this
   have hz0:¬(0:Int)<kb:=by omega
   have HA:=hid hga;clear hga;have HB0:=hid hb0;clear hb0;have HK0:=hid h0;clear h0;obtain⟨p1,k1,c1,rfl, -⟩:=zbx hva.out;have hres:=zez false _ a wr (HW.out.below hBr.out) hva.out (by omega);rw[zkw,HA.out,zcf hgd,zcg hgd] at hres;have HRES:=hid hres;clear hres;go_wp21;refine zzM HRES.out λw4 hb4=>?_;have hB4:=hBr.out.trans (hb4.mono hBr.out.size);clear hb4;go_wp21;go_ret2;exact⟨rfl,hB4⟩
  ·have hz0:(0:Int)<kb:=by omega
   have hb0:b≠0:=λe=>h0 (by rw[hkb.out,e,zaz];rfl);go_wp21;refine(znf _ (.slice p kb c) a b wr hva.out hvb.out (by omega) (by omega) hb0).mono ?_;rintro e w4 ⟨v1,v2,rfl,hs1,hs2,hb4⟩;have hB4:=hBr.out.trans (hb4.mono hBr.out.size);have hvb4:=hvb.out.below hb4;obtain⟨p2,k2,c2,rfl,hk2⟩:=zbx hs2;have HS2:=hid hs2;have HB4:=hid hB4;have HVB:=hid hvb4;have HK2:=hid hk2;have HB0:=hid hb0;clear hs1 hs2 hb4 hB4 hvb4 hk2 hb0 hva hvb hBr;go_wp2;go_roundg (a%b)
   case measure=>rw[hk.out];exact zP _ (Nat.pos_of_ne_zero HB0.out)
   case rel=>exact⟨b,a%b,p2,k2,c2,rfl,rfl,HK2.out,lb,zO (zd6 (by decide) (Nat.le_of_lt (zP _ (Nat.pos_of_ne_zero HB0.out)))) lb,HVB.out,HS2.out,(zkx a b).trans hgc.out,HB4.out⟩
theorem ztw (x y:Int) (hx:digs x<=300) (hy:digs y<=300) (w:zA) (hw:Wd w):
 qJ 68 #[St (zE x),St (zE y)] w (.tuple #[St (zE (Int.gcd x y:Int)),.int .i64 0]):=by
 by_cases h:(zE x).length<=18/\(zE y).length<=18
 ·exact zwu x y h.1 h.2 w hw
 ·exact z1i x y hx hy (by omega) w hw
theorem zq5 (x y q:Int) (hq:x=q*y) (hy0:0<y) (hx:(zE x).length<=18) (hy:(zE y).length<=18) (w:zA) (hw:Wd w):
 qJ 69 #[St (zE x),St (zE y)] w (.tuple #[St (zE q),St [48],.int .i64 0]):=by
 obtain⟨x1,x2⟩:=lt18 hx;obtain⟨y1,y2⟩:=lt18 hy;have hb:=λW=>zdh x y (zO (zbf (by omega)) (by omega)) (zO (zbf (by omega)) (by omega)) W;have hs:=λW=>zdy x y hx hy W;have hqa:q.natAbs<=x.natAbs:=by rw[hq,yK];exact Nat.le_mul_of_pos_right _ (by omega)
 have hit:=λW hW=>zb3 q (by omega) (by omega) W hW;have hiz:=λW hW=>zb3 0 (by omega) (by omega) W hW;have hd:x.tdiv y=q:=by rw[hq];exact Int.mul_tdiv_cancel _ (by omega)
 have hm:x.tmod y=0:=by rw[hq];exact Int.mul_tmod_left _ _
 have w1:IntKind.i64.wrap (x.tdiv y)=q:=by rw[hd];exact zI _ (by omega)
 have w2:IntKind.i64.wrap (x.tmod y)=0:=by rw[hm];rfl
 rw[zb9] at hiz;have hyn:(zE y==[48])=false:=by rw[beq_eq_false_iff_ne,<-zb9];exact λh=>by have:=zdo h;omega
 have hne:¬zE y=[48]:=by simpa using hyn
 have hy1:¬y=0:=by omega
 have HB:=hid hb;clear hb;have HIT:=hid hit;clear hit;have HIZ:=hid hiz;clear hiz;have HS:=hid hs;have HQD:=hid hd;have HMD:=hid hm;clear hs hx hy hq hd hm hqa;have HW:=hid hw;clear hw;go_enter Tryz.func69,Tryz.ntmps69;go_wp21;refine zzM (HB.out w) λw3 hB1=>?_;go_wp21;refine zzM (HS.out w3) λw4 hb2=>?_;have hB2:=hB1.trans (hb2.mono hB1.size);clear hb2 hB1;go_wp21
 (refine wp_region_quiet_lit (by kernel_rfl) (by kernel_rfl) (WQ.out ?_);(repeat(first|(apply WQ.read (by rfl);(focus(rintro W ⟨n,rfl⟩;go_simp;try with_reducible rfl));try simp only[zzQ])|(apply WQ.skip (by rfl);try simp only[zzQ])));refine WQ.nil ?_;rintro _ ⟨nq,rfl⟩)
 go_wp21;have hB3:=zao hB2 nq;refine zzM (HIT.out (w4.drewN nq) (HW.out.below hB3)) λw5 hb5=>?_;have hB5:=hB3.trans (hb5.mono hB3.size);clear hb5 hB3 hB2;go_wp21;refine zzM (HIZ.out w5 (HW.out.below hB5)) λw6 hb6=>?_;have hB6:=hB5.trans (hb6.mono hB5.size);clear hb6 hB5;go_wp21;go_ret3;exact⟨rfl,hB6⟩
theorem ztx (x y q:Int) (hq:x=q*y) (hy:0<y):sgn (decide (x<0) !=decide (y<0)) (x.natAbs/y.natAbs)=q/\x.natAbs%y.natAbs=0:=by
 have h1:x.natAbs=q.natAbs*y.natAbs:=by rw[hq,yK]
 have h2:0<y.natAbs:=by omega
 rw[h1,Nat.mul_div_cancel _ h2,Nat.mul_mod_left];refine⟨?_,rfl⟩;have e:decide (y<0)=false:=by simp;omega
 rw[e,Bool.bne_false];have e2:decide (x<0)=decide (q<0):=by
  rw[hq];by_cases h:q<0
  ·have:q*y<0:=Int.mul_neg_of_neg_of_pos h hy
   simp[h,this]
  ·have:0<=q*y:=Int.mul_nonneg (by omega) (by omega)
   simp[h];omega
 rw[e2];exact zcs q
theorem zuy (x y q:Int) (hq:x=q*y) (hy0:0<y) (hx:digs x<=300) (hy:digs y<=300) (h:18<(zE x).length\/18<(zE y).length) (w:zA) (hw:Wd w):
 qJ 69 #[St (zE x),St (zE y)] w (.tuple #[St (zE q),St [48],.int .i64 0]):=by
 have hb:=λW=>zdh x y hx hy W;have hs:=λW=>ze8 x y h W;have r1:=λW=>zc3 x W (by omega);have r2:=λW=>zc3 y W (by omega);have l1:=zb4 (z:=x) (k:=100) (by omega) (by omega);have l2:=zb4 (z:=y) (k:=100) (by omega) (by omega);obtain⟨s1,s2⟩:=ztx x y q hq hy0;have hqd:digs q<=300:=by
  have hqa:q.natAbs<=x.natAbs:=by rw[hq,yK];exact Nat.le_mul_of_pos_right _ (by omega)
  rw[za3 _ _ (by omega)] at hx⊢;exact Nat.lt_of_le_of_lt hqa hx
 have hyn:(zE y==[48])=false:=by rw[beq_eq_false_iff_ne,<-zb9];exact λh=>by have:=zdo h;omega
 have hne:¬zE y=[48]:=by simpa using hyn
 have hm0:y.natAbs≠0:=by omega
 have lq:=zd6 (B:=B9) (by decide) (Nat.div_le_self x.natAbs y.natAbs);have HB:=hid hb;clear hb;have HS:=hid hs;clear hs hx hy h;have HW:=hid hw;clear hw;have R1:=hid r1;have R2:=hid r2;clear r1 r2;have S1:=hid s1;have S2:=hid s2;clear s1 s2;have HQ:=hid hq;clear hq;go_enter Tryz.func69,Tryz.ntmps69;go_wp21;refine zzM (HB.out w) λw1 hB1=>?_;go_wp21;refine(HS.out w1).mono ?_;rintro e w2 ⟨rfl,rfl⟩;go_wp21;refine(R1.out w1).mono ?_;rintro e w2 ⟨vx,rfl,hvx,hb2⟩;have hB2:=hB1.trans (hb2.mono hB1.size);clear hb2 hB1;obtain⟨px,kx,cx,rfl, -⟩:=zbx hvx;have HVX:=hid hvx;clear hvx;go_wp21;refine(R2.out w2).mono ?_;rintro e w3 ⟨vy,rfl,hvy,hb3⟩;have hvx:=HVX.out.below hb3;have hB3:=hB2.trans (hb3.mono hB2.size);clear hb3 hB2 HVX;obtain⟨py,ky,cy,rfl, -⟩:=zbx hvy;have HVX:=hid hvx;have HVY:=hid hvy;clear hvx hvy;have hby2:decide (y<0)=false:=by simp;omega
 generalize hbx:decide (x<0)=b1 at*
 rw[hby2] at*
 have HBX:=hid hbx;clear hbx hby2;go_wp21;have hB4:=(hB3.alloc hB3.size (.cells #[.bool b1,.slice px kx cx] 150)).alloc (by have:=hB3.size;simp;omega) (.cells #[.bool false,.slice py ky cy] 150);have hb4:qL w3 ((w3.alloc (.cells #[.bool b1,.slice px kx cx] 150)).alloc (.cells #[.bool false,.slice py ky cy] 150)):=((zM _ _).alloc (zN _) _).alloc (by simp) _;have b1k:=(Below.heap_alloc (w3.alloc (.cells #[.bool b1,.slice px kx cx] 150)) (.cells #[.bool false,.slice py ky cy] 150) w3.heap.size (by simp)).trans (zG w3 (.cells #[.bool b1,.slice px kx cx] 150));have b2k:=zG (w3.alloc (.cells #[.bool b1,.slice px kx cx] 150)) (.cells #[.bool false,.slice py ky cy] 150);rw[zH] at b2k;refine(znf (.slice px kx cx) (.slice py ky cy) _ _ _ (HVX.out.below hb4) (HVY.out.below hb4) (by omega) (by omega) hm0).mono ?_;rintro e w5 ⟨v1,v2,rfl,hs1,hs2,hb5⟩;rw[S2.out] at hs2;rw[zaz] at hs2;obtain⟨p1,k1,c1,rfl, -⟩:=zbx hs1;obtain⟨p2,k2,c2,rfl,hk2⟩:=zbx hs2;rw[List.length_nil] at hk2;subst hk2;have hB5:=hB4.trans (hb5.mono hB4.size);have b1k:=(hb5.block w3.heap.size (by simp only[zH];omega)).trans b1k;have b2k:=(hb5.block (w3.heap.size+1) (by simp only[zH];omega)).trans b2k;have c1k:w5.cell? ⟨w3.heap.size,0,none⟩=some (.bool b1):=by simp[World.cell?,b1k]
 have c2k:w5.cell? ⟨w3.heap.size+1,0,none⟩=some (.bool false):=by simp[World.cell?,b2k]
 have lz:w3.heap.size+1<w5.heap.size:=(Array.getElem?_eq_some_iff.1 b2k).1;have HV1:=hid hs1;have HV2:=hid hs2;clear hb4 hB4 hb5 hs1 hs2 hB3 HVX HVY b1k b2k;have rs:=zez (b1 !=false) (.slice p1 k1 c1) (x.natAbs/y.natAbs) w5 (HW.out.below hB5) HV1.out (by omega);rw[S1.out,zcf hqd,zcg hqd] at rs;rw[Bool.bne_false] at rs;have RS:=hid rs;clear rs;cases b1
 all_goals
  go_wp21;refine zzM RS.out λw6 hb6=>?_;have hB6:=hB5.trans (hb6.mono hB5.size);have d1:=(hb6.cell (p:=⟨w3.heap.size,0,none⟩) (by show w3.heap.size<w5.heap.size;omega)).trans c1k;have d2:=(hb6.cell (p:=⟨w3.heap.size+1,0,none⟩) lz).trans c2k;have rt:=zez false (.slice p2 0 c2) 0 w6 (HW.out.below hB6) (by rw[zaz];exact HV2.out.below hb6) (by rw[zaz];simp);rw[show sgn false 0=0 from rfl,zcf (zO (zbf (z:=0) (by omega)) (by omega)),zcg (zO (zbf (z:=0) (by omega)) (by omega)),zb9] at rt;have RT:=hid rt;clear rt hb6 c1k c2k hB5;go_wp21;refine zzM RT.out λw7 hb7=>?_;have hB7:=hB6.trans (hb7.mono hB6.size);clear hb7 hB6;go_wp21;go_ret3;exact⟨rfl,hB7⟩
theorem zky (x y q:Int) (hq:x=q*y) (hy0:0<y) (hx:digs x<=300) (hy:digs y<=300) (w:zA) (hw:Wd w):
 qJ 69 #[St (zE x),St (zE y)] w (.tuple #[St (zE q),St [48],.int .i64 0]):=by
 by_cases h:(zE x).length<=18/\(zE y).length<=18
 ·exact zq5 x y q hq hy0 h.1 h.2 w hw
 ·exact zuy x y q hq hy0 hx hy (by omega) w hw
end Go.Proofs.YtfoodcpnnmonhaaGreatDoor
namespace Go.Proofs.YtfoodcpnnmonhaaGreatDoor.Str
open Go.Lib
def numS (q:Rat):List UInt8:=zE q.num++(if q.den=1 then[] else 47::zD q.den)
theorem zdz (n:Nat):(47:UInt8)∉zD n:=λh=>by have:=zan n _ h;simp at this
theorem zfe (a:Int):(47:UInt8)∉zE a:=by
 rcases zbg a with⟨_,e⟩|⟨_,e⟩<;>rw[e]
 ·exact zdz _
 ·intro h
  rcases List.mem_cons.1 h with h|h
  ·cases h
  ·exact zdz _ h
theorem zkz {α:Type} {x:α}:∀{a b c d:List α},x∉a->x∉c->a++x::b=c++x::d->a=c/\b=d
 |[],_,[],_,_,_,h=>by simpa using h
 |[],_,y::c,_,_,hc,h=>by simp at h;exact absurd h.1 (λe=>hc (by simp[e]))
 |y::a,_,[],_,ha,_,h=>by simp at h;exact absurd h.1 (λe=>ha (by simp[e]))
 |y::a,b,z::c,d,ha,hc,h=>by
  simp at h;obtain⟨h1,h2⟩:=zkz (a:=a) (c:=c) (λk=>ha (by simp[k])) (λk=>hc (by simp[k])) h.2;exact⟨by rw[h.1,h1],h2⟩
theorem zh0 {a b:Rat} (h:numS a=numS b):a=b:=by
 unfold numS at h;have ha:=zfe a.num;have hb:=zfe b.num;by_cases h1:a.den=1<;>by_cases h2:b.den=1
 ·rw[if_pos h1,if_pos h2] at h
  exact Rat.ext (zdo (by simpa using h)) (by omega)
 ·rw[if_pos h1,if_neg h2,yH] at h
  exact absurd (by rw[h];simp) ha
 ·rw[if_neg h1,if_pos h2,yH] at h
  exact absurd (by rw[<-h];simp) hb
 ·rw[if_neg h1,if_neg h2] at h
  obtain⟨e1,e2⟩:=zkz ha hb h;exact Rat.ext (zdo e1) (zfk e2)
theorem zmu {q:Rat} (h:q.den=1):numS q=zE q.num:=by simp[numS,h]
theorem zid {q:Rat} (h:q.den≠1):numS q=zE q.num++47::zD q.den:=by simp[numS,h]
theorem zha (n:Int):numS (n:Rat)=zE n:=by simp[numS]
theorem zie:numS 0=[48]:=by rw[show(0:Rat)=((0:Int):Rat) from rfl,zha,zb9]
theorem zpy (q:Rat):numS q=[48]↔q=0:=⟨λh=>zh0 (h.trans zie.symm),λh=>by rw[h,zie]⟩
theorem zes (n d:Int) (hd:d≠0):Rat.divInt n d=mkRat (if d<0 then-n else n) d.natAbs:=by
 rcases Int.lt_or_gt_of_ne hd with h|h
 ·rw[if_pos h]
  obtain⟨k,rfl⟩:∃k:Nat,d=Int.negSucc k:=⟨(-d-1).toNat,by omega⟩;simp[Rat.divInt,mkRat]
 ·rw[if_neg (by omega)]
  obtain⟨k,rfl⟩:∃k:Nat,d=(k:Int):=⟨d.toNat,by omega⟩;simp[Rat.divInt]
theorem zf0 (a b:Rat):a+b=Rat.divInt (a.num*b.den+b.num*a.den) ((a.den*b.den:Nat):Int):=by
 rw[Rat.add_def,zes _ _ (by have:=a.den_nz;have:=b.den_nz;simp;omega),if_neg (by omega),Int.natAbs_natCast,Rat.mkRat_def,dif_neg]
theorem znk (a b:Rat):a-b=Rat.divInt (a.num*b.den-b.num*a.den) ((a.den*b.den:Nat):Int):=by
 rw[Rat.sub_def,zes _ _ (by have:=a.den_nz;have:=b.den_nz;simp;omega),if_neg (by omega),Int.natAbs_natCast,Rat.mkRat_def,dif_neg]
theorem zf1 (a b:Rat):a*b=Rat.divInt (a.num*b.num) ((a.den*b.den:Nat):Int):=by
 rw[Rat.mul_def,zes _ _ (by have:=a.den_nz;have:=b.den_nz;simp;omega),if_neg (by omega),Int.natAbs_natCast,Rat.mkRat_def,dif_neg]
theorem zif (n d:Int) (hd:0<d):numS (Rat.divInt n d)=zE (n/(Int.gcd n d:Int))++(if d/(Int.gcd n d:Int)=1 then[] else 47::zE (d/(Int.gcd n d:Int))):=by
 obtain⟨k,rfl⟩:∃k:Nat,d=(k:Int):=⟨d.toNat,by omega⟩;have hk:k≠0:=by omega
 rw[zes _ _ (by omega),if_neg (by omega),Int.natAbs_natCast];unfold numS;rw[Rat.num_mkRat,Rat.den_mkRat,if_neg hk,if_neg hk];have e:k.gcd n.natAbs=Int.gcd n (k:Int):=by rw[Int.gcd,Int.natAbs_natCast,Nat.gcd_comm]
 rw[e,<-Int.natCast_ediv,zad];congr 1;by_cases h:k/Int.gcd n (k:Int)=1
 ·rw[if_pos h,if_pos (by omega)]
 ·rw[if_neg h,if_neg (by omega)]
def sz (q:Rat) (k:Nat):Prop:=q.num.natAbs<10^k/\q.den<10^k
theorem sz.mono {q:Rat} {i j:Nat} (h:sz q i) (hij:i<=j):sz q j:=
 have:=yF (show 0<10 by omega) hij
 ⟨zS h.1 this,zS h.2 this⟩
theorem zig {n d:Int} {k:Nat} (hd:d≠0) (h1:n.natAbs<10^k) (h2:d.natAbs<10^k):sz (Rat.divInt n d) k:=by
 rw[zes _ _ hd];have hk:d.natAbs≠0:=by omega
 constructor
 ·rw[Rat.num_mkRat,if_neg hk]
  refine Nat.lt_of_le_of_lt ?_ h1;have:(if d<0 then-n else n).natAbs=n.natAbs:=by split<;>omega
  rw[Int.natAbs_ediv_of_dvd (Int.ofNat_dvd_left.2 (Nat.gcd_dvd_right _ _)),this];exact Nat.div_le_self _ _
 ·rw[Rat.den_mkRat,if_neg hk]
  exact Nat.lt_of_le_of_lt (Nat.div_le_self _ _) h2
theorem zcc {a b i j:Nat} (h1:a<10^i) (h2:b<10^j):a*b<10^(i+j):=by
 rw[Nat.pow_add];exact Nat.mul_lt_mul'' h1 h2
theorem zuz {a b i:Nat} (h1:a<10^i) (h2:b<10^i):a+b<10^(i+1):=by
 rw[Nat.pow_succ];omega
theorem ze0 (x:Int) (d:Nat):(x*d).natAbs=x.natAbs*d:=by rw[yK,Int.natAbs_natCast]
theorem zk0 {a b:Rat} {i j:Nat} (ha:sz a i) (hb:sz b j):sz (a+b) (i+j+1):=by
 rw[zf0];have h1:=zcc ha.1 hb.2;have h2:=zcc hb.1 ha.2;have h3:=zcc ha.2 hb.2;rw[Nat.add_comm j i] at h2;have h4:=zuz h1 h2;have:=a.den_nz;have:=b.den_nz;refine zig (by simp;omega) ?_ ?_
 ·refine Nat.lt_of_le_of_lt (Int.natAbs_add_le _ _) ?_
  rw[ze0,ze0];exact h4
 ·rw[Int.natAbs_natCast,Nat.pow_succ];omega
theorem zfq {a b:Rat} {i j:Nat} (ha:sz a i) (hb:sz b j):sz (a-b) (i+j+1):=by
 rw[Rat.sub_eq_add_neg];exact zk0 ha ⟨by simpa using hb.1,by simpa using hb.2⟩
theorem zca {a b:Rat} {i j:Nat} (ha:sz a i) (hb:sz b j):sz (a*b) (i+j):=by
 rw[zf1];have:=a.den_nz;have:=b.den_nz;refine zig (by simp;omega) ?_ ?_
 ·rw[yK];exact zcc ha.1 hb.1
 ·rw[Int.natAbs_natCast];exact zcc ha.2 hb.2
theorem zjx (a b:Rat) (hb:b≠0):a/b=Rat.divInt (a.num*b.den) (a.den*b.num):=by
 have h0:b.num≠0:=λh=>hb (Rat.num_eq_zero.1 h);rw[Rat.div_def,Rat.inv_def]
 conv=>lhs;lhs;rw[<-Rat.num_divInt_den a]
 rw[Rat.divInt_mul_divInt]
theorem z8t {a b:Rat} {i j:Nat} (hb0:b≠0) (ha:sz a i) (hb:sz b j):sz (a/b) (i+j):=by
 have h0:b.num≠0:=λh=>hb0 (Rat.num_eq_zero.1 h);have:=a.den_nz;rw[zjx _ _ hb0];refine zig (Int.mul_ne_zero (by omega) h0) ?_ ?_
 ·rw[ze0];exact zcc ha.1 hb.2
 ·rw[yK,Int.natAbs_natCast];exact zcc ha.2 hb.1
theorem zd2 (k:Nat) (hk:0<k):sz 0 k:=by
 have:10^1<=10^k:=yF (by omega) hk;exact⟨by simp;omega,by simp;omega⟩
theorem zy0 (l:List UInt8):(∃q,l=numS q)↔(∃a,l=zE a)\/∃(a:Int) (d:Nat),l=zE a++47::zD d/\2<=d/\Nat.gcd a.natAbs d=1:=by
 constructor
 ·rintro⟨q,rfl⟩
  by_cases h:q.den=1
  ·exact .inl ⟨_,zmu h⟩
  ·exact .inr ⟨_,_,zid h,by have:=q.den_nz;omega,q.reduced⟩
 ·rintro(⟨a,rfl⟩|⟨a,d,rfl,h1,h2⟩)
  ·exact⟨(a:Rat),(zha a).symm⟩
  ·exact⟨⟨a,d,by omega,h2⟩,by rw[zid (by simp;omega)]⟩
def bare (l:List UInt8):List UInt8:=if l.head? =some 45 then l.tail else l
def upS (l:List UInt8):List UInt8:=(bare l).takeWhile (· !=47)
def dnS (l:List UInt8):List UInt8:=((bare l).dropWhile (· !=47)).tail
def hasS (l:List UInt8):Prop:=(47:UInt8)∈bare l
def okS (l:List UInt8):Prop:=
 zcb (upS l)/\¬(l.head? =some 45/\upS l=[48])/\(hasS l->zcb (dnS l)/\dnS l≠[48]/\dnS l≠[49]/\Nat.gcd (val (upS l)) (val (dnS l))=1)
theorem zs9 {a b:List UInt8} (h:(47:UInt8)∉a):(a++47::b).takeWhile (· !=47)=a/\(a++47::b).dropWhile (· !=47)=47::b:=by
 induction a with
 |nil=>simp
 |cons x r ih=>
  have hx:x≠47:=λe=>h (by simp[e]);obtain⟨i1,i2⟩:=ih (λk=>h (by simp[k]));simp[hx,i1,i2]
theorem zgl {a:List UInt8} (h:(47:UInt8)∉a):a.takeWhile (· !=47)=a:=by
 induction a with
 |nil=>simp
 |cons x r ih=>
  have hx:x≠47:=λe=>h (by simp[e]);simp[hx,ih (λk=>h (by simp[k]))]
theorem zxc {l:List UInt8} (h:(47:UInt8)∈l):l=l.takeWhile (· !=47)++47::(l.dropWhile (· !=47)).tail/\(47:UInt8)∉l.takeWhile (· !=47):=by
 induction l with
 |nil=>cases h
 |cons x r ih=>
  by_cases hx:x=47
  ·subst hx;simp
  ·have hr:(47:UInt8)∈r:=by
    rcases List.mem_cons.1 h with e|e
    ·exact absurd e.symm hx
    ·exact e
   obtain⟨i1,i2⟩:=ih hr;have hb:(x !=47)=true:=by simpa using hx
   rw[List.takeWhile_cons,if_pos hb,List.dropWhile_cons,if_pos hb]
   exact⟨by rw[yM,<-i1],λk=>by
    rcases List.mem_cons.1 k with e|e
    ·exact hx e.symm
    ·exact i2 e⟩
theorem zxe (n:Nat) (t:List UInt8):bare (zD n++t)=zD n++t:=by
 obtain⟨c,r,e,h1,_⟩:=dec_head n;unfold bare;rw[e,yM,List.head?_cons,if_neg (λh=>by cases h;simp at h1)]
theorem zhw (a:Int) (t:List UInt8):bare (zE a++t)=zD a.natAbs++t:=by
 rcases zbg a with⟨_,e⟩|⟨_,e⟩<;>rw[e]
 ·exact zxe _ _
 ·simp[bare]
theorem zk2 (a:Int) (t:List UInt8):(zE a++t).head? =some 45↔a<0:=by
 rcases zbg a with⟨h,e⟩|⟨h,e⟩<;>rw[e]
 ·obtain⟨c,r,e,h1,_⟩:=dec_head a.natAbs
  rw[e];constructor
  ·intro h;simp at h;subst h;simp at h1
  ·omega
 ·simp;omega
theorem zgm (l:List UInt8):(l.head? =some 45/\l=45::bare l)\/(l.head? ≠some 45/\l=bare l):=by
 unfold bare
 cases l with
 |nil=>right;simp
 |cons x r=>
  by_cases h:x=45
  ·subst h;left;simp
  ·right;simp[h]
theorem zy2 (l:List UInt8):okS l↔∃q,l=numS q:=by
 rw[zy0];constructor
 ·rintro⟨h1,h2,h3⟩
  by_cases hs:hasS l
  ·obtain⟨k1,k2,k3,k4⟩:=h3 hs
   obtain⟨e1,e2⟩:=zxc (l:=bare l) hs;have hd:2<=val (dnS l):=by
    rcases Nat.lt_or_ge (val (dnS l)) 2 with h|h
    ·exfalso
     have:=zdd k1;rcases(show val (dnS l)=0\/val (dnS l)=1 by omega) with e|e
     ·rw[e] at this;exact k2 (this.symm.trans zdj)
     ·rw[e] at this;exact k3 (this.symm.trans (by rw[zae (by omega)];rfl))
    ·exact h
   have e3:bare l=zD (val (upS l))++47::zD (val (dnS l)):=by rw[zdd h1,zdd k1];exact e1
   rcases zgm l with⟨b1,b2⟩|⟨b1,b2⟩
   ·have hp:0<val (upS l):=by
     rcases Nat.eq_zero_or_pos (val (upS l)) with e|e
     ·have:=zdd h1
      rw[e] at this;exact absurd ⟨b1,this.symm.trans zdj⟩ h2
     ·exact e
    exact .inr ⟨-(val (upS l):Int),val (dnS l),b2.trans (by rw[e3,zga _ hp];rfl),hd,by simpa using k4⟩
   ·exact .inr ⟨(val (upS l):Int),val (dnS l),b2.trans (by rw[e3,zad]),hd,by simpa using k4⟩
  ·have e1:upS l=bare l:=zgl hs
   have e3:bare l=zD (val (upS l)):=by rw[zdd h1,e1]
   rcases zgm l with⟨b1,b2⟩|⟨b1,b2⟩
   ·have hp:0<val (upS l):=by
     rcases Nat.eq_zero_or_pos (val (upS l)) with e|e
     ·have:=zdd h1
      rw[e] at this;exact absurd ⟨b1,this.symm.trans zdj⟩ h2
     ·exact e
    exact .inl ⟨-(val (upS l):Int),b2.trans (by rw[e3,zga _ hp])⟩
   ·exact .inl ⟨(val (upS l):Int),b2.trans (by rw[e3,zad])⟩
 ·have hz:∀a:Int,¬(a<0/\zD a.natAbs=[48]):=λa ⟨h1,h2⟩=>by
   have:=zfk (h2.trans zdj.symm);omega
  rintro(⟨a,rfl⟩|⟨a,d,rfl,h1,h2⟩)
  ·have e0:zE a=zE a++[]:=by simp
   have e1:bare (zE a)=zD a.natAbs:=by rw[e0,zhw];simp
   have e2:upS (zE a)=zD a.natAbs:=by unfold upS;rw[e1,zgl (zdz _)]
   refine⟨by rw[e2];exact zhr _,?_,λh=>absurd h (by unfold hasS;rw[e1];exact zdz _)⟩;rw[e2,e0,zk2];exact hz a
  ·have e1:=zhw a (47::zD d)
   obtain⟨t1,t2⟩:=zs9 (b:=zD d) (zdz a.natAbs);have e2:upS (zE a++47::zD d)=zD a.natAbs:=by unfold upS;rw[e1,t1]
   have e3:dnS (zE a++47::zD d)=zD d:=by unfold dnS;rw[e1,t2];rfl
   refine⟨by rw[e2];exact zhr _,?_,λ_=>⟨by rw[e3];exact zhr _,?_,?_,?_⟩⟩
   ·rw[e2,zk2];exact hz a
   ·rw[e3];intro h;have:=zfk (h.trans zdj.symm);omega
   ·rw[e3];intro h
    have:=zfk (h.trans (show[49]=zD 1 by rw[zae (by omega)];rfl));omega
   ·rw[e2,e3,zb2,zb2];exact h2
theorem z31 {q:Rat} {k:Nat} (hk:0<k) (h:(numS q).length<=k):sz q k:=by
 have h3:=zbr q.num;have hp:10^1<=10^k:=yF (by omega) hk;by_cases h1:q.den=1
 ·rw[zmu h1] at h
  exact⟨(za3 _ _ hk).1 (by omega),by omega⟩
 ·rw[zid h1] at h
  simp at h;exact⟨(za3 _ _ hk).1 (by omega),(zaf _ _ hk).1 (by omega)⟩
end Go.Proofs.YtfoodcpnnmonhaaGreatDoor.Str
namespace Go.Proofs.YtfoodcpnnmonhaaGreatDoor
open Go.RowKit Go.Shelf Lib Str Limb
attribute [local go_sem] Oper.semAt_some
theorem zjc:∀(l:List UInt8),(∀c∈l,48<=c.toNat/\c.toNat<=57)->val l<10^l.length:=by
 intro l h;have e:=zmr l 0;rw[Nat.mul_zero,Nat.add_zero] at e;have:=zb6 (zfz h);rw[zfi] at this;show l.foldl _ 0<_;rw[e];exact this
structure Runs (l t:List UInt8):Prop where
 dig:∀c∈l,48<=c.toNat/\c.toNat<=57
 stop:t=[]\/∃c r,t=c::r/\(c.toNat<48\/57<c.toNat)
theorem zii {l t:List UInt8} (h:Runs l t) (s:ByteArray) (hs:s=⟨(l++t).toArray⟩):
 s.size=l.length+t.length/\(∀k (_:k<l.length) (hb:k<s.size),48<=(s[k]'hb).toNat/\(s[k]'hb).toNat<=57/\val (l.take (k+1))=10*val (l.take k)+((s[k]'hb).toNat-48))/\
 (∀(hb:l.length<s.size),(s[l.length]'hb).toNat<48\/57<(s[l.length]'hb).toNat):=by
 subst hs;refine⟨by show(l++t).toArray.size=_;simp,λk hk hb=>?_,λhb=>?_⟩
 ·rw[zng _ _ hb (by simp;omega),List.getElem_append_left hk]
  obtain⟨h1,h2⟩:=h.dig _ (List.getElem_mem hk);refine⟨h1,h2,?_⟩;rw[List.take_succ_eq_append_getElem hk,zde]
 ·have hb':l.length<(l++t).length:=by
   have:(⟨(l++t).toArray⟩:ByteArray).size=(l++t).length:=by show(l++t).toArray.size=_;simp
   omega
  rw[zng _ _ hb hb',List.getElem_append_right (zN _)];rcases h.stop with rfl|⟨c,r,rfl,hc⟩
  ·simp at hb'
  ·simpa using hc
theorem ziu {l:List UInt8} (h:∀c∈l,48<=c.toNat/\c.toNat<=57) {k:Nat} (hk:k<=9):val (l.take k)<1000000000:=by
 have h1:=zjc (l.take k) (λc hc=>h c (List.mem_of_mem_take hc));have h2:(10:Nat)^(l.take k).length<=10^9:=yF (by omega) (by simp;omega);exact zS h1 h2
theorem zl8 (l t:List UInt8):((⟨(l++t).toArray⟩:ByteArray).extract l.length (⟨(l++t).toArray⟩:ByteArray).size)=⟨t.toArray⟩:=by
 have h1:(⟨(l++t).toArray⟩:ByteArray).size=l.length+t.length:=by show(l++t).toArray.size=_;simp
 rw[h1];apply ByteArray.ext;rw[ByteArray.data_extract];simp
theorem zjz (n:Nat) (t:List UInt8) (s:ByteArray) (hs:s=⟨(zD n++t).toArray⟩):(zD n).length<=1\/∀hb:0<s.size,(s[0]'hb).toNat≠48:=by
 by_cases h:(zD n).length<=1
 ·exact .inl h
 ·refine .inr λhb e=>h ?_
  subst hs;have hl:0<(zD n).length:=by omega
  rw[zng _ _ hb (by simp;omega),List.getElem_append_left hl] at e;have:(zD n).head? =some 48:=by
   rw[List.head?_eq_getElem?,List.getElem?_eq_getElem hl];congr 1;exact UInt8.toNat_inj.1 (by rw[e];rfl)
  have:=zmm n this;subst this;rw[zdj];simp
theorem zcn (n:Nat) (t:List UInt8) (h:Runs (zD n) t) (hl:(zD n).length<=8) (ht:t.length<=1000000) (w:zA):
 zC zF 110 #[St (zD n++t)] w λe w'=>∃nd,e=.returned (.tuple #[I n,St t,.bool true])/\w'=w.drewN nd:=by
 obtain⟨s,hs⟩:=zzX (⟨(zD n++t).toArray⟩:ByteArray);obtain⟨b1,b2,b3⟩:=zii h s hs;have hex:(s.extract (zD n).length s.size)=⟨t.toArray⟩:=by rw[hs];exact zl8 _ _
 have hvn:=zb2 n;have hvt:=λk hk=>ziu (l:=zD n) h.dig (k:=k) hk;have hzero:(zD n).length<=1\/∀hb:0<s.size,(s[0]'hb).toNat≠48:=zjz n t s hs;have hpos:1<=(zD n).length:=by have:=zbn (n:Int);unfold digs at this;simpa using this
 show zC _ _ #[.string ⟨(zD n++t).toArray⟩] _ _;rw[<-hs];have hfull:val ((zD n).take (zD n).length)=n:=by rw[List.take_length];exact hvn
 generalize hL:(zD n).length=m at*
 generalize hvf:(λk=>val ((zD n).take k))=vf at*
 have hv0:vf 0=0:=by rw[<-hvf];rfl
 have hb2:∀k (hk:k<m) (hb:k<s.size),48<=(s[k]'hb).toNat/\(s[k]'hb).toNat<=57/\vf (k+1)=10*vf k+((s[k]'hb).toNat-48):=by rw[<-hvf];exact b2
 have hvt':∀k,k<=9->vf k<1000000000:=by rw[<-hvf];exact hvt
 have hvm:vf m=n:=by rw[<-hvf];exact hfull
 clear b2 hvt hfull hvn hvf hL h hs;have B2:=hid hb2;have B3:=hid b3;have VT:=hid hvt';have VM:=hid hvm;have HEX:=hid hex;have HZ:=hid hzero;have B1:=hid b1;have V0:=hid hv0;have hsz:s.size<=2000000:=by omega
 have hsm:m<=s.size:=by omega
 clear hb2 b3 hvt' hvm hex hzero b1 hv0;go_enter Tryz.func110,Tryz.ntmps110;go_wp2;go_loop [5,6] (λa i=>∃k:Nat,k<=m/\i=.int .i64 k/\a=.int .i64 (vf k:Nat)) (λ_ i=>m-(zL i).toNat)
 case atStart=>exact⟨0,zR _,rfl,by rw[V0.out];rfl⟩
 case round=>
  obtain⟨k,hk,rfl,rfl⟩:=hrel;by_cases hlt:k<m
  ·have hks:k<s.size:=by omega
   obtain⟨c1,c2,c3⟩:=B2.out k hlt hks;have hv:=VT.out k (by omega);generalize vf k=v at*
   have C3:=hid c3;clear c3;have d1:(48:Int)<=(s[k].toNat:Int):=by omega
   have d2:(s[k].toNat:Int)<=57:=by omega
   go_wp2;go_round
   case rel=>exact⟨k+1,by omega,by go_num,by rw[C3.out];show Value.int .i64 _=Value.int .i64 _;congr 1;omega⟩
   case measure=>simp[zL];omega
  ·obtain rfl:k=m:=by omega
   have hm0:((k:Int)==0)=false:=by rw[beq_eq_false_iff_ne];omega
   have hm8:¬(8:Int)<k:=by omega
   have hk8:(k:Int)<=8:=by omega
   have hd:k<s.size/\(∀hb:k<s.size,(s[k]'hb).toNat<48)\/k<s.size/\(∀hb:k<s.size,48<=(s[k]'hb).toNat/\57<(s[k]'hb).toNat)\/¬k<s.size:=by
    by_cases h1:k<s.size
    ·rcases B3.out h1 with h2|h2
     ·exact .inl ⟨h1,λ_=>h2⟩
     ·exact .inr (.inl ⟨h1,λ_=>⟨by omega,h2⟩⟩)
    ·exact .inr (.inr h1)
   have hz1:k<=1\/1<k/\∀hb:0<s.size,(s[0]'hb).toNat≠48:=by
    rcases HZ.out with h|h
    ·exact .inl h
    ·by_cases h1:k<=1
     ·exact .inl h1
     ·exact .inr ⟨by omega,h⟩
   have HD:=hid hd;clear hd;rcases hz1 with h1|⟨h1,h2⟩
   ·have h1':¬(1:Int)<k:=by omega
    rcases HD.out with⟨g1,g2⟩|⟨g1,g2⟩|g1
    ·have g3:((s[k]'g1).toNat:Int)<48:=by have:=g2 g1;omega
     clear g2;go_wp2
     (refine wp_region_quiet_lit (by kernel_rfl) (by kernel_rfl) (WQ.out ?_);(repeat(first|(apply WQ.read (by rfl);(focus(rintro W ⟨n,rfl⟩;go_simp;try with_reducible rfl));try simp only[zzQ])|(apply WQ.skip (by rfl);try simp only[zzQ])));refine WQ.nil ?_;rintro _ ⟨nq,rfl⟩)
     go_wp2;go_ret3;exact⟨nq,by rw[HEX.out,VM.out];rfl,rfl⟩
    ·have g3:(48:Int)<=(s[k]'g1).toNat:=by have:=g2 g1;omega
     have g4:(57:Int)<(s[k]'g1).toNat:=by have:=g2 g1;omega
     clear g2;go_wp2
     (refine wp_region_quiet_lit (by kernel_rfl) (by kernel_rfl) (WQ.out ?_);(repeat(first|(apply WQ.read (by rfl);(focus(rintro W ⟨n,rfl⟩;go_simp;try with_reducible rfl));try simp only[zzQ])|(apply WQ.skip (by rfl);try simp only[zzQ])));refine WQ.nil ?_;rintro _ ⟨nq,rfl⟩)
     go_wp2;go_ret3;exact⟨nq,by rw[HEX.out,VM.out];rfl,rfl⟩
    ·go_wp2
     (refine wp_region_quiet_lit (by kernel_rfl) (by kernel_rfl) (WQ.out ?_);(repeat(first|(apply WQ.read (by rfl);(focus(rintro W ⟨n,rfl⟩;go_simp;try with_reducible rfl));try simp only[zzQ])|(apply WQ.skip (by rfl);try simp only[zzQ])));refine WQ.nil ?_;rintro _ ⟨nq,rfl⟩)
     go_wp2;go_ret3;exact⟨nq,by rw[HEX.out,VM.out];rfl,rfl⟩
   ·have h1':(1:Int)<k:=by omega
    have hs0:0<s.size:=by omega
    have h3:(((s[0]'hs0).toNat:Int)==48)=false:=by rw[beq_eq_false_iff_ne];have:=h2 hs0;omega
    clear h2;rcases HD.out with⟨g1,g2⟩|⟨g1,g2⟩|g1
    ·have g3:((s[k]'g1).toNat:Int)<48:=by have:=g2 g1;omega
     clear g2;go_wp2
     (refine wp_region_quiet_lit (by kernel_rfl) (by kernel_rfl) (WQ.out ?_);(repeat(first|(apply WQ.read (by rfl);(focus(rintro W ⟨n,rfl⟩;go_simp;try with_reducible rfl));try simp only[zzQ])|(apply WQ.skip (by rfl);try simp only[zzQ])));refine WQ.nil ?_;rintro _ ⟨nq,rfl⟩)
     go_wp2;go_ret3;exact⟨nq,by rw[HEX.out,VM.out];rfl,rfl⟩
    ·have g3:(48:Int)<=(s[k]'g1).toNat:=by have:=g2 g1;omega
     have g4:(57:Int)<(s[k]'g1).toNat:=by have:=g2 g1;omega
     clear g2;go_wp2
     (refine wp_region_quiet_lit (by kernel_rfl) (by kernel_rfl) (WQ.out ?_);(repeat(first|(apply WQ.read (by rfl);(focus(rintro W ⟨n,rfl⟩;go_simp;try with_reducible rfl));try simp only[zzQ])|(apply WQ.skip (by rfl);try simp only[zzQ])));refine WQ.nil ?_;rintro _ ⟨nq,rfl⟩)
     go_wp2;go_ret3;exact⟨nq,by rw[HEX.out,VM.out];rfl,rfl⟩
    ·go_wp2
     (refine wp_region_quiet_lit (by kernel_rfl) (by kernel_rfl) (WQ.out ?_);(repeat(first|(apply WQ.read (by rfl);(focus(rintro W ⟨n,rfl⟩;go_simp;try with_reducible rfl));try simp only[zzQ])|(apply WQ.skip (by rfl);try simp only[zzQ])));refine WQ.nil ?_;rintro _ ⟨nq,rfl⟩)
     go_wp2;go_ret3;exact⟨nq,by rw[HEX.out,VM.out];rfl,rfl⟩
theorem zf2 (n:Nat) (t:List UInt8) (h:Runs (zD n) t) (hl:8<(zD n).length) (hl2:(zD n).length<=1000000) (ht:t.length<=1000000) (w:zA):
 zC zF 110 #[St (zD n++t)] w λe w'=>e=.returned (.tuple #[.int .i64 0,St [],.bool false])/\w'=w:=by
 obtain⟨s,hs⟩:=zzX (⟨(zD n++t).toArray⟩:ByteArray);obtain⟨b1,b2, -⟩:=zii h s hs;have hvt:=λk hk=>ziu (l:=zD n) h.dig (k:=k) hk;show zC _ _ #[.string ⟨(zD n++t).toArray⟩] _ _;rw[<-hs];generalize hL:(zD n).length=m at*
 generalize hvf:(λk=>val ((zD n).take k))=vf at*
 have hv0:vf 0=0:=by rw[<-hvf];rfl
 have hb2:∀k (hk:k<m) (hb:k<s.size),48<=(s[k]'hb).toNat/\(s[k]'hb).toNat<=57/\vf (k+1)=10*vf k+((s[k]'hb).toNat-48):=by rw[<-hvf];exact b2
 have hvt':∀k,k<=9->vf k<1000000000:=by rw[<-hvf];exact hvt
 clear b2 hvt hvf hL h hs;have B2:=hid hb2;have VT:=hid hvt';have V0:=hid hv0;have hsz:s.size<=2000000:=by omega
 have hsm:m<=s.size:=by omega
 clear hb2 hvt' b1 hv0;go_enter Tryz.func110,Tryz.ntmps110;go_wp2;go_loop [5,6] (λa i=>∃k:Nat,k<=9/\i=.int .i64 k/\a=.int .i64 (vf k:Nat)) (λ_ i=>9-(zL i).toNat)
 case atStart=>exact⟨0,zR _,rfl,by rw[V0.out];rfl⟩
 case round=>
  obtain⟨k,hk,rfl,rfl⟩:=hrel;by_cases hlt:k<9
  ·have hks:k<s.size:=by omega
   have hk8:(k:Int)<=8:=by omega
   obtain⟨c1,c2,c3⟩:=B2.out k (by omega) hks;have hv:=VT.out k (by omega);generalize vf k=v at*
   have C3:=hid c3;clear c3;have d1:(48:Int)<=(s[k].toNat:Int):=by omega
   have d2:(s[k].toNat:Int)<=57:=by omega
   go_wp2;go_round
   case rel=>exact⟨k+1,by omega,by go_num,by rw[C3.out];show Value.int .i64 _=Value.int .i64 _;congr 1;omega⟩
   case measure=>simp[zL];omega
  ·obtain rfl:k=9:=by omega
   by_cases h9:9<s.size
   ·go_wp2
    go_ret3;exact⟨rfl,rfl⟩
   ·go_wp2
    go_ret3;exact⟨rfl,rfl⟩
theorem zh1 (a b:Nat):Nat.gcd b (a%b)=Nat.gcd a b:=by
 rw[Nat.gcd_comm b,<-Nat.gcd_rec,Nat.gcd_comm]
theorem zj0 (a b:Nat) (ha:a<1000000000000000000) (hb:b<1000000000000000000) (w:zA):
 zC zF 111 #[I a,I b] w λe w'=>∃nd,e=.returned (I (Nat.gcd a b))/\w'=w.drewN nd:=by
 obtain⟨g,hg⟩:=zzX (Nat.gcd a b);rw[<-hg];have HG:=hid hg;clear hg;go_enter Tryz.func111,Tryz.ntmps111;go_wp2;go_loopw [0,1] (λx y wr=>∃m n:Nat,x=I m/\y=I n/\Hid (Nat.gcd m n=g)/\m<1000000000000000000/\n<1000000000000000000/\∃nd,wr=w.drewN nd)
  (λ_ y _=>(zL y).toNat)
 case atStart=>exact⟨a,b,rfl,rfl,HG.out.symm,ha,hb,0,rfl⟩
 case round=>
  clear ha hb;obtain⟨m,n,rfl,rfl,hgm,m1,n1,nd,rfl⟩:=hrel;by_cases h0:n=0
  ·subst h0
   have hm:m=g:=by have:=hgm.out;rw[Nat.gcd_zero_right] at this;exact this
   have HM:=hid hm;clear hm;go_wp2;go_ret;exact⟨nd,by rw[HM.out];rfl,rfl⟩
  ·have hn0:((n:Int) !=0)=true:=by simp;omega
   obtain⟨t,ht⟩:=zzX (m%n);have ht1:t<n:=by rw[ht];exact zP _ (by omega)
   have hgt:=zh1 m n;rw[<-ht] at hgt;have hwr:IntKind.i64.wrap ((m:Int).tmod n)=(t:Int):=by
    rw[Int.tmod_eq_emod_of_nonneg (by omega),<-Int.natCast_emod,<-ht];exact zI _ (by omega)
   have hwe:((m:Int).tmod n)=(t:Int):=by rw[Int.tmod_eq_emod_of_nonneg (by omega),<-Int.natCast_emod,<-ht]
   have HGT:=hid hgt;have HW:=hid hwe;clear hgt ht hwe;go_wp2
   (refine wp_region_quiet_lit (by kernel_rfl) (by kernel_rfl) (WQ.out ?_);(repeat(first|(apply WQ.read (by rfl);(focus(rintro W ⟨n,rfl⟩;go_simp;try with_reducible rfl));try simp only[zzQ])|(apply WQ.skip (by rfl);try simp only[zzQ])));refine WQ.nil ?_;rintro _ ⟨nq,rfl⟩)
   go_wp2;go_roundw
   case rel=>exact⟨n,t,rfl,by first|rfl|(rw[HW.out])|(show Value.int .i64 _=Value.int .i64 _;congr 1;have:=HW.out;rw[<-this,Int.tmod_eq_emod_of_nonneg (by omega)]),HGT.out.trans hgm.out,n1,by omega,_,World.drewN_drewN _ _ _⟩
   case measure=>first|(show((m:Int).tmod n).toNat<(n:Int).toNat;rw[HW.out];omega)|(simp[zL];omega)
theorem zd7 (n:Nat):Runs (zD n) []:=⟨zan n,.inl rfl⟩
theorem zf3 (n:Nat) (t:List UInt8):Runs (zD n) (47::t):=⟨zan n,.inr ⟨47,t,rfl,.inl (by decide)⟩⟩
theorem zco (a:List UInt8) (hne:a≠[]) (s:ByteArray) (hs:s=⟨a.toArray⟩):s.toList.isEmpty=false/\0<s.size/\s.size=a.length/\∀hb:0<s.size,s[0]'hb=a.head hne:=by
 subst hs;obtain⟨c,r,rfl⟩:∃c r,a=c::r:=by
  cases a with
  |nil=>exact absurd rfl hne
  |cons c r=>exact⟨c,r,rfl⟩
 have h1:(⟨(c::r).toArray⟩:ByteArray).size=r.length+1:=by show(c::r).toArray.size=_;simp
 exact⟨by rw[ByteArray.toList_eq];simp,by omega,by rw[h1];simp,λhb=>ba0 c r hb⟩
theorem ze9 (c:UInt8) (r:List UInt8):((⟨(c::r).toArray⟩:ByteArray).extract 1 (⟨(c::r).toArray⟩:ByteArray).size)=⟨r.toArray⟩:=by
 have:=zl8 [c] r;simpa using this
theorem zgu (l:List UInt8) (s:ByteArray) (hs:s=⟨((45:UInt8)::l).toArray⟩):s.toList.isEmpty=false/\0<s.size/\s.size=l.length+1/\(∀hb:0<s.size,(((s[0]'hb).toNat:Int)==45)=true)/\s.extract 1 s.size=⟨l.toArray⟩:=by
 obtain⟨s1,s2,s3,s4⟩:=zco (45::l) (by simp) s hs;exact⟨s1,s2,by simpa using s3,λhb=>by rw[s4 hb];rfl,by rw[hs];exact ze9 _ _⟩
theorem zf6 (m:Bool) (n:Nat) (t:List UInt8) (a b:Int) (ok:Bool) (h0:m=true->0<n) (hr:Runs (zD n) t) (hl:(zD n).length<=900000) (ht:t.length<=900001)
 (K:(8<(zD n).length/\a=0/\b=0/\ok=false)\/((zD n).length<=8/\((t=[]/\a=(if m=true then-(n:Int) else n)/\b=1/\ok=true)\/
   ∃d:Nat,t=47::zD d/\(((zD d).length<=8/\2<=d/\Nat.gcd n d=1/\a=(if m=true then-(n:Int) else n)/\b=d/\ok=true)\/(8<(zD d).length/\a=0/\b=0/\ok=false))))) (w:zA):
 qJ 55 #[St (if m=true then 45::(zD n++t) else zD n++t)] w (.tuple #[.agg #[.int .i64 a,.int .i64 b],.bool ok]):=by
 obtain⟨u,hu⟩:=zzX (⟨(zD n++t).toArray⟩:ByteArray);obtain⟨s,hs⟩:=zzX (⟨(if m=true then 45::(zD n++t) else zD n++t).toArray⟩:ByteArray);have hus:u.size=(zD n++t).length:=by rw[hu];show(zD n++t).toArray.size=_;simp
 have S:(m=false/\s=u/\s.toList.isEmpty=false/\∃hb:0<s.size,(((s[0]'hb).toNat:Int)==45)=false)\/(m=true/\s.toList.isEmpty=false/\(∃hb:0<s.size,(((s[0]'hb).toNat:Int)==45)=true)/\s.extract 1 s.size=u/\(1:Int)<=s.size/\(u.size:Int)<s.size/\((n:Int)==0)=false):=by
  cases m
  ·obtain⟨s1,s2,s3,s4⟩:=zco (zD n++t) (by simp[zci]) s hs
   obtain⟨c,q,hdn,hc1,hc2⟩:=dec_head n;refine .inl ⟨rfl,hs.trans hu.symm,s1,s2,?_⟩;rw[beq_eq_false_iff_ne,s4 s2];simp only[hdn,yM,List.head_cons];omega
  ·obtain⟨s1,s2,s3,s4,s5⟩:=zgu (zD n++t) s hs
   have:=h0 rfl;exact .inr ⟨rfl,s1,⟨s2,s4 s2⟩,by rw[s5,hu],by omega,by omega,by rw[beq_eq_false_iff_ne];omega⟩
 have C:(a=0/\b=0/\ok=false/\Hid (∀w,zC zF 110 #[.string u] w λe w'=>e=.returned (.tuple #[.int .i64 0,St [],.bool false])/\w'=w))\/
  (n<1000000000/\((a=(if m=true then-(n:Int) else n)/\b=1/\ok=true/\Hid (∀w,zC zF 110 #[.string u] w λe w'=>∃nd,e=.returned (.tuple #[I n,St [],.bool true])/\w'=w.drewN nd))\/
  ∃(r v:ByteArray) (d:Nat),Hid (∀w,zC zF 110 #[.string u] w λe w'=>∃nd,e=.returned (.tuple #[I n,.string r,.bool true])/\w'=w.drewN nd)/\r.toList.isEmpty=false/\(∃hb:0<r.size,(((r[0]'hb).toNat:Int) !=47)=false)/\(1:Int)<=r.size/\r.extract 1 r.size=v/\
   ((a=(if m=true then-(n:Int) else n)/\b=d/\ok=true/\¬(d:Int)<2/\Hid (∀w,zC zF 110 #[.string v] w λe w'=>∃nd,e=.returned (.tuple #[I d,St [],.bool true])/\w'=w.drewN nd)/\Hid (∀w,zC zF 111 #[I n,I d] w λe w'=>∃nd,e=.returned (I (1:Nat))/\w'=w.drewN nd))\/
     (a=0/\b=0/\ok=false/\Hid (∀w,zC zF 110 #[.string v] w λe w'=>e=.returned (.tuple #[.int .i64 0,St [],.bool false])/\w'=w))))):=by
  rcases K with⟨k,h1,h2,h3⟩|⟨k,⟨rfl,h1,h2,h3⟩|⟨d,rfl,hd⟩⟩
  ·exact .inl ⟨h1,h2,h3,hid λw=>by rw[hu];exact zf2 n t hr k (by omega) (by omega) w⟩
  ·refine .inr ⟨zS ((zaf n 8 (by omega)).1 k) (by omega),.inl ⟨h1,h2,h3,hid λw=>?_⟩⟩
   have hc:=zcn n [] (zd7 n) k (by simp) w;rw[hu];rw[yH] at hc⊢;exact hc
  ·refine .inr ⟨zS ((zaf n 8 (by omega)).1 k) (by omega),.inr ⟨⟨(47::zD d).toArray⟩,⟨(zD d).toArray⟩,d,hid λw=>by rw[hu];exact zcn n (47::zD d) (zf3 n _) k (by omega) w,?_⟩⟩
   obtain⟨r1,r2,r3,r4⟩:=zco (47::zD d) (by simp) _ rfl;refine⟨r1,⟨r2,by rw[r4 r2];rfl⟩,by omega,ze9 _ _,?_⟩;rcases hd with⟨l1,l2,l3,h1,h2,h3⟩|⟨l1,h1,h2,h3⟩
   ·refine .inl ⟨h1,h2,h3,by omega,hid λw=>?_,hid λw=>?_⟩
    ·have hc:=zcn d [] (zd7 d) l1 (by simp) w
     rw[yH] at hc;exact hc
    ·have:=zj0 n d (zS ((zaf n 8 (by omega)).1 k) (by omega)) (zS ((zaf d 8 (by omega)).1 l1) (by omega)) w
     rw[l3] at this;exact this
   ·refine .inr ⟨h1,h2,h3,hid λw=>?_⟩
    have hc:=zf2 d [] (zd7 d) l1 (by simp at ht;omega) (by simp) w;rw[yH] at hc;exact hc
 show zC _ _ #[.string ⟨(if m=true then 45::(zD n++t) else zD n++t).toArray⟩] _ _;rw[<-hs];clear hs hu hus K h0 hr hl ht;rcases S with⟨rfl,rfl,s1,s2,s4⟩|⟨rfl,s1,⟨s2,s4⟩,s5,s6,s7,s8⟩<;>rcases C with⟨rfl,rfl,rfl,HC⟩|⟨hn,⟨rfl,rfl,rfl,HC⟩|⟨r,v,d,HC,r1,⟨r2,r4⟩,r6,r5,⟨rfl,rfl,rfl,hd2,HC2,HG⟩|⟨rfl,rfl,rfl,HC2⟩⟩⟩
 all_goals
  go_enter Tryz.func55,Tryz.ntmps55;go_wp21;refine(HC.out _).mono ?_
  first|rintro e w1 ⟨rfl,rfl⟩|rintro e w1 ⟨nd,rfl,rfl⟩
  go_wp21
  try
   refine(HC2.out _).mono ?_
   first|rintro e w1 ⟨rfl,rfl⟩|rintro e w1 ⟨nd2,rfl,rfl⟩
   go_wp21
   try
    refine(HG.out _).mono ?_;rintro e w1 ⟨nd3,rfl,rfl⟩;go_wp21
  first
   |refine bodyPost_ret (v:=.tuple #[.agg #[.int .i64 0,.int .i64 0],.bool false]) (by simp[results,Tryz.results55,go_sem]) rfl ⟨rfl,?_⟩
   |refine bodyPost_ret (v:=.tuple #[.agg #[I n,.int .i64 1],.bool true]) (by simp[results,Tryz.results55,go_sem]) rfl ⟨rfl,?_⟩
   |refine bodyPost_ret (v:=.tuple #[.agg #[.int .i64 (-(n:Int)),.int .i64 1],.bool true]) (by simp[results,Tryz.results55,go_sem]) rfl ⟨rfl,?_⟩
   |refine bodyPost_ret (v:=.tuple #[.agg #[I n,I d],.bool true]) (by simp[results,Tryz.results55,go_sem]) rfl ⟨rfl,?_⟩
   |refine bodyPost_ret (v:=.tuple #[.agg #[.int .i64 (-(n:Int)),I d],.bool true]) (by simp[results,Tryz.results55,go_sem]) rfl ⟨rfl,?_⟩
  repeat(first|exact zM _ _|refine Below.alloc ?_ (by simp[World.setCell,World.drewN]) _|refine zao ?_ _|refine Below.setCell ?_ (by simp) _)
def zbb (q:Rat):Prop:=digs q.num<=8/\(zD q.den).length<=8
theorem zq8 {q:Rat} (h:0<=q.num):numS q=zD q.num.natAbs++(if q.den=1 then[] else 47::zD q.den):=by
 rcases zbg q.num with⟨_,e⟩|⟨h',_⟩
 ·unfold numS;rw[e]
 ·omega
theorem zq9 {q:Rat} (h:q.num<0):numS q=45::(zD q.num.natAbs++(if q.den=1 then[] else 47::zD q.den)):=by
 rcases zbg q.num with⟨h',_⟩|⟨_,e⟩
 ·omega
 ·unfold numS;rw[e];rfl
theorem zhh (q:Rat):numS q=if decide (q.num<0)=true then 45::(zD q.num.natAbs++(if q.den=1 then[] else 47::zD q.den)) else zD q.num.natAbs++(if q.den=1 then[] else 47::zD q.den):=by
 by_cases h:q.num<0
 ·rw[decide_eq_true h,if_pos rfl,zq9 h]
 ·rw[decide_eq_false h,if_neg (by simp),zq8 (by omega)]
theorem zee (q:Rat) (hl:digs q.num<=800000) (hl2:(zD q.den).length<=800000) (a b:Int) (ok:Bool) (h:(zbb q/\a=q.num/\b=q.den/\ok=true)\/(¬zbb q/\a=0/\b=0/\ok=false)) (w:zA):
 qJ 55 #[St (numS q)] w (.tuple #[.agg #[.int .i64 a,.int .i64 b],.bool ok]):=by
 have hl:(zD q.num.natAbs).length<=800000:=hl;have hd1:q.den=1->(zD q.den).length<=8:=λe=>by rw[e,zae (by omega)];simp
 have hd0:=q.den_nz;have hv:(if decide (q.num<0)=true then-(q.num.natAbs:Int) else(q.num.natAbs:Int))=q.num:=by
  by_cases h:q.num<0
  ·rw[decide_eq_true h,if_pos rfl];omega
  ·rw[decide_eq_false h,if_neg (by simp)];omega
 rw[zhh];refine zf6 (decide (q.num<0)) q.num.natAbs _ a b ok (λk=>by have:=of_decide_eq_true k;omega) (by split;exact zd7 _;exact zf3 _ _) (by omega) (by split<;>simp;omega) ?_ w;rw[hv];rcases h with⟨⟨g1,g2⟩,h1,h2,h3⟩|⟨g,h1,h2,h3⟩
 ·refine .inr ⟨g1,?_⟩
  by_cases hd:q.den=1
  ·exact .inl ⟨if_pos hd,h1,by rw[h2,hd];rfl,h3⟩
  ·exact .inr ⟨q.den,if_neg hd,.inl ⟨g2,by omega,q.reduced,h1,h2,h3⟩⟩
 ·by_cases g1:(zD q.num.natAbs).length<=8
  ·have g2:8<(zD q.den).length:=Nat.lt_of_not_le λk=>g ⟨g1,k⟩
   exact .inr ⟨g1,.inr ⟨q.den,if_neg λe=>by have:=hd1 e;omega,.inr ⟨g2,h1,h2,h3⟩⟩⟩
  ·exact .inl ⟨by omega,h1,h2,h3⟩
theorem zbm (q:Rat) (h:zbb q) (w:zA):
 qJ 55 #[St (numS q)] w (.tuple #[.agg #[.int .i64 q.num,I q.den],.bool true]):=
 zee q (zO h.1 (by omega)) (zO h.2 (by omega)) _ _ _ (.inl ⟨h,rfl,rfl,rfl⟩) w
theorem zb5 (q:Rat) (h:¬zbb q) (hl:digs q.num<=800000) (hl2:(zD q.den).length<=800000) (w:zA):
 qJ 55 #[St (numS q)] w (.tuple #[.agg #[.int .i64 0,.int .i64 0],.bool false]):=
 zee q hl hl2 _ _ _ (.inr ⟨h,rfl,rfl,rfl⟩) w
theorem znl (n:Int) (D:Nat) (hD:0<D):∃(g qd:Nat) (qn:Int),g=Nat.gcd n.natAbs D/\0<g/\g<=D/\n.tdiv g=qn/\D/g=qd/\((D:Int).tdiv g)=(qd:Int)/\qn.natAbs<=n.natAbs/\qd<=D/\numS (Rat.divInt n D)=zE qn++(if qd=1 then[] else 47::zE (qd:Int)):=by
 have hg:0<Nat.gcd n.natAbs D:=Nat.gcd_pos_of_pos_right _ hD;have hm:=zif n (D:Int) (by omega);have e1:Int.gcd n (D:Int)=Nat.gcd n.natAbs D:=by unfold Int.gcd;rw[Int.natAbs_natCast]
 rw[e1] at hm;have hdv:((Nat.gcd n.natAbs D:Nat):Int)∣n:=Int.ofNat_dvd_left.2 (Nat.gcd_dvd_left _ _);have e2:n.tdiv (Nat.gcd n.natAbs D:Nat)=n/(Nat.gcd n.natAbs D:Nat):=Int.tdiv_eq_ediv_of_dvd hdv;refine⟨_,_,_,rfl,hg,Nat.le_of_dvd hD (Nat.gcd_dvd_right _ _),rfl,rfl,?_,?_,Nat.div_le_self _ _,?_⟩
 ·rw[Int.tdiv_eq_ediv_of_nonneg (by omega),Int.natCast_ediv]
 ·rw[Int.natAbs_tdiv,Int.natAbs_natCast];exact Nat.div_le_self _ _
 ·rw[hm,e2,Int.natCast_ediv]
  congr 1;by_cases h:D/Nat.gcd n.natAbs D=1
  ·rw[if_pos h,if_pos (by rw[<-Int.natCast_ediv,h];rfl)]
  ·rw[if_neg h,if_neg (by rw[<-Int.natCast_ediv];omega)]
theorem zij (x:Int) (h: -1000000000000000000<x/\x<1000000000000000000):(zE x).length<=20:=by
 have h1:=za7 x;have h2:=zbf (z:=x) (by omega);omega
theorem zt6 (a b c:List UInt8):((⟨a.toArray⟩:ByteArray)++(⟨b.toArray⟩:ByteArray))++(⟨c.toArray⟩:ByteArray)=⟨(a++b++c).toArray⟩:=by
 apply ByteArray.ext;simp
theorem zik (a b:List UInt8):Value.string ((⟨a.toArray⟩:ByteArray)++(⟨#[47]⟩:ByteArray)++(⟨b.toArray⟩:ByteArray))=St (a++47::b):=by
 rw[show(⟨#[47]⟩:ByteArray)=⟨([47]:List UInt8).toArray⟩ from rfl,zt6,List.append_assoc];rfl
theorem zu0 (n:Int) (D:Nat) (hD:0<D) (hn: -100000000000000000<n/\n<100000000000000000) (hD2:D<100000000000000000) (w:zA) (hw:Wd w):
 qJ 173 #[.agg #[.int .i64 n,I D]] w (St (numS (Rat.divInt n D))):=by
 obtain⟨g,qd,qn,hg,hg0,hgD,hqn,hqd,hqd',hqa,hqb,hm⟩:=znl n D hD;obtain⟨n1,n2⟩:=hn;rw[hm];have hgc:=λW=>zj0 n.natAbs D (by omega) (by omega) W;rw[<-hg] at hgc;have hmax:max n (-n)=((n.natAbs:Nat):Int):=by omega
 have w1:IntKind.i64.wrap (n.tdiv (g:Int))=qn:=by rw[hqn];exact zI _ (by omega)
 have w2:IntKind.i64.wrap ((D:Int)/(g:Int))=(qd:Int):=by rw[<-Int.tdiv_eq_ediv_of_nonneg (by omega),hqd'];exact zI _ (by omega)
 have w3:IntKind.i64.wrap (-n)= -n:=zI _ (by omega);have hg1:¬g=0:=by omega
 have hi1:=λW hW=>zb3 qn (by omega) (by omega) W hW;have hi2:=λW hW=>zb3 (qd:Int) (by omega) (by omega) W hW;obtain⟨s1,hs1⟩:=zzX (⟨(zE qn).toArray⟩:ByteArray);obtain⟨s2,hs2⟩:=zzX (⟨(zE (qd:Int)).toArray⟩:ByteArray);have hz1:s1.size<=20:=by rw[hs1];show(zE qn).toArray.size<=20;have:=zij qn (by omega);simpa using this
 have hz2:s2.size<=20:=by rw[hs2];show(zE (qd:Int)).toArray.size<=20;have:=zij (qd:Int) (by omega);simpa using this
 rw[<-hs1] at hi1;rw[<-hs2] at hi2;have HS1:=hid hs1;have HS2:=hid hs2;clear hs1 hs2;have HGC:=hid hgc;have HI1:=hid hi1;have HI2:=hid hi2;have HW:=hid hw;have W1:=hid w1;have W2:=hid w2;have hqa': -100000000000000000<qn/\qn<100000000000000000:=by omega
 clear hg hqn hqd hqd' hqa hm hgc w1 w2 hi1 hi2 hw;by_cases h1:qd=1
 ·have hb1:((qd:Int)==1)=true:=by rw[beq_iff_eq];omega
  rw[if_pos h1,yH];clear h1;go_enter Tryz.func173,Tryz.ntmps173;go_wp21;refine(HGC.out _).mono ?_;rintro e w4 ⟨nd,rfl,rfl⟩;have w1:=W1.out;have w2:=W2.out;go_wp21
  (refine wp_region_quiet_lit (by kernel_rfl) (by kernel_rfl) (WQ.out ?_);(repeat(first|(apply WQ.read (by rfl);(focus(rintro W ⟨n,rfl⟩;go_simp;try with_reducible rfl));try simp only[zzQ])|(apply WQ.skip (by rfl);try simp only[zzQ])));refine WQ.nil ?_;rintro _ ⟨nq,rfl⟩)
  clear w1 w2;go_wp21;have hB:=zao ((zM _ w).alloc (zN _) (.cells #[.int .i64 n,I D] 93)) (nd+nq);refine zzM (HI1.out _ (HW.out.below hB)) λw5 hb5=>?_;have hB5:=hB.trans (hb5.mono hB.size);clear hb5 hB;go_wp21;go_ret;exact⟨by rw[HS1.out];rfl,hB5⟩
 ·have hb1:((qd:Int)==1)=false:=by rw[beq_eq_false_iff_ne];omega
  rw[if_neg h1];clear h1;go_enter Tryz.func173,Tryz.ntmps173;go_wp21;refine(HGC.out _).mono ?_;rintro e w4 ⟨nd,rfl,rfl⟩;have w1:=W1.out;have w2:=W2.out;go_wp21
  (refine wp_region_quiet_lit (by kernel_rfl) (by kernel_rfl) (WQ.out ?_);(repeat(first|(apply WQ.read (by rfl);(focus(rintro W ⟨n,rfl⟩;go_simp;try with_reducible rfl));try simp only[zzQ])|(apply WQ.skip (by rfl);try simp only[zzQ])));refine WQ.nil ?_;rintro _ ⟨nq,rfl⟩)
  clear w1 w2;go_wp21;have hB:=zao ((zM _ w).alloc (zN _) (.cells #[.int .i64 n,I D] 93)) (nd+nq);refine zzM (HI1.out _ (HW.out.below hB)) λw5 hb5=>?_;have hB5:=hB.trans (hb5.mono hB.size);clear hb5 hB;go_wp21;refine zzM (HI2.out _ (HW.out.below hB5)) λw6 hb6=>?_;have hB6:=hB5.trans (hb6.mono hB5.size);clear hb6 hB5;go_wp21;go_ret;refine⟨?_,hB6⟩;rw[HS1.out,HS2.out];exact zv6 (zik _ _)
theorem zu1 (n:Int) (D:Nat) (hD:0<D) (hn: -100000000000000000<n/\n<100000000000000000) (hD2:D<100000000000000000) (w:zA) (hw:Wd w):
 qJ 173 #[.agg #[.int .i64 n,.int .i64 (-(D:Int))]] w (St (numS (Rat.divInt (-n) D))):=by
 obtain⟨g,qd,qn,hg,hg0,hgD,hqn,hqd,hqd',hqa,hqb,hm⟩:=znl (-n) D hD;obtain⟨n1,n2⟩:=hn;rw[hm];have hgc:=λW=>zj0 n.natAbs D (by omega) (by omega) W;rw[Int.natAbs_neg] at hg;rw[<-hg] at hgc;have hmax:max (-n) n=((n.natAbs:Nat):Int):=by omega
 have w4:IntKind.i64.wrap n=n:=zI _ (by omega);have hqi: -(n.tdiv (g:Int))=qn:=by rw[<-hqn,Int.neg_tdiv]
 have w1:IntKind.i64.wrap (-(n.tdiv (g:Int)))=qn:=by rw[hqi];exact zI _ (by omega)
 have w1':IntKind.i64.wrap ((-n).tdiv (g:Int))=qn:=by rw[hqn];exact zI _ (by omega)
 have w2:IntKind.i64.wrap ((D:Int)/(g:Int))=(qd:Int):=by rw[<-Int.tdiv_eq_ediv_of_nonneg (by omega),hqd'];exact zI _ (by omega)
 have w3:IntKind.i64.wrap (-n)= -n:=zI _ (by omega);have hg1:¬g=0:=by omega
 have hi1:=λW hW=>zb3 qn (by omega) (by omega) W hW;have hi2:=λW hW=>zb3 (qd:Int) (by omega) (by omega) W hW;obtain⟨s1,hs1⟩:=zzX (⟨(zE qn).toArray⟩:ByteArray);obtain⟨s2,hs2⟩:=zzX (⟨(zE (qd:Int)).toArray⟩:ByteArray);have hz1:s1.size<=20:=by rw[hs1];show(zE qn).toArray.size<=20;have:=zij qn (by omega);simpa using this
 have hz2:s2.size<=20:=by rw[hs2];show(zE (qd:Int)).toArray.size<=20;have:=zij (qd:Int) (by omega);simpa using this
 rw[<-hs1] at hi1;rw[<-hs2] at hi2;have HS1:=hid hs1;have HS2:=hid hs2;clear hs1 hs2;have HGC:=hid hgc;have HI1:=hid hi1;have HI2:=hid hi2;have HW:=hid hw;have W1':=hid w1';have W1:=hid w1;have W2:=hid w2;have hqa': -100000000000000000<qn/\qn<100000000000000000:=by omega
 clear hg hqn hqd hqd' hqa hm hgc hqi w1 w1' w2 hi1 hi2 hw;by_cases h1:qd=1
 ·have hb1:((qd:Int)==1)=true:=by rw[beq_iff_eq];omega
  rw[if_pos h1,yH];clear h1;go_enter Tryz.func173,Tryz.ntmps173;go_wp21;refine(HGC.out _).mono ?_;rintro e w4 ⟨nd,rfl,rfl⟩;have w1:=W1.out;have w1':=W1'.out;have w2:=W2.out;go_wp21
  (refine wp_region_quiet_lit (by kernel_rfl) (by kernel_rfl) (WQ.out ?_);(repeat(first|(apply WQ.read (by rfl);(focus(rintro W ⟨n,rfl⟩;go_simp;try with_reducible rfl));try simp only[zzQ])|(apply WQ.skip (by rfl);try simp only[zzQ])));refine WQ.nil ?_;rintro _ ⟨nq,rfl⟩)
  clear w1 w1' w2;go_wp21;have hB:=zao ((zM _ w).alloc (zN _) (.cells #[.int .i64 (-n),I D] 93)) (nd+nq);refine zzM (HI1.out _ (HW.out.below hB)) λw5 hb5=>?_;have hB5:=hB.trans (hb5.mono hB.size);clear hb5 hB;go_wp21;go_ret;exact⟨by rw[HS1.out];rfl,hB5⟩
 ·have hb1:((qd:Int)==1)=false:=by rw[beq_eq_false_iff_ne];omega
  rw[if_neg h1];clear h1;go_enter Tryz.func173,Tryz.ntmps173;go_wp21;refine(HGC.out _).mono ?_;rintro e w4 ⟨nd,rfl,rfl⟩;have w1:=W1.out;have w1':=W1'.out;have w2:=W2.out;go_wp21
  (refine wp_region_quiet_lit (by kernel_rfl) (by kernel_rfl) (WQ.out ?_);(repeat(first|(apply WQ.read (by rfl);(focus(rintro W ⟨n,rfl⟩;go_simp;try with_reducible rfl));try simp only[zzQ])|(apply WQ.skip (by rfl);try simp only[zzQ])));refine WQ.nil ?_;rintro _ ⟨nq,rfl⟩)
  clear w1 w1' w2;go_wp21;have hB:=zao ((zM _ w).alloc (zN _) (.cells #[.int .i64 (-n),I D] 93)) (nd+nq);refine zzM (HI1.out _ (HW.out.below hB)) λw5 hb5=>?_;have hB5:=hB.trans (hb5.mono hB.size);clear hb5 hB;go_wp21;refine zzM (HI2.out _ (HW.out.below hB5)) λw6 hb6=>?_;have hB6:=hB5.trans (hb6.mono hB5.size);clear hb6 hB5;go_wp21;go_ret;refine⟨?_,hB6⟩;rw[HS1.out,HS2.out];exact zv6 (zik _ _)
theorem zjd (n d:Int) (hd:d<0):Rat.divInt n d=Rat.divInt (-n) ((d.natAbs:Nat):Int):=by
 rw[zes _ _ (by omega),if_pos hd,zes _ _ (by omega),if_neg (by omega),Int.natAbs_natCast]
theorem zd8 (n d:Int) (hd:d≠0) (hn: -100000000000000000<n/\n<100000000000000000) (hd2: -100000000000000000<d/\d<100000000000000000) (w:zA) (hw:Wd w):
 qJ 173 #[.agg #[.int .i64 n,.int .i64 d]] w (St (numS (Rat.divInt n d))):=by
 rcases Int.lt_or_gt_of_ne hd with h|h
 ·obtain⟨D,rfl⟩:∃D:Nat,d= -(D:Int):=⟨d.natAbs,by omega⟩
  rw[zjd _ _ h,show((-(D:Int)).natAbs)=D by omega];exact zu1 n D (by omega) hn (by omega) w hw
 ·obtain⟨D,rfl⟩:∃D:Nat,d=(D:Int):=⟨d.natAbs,by omega⟩
  exact zu0 n D (by omega) hn (by omega) w hw
theorem ziv (n:Nat) (hl:(zD n).length<=1000000) (w:zA):
 zC zF 177 #[St (zD n)] w λe w'=>e=.returned (I (zD n).length)/\w'=w:=by
 obtain⟨s,hs⟩:=zzX (⟨(zD n++[]).toArray⟩:ByteArray);obtain⟨b1,b2, -⟩:=zii (zd7 n) s hs;have hzero:(zD n).length<=1\/∀hb:0<s.size,(s[0]'hb).toNat≠48:=zjz n [] s hs;have hb2:∀k (hb:k<s.size),48<=(s[k]'hb).toNat/\(s[k]'hb).toNat<=57:=λk hb=>⟨(b2 k (by simp at b1;omega) hb).1,(b2 k (by simp at b1;omega) hb).2.1⟩;rw[yH] at hs;have hlen:(zD n).length=s.size:=by rw[b1];simp
 show zC _ _ #[.string ⟨(zD n).toArray⟩] _ _;rw[hlen] at hl hzero⊢;rw[<-hs];have B2:=hid hb2;clear b1 b2 hb2 hs hlen;go_enter Tryz.func177,Tryz.ntmps177;go_wp2;go_loop [3] (λi=>∃k:Nat,k<=s.size/\i=.int .i64 k) (λi=>s.size-(zL i).toNat)
 case atStart=>exact⟨0,zR _,rfl⟩
 case round=>
  obtain⟨k,hk,rfl⟩:=hrel;by_cases hlt:k<s.size
  ·obtain⟨c1,c2⟩:=B2.out k hlt
   have d1:(48:Int)<=(s[k].toNat:Int):=by omega
   have d2:(s[k].toNat:Int)<=57:=by omega
   go_wp2;go_round
   case rel=>exact⟨k+1,by omega,by go_num⟩
   case measure=>simp[zL];omega
  ·obtain⟨q,hq⟩:=zzX s.size
   have hkq:k=q:=by omega
   subst hkq;have HQ:=hid hq;clear hq;rcases hzero with h1|h1
   ·have h1':¬(1:Int)<k:=by have:=HQ.out;omega
    go_wp2;go_ret;exact⟨show Ending.returned (I k)=.returned (I s.size) from by rw[<-HQ.out],rfl⟩
   ·by_cases h2:1<k
    ·have h2':(1:Int)<k:=by omega
     have hs0:0<s.size:=by omega
     have h3:(((s[0]'hs0).toNat:Int)==48)=false:=by rw[beq_eq_false_iff_ne];have:=h1 hs0;omega
     clear h1;go_wp2;go_ret;exact⟨show Ending.returned (I k)=.returned (I s.size) from by rw[<-HQ.out],rfl⟩
    ·have h1':¬(1:Int)<k:=by omega
     clear h1;go_wp2;go_ret;exact⟨show Ending.returned (I k)=.returned (I s.size) from by rw[<-HQ.out],rfl⟩
theorem z1l (a b:List UInt8) (h:(47:UInt8)∉a):cut (a++47::b) [47]=(a,b,true):=by
 have hi:index (a++47::b) [47]=(a.length:Int):=by
  refine index_first (by simp) (by simp[occAt]) λj hj=>?_;rw[Bool.eq_false_iff];intro hc;have:=occAt_head rfl hc;rw[List.getElem?_append_left hj] at this;exact h (List.mem_of_getElem? this)
 unfold cut;rw[hi,if_pos (by omega)];simp
theorem z2u (a:List UInt8) (h:(47:UInt8)∉a):cut a [47]=(a,[],false):=by
 have hi:index a [47]= -1:=by
  refine index_none λj hj=>?_;rw[Bool.eq_false_iff];intro hc;exact h (List.mem_of_getElem? (occAt_head rfl hc))
 unfold cut;rw[hi,if_neg (by omega)]
theorem zra (q:Rat):cut (numS q) [47]=(zE q.num,(if q.den=1 then[] else zD q.den),decide (q.den≠1)):=by
 by_cases h:q.den=1
 ·rw[zmu h,z2u _ (zfe _),if_pos h];simp[h]
 ·rw[zid h,z1l _ _ (zfe _),if_neg h];simp[h]
theorem zhl {n:Nat} {s:ByteArray} (hs:s=⟨(zD n).toArray⟩) (k:Nat) (hk:k<10) (h:n≠k):(s.toList==[UInt8.ofNat (48+k)])=false:=by
 rw[beq_eq_false_iff_ne,hs,ByteArray.toList_eq,<-zae hk];intro e;exact h (zfk (by simpa using e))
theorem zfo {l:List UInt8} {s:ByteArray} (hs:s=⟨l.toArray⟩):s.toList=l:=by rw[hs,ByteArray.toList_eq]
theorem zy7 (q:Rat) (hq:q.den≠1) (hl:digs q.num<=800000) (hl2:(zD q.den).length<=800000) (w:zA) (hw:Wd w):
 qJ 113 #[St (numS q)] w (.tuple #[.agg #[St (zE q.num),St (zD q.den)],.bool true]):=by
 have hl:(zD q.num.natAbs).length<=800000:=hl;obtain⟨s,hs⟩:=zzX (⟨(numS q).toArray⟩:ByteArray);obtain⟨sn,hsn⟩:=zzX (⟨(zE q.num).toArray⟩:ByteArray);obtain⟨sd,hsd⟩:=zzX (⟨(zD q.den).toArray⟩:ByteArray);obtain⟨own,hown⟩:=zzX (⟨(zD q.num.natAbs).toArray⟩:ByteArray);have hssz:s.size<4294967281:=by
  rw[hs];show(numS q).toArray.size<_;have h1:=za7 q.num;unfold digs at h1;unfold numS;rw[if_neg hq];simp;omega
 have hcut:∀W:zA,Wd W->zC zF 176 #[.string s,.string ⟨#[47]⟩] W λe w'=>e=.returned (.tuple #[.string sn,.string sd,.bool true])/\∃n,w'=W.drewN n:=by
  intro W hW;obtain⟨m,hm⟩:=hW.maxl;have:=Tryz.strings_Cut s ⟨#[47]⟩ m W hssz hm;rw[show s.data.toList=numS q from by rw[hs],show(⟨#[47]⟩:ByteArray).data.toList=[47] from rfl,zra] at this;rw[hsn,hsd];simpa [hq] using this
 have hcp:∀W:zA,zC zF 129 #[.string sn,.string ⟨#[45]⟩] W λe w'=>e=.returned (.tuple #[.string own,.bool (decide (q.num<0))])/\w'=W:=by
  intro W;have:=Tryz.strings_CutPrefix sn ⟨#[45]⟩ W;rw[show sn.data.toList=zE q.num from by rw[hsn],show(⟨#[45]⟩:ByteArray).data.toList=[45] from rfl,zbi,zdx] at this;rw[hown];exact this
 have hd1:∀W:zA,zC zF 177 #[.string own] W λe w'=>e=.returned (I own.size)/\w'=W:=by
  intro W;have:=ziv q.num.natAbs (by omega) W;rw[show(zD q.num.natAbs).length=own.size from by rw[hown];exact List.size_toArray.symm] at this;rw[hown] at this⊢;exact this
 have hd2:∀W:zA,zC zF 177 #[.string sd] W λe w'=>e=.returned (I sd.size)/\w'=W:=by
  intro W;have:=ziv q.den (by omega) W;rw[show(zD q.den).length=sd.size from by rw[hsd];exact List.size_toArray.symm] at this;rw[hsd] at this⊢;exact this
 have z1:=zco _ (zci q.num.natAbs) own hown;have z2:=zco _ (zci q.den) sd hsd;have e1:((own.size:Int)==0)=false:=by rw[beq_eq_false_iff_ne];have:=z1.2.1;omega
 have e2:((sd.size:Int)==0)=false:=by rw[beq_eq_false_iff_ne];have:=z2.2.1;omega
 have l1:own.size<=800000:=by rw[z1.2.2.1];exact hl
 have l2:sd.size<=800000:=by rw[z2.2.2.1];exact hl2
 have q1:(sd.toList==[48])=false:=zhl hsd 0 (by omega) q.den_nz;have q2:(sd.toList==[49])=false:=zhl hsd 1 (by omega) hq;show zC _ _ #[.string ⟨(numS q).toArray⟩] _ λe w'=>e=.returned (.tuple #[.agg #[.string ⟨(zE q.num).toArray⟩,.string ⟨(zD q.den).toArray⟩],.bool true])/\Below w.heap.size w w';rw[<-hs,<-hsn,<-hsd];have CUT:=hid hcut;have CP:=hid hcp;have D1:=hid hd1;have D2:=hid hd2;have HW:=hid hw;have hneg:decide (q.num<0)=false\/decide (q.num<0)=true/\(own.toList==[48])=false:=by
  by_cases h:q.num<0
  ·exact .inr ⟨decide_eq_true h,zhl hown 0 (by omega) (by omega)⟩
  ·exact .inl (decide_eq_false h)
 clear hcut hcp hd1 hd2 hw z1 z2 hs hsn hsd hown hl hl2 hssz;rcases hneg with hneg|⟨hneg,hneg2⟩
 ·rw[hneg] at CP
  clear hneg;go_enter Tryz.func113,Tryz.ntmps113;go_wp21;refine(CUT.out _ (HW.out.below ((zM _ w).alloc (zN _) _))).mono ?_;rintro e w1 ⟨rfl,nd,rfl⟩;go_wp21;refine(CP.out _).mono ?_;rintro e w1 ⟨rfl,rfl⟩;go_wp21;refine(D1.out _).mono ?_;rintro e w1 ⟨rfl,rfl⟩;go_wp21;refine(D2.out _).mono ?_;rintro e w1 ⟨rfl,rfl⟩;go_wp21;refine bodyPost_ret (v:=.tuple #[.agg #[.string sn,.string sd],.bool true]) (by simp[results,Tryz.results113,go_sem]) rfl ⟨rfl,?_⟩
  repeat(first|exact zM _ _|refine Below.alloc ?_ (by simp) _|refine zao ?_ _|refine Below.setCell ?_ (by simp) _)
 ·rw[hneg] at CP
  clear hneg;go_enter Tryz.func113,Tryz.ntmps113;go_wp21;refine(CUT.out _ (HW.out.below ((zM _ w).alloc (zN _) _))).mono ?_;rintro e w1 ⟨rfl,nd,rfl⟩;go_wp21;refine(CP.out _).mono ?_;rintro e w1 ⟨rfl,rfl⟩;go_wp21;refine(D1.out _).mono ?_;rintro e w1 ⟨rfl,rfl⟩;go_wp21;refine(D2.out _).mono ?_;rintro e w1 ⟨rfl,rfl⟩;go_wp21;refine bodyPost_ret (v:=.tuple #[.agg #[.string sn,.string sd],.bool true]) (by simp[results,Tryz.results113,go_sem]) rfl ⟨rfl,?_⟩
  repeat(first|exact zM _ _|refine Below.alloc ?_ (by simp) _|refine zao ?_ _|refine Below.setCell ?_ (by simp) _)
theorem z1m (q:Rat) (hq:q.den=1) (hl:digs q.num<=800000) (w:zA) (hw:Wd w):
 qJ 113 #[St (numS q)] w (.tuple #[.agg #[St (zE q.num),St [49]],.bool true]):=by
 have hl:(zD q.num.natAbs).length<=800000:=hl;obtain⟨s,hs⟩:=zzX (⟨(numS q).toArray⟩:ByteArray);obtain⟨sn,hsn⟩:=zzX (⟨(zE q.num).toArray⟩:ByteArray);obtain⟨own,hown⟩:=zzX (⟨(zD q.num.natAbs).toArray⟩:ByteArray);have hssz:s.size<4294967281:=by
  rw[hs];show(numS q).toArray.size<_;have h1:=za7 q.num;unfold digs at h1;unfold numS;rw[if_pos hq];simp;omega
 have hcut:∀W:zA,Wd W->zC zF 176 #[.string s,.string ⟨#[47]⟩] W λe w'=>e=.returned (.tuple #[.string sn,St [],.bool false])/\∃n,w'=W.drewN n:=by
  intro W hW;obtain⟨m,hm⟩:=hW.maxl;have:=Tryz.strings_Cut s ⟨#[47]⟩ m W hssz hm;rw[show s.data.toList=numS q from by rw[hs],show(⟨#[47]⟩:ByteArray).data.toList=[47] from rfl,zra] at this;rw[hsn];simpa [hq] using this
 have hcp:∀W:zA,zC zF 129 #[.string sn,.string ⟨#[45]⟩] W λe w'=>e=.returned (.tuple #[.string own,.bool (decide (q.num<0))])/\w'=W:=by
  intro W;have:=Tryz.strings_CutPrefix sn ⟨#[45]⟩ W;rw[show sn.data.toList=zE q.num from by rw[hsn],show(⟨#[45]⟩:ByteArray).data.toList=[45] from rfl,zbi,zdx] at this;rw[hown];exact this
 have hd1:∀W:zA,zC zF 177 #[.string own] W λe w'=>e=.returned (I own.size)/\w'=W:=by
  intro W;have:=ziv q.num.natAbs (by omega) W;rw[show(zD q.num.natAbs).length=own.size from by rw[hown];exact List.size_toArray.symm] at this;rw[hown] at this⊢;exact this
 have z1:=zco _ (zci q.num.natAbs) own hown;have e1:((own.size:Int)==0)=false:=by rw[beq_eq_false_iff_ne];have:=z1.2.1;omega
 have l1:own.size<=800000:=by rw[z1.2.2.1];exact hl
 show zC _ _ #[.string ⟨(numS q).toArray⟩] _ λe w'=>e=.returned (.tuple #[.agg #[.string ⟨(zE q.num).toArray⟩,St [49]],.bool true])/\Below w.heap.size w w';rw[<-hs,<-hsn];have CUT:=hid hcut;have CP:=hid hcp;have D1:=hid hd1;have HW:=hid hw;have hneg:decide (q.num<0)=false\/decide (q.num<0)=true/\(own.toList==[48])=false:=by
  by_cases h:q.num<0
  ·exact .inr ⟨decide_eq_true h,zhl hown 0 (by omega) (by omega)⟩
  ·exact .inl (decide_eq_false h)
 clear hcut hcp hd1 hw z1 hs hsn hown hl hssz;rcases hneg with hneg|⟨hneg,hneg2⟩
 ·rw[hneg] at CP
  clear hneg;go_enter Tryz.func113,Tryz.ntmps113;go_wp21;refine(CUT.out _ (HW.out.below ((zM _ w).alloc (zN _) _))).mono ?_;rintro e w1 ⟨rfl,nd,rfl⟩;go_wp21;refine(CP.out _).mono ?_;rintro e w1 ⟨rfl,rfl⟩;go_wp21;refine(D1.out _).mono ?_;rintro e w1 ⟨rfl,rfl⟩;go_wp21;refine bodyPost_ret (v:=.tuple #[.agg #[.string sn,St [49]],.bool true]) (by simp[results,Tryz.results113,go_sem]) rfl ⟨rfl,?_⟩
  repeat(first|exact zM _ _|refine Below.alloc ?_ (by simp) _|refine zao ?_ _|refine Below.setCell ?_ (by simp) _)
 ·rw[hneg] at CP
  clear hneg;go_enter Tryz.func113,Tryz.ntmps113;go_wp21;refine(CUT.out _ (HW.out.below ((zM _ w).alloc (zN _) _))).mono ?_;rintro e w1 ⟨rfl,nd,rfl⟩;go_wp21;refine(CP.out _).mono ?_;rintro e w1 ⟨rfl,rfl⟩;go_wp21;refine(D1.out _).mono ?_;rintro e w1 ⟨rfl,rfl⟩;go_wp21;refine bodyPost_ret (v:=.tuple #[.agg #[.string sn,St [49]],.bool true]) (by simp[results,Tryz.results113,go_sem]) rfl ⟨rfl,?_⟩
  repeat(first|exact zM _ _|refine Below.alloc ?_ (by simp) _|refine zao ?_ _|refine Below.setCell ?_ (by simp) _)
theorem zoh (q:Rat) (hl:digs q.num<=800000) (hl2:(zD q.den).length<=800000) (w:zA) (hw:Wd w):
 qJ 113 #[St (numS q)] w (.tuple #[.agg #[St (zE q.num),St (zD q.den)],.bool true]):=by
 by_cases h:q.den=1
 ·rw[h,zae (by omega)];exact z1m q h hl w hw
 ·exact zy7 q h hl hl2 w hw
end Go.Proofs.YtfoodcpnnmonhaaGreatDoor
