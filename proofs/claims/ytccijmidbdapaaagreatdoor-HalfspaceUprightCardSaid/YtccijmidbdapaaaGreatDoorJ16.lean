/- integer.Divide of naturals, with what is left over. -/
import Derived.Test.YtccijmidbdapaaaGreatDoorJ15
set_option maxRecDepth 100000
set_option maxHeartbeats 8000000
open Go renaming World → zA, Calls → zC
open Go.RowKit renaming Below → zB, intOf → zL
open Go.Lib renaming decDigits → zD, itoa → zE
open Go.Proofs.Tryz renaming prog → zF
open Go.World renaming alloc_heap_new → zG, size_alloc → zH
open Go.IntWalk renaming i64_in → zI
open Go.Joins renaming cell_of_block → zJ
open Go.RowKit.Below renaming refl → zM
open Nat renaming le_refl → zN, le_trans → zO, zero_le → zR
open List renaming length_map → zV
namespace Go.Proofs.YtccijmidbdapaaaGreatDoor
open Go.RowKit Go.Shelf Lib Str Limb
attribute [local go_sem] Oper.semAt_some
theorem z4o (x y q r:Int) (hx0:0<=x) (hy0:0<y) (hd:x.tdiv y=q) (hm:x.tmod y=r) (hr0:0<=r) (hz:¬r=0) (hqa:q.natAbs<=x.natAbs) (hra:r.natAbs<=x.natAbs) (hx:(zE x).length<=18) (hy:(zE y).length<=18) (w:zA) (hw:Wd w):
 qJ 71 #[St (zE x),St (zE y)] w (.tuple #[St (zE q),St (zE r),.int .i64 0]):=by
 obtain⟨x1,x2⟩:=lt18 hx
 obtain⟨y1,y2⟩:=lt18 hy
 have hb:=λW=>zdh x y (zO (zbf (by omega)) (by omega)) (zO (zbf (by omega)) (by omega)) W
 have hs:=λW=>zdy x y hx hy W
 have hit:=λW hW=>zb3 q (by omega) (by omega) W hW
 have hiz:=λW hW=>zb3 r (by omega) (by omega) W hW
 have w1:IntKind.i64.wrap (x.tdiv y)=q:=by rw[hd];exact zI _ (by omega)
 have w2:IntKind.i64.wrap (x.tmod y)=r:=by rw[hm];exact zI _ (by omega)
 have hme:¬x%y=0:=by rw[<-Int.tmod_eq_emod_of_nonneg hx0,hm];exact hz
 have hre:x%y=r:=by rw[<-Int.tmod_eq_emod_of_nonneg hx0,hm]
 have hrn:decide (x%y<0)=false:=decide_eq_false (by rw[hre];omega)
 have HRE:=hid hre;clear hre
 have hyl:decide (y<0)=false:=decide_eq_false (by omega)
 have hyn:(zE y==[48])=false:=by rw[beq_eq_false_iff_ne,<-zb9];exact λh=>by have:=zdo h;omega
 have hne:¬zE y=[48]:=by simpa using hyn
 have hy1:¬y=0:=by omega
 have HB:=hid hb;clear hb
 have HIT:=hid hit;clear hit
 have HIZ:=hid hiz;clear hiz
 have HS:=hid hs;
 have HQD:=hid hd;have HMD:=hid hm;clear hs hx hy hd hm hqa hra
 have HW:=hid hw;clear hw
 go_enter Tryz.func71,Tryz.ntmps71
 go_wp2_with fail
 refine(HB.out w).mono ?_
 rintro e w3 ⟨rfl,hB1⟩
 go_wp2_with fail
 refine(HS.out w3).mono ?_
 rintro e w4 ⟨rfl,hb2⟩
 have hB2:=hB1.trans (hb2.mono hB1.size)
 clear hb2 hB1
 go_wp2_with fail
 (refine wp_region_quiet_lit (by kernel_rfl) (by kernel_rfl) (WQ.out ?_);(repeat(first|(apply WQ.read (by rfl);(focus(rintro W ⟨n,rfl⟩;go_simp;try with_reducible rfl));try simp only[zzQ])|(apply WQ.skip (by rfl);try simp only[zzQ])));refine WQ.nil ?_;rintro _ ⟨nq,rfl⟩)
 go_wp2_with fail
 have hB3:=zao hB2 nq
 refine(HIT.out (w4.drewN nq) (HW.out.below hB3)).mono ?_
 rintro e w5 ⟨rfl,hb5⟩
 have hB5:=hB3.trans (hb5.mono hB3.size)
 clear hb5 hB3 hB2
 go_wp2_with fail
 rw[HRE.out]
 refine(HIZ.out w5 (HW.out.below hB5)).mono ?_
 rintro e w6 ⟨rfl,hb6⟩
 have hB6:=hB5.trans (hb6.mono hB5.size)
 clear hb6 hB5
 go_wp2_with fail
 go_ret3
 exact⟨rfl,hB6⟩
theorem z58 (x y q r:Int) (hx0:0<=x) (hy0:0<y) (hq:((x.natAbs/y.natAbs:Nat):Int)=q) (hr:((x.natAbs%y.natAbs:Nat):Int)=r) (hx:digs x<=300) (hy:digs y<=300) (h:18<(zE x).length\/18<(zE y).length) (w:zA) (hw:Wd w):
 qJ 71 #[St (zE x),St (zE y)] w (.tuple #[St (zE q),St (zE r),.int .i64 0]):=by
 have hb:=λW=>zdh x y hx hy W
 have hs:=λW=>ze8 x y h W
 have r1:=λW=>zc3 x W (by omega)
 have r2:=λW=>zc3 y W (by omega)
 have l1:=zb4 (z:=x) (k:=100) (by omega) (by omega)
 have l2:=zb4 (z:=y) (k:=100) (by omega) (by omega)
 have hqd:digs q<=300:=by
  have hqa:q.natAbs<=x.natAbs:=by rw[<-hq,Int.natAbs_natCast];exact Nat.div_le_self _ _
  rw[za3 _ _ (by omega)] at hx⊢
  exact Nat.lt_of_le_of_lt hqa hx
 have hrd:digs r<=300:=by
  have hra:r.natAbs<=x.natAbs:=by rw[<-hr,Int.natAbs_natCast];exact Nat.mod_le _ _
  rw[za3 _ _ (by omega)] at hx⊢
  exact Nat.lt_of_le_of_lt hra hx
 have lr:=zd6 (B:=B9) (by decide) (Nat.mod_le x.natAbs y.natAbs)
 have hyn:(zE y==[48])=false:=by rw[beq_eq_false_iff_ne,<-zb9];exact λh=>by have:=zdo h;omega
 have hne:¬zE y=[48]:=by simpa using hyn
 have hm0:y.natAbs≠0:=by omega
 have lq:=zd6 (B:=B9) (by decide) (Nat.div_le_self x.natAbs y.natAbs)
 have HB:=hid hb;clear hb
 have HS:=hid hs;clear hs hx hy h
 have HW:=hid hw;clear hw
 have R1:=hid r1;have R2:=hid r2;clear r1 r2
 have S1:=hid hq;have S2:=hid hr;clear hq hr
 go_enter Tryz.func71,Tryz.ntmps71
 go_wp2_with fail
 refine(HB.out w).mono ?_
 rintro e w1 ⟨rfl,hB1⟩
 go_wp2_with fail
 refine(HS.out w1).mono ?_
 rintro e w2 ⟨rfl,rfl⟩
 go_wp2_with fail
 refine(R1.out w1).mono ?_
 rintro e w2 ⟨vx,rfl,hvx,hb2⟩
 have hB2:=hB1.trans (hb2.mono hB1.size)
 clear hb2 hB1
 obtain⟨px,kx,cx,rfl, -⟩:=zbx hvx
 have HVX:=hid hvx;clear hvx
 go_wp2_with fail
 refine(R2.out w2).mono ?_
 rintro e w3 ⟨vy,rfl,hvy,hb3⟩
 have hvx:=HVX.out.below hb3
 have hB3:=hB2.trans (hb3.mono hB2.size)
 clear hb3 hB2 HVX
 obtain⟨py,ky,cy,rfl, -⟩:=zbx hvy
 have HVX:=hid hvx;have HVY:=hid hvy;clear hvx hvy
 have hby2:decide (y<0)=false:=by simp;omega
 have hbx2:decide (x<0)=false:=by simp;omega
 rw[hby2,hbx2] at*
 clear hbx2 hby2
 go_wp2_with fail
 have hB4:=(hB3.alloc hB3.size (.cells #[.bool false,.slice px kx cx] 125)).alloc (by have:=hB3.size;simp;omega) (.cells #[.bool false,.slice py ky cy] 125)
 have hb4:qL w3 ((w3.alloc (.cells #[.bool false,.slice px kx cx] 125)).alloc (.cells #[.bool false,.slice py ky cy] 125)):=((zM _ _).alloc (zN _) _).alloc (by simp) _
 have b1k:=(Below.heap_alloc (w3.alloc (.cells #[.bool false,.slice px kx cx] 125)) (.cells #[.bool false,.slice py ky cy] 125) w3.heap.size (by simp)).trans (zG w3 (.cells #[.bool false,.slice px kx cx] 125))
 have b2k:=zG (w3.alloc (.cells #[.bool false,.slice px kx cx] 125)) (.cells #[.bool false,.slice py ky cy] 125)
 rw[zH] at b2k
 refine(znf (.slice px kx cx) (.slice py ky cy) _ _ _ (HVX.out.below hb4) (HVY.out.below hb4) (by omega) (by omega) hm0).mono ?_
 rintro e w5 ⟨v1,v2,rfl,hs1,hs2,hb5⟩
 obtain⟨p1,k1,c1,rfl, -⟩:=zbx hs1
 obtain⟨p2,k2,c2,rfl,hk2⟩:=zbx hs2
 clear hk2
 have hB5:=hB4.trans (hb5.mono hB4.size)
 have b1k:=(hb5.block w3.heap.size (by simp only[zH];omega)).trans b1k
 have b2k:=(hb5.block (w3.heap.size+1) (by simp only[zH];omega)).trans b2k
 have c1k:w5.cell? ⟨w3.heap.size,0,none⟩=some (.bool false):=by simp[World.cell?,b1k]
 have c2k:w5.cell? ⟨w3.heap.size+1,0,none⟩=some (.bool false):=by simp[World.cell?,b2k]
 have lz:w3.heap.size+1<w5.heap.size:=(Array.getElem?_eq_some_iff.1 b2k).1
 have HV1:=hid hs1;have HV2:=hid hs2
 clear hb4 hB4 hb5 hs1 hs2 hB3 HVX HVY b1k b2k
 have rs:=zez (false !=false) (.slice p1 k1 c1) (x.natAbs/y.natAbs) w5 (HW.out.below hB5) HV1.out (by omega)
 rw[show sgn (false !=false) (x.natAbs/y.natAbs)=q from S1.out,zcf hqd,zcg hqd] at rs
 rw[Bool.bne_false] at rs
 have RS:=hid rs;clear rs
 go_wp2_with fail
 refine RS.out.mono ?_
 rintro e w6 ⟨rfl,hb6⟩
 have hB6:=hB5.trans (hb6.mono hB5.size)
 have d1:=(hb6.cell (p:=⟨w3.heap.size,0,none⟩) (by show w3.heap.size<w5.heap.size;omega)).trans c1k
 have d2:=(hb6.cell (p:=⟨w3.heap.size+1,0,none⟩) lz).trans c2k
 have rt:=zez false (.slice p2 k2 c2) (x.natAbs%y.natAbs) w6 (HW.out.below hB6) (HV2.out.below hb6) (by omega)
 rw[show sgn false (x.natAbs%y.natAbs)=r from S2.out,zcf hrd,zcg hrd] at rt
 have RT:=hid rt;clear rt hb6 c1k c2k hB5
 go_wp2_with fail
 refine RT.out.mono ?_
 rintro e w7 ⟨rfl,hb7⟩
 have hB7:=hB6.trans (hb7.mono hB6.size)
 clear hb7 hB6
 go_wp2_with fail
 go_ret3
 exact⟨rfl,hB7⟩
theorem zzn (a b:Nat) (hb:0<b) (ha:(zD a).length<=300) (hb3:(zD b).length<=300) (w:zA) (hw:Wd w):
 qJ 71 #[St (zD a),St (zD b)] w (.tuple #[St (zD (a/b)),St (zD (a%b)),.int .i64 0]):=by
 have e1:digs (a:Int)<=300:=by rw[zd9];exact ha
 have e2:digs (b:Int)<=300:=by rw[zd9];exact hb3
 rw[<-Str.zad a,<-Str.zad b,<-Str.zad (a/b),<-Str.zad (a%b)]
 by_cases hz:a%b=0
 ·rw[hz,show zE ((0:Nat):Int)=[48] from zb9]
  refine zky a b ((a/b:Nat):Int) ?_ (by omega) e1 e2 w hw
  have:=Nat.div_add_mod a b
  rw[hz,Nat.add_zero,Nat.mul_comm] at this
  rw[<-Int.natCast_mul,this]
 by_cases h:(zE a).length<=18/\(zE b).length<=18
 ·have hq:=Nat.div_le_self a b
  have hr:=Nat.mod_le a b
  exact z4o a b ((a/b:Nat):Int) ((a%b:Nat):Int) (by omega) (by omega) (by rw[Int.ofNat_tdiv]) (by rw[Int.ofNat_tmod]) (by omega) (by omega) (by rw[Int.natAbs_natCast,Int.natAbs_natCast];exact hq) (by rw[Int.natAbs_natCast,Int.natAbs_natCast];exact hr) h.1 h.2 w hw
 ·exact z58 a b ((a/b:Nat):Int) ((a%b:Nat):Int) (by omega) (by omega) rfl rfl e1 e2 (by omega) w hw
theorem znq (n s:Nat) (hs:s*s<=n/\n<(s+1)*(s+1)) (hl:(zD n).length<=290) (w:zA) (hw:Wd w):
 qJ 177 #[St (zD n)] w (.tuple #[St (zD s),.int .i64 0]):=by
 obtain⟨t,ht⟩:∃t:ByteArray,t=⟨(zD n).toArray⟩:=⟨_,rfl⟩
 obtain⟨s1,s2,s3,s4⟩:=zco _ (zci n) t ht
 obtain⟨c,r,hd,hc1,hc2⟩:=dec_head n
 have h45:(((t[0]'s2).toNat:Int)==45)=false:=by
  rw[beq_eq_false_iff_ne,s4 s2]
  simp only[hd,List.head_cons];omega
 have ck:∀W:zA,qJ 109 #[.string t] W (.int .i64 0):=λW=>by
  have:=zl4 (n:Int) (by unfold digs;rw[Int.natAbs_natCast];omega) W
  rw[Str.zad] at this
  rw[ht];exact this
 have rd:∀W:zA,zC zF 65 #[.string t] W λe w'=>∃v,e=.returned (.agg #[.bool false,v])/\Sl w' v ((zaa B9 n).map I)/\zB W.heap.size W w':=λW=>by
  have:=zc3 (n:Int) W (by unfold digs;rw[Int.natAbs_natCast];omega)
  rw[Str.zad,decide_eq_false (by omega),Int.natAbs_natCast] at this
  rw[ht];exact this
 show zC _ _ #[.string ⟨(zD n).toArray⟩] _ _
 rw[<-ht]
 by_cases h0:n=0
 ·have hs0:s=0:=by
   by_cases d:s=0
   ·exact d
   ·have:=Nat.mul_pos (show 0<s by omega) (show 0<s by omega);omega
  have h48:(t.toList==[48])=true:=by rw[ht,ByteArray.toList_eq,h0,zae (by omega)];rfl
  have:=z7g t s2 h45 h48 (hid ck) w
  rw[hs0]
  rw[show St (zD 0)=.string t by rw[ht,h0]]
  exact this
 ·have h48:(t.toList==[48])=false:=zhl ht 0 (by omega) h0
  by_cases hsm:(zD n).length<=18
  ·have hn18:n<1000000000000000000:=(zaf n 18 (by omega)).1 hsm
   refine z6p t n s s2 h45 h48 (by omega) (hid ck) (hid rd) (hid λW hW=>?_) w (hid hw)
   refine z12 t n s (by omega) (hid hn18) (hid hs) (hid λW=>?_) (hid λW hW=>?_) W (hid hW)
   ·have:=znc (n:Int) (by rw[Str.zad];exact hsm) W
    rw[Str.zad] at this
    rw[ht];exact this
   ·have hsn:s<=n:=zO (Nat.le_mul_self s) hs.1
    have:=zb3 (s:Int) (by omega) (by omega) W hW
    rw[Str.zad] at this
    exact this
  ·obtain⟨k,hk⟩:∃k,(t.size+1)/2=k:=⟨_,rfl⟩
   have hn2:n<10^(2*k):=(zaf n (2*k) (by omega)).1 (by omega)
   have hk2:k<=146:=by omega
   have hX:=z7e hs.1 hn2
   have hrep:=λW=>Tryz.strings_Repeat ⟨#[48]⟩ k W (by omega) (by show 1*k<=_;omega)
   have b9:∀m,m<10^320->(zaa B9 m).length<=400:=λm hm=>zO (zfv (k:=36) (by decide) (Nat.lt_of_lt_of_le hm (by decide+kernel))) (by omega)
   have n200:n<10^290:=(zaf n 290 (by omega)).1 hl
   have x101:10^k<=10^146:=Nat.pow_le_pow_right (by omega) hk2
   have p1:(10:Nat)^290+10^146<=10^320:=by decide+kernel
   have y1:(⟨#[49]⟩:ByteArray)++⟨(Lib.repeatL [48] k).toArray⟩=⟨(zD (10^k)).toArray⟩:=by
    rw[z13,zhy]
    exact z7h [49] (List.replicate k 48)
   refine z7f t ⟨(Lib.repeatL [48] k).toArray⟩ ⟨(zD (10^k)).toArray⟩ n s k (10^k) (hid hs) (by omega) (Nat.pos_of_ne_zero (by simp)) hX (hid ⟨b9 _ (by omega),b9 _ (by omega),b9 _ (by omega)⟩) s2 h45 h48 (by omega) (by omega) hk (hid ck) (hid rd) (hid hrep) (hid λW=>?_) ?_ y1 ?_ w (hid hw)
   ·have hx2:10^k<10^147:=Nat.pow_lt_pow_right (by omega) (by omega)
    have:=zc3 ((10^k:Nat):Int) W (by unfold digs;rw[Int.natAbs_natCast];exact zO ((zaf _ 147 (by omega)).2 hx2) (by omega))
    rw[Str.zad,decide_eq_false (by omega),Int.natAbs_natCast] at this
    exact this
   ·show(Lib.repeatL [48] k).toArray.size<=1000
    rw[zhy];simp;omega
   ·unfold digs
    rw[Int.natAbs_natCast]
    exact zO ((zaf _ 147 (by omega)).2 (Nat.lt_of_le_of_lt (zO hX x101) (Nat.pow_lt_pow_right (by omega) (by omega)))) (by omega)
theorem z3j (c r d a1 a2 ten a3 rt q rest res:List UInt8) (n again zb:ByteArray) (hzb:zb.size<=1000) (ps:Nat) (hps:ps<=100) (n0:0<n.size) (ng:Bool)
 (hng:(((n[0]'n0).toNat:Int)==45)=ng)
 (P:Hid (qK 165 #[St c] (.tuple #[.string n,St d,.int .i64 0])))
 (M1:Hid (qK 25 #[.string n,.string n] (.tuple #[St a1,.int .i64 0])))
 (M2:Hid (qK 25 #[St a1,St r] (.tuple #[St a2,.int .i64 0])))
 (RP:Hid (∀W:zA,qJ 157 #[.string ⟨#[48]⟩,.int .i64 (2*(ps:Int))] W (.string zb)))
 (TN:Hid ((⟨#[49]⟩:ByteArray)++zb=⟨ten.toArray⟩))
 (M3:Hid (qK 25 #[St a2,St ten] (.tuple #[St a3,.int .i64 0])))
 (R:Hid (qK 177 #[St a3] (.tuple #[St rt,.int .i64 0])))
 (D:Hid (qK 71 #[St rt,St d] (.tuple #[St q,St rest,.int .i64 0])))
 (hpos:ng=false->q=res)
 (M4:Hid (ng=true->qK 25 #[St rt,St rt] (.tuple #[.string again,.int .i64 0])))
 (E:Hid (ng=true->((again.toList==a3)=true/\(rest==[48])=true/\qK 48 #[.string ⟨#[48]⟩,St q] (.tuple #[St res,.int .i64 0]))\/
   (((again.toList==a3)=false\/(rest==[48])=false)/\∃q1,(qK 95 #[St q,.string ⟨#[49]⟩] (.tuple #[St q1,.int .i64 0]))/\qK 48 #[.string ⟨#[48]⟩,St q1] (.tuple #[St res,.int .i64 0]))))
 (w:zA) (HW:Hid (Wd w)):
 qJ 138 #[.agg #[St c,St r],.int .i64 (ps:Int)] w (St res):=by
 have hw2:IntKind.i64.wrap (2*(ps:Int))=2*(ps:Int):=zI _ (by omega)
 obtain⟨v1,hv⟩:∃v1,v1=w.alloc (.cells #[St c,St r] 58):=⟨_,rfl⟩
 have a1':qL w v1:=by rw[hv];exact(zM _ w).alloc (zN _) _
 have A1:v1.heap[w.heap.size]? =some (.cells #[St c,St r] 58 (0,0)):=by rw[hv];exact zG w _
 have k0:v1.cell? ⟨w.heap.size,0,none⟩=some (St c):=by rw[zJ A1];rfl
 rw[hv] at k0
 have HV1:=hid hv.symm
 have E1:=hid a1'
 have B1:=hid A1
 clear hv a1' A1
 go_enter Tryz.func138,Tryz.ntmps138
 go_wp2_with fail
 rw[HV1.out]
 clear k0 HV1
 refine(P.out v1 (HW.out.below E1.out)).mono ?_
 rintro e y1 ⟨rfl,hb1⟩
 have E2:=hid (E1.out.trans (hb1.mono E1.out.size));have B2:=hid (zac hb1 _ _ _ _ B1.out)
 clear hb1 E1 B1
 go_wp2_with fail
 refine(M1.out y1 (HW.out.below E2.out)).mono ?_
 rintro e y2 ⟨rfl,hb1⟩
 have E3:=hid (E2.out.trans (hb1.mono E2.out.size));have B3:=hid (zac hb1 _ _ _ _ B2.out)
 clear hb1 E2 B2
 have k1:y2.cell? ⟨w.heap.size,1,none⟩=some (St r):=by rw[zJ B3.out];rfl
 go_wp2_with fail
 refine(M2.out y2 (HW.out.below E3.out)).mono ?_
 rintro e y3 ⟨rfl,hb1⟩
 have E4:=hid (E3.out.trans (hb1.mono E3.out.size))
 clear hb1 E3 B3 k1
 go_wp2_with fail
 refine(RP.out y3).mono ?_
 rintro e y4 ⟨rfl,hb1⟩
 have E5:=hid (E4.out.trans (hb1.mono E4.out.size))
 clear hb1 E4
 go_wp2_with fail
 rw[TN.out]
 refine(M3.out y4 (HW.out.below E5.out)).mono ?_
 rintro e y5 ⟨rfl,hb1⟩
 have E6:=hid (E5.out.trans (hb1.mono E5.out.size))
 clear hb1 E5
 go_wp2_with fail
 refine(R.out y5 (HW.out.below E6.out)).mono ?_
 rintro e y6 ⟨rfl,hb1⟩
 have E7:=hid (E6.out.trans (hb1.mono E6.out.size))
 clear hb1 E6
 go_wp2_with fail
 refine(D.out y6 (HW.out.below E7.out)).mono ?_
 rintro e y7 ⟨rfl,hb1⟩
 have E8:=hid (E7.out.trans (hb1.mono E7.out.size))
 clear hb1 E7
 cases ng
 ·obtain rfl:=hpos rfl
  clear M4 E
  go_wp2_with fail
  go_ret
  exact⟨rfl,E8.out⟩
 ·have HM4:=hid (M4.out rfl);have HE:=hid (E.out rfl)
  clear M4 E hpos
  go_wp2_with fail
  refine(HM4.out y7 (HW.out.below E8.out)).mono ?_
  rintro e y8 ⟨rfl,hb1⟩
  have E9:=hid (E8.out.trans (hb1.mono E8.out.size))
  clear hb1 E8 HM4
  rcases HE.out with⟨e1,e2,hs⟩|⟨e1,q1,ha,hs⟩
  ·have HS:=hid hs;clear HE hs
   go_wp2_with fail
   refine(HS.out y8 (HW.out.below E9.out)).mono ?_
   rintro e y9 ⟨rfl,hb1⟩
   have F1:=hid (E9.out.trans (hb1.mono E9.out.size))
   clear hb1
   go_wp2_with fail
   go_ret
   exact⟨rfl,F1.out⟩
  ·have HS:=hid hs;have HA:=hid ha;clear HE hs ha
   rcases e1 with e1|e1
   ·go_wp2_with fail
    refine(HA.out y8 (HW.out.below E9.out)).mono ?_
    rintro e z1 ⟨rfl,hb1⟩
    have F1:=hid (E9.out.trans (hb1.mono E9.out.size))
    clear hb1
    go_wp2_with fail
    refine(HS.out z1 (HW.out.below F1.out)).mono ?_
    rintro e z2 ⟨rfl,hb1⟩
    have F2:=hid (F1.out.trans (hb1.mono F1.out.size))
    clear hb1
    go_wp2_with fail
    go_ret
    exact⟨rfl,F2.out⟩
   ·cases e2:(again.toList==a3)
    ·go_wp2_with fail
     refine(HA.out y8 (HW.out.below E9.out)).mono ?_
     rintro e z1 ⟨rfl,hb1⟩
     have F1:=hid (E9.out.trans (hb1.mono E9.out.size))
     clear hb1
     go_wp2_with fail
     refine(HS.out z1 (HW.out.below F1.out)).mono ?_
     rintro e z2 ⟨rfl,hb1⟩
     have F2:=hid (F1.out.trans (hb1.mono F1.out.size))
     clear hb1
     go_wp2_with fail
     go_ret
     exact⟨rfl,F2.out⟩
    ·go_wp2_with fail
     refine(HA.out y8 (HW.out.below E9.out)).mono ?_
     rintro e z1 ⟨rfl,hb1⟩
     have F1:=hid (E9.out.trans (hb1.mono E9.out.size))
     clear hb1
     go_wp2_with fail
     refine(HS.out z1 (HW.out.below F1.out)).mono ?_
     rintro e z2 ⟨rfl,hb1⟩
     have F2:=hid (F1.out.trans (hb1.mono F1.out.size))
     clear hb1
     go_wp2_with fail
     go_ret
     exact⟨rfl,F2.out⟩
def floT (c:Rat) (s N:Nat):Int:=if c.num<0 then-((s/c.den+(if s*s=N/\s%c.den=0 then 0 else 1):Nat):Int) else((s/c.den:Nat):Int)
theorem z3u (x y:Nat) (hx:(zD x).length<=300) (hy:(zD y).length<=300) (hxy:(zD (x*y)).length<=300) (w:zA) (hw:Wd w):
 qJ 25 #[St (zD x),St (zD y)] w (.tuple #[St (zD (x*y)),.int .i64 0]):=by
 have hz:digs ((x:Int)*(y:Int))<=300:=by rw[<-Int.natCast_mul,zd9];exact hxy
 have:=zhk (x:Int) (y:Int) (by rw[zd9];exact hx) (by rw[zd9];exact hy) w hw
 rw[zcf hz,zcg hz,<-Int.natCast_mul,Str.zad,Str.zad,Str.zad] at this
 exact this
theorem zva (x y:Int) (hx:digs x<=300) (hy:digs y<=300) (hxy:digs (x+y)<=300) (w:zA) (hw:Wd w):
 qJ 95 #[St (zE x),St (zE y)] w (.tuple #[St (zE (x+y)),.int .i64 0]):=by
 have:=z1c x y hx hy w hw
 rwa [zcf hxy,zcg hxy] at this
theorem z6j (x y:Int) (hx:digs x<=300) (hy:digs y<=300) (hxy:digs (x-y)<=300) (w:zA) (hw:Wd w):
 qJ 48 #[St (zE x),St (zE y)] w (.tuple #[St (zE (x-y)),.int .i64 0]):=by
 have:=z1e x y hx hy w hw
 rwa [zcf hxy,zcg hxy] at this
theorem z6a (x:Int) (h0:0<(⟨(zE x).toArray⟩:ByteArray).size):((((⟨(zE x).toArray⟩:ByteArray)[0]'h0).toNat:Int)==45)=decide (x<0):=by
 obtain⟨s1,s2,s3,s4⟩:=zco (zE x) (by rcases zbg x with⟨_,e⟩|⟨_,e⟩<;>rw[e];exact zci _;simp) _ rfl
 rw[s4 h0]
 rcases zbg x with⟨hx,e⟩|⟨hx,e⟩
 ·obtain⟨c,r,hd,hc1,hc2⟩:=dec_head x.natAbs
  rw[decide_eq_false (by omega),beq_eq_false_iff_ne]
  simp only[e,hd,List.head_cons];omega
 ·rw[decide_eq_true (by omega)]
  simp only[e,List.head_cons];rfl
theorem zul (c:Rat) (r ps s N:Nat) (hoc:okQ c) (hc0:c≠0) (hr:0<r) (hps:ps<=100) (hN:c.num.natAbs*c.num.natAbs*r*10^(2*ps)=N) (hl:(zD N).length<=290) (hs:s*s<=N/\N<(s+1)*(s+1)) (w:zA) (hw:Wd w):
 qJ 138 #[.agg #[St (numS c),St (zD r)],.int .i64 (ps:Int)] w (St (zE (floT c s N))):=by
 obtain⟨n,hn⟩:∃n,n=c.num.natAbs:=⟨_,rfl⟩
 have n0:0<n:=by
  have:c.num≠0:=λe=>hc0 (Rat.num_eq_zero.1 e)
  omega
 obtain⟨t,ht⟩:∃t,t=10^(2*ps):=⟨_,rfl⟩
 have t0:0<t:=by rw[ht];exact Nat.pos_of_ne_zero (by simp)
 rw[<-hn,<-ht] at hN
 have le1:n<=n*n:=Nat.le_mul_self n
 have le2:n*n<=n*n*r:=Nat.le_mul_of_pos_right _ hr
 have le3:n*n*r<=n*n*r*t:=Nat.le_mul_of_pos_right _ t0
 have le4:r<=n*n*r:=Nat.le_mul_of_pos_left _ (Nat.mul_pos n0 n0)
 have le5:t<=n*n*r*t:=Nat.le_mul_of_pos_left _ (Nat.mul_pos (Nat.mul_pos n0 n0) hr)
 rw[hN] at le3 le5
 have len:∀{m:Nat},m<=N->(zD m).length<=300:=λh=>by have:=zt9 h;omega
 have hsN:s<=N:=z6f hs.1
 have hsd:=Nat.div_le_self s c.den
 have hN200:N<10^290:=(zaf N 290 (by omega)).1 hl
 have p1:(10:Nat)^290+1<10^291:=by decide+kernel
 have dlen:∀z:Int,z.natAbs<=N+1->digs z<=300:=λz hz=>by
  have:=(zaf z.natAbs 291 (by omega)).2 (by omega)
  unfold digs;omega
 have hneg:∀k:Nat,k<=N+1->((0:Int)-(k:Int)).natAbs<=N+1:=λk h=>by omega
 have hpos:∀k:Nat,k<=N->((k:Int)+1).natAbs<=N+1:=λk h=>by omega
 have z48:zE 0=[48]:=zb9
 have z49:zE 1=[49]:=by rw[show(1:Int)=((1:Nat):Int) from rfl,Str.zad,zae (by omega)];rfl
 have hdl:(zD c.den).length<=300:=hoc.2
 have hrep:=λW=>Tryz.strings_Repeat ⟨#[48]⟩ (2*ps) W (by omega) (by show 1*(2*ps)<=_;omega)
 have hi0:0<(⟨(zE c.num).toArray⟩:ByteArray).size:=(zco (zE c.num) (by rcases zbg c.num with⟨_,e⟩|⟨_,e⟩<;>rw[e];exact zci _;simp) _ rfl).2.1
 refine z3j (numS c) (zD r) (zD c.den) (zD (n*n)) (zD (n*n*r)) (zD t) (zD N) (zD s) (zD (s/c.den)) (zD (s%c.den)) (zE (floT c s N)) ⟨(zE c.num).toArray⟩ ⟨(zD (s*s)).toArray⟩ ⟨(Lib.repeatL [48] (2*ps)).toArray⟩ (by show(Lib.repeatL [48] (2*ps)).toArray.size<=1000;rw[zhy];simp;omega) ps hps hi0 (decide (c.num<0)) (z6a c.num hi0)
  (hid λW hW=>zk5 c hoc W hW) (hid λW hW=>?_) (hid λW hW=>z3u _ _ (len (by omega)) (len (by omega)) (len le3) W hW) (hid λW=>?_) (hid ?_) (hid λW hW=>?_) (hid λW hW=>znq N s hs hl W hW) (hid λW hW=>zzn s c.den c.den_pos (len hsN) hdl W hW)
  (λh=>?_) (hid λ_ W hW=>z3u _ _ (len hsN) (len hsN) (len hs.1) W hW) (hid λh=>?_) w (hid hw)
 ·have hz:digs (c.num*c.num)<=300:=dlen _ (by rw[Int.natAbs_mul,<-hn];omega)
  have:=zhk c.num c.num hoc.1 hoc.1 W hW
  rw[zcf hz,zcg hz,<-Int.natAbs_mul_self,Str.zad,<-hn] at this
  exact this
 ·have:=hrep W
  exact this
 ·rw[ht,z13,zhy]
  exact z7h [49] (List.replicate (2*ps) 48)
 ·have:=z3u (n*n*r) t (len le3) (len le5) (len (by omega)) W hW
  rw[hN] at this;exact this
 ·have h':¬c.num<0:=by simpa using h
  unfold floT;rw[if_neg h',Str.zad]
 ·have h':c.num<0:=by simpa using h
  have hN0:(zD (s*s)).toArray.toList=zD (s*s):=by simp
  by_cases e:s*s=N/\s%c.den=0
  ·left
   refine⟨by rw[ByteArray.toList_eq,e.1];simp,by rw[e.2,zae (by omega)];rfl,λW hW=>?_⟩
   have:=z6j 0 ((s/c.den:Nat):Int) (by rw[show(0:Int)=((0:Nat):Int) from rfl];exact dlen _ (by omega)) (dlen _ (by rw[Int.natAbs_natCast];omega)) (dlen _ (hneg _ (by omega))) W hW
   rw[z48,Str.zad] at this
   unfold floT;rw[if_pos h',if_pos e,Nat.add_zero,<-Int.zero_sub]
   exact this
  ·right
   refine⟨?_,zD (s/c.den+1),λW hW=>?_,λW hW=>?_⟩
   ·by_cases e1:s*s=N
    ·right
     have e2:s%c.den≠0:=λk=>e ⟨e1,k⟩
     rw[beq_eq_false_iff_ne,<-z48,<-Str.zad]
     exact λk=>e2 (by have:=zdo k;omega)
    ·left
     rw[ByteArray.toList_eq,beq_eq_false_iff_ne,hN0,<-Str.zad,<-Str.zad]
     exact λk=>e1 (by have:=zdo k;omega)
   ·have:=zva ((s/c.den:Nat):Int) 1 (dlen _ (by rw[Int.natAbs_natCast];omega)) (dlen _ (by show(1:Nat)<=_;omega)) (dlen _ (hpos _ (by omega))) W hW
    rw[z49,show((s/c.den:Nat):Int)+1=((s/c.den+1:Nat):Int) by omega,Str.zad,Str.zad] at this
    exact this
   ·have:=z6j 0 ((s/c.den+1:Nat):Int) (by rw[show(0:Int)=((0:Nat):Int) from rfl];exact dlen _ (by omega)) (dlen _ (by rw[Int.natAbs_natCast];omega)) (dlen _ (hneg _ (by omega))) W hW
    rw[z48,Str.zad] at this
    unfold floT;rw[if_pos h',if_neg e,<-Int.zero_sub]
    exact this
def zap (n k:Nat) (z:Int):Int:=if 0<z then 1 else if z+n<0\/(z+n=0/\k=2) then-1 else 0
def sgnP (n:Nat) (Z:Nat->Int):Int:=if zap n 0 (Z 0)≠0 then zap n 0 (Z 0) else if zap n 1 (Z 1)≠0 then zap n 1 (Z 1) else zap n 2 (Z 2)
theorem zhp {n:Nat} {Z:Nat->Int}:∀{k:Nat},k<3->(∀j,j<k->zap n j (Z j)=0)->zap n k (Z k)≠0->sgnP n Z=zap n k (Z k)
 |0,_,_,h=>by unfold sgnP;rw[if_pos h]
 |1,_,h0,h=>by unfold sgnP;rw[if_neg (by simp[h0 0 (by omega)]),if_pos h]
 |2,_,h0,_=>by unfold sgnP;rw[if_neg (by simp[h0 0 (by omega)]),if_neg (by simp[h0 1 (by omega)])]
theorem znr {n:Nat} {Z:Nat->Int} (h:∀j,j<3->zap n j (Z j)=0):sgnP n Z=0:=by
 unfold sgnP;rw[if_neg (by simp[h 0 (by omega)]),if_neg (by simp[h 1 (by omega)]),h 2 (by omega)]
def errP (s:Int):Int:=if s=0 then 4 else 0
theorem zj5 (p:Option Addr) (cap n:Nat) (h0:0<n) (hn:n<=100) (X Y:Nat->List UInt8) (F Z:Nat->Nat->Int) (hZ0:Hid (∀k,Z k 0=0))
 (FL:Hid (∀k i,k<3->i<n->qK 138 #[.agg #[St (X i),St (Y i)],.int .i64 (plN k:Int)] (St (zE (F k i)))))
 (AD:Hid (∀k i,k<3->i<n->qK 95 #[St (zE (Z k i)),St (zE (F k i))] (.tuple #[St (zE (Z k (i+1))),.int .i64 0])))
 (A1:Hid (∀k j,k<3->j<n->qK 95 #[St (zE (Z k n+(j:Int))),.string ⟨#[49]⟩] (.tuple #[St (zE (Z k n+((j+1:Nat):Int))),.int .i64 0])))
 (CM:Hid (∀k j,k<3->j<=n->qK 33 #[St (zE (Z k n+(j:Int))),.string ⟨#[48]⟩] (.tuple #[.int .i64 (cmpZ (Z k n+(j:Int)) 0),.int .i64 0])))
 (w:zA) (HW:Hid (Wd w)) (HP:Hid (Spw w))
 (HT:Hid (∀i,i<n->∃b off,p=some ⟨b,off,none⟩/\b<w.heap.size/\w.cell? ⟨b,off+i*2,none⟩=some (St (X i))/\w.cell? ⟨b,off+i*2+1,none⟩=some (St (Y i)))):
 qJ 93 #[.slice p n cap] w (.tuple #[.int .i64 (sgnP n λk=>Z k n),.int .i64 (errP (sgnP n λk=>Z k n))]):=by
 obtain⟨tt,fz,hblk⟩:=HP.out.block
 have hz:((n:Int)==0)=false:=by rw[beq_eq_false_iff_ne];omega
 have D0:=hid (zM w.heap.size w)
 go_enter Tryz.func93,Tryz.ntmps93
 go_wp2_with (refine wpList_load_row rfl 203 (.global 0) rfl 0 rfl tt spV fz (.array 3 3) hblk (by kernel_rfl) rfl (by kernel_rfl) ?_)
 go_loopw [17] (λi wr=>∃(k:Nat),k<=3/\i=.int .i64 (k:Int)/\Hid (∀j,j<k->zap n j (Z j n)=0)/\Hid (qL w wr))
  (λi _=>3-(zL i).toNat)
 case atStart=>exact⟨0,by omega,rfl,hid (λj h=>by omega),D0⟩
 case round=>
  clear D0 hblk
  obtain⟨k,hk,rfl,HU,DK⟩:=hrel
  by_cases hlk:k<3
  ·have hx:=λw=>z8x k hlk w
   have HFL:=hid (λi=>FL.out k i hlk)
   have HAD:=hid (λi=>AD.out k i hlk)
   have HA1:=hid (λi=>A1.out k i hlk)
   have HCM:=hid (λj=>CM.out k j hlk)
   have hS:Value.string ⟨#[48]⟩=St (zE (Z k 0)):=by rw[hZ0.out,zb9]
   have hk3:((k:Int)+1==3)=decide (k=2):=by
    by_cases e:k=2
    ·subst e;rfl
    ·rw[decide_eq_false e,beq_eq_false_iff_ne];omega
   have hwk:IntKind.i64.wrap ((k:Int)+1)=(k:Int)+1:=zI _ (by omega)
   generalize plN k=pl at*
   have HK3:=hid hk3;clear hk3
   go_wp2_with fail
   rw[hS]
   try rw[show decide ((k:Int)<3)=true from decide_eq_true (by omega)]
   clear hS hx
   go_loopw [6,23] (λv i wr=>∃(i0:Nat),i0<=n/\i=.int .i64 (i0:Int)/\v=St (zE (Z k i0))/\Hid (qL w wr))
    (λ_ i _=>n-(zL i).toNat)
   case atStart=>exact⟨0,zR _,rfl,rfl,DK⟩
   case round=>
    clear DK
    obtain⟨i0,hi0,rfl,rfl,D1⟩:=hrel
    by_cases hlt:i0<n
    ·obtain⟨b,off,rfl,hb,c0,c1⟩:=HT.out i0 hlt
     have t0:wr.cell? ⟨b,off+i0*2,none⟩=some (St (X i0)):=by rw[D1.out.cell (p:=⟨b,off+i0*2,none⟩) hb];exact c0
     have t1:wr.cell? ⟨b,off+i0*2+1,none⟩=some (St (Y i0)):=by rw[D1.out.cell (p:=⟨b,off+i0*2+1,none⟩) hb];exact c1
     have M1:=hid (HFL.out i0 hlt)
     have M2:=hid (HAD.out i0 hlt)
     generalize X i0=x at*
     generalize Y i0=y at*
     generalize zE (F k i0)=z at*
     generalize zE (Z k i0)=sk at*
     obtain⟨v1,hv⟩:∃v1,v1=wr.alloc (.cells #[St x,St y] 58):=⟨_,rfl⟩
     have a1:qL wr v1:=by rw[hv];exact(zM _ wr).alloc (zN _) _
     have A1:v1.heap[wr.heap.size]? =some (.cells #[St x,St y] 58 (0,0)):=by rw[hv];exact zG wr _
     have k0:v1.cell? ⟨wr.heap.size,0,none⟩=some (St x):=by rw[zJ A1];rfl
     have k1:v1.cell? ⟨wr.heap.size,1,none⟩=some (St y):=by rw[zJ A1];rfl
     rw[hv] at k0 k1
     have HV1:=hid hv.symm
     have E1:=hid (D1.out.trans (a1.mono D1.out.size))
     clear hv a1 A1 c0 c1 hb
     go_wp2_with fail
     rw[HV1.out]
     clear t0 t1 k0 k1 HV1
     refine(M1.out v1 (HW.out.below E1.out)).mono ?_
     rintro e y1 ⟨rfl,hb1⟩
     have E2:=hid (E1.out.trans (hb1.mono E1.out.size))
     clear hb1 E1 M1
     go_wp2_with fail
     refine(M2.out y1 (HW.out.below E2.out)).mono ?_
     rintro e y2 ⟨rfl,hb1⟩
     have E3:=hid (E2.out.trans (hb1.mono E2.out.size))
     clear hb1 E2 M2
     go_wp2_with fail
     go_roundw
     case rel=>exact⟨i0+1,by omega,by go_num,rfl,E3⟩
     case measure=>simp[zL];omega
    ·have hkn:i0=n:=by omega
     subst hkn
     have hC0:=HCM.out 0 (zR _)
     rw[show Z k i0+((0:Nat):Int)=Z k i0 by omega] at hC0
     have HC0:=hid hC0;clear hC0
     obtain⟨T,hT⟩:∃T:Nat->List UInt8,T= λ(j:Nat)=>zE (Z k i0+(j:Int)):=⟨_,rfl⟩
     have hTn:St (zE (Z k i0))=St (T 0):=by rw[hT];show St (zE (Z k i0))=St (zE (Z k i0+((0:Nat):Int)));rw[show Z k i0+((0:Nat):Int)=Z k i0 by omega]
     have HTN:=hid hTn;clear hTn
     have HB1:Hid (∀j,j<i0->qK 95 #[St (T j),.string ⟨#[49]⟩] (.tuple #[St (T (j+1)),.int .i64 0])):=hid (by rw[hT];exact HA1.out)
     have HB2:Hid (qK 33 #[St (T i0),.string ⟨#[48]⟩] (.tuple #[.int .i64 (cmpZ (Z k i0+(i0:Int)) 0),.int .i64 0])):=hid (by rw[hT];exact HCM.out i0 (zN _))
     clear HFL HAD HA1 HCM hT
     by_cases hp:0<Z k i0
     ·have hd:decide (0<cmpZ (Z k i0) 0)=true:=by unfold cmpZ;rw[if_neg (by omega),if_pos (by omega)];rfl
      have hc1:cmpZ (Z k i0) 0=1:=by unfold cmpZ;rw[if_neg (by omega),if_pos (by omega)]
      have hs1:zap i0 k (Z k i0)=1:=by unfold zap;rw[if_pos hp]
      have hres:(sgnP i0 λk=>Z k i0)=1:=by rw[zhp hlk HU.out (by show zap i0 k (Z k i0)≠0;rw[hs1];decide)];exact hs1
      have HRES:=hid hres
      rw[hc1] at HC0
      generalize zE (Z k i0)=zs at*
      clear hp hd hc1 hs1 hres
      go_wp2_with fail
      refine(HC0.out wr (HW.out.below D1.out)).mono ?_
      rintro e y1 ⟨rfl,hb1⟩
      have E1:=hid (D1.out.trans (hb1.mono D1.out.size))
      clear hb1 HC0
      go_wp2_with fail
      go_ret2
      exact⟨by rw[HRES.out];rfl,E1.out⟩
     ·have hd:decide (0<cmpZ (Z k i0) 0)=false:=by
       unfold cmpZ
       by_cases h2:Z k i0<0
       ·rw[if_pos h2];rfl
       ·rw[if_neg h2,if_neg (by omega)];rfl
      have HNP:=hid hp
      clear hp
      obtain⟨c,hc⟩:∃c,c=cmpZ (Z k i0) 0:=⟨_,rfl⟩
      rw[<-hc] at hd HC0
      clear hc
      go_wp2_with fail
      refine(HC0.out wr (HW.out.below D1.out)).mono ?_
      rintro e y1 ⟨rfl,hb1⟩
      have E1:=hid (D1.out.trans (hb1.mono D1.out.size))
      clear hb1 HC0
      go_wp2_with fail
      rw[HTN.out]
      clear hd
      go_loopw [6,45] (λv i wr=>∃(j:Nat),j<=i0/\i=.int .i64 (j:Int)/\v=St (T j)/\Hid (qL w wr))
       (λ_ i _=>i0-(zL i).toNat)
      case atStart=>exact⟨0,zR _,rfl,rfl,E1⟩
      case round=>
       clear E1
       obtain⟨j,hj,rfl,rfl,D2⟩:=hrel
       by_cases hlt:j<i0
       ·have M2:=hid (HB1.out j hlt)
        go_wp2_with fail
        refine(M2.out _ (HW.out.below D2.out)).mono ?_
        rintro e y2 ⟨rfl,hb1⟩
        have E3:=hid (D2.out.trans (hb1.mono D2.out.size))
        clear hb1 M2
        go_wp2_with fail
        go_roundw
        case rel=>exact⟨j+1,by omega,by go_num,rfl,E3⟩
        case measure=>simp[zL];omega
       ·have hji:j=i0:=by omega
        subst hji
        have HC1:=HB2
        clear HB2 HB1 HTN
        obtain⟨z,hz⟩:∃z,z=Z k j+(j:Int):=⟨_,rfl⟩
        rw[<-hz] at HC1
        have HZ:=hid hz;clear hz
        by_cases hneg:z<0
        ·have hd:decide (cmpZ z 0<0)=true:=by unfold cmpZ;rw[if_pos hneg];rfl
         have hs1:zap j k (Z k j)= -1:=by unfold zap;rw[if_neg (by have:=HNP.out;omega),if_pos (.inl (by rw[<-HZ.out];exact hneg))]
         have hres:(sgnP j λk=>Z k j)= -1:=by rw[zhp hlk HU.out (by show zap j k (Z k j)≠0;rw[hs1];decide)];exact hs1
         have HRES:=hid hres
         generalize cmpZ z 0=c at*
         clear hs1 hres hneg
         go_wp2_with fail
         refine(HC1.out _ (HW.out.below D2.out)).mono ?_
         rintro e y2 ⟨rfl,hb1⟩
         have E3:=hid (D2.out.trans (hb1.mono D2.out.size))
         clear hb1 HC1
         go_wp2_with fail
         go_ret2
         exact⟨by rw[HRES.out];rfl,E3.out⟩
        ·have hd:decide (cmpZ z 0<0)=false:=by
          unfold cmpZ;rw[if_neg hneg];split<;>rfl
         by_cases hl:z=0/\k=2
         ·have hd2:(cmpZ z 0==0)=true:=by rw[hl.1];rfl
          have hd3:((k:Int)+1==3)=true:=by rw[HK3.out,decide_eq_true hl.2]
          have hs1:zap j k (Z k j)= -1:=by unfold zap;rw[if_neg (by have:=HNP.out;omega),if_pos (.inr ⟨by rw[<-HZ.out];exact hl.1,hl.2⟩)]
          have hres:(sgnP j λk=>Z k j)= -1:=by rw[zhp hlk HU.out (by show zap j k (Z k j)≠0;rw[hs1];decide)];exact hs1
          have HRES:=hid hres
          generalize cmpZ z 0=c at*
          clear hs1 hres hneg hl
          go_wp2_with fail
          refine(HC1.out _ (HW.out.below D2.out)).mono ?_
          rintro e y2 ⟨rfl,hb1⟩
          have E3:=hid (D2.out.trans (hb1.mono D2.out.size))
          clear hb1 HC1
          go_wp2_with fail
          go_ret2
          exact⟨by rw[HRES.out];rfl,E3.out⟩
         ·have hs1:zap j k (Z k j)=0:=by unfold zap;rw[if_neg (by have:=HNP.out;omega),if_neg (by rw[<-HZ.out];omega)]
          have HS1:=hid hs1
          have hnx:Hid (∀i,i<k+1->zap j i (Z i j)=0):=hid λi hi=>by
           by_cases e:i=k
           ·rw[e];exact HS1.out
           ·exact HU.out i (by omega)
          have hcs:(cmpZ z 0==0)=false\/((cmpZ z 0==0)=true/\((k:Int)+1==3)=false):=by
           by_cases e:z=0
           ·right
            exact⟨by rw[e];rfl,by rw[HK3.out,decide_eq_false (λh=>hl ⟨e,h⟩)]⟩
           ·left
            unfold cmpZ;rw[if_neg hneg,if_pos (by omega)];rfl
          generalize cmpZ z 0=c at*
          clear hs1 hneg hl
          rcases hcs with hc|⟨hc,hc3⟩
          ·go_wp2_with fail
           refine(HC1.out _ (HW.out.below D2.out)).mono ?_
           rintro e y2 ⟨rfl,hb1⟩
           have E3:=hid (D2.out.trans (hb1.mono D2.out.size))
           clear hb1 HC1
           go_wp2_with fail
           go_roundw
           case rel=>exact⟨k+1,by omega,by go_num,hnx,E3⟩
           case measure=>simp[zL];omega
          ·go_wp2_with fail
           refine(HC1.out _ (HW.out.below D2.out)).mono ?_
           rintro e y2 ⟨rfl,hb1⟩
           have E3:=hid (D2.out.trans (hb1.mono D2.out.size))
           clear hb1 HC1
           go_wp2_with fail
           go_roundw
           case rel=>exact⟨k+1,by omega,by go_num,hnx,E3⟩
           case measure=>simp[zL];omega
  ·have hk3:k=3:=by omega
   subst hk3
   have HRES:=hid (znr (Z:=λk=>Z k n) HU.out)
   go_wp2_with fail
   go_ret2
   exact⟨by rw[HRES.out];rfl,DK.out⟩
theorem zyl:NrmR 1/\NrmR 2:=⟨⟨by decide,by rw[zae (by omega)];simp,zln.1⟩,⟨by decide,by rw[zae (by omega)];simp,zln.2.1⟩⟩
theorem z5d (p1 p2:Option Addr) (n1 n2 c1 c2 N K:Nat) (R R2 R3:Option Addr->Nat->zA->Prop) (w:zA)
 (B:Hid (qJ 90 #[.slice p1 n1 c1,.slice p2 n2 c2] w (.bool true)))
 (S:Hid (∀W:zA,qL w W->zC zF 91 #[.slice p2 n2 c2,.string ⟨#[45,49]⟩] W λe w'=>∃q d,e=.returned (.tuple #[.slice q n2 d,.int .i64 0])/\zB W.heap.size W w'/\R q d w'))
 (CN:Hid (∀(W:zA) (q:Option Addr) (d b:Nat),qL w W->w.heap.size<=b->(∃W0,qL w W0/\R q d W0/\zB W0.heap.size W0 W)->W.cell? ⟨b,0,none⟩=some (.slice p1 n1 c1)->W.cell? ⟨b,1,none⟩=some (.slice q n2 d)->zC zF 92 #[.slice (some ⟨b,0,none⟩) 2 2] W λe w'=>∃q' d',e=.returned (.slice q' N d')/\zB W.heap.size W w'/\R2 q' d' w'))
 (M:Hid (∀(W:zA) (q:Option Addr) (d:Nat),qL w W->R2 q d W->zC zF 80 #[.slice q N d] W λe w'=>∃q' d',e=.returned (.tuple #[.slice q' K d',.int .i64 0])/\zB W.heap.size W w'/\R3 q' d' w')):
 zC zF 43 #[.slice p1 n1 c1,.slice p2 n2 c2] w λe w'=>∃q d,e=.returned (.tuple #[.slice q K d,.int .i64 0])/\zB w.heap.size w w'/\R3 q d w':=by
 go_enter Tryz.func43,Tryz.ntmps43
 go_wp2_with fail
 refine B.out.mono ?_
 rintro e w1 ⟨rfl,hb1⟩
 have B1:=hid hb1
 have HS:=hid (S.out w1 hb1)
 clear hb1 B S
 go_wp2_with fail
 refine HS.out.mono ?_
 rintro e w2 ⟨q,d,rfl,hb2,hr⟩
 have hb:=B1.out.trans (hb2.mono B1.out.size)
 obtain⟨v1,hv⟩:∃v1,v1=w2.alloc (.cells #[.slice p1 n1 c1,.slice q n2 d] 37):=⟨_,rfl⟩
 have a1:qL w2 v1:=by rw[hv];exact(zM _ w2).alloc (zN _) _
 have A1:v1.heap[w2.heap.size]? =some (.cells #[.slice p1 n1 c1,.slice q n2 d] 37 (0,0)):=by rw[hv];exact zG w2 _
 have HC:=hid (CN.out v1 q d w2.heap.size (hb.trans (a1.mono hb.size)) hb.size ⟨w2,hb,hr,a1⟩ (by rw[zJ A1];rfl) (by rw[zJ A1];rfl))
 have HV1:=hid hv.symm
 have B2:=hid (hb.trans (a1.mono hb.size))
 clear hv a1 A1 CN hb hb2 hr HS B1
 go_wp2_with fail
 rw[HV1.out]
 clear HV1
 refine HC.out.mono ?_
 rintro e w3 ⟨q2,d2,rfl,hb3,hr3⟩
 have hb:=B2.out.trans (hb3.mono B2.out.size)
 have B3:=hid hb
 have HM:=hid (M.out w3 q2 d2 hb hr3)
 clear hb hb3 hr3 M HC B2
 go_wp2_with fail
 refine HM.out.mono ?_
 rintro e w4 ⟨q4,d4,rfl,hb4,hr4⟩
 have FE:=hid (⟨B3.out.trans (hb4.mono B3.out.size),hr4⟩:qL w w4/\R3 q4 d4 w4)
 clear hb4 hr4 HM B3
 go_wp2_with fail
 go_ret2
 exact⟨q4,d4,rfl,FE.out.1,FE.out.2⟩
theorem z5e (a ar b br:List UInt8) (n:Int) (CM:Hid (qK 9 #[St ar,St br] (.tuple #[.int .i64 n,.int .i64 0]))) (w:zA) (HW:Hid (Wd w)):
 qJ 130 #[.agg #[St a,St ar],.agg #[St b,St br]] w (.int .i64 n):=by
 obtain⟨v1,hv⟩:∃v1,v1=w.alloc (.cells #[St a,St ar] 58):=⟨_,rfl⟩
 have a1:qL w v1:=by rw[hv];exact(zM _ w).alloc (zN _) _
 have A1:v1.heap[w.heap.size]? =some (.cells #[St a,St ar] 58 (0,0)):=by rw[hv];exact zG w _
 have s1:v1.heap.size=w.heap.size+1:=by rw[hv];simp
 obtain⟨v2,hv2⟩:∃v2,v2=v1.alloc (.cells #[St b,St br] 58):=⟨_,rfl⟩
 have a2:qL v1 v2:=by rw[hv2];exact(zM _ v1).alloc (zN _) _
 have A2:v2.heap[w.heap.size+1]? =some (.cells #[St b,St br] 58 (0,0)):=by rw[hv2,<-s1];exact zG v1 _
 have A3:=zac a2 _ _ _ _ A1
 have k0:v2.cell? ⟨w.heap.size,1,none⟩=some (St ar):=by rw[zJ A3];rfl
 have k1:v2.cell? ⟨w.heap.size+1,1,none⟩=some (St br):=by rw[zJ A2];rfl
 have E1:=hid (a1.trans (a2.mono a1.size))
 rw[hv] at hv2
 rw[hv2] at k0 k1
 have HV:=hid hv2.symm
 clear hv hv2 a1 a2 A1 A2 A3 s1
 go_enter Tryz.func130,Tryz.ntmps130
 go_wp2_with fail
 rw[HV.out]
 clear k0 k1 HV
 refine(CM.out v2 (HW.out.below E1.out)).mono ?_
 rintro e y1 ⟨rfl,hb1⟩
 have E2:=hid (E1.out.trans (hb1.mono E1.out.size));clear hb1
 go_wp2_with fail
 go_ret
 exact⟨rfl,E2.out⟩
theorem zly {W:zA} {B n c:Nat} {q:Option Addr} {l:List (List UInt8×List UInt8)} (h:W.ownsRow B 58 2 (.slice q n c) n (zbj l)) (h0:0<n):
 n<=c/\∃g,q=some ⟨g,0,none⟩/\B<=g/\g<W.heap.size/\(∀j u,(zbj l)[j]? =some u->W.cell? ⟨g,j,none⟩=some u)/\∀(i:Nat) (c:List UInt8×List UInt8),l[i]? =some c->W.cell? ⟨g,i*2,none⟩=some (St c.1)/\W.cell? ⟨g,i*2+1,none⟩=some (St c.2):=by
 obtain⟨g,c',e,hg,hx⟩:=zye h h0
 have hl:=(h.lt g (by rw[e];rfl)).2
 have hnc:n<=c:=by
  rcases h.2 with⟨e1,_⟩|⟨g',cp,cur,e1,_,_,h1,_⟩
  ·cases e1;omega
  ·cases e1;exact h1
 injection e with e1 _ _
 exact⟨hnc,g,e1,hg,hl,λj u hu=>hx j u hu,λi d hi=>⟨hx _ _ (zpb l i d hi).1,hx _ _ (zpb l i d hi).2⟩⟩
theorem z61 (a b c:Rat) (i j:Nat) (hi:0<i) (hj:0<j) (hij:i+j<=300) (ha:sz a i) (hb:sz b j) (h:a*b=c) (W:zA) (hW:Wd W):qJ 7 #[St (numS a),St (numS b)] W (.tuple #[St (numS c),.int .i64 0]):=by
 rw[<-h];exact zjf a b i j hi hj hij ha hb W hW
theorem zsf {a:Rat} (h:a≠0):(numS a==[48])=false:=by rw[beq_eq_false_iff_ne];exact λe=>h ((zpy a).1 e)
def strT (t:Rat×Nat):List UInt8×List UInt8:=(numS t.1,zD t.2)
def gAdd:List (Rat×Nat)->Rat×Nat->List (Rat×Nat)
 |[],t=>[t]
 |c::l,t=>if c.2=t.2 then(c.1+t.1,c.2)::l else c::gAdd l t
theorem zg1 (t:Rat×Nat):∀l:List (Rat×Nat),((∀c∈l,c.2≠t.2)/\gAdd l t=l++[t])\/
 ∃j c,l[j]? =some c/\c.2=t.2/\(∀i d,i<j->l[i]? =some d->d.2≠t.2)/\gAdd l t=l.set j (c.1+t.1,c.2)
 |[]=>.inl ⟨λc h=>(by cases h),rfl⟩
 |c::l=>by
  by_cases e:c.2=t.2
  ·right
   exact⟨0,c,rfl,e,λi d h=>by omega,by simp[gAdd,e]⟩
  ·rcases zg1 t l with⟨h1,h2⟩|⟨j,d,h1,h2,h3,h4⟩
   ·left
    refine⟨λd hd=>?_,by simp[gAdd,e,h2]⟩
    rcases List.mem_cons.1 hd with rfl|hd
    ·exact e
    ·exact h1 d hd
   ·right
    refine⟨j+1,d,by simpa using h1,h2,λi x hi hx=>?_,by simp[gAdd,e,h4]⟩
    cases i with
    |zero=>simp at hx;subst hx;exact e
    |succ i=>exact h3 i x (by omega) (by simpa using hx)
def gRun (T:List (Rat×Nat)) (i:Nat):List (Rat×Nat):=(T.take i).foldl gAdd []
theorem zee {T:List (Rat×Nat)} {i:Nat} {t:Rat×Nat} (h:T[i]? =some t):gRun T (i+1)=gAdd (gRun T i) t:=by
 unfold gRun
 rw[List.take_add_one,h,List.foldl_append]
 rfl
theorem zo9 {l:List (Rat×Nat)} {t c:Rat×Nat} (h:c∈gAdd l t):(∃d∈l,d.2=c.2)\/t.2=c.2:=by
 induction l with
 |nil=>simp[gAdd] at h;subst h;exact .inr rfl
 |cons d l ih=>
  unfold gAdd at h
  split at h
  ·rcases List.mem_cons.1 h with rfl|h
   ·exact .inl ⟨d,List.mem_cons_self ..,rfl⟩
   ·exact .inl ⟨c,List.mem_cons_of_mem _ h,rfl⟩
  ·rcases List.mem_cons.1 h with rfl|h
   ·exact .inl ⟨c,List.mem_cons_self ..,rfl⟩
   ·rcases ih h with⟨x,hx,e⟩|e
    ·exact .inl ⟨x,List.mem_cons_of_mem _ hx,e⟩
    ·exact .inr e
theorem zd1 {T:List (Rat×Nat)}:∀(i:Nat) {c:Rat×Nat},c∈gRun T i->∃t∈T,t.2=c.2
 |0,c,h=>by simp[gRun] at h
 |i+1,c,h=>by
  cases hi:T[i]? with
  |none=>
   have:gRun T (i+1)=gRun T i:=by unfold gRun;rw[List.take_add_one,hi];simp
   rw[this] at h;exact zd1 i h
  |some t=>
   rw[zee hi] at h
   rcases zo9 h with⟨d,hd,e⟩|e
   ·obtain⟨u,hu,e2⟩:=zd1 i hd
    exact⟨u,hu,e2.trans e⟩
   ·exact⟨t,List.mem_of_getElem? hi,e⟩
theorem zj7 (t:Rat×Nat):∀l:List (Rat×Nat),(gAdd l t).length<=l.length+1
 |[]=>by simp[gAdd]
 |c::l=>by
  unfold gAdd
  split
  ·simp
  ·have:=zj7 t l;simp;omega
theorem zgn (T:List (Rat×Nat)):∀i,(gRun T i).length<=i
 |0=>by simp[gRun]
 |i+1=>by
  have:=zgn T i
  cases hi:T[i]? with
  |none=>
   have:gRun T (i+1)=gRun T i:=by unfold gRun;rw[List.take_add_one,hi];simp
   rw[this];omega
  |some t=>rw[zee hi];have:=zj7 t (gRun T i);omega
theorem zfq (T:List (Rat×Nat)):gRun T T.length=T.foldl gAdd []:=by unfold gRun;rw[List.take_length]
theorem zhg (r:Nat) (h:NrmR r) (W:zA) (hW:Wd W):qJ 87 #[St (zD r),St (zD r)] W (.tuple #[St (numS 1),.bool true,.int .i64 0]):=by
 have hp:(0:Rat)<(r:Rat):=by have:=h.pos;exact_mod_cast this
 have sr:sz (r:Rat) 90:=(zrg (by omega) h.len).mono (by omega)
 have e:(r:Rat)/(r:Rat)=1:=by rw[Rat.div_def];exact Rat.mul_inv_cancel _ (by grind)
 have:=zvz (r:Rat) (r:Rat) (Rat.le_of_lt hp) hp sr sr 1 1 (by rw[e];decide+kernel) (by rw[e];decide+kernel) W hW
 rw[e,show(decide (1*1=(1:Rat).num.natAbs)&&decide (1*1=(1:Rat).den))=true by decide+kernel,if_pos rfl,show((1:Nat):Rat)/((1:Nat):Rat)=1 by decide+kernel,zhe] at this
 exact this
theorem zf4 (r s:Nat) (h:NrmR r) (hs:NrmR s) (ha:z5c (r:Rat) (s:Rat)=false) (W:zA) (hW:Wd W):qJ 87 #[St (zD r),St (zD s)] W (.tuple #[.string ⟨#[]⟩,.bool false,.int .i64 0]):=by
 have hp:(0:Rat)<(r:Rat):=by have:=h.pos;exact_mod_cast this
 have hq:(0:Rat)<(s:Rat):=by have:=hs.pos;exact_mod_cast this
 have sr:sz (r:Rat) 90:=(zrg (by omega) h.len).mono (by omega)
 have ss:sz (s:Rat) 90:=(zrg (by omega) hs.len).mono (by omega)
 have:=zvz (r:Rat) (s:Rat) (Rat.le_of_lt hp) hq sr ss _ _ (zv0 _) (zv0 _) W hW
 unfold z5c at ha
 rw[ha,zhe,zhe] at this
 exact this
theorem zrh (r:Nat) (h:NrmR r) (W:zA) (hW:Wd W):qJ 9 #[St (zD r),St (zD r)] W (.tuple #[.int .i64 0,.int .i64 0]):=by
 have sr:sz (r:Rat) 16:=zrg (by omega) h.len
 have:=zgq (r:Rat) (r:Rat) 16 16 (by omega) (by omega) (by omega) sr sr W hW
 rw[show Geo.cmpR (r:Rat) (r:Rat)=0 by simp[Geo.cmpR],zhe] at this
 exact this
theorem zri (gb:Nat) (l:List (Rat×Nat)) (t:Rat×Nat) (hl:l.length<=5000) (ht:NrmR t.2) (hc:∀c∈l,NrmR c.2) (hs:∀c∈l,sz c.1 140) (hst:sz t.1 140) (ha:∀c∈l,c.2≠t.2->z5c (t.2:Rat) (c.2:Rat)=false) (W:zA) (hW:Wd W) (h:GatL gb (l.map strT) W):
 zC zF 127 #[.pointer (some ⟨gb,0,none⟩),.agg #[St (numS t.1),St (zD t.2)]] W λe w'=>e=.returned (.int .i64 0)/\zB gb W w'/\GatL gb ((gAdd l t).map strT) w':=by
 rcases zg1 t l with⟨h1,h2⟩|⟨j,c,h1,h2,h3,h4⟩
 ·have:=zot gb (l.map strT) (numS t.1) (zD t.2) (by simpa using hl) (hid λi d hd=>by
   rw[List.getElem?_map,Option.map_eq_some_iff] at hd
   obtain⟨c,hi,rfl⟩:=hd
   have hm:=List.mem_of_getElem? hi
   exact⟨_,λV hV=>zf4 t.2 c.2 ht (hc c hm) (ha c hm (h1 c hm)) V hV⟩) W (hid hW) (hid h)
  rw[h2,List.map_append]
  exact this
 ·have hm:=List.mem_of_getElem? h1
  have hrt:zD c.2=zD t.2:=by rw[h2]
  have:=zyk gb (l.map strT) (numS t.1) (zD t.2) (numS c.1) (zD c.2) (numS (c.1+t.1)) (zD c.2) ⟨(numS 1).toArray⟩ j 0 (by simpa using hl) (by rw[List.getElem?_map,h1];rfl) (by decide)
   (hid λi d hi hd=>by
     rw[List.getElem?_map,Option.map_eq_some_iff] at hd
     obtain⟨x,hx,rfl⟩:=hd
     have hmx:=List.mem_of_getElem? hx
     exact⟨_,λV hV=>zf4 t.2 x.2 ht (hc x hmx) (ha x hmx (h3 i x hi hx)) V hV⟩)
   (hid λV hV=>by rw[hrt];exact zhg t.2 ht V hV)
   (hid λV hV=>by rw[hrt];exact zrh t.2 ht V hV)
   (hid λV hV=>zvt (numS c.1) (zD c.2) (numS t.1) (zD t.2) (numS 1) (numS t.1) (numS (c.1+t.1)) true (hid λU hU=>by rw[hrt];exact zhg t.2 ht U hU) (hid λU hU=>z61 t.1 1 t.1 140 1 (by omega) (by omega) (by omega) hst zb7.2.1 (by rw[Rat.mul_one]) U hU) (hid λU hU=>zje c.1 t.1 140 140 (by omega) (by omega) (by omega) (hs c hm) hst U hU) V (hid hV)) W (hid hW) (hid h)
  rw[h4]
  have e:(l.set j (c.1+t.1,c.2)).map strT=(l.map strT).set j (numS (c.1+t.1),zD c.2):=by rw[List.map_set];rfl
  rw[e]
  exact this
structure MkT (T:List (Rat×Nat)):Prop where
 len:T.length<=256
 ne:∀t∈T,t.1≠0
 tsz:∀t∈T,sz t.1 140
 nr:∀t∈T,NrmR t.2
 apt:∀t∈T,∀u∈T,t.2≠u.2->z5c (t.2:Rat) (u.2:Rat)=false
 mid:∀i,i<=T.length->∀c∈gRun T i,sz c.1 140
def mkR (T:List (Rat×Nat)):List (Rat×Nat):=(T.foldl gAdd []).filter λc=>!decide (c.1=0)
theorem zi3:∀l:List (Rat×Nat),zin (l.map strT)=(l.filter λc=>!decide (c.1=0)).map strT
 |[]=>rfl
 |c::l=>by
  have ih:=zi3 l
  unfold zin at ih⊢
  rw[List.map_cons,List.filter_cons,List.filter_cons,ih]
  by_cases e:c.1=0
  ·have h1:((strT c).1==[48])=true:=by unfold strT;rw[e];simp[zie]
   simp[h1,e]
  ·have h1:((strT c).1==[48])=false:=zsf e
   simp[h1,e]
theorem zpc (T:List (Rat×Nat)) (hT:MkT T) (hF:∀c∈mkR T,sz c.1 60) (hl:(mkR T).length<=16) (M:List (Rat×Nat)) (q:Option Addr) (cap:Nat) (w:zA) (HW:Hid (∀W,qL w W->Wd W)) (HP:Hid (∀W,qL w W->Pw W))
 (HT:Hid (∀i t,T[i]? =some t->∃b off,q=some ⟨b,off,none⟩/\b<w.heap.size/\w.cell? ⟨b,off+i*2,none⟩=some (St (numS t.1))/\w.cell? ⟨b,off+i*2+1,none⟩=some (St (zD t.2))))
 (SRT:Hid (∀(B:Nat) (W:zA) (p:Option Addr) (c:Nat),Wd W->B<=W.heap.size->W.ownsRow B 58 2 (.slice p (mkR T).length c) (mkR T).length (zbj ((mkR T).map strT))->zC zF 129 #[.slice p (mkR T).length c,.func (.func 130) #[] #[]] W λe w'=>(∃u,e=.returned u)/\zB B W w'/\w'.ownsRow B 58 2 (.slice p (mkR T).length c) (mkR T).length (zbj (M.map strT)))):
 zC zF 80 #[.slice q T.length cap] w λe w'=>∃q' c',e=.returned (.tuple #[.slice q' (mkR T).length c',.int .i64 0])/\zB w.heap.size w w'/\w'.ownsRow w.heap.size 58 2 (.slice q' (mkR T).length c') (mkR T).length (zbj (M.map strT)):=by
 have at_:∀i,i<T.length->∃t,T[i]? =some t:=λi hi=>⟨_,List.getElem?_eq_getElem hi⟩
 let X:Nat->List UInt8:=λi=>numS ((T[i]?.getD (1,1)).1)
 let Y:Nat->List UInt8:=λi=>zD ((T[i]?.getD (1,1)).2)
 have hX:∀i t,T[i]? =some t->X i=numS t.1/\Y i=zD t.2:=λi t h=>⟨by show numS ((T[i]?.getD (1,1)).1)=_;rw[h];rfl,by show zD ((T[i]?.getD (1,1)).2)=_;rw[h];rfl⟩
 have hk:zin ((gRun T T.length).map strT)=(mkR T).map strT:=by rw[zi3,zfq];rfl
 have hgl:(gRun T T.length).length<=T.length:=zgn T _
 have hrt:∀t∈T,okQ (t.2:Rat):=λt ht=>zd0 (by omega) (by omega) (zrg (k:=16) (by omega) (hT.nr t ht).len)
 have hcr:∀(i:Nat) (c:Rat×Nat),c∈gRun T i->NrmR c.2:=λi c hc=>by
  obtain⟨t,ht,e⟩:=zd1 i hc
  rw[<-e];exact hT.nr t ht
 have hm:=z43 q cap T.length X Y ((gRun T T.length).map strT) (M.map strT) hT.len (by rw[zV];have:=hT.len;omega) (by rw[hk,zV];exact hl)
  (hid λi hi W hW=>by
    obtain⟨t,ht⟩:=at_ i hi
    rw[(hX i t ht).1]
    exact zfj t.1 (zd0 (by omega) (by omega) (hT.tsz t (List.mem_of_getElem? ht))) W hW)
  (hid λi hi W hW=>by
    obtain⟨t,ht⟩:=at_ i hi
    rw[(hX i t ht).2]
    have:=zfj (t.2:Rat) (hrt t (List.mem_of_getElem? ht)) W hW
    rw[zhe] at this;exact this)
  (hid λi hi W=>by
    obtain⟨t,ht⟩:=at_ i hi
    rw[(hX i t ht).2]
    exact zgy t.2 W)
  w HW
  (hid λi hi=>by
    obtain⟨t,ht⟩:=at_ i hi
    rw[(hX i t ht).1,(hX i t ht).2]
    exact HT.out i t ht)
  (hid λu vg h1 h2 h3 h4=>by
    have hs:=h1.size
    exact z4e u.heap.size q cap T.length X Y (λi=>GatL u.heap.size ((gRun T i).map strT)) (by have:=hT.len;omega)
     (hid λi hi=>by
       obtain⟨t,ht⟩:=at_ i hi
       have hmt:=List.mem_of_getElem? ht
       have hn:=hT.nr t hmt
       have sr:sz (t.2:Rat) 16:=zrg (by omega) hn.len
       have d1:zD 1=[49]:=by rw[zae (by omega)];rfl
       have hlg:∃ln:Int,ln<=90/\qK 128 #[St (zD t.2)] (.int .i64 ln):=by
        have d:=zok (k:=16) (by omega) sr
        refine⟨max (digs (t.2:Rat).num:Int) (digs ((t.2:Rat).den:Int):Nat),?_,λW hW=>?_⟩
        ·have d2:digs ((t.2:Rat).den:Int)<=16:=by rw[zd9];exact d.2
         have:=d.1;omega
        ·have:=znp (t.2:Rat) (hrt t hmt) W hW
         rw[zhe] at this;exact this
       obtain⟨ln,hln,hlw⟩:=hlg
       have hadd:∀W:zA,Wd W->GatL u.heap.size ((gRun T i).map strT) W->zC zF 127 #[.pointer (some ⟨u.heap.size,0,none⟩),.agg #[St (numS t.1),St (zD t.2)]] W λe w'=>e=.returned (.int .i64 0)/\zB u.heap.size W w'/\GatL u.heap.size ((gRun T (i+1)).map strT) w':=λW hW hg=>by
        rw[zee ht]
        refine zri u.heap.size (gRun T i) t (by have:=zgn T i;have:=hT.len;omega) hn (λc hc=>hcr i c hc) (λc hc=>hT.mid i (by omega) c hc) (hT.tsz t hmt) (λc hc hne=>?_) W hW hg
        obtain⟨v,hv,e⟩:=zd1 i hc
        rw[<-e]
        exact hT.apt t hmt v hv (by rw[e];exact λk=>hne k.symm)
       rw[(hX i t ht).1,(hX i t ht).2]
       have hcz:=zsf (hT.ne t hmt)
       have hrz:(zD t.2==[48])=false:=by
        rw[beq_eq_false_iff_ne];intro e
        have:zD t.2=zD 0:=by rw[e,zae (by omega)];rfl
        have h0:=hn.pos
        rw[<-Str.zad,<-Str.zad] at this
        have:=zdo this
        omega
       by_cases e1:t.2=1
       ·refine⟨true,[49],zD t.2,numS t.1,ln,hcz,hrz,by rw[e1,d1];rfl,λ_=>⟨rfl,rfl⟩,λh=>(by cases h),hlw,decide_eq_false (by omega),λW hW=>?_,λW W' h hb=>GatL.keep h (zac hb),hadd⟩
        have:=z61 t.1 1 t.1 140 1 (by omega) (by omega) (by omega) (hT.tsz t hmt) zb7.2.1 (by rw[Rat.mul_one]) W hW
        rw[zfc] at this;exact this
       ·refine⟨false,zD 1,zD t.2,numS t.1,ln,hcz,hrz,?_,λh=>(by cases h),λ_ W hW hP=>?_,hlw,decide_eq_false (by omega),λW hW=>?_,λW W' h hb=>GatL.keep h (zac hb),hadd⟩
        ·rw[beq_eq_false_iff_ne,<-d1];intro e
         rw[<-Str.zad,<-Str.zad] at e
         have:=zdo e
         omega
        ·have:=z4c t.2 hn.pos hn.len W hW hP
         rw[hn.nc] at this;exact this
        ·have:=z61 t.1 1 t.1 140 1 (by omega) (by omega) (by omega) (hT.tsz t hmt) zb7.2.1 (by rw[Rat.mul_one]) W hW
         rw[zfc] at this;rw[d1];exact this) vg (by omega)
     (hid λW h=>HW.out _ (h1.trans ((h2.trans h).mono hs))) (hid λW h=>HP.out _ (h1.trans ((h2.trans h).mono hs))) h4
     (hid λi hi=>by
       obtain⟨t,ht⟩:=at_ i hi
       obtain⟨b,off,e,hb,c0,c1⟩:=HT.out i t ht
       have hB:qL w vg:=h1.trans (h2.mono hs)
       rw[(hX i t ht).1,(hX i t ht).2]
       exact⟨b,off,e,by omega,by rw[hB.cell (p:=⟨b,off+i*2,none⟩) hb];exact c0,by rw[hB.cell (p:=⟨b,off+i*2+1,none⟩) hb];exact c1⟩))
  (hid λi d hd h0=>by
    rw[List.getElem?_map,Option.map_eq_some_iff] at hd
    obtain⟨c,hc,rfl⟩:=hd
    have hmc:=List.mem_of_getElem? hc
    have hne:c.1≠0:=λe=>by
     have:((strT c).1==[48])=true:=by unfold strT;rw[e];simp[zie]
     rw[this] at h0;cases h0
    have s60:=hF c (by unfold mkR;rw[<-zfq];exact List.mem_filter.2 ⟨hmc,by simp[hne]⟩)
    have hn:=hcr _ c hmc
    have sr:sz (c.2:Rat) 16:=zrg (by omega) hn.len
    have da:=zok (k:=60) (by omega) s60
    have dr:=zok (k:=16) (by omega) sr
    have da2:digs (c.1.den:Int)<=60:=by rw[zd9];exact da.2
    have dr2:digs ((c.2:Rat).den:Int)<=16:=by rw[zd9];exact dr.2
    refine⟨max (digs c.1.num:Int) (digs (c.1.den:Int):Nat),max (digs (c.2:Rat).num:Int) (digs ((c.2:Rat).den:Int):Nat),λW hW=>znp c.1 (zd0 (by omega) (by omega) s60) W hW,λW hW=>?_,decide_eq_false (by have:=da.1;omega),decide_eq_false (by have:=dr.1;omega)⟩
    have:=znp (c.2:Rat) (zd0 (by omega) (by omega) sr) W hW
    rw[zhe] at this;exact this)
  (hid λB W p c h1 h2 h3 h4=>by
    rw[hk,zV] at h4⊢
    exact SRT.out B W p c (HW.out W h1) h3 h4)
 rw[hk,zV] at hm
 exact hm
end Go.Proofs.YtccijmidbdapaaaGreatDoor
