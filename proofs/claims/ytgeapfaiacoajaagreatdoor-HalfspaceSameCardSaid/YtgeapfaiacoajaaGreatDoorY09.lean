/- kingpostref02.quick. -/
import Derived.Test.YtgeapfaiacoajaaGreatDoorY08
set_option maxRecDepth 100000
set_option maxHeartbeats 8000000
open Go renaming World → zA, Calls → zC
open Go.RowKit renaming Below → zB, intOf → zL
open Go.Lib renaming decDigits → zD, itoa → zE
open Go.Proofs.Tryz renaming prog → zF
open Go.World renaming alloc_heap_new → zG
open Go.IntWalk renaming i64_in → zI
open Go.Joins renaming cell_of_block → zJ
open Go.RowKit.Below renaming refl → zM, heap_setCell → yE
open Nat renaming le_refl → zN, le_trans → zO, mod_lt → zP, mod_eq_of_lt → zQ, zero_le → zR, lt_of_lt_of_le → zS, le_of_lt → zT, pow_le_pow_right → yF, pow_succ → yO, mul_comm → yP, pos_of_ne_zero → yS
open List renaming length_map → zV, getElem_mem → zY, getElem?_eq_getElem → yB, append_nil → yH
namespace Go.Proofs.YtgeapfaiacoajaaGreatDoor
section
open Go.RowKit Go.Shelf Lib Str Limb
attribute [local go_sem] Oper.semAt_some
theorem z5f (n:Int) (D:Nat) (hD:0<D):zE (n/(Int.gcd n (D:Int):Int))=(if n<0 then[45] else[])++zD (n.natAbs/Nat.gcd n.natAbs D):=by
 have hg:Int.gcd n (D:Int)=Nat.gcd n.natAbs D:=by rw[Int.gcd,Int.natAbs_natCast]
 rw[hg];obtain⟨g,hgg⟩:=zzX (Nat.gcd n.natAbs D);rw[<-hgg];have hg0:0<g:=by rw[hgg];exact Nat.gcd_pos_of_pos_right _ hD
 obtain⟨q,hq⟩:∃q,n.natAbs=g*q:=by have:=Nat.gcd_dvd_left n.natAbs D;rw[<-hgg] at this;exact this
 rw[hq,Nat.mul_div_cancel_left _ hg0];by_cases h:n<0
 ·have e:n= -((g*q:Nat):Int):=by omega
  have hq0:0<q:=by
   rcases Nat.eq_zero_or_pos q with rfl|h'
   ·simp at hq;omega
   ·exact h'
  rw[if_pos h,e,show-((g*q:Nat):Int)=(g:Int)*(-(q:Int)) by rw[Int.natCast_mul,Int.mul_neg],Int.mul_ediv_cancel_left _ (by omega),Str.zga q hq0];rfl
 ·have e:n=((g*q:Nat):Int):=by omega
  rw[if_neg h,e,Int.natCast_mul,Int.mul_ediv_cancel_left _ (by omega),Str.zad];rfl
theorem z2a (n:Int) (D:Nat) (hD:0<D):numS (Rat.divInt n (D:Int))=(if n<0 then[45] else[])++zD (n.natAbs/Nat.gcd n.natAbs D)++(if D/Nat.gcd n.natAbs D=1 then[] else 47::zD (D/Nat.gcd n.natAbs D)):=by
 rw[zif n D (by omega),z5f n D hD];have hg:Int.gcd n (D:Int)=Nat.gcd n.natAbs D:=by rw[Int.gcd,Int.natAbs_natCast]
 rw[hg,<-Int.natCast_ediv,Str.zad];congr 1;by_cases h:D/Nat.gcd n.natAbs D=1
 ·rw[if_pos (by omega),if_pos h]
 ·rw[if_neg (by omega),if_neg h]
theorem z4x {n:Nat} (h:n<9000000000000000000):(zD n).length<=19:=(zaf n 19 (by omega)).2 (Nat.lt_trans h (by decide))
theorem z39 (a b:Nat) (ha:a<9000000000000000000) (hb:b<9000000000000000000) (w:zA):
 zC zF 71 #[I a,I b] w λe w'=>∃nd,e=.returned (I (Nat.gcd a b))/\w'=w.drewN nd:=by
 obtain⟨g,hg⟩:=zzX (Nat.gcd a b);rw[<-hg];have HG:=hid hg;clear hg;go_enter Tryz.func71,Tryz.ntmps71;go_wp2;go_loopw [0,1] (λx y wr=>∃m n:Nat,x=I m/\y=I n/\Hid (Nat.gcd m n=g)/\m<9000000000000000000/\n<9000000000000000000/\∃nd,wr=w.drewN nd)
  (λ_ y _=>(zL y).toNat)
 case atStart=>exact⟨a,b,rfl,rfl,HG.out.symm,ha,hb,0,rfl⟩
 case round=>
  clear ha hb;obtain⟨m,n,rfl,rfl,hgm,m1,n1,nd,rfl⟩:=hrel;by_cases h0:n=0
  ·subst h0
   have hm:m=g:=by have:=hgm.out;rw[Nat.gcd_zero_right] at this;exact this
   have HM:=hid hm;clear hm;go_wp2;go_ret;exact⟨nd,by rw[HM.out];rfl,rfl⟩
  ·have hn0:((n:Int) !=0)=true:=by simp;omega
   obtain⟨t,ht⟩:=zzX (m%n);have ht1:t<n:=by rw[ht];exact zP _ (by omega)
   have hgt:=zh1 m n;rw[<-ht] at hgt;have hwr:IntKind.i64.wrap ((m:Int).tmod n)=(t:Int):=by
    rw[Int.tmod_eq_emod_of_nonneg (by omega),<-Int.natCast_emod,<-ht];exact zI _ (by omega)
   have hwe:((m:Int).tmod n)=(t:Int):=by rw[Int.tmod_eq_emod_of_nonneg (by omega),<-Int.natCast_emod,<-ht]
   have HGT:=hid hgt;have HW:=hid hwe;clear hgt ht hwe;go_wp2
   (refine wp_region_quiet_lit (by kernel_rfl) (by kernel_rfl) (WQ.out ?_);(repeat(first|(apply WQ.read (by rfl);(focus(rintro W ⟨n,rfl⟩;go_simp;try with_reducible rfl));try simp only[zzQ])|(apply WQ.skip (by rfl);try simp only[zzQ])));refine WQ.nil ?_;rintro _ ⟨nq,rfl⟩)
   go_wp2;go_roundw
   case rel=>exact⟨n,t,rfl,by first|rfl|(rw[HW.out])|(show Value.int .i64 _=Value.int .i64 _;congr 1;have:=HW.out;rw[<-this,Int.tmod_eq_emod_of_nonneg (by omega)]),HGT.out.trans hgm.out,n1,by omega,_,World.drewN_drewN _ _ _⟩
   case measure=>first|(show((m:Int).tmod n).toNat<(n:Int).toNat;rw[HW.out];omega)|(simp[zL];omega)
theorem z2b (n:Int) (D:Nat) (hn:n.natAbs<9000000000000000000) (hD:0<D) (hD2:D<9000000000000000000) (w:zA):
 qJ 164 #[.int .i64 n,I D] w (St (numS (Rat.divInt n (D:Int)))):=by
 rw[z2a n D hD];have hgc:=λW=>z39 n.natAbs D hn hD2 W;obtain⟨g,hgg⟩:=zzX (Nat.gcd n.natAbs D);rw[<-hgg] at hgc⊢;have hg0:0<g:=by rw[hgg];exact Nat.gcd_pos_of_pos_right _ hD
 have hgd:g<=D:=by rw[hgg];exact Nat.gcd_le_right _ hD
 have hq:n.natAbs/g<=n.natAbs:=Nat.div_le_self _ _;have hr:D/g<=D:=Nat.div_le_self _ _;have hd1:=λW=>zvs (n.natAbs/g) (by omega) W;have hd2:=λW=>zvs (D/g) (by omega) W;have l1:=z4x (n:=n.natAbs/g) (by omega);have l2:=z4x (n:=D/g) (by omega);obtain⟨a,ha⟩:=zzX n.natAbs;obtain⟨q,hqq⟩:=zzX (n.natAbs/g);obtain⟨r,hrr⟩:=zzX (D/g);have q1:(a:Int)/(g:Int)=(q:Int):=by rw[<-Int.natCast_ediv,hqq,ha]
 have r1:(D:Int)/(g:Int)=(r:Int):=by rw[<-Int.natCast_ediv,hrr]
 rw[<-hqq] at hd1 l1 hq⊢;rw[<-hrr] at hd2 l2 hr⊢;rw[<-ha] at hgc hq hn;have hg1:¬(g:Int)=0:=by omega
 have hqb:q<9000000000000000000:=by omega
 have hrb:r<9000000000000000000:=by omega
 have HGC:=hid hgc;have HD1:=hid hd1;have HD2:=hid hd2;clear hgc hd1 hd2 hgg hgd hq hr hqq hrr hg0;generalize hdq:zD q=dq at*
 generalize hdr:zD r=dr at*
 clear hdq hdr;by_cases hneg:n<0
 ·have hna:IntKind.i64.wrap (-n)=(a:Int):=by rw[show-n=(a:Int) by omega];exact zI _ (by omega)
  rw[if_pos hneg];clear ha;go_enter Tryz.func164,Tryz.ntmps164;go_wp21;refine(HGC.out w).mono ?_;rintro e w1 ⟨nd,rfl,hw1⟩;have hb1:qL w w1:=by rw[hw1];exact zzD (zM _ w) _
  have HB1:=hid hb1;clear hb1 hw1;go_wp21;refine zzM (HD1.out w1) λw2 hb2=>?_;have HB2:=qT HB1 hb2;clear hb2;have f1:¬(9223372036854775807<1+dq.length):=by omega
  by_cases hr1:r=1
  ·subst hr1
   go_wp21;go_ret;refine⟨?_,HB2.out⟩;show Ending.returned (Value.string _)=Ending.returned (Value.string _);congr 2
   try(apply ByteArray.ext;apply Array.toList_inj.1;simp[ByteArray.data_append])
  ·have hrn:((r:Int)==1)=false:=by rw[beq_eq_false_iff_ne];omega
   have f2:¬(9223372036854775807<1+dq.length+1):=by omega
   have f3:¬(9223372036854775807<1+dq.length+1+dr.length):=by omega
   go_wp21;refine zzM (HD2.out w2) λw3 hb3=>?_;have HB3:=qT HB2 hb3;clear hb3;go_wp21;go_ret;refine⟨?_,HB3.out⟩;show Ending.returned (Value.string _)=Ending.returned (Value.string _);congr 2;apply ByteArray.ext;apply Array.toList_inj.1;simp[ByteArray.data_append]
 ·have hna:n=(a:Int):=by omega
  have hnn:¬(a:Int)<0:=by omega
  rw[if_neg hneg,hna];clear ha hna hneg;go_enter Tryz.func164,Tryz.ntmps164;go_wp21;refine(HGC.out w).mono ?_;rintro e w1 ⟨nd,rfl,hw1⟩;have hb1:qL w w1:=by rw[hw1];exact zzD (zM _ w) _
  have HB1:=hid hb1;clear hb1 hw1;go_wp21;refine zzM (HD1.out w1) λw2 hb2=>?_;have HB2:=qT HB1 hb2;clear hb2;have f1:¬(9223372036854775807<dq.length):=by omega
  by_cases hr1:r=1
  ·subst hr1
   go_wp21;go_ret;refine⟨?_,HB2.out⟩;show Ending.returned (Value.string _)=Ending.returned (Value.string _);congr 2
   try(apply ByteArray.ext;apply Array.toList_inj.1;simp[ByteArray.data_append])
  ·have hrn:((r:Int)==1)=false:=by rw[beq_eq_false_iff_ne];omega
   have f2:¬(9223372036854775807<dq.length+1):=by omega
   have f3:¬(9223372036854775807<dq.length+1+dr.length):=by omega
   go_wp21;refine zzM (HD2.out w2) λw3 hb3=>?_;have HB3:=qT HB2 hb3;clear hb3;go_wp21;go_ret;refine⟨?_,HB3.out⟩;show Ending.returned (Value.string _)=Ending.returned (Value.string _);congr 2;apply ByteArray.ext;apply Array.toList_inj.1;simp[ByteArray.data_append]
end
section
open Go.RowKit Lib Str Limb
theorem zvf (va:Value) (a:List Nat) (d:Nat) (w:zA) (ha:Sl w va (a.map I)) (la:a.length<=1000) (sa:zal B6 a) (hd0:0<d) (hd:d<B6):
 zC zF 177 #[va,I d] w (λe w'=>∃v1 v2,e=.returned (.tuple #[v1,v2])/\Sl w' v1 ((zaa B6 (valL B6 a/d)).map I)/\Sl w' v2 ((zaa B6 (valL B6 a%d)).map I)/\zB w.heap.size w w'):=by
 obtain⟨i0,hi,hz0,hz1,hz2⟩:=info_parts zdv;have ha':=ha;obtain⟨pa,ca,rfl,hca,hcella⟩:=ha;have HA:=hid ha';clear ha' hcella hca;have SA:=hid sa;clear sa;simp only[zV] at*
 have hd':d<1000000:=hd;clear hd;have hdz:¬(d:Int)=0:=by omega
 go_enter Tryz.func177,Tryz.ntmps177;go_wp2_with (at_make;refine wpList_make_full _ rfl _ _ 146 rfl w.heap.size 3 i0 (.int .i64 0) 1 Tryz.underlying146 hi hz0 hz1 .i64 .i64 _ _ a.length rfl rfl (by omega) (by omega) (by rw[hz2];omega) (by unfold maxLen;omega) (zN _) ?_);intro w0 hown hgrow;rw[toList_madeCells_one,<-show(List.replicate a.length 0).map I=List.replicate a.length (.int .i64 0) by simp] at hown;obtain⟨hrow, -⟩:=Row.of_own hown;have hB0:qL w w0:=(zM _ _).grown hgrow (zN _) (λ_ e=>by cases e);clear hown hgrow;obtain⟨N,hN⟩:=zzX a.length;obtain⟨g,hg⟩:=zzX w.heap.size;rw[<-hg] at hrow⊢;have HG:=hid hg;clear hg;rw[<-hN] at hrow⊢;have HN:=hid hN;have hN1:N<=1000:=by omega
 clear hN la;go_wp2;go_loopw [7,8] (λc i wr=>∃k:Nat,k<=N/\i=.int .i64 ((N:Int)-1-k)/\c=I (za8 B6 d a k).2/\Row wr g N (za8 B6 d a k).1/\zB w.heap.size w wr)
  (λ_ i _=>(zL i+1).toNat)
 case atStart=>exact⟨0,zR _,by simp,rfl,by rw[za8,<-HN.out];exact hrow,hB0⟩
 case round=>
  clear hrow hB0;obtain⟨k,hk,rfl,rfl,hrow,hB⟩:=hrel;obtain⟨s1,s2,s3, -⟩:=zeo (B:=B6) hd0 SA.out k (by rw[<-HN.out];exact hk);by_cases hlt:k<N
  ·obtain⟨j,hj⟩:=zzX (N-1-k)
   have hjI:(N:Int)-1-k=(j:Int):=by omega
   rw[hjI];have hja:j<a.length:=by rw[<-HN.out];omega
   obtain⟨ba,offa,rfl,hba,hcapa,hcx⟩:=(HA.out.below hB).at hja;have hst:za8 B6 d a (k+1)=zdl B6 d (za8 B6 d a k) j (a[j]?.getD 0):=by rw[hj,HN.out];rfl
   have hx:=zaj SA.out (by decide) j;have hx':a[j]?.getD 0<1000000:=hx;have hJ:=hid hj;have hjN:j<N:=by omega
   have hj1:j=N-1-k:=hj;have hj2:(j:Int)-1=(N:Int)-1-((k+1:Nat):Int):=by omega
   have HJ2:=hid hj2;have hlen:j<(za8 B6 d a k).1.length:=by rw[s1];exact hja
   have HST:=hid hst;clear hst hx hj hj1 hj2 s1 s2 hjI;generalize za8 B6 d a k=s at*
   obtain⟨l,r⟩:=s;dsimp only at*
   generalize a[j]?.getD 0=x at*
   obtain⟨n,hn⟩:=zzX (x+r*1000000);have hnI:(r:Int)*1000000+x=(n:Int):=by omega
   have e1:IntKind.i64.wrap ((r:Int)*1000000)=(r:Int)*1000000:=zI _ (by omega);have e2:IntKind.i64.wrap ((r:Int)*1000000+x)=(n:Int):=by rw[hnI];exact zI _ (by omega)
   obtain⟨q,hq⟩:=zzX (n/d);obtain⟨m,hm⟩:=zzX (n%d);have hq1:q<=n:=by rw[hq];exact Nat.div_le_self _ _
   have hm1:m<d:=by rw[hm];exact zP _ hd0
   have hq2:q<2000000000000:=by
    have:=Nat.mul_le_mul (show r<=999999 by omega) (zN 1000000);omega
   have hm2:m<1000000:=by omega
   have e3:(n:Int)/(d:Int)=(q:Int):=by rw[<-Int.natCast_ediv,<-hq]
   have e4:(n:Int)%(d:Int)=(m:Int):=by rw[<-Int.natCast_emod,<-hm]
   have hcell:=hrow.cell (getD_some hlen);have hfz:=hrow.frozen j;have HROW:=hid hrow;have HQ:=hid (⟨by rw[hq,hn],by rw[hm,hn]⟩:q=(x+r*1000000)/d/\m=(x+r*1000000)%d);clear hrow hlen hn hnI hq hm hq1 hm1;generalize l[j]?.getD 0=z at*
   go_wp2;go_roundw
   case rel=>
    refine⟨k+1,by omega,by rw[<-HJ2.out],by rw[HST.out,e4];show I m=I ((x+r*B6)%d);rw[HQ.out.2];rfl,?_,?_⟩
    ·rw[HST.out]
     show Row _ g N (l.set j ((x+r*B6)/d));rw[show(x+r*B6)/d=q from HQ.out.1.symm];exact Row.set HROW.out j q
    ·exact hB.setCell (by rw[HG.out];exact zN _) _
   case measure=>simp[zL]
  ·obtain rfl:k=N:=by omega
   have hend:(k:Int)-1-k= -1:=by omega
   rw[hend];obtain⟨f1,f2⟩:=zjq (B:=B6) (by decide) hd0 SA.out;rw[<-HN.out] at f1 f2 s1;have hsl:=hrow.sl;rw[s1] at hsl;have hr:(za8 B6 d a k).2<1000000:=by omega
   have HF:=hid (⟨f1,f2⟩:_/\_);have HSL:=hid hsl;have HS1:=hid s1;have HROW:=hid hrow;clear f1 f2 s1 s2 s3 hsl hrow hend;generalize hs:za8 B6 d a k=s at*
   obtain⟨l,r⟩:=s;dsimp only at*
   have HSS:=hid hs;clear hs;go_wp21;refine(zeb _ _ _ l wr HSL.out (by rw[HS1.out];omega)).mono ?_;rintro e w1 ⟨rfl,rfl⟩;go_wp21;have b1:qL wr (wr.alloc (.cells #[I r] 3)):=(zM _ wr).alloc (zN _) _;have A1:=heap_alloc_new wr (.cells #[I r] 3);have hs1:Sl (wr.alloc (.cells #[I r] 3)) (.slice (some ⟨wr.heap.size,0,none⟩) 1 1) ([r].map I):=by
    refine⟨_,_,rfl,zN _,λi x hx=>⟨_,_,rfl,?_⟩⟩
    match i,hx with
    |0,hx=>rw[<-hx];exact cell_of_row _ _ _ _ _ _ A1
   refine zzM (zeb _ _ _ [r] _ hs1 (by simp)) λw1 hw1=>?_;have hw1':=hw1.symm;subst hw1';go_wp21;go_ret2;refine⟨_,_,rfl,?_,?_,hB.trans (b1.mono hB.size)⟩
   ·rw[<-HF.out.1]
    exact(Sl.trim_at HSL.out HS1.out).below b1
   ·rw[<-HF.out.2,<-zqr (B:=B6) (by decide) (show r<B6 from hr)]
    exact Sl.trim_at (n:=1) hs1 rfl
theorem zxi {w w':zA} {base:Nat} {t:TypeId} {s:Nat} {v:Value} {n:Nat} {xs:List Value} (h:w.ownsRow base t s v n xs) (hb:qL w w'):w'.ownsRow base t s v n xs:=by
 refine⟨h.1,?_⟩;rcases h.2 with h|⟨g,cap,cur,e,h1,hg,r⟩
 ·exact .inl h
 ·exact .inr ⟨g,cap,cur,e,h1,(hb.block g (Array.getElem?_eq_some_iff.1 hg).1).trans hg,r⟩
theorem zzu {w:zA} {base base':Nat} {t:TypeId} {s:Nat} {v:Value} {n:Nat} {xs:List Value} (h:w.ownsRow base t s v n xs) (hb:base'<=base):w.ownsRow base' t s v n xs:=by
 refine⟨h.1,?_⟩;rcases h.2 with h|⟨g,cap,cur,e,h1,r⟩
 ·exact .inl h
 ·exact .inr ⟨g,cap,cur,e,zO hb h1,r⟩
theorem zmh {w:zA} {base:Nat} {t:TypeId} {s:Nat} {v:Value} {n:Nat} {xs:List Value} (h:w.ownsRow base t s v n xs) {p:Addr} (hp:p.block<base) (u:Value):(w.setCell p u).ownsRow base t s v n xs:=by
 refine⟨h.1,?_⟩;rcases h.2 with h|⟨g,cap,cur,e,h1,hg,r⟩
 ·exact .inl h
 ·exact .inr ⟨g,cap,cur,e,h1,by rw[yE _ _ _ _ (by omega)];exact hg,r⟩
theorem zzv {w:zA} {base g n c:Nat} {xs:List Value} (h:w.ownsRow base 3 1 (.slice (some ⟨g,0,none⟩) n c) n xs):∀j u,xs[j]? =some u->w.cell? ((⟨g,0,none⟩:Addr).add j)=some u:=
 h.cells (g:=g) rfl
theorem zzw (l:List Nat):∀u∈l.map I,u.oneCell'=true:=λu hu=>by
 obtain⟨x,_,rfl⟩:=List.mem_map.1 hu;rfl
theorem zvg {R x:Nat} (hx:x<B6):zat (x::zaa B6 R)=zaa B6 (x+B6*R):=by
 have hs:zal B6 (x::zaa B6 R):=λy hy=>by
  rcases List.mem_cons.1 hy with rfl|h
  ·exact hx
  ·exact zak (B:=B6) (by decide) R y h
 rw[zbu (B:=B6) (by decide) hs,valL,zam (B:=B6) (by decide)]
theorem zel {m k:Nat} (hm:m<=k):(zaa B6 m).length<=(zaa B6 k).length:=by
 rcases Nat.lt_or_ge (zaa B6 k).length (zaa B6 m).length with h'|h'
 ·have:=zc2 (B:=B6) (by decide) h';omega
 ·exact h'
theorem ztg (va vb:Value) (m n:Nat) (w:zA) (ha:Sl w va ((zaa B6 m).map I)) (hb:Sl w vb ((zaa B6 n).map I)) (la:(zaa B6 m).length<=1000) (hn:0<n) (h1:n<B6):
 zC zF 123 #[va,vb] w (λe w'=>∃v1 v2,e=.returned (.tuple #[v1,v2])/\Sl w' v1 ((zaa B6 (m/n)).map I)/\Sl w' v2 ((zaa B6 (m%n)).map I)/\zB w.heap.size w w'):=by
 have hS:=zvf va (zaa B6 m) n w ha la (zak (by decide) m) hn h1;rw[zam (B:=B6) (by decide)] at hS;have e1:zaa B6 n=[n]:=by
  rw[zfl (by decide) (by omega),zQ h1,Nat.div_eq_of_lt h1,zaz]
 rw[e1] at hb;obtain⟨pa,ca,rfl,hca,_⟩:=ha;obtain⟨pb,cb,rfl,hcb,hc⟩:=hb;obtain⟨b,off,rfl,hcell⟩:=hc 0 (I n) rfl;rw[Nat.add_zero] at hcell;have HS:=hid hS;clear hS hc hca hcb e1 la;simp only[zV,List.map_cons,List.map_nil,List.length_cons,List.length_nil] at*
 generalize (zaa B6 m).length=q at*
 go_enter Tryz.func123,Tryz.ntmps123;go_wp21;refine HS.out.mono ?_;rintro e w1 ⟨v1,v2,rfl,r1,r2,hB⟩;have HR:=hid (⟨r1,r2,hB⟩:_/\_/\_);clear r1 r2 hB HS;go_wp21;go_ret2;exact⟨_,_,rfl,HR.out.1,HR.out.2.1,HR.out.2.2⟩
theorem zub {w:zA} {base:Nat} (x:Nat) (hb:base<=w.heap.size):(w.alloc (.cells #[I x] 3)).ownsRow base 3 1 (.slice (some ⟨w.heap.size,0,none⟩) 1 1) 1 [I x]:=
 ⟨rfl,.inr ⟨w.heap.size,1,#[I x],rfl,hb,heap_alloc_new w _,zN _,by unfold maxLen;omega,rfl,rfl⟩⟩
structure DivS (w:zA) (G N:Nat) (n R:Nat) (l:List Nat) (v:Value) (W:zA):Prop where
 bel:qL w W
 row:Row W G N l
 rem:∃g c,v=.slice (some ⟨g,0,none⟩) (zaa B6 R).length c/\W.ownsRow (G+1) 3 1 (.slice (some ⟨g,0,none⟩) (zaa B6 R).length c) (zaa B6 R).length ((zaa B6 R).map I)
 hG:G=w.heap.size
theorem DivS.next {w:zA} {G N n R R':Nat} {l:List Nat} {v:Value} {W W':zA} {e:Ending} (h:DivS w G N n R l v W) (hr:zua W (zaa B6 R') e W'):∃v',e=.returned v'/\DivS w G N n R' l v' W':=by
 obtain⟨g,c,rfl,ho,hb⟩:=hr;have hlt:=h.row.lt;exact⟨_,rfl,h.bel.trans (hb.mono h.bel.size),h.row.below hb hlt,⟨g,c,rfl,zzu ho hlt⟩,h.hG⟩
theorem DivS.grow {w:zA} {G N n R:Nat} {l:List Nat} {v:Value} {W W':zA} (h:DivS w G N n R l v W) (hb:qL W W'):DivS w G N n R l v W':=by
 obtain⟨g,c,rfl,ho⟩:=h.rem;exact⟨h.bel.trans (hb.mono h.bel.size),h.row.below hb h.row.lt,⟨g,c,rfl,zxi ho hb⟩,h.hG⟩
theorem DivS.store {w:zA} {G N n R:Nat} {l:List Nat} {v:Value} {W:zA} (h:DivS w G N n R l v W) (j x:Nat):DivS w G N n R (l.set j x) v (W.setCell ⟨G,j,none⟩ (I x)):=by
 obtain⟨g,c,rfl,ho⟩:=h.rem;exact⟨h.bel.setCell (by rw[<-h.hG];exact zN _) _,h.row.set j x,⟨g,c,rfl,zmh ho (by show G<G+1;omega) _⟩,h.hG⟩
theorem DivS.sl {w:zA} {G N n R:Nat} {l:List Nat} {v:Value} {W:zA} (h:DivS w G N n R l v W):Sl W v ((zaa B6 R).map I):=by
 obtain⟨g,c,rfl,ho⟩:=h.rem;exact Sl.of_own ho
theorem zxj {m n:Nat} (h:m<n):ordN m n= -1:=by unfold ordN;rw[if_pos h]
theorem zxk {m n:Nat} (h:n<=m):0<=ordN m n:=by unfold ordN;rw[if_neg (by omega)];split<;>omega
theorem zrx {l:List Nat} {i:Nat} (h:i<l.length):(l.map I)[i]? =some (I (l[i]?.getD 0)):=by
 rw[List.getElem?_map,yB h];rfl
theorem zry (va vb:Value) (m n nn:Nat) (w:zA) (ha:Sl w va ((zaa B6 m).map I)) (hb:Sl w vb ((zaa B6 n).map I)) (la:(zaa B6 m).length<=1000) (lb:(zaa B6 n).length<=990) (hD:(zaa B6 n).length=nn+2):
 zC zF 123 #[va,vb] w (λe w'=>∃v1 v2,e=.returned (.tuple #[v1,v2])/\Sl w' v1 ((zaa B6 (m/n)).map I)/\Sl w' v2 ((zaa B6 (m%n)).map I)/\zB w.heap.size w w'):=by
 obtain⟨i0,hi,hz0,hz1,hz2⟩:=info_parts zdv;have hn0:0<n:=by
  rcases Nat.eq_zero_or_pos n with rfl|h
  ·rw[zaz] at hD;simp at hD
  ·exact h
 have hnB:n<B6^(nn+2):=by rw[<-hD];exact zgb (by decide) n
 have ha':=ha;have hb':=hb;obtain⟨pa,ca,rfl,hca,_⟩:=ha;obtain⟨pb,cb,rfl,hcb,hcb2⟩:=hb;obtain⟨bb,offb,rfl, -⟩:=hcb2 0 _ (zrx (by omega));have c1:w.cell? ⟨bb,offb+(nn+1),none⟩=some (I (n/B6^(nn+1)%B6)):=by
  obtain⟨b2,o2,e2,h2⟩:=hcb2 (nn+1) _ (zrx (by omega));cases e2;rw[h2,zec (by decide)]
 have c0:w.cell? ⟨bb,offb+nn,none⟩=some (I (n/B6^nn%B6)):=by
  obtain⟨b2,o2,e2,h2⟩:=hcb2 nn _ (zrx (by omega));cases e2;rw[h2,zec (by decide)]
 have EST:=hid λR (hR:R<B6*n)=>z16 (B:=B6) (n:=nn) (V:=n) (R:=R) (by decide) hnB hn0 hR;simp only[zV] at*
 have HA:=hid ha';clear ha' hca;have HB:=hid hb';clear hb' hcb hcb2 hnB;have hu1:n/B6^(nn+1)%B6<1000000:=zP _ (by decide);have hu0:n/B6^nn%B6<1000000:=zP _ (by decide);generalize n/B6^(nn+1)%B6=u1 at*
 generalize n/B6^nn%B6=u0 at*
 obtain⟨P,hP⟩:=zzX (u1*1000000+u0);have p1:IntKind.i64.wrap ((u1:Int)*1000000)=(u1:Int)*1000000:=zI _ (by omega);have p2:IntKind.i64.wrap ((u1:Int)*1000000+u0)=(P:Int):=by rw[show(u1:Int)*1000000+u0=(P:Int) by omega];exact zI _ (by omega)
 have hPb:P<1000000000000:=by omega
 have HP:=hid hP;clear hP;obtain⟨n1,hn1⟩:=zzX (nn+1);rw[<-hn1] at c1;obtain⟨D,hD'⟩:=zzX ((zaa B6 n).length);have hDi:(D:Int)-1=(n1:Int):=by omega
 have hDj:(D:Int)-2=(nn:Int):=by omega
 have hD2:¬((D:Int)=1):=by omega
 have hDn:n1<D:=by omega
 have hDm:nn<D:=by omega
 have hD3:D<=990:=by omega
 obtain⟨N,hN⟩:=zzX ((zaa B6 m).length);have hN3:N<=1000:=by omega
 rw[<-hD',<-hN];have HD:=hid (⟨hD',hn1,hD⟩:_/\_/\_);have HN:=hid hN;have HLA:=hid la;have HLB:=hid lb;clear hD' hD hN hn1 la lb;go_enter Tryz.func123,Tryz.ntmps123;go_wp2;go_quiet (fail);have hBq:qL w (w.drewN nq):=zzD (zM _ w) _;have HBQ:=hid hBq;clear hBq c0 c1;go_wp2_with (at_make;refine wpList_make_full _ rfl _ _ 146 rfl w.heap.size 3 i0 (.int .i64 0) 1 Tryz.underlying146 hi hz0 hz1 .i64 .i64 _ _ N rfl rfl (by omega) (by omega) (by rw[hz2];omega) (by unfold maxLen;omega) (by exact HBQ.out.size) ?_);intro w0 hown hgrow;rw[toList_madeCells_one,<-show(List.replicate N 0).map I=List.replicate N (.int .i64 0) by simp] at hown;obtain⟨hrow, -⟩:=Row.of_own hown;have hB0:qL w w0:=HBQ.out.grown hgrow (zN _) (λ_ e=>by cases e);clear hown hgrow HBQ;obtain⟨G,hG⟩:=zzX w.heap.size;rw[<-hG] at hrow⊢;have HG:=hid hG;have hlt0:=hrow.lt;have hD0:DivS w G N n 0 (List.replicate N 0) (.slice (some ⟨w0.heap.size,0,none⟩) 0 0) (w0.alloc (.cells #[] 3)):=by
  have b:=(zM w0.heap.size w0).alloc (zN _) (.cells #[] 3);refine⟨hB0.alloc hB0.size _,hrow.below b hlt0,⟨w0.heap.size,0,by rw[zaz];rfl,?_⟩,hG⟩;rw[zaz];exact World.ownsRow_made w0 #[] 0 (by omega) (by unfold maxLen;omega) rfl
 have HD0:=hid hD0;clear hD0 hrow hB0 hlt0 hG;have SA:=hid (zak (B:=B6) (by decide) m);have SB:=hid (zak (B:=B6) (by decide) n);go_wp2;go_loopw [9,10] (λv i wr=>∃k:Nat,k<=N/\i=.int .i64 ((N:Int)-1-k)/\DivS w G N n (za8 B6 n (zaa B6 m) k).2 (za8 B6 n (zaa B6 m) k).1 v wr)
  (λ_ i _=>(zL i+1).toNat)
 case atStart=>exact⟨0,zR _,by simp,by rw[za8,<-HN.out];exact HD0.out⟩
 case round=>
  clear HD0;obtain⟨k,hk,rfl,hS⟩:=hrel;obtain⟨s1,s2,s3, -⟩:=zeo (B:=B6) hn0 SA.out k (by rw[<-HN.out];exact hk);by_cases hlt:k<N
  ·obtain⟨j,hj⟩:=zzX (N-1-k)
   have hjI:(N:Int)-1-k=(j:Int):=by omega
   rw[hjI];have hja:j<(zaa B6 m).length:=by rw[<-HN.out];omega
   obtain⟨ba,offa,rfl,hba,hcapa,hcx⟩:=(HA.out.below hS.bel).at hja;have hst:za8 B6 n (zaa B6 m) (k+1)=zdl B6 n (za8 B6 n (zaa B6 m) k) j ((zaa B6 m)[j]?.getD 0):=by rw[hj,HN.out];rfl
   have hx:=zaj SA.out (by decide) j;have hx':(zaa B6 m)[j]?.getD 0<1000000:=hx;have hjN:j<N:=by omega
   have hj2:(j:Int)-1=(N:Int)-1-((k+1:Nat):Int):=by omega
   have HJ2:=hid hj2;have HST:=hid hst;have hlenl:(za8 B6 n (zaa B6 m) k).1.length=N:=by rw[s1,HN.out]
   clear hst hx hj hj2 s1 s2 hjI;generalize za8 B6 n (zaa B6 m) k=s at*
   obtain⟨l,R⟩:=s;dsimp only at*
   generalize (zaa B6 m)[j]?.getD 0=x at*
   have hmR:x+B6*R<=m\/True:=.inr trivial;clear hmR;obtain⟨gr,cr,rfl,hor⟩:=hS.rem;obtain⟨R',hR'⟩:=zzX (x+B6*R);have hRn:R'<B6*n:=by
    have:=Nat.mul_le_mul_left B6 (show R+1<=n from s3);rw[Nat.mul_add,Nat.mul_one] at this;have hx6:x<B6:=hx';omega
   have hlR:(zaa B6 R).length<=990:=zO (zel (zT s3)) HLB.out;have hlR':(zaa B6 R').length<=1000:=by
    have h1:R'<B6^(nn+3):=by
     refine zS hRn ?_;have:=zgb (B:=B6) (by decide) n;rw[HD.out.2.2] at this;rw[show nn+3=(nn+2)+1 from rfl,yO,yP];exact Nat.mul_le_mul_right _ (zT this)
    have h2:=zfv (B:=B6) (by decide) h1;have:=HLB.out;have:=HD.out.2.2;omega
   have HR':=hid (⟨hR',hRn,hlR,hlR'⟩:_/\_/\_/\_);have hltG:=hS.row.lt;have hown1:=zub (w:=wr) (base:=G+1) x hltG;have hnews:=zzv (hor.alloc (.cells #[I x] 3));have HS:=hid (⟨hS,hown1,hnews,hltG,hlR⟩:_/\_/\_/\_/\_);clear hS hown1 hnews hltG hor hR' hRn hlR' hba hcapa s3;obtain⟨LR,hLR⟩:=zzX ((zaa B6 R).length);rw[<-hLR] at HS⊢;rw[<-hLR] at hlR;have HLR:=hid hLR;clear hLR;go_wp2_with (at_builtin;refine wpList_append_own _ rfl _ _ 146 rfl (G+1) 3 i0 (.int .i64 0) 1 8 Tryz.underlying146 hi hz0 hz1 hz2 rfl (by decide) _ _ _ rfl HS.out.2.1 ⟨gr,0,none⟩ LR cr ((zaa B6 R).map I) rfl (by rw[HLR.out];simp) HS.out.2.2.1 (zzw _) (by unfold maxLen;omega) (by omega) (by have:=HS.out.2.2.2.1;simp;omega) ?_);intro v' w1 hown' hgrow hnn;obtain⟨g1,c1,rfl⟩:=zrr hown' hnn;have hb1:qL wr w1:=((zM _ wr).alloc (zN _) _).grown hgrow (by simp) (λq e=>by cases e;exact zN _);have hown2:w1.ownsRow (G+1) 3 1 (.slice (some ⟨g1,0,none⟩) (1+LR) c1) (1+LR) ((x::zaa B6 R).map I):=hown';have T:=zeb _ _ _ (x::zaa B6 R) w1 (Sl.of_own hown2) (by have:=HLR.out;simp;omega);have hown3:=zh4 hown2 (by have:=HLR.out;simp;omega);rw[zvg (show x<B6 from hx'),<-HR'.out.1] at T hown3;have hS1:DivS w G N n R' l (.slice (some ⟨g1,0,none⟩) (zaa B6 R').length c1) w1:=by
    have:=HS.out.1.grow hb1;exact⟨this.bel,this.row,⟨g1,c1,rfl,hown3⟩,this.hG⟩
   have LM:=hid λi=>zgz _ (zaa B6 R') i w1 (Sl.of_own hown3) (by have:=HR'.out.2.2.2;omega);have hE:=EST.out R' HR'.out.2.1;have f2:(zaa B6 R')[D]?.getD 0=R'/B6^(nn+2)%B6:=by rw[zec (by decide),HD.out.1,HD.out.2.2]
   have f1:(zaa B6 R')[n1]?.getD 0=R'/B6^(nn+1)%B6:=by rw[zec (by decide),HD.out.2.1]
   have f0:(zaa B6 R')[nn]?.getD 0=R'/B6^nn%B6:=by rw[zec (by decide)]
   rw[<-f2,<-f1,<-f0] at hE;have g2:(zaa B6 R')[D]?.getD 0<1000000:=zaj (zak (by decide) R') (by decide) _;have g1':(zaa B6 R')[n1]?.getD 0<1000000:=zaj (zak (by decide) R') (by decide) _;have g0':(zaa B6 R')[nn]?.getD 0<1000000:=zaj (zak (by decide) R') (by decide) _;have L2:=hid (LM.out D);have L1:=hid (LM.out n1);have L0:=hid (LM.out nn);clear hown' hown2 hown3 hgrow hnn hb1 HS f2 f1 f0 LM;generalize (zaa B6 R')[D]?.getD 0=t2 at*
   generalize (zaa B6 R')[n1]?.getD 0=t1 at*
   generalize (zaa B6 R')[nn]?.getD 0=t0 at*
   obtain⟨X1,hX1⟩:=zzX (t2*1000000+t1);obtain⟨X0,hX0⟩:=zzX (X1*1000000+t0);obtain⟨P1,hP1⟩:=zzX (P+1);obtain⟨q0,hq0⟩:=zzX (X0/P1);have hq:q0*n<=R'/\q0<1000000:=by
    have e:((t2*B6+t1)*B6+t0)/(u1*B6+u0+1)=q0:=by rw[hq0,hX0,hX1,hP1,HP.out];rfl
    rw[e] at hE;exact hE
   have k1:IntKind.i64.wrap ((t2:Int)*1000000)=(t2:Int)*1000000:=zI _ (by omega);have k2:IntKind.i64.wrap ((t2:Int)*1000000+t1)=(X1:Int):=by rw[show(t2:Int)*1000000+t1=(X1:Int) by omega];exact zI _ (by omega)
   have k3:IntKind.i64.wrap ((X1:Int)*1000000)=(X1:Int)*1000000:=zI _ (by omega);have k4:IntKind.i64.wrap ((X1:Int)*1000000+t0)=(X0:Int):=by rw[show(X1:Int)*1000000+t0=(X0:Int) by omega];exact zI _ (by omega)
   have k5:IntKind.i64.wrap ((P:Int)+1)=(P1:Int):=by rw[show(P:Int)+1=(P1:Int) by omega];exact zI _ (by omega)
   have k6:(X0:Int)/(P1:Int)=(q0:Int):=by rw[<-Int.natCast_ediv,<-hq0]
   have k7:¬(P1:Int)=0:=by omega
   have hq2:q0<1000000:=hq.2;have HQ:=hid hq;have HS1:=hid hS1;clear hE hX1 hX0 hP1 hq0 hq hS1 g1' g0';generalize hL':(zaa B6 R').length=L' at*
   have HL':=hid hL';clear hL';go_wp21;have hTT:=T;refine zzM hTT λw2 hw2=>?_;have hw2':=hw2.symm;subst hw2';clear T;go_wp21;refine zzM L2.out λw2 hw2=>?_;have hw2':=hw2.symm;subst hw2';go_wp21;refine zzM L1.out λw2 hw2=>?_;have hw2':=hw2.symm;subst hw2';go_wp21;refine zzM L0.out λw2 hw2=>?_;have hw2':=hw2.symm;subst hw2';clear L2 L1 L0;go_wp21;clear hTT k1 k2 k3 k4 k5 k6 k7 g2 hlR;have hb3:qL w2 (w2.alloc (.cells #[I q0] 3)):=(zM _ w2).alloc (zN _) _;have hTM:=znx _ (.slice (some ⟨w2.heap.size,0,none⟩) 1 1) (zaa B6 n) [q0] _ (HB.out.below (HS1.out.bel.trans (hb3.mono HS1.out.bel.size))) (Sl.of_own (zub (w:=w2) (base:=0) q0 (zR _))) SB.out (λy hy=>by rw[List.mem_singleton] at hy;subst hy;exact hq2) (zO HLB.out (by omega)) (by simp);rw[zam (B:=B6) (by decide),show valL B6 [q0]=q0 by simp[valL],<-HD.out.1] at hTM;have HTM:=hid hTM;have HB3:=hid hb3;clear hTM hb3;refine HTM.out.mono ?_;rintro e w3 ⟨v3,rfl,own3,hb4⟩;have hS3:=HS1.out.grow (HB3.out.trans (hb4.mono HB3.out.size));have hMN:=zix _ v3 (zaa B6 R') (zaa B6 (n*q0)) w3 hS3.sl (Sl.of_own own3) (zak (by decide) _) (zak (by decide) _) (by have:=HR'.out.2.2.2;rw[HL'.out];exact this) (zel (by rw[yP];exact HQ.out.1)) (by rw[zam (by decide),zam (by decide),yP];exact HQ.out.1);rw[zam (B:=B6) (by decide),zam (B:=B6) (by decide)] at hMN;have HS3:=hid hS3;have HMN:=hid hMN;clear HTM HB3 hS3 hMN own3 hb4 HS1;go_wp21;refine HMN.out.mono ?_;intro e w4 hr4;obtain⟨v4,rfl,hS4⟩:=HS3.out.next hr4;clear hr4 HMN HS3
   have hsum0:q0*n+(R'-n*q0)=R':=by have:=HQ.out.1;rw[yP n q0];omega
   have HINIT:=hid (⟨hS4,hsum0⟩:_/\_);clear hS4 hsum0;go_wp2;go_loopw [9,11] (λv c wr=>∃gg R2:Nat,c=.int .i64 gg/\gg*n+R2=R'/\DivS w G N n R2 l v wr)
    (λ_ c _=>R'+1-(zL c).toNat)
   case atStart=>exact⟨q0,_,rfl,HINIT.out.2,HINIT.out.1⟩
   case round=>
    clear HINIT;obtain⟨gg,R2,rfl,hsum,hS5⟩:=hrel;obtain⟨g5,c5,rfl,ho5⟩:=hS5.rem;have hR2:R2<=R':=by omega
    have hl5:(zaa B6 R2).length<=1000:=zO (zel hR2) (by rw[HL'.out];exact HR'.out.2.2.2);have hgg:gg<=R':=by have:=Nat.mul_le_mul_left gg (show 1<=n from hn0);omega
    have hg6:gg<1000000:=by
     rcases Nat.lt_or_ge gg 1000000 with h|h
     ·exact h
     ·have h1:=Nat.mul_le_mul_right n h
      have h2:R'<B6*n:=HR'.out.2.1;have:B6=1000000:=rfl;rw[this] at h2;omega
    have CZ:=hid (zlc _ _ R2 n wr (Sl.of_own ho5) (HB.out.below hS5.bel) hl5 (zO HLB.out (by omega)));rw[<-HD.out.1] at CZ;have HS5:=hid hS5;have HSUM:=hid hsum;have HGG:=hid hgg;clear hS5 ho5 hsum hgg hR2;generalize hL5:(zaa B6 R2).length=L5 at*
    have HL5:=hid hL5;clear hL5;go_wp21;refine zzM CZ.out λw6 hb6=>?_;have HS6:=hid (HS5.out.grow hb6);clear CZ HS5 hb6;by_cases hlt2:R2<n
    ·rw[zxj hlt2]
     have hfin:gg=R'/n/\R2=R'%n:=by
      have hs:=HSUM.out;constructor
      ·rw[<-hs,Nat.add_comm,Nat.add_mul_div_right _ _ hn0,Nat.div_eq_of_lt hlt2,Nat.zero_add]
      ·rw[<-hs,Nat.add_comm,Nat.add_mul_mod_self_right,zQ hlt2]
     have HFIN:=hid hfin;have hcell:=HS6.out.row.cell (getD_some (show j<l.length by omega));have hfz:=HS6.out.row.frozen j;clear hfin hlt2;generalize l[j]?.getD 0=z at*
     go_wp2;go_roundw
     case rel=>
      refine⟨k+1,by omega,by rw[<-HJ2.out],?_⟩;have e:za8 B6 n (zaa B6 m) (k+1)=(l.set j gg,R2):=by
       rw[HST.out];show(l.set j ((x+R*B6)/n),(x+R*B6)%n)=_;rw[HFIN.out.1,HFIN.out.2,HR'.out.1,yP R B6]
      rw[e];have:=HS6.out.store j gg;exact this
     case measure=>simp[zL]
    ·have h0:=zxk (show n<=R2 by omega)
     have hc2:¬ordN R2 n<0:=by omega
     have hMN:=zix _ _ (zaa B6 R2) (zaa B6 n) w6 HS6.out.sl (HB.out.below HS6.out.bel) (zak (by decide) _) SB.out (by rw[HL5.out];exact hl5) (zel (by omega)) (by rw[zam (by decide),zam (by decide)];omega);rw[zam (B:=B6) (by decide),zam (B:=B6) (by decide),<-HD.out.1] at hMN;have HMN:=hid hMN;have HGE:=hid (show n<=R2 by omega);clear hMN hlt2;generalize ordN R2 n=oc at*
     go_wp21;refine HMN.out.mono ?_;intro e w7 hr7;obtain⟨v7,rfl,hS7⟩:=HS6.out.next hr7;have HS7:=hid hS7;clear hr7 HMN hS7;go_wp2;go_roundw
     case rel=>exact⟨gg+1,R2-n,by go_num,by have:=HSUM.out;have:=HGE.out;rw[Nat.add_mul];omega,HS7.out⟩
     case measure=>have:=HGG.out;simp[zL];omega
  ·obtain rfl:k=N:=by omega
   have hend:(k:Int)-1-k= -1:=by omega
   rw[hend];obtain⟨f1,f2⟩:=zjq (B:=B6) (by decide) hn0 SA.out;rw[<-HN.out] at f1 f2 s1;rw[zam (B:=B6) (by decide)] at f1 f2;have hsl:=hS.row.sl;rw[s1] at hsl;obtain⟨gr,cr,rfl,hor⟩:=hS.rem;have hslr:=Sl.of_own hor;have HF:=hid (⟨f1,f2,s1,hslr,hS.bel⟩:_/\_/\_/\_/\_);have HSL:=hid hsl;clear f1 f2 s1 s2 s3 hsl hslr hS hor hend;generalize za8 B6 n (zaa B6 m) k=s at*
   obtain⟨l,R⟩:=s;dsimp only at*
   generalize hLR:(zaa B6 R).length=LR at*
   have HLR:=hid hLR;clear hLR;go_wp21;refine(zeb _ _ _ l wr HSL.out (by rw[HF.out.2.2.1];omega)).mono ?_;rintro e w1 ⟨rfl,rfl⟩;go_wp21;go_ret2;refine⟨_,_,rfl,?_,?_,HF.out.2.2.2.2⟩
   ·rw[<-HF.out.1]
    exact Sl.trim_at HSL.out HF.out.2.2.1
   ·rw[<-HF.out.2.1]
    exact HF.out.2.2.2.1
theorem zmi (va vb:Value) (m n:Nat) (w:zA) (ha:Sl w va ((zaa B6 m).map I)) (hb:Sl w vb ((zaa B6 n).map I)) (la:(zaa B6 m).length<=1000) (lb:(zaa B6 n).length<=990) (hn:0<n):
 zC zF 123 #[va,vb] w (λe w'=>∃v1 v2,e=.returned (.tuple #[v1,v2])/\Sl w' v1 ((zaa B6 (m/n)).map I)/\Sl w' v2 ((zaa B6 (m%n)).map I)/\zB w.heap.size w w'):=by
 rcases Nat.lt_or_ge n B6 with h|h
 ·exact ztg va vb m n w ha hb la hn h
 ·have h2:2<=(zaa B6 n).length:=by
   rcases Nat.lt_or_ge (zaa B6 n).length 2 with h'|h'
   ·have h1:=zgb (B:=B6) (by decide) n
    have h3:B6^(zaa B6 n).length<=B6^1:=yF (by decide) (by omega);rw[Nat.pow_one] at h3;omega
   ·exact h'
  exact zry va vb m n ((zaa B6 n).length-2) w ha hb la lb (by omega)
end
section
open Go.RowKit Go.Shelf Lib Str Limb
attribute [local go_sem] Oper.semAt_some
theorem put2 {Y:zA} {B:Nat} {t:TypeId} {x0 x1:Value} (h:Y.heap[B]? =some (.cells #[x0,x1] t (0,0))) (y0 y1:Value):((Y.setCell ⟨B,0,none⟩ y0).setCell ⟨B,1,none⟩ y1).heap[B]? =some (.cells #[y0,y1] t (0,0)):=by
 simp[World.setCell,Array.getElem?_modify,h]
theorem zvh (a:List UInt8):∀b:List UInt8,val (a++b)=val a*10^b.length+val b:=by
 intro b
 induction h:b.length generalizing b with
 |zero=>have:b=[]:=List.length_eq_zero_iff.1 h;subst this;simp[val]
 |succ k ih=>
  rcases Limb.snoc_cases b with rfl|⟨i,x,rfl⟩
  ·simp at h
  ·have hi:i.length=k:=by simpa using h
   rw[<-List.append_assoc,zde,ih i hi,zde,yO];rw[Nat.mul_add];have:10*(val a*10^k)=val a*(10^k*10):=by rw[Nat.mul_left_comm,yP 10]
   omega
def zc0 (n k:Nat):List Nat:=(List.range k).map λi=>n/B6^i%B6
theorem zmj (n k:Nat):zc0 n (k+1)=zc0 n k++[n/B6^k%B6]:=by simp[zc0,List.range_succ]
theorem zj6 (n k:Nat):(zc0 n k).length=k:=by simp[zc0]
theorem zr0 (n k:Nat):zal B6 (zc0 n k):=λx hx=>by
 obtain⟨i,_,rfl⟩:=List.mem_map.1 hx;exact zP _ (by decide)
theorem zn1 (n:Nat):∀k,valL B6 (zc0 n k)=n%B6^k
 |0=>by simp[zc0,valL,Nat.mod_one]
 |k+1=>by
  rw[zmj,zcm,zn1 n k,zj6,yO,Nat.mod_mul]
theorem zmk {n k:Nat} (h:n<B6^k):zat (zc0 n k)=zaa B6 n:=by
 rw[zbu (B:=B6) (by decide) (zr0 n k),zn1,zQ h]
theorem zr1 (n e:Nat) (_:e<=(zD n).length):val ((zD n).take e)=n/10^((zD n).length-e):=by
 have h1:=zvh ((zD n).take e) ((zD n).drop e);rw[List.take_append_drop,zb2,List.length_drop] at h1;have h2:=zjc ((zD n).drop e) (λc hc=>⟨(zan n c (List.mem_of_mem_drop hc)).1,(zan n c (List.mem_of_mem_drop hc)).2⟩);rw[List.length_drop] at h2;generalize (zD n).length-e=k at*
 have hp:0<10^k:=Nat.pow_pos (by omega)
 conv=>rhs;rw[h1]
 rw[yP,Nat.mul_add_div hp,Nat.div_eq_of_lt h2,Nat.add_zero]
theorem zxm (n k x:Nat) (hk:6*k<(zD n).length) (h:val ((zD n).take ((zD n).length-6*k))=val ((zD n).take ((zD n).length-6*k-6))*10^((zD n).length-6*k-((zD n).length-6*k-6))+x)
 (hx:x<10^((zD n).length-6*k-((zD n).length-6*k-6))):x=n/B6^k%B6:=by
 have e1:=zr1 n ((zD n).length-6*k) (by omega);rw[show(zD n).length-((zD n).length-6*k)=6*k by omega,Nat.pow_mul] at e1;have e2:n/B6^k=val ((zD n).take ((zD n).length-6*k)):=e1.symm;rw[e2];rcases Nat.lt_or_ge ((zD n).length-6*k) 6 with h6|h6
 ·have h0:(zD n).length-6*k-6=0:=by omega
  rw[h0] at h hx;rw[List.take_zero,z02,Nat.zero_mul,Nat.zero_add] at h;have:10^((zD n).length-6*k-0)<=10^6:=yF (by omega) (by omega);rw[h];exact(zQ (show x<B6 from zS hx this)).symm
 ·rw[show(zD n).length-6*k-((zD n).length-6*k-6)=6 by omega] at h hx
  rw[h,yP];show x=(B6*_+x)%B6;rw[Nat.mul_add_mod];exact(zQ (show x<B6 from hx)).symm
theorem zxn (n k:Nat) (h:(zD n).length<=6*k):n<B6^k:=by
 have h1:n<10^(zD n).length:=by
  have:=zjc (zD n) (λc hc=>zan n c hc);rwa [zb2] at this
 have h2:10^(zD n).length<=10^(6*k):=yF (by omega) h;rw[Nat.pow_mul] at h2;exact zS h1 h2
structure ReadS (w:zA) (neg:Bool) (n k:Nat) (v:Value) (W:zA):Prop where
 bel:qL w W
 rb:W.heap[w.heap.size]? =some (.cells #[.bool false,.slice none 0 0] 180 (0,0))
 xb:W.heap[w.heap.size+1]? =some (.cells #[.bool neg,v] 180 (0,0))
 own:W.ownsRow (w.heap.size+2) 3 1 v k ((zc0 n k).map I)
theorem ReadS.c1 {w:zA} {neg:Bool} {n k:Nat} {v:Value} {W:zA} (h:ReadS w neg n k v W):W.cell? ⟨w.heap.size+1,1,none⟩=some v/\W.frozen? ⟨w.heap.size+1,1,none⟩=false/\W.cell? ⟨w.heap.size+1,0,none⟩=some (.bool neg):=by
 refine⟨?_,?_,?_⟩<;>simp[World.cell?,World.frozen?,h.xb]
theorem ReadS.r {w:zA} {neg:Bool} {n k:Nat} {v:Value} {W:zA} (h:ReadS w neg n k v W):W.cell? ⟨w.heap.size,0,none⟩=some (.bool false)/\W.frozen? ⟨w.heap.size,0,none⟩=false/\W.cell? ⟨w.heap.size,1,none⟩=some (.slice none 0 0)/\W.frozen? ⟨w.heap.size,1,none⟩=false:=by
 refine⟨?_,?_,?_,?_⟩<;>simp[World.cell?,World.frozen?,h.rb]
theorem ReadS.step {w:zA} {neg:Bool} {n k:Nat} {v v':Value} {W W':zA} (h:ReadS w neg n k v W) (x:Nat) (hx:x=n/B6^k%B6)
 (hown:W'.ownsRow (w.heap.size+2) 3 1 v' (k+1) ((zc0 n k).map I++[.int .i64 x])) (hb:zB (w.heap.size+2) W W'):
 ReadS w neg n (k+1) v' (W'.setCell ⟨w.heap.size+1,1,none⟩ v'):=by
 refine⟨(h.bel.trans (hb.mono (by omega))).setCell (by show w.heap.size<=w.heap.size+1;omega) _,?_,?_,?_⟩
 ·exact(yE _ ⟨w.heap.size+1,1,none⟩ _ w.heap.size (by show w.heap.size≠w.heap.size+1;omega)).trans ((hb.block _ (by omega)).trans h.rb)
 ·have:=(hb.block (w.heap.size+1) (by omega)).trans h.xb
  simp[World.setCell,Array.getElem?_modify,this]
 ·have:=zmh (p:=⟨w.heap.size+1,1,none⟩) hown (by show w.heap.size+1<w.heap.size+2;omega) v'
  rw[zmj,<-hx,List.map_append];exact this
theorem zcp (z:Int) (w:zA) (hl:digs z<=700):
 zC zF 122 #[St (zE z)] w λe w'=>∃v,e=.returned (.agg #[.bool (decide (z<0)),v])/\Sl w' v ((zaa B6 z.natAbs).map I)/\zB w.heap.size w w':=by
 obtain⟨i0,hi,hz0,hz1,hz2⟩:=info_parts zdv;obtain⟨n,hn⟩:=zzX z.natAbs;have hl2:(zD n).length<=700:=by rw[hn];exact hl
 have hd:=zan n;have hpos:1<=(zD n).length:=by have:=zbn (n:Int);unfold digs at this;simpa using this
 have CV:=hid (zxm n);have CE:=hid (zxn n);obtain⟨l,hll⟩:=zzX (zD n);rw[<-hll] at hd hl2 hpos CV CE;obtain⟨s,hs⟩:=zzX (⟨l.toArray⟩:ByteArray);obtain⟨b1,b2⟩:=zdd l s hs;have hst:∀k (hb:k<s.size),48<=(s[k]'hb).toNat/\(s[k]'hb).toNat<=57/\val (l.take (k+1))=10*val (l.take k)+((s[k]'hb).toNat-48):=λk hb=>by
  have hk:k<l.length:=by omega
  rw[b2 k hk hb,List.take_succ_eq_append_getElem hk,zde];exact⟨(hd _ (zY hk)).1,(hd _ (zY hk)).2,rfl⟩
 rw[<-b1] at CV CE;generalize hvf:(λk=>val (l.take k))=vf at*
 have ST:=hid (show ∀k (hb:k<s.size),48<=(s[k]'hb).toNat/\(s[k]'hb).toNat<=57/\vf (k+1)=10*vf k+((s[k]'hb).toNat-48) by rw[<-hvf];exact hst);have CV2:=hid (show ∀k x,6*k<s.size->vf (s.size-6*k)=vf (s.size-6*k-6)*10^(s.size-6*k-(s.size-6*k-6))+x->x<10^(s.size-6*k-(s.size-6*k-6))->x=n/B6^k%B6 by rw[<-hvf];exact CV.out);have hs0:0<s.size:=by omega
 have hs7:s.size<=700:=by omega
 clear hst hvf CV;have hhead:(0<=z/\zE z=l)\/(z<0/\zE z=45::l):=by
  rcases zbg z with⟨h,e⟩|⟨h,e⟩
  ·exact .inl ⟨h,by rw[e,hll,hn]⟩
  ·exact .inr ⟨h,by rw[e,hll,hn]⟩
 rcases hhead with⟨hzn,he⟩|⟨hzn,he⟩
 ·have hdec:decide (z<0)=false:=by rw[decide_eq_false_iff_not];omega
  rw[he,hdec,<-hn];show zC _ _ #[.string ⟨l.toArray⟩] _ _;rw[<-hs];have h45:(((s[0]'hs0).toNat:Int)==45)=false:=by rw[beq_eq_false_iff_ne];have:=(ST.out 0 hs0).1;omega
  have hI:ReadS w false n 0 (.slice none 0 0) ((w.alloc (.cells #[.bool false,.slice none 0 0] 180)).alloc (.cells #[.bool false,.slice none 0 0] 180)):=by
   refine⟨((zM _ w).alloc (zN _) _).alloc (by simp) _,?_,?_,?_⟩
   ·exact(Below.heap_alloc _ _ _ (by simp)).trans (heap_alloc_new w _)
   ·have:=heap_alloc_new (w.alloc (.cells #[.bool false,.slice none 0 0] 180)) (.cells #[.bool false,.slice none 0 0] 180)
    rwa [World.size_alloc] at this
   ·exact World.ownsRow_nil _ _ _ _
  have HI:=hid hI;clear hI b1 b2 hs hll hd hpos hl2 he hl hn hzn hdec;go_enter Tryz.func122,Tryz.ntmps122;go_wp2;go_loopw [4] (λi wr=>∃(k:Nat) (v:Value),i=.int .i64 ((s.size:Int)-6*k)/\6*k<s.size+6/\ReadS w false n k v wr) (λi _=>(zL i+6).toNat)
  case atStart=>exact⟨0,_,by simp,by omega,HI.out⟩
  case round=>
   clear HI h45;obtain⟨k,v,rfl,hk,hS⟩:=hrel;obtain⟨c1,f1, -⟩:=hS.c1;by_cases hlt:6*k<s.size
   ·obtain⟨e,he⟩:=zzX (s.size-6*k)
    obtain⟨f,hf⟩:=zzX (e-6);have hE:(s.size:Int)-6*k=(e:Int):=by omega
    rw[hE];have hm:max (0:Int) ((e:Int)-6)=(f:Int):=by omega
    have hef:e-f<=6:=by omega
    have hfe:f<=e:=by omega
    have hes:e<=s.size:=by omega
    have he0:0<e:=by omega
    have CVk:=CV2.out k;rw[<-he,<-hf] at CVk;have HCV:=hid CVk;have HE:=hid hE;have HS:=hid hS;clear hE CVk hS hf c1 f1 he;go_wp2;go_loopw [5,6] (λa i wr'=>wr'=wr/\∃j x:Nat,f<=j/\j<=e/\i=.int .i64 j/\a=.int .i64 x/\vf j=vf f*10^(j-f)+x/\x<10^(j-f)) (λ_ i _=>e-(zL i).toNat)
    case atStart=>exact⟨rfl,f,0,zN _,hfe,rfl,rfl,by simp,by simp⟩
    case round=>
     obtain⟨hw',j,x,hj1,hj2,rfl,rfl,hv,hx⟩:=hrel;subst hw';have hx6:x<1000000:=zS hx (yF (by omega) (by omega):10^(j-f)<=10^6);by_cases hje:j<e
     ·have hjs:j<s.size:=by omega
      obtain⟨d1',d2',d3⟩:=ST.out j hjs;have HV:=hid (show vf (j+1)=vf f*10^(j+1-f)+(10*x+((s[j]'hjs).toNat-48))/\10*x+((s[j]'hjs).toNat-48)<10^(j+1-f) by
       rw[show j+1-f=(j-f)+1 by omega,yO,d3,hv];constructor
       ·rw[Nat.mul_add,<-Nat.mul_assoc,yP 10,Nat.mul_assoc,yP 10];omega
       ·omega)
      have d1:(48:Int)<=((s[j]'hjs).toNat:Int):=by omega
      have d2:((s[j]'hjs).toNat:Int)<=57:=by omega
      clear hv hx d3;go_wp2;go_roundw
      case rel=>exact⟨by first|rfl|trivial,j+1,10*x+((s[j]'hjs).toNat-48),by omega,by omega,by go_num,by show Value.int .i64 _=Value.int .i64 _;congr 1;omega,HV.out.1,HV.out.2⟩
      case measure=>simp[zL];omega
     ·obtain rfl:j=e:=by omega
      have hxc:=HCV.out x hlt hv hx;have HX:=hid hxc;obtain⟨c1,f1, -⟩:=HS.out.c1;have hsz:w.heap.size+2<=wr.heap.size:=by
       have h1:=(Array.getElem?_eq_some_iff.1 HS.out.xb).1;omega
      clear hv hx hxc;go_wp2_with (at_builtin;refine wpList_append_own _ rfl _ _ 146 rfl (w.heap.size+2) 3 i0 (.int .i64 0) 1 8 Tryz.underlying146 hi hz0 hz1 hz2 rfl (by decide) _ _ _ rfl (HS.out.own.alloc _) ⟨wr.heap.size,0,none⟩ 1 1 [.int .i64 (x:Int)] rfl rfl (zep _ _ _) (zfn _) (by unfold maxLen;omega) (by omega) (by simp;omega) ?_);intro v' w1 hown' hgrow _;obtain⟨vp',vm',vc',rfl⟩:=zg0 hown';have hb1:zB (w.heap.size+2) wr w1:=((zM (w.heap.size+2) wr).alloc hsz _).grown hgrow (by simp;omega) (λq e=>(HS.out.own.lt q e).1);have hxb:=(hb1.block (w.heap.size+1) (by omega)).trans HS.out.xb;have k1:w1.cell? ⟨w.heap.size+1,1,none⟩=some v:=by simp[World.cell?,hxb]
      have k2:w1.frozen? ⟨w.heap.size+1,1,none⟩=false:=by simp[World.frozen?,hxb]
      have HN:=hid (HS.out.step x HX.out hown' hb1);clear hgrow hown' hb1 hxb c1 f1 hsz;go_wp2;go_roundw
      case rel=>exact⟨k+1,_,by have:=HE.out;show Value.int .i64 _=Value.int .i64 _;congr 1;omega,by omega,HN.out⟩
      case measure=>simp[zL];omega
   ·have hle:¬(0:Int)<(s.size:Int)-6*k:=by omega
    have hch:=CE.out k (by omega);obtain⟨vp,vm,vc,rfl⟩:=zg0 hS.own;have hlen:=zj6 n k;have hk2:k<=200:=by omega
    have hrr:=hS.r;obtain⟨r0,fr0,r1,fr1⟩:=hrr;obtain⟨-, -,c0⟩:=hS.c1;have T:=hid (zeb vp vm vc (zc0 n k) wr (Sl.of_own hS.own) (by rw[hlen];omega));have hst:Sl wr (.slice vp (zat (zc0 n k)).length vc) ((zat (zc0 n k)).map I):=Sl.of_own (zh4 hS.own hlen);rw[zmk hch] at T hst;have HST:=hid hst;have HB:=hid hS.bel;have hne:w.heap.size≠w.heap.size+1:=by omega
    have hne2:w.heap.size+1≠w.heap.size:=by omega
    clear hS hst hch hlen hlt hk hk2;go_wp21;refine zzM T.out λw9 hw9=>?_;have hw9':=hw9.symm;subst hw9';clear T hw9;generalize hLL:(zaa B6 n).length=LL at*
    have d0:=(zau _ (b:=w.heap.size) (b':=w.heap.size+1) 0 1 (.slice vp LL vc) hne).trans r0;have d1:=(zau _ (b:=w.heap.size) (b':=w.heap.size+1) 1 1 (.slice vp LL vc) hne).trans r1;have e1:=(World.cell?_setCell_other _ _ _ (.bool false) (show(⟨w.heap.size,0,none⟩:Addr)≠⟨w.heap.size,1,none⟩ by simp)).trans d1;have e0:=za9 (u:=.bool false) d0;have g0:=((World.cell?_setCell_other _ _ _ (.slice vp LL vc) (show(⟨w.heap.size,1,none⟩:Addr)≠⟨w.heap.size,0,none⟩ by simp)).trans e0);have g1:=(za9 (u:=.slice vp LL vc) e1);have hs1:=HST.out.set c1 (λx=>by simp[I]) (.slice vp LL vc);have hs2:=hs1.set d0 (λx=>by simp[I]) (.bool false);have hs3:=hid (hs2.set e1 (λx=>by simp[I]) (.slice vp LL vc));have hB3:=hid (((HB.out.setCell (p:=⟨w.heap.size+1,1,none⟩) (by show w.heap.size<=w.heap.size+1;omega) (.slice vp LL vc)).setCell (p:=⟨w.heap.size,0,none⟩) (zN _) (.bool false)).setCell (p:=⟨w.heap.size,1,none⟩) (zN _) (.slice vp LL vc));have G:=hid (⟨g0,g1⟩:_/\_);clear hs1 hs2 d0 d1 e0 e1 g0 g1;go_wp2;have g0:=G.out.1;have g1:=G.out.2;exact bodyPost_ret (v:=.agg #[.bool false,.slice vp LL vc]) (by simp[results,Tryz.results122,go_sem,g0,g1]) rfl ⟨_,rfl,hs3.out,hB3.out⟩
 ·have hdec:decide (z<0)=true:=by rw[decide_eq_true_iff];exact hzn
  rw[he,hdec,<-hn];obtain⟨t,ht⟩:=zzX (⟨(45::l).toArray⟩:ByteArray);obtain⟨t1,t2⟩:=zdd (45::l) t ht;have hts:t.size=s.size+1:=by rw[t1,b1];simp
  have ht0:0<t.size:=by omega
  have htb:t.size<=701:=by omega
  have hx:t.extract 1 t.size=s:=by rw[ht,zev,hs];rfl
  show zC _ _ #[.string ⟨(45::l).toArray⟩] _ _;rw[<-ht];have h45:(((t[0]'ht0).toNat:Int)==45)=true:=by rw[t2 0 (by simp) ht0];rfl
  have hI:ReadS w true n 0 (.slice none 0 0) ((w.alloc (.cells #[.bool false,.slice none 0 0] 180)).alloc (.cells #[.bool true,.slice none 0 0] 180)):=by
   refine⟨((zM _ w).alloc (zN _) _).alloc (by simp) _,?_,?_,?_⟩
   ·exact(Below.heap_alloc _ _ _ (by simp)).trans (heap_alloc_new w _)
   ·have:=heap_alloc_new (w.alloc (.cells #[.bool false,.slice none 0 0] 180)) (.cells #[.bool true,.slice none 0 0] 180)
    rwa [World.size_alloc] at this
   ·exact World.ownsRow_nil _ _ _ _
  have HI:=hid hI;clear hI b1 b2 hs hll hd hpos hl2 he hl hn hzn hdec ht t1 t2 hts;go_enter Tryz.func122,Tryz.ntmps122;go_wp2;clear hx h45;go_loopw [4] (λi wr=>∃(k:Nat) (v:Value),i=.int .i64 ((s.size:Int)-6*k)/\6*k<s.size+6/\ReadS w true n k v wr) (λi _=>(zL i+6).toNat)
  case atStart=>exact⟨0,_,by simp,by omega,HI.out⟩
  case round=>
   clear HI;obtain⟨k,v,rfl,hk,hS⟩:=hrel;obtain⟨c1,f1, -⟩:=hS.c1;by_cases hlt:6*k<s.size
   ·obtain⟨e,he⟩:=zzX (s.size-6*k)
    obtain⟨f,hf⟩:=zzX (e-6);have hE:(s.size:Int)-6*k=(e:Int):=by omega
    rw[hE];have hm:max (0:Int) ((e:Int)-6)=(f:Int):=by omega
    have hef:e-f<=6:=by omega
    have hfe:f<=e:=by omega
    have hes:e<=s.size:=by omega
    have he0:0<e:=by omega
    have CVk:=CV2.out k;rw[<-he,<-hf] at CVk;have HCV:=hid CVk;have HE:=hid hE;have HS:=hid hS;clear hE CVk hS hf c1 f1 he;go_wp2;go_loopw [5,6] (λa i wr'=>wr'=wr/\∃j x:Nat,f<=j/\j<=e/\i=.int .i64 j/\a=.int .i64 x/\vf j=vf f*10^(j-f)+x/\x<10^(j-f)) (λ_ i _=>e-(zL i).toNat)
    case atStart=>exact⟨rfl,f,0,zN _,hfe,rfl,rfl,by simp,by simp⟩
    case round=>
     obtain⟨hw',j,x,hj1,hj2,rfl,rfl,hv,hx⟩:=hrel;subst hw';have hx6:x<1000000:=zS hx (yF (by omega) (by omega):10^(j-f)<=10^6);by_cases hje:j<e
     ·have hjs:j<s.size:=by omega
      obtain⟨d1',d2',d3⟩:=ST.out j hjs;have HV:=hid (show vf (j+1)=vf f*10^(j+1-f)+(10*x+((s[j]'hjs).toNat-48))/\10*x+((s[j]'hjs).toNat-48)<10^(j+1-f) by
       rw[show j+1-f=(j-f)+1 by omega,yO,d3,hv];constructor
       ·rw[Nat.mul_add,<-Nat.mul_assoc,yP 10,Nat.mul_assoc,yP 10];omega
       ·omega)
      have d1:(48:Int)<=((s[j]'hjs).toNat:Int):=by omega
      have d2:((s[j]'hjs).toNat:Int)<=57:=by omega
      clear hv hx d3;go_wp2;go_roundw
      case rel=>exact⟨by first|rfl|trivial,j+1,10*x+((s[j]'hjs).toNat-48),by omega,by omega,by go_num,by show Value.int .i64 _=Value.int .i64 _;congr 1;omega,HV.out.1,HV.out.2⟩
      case measure=>simp[zL];omega
     ·obtain rfl:j=e:=by omega
      have hxc:=HCV.out x hlt hv hx;have HX:=hid hxc;obtain⟨c1,f1, -⟩:=HS.out.c1;have hsz:w.heap.size+2<=wr.heap.size:=by
       have h1:=(Array.getElem?_eq_some_iff.1 HS.out.xb).1;omega
      clear hv hx hxc;go_wp2_with (at_builtin;refine wpList_append_own _ rfl _ _ 146 rfl (w.heap.size+2) 3 i0 (.int .i64 0) 1 8 Tryz.underlying146 hi hz0 hz1 hz2 rfl (by decide) _ _ _ rfl (HS.out.own.alloc _) ⟨wr.heap.size,0,none⟩ 1 1 [.int .i64 (x:Int)] rfl rfl (zep _ _ _) (zfn _) (by unfold maxLen;omega) (by omega) (by simp;omega) ?_);intro v' w1 hown' hgrow _;obtain⟨vp',vm',vc',rfl⟩:=zg0 hown';have hb1:zB (w.heap.size+2) wr w1:=((zM (w.heap.size+2) wr).alloc hsz _).grown hgrow (by simp;omega) (λq e=>(HS.out.own.lt q e).1);have hxb:=(hb1.block (w.heap.size+1) (by omega)).trans HS.out.xb;have k1:w1.cell? ⟨w.heap.size+1,1,none⟩=some v:=by simp[World.cell?,hxb]
      have k2:w1.frozen? ⟨w.heap.size+1,1,none⟩=false:=by simp[World.frozen?,hxb]
      have HN:=hid (HS.out.step x HX.out hown' hb1);clear hgrow hown' hb1 hxb c1 f1 hsz;go_wp2;go_roundw
      case rel=>exact⟨k+1,_,by have:=HE.out;show Value.int .i64 _=Value.int .i64 _;congr 1;omega,by omega,HN.out⟩
      case measure=>simp[zL];omega
   ·have hle:¬(0:Int)<(s.size:Int)-6*k:=by omega
    have hch:=CE.out k (by omega);obtain⟨vp,vm,vc,rfl⟩:=zg0 hS.own;have hlen:=zj6 n k;have hk2:k<=200:=by omega
    have hrr:=hS.r;obtain⟨r0,fr0,r1,fr1⟩:=hrr;obtain⟨-, -,c0⟩:=hS.c1;have T:=hid (zeb vp vm vc (zc0 n k) wr (Sl.of_own hS.own) (by rw[hlen];omega));have hst:Sl wr (.slice vp (zat (zc0 n k)).length vc) ((zat (zc0 n k)).map I):=Sl.of_own (zh4 hS.own hlen);rw[zmk hch] at T hst;have HST:=hid hst;have HB:=hid hS.bel;have hne:w.heap.size≠w.heap.size+1:=by omega
    have hne2:w.heap.size+1≠w.heap.size:=by omega
    clear hS hst hch hlen hlt hk hk2;go_wp21;refine zzM T.out λw9 hw9=>?_;have hw9':=hw9.symm;subst hw9';clear T hw9;generalize hLL:(zaa B6 n).length=LL at*
    have d0:=(zau _ (b:=w.heap.size) (b':=w.heap.size+1) 0 1 (.slice vp LL vc) hne).trans r0;have d1:=(zau _ (b:=w.heap.size) (b':=w.heap.size+1) 1 1 (.slice vp LL vc) hne).trans r1;have e1:=(World.cell?_setCell_other _ _ _ (.bool true) (show(⟨w.heap.size,0,none⟩:Addr)≠⟨w.heap.size,1,none⟩ by simp)).trans d1;have e0:=za9 (u:=.bool true) d0;have g0:=((World.cell?_setCell_other _ _ _ (.slice vp LL vc) (show(⟨w.heap.size,1,none⟩:Addr)≠⟨w.heap.size,0,none⟩ by simp)).trans e0);have g1:=(za9 (u:=.slice vp LL vc) e1);have hs1:=HST.out.set c1 (λx=>by simp[I]) (.slice vp LL vc);have hs2:=hs1.set d0 (λx=>by simp[I]) (.bool true);have hs3:=hid (hs2.set e1 (λx=>by simp[I]) (.slice vp LL vc));have hB3:=hid (((HB.out.setCell (p:=⟨w.heap.size+1,1,none⟩) (by show w.heap.size<=w.heap.size+1;omega) (.slice vp LL vc)).setCell (p:=⟨w.heap.size,0,none⟩) (zN _) (.bool true)).setCell (p:=⟨w.heap.size,1,none⟩) (zN _) (.slice vp LL vc));have G:=hid (⟨g0,g1⟩:_/\_);clear hs1 hs2 d0 d1 e0 e1 g0 g1;go_wp2;have g0:=G.out.1;have g1:=G.out.2;exact bodyPost_ret (v:=.agg #[.bool true,.slice vp LL vc]) (by simp[results,Tryz.results122,go_sem,g0,g1]) rfl ⟨_,rfl,hs3.out,hB3.out⟩
theorem zi1 (m:Bool) (p:Option Addr) (c:Nat) (w:zA):
 qJ 124 #[.agg #[.bool m,.slice p 0 c]] w (.string ⟨#[48]⟩):=by
 have hb1:qL w (w.alloc (.cells #[.bool m,.slice p 0 c] 180)):=(zM _ w).alloc (zN _) _;have HB:=hid hb1;clear hb1;go_enter Tryz.func124,Tryz.ntmps124;go_wp2;go_ret;exact⟨rfl,HB.out⟩
theorem zn2 (m:Bool) (vx:Value) (n:Nat) (w:zA) (hx:Sl w vx ((zaa B6 n).map I)) (lx:(zaa B6 n).length<=200):
 qJ 124 #[.agg #[.bool m,vx]] w (St (zE (sgn m n))):=by
 rcases Nat.eq_zero_or_pos n with rfl|h
 ·obtain⟨p,c,rfl, -⟩:=hx
  rw[zaz];have e:zE (sgn m 0)=[48]:=by rw[show sgn m 0=((0:Nat):Int) by cases m<;>simp[sgn],Str.zad];decide+kernel
  rw[e];exact zi1 m p c w
 ·exact zvd m vx n h w hx lx
theorem zw9 (m:Bool) (vx:Value) (n:Nat) (w:zA) (hx:Sl w vx ((zaa B6 n).map I)) (lx:(zaa B6 n).length<=200) (hd:digs (sgn m n)<=300):
 qJ 224 #[.agg #[.bool m,vx]] w (.tuple #[St (zE (sgn m n)),.int .i64 0]):=by
 obtain⟨px,cx,rfl, -⟩:=id hx;simp only[zV] at*
 obtain⟨W1,hW1⟩:=zzX (w.alloc (.cells #[.bool m,.slice px (zaa B6 n).length cx] 180));have hb1:qL w W1:=by rw[hW1];exact(zM _ w).alloc (zN _) _
 have hw:=zn2 m _ n W1 (hx.below hb1) lx;have hc:=λW=>zh6 (sgn m n) hd W;generalize (zaa B6 n).length=L at*
 generalize zE (sgn m n)=s at*
 have HW:=hid hw;have HC:=hid hc;have HB:=hid hb1;have HW1:=hid hW1;clear hw hc hb1 hW1 hx hd lx;go_enter Tryz.func224,Tryz.ntmps224;go_wp21;rw[<-HW1.out];refine zzM HW.out λw2 hb2=>?_;have HB2:=qT HB hb2;clear hb2;go_wp21;refine zzM (HC.out w2) λw3 hw3=>?_;subst hw3;go_wp21;go_ret2;exact⟨rfl,HB2.out⟩
theorem zc6 (z:Int) (k:Nat) (hk:0<k) (h:digs z<=6*k):(zaa B6 z.natAbs).length<=k:=by
 apply zfv (B:=B6) (by decide);have:=(za3 z (6*k) (by omega)).1 h;rwa [Nat.pow_mul] at this
theorem zve {z:Int} {k:Nat} (hk:0<k) (h:(zE z).length<=k):z.natAbs<10^k:=
 (za3 z k hk).1 (zO (zbr z) h)
theorem z2c (x y:Int) (hx:(zE x).length<=17) (hy:(zE y).length<=17) (hxy:(zE x).length+(zE y).length<=18) (w:zA) (hw:Wd w):
 qJ 223 #[St (zE x),St (zE y)] w (.tuple #[St (zE (x*y)),.int .i64 0]):=by
 have ax:=zve (by omega) hx;have ay:=zve (by omega) hy;have hux:(zE x).length<=17:=hx;have huy:(zE y).length<=17:=hy;have c1:=λW=>zcb x y (zO (zbr x) (by omega)) (zO (zbr y) (by omega)) W;have c2:=λW=>ze3 x y hx hy W;have hp:(x*y).natAbs<1000000000000000000:=by
  rw[Int.natAbs_mul];have hlx:1<=(zE x).length:=zO (zbn x) (zbr x);have hly:1<=(zE y).length:=zO (zbn y) (zbr y);have h1:=zve (z:=x) hlx (zN _);have h2:=zve (z:=y) hly (zN _);have h3:=Nat.mul_lt_mul'' h1 h2;rw[<-Nat.pow_add] at h3;exact zS h3 (zO (yF (by omega) hxy) (by decide))
 have c3:=zb3 (x*y) (by omega) (by omega) w hw;have e1:IntKind.i64.wrap (x*y)=x*y:=zI _ (by omega);have hsum:((zE x).length:Int)+(zE y).length<=18:=by omega
 generalize zE x=u at*
 generalize zE y=v at*
 generalize zE (x*y)=t at*
 have C1:=hid c1;have C2:=hid c2;have C3:=hid c3;clear c1 c2 c3 hx hy ax ay hp hxy;go_enter Tryz.func223,Tryz.ntmps223;go_wp21;refine zzM (C1.out w) λw1 hw1=>?_;subst hw1;go_wp21;refine zzM (C2.out w1) λw2 hw2=>?_;subst hw2;go_wp21;refine zzM C3.out λw3 hb3=>?_;go_wp21;go_ret2;exact⟨rfl,hb3⟩
theorem z29 (x y:Int) (h:17<(zE x).length\/17<(zE y).length) (hx:digs x<=300) (hy:digs y<=300) (hz:digs (x*y)<=300) (w:zA):
 qJ 223 #[St (zE x),St (zE y)] w (.tuple #[St (zE (x*y)),.int .i64 0]):=by
 have c1:=λW=>zcb x y hx hy W;have c2:=λW=>zf5 x y h (zO (za7 x) (by omega)) (zO (za7 y) (by omega)) W;have c3:=λW=>zcp x W (by omega);have c4:=λW=>zcp y W (by omega);have bx:=zc6 x 50 (by omega) hx;have by':=zc6 y 50 (by omega) hy;have c5:=λvx vy W h1 h2=>zz8 (decide (x<0)) (decide (y<0)) vx vy x.natAbs y.natAbs W h1 h2 (by omega) (by omega);rw[zcs,zcs] at c5;have c6:=λm v n (hs:sgn m n=x*y) W h1=>zw9 m v n W h1 (by
  have:=zc6 (x*y) 50 (by omega) hz;rw[<-hs,zge] at this;omega) (by rw[hs];exact hz)
 have C1:=hid c1;have C2:=hid c2;have C3:=hid c3;have C4:=hid c4;have C5:=hid c5;have C6:=hid (show ∀m v n,sgn m n=x*y->∀W:zA,Sl W v ((zaa B6 n).map I)->qJ 224 #[.agg #[.bool m,v]] W (.tuple #[St (zE (x*y)),.int .i64 0]) from λm v n hs W h1=>by
  have:=c6 m v n hs W h1;rw[hs] at this;exact this)
 clear c1 c2 c3 c4 c5 c6 hx hy hz h bx by';generalize zE x=u at*
 generalize zE y=v at*
 generalize zE (x*y)=t at*
 generalize decide (x<0)=mx at*
 generalize decide (y<0)=my at*
 go_enter Tryz.func223,Tryz.ntmps223;go_wp21;refine zzM (C1.out w) λw1 hw1=>?_;subst hw1;go_wp21;refine(C2.out w1).mono ?_;rintro e w2 ⟨⟨a,b,rfl⟩,hw2⟩;subst hw2;go_wp21;refine(C3.out w2).mono ?_;rintro e w3 ⟨vx,rfl,hsx,hb3⟩;have H3:=hid (⟨hsx,hb3⟩:_/\_);clear hsx hb3;go_wp21;refine(C4.out w3).mono ?_;rintro e w4 ⟨vy,rfl,hsy,hb4⟩;have H4:=hid (⟨H3.out.1.below hb4,hsy,H3.out.2.trans (hb4.mono H3.out.2.size)⟩:_/\_/\_);clear hsy hb4 H3;go_wp21;refine(C5.out vx vy w4 H4.out.1 H4.out.2.1).mono ?_;rintro e w5 ⟨m,vz,n,rfl,hs,hsz,hb5⟩;have H5:=hid (⟨hs,hsz,H4.out.2.2.trans (hb5.mono H4.out.2.2.size)⟩:_/\_/\_);clear hs hsz hb5 H4;go_wp21;refine zzM (C6.out m vz n H5.out.1 w5 H5.out.2.1) λw6 hb6=>?_;have H6:=hid (H5.out.2.2.trans (hb6.mono H5.out.2.2.size));clear hb6 H5;go_wp21;go_ret2;exact⟨rfl,H6.out⟩
theorem z4a (x y:Int) (h1:(zE x).length<=17) (h2:(zE y).length<=17) (h:18<(zE x).length+(zE y).length) (hx:digs x<=300) (hy:digs y<=300) (hz:digs (x*y)<=300) (w:zA):
 qJ 223 #[St (zE x),St (zE y)] w (.tuple #[St (zE (x*y)),.int .i64 0]):=by
 have c1:=λW=>zcb x y hx hy W;have c2:=λW=>ze3 x y h1 h2 W;have hsum:¬((zE x).length:Int)+(zE y).length<=18:=by omega
 have hux:(zE x).length<=17:=h1;have huy:(zE y).length<=17:=h2;have c3:=λW=>zcp x W (by omega);have c4:=λW=>zcp y W (by omega);have bx:=zc6 x 50 (by omega) hx;have by':=zc6 y 50 (by omega) hy;have c5:=λvx vy W h1 h2=>zz8 (decide (x<0)) (decide (y<0)) vx vy x.natAbs y.natAbs W h1 h2 (by omega) (by omega);rw[zcs,zcs] at c5;have c6:=λm v n (hs:sgn m n=x*y) W h1=>zw9 m v n W h1 (by
  have:=zc6 (x*y) 50 (by omega) hz;rw[<-hs,zge] at this;omega) (by rw[hs];exact hz)
 have C1:=hid c1;have C2:=hid c2;have C3:=hid c3;have C4:=hid c4;have C5:=hid c5;have C6:=hid (show ∀m v n,sgn m n=x*y->∀W:zA,Sl W v ((zaa B6 n).map I)->qJ 224 #[.agg #[.bool m,v]] W (.tuple #[St (zE (x*y)),.int .i64 0]) from λm v n hs W h1=>by
  have:=c6 m v n hs W h1;rw[hs] at this;exact this)
 clear c1 c2 c3 c4 c5 c6 hx hy hz h h1 h2 bx by';generalize zE x=u at*
 generalize zE y=v at*
 generalize zE (x*y)=t at*
 generalize decide (x<0)=mx at*
 generalize decide (y<0)=my at*
 go_enter Tryz.func223,Tryz.ntmps223;go_wp21;refine zzM (C1.out w) λw1 hw1=>?_;subst hw1;go_wp21;refine zzM (C2.out w1) λw2 hw2=>?_;subst hw2;go_wp21;refine(C3.out w2).mono ?_;rintro e w3 ⟨vx,rfl,hsx,hb3⟩;have H3:=hid (⟨hsx,hb3⟩:_/\_);clear hsx hb3;go_wp21;refine(C4.out w3).mono ?_;rintro e w4 ⟨vy,rfl,hsy,hb4⟩;have H4:=hid (⟨H3.out.1.below hb4,hsy,H3.out.2.trans (hb4.mono H3.out.2.size)⟩:_/\_/\_);clear hsy hb4 H3;go_wp21;refine(C5.out vx vy w4 H4.out.1 H4.out.2.1).mono ?_;rintro e w5 ⟨m,vz,n,rfl,hs,hsz,hb5⟩;have H5:=hid (⟨hs,hsz,H4.out.2.2.trans (hb5.mono H4.out.2.2.size)⟩:_/\_/\_);clear hs hsz hb5 H4;go_wp21;refine zzM (C6.out m vz n H5.out.1 w5 H5.out.2.1) λw6 hb6=>?_;have H6:=hid (H5.out.2.2.trans (hb6.mono H5.out.2.2.size));clear hb6 H5;go_wp21;go_ret2;exact⟨rfl,H6.out⟩
theorem z4f (x y:Int) (hx:digs x<=300) (hy:digs y<=300) (hz:digs (x*y)<=300) (w:zA) (hw:Wd w):
 qJ 223 #[St (zE x),St (zE y)] w (.tuple #[St (zE (x*y)),.int .i64 0]):=by
 by_cases h:17<(zE x).length\/17<(zE y).length
 ·exact z29 x y h hx hy hz w
 ·by_cases h2:(zE x).length+(zE y).length<=18
  ·exact z2c x y (by omega) (by omega) h2 w hw
  ·exact z4a x y (by omega) (by omega) (by omega) hx hy hz w
theorem zvk (x y:Int) (hx:(zE x).length<=17) (hy:(zE y).length<=17) (w:zA) (hw:Wd w):
 qJ 73 #[St (zE x),St (zE y)] w (.tuple #[St (zE (Int.gcd x y:Int)),.int .i64 0]):=by
 obtain⟨x1,x2⟩:=lt18 (zO hx (by omega));obtain⟨y1,y2⟩:=lt18 (zO hy (by omega));have hb:=λW=>zcb x y (zO (zbf (by omega)) (by omega)) (zO (zbf (by omega)) (by omega)) W;have hs:=λW=>ze3 x y hx hy W;have HB:=hid hb;clear hb;have HS:=hid hs;clear hs hx hy;have HW:=hid hw;clear hw;obtain⟨g,hg⟩:=zzX (Int.gcd x y);rw[<-hg];have HG:=hid hg;clear hg;go_enter Tryz.func73,Tryz.ntmps73;go_wp21;refine zzM (HB.out w) λw1 hw1=>?_;have hw1':=hw1.symm;subst hw1';go_wp21;refine zzM (HS.out w) λw2 hw2=>?_;have hw2':=hw2.symm;subst hw2';have hB2:qL w w:=zM _ _;go_wp21;go_loopw [7,8] (λa b wr=>∃m n:Int,a=.int .i64 m/\b=.int .i64 n/\Hid (Int.gcd m n=g)/\(-1000000000000000000<m/\m<1000000000000000000)/\(-1000000000000000000<n/\n<1000000000000000000)/\Hid (qL w wr))
  (λ_ b _=>(zL b).natAbs)
 case atStart=>exact⟨x,y,rfl,rfl,HG.out.symm,⟨x1,x2⟩,⟨y1,y2⟩,hB2⟩
 case round=>
  clear x1 x2 y1 y2 hB2;obtain⟨m,n,rfl,rfl,hgm,⟨m1,m2⟩,⟨n1,n2⟩,hBr⟩:=hrel;by_cases h0:n=0
  ·subst h0
   have hgm':Int.gcd m 0=g:=hgm.out;rw[Int.gcd_zero_right] at hgm';have hmx:max m (-m)=(g:Int):=by omega
   have HM:=hid hgm';clear hgm hgm';have hg1:(g:Int)<=1000000000000000000:=by omega
   have hneg:IntKind.i64.wrap (-m)= -m:=zI _ (by omega);go_wp21;refine zzM (zb3 (g:Int) (by omega) (by omega) wr (HW.out.below hBr.out)) λw3 hb3=>?_;have hB3:=hBr.out.trans (hb3.mono hBr.out.size);clear hb3;go_wp21;go_ret2;exact⟨rfl,hB3⟩
  ·have hn0:(n !=0)=true:=by simpa using h0
   have ht1:(m.tmod n).natAbs<n.natAbs:=by rw[Int.natAbs_tmod];exact zP _ (by omega)
   obtain⟨t,ht⟩:=zzX (m.tmod n);have hgt:=zmt m n;rw[<-ht] at ht1 hgt;have hwr:IntKind.i64.wrap (m.tmod n)=t:=by rw[<-ht];exact zI _ (by omega)
   have HGT:=hid hgt;have HT:=hid ht;clear hgt ht hwr;go_wp2
   (refine wp_region_quiet_lit (by kernel_rfl) (by kernel_rfl) (WQ.out ?_);(repeat(first|(apply WQ.read (by rfl);(focus(rintro W ⟨n,rfl⟩;go_simp;try with_reducible rfl));try simp only[zzQ])|(apply WQ.skip (by rfl);try simp only[zzQ])));refine WQ.nil ?_;rintro _ ⟨nq,rfl⟩)
   go_wp2;go_roundw
   case rel=>exact⟨n,t,rfl,by rw[HT.out],HGT.out.trans hgm.out,⟨n1,n2⟩,by omega,zao hBr.out _⟩
   case measure=>show(m.tmod n).natAbs<n.natAbs;rw[<-HT.out];exact ht1
theorem zm2 (b:Bool) (p:Option Addr) (k c:Nat) (W:zA):(Instr.field 180 (.agg #[.bool b,.slice p k c]) 1).run zF W=.ok (.slice p k c) W:=by kernel_rfl
theorem zxq (x y:Int) (hx:digs x<=300) (hy:digs y<=300) (h:17<(zE x).length\/17<(zE y).length) (w:zA) (hw:Wd w):
 qJ 73 #[St (zE x),St (zE y)] w (.tuple #[St (zE (Int.gcd x y:Int)),.int .i64 0]):=by
 have hb:=λW=>zcb x y hx hy W;have hs:=λW=>zf5 x y h (zO (za7 x) (by omega)) (zO (za7 y) (by omega)) W;have r1:=λW=>zcp x W (by omega);have r2:=λW=>zcp y W (by omega);have l1:=zO (zc6 x 50 (by omega) hx) (show 50<=100 by omega);have l2:=zO (zc6 y 50 (by omega) hy) (show 50<=100 by omega);have hgd:=zq4 x y hx hy;have HB:=hid hb;clear hb;have HS:=hid hs;clear hs hx hy h;have HW:=hid hw;clear hw;have R1:=hid r1;have R2:=hid r2;clear r1 r2;obtain⟨g,hg⟩:=zzX (Int.gcd x y);rw[<-hg] at hgd⊢;have HG:=hid hg;clear hg;have hfd:=zm2;go_enter Tryz.func73,Tryz.ntmps73;go_wp21;refine zzM (HB.out w) λw1 hw1=>?_;have hw1':=hw1.symm;subst hw1';go_wp21;refine(HS.out w).mono ?_;rintro e w2 ⟨⟨za,zb,rfl⟩,hw2⟩;have hw2':=hw2.symm;subst hw2';go_wp21;refine(R1.out w).mono ?_;rintro e w2 ⟨vx,rfl,hvx,hb2⟩;have hB2:=hb2;clear hb2;obtain⟨px,kx,cx,rfl, -⟩:=zbx hvx;have HVX:=hid hvx;clear hvx;go_wp21;refine(R2.out w2).mono ?_;rintro e w3 ⟨vy,rfl,hvy,hb3⟩;have hvx:=HVX.out.below hb3;have hB3:=hB2.trans (hb3.mono hB2.size);clear hb3 hB2 HVX;obtain⟨py,ky,cy,rfl, -⟩:=zbx hvy;have HVX:=hid hvx;have HVY:=hid hvy;clear hvx hvy;go_wp2;go_loopg [10,11] y.natAbs (λk va vb wr=>∃a b p kb c,vb=.slice p kb c/\Hid (k=b)/\Hid (kb=(zaa B6 b).length)/\(zaa B6 a).length<=100/\(zaa B6 b).length<=100/\Hid (Sl wr va ((zaa B6 a).map I))/\Hid (Sl wr vb ((zaa B6 b).map I))/\Hid (Nat.gcd a b=g)/\Hid (qL w wr))
 case atStart=>
  obtain⟨p,k,c,e,hk⟩:=zbx HVY.out;cases e;exact⟨x.natAbs,y.natAbs,py,ky,cy,rfl,rfl,hk,l1,l2,HVX.out,HVY.out,HG.out.symm,hB3⟩
 case round=>
  clear HVX HVY hB3;obtain⟨a,b,p,kb,c,rfl,hk,hkb,la,lb,hva,hvb,hgc,hBr⟩:=hrel;by_cases h0:kb=0
  ·have hb0:b=0:=(zbd (B:=B6) (by decide) b).1 (List.length_eq_zero_iff.1 (by rw[<-hkb.out];exact h0))
   have hga:a=g:=by have:=hgc.out;rw[hb0,Nat.gcd_zero_right] at this;exact this
   have hz0:¬(0:Int)<kb:=by omega
   have HA:=hid hga;clear hga;have HB0:=hid hb0;clear hb0;have HK0:=hid h0;clear h0;obtain⟨p1,k1,c1,rfl, -⟩:=zbx hva.out;have hres:=zn2 false _ a wr hva.out (by omega);rw[zkw,HA.out] at hres;have HRES:=hid hres;clear hres;go_wp21;refine zzM HRES.out λw4 hb4=>?_;have hB4:=hBr.out.trans (hb4.mono hBr.out.size);clear hb4;go_wp21;go_ret2;exact⟨rfl,hB4⟩
  ·have hz0:(0:Int)<kb:=by omega
   have hb0:b≠0:=λe=>h0 (by rw[hkb.out,e,zaz];rfl);go_wp21;refine(zmi _ (.slice p kb c) a b wr hva.out hvb.out (by omega) (by omega) (yS hb0)).mono ?_;rintro e w4 ⟨v1,v2,rfl,hs1,hs2,hb4⟩;have hB4:=hBr.out.trans (hb4.mono hBr.out.size);have hvb4:=hvb.out.below hb4;obtain⟨p2,k2,c2,rfl,hk2⟩:=zbx hs2;have HS2:=hid hs2;have HB4:=hid hB4;have HVB:=hid hvb4;have HK2:=hid hk2;have HB0:=hid hb0;clear hs1 hs2 hb4 hB4 hvb4 hk2 hb0 hva hvb hBr;go_wp2;go_roundg (a%b)
   case measure=>rw[hk.out];exact zP _ (yS HB0.out)
   case rel=>exact⟨b,a%b,p2,k2,c2,rfl,rfl,HK2.out,lb,zO (zd6 (by decide) (zT (zP _ (yS HB0.out)))) lb,HVB.out,HS2.out,(zkx a b).trans hgc.out,HB4.out⟩
theorem zgm (x y:Int) (hx:digs x<=300) (hy:digs y<=300) (w:zA) (hw:Wd w):
 qJ 73 #[St (zE x),St (zE y)] w (.tuple #[St (zE (Int.gcd x y:Int)),.int .i64 0]):=by
 by_cases h:17<(zE x).length\/17<(zE y).length
 ·exact zxq x y hx hy h w hw
 ·exact zvk x y (by omega) (by omega) w hw
theorem zz9 (l:List UInt8) (hd:∀c∈l,48<=c.toNat/\c.toNat<=57) (hl:l.length<=18) (w:zA):
 zC zF 72 #[St l] w λe w'=>e=.returned (I (val l))/\w'=w:=by
 obtain⟨s,hs⟩:=zzX (⟨l.toArray⟩:ByteArray);obtain⟨b1,b2⟩:=zdd l s hs;have hvt:=λk hk=>zg3 (l:=l) hd (k:=k) hk;have hst:∀k (hb:k<s.size),48<=(s[k]'hb).toNat/\(s[k]'hb).toNat<=57/\val (l.take (k+1))=10*val (l.take k)+((s[k]'hb).toNat-48):=λk hb=>by
  have hk:k<l.length:=by omega
  rw[b2 k hk hb,List.take_succ_eq_append_getElem hk,zde];exact⟨(hd _ (zY hk)).1,(hd _ (zY hk)).2,rfl⟩
 have hfull:val (l.take s.size)=val l:=by rw[b1,List.take_length]
 show zC _ _ #[.string ⟨l.toArray⟩] _ _;rw[<-hs];have hs9:s.size<=18:=by omega
 generalize hvf:(λk=>val (l.take k))=vf at*
 have hvt':∀k,k<=17->vf k<100000000000000000:=by rw[<-hvf];exact hvt
 have hst':∀k (hb:k<s.size),48<=(s[k]'hb).toNat/\(s[k]'hb).toNat<=57/\vf (k+1)=10*vf k+((s[k]'hb).toNat-48):=by rw[<-hvf];exact hst
 have hfull':vf s.size=val l:=by rw[<-hvf];exact hfull
 have hv0:vf 0=0:=by rw[<-hvf];rfl
 generalize val l=vl at*
 have VT:=hid hvt';have ST:=hid hst';have HF:=hid hfull';have V0:=hid hv0;clear hvt' hst' hfull' hv0 hvt hst hfull hvf b1 b2 hs hd hl;go_enter Tryz.func72,Tryz.ntmps72;go_wp2;go_loop [3,4] (λa i=>∃k:Nat,k<=s.size/\i=.int .i64 k/\a=.int .i64 (vf k:Nat)) (λ_ i=>s.size-(zL i).toNat)
 case atStart=>exact⟨0,zR _,rfl,by rw[V0.out];rfl⟩
 case round=>
  obtain⟨k,hk,rfl,rfl⟩:=hrel;by_cases hlt:k<s.size
  ·obtain⟨c1,c2,c3⟩:=ST.out k hlt
   have hv:=VT.out k (by omega);generalize vf k=v at*
   have C3:=hid c3;clear c3;have d1:(48:Int)<=(s[k].toNat:Int):=by omega
   have d2:(s[k].toNat:Int)<=57:=by omega
   go_wp2;go_round
   case rel=>exact⟨k+1,by omega,by go_num,by rw[C3.out];show Value.int .i64 _=Value.int .i64 _;congr 1;omega⟩
   case measure=>simp[zL];omega
  ·have hk':k=s.size:=by omega
   have HK:=hid hk';clear hk';go_wp2;go_ret;exact⟨by rw[HK.out,HF.out];rfl,rfl⟩
theorem zr5 (n:Nat) (t:List UInt8):(zD n++47::t).takeWhile (· !=47)=zD n/\((zD n++47::t).dropWhile (· !=47)).tail=t:=by
 have h:∀c∈zD n,(c !=47)=true:=λc hc=>by
  have:=zan n c hc;simp;intro e;subst e;simp at this
 constructor
 ·rw[List.takeWhile_append_of_pos h];simp
 ·rw[List.dropWhile_append_of_pos h];simp
theorem zpg (n:Nat):(zD n).takeWhile (· !=47)=zD n/\((zD n).dropWhile (· !=47)).tail=[]:=by
 have h:∀c∈zD n,(c !=47)=true:=λc hc=>by
  have:=zan n c hc;simp;intro e;subst e;simp at this
 constructor
 ·have:=List.takeWhile_append_of_pos (p:=λx:UInt8=>x !=47) (l₁:=zD n) (l₂:=[]) h
  simpa using this
 ·have:=List.dropWhile_append_of_pos (p:=λx:UInt8=>x !=47) (l₁:=zD n) (l₂:=[]) h
  rw[yH] at this;rw[this];rfl
def denS (q:Rat):List UInt8:=if q.den=1 then[] else zD q.den
theorem zph (q:Rat):upS (numS q)=zD q.num.natAbs/\dnS (numS q)=denS q/\((numS q).head? =some 45↔q.num<0)/\((47:UInt8)∈bare (numS q)↔q.den≠1):=by
 have hb:bare (numS q)=zD q.num.natAbs++(if q.den=1 then[] else 47::zD q.den):=zk1 _ _;unfold upS dnS denS;rw[hb];refine⟨?_,?_,zk2 _ _,?_⟩
 ·by_cases h:q.den=1
  ·rw[if_pos h,yH];exact(zpg _).1
  ·rw[if_neg h];exact(zr5 _ _).1
 ·by_cases h:q.den=1
  ·rw[if_pos h,if_pos h,yH];exact(zpg _).2
  ·rw[if_neg h,if_neg h];exact(zr5 _ _).2
 ·by_cases h:q.den=1
  ·rw[if_pos h,yH]
   exact⟨λk=>absurd k (zdz _),λk=>absurd h k⟩
  ·rw[if_neg h]
   exact⟨λ_=>h,λ_=>by simp⟩
def okN (q:Rat):Prop:=digs q.num<=300/\(zD q.den).length<=300
theorem z10 {q:Rat} (h:okN q):(numS q).length<=1000:=by
 have h1:=za7 q.num;obtain⟨h2,h3⟩:=h;unfold numS;rw[List.length_append];split
 ·simp;omega
 ·simp;omega
theorem zx3 (q:Rat) (h:okN q) (w:zA):
 qJ 69 #[St (numS q)] w (.tuple #[.bool (decide (q.num<0)),St (zD q.num.natAbs),St (denS q),.bool (decide (q.den≠1))]):=by
 obtain⟨h1,h2,h3,h4⟩:=zph q;have hc:=zn0 (numS q) (zO (z10 h) (by omega)) w;rw[h1,h2,show decide ((numS q).head? =some 45)=decide (q.num<0) by rw[decide_eq_decide];exact h3,show decide ((47:UInt8)∈bare (numS q))=decide (q.den≠1) by rw[decide_eq_decide];exact h4] at hc;exact hc
theorem z2d (q:Rat) (h:okN q) (w:zA):
 qJ 165 #[St (numS q)] w (.tuple #[St (zE q.num),St (zD q.den)]):=by
 have hc:=zx3 q h w;have hl:(zD q.num.natAbs).length<=300:=h.1;have hn:zE q.num=if q.num<0 then 45::zD q.num.natAbs else zD q.num.natAbs:=by
  rcases zbg q.num with⟨k,e⟩|⟨k,e⟩<;>rw[e]
  ·rw[if_neg (by omega)]
  ·rw[if_pos k]
 have hd:q.den=1->zD q.den=[49]:=λe=>by rw[e];decide+kernel
 have hd2:q.den≠1->denS q=zD q.den:=λe=>by unfold denS;rw[if_neg e]
 have HC:=hid hc;have HN:=hid hn;have HD:=hid hd;have HD2:=hid hd2;clear hc hn hd hd2 h;generalize zD q.num.natAbs=a at*
 generalize numS q=s at*
 have f1:¬(9223372036854775807<1+a.length):=by omega
 by_cases hm:q.num<0<;>by_cases h1:q.den=1
 ·rw[decide_eq_true hm,decide_eq_false (by simpa using h1)] at HC
  rw[if_pos hm] at HN;have hdd:=HD.out h1;clear hm h1 HD HD2;rw[hdd];clear hdd;generalize zE q.num=nn at*
  generalize zD q.den=dd at*
  generalize denS q=ds at*
  go_enter Tryz.func165,Tryz.ntmps165;go_wp21;refine zzM HC.out λw1 hb=>?_;go_wp21;go_ret2;refine⟨?_,hb⟩;rw[HN.out];show Ending.returned (.tuple #[.string (_++_),.string _])=_;rw[zhf]
 ·rw[decide_eq_true hm,decide_eq_true (by simpa using h1)] at HC
  rw[if_pos hm] at HN;have hdd:=HD2.out h1;rw[hdd] at HC;clear hm h1 HD HD2 hdd;generalize zE q.num=nn at*
  generalize zD q.den=dd at*
  generalize denS q=ds at*
  go_enter Tryz.func165,Tryz.ntmps165;go_wp21;refine zzM HC.out λw1 hb=>?_;go_wp21;go_ret2;refine⟨?_,hb⟩;rw[HN.out];show Ending.returned (.tuple #[.string (_++_),.string _])=_;rw[zhf]
 ·rw[decide_eq_false hm,decide_eq_false (by simpa using h1)] at HC
  rw[if_neg hm] at HN;have hdd:=HD.out h1;clear hm h1 HD HD2;rw[hdd];clear hdd;generalize zE q.num=nn at*
  generalize zD q.den=dd at*
  generalize denS q=ds at*
  go_enter Tryz.func165,Tryz.ntmps165;go_wp21;refine zzM HC.out λw1 hb=>?_;go_wp21;go_ret2;exact⟨by rw[HN.out];rfl,hb⟩
 ·rw[decide_eq_false hm,decide_eq_true (by simpa using h1)] at HC
  rw[if_neg hm] at HN;have hdd:=HD2.out h1;rw[hdd] at HC;clear hm h1 HD HD2 hdd;generalize zE q.num=nn at*
  generalize zD q.den=dd at*
  generalize denS q=ds at*
  go_enter Tryz.func165,Tryz.ntmps165;go_wp21;refine zzM HC.out λw1 hb=>?_;go_wp21;go_ret2;exact⟨by rw[HN.out];rfl,hb⟩
theorem ybf (x u v:ByteArray) (m sl b1 b2 z1 z2 z3:Bool) (hz:(300:Int)<u.size\/(¬(300:Int)<u.size/\(300:Int)<v.size))
 (e1:(v.toList==[48])=z1) (e2:(v.toList==[49])=z2) (e3:(u.toList==[48])=z3)
 (SP:Hid (∀W:zA,qJ 69 #[.string x] W (.tuple #[.bool m,.string u,.string v,.bool sl])))
 (D1:Hid (∀W:zA,zC zF 70 #[.string u] W λe w'=>e=.returned (.bool b1)/\w'=W))
 (D2:Hid (∀W:zA,zC zF 70 #[.string v] W λe w'=>e=.returned (.bool b2)/\w'=W))
 (w:zA):
 zC zF 25 #[.string x] w λe w'=>∃r:Int,e=.returned (.int .i64 r)/\r≠0/\zB w.heap.size w w':=by
 go_enter Tryz.func25,Tryz.ntmps25;go_wp21;refine zzM (SP.out w) λw1 hB=>?_;go_wp21;refine zzM (D1.out w1) λw2 hw=>?_;have hw2:=hw.symm;subst hw2;clear hw;cases b1
 ·go_wp21
  all_goals first|exact(zzU ‹_›).elim|skip
  go_ret;exact⟨11,rfl,by decide,hB⟩
 ·cases sl
  ·cases m
   ·rcases hz with h|⟨h,h'⟩
    all_goals
     go_wp21
     all_goals first|exact(zzU ‹_›).elim|skip
     go_ret;exact⟨4,rfl,by decide,hB⟩
   ·cases z3
    ·rcases hz with h|⟨h,h'⟩
     all_goals
      go_wp21
      all_goals first|exact(zzU ‹_›).elim|skip
      go_ret;exact⟨4,rfl,by decide,hB⟩
    ·go_wp21
     all_goals first|exact(zzU ‹_›).elim|skip
     go_ret;exact⟨11,rfl,by decide,hB⟩
  ·go_wp21
   all_goals first|exact(zzU ‹_›).elim|skip
   refine zzM (D2.out _) λw2 hw=>?_;have hw2:=hw.symm;subst hw2;clear hw;cases b2
   ·go_wp21
    all_goals first|exact(zzU ‹_›).elim|skip
    go_ret;exact⟨11,rfl,by decide,hB⟩
   ·cases z1<;>cases z2<;>cases m<;>cases z3
    all_goals
     rcases hz with h|⟨h,h'⟩
     all_goals
      go_wp21
      all_goals first|exact(zzU ‹_›).elim|skip
      go_ret
      first|exact⟨4,rfl,by decide,hB⟩|exact⟨11,rfl,by decide,hB⟩
theorem z97 {q:Rat}:okQ q↔(upS (numS q)).length<=300/\(dnS (numS q)).length<=300:=by
 obtain⟨h1,h2,_,_⟩:=zph q;rw[h1,h2];unfold okQ denS digs;by_cases c:q.den=1
 ·rw[if_pos c,c,(z15 1).2 rfl];simp
 ·rw[if_neg c]
theorem zuj (l:List UInt8) (hl:l.length<=1000) (w:zA) (hw:Wd w):
 zC zF 25 #[St l] w λe w'=>∃r:Int,e=.returned (.int .i64 r)/\(r=0↔∃q,l=numS q/\okQ q)/\zB w.heap.size w w':=by
 classical
 have sz:∀k:List UInt8,(⟨k.toArray⟩:ByteArray).size=k.length:=λk=>by show k.toArray.size=_;simp
 have lb:(bare l).length<=1000:=by
  have h2:(bare l).length<=l.length:=by unfold bare;split<;>simp
  omega
 have lu:(upS l).length<=1000:=zO (List.takeWhile_sublist _).length_le lb;have ld:(dnS l).length<=1000:=by
  have h1:((bare l).dropWhile (· !=47)).length<=(bare l).length:=(List.dropWhile_sublist _).length_le;have h3:(dnS l).length=((bare l).dropWhile (· !=47)).length-1:=by unfold dnS;rw[List.length_tail]
  omega
 have hd:∀k:List UInt8,k.length<=1000->∀W,zC zF 70 #[.string ⟨k.toArray⟩] W (λe w'=>e=.returned (.bool (decide (zds k)))/\w'=W):=λk hk W=>by
  refine(zme k (by omega) W).mono ?_;rintro e w' ⟨b,rfl,h,rfl⟩;refine⟨?_,rfl⟩;congr 2;cases b
  ·rw[eq_comm,decide_eq_false_iff_not];intro h';exact absurd (h.2 h') (by simp)
  ·rw[eq_comm,decide_eq_true_iff];exact h.1 rfl
 have hok:(∃q,l=numS q/\okQ q)↔okS l/\(upS l).length<=300/\(dnS l).length<=300:=by
  rw[zlq];constructor
  ·rintro⟨q,rfl,h⟩;exact⟨⟨q,rfl⟩,z97.1 h⟩
  ·rintro⟨⟨q,rfl⟩,h⟩;exact⟨q,rfl,z97.2 h⟩
 by_cases hL:(upS l).length<=300/\(dnS l).length<=300
 ·obtain⟨hu,hv⟩:=hL
  have e:(∃q,l=numS q/\okQ q)↔okS l:=by rw[hok];exact⟨λh=>h.1,λh=>⟨h,hu,hv⟩⟩
  simp only[e];refine ztd ⟨l.toArray⟩ ⟨(upS l).toArray⟩ ⟨(dnS l).toArray⟩ (decide (l.head? =some 45)) (decide ((47:UInt8)∈bare l)) (decide (zds (upS l))) (decide (zds (dnS l))) (decide (dnS l=[48])) (decide (dnS l=[49])) (decide (upS l=[48]))
   (Nat.gcd (val (upS l)) (val (dnS l))) (okS l) (by rw[sz];exact hu) (by rw[sz];exact hv) (hid ?_) (zgl _ _ rfl _) (zgl _ _ rfl _) (zgl _ _ rfl _)
   (hid λW=>zn0 l (by omega) W) (hid λW=>hd _ lu W) (hid λW=>hd _ ld W) (hid λh1 h2 h3 h4=>?_) (hid λh1 h2=>?_) w (hid hw)
  ·rw[zxf]
   simp only[decide_eq_true_eq,decide_eq_false_iff_not,ne_eq]
  ·rw[sz] at h3 h4
   have n1:zds (upS l):=of_decide_eq_true h1;have n2:zds (dnS l):=of_decide_eq_true h2;refine⟨val (upS l),val (dnS l),λW=>znz _ n1.2.1 h3 W,λW=>znz _ n2.2.1 h4 W,λW=>?_⟩;have b1:=zS (zjc _ n1.2.1) (yF (by omega) h3:10^(upS l).length<=10^9);have b2:=zS (zjc _ n2.2.1) (yF (by omega) h4:10^(dnS l).length<=10^9);refine(zzt _ _ (by omega) (by omega) W).mono ?_;rintro e w' ⟨nd,rfl,rfl⟩;exact⟨rfl,zao (zM _ _) _⟩
  ·have n1:zds (upS l):=of_decide_eq_true h1
   have n2:zds (dnS l):=of_decide_eq_true h2;refine⟨⟨(zD (Nat.gcd (val (upS l)) (val (dnS l)))).toArray⟩,?_,λW hW=>?_⟩
   ·rw[zgl _ _ rfl]
    exact decide_eq_decide.2 (z15 _)
   ·have:=zgm (val (upS l):Int) (val (dnS l):Int) (by unfold digs;rw[Int.natAbs_natCast,zeh n1];exact hu) (by unfold digs;rw[Int.natAbs_natCast,zeh n2];exact hv) W hW
    rw[Str.zad,Str.zad,Str.zad,zeh n1,zeh n2] at this;exact this
 ·refine(ybf ⟨l.toArray⟩ ⟨(upS l).toArray⟩ ⟨(dnS l).toArray⟩ (decide (l.head? =some 45)) (decide ((47:UInt8)∈bare l)) (decide (zds (upS l))) (decide (zds (dnS l))) (decide (dnS l=[48])) (decide (dnS l=[49])) (decide (upS l=[48])) ?_ (zgl _ _ rfl _) (zgl _ _ rfl _) (zgl _ _ rfl _)
   (hid λW=>zn0 l (by omega) W) (hid λW=>hd _ lu W) (hid λW=>hd _ ld W) w).mono ?_
  ·rw[sz,sz];omega
  ·rintro e w' ⟨r,rfl,hr,hb⟩
   exact⟨r,rfl,⟨λk=>absurd k hr,λk=>absurd (hok.1 k).2 hL⟩,hb⟩
def RowSt (p:Option Addr) (l:List (List UInt8)) (W:zA):Prop:=∀i,i<l.length->∃b off,p=some ⟨b,off,none⟩/\W.cell? ⟨b,off+i,none⟩=some (St (l[i]?.getD []))
theorem RowSt.keep {p:Option Addr} {l:List (List UInt8)} {W W':zA} (h:RowSt p l W) (hc:CellsKept W W'):RowSt p l W':=λi hi=>let ⟨b,off,e,h1⟩:=h i hi;⟨b,off,e,hc.cell h1⟩
def shT (x:List UInt8):Prop:=x.length<=8/\∃q,x=numS q/\okQ q
theorem zp9 (x:ByteArray) (Q:Prop)
 (C1:Hid (x.size<=8->∀W:zA,Wd W->zC zF 25 #[.string x] W λe w'=>∃r:Int,e=.returned (.int .i64 r)/\(r=0↔Q)/\zB W.heap.size W w'))
 (w:zA) (HW:Hid (Wd w)):
 zC zF 24 #[.string x] w (BoolP w (x.size<=8/\Q)):=by
 by_cases h1:(8:Int)<x.size
 ·have HN:=hid (λh=>by omega:¬(x.size<=8/\Q))
  go_enter Tryz.func24,Tryz.ntmps24;go_wp21;go_ret;exact BoolP.no HN.out (zM _ _)
 ·have H1:=hid (C1.out (by omega) w HW.out)
  have HQ:=hid (⟨λh=>h.2,λh=>⟨by omega,h⟩⟩:(x.size<=8/\Q)↔Q);clear C1;go_enter Tryz.func24,Tryz.ntmps24;go_wp21;refine H1.out.mono ?_;rintro e w2 ⟨r,rfl,hr,hb2⟩;have HR:=hid hr;have HB:=hid hb2;clear hr hb2 H1;by_cases h0:r=0
  ·have hrb:(r !=0)=false:=by subst h0;rfl
   have HR0:=hid (HQ.out.2 (HR.out.1 h0));clear h0;go_wp21;go_ret;exact BoolP.yes HR0.out HB.out
  ·have hrb:(r !=0)=true:=by simpa using h0
   have HR0:=hid (λh=>h0 (HR.out.2 (HQ.out.1 h)):¬(x.size<=8/\Q));clear h0;go_wp21;go_ret;exact BoolP.no HR0.out HB.out
theorem zsk (x:List UInt8) (w:zA) (hw:Wd w):zC zF 24 #[St x] w (BoolP w (shT x)):=by
 have sz:(⟨x.toArray⟩:ByteArray).size=x.length:=by show x.toArray.size=_;simp
 have:=zp9 ⟨x.toArray⟩ (∃q,x=numS q/\okQ q) (hid λh W hW=>zuj x (by rw[sz] at h;omega) W hW) w (hid hw);rw[sz] at this;exact this
theorem zk9 (p:Option Addr) (cap n:Nat) (l:List (List UInt8)) (hn:n=l.length) (hl:n<=5000) (G:Nat->Prop)
 (F:Hid (∀i,i<n->∀W:zA,Wd W->zC zF 24 #[St (l[i]?.getD [])] W (BoolP W (G i))))
 (w:zA) (HW:Hid (Wd w)) (HP:Hid (RowSt p l w)):
 zC zF 68 #[.slice p n cap,.func (.func 24) #[] #[]] w (IdxP w n G):=by
 have HN:=hid hn;clear hn;go_enter Tryz.func68,Tryz.ntmps68;go_wp2;go_loopw [8] (λi wr=>∃(k:Nat),k<=n/\i=.int .i64 (k:Int)/\Hid (∀i,i<k->G i)/\Hid (qL w wr))
  (λi _=>n-(zL i).toNat)
 case atStart=>exact⟨0,zR _,rfl,λi h=>by omega,zM _ _⟩
 case round=>
  obtain⟨k,hk,rfl,hG,hB⟩:=hrel;by_cases hlt:k<n
  ·obtain⟨b,off,rfl,c0⟩:=(HP.out.keep (zac hB.out)) k (by rw[<-HN.out];exact hlt)
   have HF:=hid (F.out k hlt wr (HW.out.below hB.out));generalize l[k]?.getD []=x at*
   go_wp21;refine HF.out.mono ?_;rintro e w2 ⟨t,rfl,ht,hb2⟩;have hB2:=hid (hB.out.trans (hb2.mono hB.out.size));have HT:=hid ht;clear ht hb2 HF;cases t
   ·go_wp21
    go_roundw
    case rel=>exact⟨k+1,by omega,by go_num,λi hi=>(by
     by_cases e:i=k
     ·subst e;exact HT.out.1 (by trivial)
     ·exact hG.out i (by omega)),hB2⟩
    case measure=>simp[zL];omega
   ·go_wp21
    go_ret;exact IdxP.hit hlt (λh=>by have:=HT.out.2 h;simp at this) hB2.out
  ·have hkn:k=n:=by omega
   have HK:=hid hkn;clear hkn;go_wp21;go_ret;exact IdxP.none (by rw[<-HK.out];exact hG.out) hB.out
theorem zhi (p:Option Addr) (cap n:Nat) (G:Nat->Prop) (w:zA)
 (F:Hid (zC zF 68 #[.slice p n cap,.func (.func 24) #[] #[]] w (IdxP w n G))):
 zC zF 23 #[.slice p n cap,.func (.func 24) #[] #[]] w (BoolP w (∀i,i<n->G i)):=by
 go_enter Tryz.func23,Tryz.ntmps23;go_wp21;refine F.out.mono ?_;rintro e w1 ⟨k,rfl,hk,hB⟩;rcases hk with⟨rfl,h⟩|⟨h0,i,hi,h⟩
 ·have HN:=hid h;clear h
  go_wp21;go_ret;exact BoolP.yes HN.out hB
 ·have HN:=hid (λh'=>h (h' i hi):¬ ∀i,i<n->G i);clear h
  go_wp21;go_ret;exact BoolP.no HN.out hB
theorem zla (p:Option Addr) (cap n:Nat) (G:Prop) (w:zA)
 (F:Hid (zC zF 23 #[.slice p n cap,.func (.func 24) #[] #[]] w (BoolP w G))):
 zC zF 6 #[.slice p n cap] w (YesP w G):=by
 go_enter Tryz.func6,Tryz.ntmps6;go_wp21;refine F.out.mono ?_;rintro e w1 ⟨b,rfl,hb,hB⟩;have HN:=hid hb;clear hb;cases b
 ·go_wp21
  go_ret;exact YesP.yes (HN.out.1 (by trivial)) hB
 ·go_wp21
  go_ret;exact YesP.no (λh=>by have:=HN.out.2 h;simp at this) hB
theorem zmy (p:Option Addr) (cap:Nat) (l:List (List UInt8)) (hl:l.length<=5000) (w:zA) (hw:Wd w) (hp:RowSt p l w):
 zC zF 6 #[.slice p l.length cap] w (YesP w (∀i,i<l.length->shT (l[i]?.getD []))):=
 zla p cap l.length _ w (hid (zhi p cap l.length _ w (hid (zk9 p cap l.length l rfl hl (λi=>shT (l[i]?.getD [])) (hid λ_ _ W hW=>zsk _ W hW) w (hid hw) (hid hp)))))
end
section
open Go.RowKit Go.Shelf Lib Str Limb Geo
attribute [local go_sem] Oper.semAt_some
def ze5 (l:List Pt) (q:Pt) (k:Nat):Prop:=
 (cmpR (cor l k).y q.y<=0/\0<cmpR (cor l (k+1)).y q.y/\0<turn (cor l k) (cor l (k+1)) q)\/(cmpR (cor l (k+1)).y q.y<=0/\0<cmpR (cor l k).y q.y/\turn (cor l k) (cor l (k+1)) q<0)
instance (l:List Pt) (q:Pt) (k:Nat):Decidable (ze5 l q k):=by unfold ze5;infer_instance
end
section
open Go.RowKit Go.Shelf Lib Str Limb
attribute [local go_sem] Oper.semAt_some
theorem zsc:(Tryz.prog.info? 69).map (λi=>(i.zero,i.size,i.bytes))=some (some (.agg #[St [],St []]),2,32):=by kernel_rfl
theorem zoq (W:zA) (x y:Value) (t:TypeId):∀i u,[x,y][i]? =some u->(W.alloc (.cells #[x,y] t)).cell? ((⟨W.heap.size,0,none⟩:Addr).add i)=some u:=λi u hu=>by
 have A:=zG W (.cells #[x,y] t);have:((⟨W.heap.size,0,none⟩:Addr).add i)=⟨W.heap.size,i,none⟩:=by simp only[Addr.add,Nat.zero_add];split<;>simp_all
 rw[this,zJ A]
 match i,hu with
 |0,hu=>exact hu
 |1,hu=>exact hu
theorem zm4 (x y:List UInt8):∀u∈[St x,St y],u.oneCell'=true:=λu hu=>by
 simp at hu;rcases hu with rfl|rfl<;>rfl
theorem zgy (n:Nat) (W:zA):zC zF 98 #[St (zD n),.string ⟨#[45]⟩] W λe w'=>e=.returned (.bool false)/\w'=W:=by
 have hc:=Tryz.strings_HasPrefix ⟨(zD n).toArray⟩ ⟨#[45]⟩ W;obtain⟨c,r,e,hc1,_⟩:=dec_head n;have hc5:c≠45:=λh=>by subst h;simp at hc1
 have hp:Lib.hasPrefix (zD n) [45]=false:=by rw[e];simp[Lib.hasPrefix,List.isPrefixOf,Ne.symm hc5]
 rw[show(⟨(zD n).toArray⟩:ByteArray).data.toList=zD n from rfl,show(⟨#[45]⟩:ByteArray).data.toList=[45] from rfl,hp] at hc;exact hc
end
section
open Go.RowKit Go.Shelf Lib Str Limb Geo
attribute [local go_sem] Oper.semAt_some
theorem zye {w:zA} {base:Nat} {t:TypeId} {s:Nat} {v:Value} {n:Nat} {xs:List Value} (h:w.ownsRow base t s v n xs) (hn:0<n):
 ∃g c,v=.slice (some ⟨g,0,none⟩) n c/\base<=g/\∀i u,xs[i]? =some u->w.cell? ⟨g,i,none⟩=some u:=by
 rcases h.2 with⟨_,e⟩|⟨g,cp,cur,e,hg1,hg2,_,_,hcs,htk⟩
 ·omega
 ·refine⟨g,cp,e,hg1,λi u hu=>?_⟩
  rw[zJ hg2,<-Array.getElem?_toList];rw[<-htk,List.getElem?_take] at hu;split at hu
  ·exact hu
  ·cases hu
end
section
open Go.RowKit Go.Shelf Lib Str Limb
attribute [local go_sem] Oper.semAt_some
def zbj:List (List UInt8×List UInt8)->List Value
 |[]=>[]
 |c::l=>St c.1::St c.2::zbj l
theorem zn8:∀l,(zbj l).length=l.length*2
 |[]=>rfl
 |c::l=>by simp[zbj,zn8 l];omega
theorem zjb:∀l r,zbj (l++r)=zbj l++zbj r
 |[],_=>rfl
 |c::l,r=>by simp[zbj,zjb l r]
theorem zpb:∀(l:List (List UInt8×List UInt8)) (i:Nat) (c:List UInt8×List UInt8),l[i]? =some c->(zbj l)[i*2]? =some (St c.1)/\(zbj l)[i*2+1]? =some (St c.2)
 |c::l,0,d,h=>by simp at h;subst h;exact⟨rfl,rfl⟩
 |c::l,i+1,d,h=>by
  have:=zpb l i d (by simpa using h);rw[show(i+1)*2=i*2+1+1 by omega];exact this
structure GatL (gb:Nat) (l:List (List UInt8×List UInt8)) (W:zA):Prop where
 cls:∃v,W.cell? ⟨gb,0,none⟩=some v/\W.ownsRow (gb+1) 163 2 v l.length (zbj l)
 fr:W.frozen? ⟨gb,0,none⟩=false
theorem GatL.keep {gb:Nat} {l:List (List UInt8×List UInt8)} {W W':zA} (h:GatL gb l W) (hc:CellsKept W W'):GatL gb l W':=
 let ⟨v,h1,h2⟩:=h.cls
 ⟨⟨v,hc.cell h1,zcj hc h2⟩,hc.frozen h1 h.fr⟩
def RowCl (p:Option Addr) (l:List (List UInt8×List UInt8)) (W:zA):Prop:=∀i c,l[i]? =some c->∃g,p=some ⟨g,0,none⟩/\W.cell? ⟨g,i*2,none⟩=some (St c.1)/\W.cell? ⟨g,i*2+1,none⟩=some (St c.2)
theorem RowCl.keep {p:Option Addr} {l:List (List UInt8×List UInt8)} {W W':zA} (h:RowCl p l W) (hc:CellsKept W W'):RowCl p l W':=λi c hi=>let ⟨g,e,h1,h2⟩:=h i c hi;⟨g,e,hc.cell h1,hc.cell h2⟩
theorem GatL.row {gb:Nat} {l:List (List UInt8×List UInt8)} {W:zA} (h:GatL gb l W):∃p cap,W.cell? ⟨gb,0,none⟩=some (.slice p l.length cap)/\W.ownsRow (gb+1) 163 2 (.slice p l.length cap) l.length (zbj l)/\RowCl p l W:=by
 obtain⟨v,h1,h2⟩:=h.cls;rcases Nat.eq_zero_or_pos l.length with e|e
 ·rcases h2.2 with⟨rfl,e1⟩|⟨g,cp,cur,rfl,_⟩
  ·refine⟨none,0,by rw[e];exact h1,by rw[e] at h2⊢;exact h2,λi c hi=>?_⟩
   rw[List.length_eq_zero_iff.1 e] at hi;simp at hi
  ·refine⟨_,cp,h1,h2,λi c hi=>?_⟩
   rw[List.length_eq_zero_iff.1 e] at hi;simp at hi
 ·obtain⟨g,c,rfl, -,hx⟩:=zye h2 e
  refine⟨_,c,h1,h2,λi d hi=>⟨g,rfl,?_,?_⟩⟩
  ·exact hx _ _ (zpb l i d hi).1
  ·exact hx _ _ (zpb l i d hi).2
structure AdnS (W:zA) (x xr:List UInt8) (l:List (List UInt8×List UInt8)) (n:Nat) (v0:Value) (gb:Nat) (b:Nat×Value) (f:Nat->Bool) (X:zA):Prop where
 pre:f 11=false->qL W X
 new:f 11=false->f 10=true->X.cell? ⟨b.1,0,none⟩=some (St x)/\X.cell? ⟨b.1,1,none⟩=some (St xr)
 post:f 11=true->∃Y Z,qL W Y/\Y.grownBy Z v0.ownBlock/\Z.ownsRow (gb+1) 163 2 b.2 (n+1) (zbj l++[St x,St xr])/\X=if f 14=true then Z.setCell ⟨gb,0,none⟩ b.2 else Z
theorem AdnS.congr {W:zA} {x xr:List UInt8} {l:List (List UInt8×List UInt8)} {n:Nat} {v0:Value} {gb:Nat} {b:Nat×Value} {f g:Nat->Bool} {X:zA} (h:AdnS W x xr l n v0 gb b f X) (e10:g 10=f 10) (e11:g 11=f 11) (e14:g 14=f 14):AdnS W x xr l n v0 gb b g X:=
 ⟨by rw[e11];exact h.pre,by rw[e10,e11];exact h.new,by rw[e11,e14];exact h.post⟩
theorem zot (gb:Nat) (l:List (List UInt8×List UInt8)) (x xr:List UInt8) (hl:l.length<=5000)
 (R:Hid (∀(i:Nat) (c:List UInt8×List UInt8),l[i]? =some c->∃k,qK 76 #[St xr,St c.2] (.tuple #[.string k,.bool false,.int .i64 0])))
 (w:zA) (HW:Hid (Wd w)) (HG:Hid (GatL gb l w)):
 zC zF 102 #[.pointer (some ⟨gb,0,none⟩),.agg #[St x,St xr]] w λe w'=>e=.returned (.int .i64 0)/\zB gb w w'/\GatL gb (l++[(x,xr)]) w':=by
 obtain⟨i0,hi,hz0,hz1,hz2⟩:=info_parts zx5;obtain⟨p,cap,g0,o0,r0⟩:=HG.out.row;have hlt:=zbe g0;obtain⟨W1,hW1⟩:=zzX (w.alloc (.cells #[St x,St xr] 69));have hb1:qL w W1:=by rw[hW1];exact(zM _ w).alloc (zN _) _
 have A1:W1.heap[w.heap.size]? =some (.cells #[St x,St xr] 69 (0,0)):=by rw[hW1];exact zG w _
 have c0:=zai hb1 g0;rw[hW1] at c0;have HW1:=hid hW1.symm;have HB1:=hid hb1;have HA1:=hid A1;have HR0:=hid r0;have HO:=hid o0;have HG0:=hid g0;obtain⟨n,hn⟩:=zzX l.length;rw[<-hn] at c0 hl HO HG0;have HN:=hid hn;clear hW1 hb1 A1 r0 o0 g0 hn;go_enter Tryz.func102,Tryz.ntmps102;go_wp21;rw[HW1.out];clear c0 HW1;go_loopw [19] (λi wr=>∃(k:Nat),k<=n/\i=.int .i64 (k:Int)/\Hid (qL w wr)/\Hid (wr.heap[w.heap.size]? =some (.cells #[St x,St xr] 69 (0,0))))
  (λi _=>n-(zL i).toNat)
 case atStart=>exact⟨0,zR _,rfl,HB1,HA1⟩
 case round=>
  obtain⟨k,hk,rfl,hB,hT⟩:=hrel;by_cases hlt:k<n
  ·obtain⟨c,hc⟩:∃c,l[k]? =some c:=⟨_,yB (by rw[<-HN.out];exact hlt)⟩
   obtain⟨g,rfl,c0,c1⟩:=(HR0.out.keep (zac hB.out)) k c hc;obtain⟨q,hR⟩:=R.out k c hc;obtain⟨y,yr⟩:=c;have HRT:=hid hR;clear hR hc;simp only at c0 c1 HRT;obtain⟨v1,hv⟩:=zzX (wr.alloc (.cells #[St y,St yr] 163));have a1:qL wr v1:=by rw[hv];exact(zM _ wr).alloc (zN _) _
   have A1:v1.heap[wr.heap.size]? =some (.cells #[St y,St yr] 163 (0,0)):=by rw[hv];exact zG wr _
   have T1:=zac a1 _ _ _ _ hT.out;have k1:v1.cell? ⟨wr.heap.size,1,none⟩=some (St yr):=by rw[zJ A1];rfl
   have t1:v1.cell? ⟨w.heap.size,1,none⟩=some (St xr):=by rw[zJ T1];rfl
   have E1:=hid (hB.out.trans (a1.mono hB.out.size));have HT1:=hid T1;rw[hv] at k1 t1;have HV:=hid hv.symm;clear hv a1 A1 T1;go_wp21;rw[HV.out];clear k1 t1 HV c0 c1;refine zzM (HRT.out v1 (HW.out.below E1.out)) λw2 hb2=>?_;have hB2:=hid (E1.out.trans (hb2.mono E1.out.size));have hT2:=hid (zac hb2 _ _ _ _ HT1.out);clear hb2 HRT E1 HT1;go_wp21;go_roundw
   case rel=>exact⟨k+1,by omega,by go_num,hB2,hT2⟩
   case measure=>simp[zL];omega
  ·have hkn:k=n:=by omega
   go_wp21;have hks:∀w':zA,qL wr w'->w'.cell? ⟨gb,0,none⟩=some (.slice p n cap)/\w'.cell? ⟨w.heap.size,0,none⟩=some (St x)/\w'.cell? ⟨w.heap.size,1,none⟩=some (St xr):=λw' hb=>
    ⟨zai hb (zai hB.out HG0.out),zai hb (by rw[zJ hT.out];rfl),zai hb (by rw[zJ hT.out];rfl)⟩
   have KS:=hid hks;have HF:=hid ((zac hB.out).frozen HG0.out HG.out.fr);have HOw:=hid (zcj (zac hB.out) HO.out);have hgs:gb<w.heap.size:=zbe HG0.out;have hws:=hB.out.size;have hne:some gb≠(Value.slice p n cap).ownBlock:=λe=>by have:=(HO.out.lt _ e.symm).1;omega
   have HNE:=hid hne;clear hks hne HR0 HG R hkn hk hlt HW HB1 HA1;refine zc4 (λ(b:Nat×Value) i=>([.pointer (some ⟨gb,0,none⟩),.pointer (some ⟨gb,0,none⟩),.pointer (some ⟨gb,0,none⟩),.pointer (some ⟨gb,0,none⟩),.slice p n cap,.pointer (some ⟨w.heap.size,0,none⟩),St x,.pointer (some ⟨w.heap.size,1,none⟩),St xr,.agg #[St x,St xr],.slice (some ⟨b.1,0,none⟩) 1 1,b.2,.pointer (some ⟨gb,0,none⟩),.pointer (some ⟨gb,0,none⟩)]:List Value).getD i undef) (AdnS wr x xr l n (.slice p n cap) gb) (by kernel_rfl) (by kernel_rfl) (0,.slice none 0 0) ⟨λ_=>(zM _ wr).drew,λ_ h=>(by cases h),λh=>(by cases h)⟩ λb=>?_;refine qB (.pointer (some ⟨gb,0,none⟩)) (λf W' h=>h.congr rfl rfl rfl) ?_;refine qB (.pointer (some ⟨gb,0,none⟩)) (λf W' h=>h.congr rfl rfl rfl) ?_;refine qB (.pointer (some ⟨gb,0,none⟩)) (λf W' h=>h.congr rfl rfl rfl) ?_;simp only[zzQ];refine qB (.pointer (some ⟨gb,0,none⟩)) (λf W' h=>h.congr rfl rfl rfl) ?_;refine qB (.slice p n cap) (λf W' h=>h.congr rfl rfl rfl) ?_ (hy:=λf W' hf h=>by have g:=KS.out _ (h.pre (hf.no (j:=11) hf.self (by kernel_rfl)));obtain⟨q0,q1,q2⟩:=g;go_simp);refine qB (.pointer (some ⟨w.heap.size,0,none⟩)) (λf W' h=>h.congr rfl rfl rfl) ?_;simp only[zzQ];refine qB (St x) (λf W' h=>h.congr rfl rfl rfl) ?_ (hy:=λf W' hf h=>by have g:=KS.out _ (h.pre (hf.no (j:=11) (hf.no (j:=10) (hf.no (j:=9) hf.self (by kernel_rfl)) (by kernel_rfl)) (by kernel_rfl)));obtain⟨q0,q1,q2⟩:=g;go_simp);refine qB (.pointer (some ⟨w.heap.size,1,none⟩)) (λf W' h=>h.congr rfl rfl rfl) ?_;refine qB (St xr) (λf W' h=>h.congr rfl rfl rfl) ?_ (hy:=λf W' hf h=>by have g:=KS.out _ (h.pre (hf.no (j:=11) (hf.no (j:=10) (hf.no (j:=9) hf.self (by kernel_rfl)) (by kernel_rfl)) (by kernel_rfl)));obtain⟨q0,q1,q2⟩:=g;go_simp);simp only[zzQ];refine qB (.agg #[St x,St xr]) (λf W' h=>h.congr rfl rfl rfl) ?_;simp only[zzQ]
   refine zdc (.slice (some ⟨b.1,0,none⟩) 1 1) (by rfl) (by rfl) (λf W' hf h C' hC'=>by
    have h11:=(hf.no (j:=11) hf.self (by kernel_rfl));have hp:=h.pre h11;have ha:qL W' (W'.alloc (.cells #[St x,St xr] 163)):=(zM _ W').alloc (zN _) _;have A:=zG W' (.cells #[St x,St xr] 163);have:=hC' (W'.heap.size,b.2) (W'.alloc (.cells #[St x,St xr] 163)) (λi hi=>?_) ⟨λ_=>hp.trans (ha.mono hp.size),λ_ _=>⟨by rw[zJ A];rfl,by rw[zJ A];rfl⟩,λk=>(by have k':f 11=true:=k;rw[h11] at k';cases k')⟩
    ·go_simp
     exact this
    ·match i,hi with
     |0,_|1,_|2,_|3,_|4,_|5,_|6,_|7,_|8,_|9,_|11,_|12,_|13,_=>rfl
     |10,hi=>rw[hf.self] at hi;cases hi
     |_+14,_=>rfl) ?_
   try simp only[zzQ]
   refine zdc b.2 (by rfl) (by rfl) (λf W' hf h C' hC'=>by
    have h11:=hf.self;have h14:=(hf.no (j:=14) hf.self (by kernel_rfl));have h10:=hf.done 10 (by kernel_rfl);have hp:=h.pre h11;obtain⟨n0,n1⟩:=h.new h11 h10;refine zmb _ W' _ _ 158 rfl (gb+1) 163 i0 (.agg #[St [],St []]) 2 32 Tryz.underlying158 hi hz0 hz1 hz2 rfl (by decide) (.slice p n cap) n (zbj l) rfl (zcj (zac hp) HOw.out) ⟨b.1,0,none⟩ 1 1 [St x,St xr] rfl rfl (λi u hu=>?_) (λu hu=>?_) (by unfold maxLen;omega) (by omega) (by have:=hp.size;omega) (λv' w' hown' hgrow=>?_)
    ·match i,hu with
     |0,hu=>simp at hu;subst hu;exact n0
     |1,hu=>simp at hu;subst hu;exact n1
     |_+2,hu=>simp at hu
    ·simp at hu;rcases hu with rfl|rfl<;>rfl
    ·refine hC' (b.1,v') w' (λi hi=>?_) ⟨λk=>?_,λk=>?_,λ_=>⟨W',w',hp,hgrow,hown',?_⟩⟩
     ·match i,hi with
      |0,_|1,_|2,_|3,_|4,_|5,_|6,_|7,_|8,_|9,_|10,_|12,_|13,_=>rfl
      |11,hi=>rw[hf.self] at hi;cases hi
      |_+14,_=>rfl
     ·cases k
     ·cases k
     ·show w'=if f 14=true then _ else w'
      rw[h14];rfl) ?_
   refine qB (.pointer (some ⟨gb,0,none⟩)) (λf W' h=>h.congr rfl rfl rfl) ?_;refine qB (.pointer (some ⟨gb,0,none⟩)) (λf W' h=>h.congr rfl rfl rfl) ?_;simp only[zzQ]
   refine zbv undef (by rfl) (by rfl) (λf W' hf h C' hC'=>by
    have h11:=hf.done 11 (by kernel_rfl);have h14:=hf.self;obtain⟨Y,Z,hY,hZ,hz',rfl⟩:=h.post h11;rw[h14,if_neg (by simp)] at*
    have hc0:=(KS.out _ hY).1;have hcell:=hZ.cell hc0 HNE.out;have hfr:Z.frozen? ⟨gb,0,none⟩=false:=by
     rw[World.frozen?_of_block (a:=⟨gb,0,none⟩) (hZ.block _ (zbe hc0) HNE.out)];exact(zac hY).frozen (KS.out _ (zM _ wr)).1 HF.out
    have:=hC' (Z.setCell ⟨gb,0,none⟩ b.2) ⟨λk=>(by have k':f 11=false:=k;rw[h11] at k';cases k'),λk=>(by have k':f 11=false:=k;rw[h11] at k';cases k'),λ_=>⟨Y,Z,hY,hZ,hz',rfl⟩⟩;obtain⟨q,m,c,e2⟩:∃q m c,b.2=.slice q m c:=by
     rcases hz'.2 with⟨e,_⟩|⟨g,cp,cur,e,_⟩<;>exact⟨_,_,_,e⟩
    rw[e2] at this;go_simp;exact this) ?_
   try simp only[Act.put]
   refine ze1 λf X hf h=>?_;obtain⟨Y,Z,hY,hZ,hz',rfl⟩:=h.post (hf 11 (by decide));rw[if_pos (hf 14 (by decide))];have hc0:=(KS.out _ hY).1;have hcell:=hZ.cell hc0 HNE.out;have hfr:Z.frozen? ⟨gb,0,none⟩=false:=by
    rw[World.frozen?_of_block (a:=⟨gb,0,none⟩) (hZ.block _ (zbe hc0) HNE.out)];exact(zac hY).frozen (KS.out _ (zM _ wr)).1 HF.out
   have hbel:zB gb w (Z.setCell ⟨gb,0,none⟩ b.2):=by
    have h1:zB gb w Y:=(hB.out.mono (by omega)).trans (hY.mono (by omega));exact(h1.grown hZ (by have:=hY.size;omega) (λq e=>by have:=(HO.out.lt q e).1;omega)).setCell (by simp) _
   have hgate:GatL gb (l++[(x,xr)]) (Z.setCell ⟨gb,0,none⟩ b.2):=by
    refine⟨⟨b.2,za9 hcell,?_⟩,by rw[World.frozen?_setCell];exact hfr⟩;rw[zjb,List.length_append,<-HN.out];show World.ownsRow _ _ _ _ _ (n+1) (zbj l++[St x,St xr]);exact ownsRow_setCell_below hz' (by simp) _
   have HE:=hid (⟨hbel,hgate⟩:zB gb w (Z.setCell ⟨gb,0,none⟩ b.2)/\GatL gb (l++[(x,xr)]) (Z.setCell ⟨gb,0,none⟩ b.2));clear hbel hgate hcell hfr hY hZ hz' h hf hc0;go_wp21;go_ret;exact⟨rfl,HE.out⟩
end
end Go.Proofs.YtgeapfaiacoajaaGreatDoor
