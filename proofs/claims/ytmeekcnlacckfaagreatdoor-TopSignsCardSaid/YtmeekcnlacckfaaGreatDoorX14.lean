/- kingpostref03.Ratio; kingpostref04: related, checkTerm, Check. -/
import Derived.Test.YtmeekcnlacckfaaGreatDoorX13
set_option maxRecDepth 100000
set_option maxHeartbeats 8000000
open Go renaming World → zA, Calls → zC
open Go.RowKit renaming Below → zB, intOf → zL
open Go.Lib renaming decDigits → zD, itoa → zE
open Go.Proofs.Tryz renaming prog → zF
open Go.World renaming alloc_heap_new → zG
open Go.Joins renaming cell_of_block → zJ
open Go.RowKit.Below renaming refl → zM
open Nat renaming le_trans → zO, zero_le → zR, lt_of_lt_of_le → zS, pow_le_pow_right → yF, pos_of_ne_zero → yS
open List renaming length_map → zV, getElem?_eq_getElem → yB, mem_cons_self → yD
namespace Go.Proofs.YtmeekcnlacckfaaGreatDoor
section
open Go.RowKit Go.Shelf Lib Str Limb Geo
attribute [local go_sem] Oper.semAt_some
theorem z0e (a b q n d x y z:List UInt8) (i1 i2:Bool)
 (CK:Hid (∀(W:zA) (A:Nat),Wd W->W.heap[A]? =some (.cells #[St a,St b] 30 (0,0))->qJ 269 #[.slice (some ⟨A,0,none⟩) 2 2] W (.int .i64 0)))
 (S1:Hid (∀W:zA,qJ 270 #[St a] W (.int .i64 1)))
 (S2:Hid (∀W:zA,qJ 270 #[St b] W (.int .i64 1)))
 (Q1:Hid (qK 274 #[St a,St b] (St q)))
 (PT:Hid (qK 207 #[St q] (.tuple #[St n,St d,.int .i64 0])))
 (SN:Hid (qK 273 #[St n] (.tuple #[St x,.bool i1])))
 (SD:Hid (qK 273 #[St d] (.tuple #[St y,.bool i2])))
 (Q2:Hid (qK 274 #[St x,St y] (St z)))
 (w:zA) (HW:Hid (Wd w)):
 zC zF 210 #[St a,St b] w λe w'=>∃k,e=.returned (.tuple #[.string k,.bool (i1&&i2),.int .i64 0])/\zB w.heap.size w w':=by
 obtain⟨v1,hv⟩:=zzX (w.alloc (.cells #[St a,St b] 30));have a1:qL w v1:=by rw[hv];exact(zM _ w).alloc (Nat.le_refl _) _
 have A1:v1.heap[w.heap.size]? =some (.cells #[St a,St b] 30 (0,0)):=by rw[hv];exact zG w _
 have HCK:=hid (CK.out v1 w.heap.size (HW.out.below a1) A1);have B0:=hid a1;have HV:=hid hv.symm;clear hv a1 A1 CK;go_enter Tryz.func210,Tryz.ntmps210;go_wp21;have h9:=HV.out;rw[show w.alloc (.cells #[.string ⟨a.toArray⟩,.string ⟨b.toArray⟩] 30)=v1 from h9];clear h9 HV;refine zzM HCK.out λw1 hb=>?_;have B1:=hid (B0.out.trans (hb.mono B0.out.size));clear hb HCK B0;go_wp21;refine zzM (S1.out w1) λw2 hb=>?_;have B2:=hid (B1.out.trans (hb.mono B1.out.size));clear hb B1 S1;go_wp21;refine zzM (S2.out w2) λw3 hb=>?_;have B3:=hid (B2.out.trans (hb.mono B2.out.size));clear hb B2;go_wp21;refine zzM (S2.out w3) λw4 hb=>?_;have B4:=hid (B3.out.trans (hb.mono B3.out.size));clear hb B3 S2;go_wp21;refine zzM (Q1.out w4 (HW.out.below B4.out)) λw5 hb=>?_;have B5:=hid (B4.out.trans (hb.mono B4.out.size));clear hb B4 Q1;go_wp21;refine zzM (PT.out w5 (HW.out.below B5.out)) λw6 hb=>?_;have B6:=hid (B5.out.trans (hb.mono B5.out.size));clear hb B5 PT;go_wp21;refine zzM (SN.out w6 (HW.out.below B6.out)) λw7 hb=>?_;have B7:=hid (B6.out.trans (hb.mono B6.out.size));clear hb B6 SN;go_wp21;refine zzM (SD.out w7 (HW.out.below B7.out)) λw8 hb=>?_;have B8:=hid (B7.out.trans (hb.mono B7.out.size));clear hb B7 SD;cases i1
 ·clear Q2
  go_wp21;go_ret3;exact⟨_,rfl,B8.out⟩
 ·cases i2
  ·clear Q2
   go_wp21;go_ret3;exact⟨_,rfl,B8.out⟩
  ·go_wp21
   refine zzM (Q2.out w8 (HW.out.below B8.out)) λw9 hb=>?_;have B9:=hid (B8.out.trans (hb.mono B8.out.size));clear hb;go_wp21;go_ret3;exact⟨_,rfl,B9.out⟩
theorem z2g (r s:Nat) (hr0:0<r) (hs0:0<s) (hr:r<10^15) (hs:s<10^15) (w:zA) (hw:Wd w):
 zC zF 210 #[St (zD r),St (zD s)] w λe w'=>∃k,e=.returned (.tuple #[.string k,.bool (z5c (r:Rat) (s:Rat)),.int .i64 0])/\zB w.heap.size w w':=by
 obtain⟨r1,r2,r3⟩:=zlj hr;obtain⟨s1,s2,s3⟩:=zlj hs;have pr:(0:Rat)<(r:Rat):=by exact_mod_cast hr0
 have ps:(0:Rat)<(s:Rat):=by exact_mod_cast hs0
 have sq:sz ((r:Rat)/(s:Rat)) 15:=zvm (by omega) hr hs;have h90:∀x:Nat,x<10^15->sz (x:Rat) 90:=λx hx=>(zlj hx).2.1.mono (by omega);have okq:okN ((r:Rat)/(s:Rat)):=z6i (by omega) (by omega) sq;have hn:0<=((r:Rat)/(s:Rat)).num:=Rat.num_nonneg.2 (Rat.le_of_lt (div_pos pr ps));have le:∀n:Nat,isq n<=n:=λn=>by
  have h1:=(zv0 n).1;rcases Nat.eq_zero_or_pos (isq n) with e|e
  ·omega
  ·have:=Nat.le_mul_of_pos_left (isq n) e;omega
 have pos:∀n:Nat,0<n->0<isq n:=λn h=>by
  have h2:=(zv0 n).2;rcases Nat.eq_zero_or_pos (isq n) with e|e
  ·rw[e] at h2;omega
  ·exact e
 have a1:=sq.1;have a2:=sq.2;have dp:=((r:Rat)/(s:Rat)).den_pos;obtain⟨n1,n2, -⟩:=zlj (show isq ((r:Rat)/(s:Rat)).num.natAbs<10^15 from Nat.lt_of_le_of_lt (le _) a1);obtain⟨d1,d2, -⟩:=zlj (show isq ((r:Rat)/(s:Rat)).den<10^15 from Nat.lt_of_le_of_lt (le _) a2);exact z0e (zD r) (zD s) (numS ((r:Rat)/(s:Rat))) (zD ((r:Rat)/(s:Rat)).num.natAbs) (zD ((r:Rat)/(s:Rat)).den) (zD (isq ((r:Rat)/(s:Rat)).num.natAbs)) (zD (isq ((r:Rat)/(s:Rat)).den)) _ _ _
  (hid λW A hW hA=>zvv (some ⟨A,0,none⟩) 2 2 (λi=>if i=0 then(r:Rat) else(s:Rat)) (by omega) (λi _=>by
    by_cases e:i=0
    ·rw[if_pos e];exact⟨r1,h90 r hr⟩
    ·rw[if_neg e];exact⟨s1,h90 s hs⟩) W (hid hW) (hid (z5n A _ (r:Rat) (s:Rat) W (by rw[zhe,zhe];exact hA))))
  (hid λW=>zvu r hr0 W) (hid λW=>zvu s hs0 W)
  (hid λW hW=>by
    have:=zxz (r:Rat) (s:Rat) r2 s2 ps W hW;rw[zhe,zhe] at this;exact this)
  (hid λW hW=>by
    have:=znm _ okq W hW;rw[show zE ((r:Rat)/(s:Rat)).num=zD ((r:Rat)/(s:Rat)).num.natAbs by rw[<-Str.zad];congr 1;omega] at this;exact this)
  (hid λW hW=>zvj _ (by omega) W hW) (hid λW hW=>zvj _ (by omega) W hW)
  (hid λW hW=>by
    have:=zxz ((isq ((r:Rat)/(s:Rat)).num.natAbs:Nat):Rat) ((isq ((r:Rat)/(s:Rat)).den:Nat):Rat) n2 d2 (by have:=pos _ dp;exact_mod_cast this) W hW;rw[zhe,zhe] at this;exact this) w (hid hw)
theorem z2h (a b:List UInt8) (r:Bool)
 (H2:Hid ((a==b)=false->(a==[49])=false->(b==[49])=false->∀W:zA,Wd W->zC zF 210 #[St a,St b] W λe w'=>∃k,e=.returned (.tuple #[.string k,.bool r,.int .i64 0])/\zB W.heap.size W w'))
 (w:zA) (HW:Hid (Wd w)):
 qJ 132 #[St a,St b] w (.bool (if(a==b)=true then true else if(a==[49])=true\/(b==[49])=true then false else r)):=by
 obtain⟨s,hs⟩:=zzX (⟨a.toArray⟩:ByteArray);obtain⟨t,ht⟩:=zzX (⟨b.toArray⟩:ByteArray);have es:s.toList=a:=by rw[hs,ByteArray.toList_eq]
 have et:t.toList=b:=by rw[ht,ByteArray.toList_eq]
 rw[show St a=.string s by rw[hs],show St b=.string t by rw[ht]] at*
 rw[<-es,<-et] at H2;rw[<-es,<-et];clear es et hs ht;cases h0:(s.toList==t.toList)
 ·rw[if_neg (by simp)]
  cases h1:(s.toList==[49])
  ·cases h2:(t.toList==[49])
   ·have HR:=hid (H2.out h0 h1 h2 w HW.out)
    rw[if_neg (by simp)];clear H2;go_enter Tryz.func132,Tryz.ntmps132;go_wp21;refine HR.out.mono ?_;rintro e w1 ⟨k,rfl,hb⟩;have HB:=hid hb;clear hb;go_wp21;go_ret;exact⟨rfl,HB.out⟩
   ·rw[if_pos (by simp)]
    clear H2;go_enter Tryz.func132,Tryz.ntmps132;go_wp21;go_ret;exact⟨rfl,zM _ _⟩
  ·rw[if_pos (by simp)]
   clear H2;go_enter Tryz.func132,Tryz.ntmps132;go_wp21;go_ret;exact⟨rfl,zM _ _⟩
 ·rw[if_pos (by simp)]
  clear H2;go_enter Tryz.func132,Tryz.ntmps132;go_wp21;go_ret;exact⟨rfl,zM _ _⟩
theorem zx7 {r:Nat} (h:NrmR r) (h1:r≠1):z5c (r:Rat) ((1:Nat):Rat)=false:=by
 have hnc:=h.nc;have e:¬isq r*isq r=r:=λe=>by
  obtain⟨C,L,hCL⟩:∃C L,zro prL (1,r)=(C,L):=by
   generalize zro prL (1,r)=x;exact⟨x.1,x.2,rfl⟩
  unfold zn7 at hnc;rw[hCL] at hnc;dsimp only at hnc;split at hnc
  ·have:=(Prod.mk.inj hnc).2
   exact h1 this.symm
  ·rename_i hne
   have:=(Prod.mk.inj hnc).2;rw[this] at hne;exact hne e
 unfold z5c;rw[Bool.and_eq_false_iff];left;have hd:(r:Rat)/((1:Nat):Rat)=(r:Rat):=by rw[show((1:Nat):Rat)=1 by decide+kernel];grind
 rw[hd,show(r:Rat).num.natAbs=r from rfl];exact decide_eq_false e
theorem zw7 {a b:Nat}:(zD a==zD b)=decide (a=b):=by
 rw[Bool.eq_iff_iff,beq_iff_eq,decide_eq_true_eq];constructor
 ·intro h
  rw[<-Str.zad,<-Str.zad] at h;have:=zdo h;omega
 ·rintro rfl;rfl
theorem z4q (r s:Nat) (hr:NrmR r) (hs:NrmR s) (r8:r<10^15) (s8:s<10^15):∃t:Bool,(t=false->z5c (s:Rat) (r:Rat)=false)/\∀W:zA,Wd W->
 qJ 132 #[St (zD r),St (zD s)] W (.bool t):=by
 have d1:[49]=zD 1:=by rw[zae (by omega)];rfl
 have pr:(0:Rat)<(r:Rat):=by have:=hr.pos;exact_mod_cast this
 have ps:(0:Rat)<(s:Rat):=by have:=hs.pos;exact_mod_cast this
 have p1:(0:Rat)<((1:Nat):Rat):=by decide+kernel
 refine⟨_,λh=>?_,λW hW=>z2h _ _ (z5c (r:Rat) (s:Rat)) (hid λ_ _ _ V hV=>z2g r s hr.pos hs.pos r8 s8 V hV) W (hid hW)⟩;rw[d1,zw7,zw7,zw7] at h;simp only[decide_eq_true_eq] at h;split at h
 ·cases h
 ·rename_i h0
  split at h
  ·rename_i h1
   rcases h1 with e|e
   ·subst e;exact zx7 hs (λe=>h0 e.symm)
   ·subst e;exact zu9 pr p1 (zx7 hr h0)
  ·exact zu9 pr ps h
theorem zxa (x y n d k l:List UInt8) (c:Int) (G:Prop)
 (C1:Hid (qK 33 #[St x] (.int .i64 0)))
 (C2:Hid (qK 33 #[St y] (.int .i64 0)))
 (L1:Hid (qK 206 #[St x,.int .i64 60] (.bool false)))
 (L2:Hid (qK 206 #[St y,.int .i64 40] (.bool false)))
 (PT:Hid (qK 207 #[St y] (.tuple #[St n,St d,.int .i64 0])))
 (CM:Hid (qK 131 #[St y,.string ⟨#[48]⟩] (.int .i64 c)))
 (H1:Hid ((x==[48])=false->(d==[49])=true->0<c->(y==[49])=true->G))
 (H2:Hid ((x==[48])=false->(d==[49])=true->0<c->(y==[49])=false->((k==[49])=true->(l==y)=true->G)/\qK 208 #[St y] (.tuple #[St k,St l,.int .i64 0])))
 (w:zA) (HW:Hid (Wd w)):
 zC zF 130 #[.agg #[St x,St y]] w (ErrP w G):=by
 obtain⟨s,hs⟩:=zzX (⟨x.toArray⟩:ByteArray);obtain⟨t,ht⟩:=zzX (⟨y.toArray⟩:ByteArray);obtain⟨dd,hd⟩:=zzX (⟨d.toArray⟩:ByteArray);obtain⟨kk,hk⟩:=zzX (⟨k.toArray⟩:ByteArray);obtain⟨ll,hl⟩:=zzX (⟨l.toArray⟩:ByteArray);have es:s.toList=x:=by rw[hs,ByteArray.toList_eq]
 have et:t.toList=y:=by rw[ht,ByteArray.toList_eq]
 have ed:dd.toList=d:=by rw[hd,ByteArray.toList_eq]
 have ek:kk.toList=k:=by rw[hk,ByteArray.toList_eq]
 have el:ll.toList=l:=by rw[hl,ByteArray.toList_eq]
 rw[show St x=.string s by rw[hs],show St y=.string t by rw[ht],show St d=.string dd by rw[hd],show St k=.string kk by rw[hk],show St l=.string ll by rw[hl]] at*
 rw[<-es,<-et,<-ed] at H1;rw[<-es,<-et,<-ed,<-ek,<-el] at H2;clear es et ed ek el hs ht hd hk hl;obtain⟨W0,hW0⟩:=zzX (w.alloc (.cells #[.string s,.string t] 37));have K0:=hid (show BxT w s t W0 by rw[hW0];exact BxT.start w s t);obtain⟨c0,c1⟩:=K0.out.cx;rw[hW0] at c0 c1;have H9:=hid hW0.symm;clear hW0;go_enter Tryz.func130,Tryz.ntmps130;go_wp21;rw[H9.out];clear c0 c1 H9;refine zzM (C1.out W0 (HW.out.below K0.out.bel)) λw1 hb1=>?_;have K1:=hid (K0.out.next hb1);clear hb1 K0 C1;obtain⟨c0,c1⟩:=K1.out.cx;go_wp21;clear c0 c1;refine zzM (C2.out w1 (HW.out.below K1.out.bel)) λw2 hb2=>?_;have K2:=hid (K1.out.next hb2);clear hb2 K1 C2;obtain⟨c0,c1⟩:=K2.out.cx;cases hx0:(s.toList==[48])
 ·go_wp21
  clear c0 c1;refine zzM (L1.out w2 (HW.out.below K2.out.bel)) λw3 hb3=>?_;have K3:=hid (K2.out.next hb3);clear hb3 K2 L1;obtain⟨c0,c1⟩:=K3.out.cx;go_wp21;clear c0 c1;refine zzM (L2.out w3 (HW.out.below K3.out.bel)) λw4 hb4=>?_;have K4:=hid (K3.out.next hb4);clear hb4 K3 L2;obtain⟨c0,c1⟩:=K4.out.cx;go_wp21;clear c0 c1;refine zzM (PT.out w4 (HW.out.below K4.out.bel)) λw5 hb5=>?_;have K5:=hid (K4.out.next hb5);clear hb5 K4 PT;obtain⟨c0,c1⟩:=K5.out.cx;cases hd1:(dd.toList==[49])
  ·have hdb:(dd.toList !=[49])=true:=by simp[bne,hd1]
   clear H1 H2 CM;go_wp21;go_ret;exact⟨_,rfl,(λh=>by cases h),K5.out.bel⟩
  ·have hdb:(dd.toList !=[49])=false:=by simp[bne,hd1]
   go_wp21;clear c0 c1;refine zzM (CM.out w5 (HW.out.below K5.out.bel)) λw6 hb6=>?_;have K6:=hid (K5.out.next hb6);clear hb6 K5 CM;obtain⟨c0,c1⟩:=K6.out.cx;by_cases hc:0<c
   ·have hcn:¬c<=0:=by omega
    cases hy1:(t.toList==[49])
    ·obtain⟨hG,hN⟩:=H2.out hx0 hd1 hc hy1
     have HG:=hid hG;have HN:=hid hN;clear hG hN H1 H2;go_wp21;clear c0 c1;refine zzM (HN.out w6 (HW.out.below K6.out.bel)) λw7 hb7=>?_;have K7:=hid (K6.out.next hb7);clear hb7 K6 HN;obtain⟨c0,c1⟩:=K7.out.cx;cases hk1:(kk.toList==[49])
     ·have hkb:(kk.toList !=[49])=true:=by simp[bne,hk1]
      go_wp21;go_ret;exact⟨_,rfl,(λh=>by cases h),K7.out.bel⟩
     ·have hkb:(kk.toList !=[49])=false:=by simp[bne,hk1]
      cases hl1:(ll.toList==t.toList)
      ·have hlb:(ll.toList !=t.toList)=true:=by simp[bne,hl1]
       go_wp21;go_ret;exact⟨_,rfl,(λh=>by cases h),K7.out.bel⟩
      ·have hlb:(ll.toList !=t.toList)=false:=by simp[bne,hl1]
       have HGG:=hid (HG.out hk1 hl1);go_wp21;go_ret;exact⟨_,rfl,λ_=>HGG.out,K7.out.bel⟩
    ·have HG:=hid (H1.out hx0 hd1 hc hy1)
     clear H1 H2;go_wp21;go_ret;exact⟨_,rfl,λ_=>HG.out,K6.out.bel⟩
   ·have hcn:c<=0:=by omega
    clear H1 H2;go_wp21;go_ret;exact⟨_,rfl,(λh=>by cases h),K6.out.bel⟩
 ·clear H1 H2 CM PT L1 L2
  go_wp21;go_ret;exact⟨_,rfl,(λh=>by cases h),K2.out.bel⟩
theorem z9y (k:Nat) (hk0:0<k) (hk:k<=15) (c q:Rat) (hc:okN c) (hq:okN q) (sc:sz c k) (sq:sz q k) (w:zA) (hw:Wd w):
 zC zF 130 #[.agg #[St (numS c),St (numS q)]] w (ErrP w (∃c' r,numS c=numS c'/\sz c' k/\numS q=zD r/\r<10^k/\TrmR c' r)):=by
 have d1:zD 1=[49]:=by rw[zae (by omega)];rfl
 have z0:sz (0:Rat) 15:=(zlj (n:=0) (by omega)).2.1;have hk1:1<10^k:=Nat.one_lt_pow (by omega) (by omega);have hnz:(numS c==[48])=false->c≠0:=λh e=>by
  rw[beq_eq_false_iff_ne] at h;exact h (by rw[e];exact zie)
 have inj:∀a b:Nat,zD a=zD b->a=b:=λa b h=>by
  have:=zw7 (a:=a) (b:=b);rw[h,beq_self_eq_true] at this;exact of_decide_eq_true this.symm
 have nat:(zD q.den==[49])=true->0<cmpR q 0->∃n:Nat,numS q=zD n/\0<n/\n<10^k:=λhd hcm=>by
  rw[beq_iff_eq,<-d1] at hd;have hden:=inj _ _ hd;have hqp:0<q:=by have:=zaw q 0;grind
  have hqn:0<=q.num:=Rat.num_nonneg.2 (Rat.le_of_lt hqp);have hq0:q.num≠0:=λe=>by have:=Rat.num_eq_zero.1 e;grind
  refine⟨q.num.natAbs,?_,by omega,sq.1⟩;unfold numS;rw[if_pos hden,List.append_nil,<-Str.zad];congr 1;omega
 by_cases hnat:(zD q.den==[49])=true/\0<cmpR q 0
 ·obtain⟨n,hn,n0,n8⟩:=nat hnat.1 hnat.2
  refine zxa (numS c) (numS q) (zE q.num) (zD q.den) (zD (zn7 n).1) (zD (zn7 n).2) (cmpR q 0) _ (hid λW hW=>zft c hc W hW) (hid λW hW=>zft q hq W hW) (hid λW hW=>zvi c 60 k (by omega) hc hk0 sc (by omega) W hW) (hid λW hW=>zvi q 40 k (by omega) hq hk0 sq (by omega) W hW) (hid λW hW=>znm q hq W hW) (hid λW hW=>?_) (hid λh0 _ _ h1=>?_) (hid λh0 _ _ h1=>⟨λhk hl=>?_,λW hW=>?_⟩) w (hid hw)
  ·have:=zx0 q 0 (sq.mono hk) z0 W hW
   rw[nm0] at this;exact this
  ·rw[beq_iff_eq] at h1
   exact⟨c,1,rfl,sc,by rw[h1,d1],hk1,hnz h0,sc.mono (by omega),zyl.1⟩
  ·rw[beq_iff_eq,<-d1] at hk
   rw[beq_iff_eq,hn] at hl;exact⟨c,n,rfl,sc,hn,n8,hnz h0,sc.mono (by omega),n0,by have:=(zaf n k hk0).2 n8;omega,Prod.ext (inj _ _ hk) (inj _ _ hl)⟩
  ·rw[hn];exact z0x n n0 (zS n8 (yF (by omega) hk)) W hW
 ·refine zxa (numS c) (numS q) (zE q.num) (zD q.den) [] [] (cmpR q 0) _ (hid λW hW=>zft c hc W hW) (hid λW hW=>zft q hq W hW) (hid λW hW=>zvi c 60 k (by omega) hc hk0 sc (by omega) W hW) (hid λW hW=>zvi q 40 k (by omega) hq hk0 sq (by omega) W hW) (hid λW hW=>znm q hq W hW) (hid λW hW=>?_) (hid λ_ h1 h2 _=>absurd ⟨h1,h2⟩ hnat) (hid λ_ h1 h2 _=>absurd ⟨h1,h2⟩ hnat) w (hid hw)
  have:=zx0 q 0 (sq.mono hk) z0 W hW;rw[nm0] at this;exact this
theorem z0y (p:Option Addr) (cap:Nat) (w:zA):zC zF 67 #[.slice p 0 cap] w (ErrP w True):=by
 go_enter Tryz.func67,Tryz.ntmps67;go_wp21;refine wp_loop_rounds 1 ?_;rw[rounds_succ];go_wp21;go_ret;exact⟨_,rfl,λ_=>trivial,zM _ _⟩
theorem z0z (b off cap:Nat) (x0 y0:List UInt8) (G0:Prop)
 (T0:Hid (∀W:zA,Wd W->zC zF 130 #[.agg #[St x0,St y0]] W (ErrP W G0)))
 (w:zA) (HW:Hid (Wd w)) (HC:Hid (w.cell? ⟨b,off,none⟩=some (St x0)/\w.cell? ⟨b,off+1,none⟩=some (St y0))):
 zC zF 67 #[.slice (some ⟨b,off,none⟩) 1 cap] w (ErrP w G0):=by
 obtain⟨c0,c1⟩:=HC.out;go_enter Tryz.func67,Tryz.ntmps67;go_wp21;refine wp_loop_rounds 2 ?_;rw[rounds_succ];go_wp21;refine(T0.out w HW.out).mono ?_;rintro e w1 ⟨r,rfl,hr,hb⟩;have B1:=hid hb;have HR:=hid hr;clear hb hr c0 c1;by_cases h0:r=0
 ·subst h0
  have HG:=hid (HR.out rfl);go_wp21
  (refine wp_region_quiet_lit (by kernel_rfl) (by kernel_rfl) (WQ.out ?_);(repeat(first|(apply WQ.read (by rfl);(focus(rintro W ⟨n,rfl⟩;go_simp;try with_reducible rfl));try simp only[zzQ])|(apply WQ.skip (by rfl);try simp only[zzQ])));refine WQ.nil ?_;rintro _ ⟨nq,rfl⟩)
  go_wp21;refine wp_loop_rounds 1 ?_;rw[rounds_succ];go_wp21;rw[rounds_succ];go_wp21;go_ret;exact⟨_,rfl,λ_=>HG.out,zao B1.out _⟩
 ·have hrb:(r !=0)=true:=by simpa using h0
  have HN:=hid h0;clear h0;go_wp21;go_ret;exact⟨r,rfl,λh=>absurd h HN.out,B1.out⟩
theorem z00 (b off cap:Nat) (x0 y0 x1 y1:List UInt8) (G0 G1 OR UL:Prop)
 (T0:Hid (∀W:zA,Wd W->zC zF 130 #[.agg #[St x0,St y0]] W (ErrP W G0)))
 (T1:Hid (∀W:zA,Wd W->zC zF 130 #[.agg #[St x1,St y1]] W (ErrP W G1)))
 (CM:Hid (G0->G1->∃c:Int,(c<0->OR)/\qK 131 #[St y0,St y1] (.int .i64 c)))
 (RL:Hid (G0->G1->∃t:Bool,(t=false->UL)/\qK 132 #[St y0,St y1] (.bool t)))
 (w:zA) (HW:Hid (Wd w)) (HC:Hid (w.cell? ⟨b,off,none⟩=some (St x0)/\w.cell? ⟨b,off+1,none⟩=some (St y0)/\w.cell? ⟨b,off+2,none⟩=some (St x1)/\w.cell? ⟨b,off+2+1,none⟩=some (St y1))):
 zC zF 67 #[.slice (some ⟨b,off,none⟩) 2 cap] w (ErrP w (G0/\G1/\OR/\UL)):=by
 obtain⟨c0,c1,c2,c3⟩:=HC.out;go_enter Tryz.func67,Tryz.ntmps67;go_wp21;refine wp_loop_rounds 3 ?_;rw[rounds_succ];go_wp21;refine(T0.out w HW.out).mono ?_;rintro e w1 ⟨r,rfl,hr,hb⟩;have B1:=hid hb;have HR:=hid hr;clear hb hr c0 c1 c2 c3 T0;by_cases h0:r=0
 ·subst h0
  have HG0:=hid (HR.out rfl);clear HR;go_wp21
  (refine wp_region_quiet_lit (by kernel_rfl) (by kernel_rfl) (WQ.out ?_);(repeat(first|(apply WQ.read (by rfl);(focus(rintro W ⟨n,rfl⟩;go_simp;try with_reducible rfl));try simp only[zzQ])|(apply WQ.skip (by rfl);try simp only[zzQ])));refine WQ.nil ?_;rintro _ ⟨nq,rfl⟩)
  go_wp21;refine wp_loop_rounds 1 ?_;rw[rounds_succ];go_wp21;rw[rounds_succ];obtain⟨wq,hwq⟩:=zzX (w1.drewN nq);have BQ:Hid (qL w wq):=hid (by rw[hwq];exact zao B1.out _);rw[<-hwq];clear hwq;have c2:=zai BQ.out HC.out.2.2.1;have c3:=zai BQ.out HC.out.2.2.2;go_wp21;refine(T1.out wq (HW.out.below BQ.out)).mono ?_;rintro e w2 ⟨r,rfl,hr,hb⟩;have B2:=hid (BQ.out.trans (hb.mono BQ.out.size));have HR:=hid hr;clear hb hr c2 c3 T1 BQ;by_cases h0:r=0
  ·subst h0
   have HG1:=hid (HR.out rfl);obtain⟨c,hc1,hc2⟩:=CM.out HG0.out HG1.out;obtain⟨bb,hb1,hb2⟩:=RL.out HG0.out HG1.out;have HC1:=hid hc1;have HCM:=hid hc2;have HB1:=hid hb1;have HRL:=hid hb2;have HC2:=hid (⟨zai B2.out HC.out.1,zai B2.out HC.out.2.1,zai B2.out HC.out.2.2.1,zai B2.out HC.out.2.2.2⟩:_/\_/\_/\_);clear hc1 hc2 hb1 hb2 CM RL HR;by_cases hcn:c<0
   ·have hng:¬0<=c:=by omega
    have hgd:decide (0<=c)=false:=decide_eq_false hng;have HOR:=hid (HC1.out hcn);go_wp21
    focus
     refine zbl (λ_ W=>qL w2 W) (by kernel_rfl) (by kernel_rfl) (zM _ _).drew ?_;refine qR (.int .i64 1) ?_ (hy:=λf W' hf h=>by go_simp;try first|omega|decide);refine qR (.bool true) ?_ (hy:=λf W' hf h=>by go_simp;try first|omega|decide);refine qR (.bool true) ?_ (hy:=λf W' hf h=>by go_simp;try first|omega|decide);simp only[zzQ];refine qR (.slice (some ⟨b,off,none⟩) 2 cap) ?_ (hy:=λf W' hf h=>by go_simp;try first|omega|decide);refine qR (.int .i64 1) ?_ (hy:=λf W' hf h=>by go_simp;try first|omega|decide);refine qR (.int .i64 0) ?_ (hy:=λf W' hf h=>by go_simp;try first|omega|decide);simp only[zzQ];refine qR (.pointer (some ⟨b,off,none⟩)) ?_ (hy:=λf W' hf h=>by go_simp;try first|omega|decide);refine qR (.pointer (some ⟨b,off+1,none⟩)) ?_ (hy:=λf W' hf h=>by go_simp;try first|omega|decide);refine qR (St y0) ?_ (hy:=λf W' hf h=>by have c0:=zai h HC2.out.2.1;go_simp;try first|omega|decide);simp only[zzQ];refine qR (.slice (some ⟨b,off,none⟩) 2 cap) ?_ (hy:=λf W' hf h=>by go_simp;try first|omega|decide);refine qR (.int .i64 1) ?_ (hy:=λf W' hf h=>by go_simp;try first|omega|decide);refine qR (.pointer (some ⟨b,off+2,none⟩)) ?_ (hy:=λf W' hf h=>by go_simp;try first|omega|decide);simp only[zzQ];refine qR (.pointer (some ⟨b,off+2+1,none⟩)) ?_ (hy:=λf W' hf h=>by go_simp;try first|omega|decide);refine qR (St y1) ?_ (hy:=λf W' hf h=>by have c0:=zai h HC2.out.2.2.2;go_simp;try first|omega|decide);simp only[zzQ]
     refine zar (.int .i64 c) (by rfl) (λf W' hf h C' hC'=>by
      go_simp;refine zzM (HCM.out _ (HW.out.below (B2.out.trans (h.mono B2.out.size)))) λw' hb=>?_;exact⟨rfl,hC' _ (h.trans (hb.mono h.size))⟩) ?_
     refine qR (.bool false) ?_ (hy:=λf W' hf h=>by go_simp;try first|omega|decide);refine qR (.bool false) ?_ (hy:=λf W' hf h=>by go_simp;try first|omega|decide);simp only[zzQ];refine zck λf W5 hf h5=>?_;obtain⟨w5,hw5⟩:=zzX W5;rw[<-hw5] at h5⊢;have B5:=hid (B2.out.trans (h5.mono B2.out.size));have HC5:=hid (⟨zai B5.out HC.out.1,zai B5.out HC.out.2.1,zai B5.out HC.out.2.2.1,zai B5.out HC.out.2.2.2⟩:_/\_/\_/\_);clear hf h5 hw5 HC2 HCM;go_wp21;refine wp_loop_rounds 2 ?_;rw[rounds_succ];go_wp21;refine zbl (λ_ W=>qL w5 W) (by kernel_rfl) (by kernel_rfl) (zM _ _).drew ?_;refine qR (.slice (some ⟨b,off,none⟩) 2 cap) ?_ (hy:=λf W' hf h=>by go_simp;try first|omega|decide);refine qR (.int .i64 0) ?_ (hy:=λf W' hf h=>by go_simp;try first|omega|decide);refine qR (.pointer (some ⟨b,off,none⟩)) ?_ (hy:=λf W' hf h=>by go_simp;try first|omega|decide);simp only[zzQ];refine qR (.pointer (some ⟨b,off+1,none⟩)) ?_ (hy:=λf W' hf h=>by go_simp;try first|omega|decide);refine qR (St y0) ?_ (hy:=λf W' hf h=>by have c0:=zai h HC5.out.2.1;go_simp;try first|omega|decide);refine qR (.slice (some ⟨b,off,none⟩) 2 cap) ?_ (hy:=λf W' hf h=>by go_simp;try first|omega|decide);simp only[zzQ];refine qR (.int .i64 1) ?_ (hy:=λf W' hf h=>by go_simp;try first|omega|decide);refine qR (.pointer (some ⟨b,off+2,none⟩)) ?_ (hy:=λf W' hf h=>by go_simp;try first|omega|decide);refine qR (.pointer (some ⟨b,off+2+1,none⟩)) ?_ (hy:=λf W' hf h=>by go_simp;try first|omega|decide);simp only[zzQ];refine qR (St y1) ?_ (hy:=λf W' hf h=>by have c0:=zai h HC5.out.2.2.2;go_simp;try first|omega|decide);simp only[zzQ]
     refine zar (.bool bb) (by rfl) (λf W' hf h C' hC'=>by
      go_simp;refine zzM (HRL.out _ (HW.out.below (B5.out.trans (h.mono B5.out.size)))) λw' hb=>?_;exact⟨rfl,hC' _ (h.trans (hb.mono h.size))⟩) ?_
     try simp only[zzQ]
     refine zck λf W6 hf h6=>?_;have B6:=hid (B5.out.trans (h6.mono B5.out.size));clear hf h6 HC5 HRL;cases bb
     ·have HUL:=hid (HB1.out rfl)
      go_wp21;rw[rounds_succ];go_wp21;rw[rounds_succ];go_wp21;go_ret;exact⟨_,rfl,λ_=>⟨HG0.out,HG1.out,HOR.out,HUL.out⟩,B6.out⟩
     ·go_wp21
      go_ret;exact⟨_,rfl,(λh=>by cases h),B6.out⟩
   ·have hng:0<=c:=by omega
    have hgd:decide (0<=c)=true:=decide_eq_true hng;go_wp21
    focus
     refine zbl (λ_ W=>qL w2 W) (by kernel_rfl) (by kernel_rfl) (zM _ _).drew ?_;refine qR (.int .i64 1) ?_ (hy:=λf W' hf h=>by go_simp;try first|omega|decide);refine qR (.bool true) ?_ (hy:=λf W' hf h=>by go_simp;try first|omega|decide);refine qR (.bool true) ?_ (hy:=λf W' hf h=>by go_simp;try first|omega|decide);simp only[zzQ];refine qR (.slice (some ⟨b,off,none⟩) 2 cap) ?_ (hy:=λf W' hf h=>by go_simp;try first|omega|decide);refine qR (.int .i64 1) ?_ (hy:=λf W' hf h=>by go_simp;try first|omega|decide);refine qR (.int .i64 0) ?_ (hy:=λf W' hf h=>by go_simp;try first|omega|decide);simp only[zzQ];refine qR (.pointer (some ⟨b,off,none⟩)) ?_ (hy:=λf W' hf h=>by go_simp;try first|omega|decide);refine qR (.pointer (some ⟨b,off+1,none⟩)) ?_ (hy:=λf W' hf h=>by go_simp;try first|omega|decide);refine qR (St y0) ?_ (hy:=λf W' hf h=>by have c0:=zai h HC2.out.2.1;go_simp;try first|omega|decide);simp only[zzQ];refine qR (.slice (some ⟨b,off,none⟩) 2 cap) ?_ (hy:=λf W' hf h=>by go_simp;try first|omega|decide);refine qR (.int .i64 1) ?_ (hy:=λf W' hf h=>by go_simp;try first|omega|decide);refine qR (.pointer (some ⟨b,off+2,none⟩)) ?_ (hy:=λf W' hf h=>by go_simp;try first|omega|decide);simp only[zzQ];refine qR (.pointer (some ⟨b,off+2+1,none⟩)) ?_ (hy:=λf W' hf h=>by go_simp;try first|omega|decide);refine qR (St y1) ?_ (hy:=λf W' hf h=>by have c0:=zai h HC2.out.2.2.2;go_simp;try first|omega|decide);simp only[zzQ]
     refine zar (.int .i64 c) (by rfl) (λf W' hf h C' hC'=>by
      go_simp;refine zzM (HCM.out _ (HW.out.below (B2.out.trans (h.mono B2.out.size)))) λw' hb=>?_;exact⟨rfl,hC' _ (h.trans (hb.mono h.size))⟩) ?_
     refine qR (.bool true) ?_ (hy:=λf W' hf h=>by go_simp;try first|omega|decide);refine qR (.bool true) ?_ (hy:=λf W' hf h=>by go_simp;try first|omega|decide);simp only[zzQ];refine zck λf W5 hf h5=>?_;have B5:=hid (B2.out.trans (h5.mono B2.out.size));clear hf h5 HC2 HCM;go_wp21;go_ret;exact⟨_,rfl,(λh=>by cases h),B5.out⟩
  ·have hrb:(r !=0)=true:=by simpa using h0
   have HN:=hid h0;clear h0;go_wp21;go_ret;exact⟨r,rfl,λh=>absurd h HN.out,B2.out⟩
 ·have hrb:(r !=0)=true:=by simpa using h0
  have HN:=hid h0;clear h0;go_wp21;go_ret;exact⟨r,rfl,λh=>absurd h HN.out,B1.out⟩
theorem zu4 {w y:zA} {cs:Array Value} {t:TypeId} (hy:y=w.alloc (.cells cs t)):qL w y/\y.heap[w.heap.size]? =some (.cells cs t (0,0)):=by
 rw[hy];exact⟨(zM _ w).alloc (Nat.le_refl _) _,zG w _⟩
end
section
open Go.RowKit Go.Shelf Lib Str Limb
attribute [local go_sem] Oper.semAt_some
section
variable {w W W':zA} {a0 a1 a2 b0 b1 b2 o0 o1 o2:List UInt8} {Y:Nat}
theorem zah {W:zA} {A:Nat} {x y z:Value} {t:TypeId} (h:W.heap[A]? =some (.cells #[x,y,z] t (0,0))):W.cell? ⟨A,0,none⟩=some x/\W.cell? ⟨A,1,none⟩=some y/\W.cell? ⟨A,2,none⟩=some z/\W.frozen? ⟨A,0,none⟩=false/\W.frozen? ⟨A,1,none⟩=false/\W.frozen? ⟨A,2,none⟩=false:=
 ⟨by rw[zJ h];rfl,by rw[zJ h];rfl,by rw[zJ h];rfl,Go.Joins.unfrozen_of_block h 0,Go.Joins.unfrozen_of_block h 1,Go.Joins.unfrozen_of_block h 2⟩
end
section
variable {n X0 Y0:Nat} {z:Array Value} {c:Nat->Array Value} {t:TypeId} {w W W':zA} {q:Nat->Nat} {f:Nat->Bool}
end
section
variable {w W W':zA} {x0 x1 x2 y0 y1 y2 o0 o1 o2:List UInt8} {Y1 Y2:Nat}
end
end
section
open Go.RowKit Go.Shelf Lib Str Limb
end
section
open Go.RowKit Go.Shelf Lib Str Limb Geo
attribute [local go_sem] Oper.semAt_some
section
variable {w W W':zA} {a b c a' b' c':List UInt8} {d d':Value}
end
end
section
open Go.RowKit Go.Shelf Lib Str Limb
attribute [local go_sem] Oper.semAt_some
def h12 (X Y Z:Nat->List UInt8) (D:Nat->Value):Array Value:= #[St (X 0),St (Y 0),St (Z 0),D 0,St (X 1),St (Y 1),St (Z 1),D 1,St (X 2),St (Y 2),St (Z 2),D 2]
section
variable {w W W':zA} {ha hb hc X X':Array Value} {T:Nat} {D:Option Nat}
end
section
variable {w W:zA} {hb hc:Array Value} {T:Nat} {D:Option Nat}
end
section
variable {w W W':zA} {ha hb hc X V:Array Value} {T D O:Nat} {o0 o1 o2:Value}
end
section
variable {w W W':zA} {X Y Z cx cy cz:Nat->List UInt8} {Dv:Nat->Value} {T B k:Nat}
end
end
section
open Go.RowKit Go.Shelf Lib Str Limb
end
section
open Go.RowKit Go.Shelf Lib Str Limb Geo
attribute [local go_sem] Oper.semAt_some
theorem zzk (l:List (Rat×Nat)):sgeL l=0\/sgeL l=4:=by
 unfold sgeL errP;split
 ·exact .inl rfl
 ·split
  ·exact .inr rfl
  ·exact .inl rfl
theorem znt (l:List (Rat×Nat)): -2<sgnL l/\sgnL l<2:=by
 unfold sgnL;split
 ·omega
 ·rcases zu6 l.length (λk=>valZ l (plN k)) with⟨h,_⟩|⟨h,_⟩|h<;>rw[h]<;>omega
end
section
open Go.RowKit Go.Shelf Lib Str Limb
section
variable {A B C:Nat->Rat} {D:Nat->List (Rat×Nat)}
end
section
variable {X Y Z D:List (Rat×Nat)} (hX:PosR X) (hY:PosR Y) (hZ:PosR Z) (hD:PosR D)
include hX hY
end
def dfL (l m:List (Rat×Nat)):List (Rat×Nat):=mkG (l++sclL m (-1))
theorem z9r (v1 v2:Value) (l1 l2:List (Rat×Nat)) (ok1:SdOk l1) (ok2:SdOk l2) (hlen:l1.length+l2.length<=12) (w:zA) (hw:Hw w) (h1:SdL v1 l1 w) (h2:SdL v2 l2 w):
 zC zF 14 #[v1,v2] w λe w'=>∃m r,e=.returned (.tuple #[.int .i64 m,.int .i64 r])/\zB w.heap.size w w'/\((r=4/\m=0/\True)\/(m=sgnL (dfL l1 l2)/\r=sgeL (dfL l1 l2)/\∀t∈dfL l1 l2,sz t.1 60)):=by
 have ld:(sclL l2 (-1)).length=l2.length:=by simp[sclL]
 exact zjn v1 v2 _ _ (λu W=>SdL u (dfL l1 l2) W) (∀t∈dfL l1 l2,sz t.1 60) True w
  (hid ((z6n v1 v2 l1 l2 ok1 ok2 hlen w hw.d hw.p h1 h2).mono λe w' ⟨q,n,c,r,e1,e2,e3⟩=>⟨q,n,c,r,e1,e2,e3.imp id λh=>⟨h.1,trivial⟩⟩))
  (hid λW u hE hW hu=>z55 u _ (z2e ok1 (zvn ok2) (by omega) hE) W (hw.below hW).wd (hw.below hW).sw hu)
theorem z8i {T:List (Rat×Nat)} (hT:PosR T) (h:∀r,0<r->phi r (mkG T)=0):mkG T=[]:=zt0 hT λr hr=>by rw[<-zuc hr hT];exact h r hr
theorem yan {l m:List (Rat×Nat)} (hl:PosR l) (hm:PosR m):PosR (l++sclL m (-1)):=ztb hl (zth hm (-1))
theorem zqd {N d s z j s':Nat} (hd:0<d) (h2:N<(s+1)*(s+1)) (hz:s/d=z) (hj:2*((z+1)*d)*d<=10^j) (h3:s'*s'<=N*(10^j*10^j)):s'/d+2<=(z+1)*10^j:=by
 have a2:s+1<=(z+1)*d:=by
  have:=Nat.lt_div_mul_add hd (a:=s);rw[hz] at this;rw[Nat.add_mul,Nat.one_mul];omega
 have hA:N+1<=(z+1)*d*((z+1)*d):=zS h2 (Nat.mul_le_mul a2 a2);generalize hAe:(z+1)*d=A at*
 generalize 10^j=T at*
 have hA1:d<=A:=by rw[<-hAe,Nat.add_mul,Nat.one_mul];omega
 have hT:1<=T:=by
  have:0<2*A*d:=Nat.mul_pos (Nat.mul_pos (by omega) (by omega)) hd;omega
 have hAT:d<=A*T:=zO hA1 (Nat.le_mul_of_pos_right _ hT);have h4:s'<A*T-d:=by
  refine z6o ?_;have h5:(N+1)*(T*T)<=A*A*(T*T):=Nat.mul_le_mul_right _ hA;have h6:2*A*d*T<=T*T:=Nat.mul_le_mul_right _ hj;have h7:(A*T-d)*(A*T-d)+2*A*d*T=A*A*(T*T)+d*d:=by
   have e:A*T=(A*T-d)+d:=by omega
   generalize A*T-d=x at*
   have e1:A*A*(T*T)=(A*T)*(A*T):=by ac_rfl
   have e2:2*A*d*T=2*(A*T)*d:=by ac_rfl
   rw[e1,e2,e];simp only[Nat.mul_add,Nat.add_mul,Nat.mul_assoc];have:x*d=d*x:=Nat.mul_comm _ _;omega
  have h8:0<d*d:=Nat.mul_pos hd hd;rw[Nat.add_mul,Nat.one_mul] at h5;omega
 have h5:s'/d*d<=s':=Nat.div_mul_le_self _ _;have h6:(s'/d+1)*d<A*T:=by rw[Nat.add_mul,Nat.one_mul];omega
 have h7:A*T=(z+1)*T*d:=by rw[<-hAe];ac_rfl
 rw[h7] at h6;have:=Nat.lt_of_mul_lt_mul_right h6;omega
theorem zqe {N d j s' c:Nat} (hd:0<d) (hN:c*d*(c*d)<N) (hj:4*(c*d)*d+4*(d*d)<=10^j) (h3:N*(10^j*10^j)<(s'+1)*(s'+1)):c*10^j+2<=s'/d:=by
 generalize hB:c*d=B at*
 generalize 10^j=T at*
 have h4:B*T+2*d<s'+1:=by
  refine z6o ?_;have h5:(B*B+1)*(T*T)<=N*(T*T):=Nat.mul_le_mul_right _ hN;have h6:(4*B*d+4*(d*d))*T<=T*T:=Nat.mul_le_mul_right _ hj;have hT:1<=T:=by
   have:0<d*d:=Nat.mul_pos hd hd;omega
  have h7:4*(d*d)<=4*(d*d)*T:=Nat.le_mul_of_pos_right _ hT;have e1:(B*T+2*d)*(B*T+2*d)=B*B*(T*T)+4*B*d*T+4*(d*d):=by
   have a1:B*T*(B*T)=B*B*(T*T):=by ac_rfl
   have a2:B*T*(2*d)=2*(B*d*T):=by ac_rfl
   have a3:2*d*(B*T)=2*(B*d*T):=by ac_rfl
   have a4:2*d*(2*d)=4*(d*d):=by
    rw[show 2*d*(2*d)=(2*2)*(d*d) by ac_rfl]
   have a5:4*B*d*T=4*(B*d*T):=by ac_rfl
   simp only[Nat.mul_add,Nat.add_mul];rw[a1,a2,a3,a4,a5];omega
  rw[e1];rw[Nat.add_mul,Nat.one_mul] at h5;rw[Nat.add_mul] at h6;omega
 refine(Nat.le_div_iff_mul_le hd).2 ?_;have:(c*T+2)*d=B*T+2*d:=by rw[<-hB,Nat.add_mul];congr 1;ac_rfl
 omega
theorem zrq {t:Rat×Nat} (hne:t.1≠0) (hr:0<t.2) (p:Nat):∃j,flT t (p+j)+2<=(flT t p+1)*(10^j:Nat):=by
 have hd:0<t.1.den:=t.1.den_pos;have hT:∀j,trN t (p+j)=trN t p*(10^j*10^j):=λj=>by
  unfold trN;rw[show 2*(p+j)=2*p+(j+j) by omega,Nat.pow_add,Nat.pow_add];simp only[Nat.mul_assoc]
 have hN0:0<trN t p:=by
  unfold trN;have:0<t.1.num.natAbs:=Int.natAbs_pos.2 λe=>hne (Rat.num_eq_zero.1 e);exact Nat.mul_pos (Nat.mul_pos (Nat.mul_pos this this) hr) (yS (by simp))
 obtain⟨s1,s2⟩:=zv0 (trN t p);have big:∀n:Nat,n<=10^n:=λn=>Nat.le_of_lt (Nat.lt_pow_self (by omega));by_cases hn:t.1.num<0
 ·-- negative
  obtain⟨c,hc,hcN⟩:∃c:Nat,flT t p+1= -(c:Int)/\c*t.1.den*(c*t.1.den)<trN t p:=by
   unfold flT floT;rw[if_pos hn];generalize isq (trN t p)=s at*
   have b1:=Nat.div_mul_le_self s t.1.den;by_cases h:s*s=trN t p/\s%t.1.den=0
   ·rw[if_pos h]
    have e:s/t.1.den*t.1.den=s:=Nat.div_mul_cancel (Nat.dvd_of_mod_eq_zero h.2);have hs:0<s:=yS λk=>by rw[k] at h;omega
    have hz:0<s/t.1.den:=yS λk=>by rw[k] at e;omega
    refine⟨s/t.1.den-1,by omega,?_⟩;have:(s/t.1.den-1)*t.1.den<s:=by
     rw[Nat.sub_mul,Nat.one_mul,e];omega
    rw[<-h.1];exact Nat.mul_self_lt_mul_self_iff.2 this
   ·rw[if_neg h]
    refine⟨s/t.1.den,by omega,?_⟩;rcases Nat.lt_or_ge (s/t.1.den*t.1.den) s with k|k
    ·exact zS (Nat.mul_self_lt_mul_self_iff.2 k) s1
    ·have e:s/t.1.den*t.1.den=s:=by omega
     rw[e];have hm:s%t.1.den=0:=by
      have:=Nat.div_add_mod s t.1.den;rw[Nat.mul_comm] at this;omega
     have:s*s≠trN t p:=λq=>h ⟨q,hm⟩;omega
  refine⟨4*(c*t.1.den)*t.1.den+4*(t.1.den*t.1.den),?_⟩;generalize hj:4*(c*t.1.den)*t.1.den+4*(t.1.den*t.1.den)=j;have hj2:=big j;obtain⟨r1,r2⟩:=zv0 (trN t (p+j));have g:=zqe hd hcN (by rw[hj];exact hj2) (by rw[<-hT];exact r2);rw[hc];unfold flT floT;rw[if_pos hn];generalize isq (trN t (p+j))/t.1.den=z at*
  have e: -(c:Int)*((10^j:Nat):Int)= -((c*10^j:Nat):Int):=by rw[Int.neg_mul,Int.natCast_mul]
  rw[e];split<;>omega
 ·refine⟨2*((isq (trN t p)/t.1.den+1)*t.1.den)*t.1.den,?_⟩
  generalize hj:2*((isq (trN t p)/t.1.den+1)*t.1.den)*t.1.den=j;have hj2:=big j;obtain⟨r1,r2⟩:=zv0 (trN t (p+j));have g:=zqd hd s2 rfl (by rw[hj];exact hj2) (by rw[<-hT];exact r1);unfold flT floT;rw[if_neg hn,if_neg hn];have e:(((isq (trN t p)/t.1.den:Nat):Int)+1)*((10^j:Nat):Int)=(((isq (trN t p)/t.1.den+1)*10^j:Nat):Int):=by
   rw[Int.natCast_mul,Int.natCast_add];rfl
  rw[e];omega
theorem zka {l:List (Rat×Nat)} (hl:l≠[]) (h:∀t∈l,t.1≠0) (hp:PosR l) {p:Nat} (hn:valZ l p+l.length<=0):∃P,∀q,valZ l q*(10^P:Nat)<= -((10^q:Nat):Int):=by
 obtain⟨t,m,rfl⟩:∃t m,l=t::m:=by
  cases l with
  |nil=>exact(hl rfl).elim
  |cons t m=>exact⟨t,m,rfl⟩
 have hr:0<t.2:=by have:=hp t (yD ..);exact_mod_cast this
 obtain⟨j,hj⟩:=zrq (h t (yD ..)) hr p;refine⟨p+j,λq=>?_⟩;have h1:=yal (h t (yD ..)) (p+j) q;have h1':=yal (h t (yD ..)) q (p+j);have h2:=z7y q p m λc hc=>h c (List.mem_cons_of_mem _ hc);have hv:valZ (t::m) p=flT t p+valZ m p:=rfl;have hv':valZ (t::m) q=flT t q+valZ m q:=rfl;rw[hv] at hn;rw[hv'];have hlen:((t::m).length:Int)=(m.length:Int)+1:=by simp
 rw[hlen] at hn;have eP:((10^(p+j):Nat):Int)=((10^p:Nat):Int)*((10^j:Nat):Int):=by rw[Nat.pow_add,Int.natCast_mul]
 have P0:(0:Int)<((10^p:Nat):Int):=by exact_mod_cast yS (by simp)
 have J0:(0:Int)<((10^j:Nat):Int):=by exact_mod_cast yS (by simp)
 have Q0:(0:Int)<((10^q:Nat):Int):=by exact_mod_cast yS (by simp)
 rw[eP] at h1'⊢;generalize ((10^p:Nat):Int)=P at*
 generalize ((10^j:Nat):Int)=J at*
 generalize ((10^q:Nat):Int)=Q at*
 generalize flT t p=a at*
 generalize flT t q=b at*
 generalize flT t (p+j)=g at*
 generalize valZ m p=u at*
 generalize valZ m q=v at*
 generalize (m.length:Int)=n at*
 have k1:(g+1)*Q<=((a+1)*J-1)*Q:=Int.mul_le_mul_of_nonneg_right (by omega) (Int.le_of_lt Q0);have k2:=Int.mul_le_mul_of_nonneg_right h2 (Int.le_of_lt J0);have k3:((a+1)+(u+n))*(J*Q)<=0:=Int.mul_nonpos_of_nonpos_of_nonneg (by omega) (Int.le_of_lt (Int.mul_pos J0 Q0));have e1:(b+v)*(P*J)=b*(P*J)+v*P*J:=by rw[Int.add_mul,Int.mul_assoc v]
 have e2:((a+1)*J-1)*Q=(a+1)*(J*Q)-Q:=by rw[Int.sub_mul,Int.one_mul,Int.mul_assoc]
 have e3:(u+n)*Q*J=(u+n)*(J*Q):=by rw[Int.mul_assoc,Int.mul_comm Q J]
 rw[Int.add_mul] at k3;rw[e1];rw[e2] at k1;rw[e3] at k2;omega
theorem zlz {f:Nat->Rat} {C K:Rat} {P:Nat} (h1:∀q,((10^q:Nat):Rat)<=(f q+C)*((10^P:Nat):Rat)) (h2:∀q,f q<=K):False:=by
 obtain⟨q,hq⟩:=yam ((K+C)*((10^P:Nat):Rat));have P1:(0:Rat)<=((10^P:Nat):Rat):=by exact_mod_cast zR _
 have h3:=Rat.mul_le_mul_of_nonneg_right (show f q+C<=K+C by have:=h2 q;grind) P1;have:=h1 q;grind
theorem zkc {l:List (Rat×Nat)} (h:∀t∈l,t.1≠0) {p:Nat} (hp:0<valZ l p) (q:Nat):((10^q:Nat):Rat)<=(vZ l q+(l.length:Rat))*((10^p:Nat):Rat):=by
 have h1:=z7y p q l h;have Q0:(0:Int)<=((10^q:Nat):Int):=Int.natCast_nonneg _;have a:=Int.mul_le_mul_of_nonneg_right (show 1<=valZ l p by omega) Q0;rw[Int.one_mul] at a;have b:((10^q:Nat):Int)<=(valZ l q+(l.length:Int))*((10^p:Nat):Int):=by omega
 have c:((((10^q:Nat):Int)):Rat)<=(((valZ l q+(l.length:Int))*((10^p:Nat):Int):Int):Rat):=by exact_mod_cast b
 rw[Rat.intCast_mul,Rat.intCast_add] at c;exact c
theorem zqn {l:List (Rat×Nat)} (h:∀t∈l,t.1≠0) {p:Nat} (hp:0<valZ l p) (q:Nat): -(l.length:Rat)<=vZ l q:=by
 have h1:=zkc h hp q;have P1:(0:Rat)<=((10^p:Nat):Rat):=by exact_mod_cast zR _
 have Q1:(0:Rat)<=((10^q:Nat):Rat):=by exact_mod_cast zR _
 rcases(show-(l.length:Rat)<=vZ l q\/vZ l q+(l.length:Rat)<0 by grind) with k|k
 ·exact k
 ·have Q2:(0:Rat)<((10^q:Nat):Rat):=by exact_mod_cast yS (by simp)
  have P2:(0:Rat)<((10^p:Nat):Rat):=by exact_mod_cast yS (by simp)
  have:=Rat.mul_pos (show 0< -(vZ l q+(l.length:Rat)) by grind) P2;grind
theorem zq6 {l l':List (Rat×Nat)} (h:∀t∈l,t.1≠0) (h':∀t∈l',t.1≠0) (hp:PosR l) (hp':PosR l') (hl:l≠[]) (hl':l'≠[]) {k:Rat} (hk:0<k) (hb:Bd λq=>vZ l' q+k*vZ l q) (e:sgeL l=0) (e':sgeL l'=0):sgnL l'= -sgnL l:=by
 obtain⟨K,hK⟩:=hb;dsimp only at hK;have s1:sgnL l=sgnP l.length λk=>valZ l (plN k):=if_neg hl;have s2:sgnL l'=sgnP l'.length λk=>valZ l' (plN k):=if_neg hl';have n1:sgnL l≠0:=λz=>by
  rw[show sgeL l=errP (sgnL l) from if_neg hl,z] at e;cases e
 have n2:sgnL l'≠0:=λz=>by
  rw[show sgeL l'=errP (sgnL l') from if_neg hl',z] at e';cases e'
 rw[s1] at n1⊢;rw[s2] at n2⊢;rcases zu6 l.length λk=>valZ l (plN k) with⟨a,p,hv⟩|⟨a,p,hv⟩|a
 ·rcases zu6 l'.length λk=>valZ l' (plN k) with⟨b,p',hv'⟩|⟨b,p',hv'⟩|b
  ·refine(zlz (zkc h' hv') (K:=K+k*(l.length:Rat)) λq=>?_).elim
   have:=Rat.mul_le_mul_of_nonneg_left (zqn h hv q) (Rat.le_of_lt hk);have:=(hK q).2;grind
  ·rw[a,b]
   first|done|rfl
  ·exact(n2 b).elim
 ·rcases zu6 l'.length λk=>valZ l' (plN k) with⟨b,p',hv'⟩|⟨b,p',hv'⟩|b
  ·rw[a,b];rfl
  ·obtain⟨P,hP⟩:=zka hl h hp hv
   obtain⟨P',hP'⟩:=zka hl' h' hp' hv';have ki:0<=1/k:=Rat.le_of_lt (div_pos (by decide) hk);have kk:1/k*k=1:=by grind
   refine(zlz (f:=λq=> -vZ l q) (C:=0) (P:=P) (K:=1/k*K) (λq=>?_) λq=>?_).elim
   ·have c:(((((10^q:Nat):Int))):Rat)<=((-(valZ l q)*((10^P:Nat):Int):Int):Rat):=by
     have:=hP q;have h2:((10^q:Nat):Int)<= -(valZ l q)*((10^P:Nat):Int):=by rw[Int.neg_mul];omega
     exact_mod_cast h2
    rw[Rat.intCast_mul,Rat.intCast_neg] at c;have:(-vZ l q+0)*((10^P:Nat):Rat)= -((valZ l q:Int):Rat)*((10^P:Nat):Rat):=by unfold vZ;grind
    rw[this];exact c
   ·have v0:vZ l' q<=0:=by
     have h3:=hP' q;have P0:(0:Int)<((10^P':Nat):Int):=by exact_mod_cast yS (by simp)
     have Q0:(0:Int)<((10^q:Nat):Int):=by exact_mod_cast yS (by simp)
     have:valZ l' q<=0:=by
      rcases(show valZ l' q<=0\/0<valZ l' q by omega) with z|z
      ·exact z
      ·have:=Int.mul_pos z P0
       omega
     unfold vZ;exact_mod_cast this
    have h4:=Rat.mul_le_mul_of_nonneg_left (show k* -vZ l q<=K by have:=(hK q).1;grind) ki;rw[<-Rat.mul_assoc,kk,Rat.one_mul] at h4;exact h4
  ·exact(n2 b).elim
 ·exact(n1 a).elim
def tn (q:Nat):Rat:=((10^q:Nat):Rat)
theorem zxx (q:Nat):0<tn q:=by unfold tn;exact_mod_cast yS (by simp)
theorem z7z (q:Nat):1<=tn q:=by unfold tn;exact_mod_cast yS (show 10^q≠0 by simp)
theorem ycs (q:Nat):tn (2*q)=tn q*tn q:=by
 unfold tn;rw[show 2*q=q+q by omega,Nat.pow_add,Rat.natCast_mul]
theorem yb3 {p q:Nat} (h:p<=q):tn p<=tn q:=by
 unfold tn;exact_mod_cast yF (by omega) h
theorem z73 (C:Rat):∃p,∀q,p<=q->C<tn q:=by
 obtain⟨p,h⟩:=yam C;exact⟨p,λq hq=>Std.lt_of_lt_of_le h (yb3 hq)⟩
def Od (f:Nat->Rat):Prop:=∃K:Rat,∀q, -(K*tn q)<=f q/\f q<=K*tn q
theorem Od.add {f g:Nat->Rat} (hf:Od f) (hg:Od g):Od λq=>f q+g q:=by
 obtain⟨K,h⟩:=hf;obtain⟨L,k⟩:=hg;exact⟨K+L,λq=>by have:=h q;have:=k q;constructor<;>grind⟩
theorem Od.congr {f g:Nat->Rat} (hf:Od f) (h:∀q,g q=f q):Od g:=by
 obtain⟨K,k⟩:=hf;exact⟨K,λq=>by rw[h];exact k q⟩
theorem Od.zero:Od λ_=>0:=⟨0,λ_=>by constructor<;>grind⟩
theorem Bd.od {f:Nat->Rat} (hf:Bd f):Od f:=by
 obtain⟨K,h⟩:=hf;have hK:0<=K:=by have:=h 0;grind
 refine⟨K,λq=>?_⟩;have:=h q;have:=Rat.mul_le_mul_of_nonneg_left (z7z q) hK;constructor<;>grind
theorem Bd.at2 {f:Nat->Rat} (hf:Bd f):Bd λq=>f (2*q):=by
 obtain⟨K,h⟩:=hf;exact⟨K,λq=>h (2*q)⟩
theorem yb4 {a b K T:Rat} (_:0<=K) (hb: -K<=b/\b<=K) (ha: -T<=a/\a<=T): -(K*T)<=a*b/\a*b<=K*T:=by
 have h1:=Rat.mul_nonneg (show 0<=K-b by grind) (show 0<=T+a by grind);have h2:=Rat.mul_nonneg (show 0<=K+b by grind) (show 0<=T+a by grind);have h3:=Rat.mul_nonneg (show 0<=K-b by grind) (show 0<=T-a by grind);have h4:=Rat.mul_nonneg (show 0<=K+b by grind) (show 0<=T-a by grind);constructor<;>grind
theorem Od.mul_bd {f g:Nat->Rat} (hf:Od f) (hg:Bd g):Od λq=>f q*g q:=by
 obtain⟨L,h⟩:=hf;obtain⟨K,k⟩:=hg;have hK:0<=K:=by have:=k 0;grind
 refine⟨K*L,λq=>?_⟩;have:=yb4 hK (k q) (h q);rw[Rat.mul_assoc];exact this
theorem Od.smul {f:Nat->Rat} (hf:Od f) (c:Rat):Od λq=>c*f q:=by
 have hc:Bd λ_=>c:=by
  rcases(show 0<=c\/0<= -c by grind) with h|h
  ·exact⟨c,λ_=>⟨by grind,by grind⟩⟩
  ·exact⟨-c,λ_=>⟨by grind,by grind⟩⟩
 exact(hf.mul_bd hc).congr λq=>Rat.mul_comm _ _
theorem z6k (r:Nat):Od λq=>((rtF r q:Nat):Rat):=by
 refine⟨(r:Rat),λq=>?_⟩;have h:=(zv0 (r*10^(2*q))).1;have h2:rtF r q<=r*10^q:=by
  unfold rtF;refine z41 (zO h ?_);rw[show 2*q=q+q by omega,Nat.pow_add]
  calc r*(10^q*10^q)<=r*r*(10^q*10^q):=Nat.mul_le_mul_right _ (Nat.le_mul_self r)
   _=r*10^q*(r*10^q):=by ac_rfl
 have h3:((rtF r q:Nat):Rat)<=(r:Rat)*tn q:=by unfold tn;exact_mod_cast h2
 have h4:(0:Rat)<=((rtF r q:Nat):Rat):=by exact_mod_cast zR _
 constructor<;>grind
theorem ybh (r s:Nat):Od λq=>((rtF (r*s) (2*q):Nat):Rat)-((rtF r q:Nat):Rat)*((rtF s q:Nat):Rat):=by
 obtain⟨K,hK⟩:=(z6k r).add (z6k s);refine⟨K,λq=>?_⟩;have hk:=(hK q).2;dsimp only at hk;obtain⟨a1,a2⟩:=zv0 (r*10^(2*q));obtain⟨b1,b2⟩:=zv0 (s*10^(2*q));obtain⟨c1,c2⟩:=zv0 (r*s*10^(2*(2*q)));have e:r*s*10^(2*(2*q))=r*10^(2*q)*(s*10^(2*q)):=by
  rw[show 2*(2*q)=2*q+2*q by omega,Nat.pow_add];ac_rfl
 unfold rtF at hk⊢;dsimp only;rw[e] at c1 c2⊢;generalize isq (r*10^(2*q))=x at*
 generalize isq (s*10^(2*q))=y at*
 generalize r*10^(2*q)=R at*
 generalize s*10^(2*q)=S at*
 generalize isq (R*S)=z at*
 have l1:x*y<=z:=by
  refine Nat.lt_succ_iff.1 (z6o (Nat.lt_of_le_of_lt ?_ c2))
  calc x*y*(x*y)=x*x*(y*y):=by ac_rfl
   _<=R*S:=Nat.mul_le_mul a1 b1
 have l2:z<(x+1)*(y+1):=by
  refine z6o (Nat.lt_of_le_of_lt c1 ?_)
  calc R*S<(x+1)*(x+1)*((y+1)*(y+1)):=Nat.mul_lt_mul'' a2 b2
   _=(x+1)*(y+1)*((x+1)*(y+1)):=by ac_rfl
 have l3:z<=x*y+x+y:=by
  have:(x+1)*(y+1)=x*y+x+y+1:=by rw[Nat.add_mul,Nat.mul_add];omega
  omega
 have m1:(x:Rat)*(y:Rat)<=(z:Rat):=by exact_mod_cast l1
 have m2:(z:Rat)<=(x:Rat)*(y:Rat)+(x:Rat)+(y:Rat):=by exact_mod_cast l3
 have m3:(0:Rat)<=(x:Rat):=by exact_mod_cast zR _
 have m4:(0:Rat)<=(y:Rat):=by exact_mod_cast zR _
 constructor<;>grind
theorem yda (t:Rat×Nat):Od λq=>((flT t q:Int):Rat):=
 ((z63 t).od.add ((z6k t.2).smul t.1)).congr λq=>by grind
theorem yct (a b:Rat×Nat) (C L:Nat) (h:C*C*L=a.2*b.2):Od λq=>((flT (a.1*b.1*(C:Rat),L) (2*q):Int):Rat)-((flT a q:Int):Rat)*((flT b q:Int):Rat):=by
 have h1:=(z63 (a.1*b.1*(C:Rat),L)).at2.od;have h2:Od λq=>a.1*b.1*((C:Rat)*((rtF L (2*q):Nat):Rat)-((rtF (a.2*b.2) (2*q):Nat):Rat)):=by
  refine Od.smul (Bd.od ⟨(C:Rat)+1,λq=>?_⟩) _;have:=z9o C L (2*q);rw[h] at this;have k1:(C:Rat)*((rtF L (2*q):Nat):Rat)<=((rtF (a.2*b.2) (2*q):Nat):Rat)+1:=by exact_mod_cast this.1
  have k2:((rtF (a.2*b.2) (2*q):Nat):Rat)<=(C:Rat)*((rtF L (2*q):Nat):Rat)+(C:Rat):=by exact_mod_cast this.2
  have k3:(0:Rat)<=(C:Rat):=by exact_mod_cast zR _
  constructor<;>grind
 have h3:=(ybh a.2 b.2).smul (a.1*b.1);have h4:=(yda b).mul_bd (z63 a);have h5:=((z6k a.2).mul_bd (z63 b)).smul a.1;refine((((h1.add h2).add h3).add (h4.smul (-1))).add (h5.smul (-1))).congr λq=>?_;grind
def pdR (N:Nat->Nat×Nat) (a:Rat×Nat) (t:List (Rat×Nat)):List (Rat×Nat):=t.map λb=>(a.1*b.1*((N (a.2*b.2)).1:Rat),(N (a.2*b.2)).2)
def pdL (N:Nat->Nat×Nat) (s t:List (Rat×Nat)):List (Rat×Nat):=s.flatMap λa=>pdR N a t
theorem z74 {N:Nat->Nat×Nat} (a:Rat×Nat):∀t:List (Rat×Nat),(∀b∈t,(N (a.2*b.2)).1*(N (a.2*b.2)).1*(N (a.2*b.2)).2=a.2*b.2)->
 Od λq=>vZ (pdR N a t) (2*q)-((flT a q:Int):Rat)*vZ t q
 |[],_=>Od.zero.congr λq=>by show(0:Rat)-_*0=0;grind
 |b::t,h=>((yct a b _ _ (h b (yD ..))).add (z74 a t λc hc=>h c (List.mem_cons_of_mem _ hc))).congr λq=>by
  rw[show pdR N a (b::t)=(a.1*b.1*((N (a.2*b.2)).1:Rat),(N (a.2*b.2)).2)::pdR N a t from rfl,z60,z60];grind
theorem z8c {N:Nat->Nat×Nat} (t:List (Rat×Nat)):∀s:List (Rat×Nat),(∀a∈s,∀b∈t,(N (a.2*b.2)).1*(N (a.2*b.2)).1*(N (a.2*b.2)).2=a.2*b.2)->
 Od λq=>vZ (pdL N s t) (2*q)-vZ s q*vZ t q
 |[],_=>Od.zero.congr λq=>by show(0:Rat)-0*_=0;grind
 |a::s,h=>((z74 a t (h a (yD ..))).add (z8c t s λc hc=>h c (List.mem_cons_of_mem _ hc))).congr λq=>by
  rw[show pdL N (a::s) t=pdR N a t++pdL N s t from by simp[pdL],z71,z60];grind
def Up (f:Nat->Rat):Prop:=∃e K:Rat,∃p:Nat,0<e/\∀q,p<=q->e*(tn q*tn q)-K*tn q<=f q
theorem Up.of_near {f g:Nat->Rat} (h:Up f) (hb:Od λq=>g q-f q):Up g:=by
 obtain⟨e,K,p,he,hf⟩:=h;obtain⟨L,hL⟩:=hb;refine⟨e,K+L,p,he,λq hq=>?_⟩;have:=hf q hq;have:=(hL q).1;dsimp only at this;grind
theorem Up.big {f:Nat->Rat} (h:Up f) (C:Rat):∃q,C<f q:=by
 obtain⟨e,K,p,he,hf⟩:=h;obtain⟨B,hB,hC⟩:∃B:Rat,0<=B/\C<=B:=by
  rcases(show 0<=C\/C<=0 by grind) with c|c
  ·exact⟨C,c,by grind⟩
  ·exact⟨0,by grind,c⟩
 obtain⟨p1,h1⟩:=z73 ((K+B+1)/e);refine⟨p+p1,?_⟩;have g1:=h1 (p+p1) (by omega);have g3:=hf (p+p1) (by omega);have g4:=z7z (p+p1);generalize tn (p+p1)=T at*
 have k1:K+B+1<e*T:=by
  have:=Rat.mul_lt_mul_of_pos_left g1 he;rwa [show e*((K+B+1)/e)=K+B+1 by grind] at this
 have k2:=Rat.mul_le_mul_of_nonneg_right (Rat.le_of_lt k1) (show(0:Rat)<=T by grind);have:=Rat.mul_le_mul_of_nonneg_left g4 (show 0<=B+1 by grind);grind
theorem zvr {l:List (Rat×Nat)} (h:∀t∈l,t.1≠0) (hp:PosR l) (hl:l≠[]) (e:sgeL l=0):(sgnL l=1\/sgnL l= -1)/\∃ε C:Rat,0<ε/\0<=C/\∀q,ε*tn q-C<=(sgnL l:Rat)*vZ l q:=by
 have s1:sgnL l=sgnP l.length λk=>valZ l (plN k):=if_neg hl;have n1:sgnL l≠0:=λz=>by
  rw[show sgeL l=errP (sgnL l) from if_neg hl,z] at e;cases e
 rcases zu6 l.length (λk=>valZ l (plN k)) with⟨a,k,hk⟩|⟨a,k,hk⟩|a
 ·rw[<-s1] at a
  rw[a];refine⟨.inl rfl,1/tn (plN k),(l.length:Rat),?_,by exact_mod_cast zR _,λq=>?_⟩
  ·rw[Rat.div_def,Rat.one_mul];exact Rat.inv_pos.2 (zxx _)
  ·have g:tn q<=(vZ l q+(l.length:Rat))*tn (plN k):=zkc h hk q
   have hP:=zxx (plN k);have e1:((1:Int):Rat)=1:=rfl;rw[e1];generalize tn (plN k)=P at*
   have hi:0<1/P:=by rw[Rat.div_def,Rat.one_mul];exact Rat.inv_pos.2 hP
   have:=Rat.mul_le_mul_of_nonneg_right g (Rat.le_of_lt hi);have e2:(vZ l q+(l.length:Rat))*P*(1/P)=vZ l q+(l.length:Rat):=by grind
   grind
 ·rw[<-s1] at a
  rw[a];obtain⟨P,hP⟩:=zka hl h hp hk;refine⟨.inr rfl,1/tn P,0,?_,by grind,λq=>?_⟩
  ·rw[Rat.div_def,Rat.one_mul];exact Rat.inv_pos.2 (zxx _)
  ·have g:vZ l q*tn P<= -tn q:=by
    have:=hP q;have h2:(((valZ l q*((10^P:Nat):Int):Int)):Rat)<=((-((10^q:Nat):Int):Int):Rat):=by exact_mod_cast this
    rw[Rat.intCast_mul,Rat.intCast_neg] at h2;exact h2
   have hP:=zxx P;have e1:((-1:Int):Rat)= -1:=rfl;rw[e1];generalize tn P=T at*
   have hi:0<1/T:=by rw[Rat.div_def,Rat.one_mul];exact Rat.inv_pos.2 hP
   have:=Rat.mul_le_mul_of_nonneg_right g (Rat.le_of_lt hi);have e2:vZ l q*T*(1/T)=vZ l q:=by grind
   grind
 ·rw[<-s1] at a
  exact absurd a n1
theorem yao {l:List (Rat×Nat)} (h:∀t∈l,t.1≠0) (hp:PosR l) {s:Int} (hs:s=1\/s= -1) (hu:Up λq=>(s:Rat)*vZ l (2*q)) (e:sgeL l=0):l≠[]/\sgnL l=s:=by
 have hl:l≠[]:=λz=>by
  obtain⟨q,hq⟩:=hu.big 0;rw[z,z68,Rat.mul_zero] at hq;exact absurd hq (by decide)
 refine⟨hl,?_⟩;obtain⟨h1,ε,C,hε,hC,hg⟩:=zvr h hp hl e;refine Classical.byContradiction λhn=>?_;have hsn:sgnL l= -s:=by omega
 obtain⟨q,hq⟩:=hu.big C;have:=hg (2*q);rw[hsn,Rat.intCast_neg] at this;have:=Rat.mul_pos hε (zxx (2*q));grind
theorem ycu {f g:Nat->Rat} {ε C ε' C':Rat} (hε:0<ε) (hC:0<=C) (hf:∀q,ε*tn q-C<=f q) (hε':0<ε') (hC':0<=C') (hg:∀q,ε'*tn q-C'<=g q):Up λq=>f q*g q:=by
 obtain⟨p1,h1⟩:=z73 (C/ε);obtain⟨p2,h2⟩:=z73 (C'/ε');refine⟨ε*ε',ε*C'+ε'*C,p1+p2,Rat.mul_pos hε hε',λq hq=>?_⟩;have a1:=h1 q (by omega);have a2:=h2 q (by omega);have b1:=hf q;have b2:=hg q;dsimp only;generalize tn q=T at*
 have c1:C<=ε*T:=by
  have:=Rat.mul_lt_mul_of_pos_left a1 hε;rw[show ε*(C/ε)=C by grind] at this;grind
 have c2:C'<=ε'*T:=by
  have:=Rat.mul_lt_mul_of_pos_left a2 hε';rw[show ε'*(C'/ε')=C' by grind] at this;grind
 have d1:=Rat.mul_nonneg (show 0<=f q-(ε*T-C) by grind) (show 0<=g q by grind);have d2:=Rat.mul_nonneg (show 0<=ε*T-C by grind) (show 0<=g q-(ε'*T-C') by grind);have d3:=Rat.mul_nonneg hC hC';grind
theorem ycv {f g:Nat->Rat} {ε C ε' C':Rat} (hε:0<ε) (hC:0<=C) (hf:∀q,ε*tn q-C<=f q) (hε':0<ε') (hC':0<=C') (hg:∀q,ε'*tn q-C'<=g q):Up λq=>f (2*q)+g (2*q):=by
 refine⟨ε+ε',C+C',0,by grind,λq _=>?_⟩;have b1:=hf (2*q);have b2:=hg (2*q);rw[ycs] at b1 b2;have:=Rat.mul_le_mul_of_nonneg_left (z7z q) (show 0<=C+C' by grind);dsimp only;grind
theorem ybi {N:Nat->Nat×Nat} {s t:List (Rat×Nat)} (hs:∀a∈s,a.1≠0) (ps:PosR s) (ht:∀a∈t,a.1≠0) (pt:PosR t) (hN:∀a∈s,∀b∈t,(N (a.2*b.2)).1*(N (a.2*b.2)).1*(N (a.2*b.2)).2=a.2*b.2) (hP:PosR (pdL N s t)) (es:sgeL s=0) (et:sgeL t=0) (ep:sgeL (mkG (pdL N s t))=0):
 sgnL (mkG (pdL N s t))=sgnL s*sgnL t:=by
 by_cases h1:s=[]
 ·subst h1
  rw[show sgnL []=0 from if_pos rfl,Int.zero_mul];exact if_pos rfl
 by_cases h2:t=[]
 ·subst h2
  rw[show sgnL []=0 from if_pos rfl,Int.mul_zero];have:pdL N s []=[]:=by simp[pdL,pdR]
  rw[this];exact if_pos rfl
 obtain⟨c1,ε,C,k1,k2,k3⟩:=zvr hs ps h1 es;obtain⟨c2,ε',C',k1',k2',k3'⟩:=zvr ht pt h2 et;have hu:=ycu k1 k2 k3 k1' k2' k3';have hn:Od λq=>((sgnL s*sgnL t:Int):Rat)*vZ (mkG (pdL N s t)) (2*q)-(sgnL s:Rat)*vZ s q*((sgnL t:Rat)*vZ t q):=by
  refine((((z7t hP).at2.od).add (z8c t s hN)).smul ((sgnL s*sgnL t:Int):Rat)).congr λq=>?_;rw[Rat.intCast_mul];grind
 refine(yao (λc hc=>(zx8 hc).2) (zn6 hP) ?_ (hu.of_near hn) ep).2;rcases c1 with c|c<;>rcases c2 with d|d<;>rw[c,d]<;>simp
theorem yb5 {s t:List (Rat×Nat)} (hs:∀a∈s,a.1≠0) (ps:PosR s) (ht:∀a∈t,a.1≠0) (pt:PosR t) (es:sgeL s=0) (et:sgeL t=0) (ep:sgeL (mkG (s++t))=0) (h:sgnL s=sgnL t):
 sgnL (mkG (s++t))=sgnL s:=by
 by_cases h1:s=[]
 ·subst h1
  by_cases h2:t=[]
  ·subst h2;exact if_pos rfl
  ·obtain⟨c2, -⟩:=zvr ht pt h2 et
   rw[show sgnL []=0 from if_pos rfl] at h;omega
 by_cases h2:t=[]
 ·subst h2
  obtain⟨c2, -⟩:=zvr hs ps h1 es;rw[show sgnL []=0 from if_pos rfl] at h;omega
 obtain⟨c1,ε,C,k1,k2,k3⟩:=zvr hs ps h1 es;obtain⟨c2,ε',C',k1',k2',k3'⟩:=zvr ht pt h2 et;have hp:=ztb ps pt;refine(yao (λc hc=>(zx8 hc).2) (zn6 hp) c1 ((ycv k1 k2 k3 k1' k2' k3').of_near ?_) ep).2;refine(((z7t hp).at2.od).smul (sgnL s:Rat)).congr λq=>?_;rw[z71,h];grind
end
section
open Go.RowKit Go.Shelf Lib Str Limb
attribute [local go_sem] Oper.semAt_some
theorem zx9 {T:List (Rat×Nat)} (h:∀t∈T,sz t.1 30/\NrmR t.2):∀i,∀c∈grG T i,sz c.1 (41*i)
 |0=>λc hc=>(by unfold grG at hc;rw[List.take_zero] at hc;cases hc)
 |i+1=>λc hc=>by
  have hn:∀d∈grG T i,NrmR d.2:=λd hd=>by
   obtain⟨t,ht,e⟩:=zvl i hd;rw[<-e];exact(h t ht).2
  cases ht:T[i]? with
  |none=>
   rw[zwy ht] at hc;exact(zx9 h i c hc).mono (by omega)
  |some t=>
   rw[zr9 ht] at hc;obtain⟨s1,n1⟩:=h t (List.mem_of_getElem? ht);rcases zm7 t (grG T i) with⟨-,e⟩|⟨j,d,hj, -, -,e⟩
   ·rw[e] at hc
    rcases List.mem_append.1 hc with hc|hc
    ·exact(zx9 h i c hc).mono (by omega)
    ·obtain rfl:=List.mem_singleton.1 hc
     exact s1.mono (by omega)
   ·rw[e] at hc
    have hd:=List.mem_of_getElem? hj;have s2:=zx9 h i d hd;have n2:=hn d hd;have hi:0<i:=yS λe=>by
     rw[e] at hd;unfold grG at hd;rw[List.take_zero] at hd;cases hd
    rcases List.mem_or_eq_of_mem_set hc with hc|rfl
    ·exact(zx9 h i c hc).mono (by omega)
    ·have a:=zx2 n1;have b:=zx2 n2
     have pa:=n1.pos;have pb:=n2.pos;unfold plG;split
     ·exact(zk0 s1 (zca s2 (zzs (k:=10) (zvm (k:=20) (by omega) b a)))).mono (by omega)
     ·exact(zk0 s2 (zca s1 (zzs (k:=10) (zvm (k:=20) (by omega) a b)))).mono (by omega)
def prU (s t:List (Rat×Nat)):List (Rat×Rat):=s.flatMap λa=>t.map λb=>(a.1*b.1,((a.2*b.2:Nat):Rat))
theorem yb6 (c:Rat) (r:Nat):nrT (c,(r:Rat))=(c*((zn7 r).1:Rat),(zn7 r).2):=by
 unfold nrT;dsimp only;rw[show((r:Nat):Rat).num.natAbs*((r:Nat):Rat).den=r from Nat.mul_one r,show((r:Nat):Rat).den=1 from rfl];congr 2;grind
theorem z8e (s t:List (Rat×Nat)):(prU s t).map nrT=pdL zn7 s t:=by
 unfold prU pdL pdR;rw[List.map_flatMap];congr 1;funext a;rw[List.map_map];congr 1;funext b;exact yb6 _ _
structure ShrS (l:List (Rat×Nat)):Prop where
 ok:SdOk l
 len:l.length<=2
 sh:∀t∈l,sz t.1 10/\t.2<10^10
theorem yap {s t:List (Rat×Nat)} {c:Rat×Nat} (h:c∈pdL zn7 s t):∃a∈s,∃b∈t,c=(a.1*b.1*((zn7 (a.2*b.2)).1:Rat),(zn7 (a.2*b.2)).2):=by
 obtain⟨a,ha,hc⟩:=List.mem_flatMap.1 h;obtain⟨b,hb,rfl⟩:=List.mem_map.1 hc;exact⟨a,ha,b,hb,rfl⟩
theorem z8f {s t:List (Rat×Nat)} {c:Rat×Rat} (h:c∈prU s t):∃a∈s,∃b∈t,c=(a.1*b.1,((a.2*b.2:Nat):Rat)):=by
 obtain⟨a,ha,hc⟩:=List.mem_flatMap.1 h;obtain⟨b,hb,rfl⟩:=List.mem_map.1 hc;exact⟨a,ha,b,hb,rfl⟩
theorem z22 {s t:List (Rat×Nat)} (hs:ShrS s) (ht:ShrS t) {a b:Rat×Nat} (ha:a∈s) (hb:b∈t):
 (zn7 (a.2*b.2)).1*(zn7 (a.2*b.2)).1*(zn7 (a.2*b.2)).2=a.2*b.2/\a.1*b.1*((zn7 (a.2*b.2)).1:Rat)≠0/\sz (a.1*b.1*((zn7 (a.2*b.2)).1:Rat)) 30/\NrmR (zn7 (a.2*b.2)).2:=by
 have h1:=(hs.ok.trm a ha).nr.pos;have h2:=(ht.ok.trm b hb).nr.pos;have hR:0<a.2*b.2:=Nat.mul_pos h1 h2;have hR2:a.2*b.2<10^(10+10):=zcc (hs.sh a ha).2 (ht.sh b hb).2;obtain⟨e,p1,p2,e2⟩:=z0j hR;generalize zn7 (a.2*b.2)=x at*
 have hC:x.1<10^10:=by
  refine Nat.lt_of_not_le λhc=>?_;have h3:=Nat.mul_le_mul hc hc;rw[<-Nat.pow_add] at h3;have h5:=Nat.le_mul_of_pos_right (x.1*x.1) p2;omega
 have hL:x.2<=a.2*b.2:=by rw[<-e];exact Nat.le_mul_of_pos_left _ (Nat.mul_pos p1 p1)
 refine⟨e,λh0=>?_,?_,⟨p2,(zaf _ 20 (by omega)).2 (Nat.lt_of_le_of_lt hL hR2),e2⟩⟩
 ·have n1:=(hs.ok.trm a ha).ne;have n2:=(ht.ok.trm b hb).ne
  rcases Rat.mul_eq_zero.1 h0 with h0|h0
  ·rcases Rat.mul_eq_zero.1 h0 with h0|h0
   ·exact n1 h0
   ·exact n2 h0
  ·have:x.1=0:=by exact_mod_cast h0
   omega
 ·have:sz ((x.1:Nat):Rat) 10:=⟨by simpa using hC,by rw[show((x.1:Nat):Rat).den=1 from rfl];exact Nat.one_lt_pow (by omega) (by omega)⟩
  exact zca (zca (hs.sh a ha).1 (ht.sh b hb).1) this
theorem yaq (s t:List (Rat×Nat)):(prU s t).length=s.length*t.length:=by
 unfold prU
 induction s with
 |nil=>simp
 |cons a s ih=>rw[List.flatMap_cons,List.length_append,ih,zV,List.length_cons,Nat.add_mul];omega
theorem yar {L:List (Rat×Nat)} (hl:L.length<=4) (h:∀c∈L,c.1≠0/\sz c.1 30/\NrmR c.2):MkGT L:=by
 have hT:∀c∈L,sz c.1 30/\NrmR c.2:=λc hc=>(h c hc).2;exact⟨zO hl (by omega),λc hc=>(h c hc).1,λc hc=>(hT c hc).1.mono (by omega),λc hc=>(hT c hc).2,λi hi c hc=>(zx9 hT i c hc).mono (by omega),λc hc=>(zx9 hT _ c hc).mono (by omega)⟩
theorem ybj {s t:List (Rat×Nat)} (hs:ShrS s) (ht:ShrS t):MkU (prU s t):=by
 have hl:(prU s t).length<=4:=by
  rw[yaq];exact Nat.mul_le_mul hs.len ht.len
 have hN:∀c∈(prU s t).map nrT,c.1≠0/\sz c.1 30/\NrmR c.2:=λc hc=>by
  rw[z8e] at hc;obtain⟨a,ha,b,hb,hcc⟩:=yap hc;have:=z22 hs ht ha hb;clear hc;generalize zn7 (a.2*b.2)=p at*
  subst hcc;exact⟨this.2.1,this.2.2.1,this.2.2.2⟩
 have hG:=yar (by rw[zV];exact hl) hN;refine⟨hG,λu hu=>?_,λu hu=>?_,λu hu=>?_⟩
 ·obtain⟨a,ha,b,hb,rfl⟩:=z8f hu
  have h1:=(hs.ok.trm a ha).nr.pos;have h2:=(ht.ok.trm b hb).nr.pos;have:0<a.2*b.2:=Nat.mul_pos h1 h2;show(0:Rat)<((a.2*b.2:Nat):Rat);exact_mod_cast this
 ·obtain⟨a,ha,b,hb,rfl⟩:=z8f hu
  exact(zca (hs.sh a ha).1 (ht.sh b hb).1).mono (by omega)
 ·obtain⟨a,ha,b,hb,rfl⟩:=z8f hu
  have hR2:a.2*b.2<10^(10+10):=zcc (hs.sh a ha).2 (ht.sh b hb).2;have nsz:∀n:Nat,n<10^20->sz ((n:Nat):Rat) 20:=λn h=>⟨by show((n:Int)).natAbs<_;rw[Int.natAbs_natCast];exact h,by show 1<10^20;decide⟩;exact(nsz _ hR2).mono (by omega)
theorem z88 (b n:Nat) (E:Nat->Int) (hn:n<=5000) (w:zA) (HC:Hid (∀j,j<n->w.cell? ⟨b,j,none⟩=some (.int .i64 (E j)))):
 zC zF 139 #[.slice (some ⟨b,0,none⟩) n n,.int .i64 4] w λe w'=>∃z:Int,e=.returned (.int .i64 z)/\zB w.heap.size w w'/\((z= -1/\∀j,j<n->E j≠4)\/((0<=z)/\∃j,j<n/\E j=4)):=by
 go_enter Tryz.func139,Tryz.ntmps139;go_wp2;go_loopw [8] (λi wr=>∃(k:Nat),k<=n/\i=.int .i64 (k:Int)/\Hid (qL w wr)/\Hid (∀j,j<k->E j≠4))
  (λi _=>n-(zL i).toNat)
 case atStart=>exact⟨0,zR _,rfl,zM _ _,λj h=>by omega⟩
 case round=>
  obtain⟨k,hk,rfl,hB,hE⟩:=hrel;by_cases hlt:k<n
  ·have c0:=(zac hB.out).cell (HC.out k hlt)
   have HEK:=hid (rfl:E k=E k);obtain⟨ek,hek⟩:=zzX (E k);rw[<-hek] at c0;have HK:=hid hek;clear hek HEK;by_cases h4:ek=4
   ·have HF:=hid (show E k=4 by rw[<-HK.out];exact h4)
    subst h4;go_wp21;go_ret;exact⟨_,rfl,hB.out,.inr ⟨by omega,k,hlt,HF.out⟩⟩
   ·have hb4:(ek==4)=false:=by simpa using h4
    have HF:Hid (∀j,j<k+1->E j≠4):=hid λj hj=>by
     rcases Nat.lt_or_ge j k with h|h
     ·exact hE.out j h
     ·obtain rfl:j=k:=by omega
      rw[<-HK.out];exact h4
    clear HK hE;go_wp21;go_roundw
    case rel=>exact⟨k+1,by omega,by go_num,hB,HF⟩
    case measure=>simp[zL];omega
  ·have hkn:k=n:=by omega
   subst hkn;go_wp21;go_ret;exact⟨_,rfl,hB.out,.inl ⟨rfl,hE.out⟩⟩
theorem yb7 (b n:Nat) (E:Nat->Int) (hn:n<=5000) (w:zA) (HC:Hid (∀j,j<n->w.cell? ⟨b,j,none⟩=some (.int .i64 (E j)))):
 zC zF 74 #[.slice (some ⟨b,0,none⟩) n n,.int .i64 4] w λe w'=>∃bb,e=.returned (.bool bb)/\zB w.heap.size w w'/\(bb=false->∀j,j<n->E j≠4):=by
 have HI:=hid (z88 b n E hn w HC);clear HC;go_enter Tryz.func74,Tryz.ntmps74;go_wp21;refine HI.out.mono ?_;rintro e w1 ⟨z,rfl,hB,hz⟩;have HB:=hid hB;clear hB;rcases hz with⟨rfl,hz⟩|⟨hz,hz2⟩
 ·have HZ:=hid hz;clear hz
  go_wp21;go_ret;exact⟨_,rfl,HB.out,λ_=>HZ.out⟩
 ·have HZ:=hid hz2;clear hz2
  have hd:decide (z<0)=false:=decide_eq_false (by omega);have hd2:decide (0<=z)=true:=decide_eq_true hz;go_wp21;go_ret;exact⟨_,rfl,HB.out,λh=>by simp[] at h⟩
theorem z0m (b n:Nat) (r:Nat->Int) (hn:n<=100) (w:zA) (hc:Hid (∀i,i<n->w.cell? ⟨b,i,none⟩=some (.int .i64 (r i)))):
 zC zF 21 #[.slice (some ⟨b,0,none⟩) n n] w λe w'=>∃bb,e=.returned (.bool bb)/\zB w.heap.size w w'/\(bb=false->∀i,i<n->r i≠4):=by
 have HC:=hid (yb7 b n r (by omega) w hc);clear hc;go_enter Tryz.func21,Tryz.ntmps21;go_wp21;refine HC.out.mono ?_;rintro e w1 ⟨bb,rfl,hb,hne⟩;have B:=hid hb;have HN:=hid hne;clear hb hne HC;go_wp21;go_ret;exact⟨bb,rfl,B.out,HN.out⟩
structure SgQ (w:zA) (vs vt:Value) (ns:Nat) (m e n f k j l o r u:Int) (lp lq lm:List (Rat×Nat)) (Ep Eq Em:Prop) (C1 C2:Int->Int->Prop):Prop where
 s1:∀W:zA,qL w W->zC zF 17 #[vs] W λx w'=>x=.returned (.tuple #[.int .i64 m,.int .i64 e])/\zB W.heap.size W w'
 s2:∀W:zA,qL w W->zC zF 17 #[vt] W λx w'=>x=.returned (.tuple #[.int .i64 n,.int .i64 f])/\zB W.heap.size W w'
 mu:∀W:zA,qL w W->zC zF 18 #[vs,vt] W λx w'=>∃q k c r,x=.returned (.tuple #[.slice q k c,.int .i64 r])/\zB W.heap.size W w'/\OutR lp Ep True (.slice q k c) r w'
 ad:∀W:zA,qL w W->zC zF 19 #[vs,vt] W λx w'=>∃q k c r,x=.returned (.tuple #[.slice q k c,.int .i64 r])/\zB W.heap.size W w'/\OutR lq Eq True (.slice q k c) r w'
 sc:∀W:zA,qL w W->zC zF 20 #[vs,.string ⟨#[45,49]⟩] W λx w'=>∃q k c r,x=.returned (.tuple #[.slice q k c,.int .i64 r])/\zB W.heap.size W w'/\OutR lm Em True (.slice q k c) r w'
 k1:∀(W:zA) (v:Value),qL w W->SdL v lp W->Ep->zC zF 17 #[v] W λx w'=>x=.returned (.tuple #[.int .i64 k,.int .i64 j])/\zB W.heap.size W w'
 k2:∀(W:zA) (v:Value),qL w W->SdL v lq W->Eq->zC zF 17 #[v] W λx w'=>x=.returned (.tuple #[.int .i64 l,.int .i64 o])/\zB W.heap.size W w'
 k3:∀(W:zA) (v:Value),qL w W->SdL v lm W->Em->zC zF 17 #[v] W λx w'=>x=.returned (.tuple #[.int .i64 r,.int .i64 u])/\zB W.heap.size W w'
 c1:∀W:zA,qL w W->zC zF 14 #[vs,vt] W λx w'=>∃m r,x=.returned (.tuple #[.int .i64 m,.int .i64 r])/\zB W.heap.size W w'/\C1 m r
 c2:∀W:zA,qL w W->zC zF 14 #[vt,vs] W λx w'=>∃m r,x=.returned (.tuple #[.int .i64 m,.int .i64 r])/\zB W.heap.size W w'/\C2 m r
 law:e≠4->f≠4->Ep->Eq->Em->j≠4->o≠4->u≠4->∀c v y x,C1 c v->C2 y x->v≠4->x≠4->e=0/\f=0/\j=0/\o=0/\u=0/\v=0/\x=0/\k=m*n/\(m=n->l=m)/\r= -m/\c= -y/\((ns=0)↔m=0)/\(-2<m/\m<2/\ -2<n/\n<2/\ -2<y/\y<2)
theorem z89 (ps pt:Option Addr) (ns nt ks kt:Nat) (G:Prop) (w:zA)
 (GD:Hid (∀(W:zA) (A:Nat),qL w W->W.heap[A]? =some (.cells #[.slice ps ns ks,.slice pt nt kt] 26 (0,0))->zC zF 15 #[.slice (some ⟨A,0,none⟩) 2 2] W λe w'=>∃b:Bool,e=.returned (.bool b)/\(b=true->G)/\zB W.heap.size W w'))
 (AW:Hid (∀W:zA,qL w W->qJ 16 #[] W (.bool true)))
 (MAIN:Hid (G->∃m e n f k j l o r u lp lq lm Ep Eq Em C1 C2,SgQ w (.slice ps ns ks) (.slice pt nt kt) ns m e n f k j l o r u lp lq lm Ep Eq Em C1 C2)):
 qJ 4 #[.slice ps ns ks,.slice pt nt kt] w (.bool true):=by
 obtain⟨v2,hv2⟩:=zzX (w.alloc (.cells #[.slice ps ns ks,.slice pt nt kt] 26));obtain⟨b2,A3⟩:=zu4 hv2;have HT0:=hid b2;have HF:=hid (GD.out v2 _ b2 A3);have HV2:=hid hv2.symm;clear hv2 b2 A3 GD;go_enter Tryz.func4,Tryz.ntmps4;go_wp21;have h9:=HV2.out;rw[h9];clear h9 HV2;refine HF.out.mono ?_;rintro e w1 ⟨t1,rfl,ht1,hb⟩;have D0:=qT HT0 hb;have HG:=hid ht1;clear hb ht1 HF HT0;cases t1
 ·have HA:=hid (AW.out w1 D0.out)
  clear AW MAIN;go_wp21;refine zzM HA.out λw2 hb=>?_;have HB:=hid (D0.out.trans (hb.mono D0.out.size));clear hb;go_wp21;go_ret;exact⟨rfl,HB.out⟩
 obtain⟨m,e0,n,f0,k,j,l,o,r,u,lp,lq,lm,Ep,Eq,Em,C1,C2,hQ⟩:=MAIN.out (HG.out rfl);have HQ:=hid hQ;clear hQ MAIN HG;go_wp21;refine zzM (HQ.out.s1 w1 D0.out) λw2 hb=>?_;have B2:=hid (D0.out.trans (hb.mono D0.out.size));clear hb D0;go_wp21;refine zzM (HQ.out.s2 w2 B2.out) λw3 hb=>?_;have B3:=hid (B2.out.trans (hb.mono B2.out.size));clear hb B2;go_wp21;refine(HQ.out.mu w3 B3.out).mono ?_;rintro e w4 ⟨q0,k0,c0,r0,rfl,hb,s00⟩;have B4:=hid (B3.out.trans (hb.mono B3.out.size));have S0:=hid s00;clear hb B3 s00;go_wp21;refine(HQ.out.ad w4 B4.out).mono ?_;rintro e w5 ⟨q1,k1,c1,r1,rfl,hb,s10⟩;have B5:=hid (B4.out.trans (hb.mono B4.out.size));replace S0:=hid (S0.out.below hb);have S1:=hid s10;clear hb B4 s10;go_wp21;refine(HQ.out.sc w5 B5.out).mono ?_;rintro e w6 ⟨q2,k2,c2,r2,rfl,hb,s20⟩;have B6:=hid (B5.out.trans (hb.mono B5.out.size));replace S0:=hid (S0.out.below hb);replace S1:=hid (S1.out.below hb);have S2:=hid s20;clear hb B5 s20;obtain⟨ya,hz⟩:=zzX (w6.alloc (.cells #[.int .i64 e0,.int .i64 f0,.int .i64 r0,.int .i64 r1,.int .i64 r2] 27));obtain⟨b2,hh⟩:=zu4 hz
 have HCN:=hid (z0m w6.heap.size 5 (λi=>if i=0 then e0 else if i=1 then f0 else if i=2 then r0 else if i=3 then r1 else r2) (by omega) ya (hid λj hj=>by
  rw[zJ hh]
  match j,hj with
  |0,_|1,_|2,_|3,_|4,_=>rfl))
 have HY:=hid (B6.out.trans (b2.mono B6.out.size));have HZ:=hid hz.symm;replace S0:=hid (S0.out.below b2);replace S1:=hid (S1.out.below b2);replace S2:=hid (S2.out.below b2);clear hz b2 hh B6;go_wp21;have h9:=HZ.out;rw[h9];clear h9 HZ;refine HCN.out.mono ?_;rintro e wl ⟨bb,rfl,hb,hne⟩;have HT:=qT HY hb;have HNE:=hid hne;replace S0:=hid (S0.out.below hb);replace S1:=hid (S1.out.below hb);replace S2:=hid (S2.out.below hb);clear hb hne HCN HY;cases bb
 rotate_left
 ·have HA:=hid (AW.out wl HT.out)
  clear AW HQ HNE S0 S1 S2;go_wp21;refine zzM HA.out λwz hb=>?_;have HB:=qT HT hb;clear hb;go_wp21;go_ret;exact⟨rfl,HB.out⟩
 have out0:∀{l:List (Rat×Nat)} {E:Prop} {v:Value} {r:Int} {W:zA},OutR l E True v r W->r≠4->r=0/\SdL v l W/\E:=λh hr=>by
  rcases h with h|h
  ·exact⟨h.1,h.2.1,h.2.2⟩
  ·exact absurd h.1 hr
 obtain⟨g0,h0,E0⟩:=out0 S0.out (HNE.out rfl 2 (by omega));obtain⟨g1,h1,E1⟩:=out0 S1.out (HNE.out rfl 3 (by omega));obtain⟨g2,h2,E2⟩:=out0 S2.out (HNE.out rfl 4 (by omega));have HE:=hid (⟨HNE.out rfl 0 (by omega),HNE.out rfl 1 (by omega),E0,E1,E2⟩:e0≠4/\f0≠4/\Ep/\Eq/\Em);clear S0 S1 S2 HNE out0;subst g0;subst g1;subst g2;have S0:=hid h0;have S1:=hid h1;have S2:=hid h2;clear h0 h1 h2 E0 E1 E2;go_wp21;refine zzM (HQ.out.k1 wl _ HT.out S0.out HE.out.2.2.1) λw11 hb=>?_;have B11:=qT HT hb;replace S0:=hid (S0.out.below hb);replace S1:=hid (S1.out.below hb);replace S2:=hid (S2.out.below hb);clear hb HT;go_wp21;refine zzM (HQ.out.k2 w11 _ B11.out S1.out HE.out.2.2.2.1) λw12 hb=>?_;have B12:=hid (B11.out.trans (hb.mono B11.out.size));replace S0:=hid (S0.out.below hb);replace S1:=hid (S1.out.below hb);replace S2:=hid (S2.out.below hb);clear hb B11;go_wp21;refine zzM (HQ.out.k3 w12 _ B12.out S2.out HE.out.2.2.2.2) λw13 hb=>?_;have B13:=hid (B12.out.trans (hb.mono B12.out.size));replace S0:=hid (S0.out.below hb);replace S1:=hid (S1.out.below hb);replace S2:=hid (S2.out.below hb);clear hb B12;go_wp21;clear S0 S1 S2;refine(HQ.out.c1 w13 B13.out).mono ?_;rintro e w14 ⟨c,v,rfl,hb,hc1⟩;have B14:=hid (B13.out.trans (hb.mono B13.out.size));have HC1:=hid hc1;clear hc1;clear hb B13;go_wp21;refine(HQ.out.c2 w14 B14.out).mono ?_;rintro e w15 ⟨y,x,rfl,hb,hc2⟩;have B15:=hid (B14.out.trans (hb.mono B14.out.size));have HC2:=hid hc2;clear hc2;clear hb B14
 obtain⟨yb,hz⟩:=zzX (w15.alloc (.cells #[.int .i64 j,.int .i64 o,.int .i64 u,.int .i64 v,.int .i64 x] 27));obtain⟨b2,hh⟩:=zu4 hz
 have HCN:=hid (z0m w15.heap.size 5 (λi=>if i=0 then j else if i=1 then o else if i=2 then u else if i=3 then v else x) (by omega) yb (hid λj hj=>by
  rw[zJ hh]
  match j,hj with
  |0,_|1,_|2,_|3,_|4,_=>rfl))
 have HY:=hid (B15.out.trans (b2.mono B15.out.size));have HZ:=hid hz.symm;clear hz b2 hh B15;go_wp21;have h9:=HZ.out;rw[h9];clear h9 HZ;refine HCN.out.mono ?_;rintro e wm ⟨bb,rfl,hb,hne⟩;have HT:=qT HY hb;have HNE:=hid hne;clear hb hne HCN HY;have HA:=hid (AW.out wm HT.out);cases bb
 rotate_left
 ·clear AW HQ HNE HC1 HC2 HE
  go_wp21;refine zzM HA.out λwz hb=>?_;have HB:=qT HT hb;clear hb;go_wp21;go_ret;exact⟨rfl,HB.out⟩
 obtain⟨a1,a2,a3,a4,a5⟩:=HE.out;obtain⟨e1,e2,e3,e4,e5,e6,e7,e8,e9,e10,e11,e12,e13⟩:=HQ.out.law a1 a2 a3 a4 a5 (HNE.out rfl 0 (by omega)) (HNE.out rfl 1 (by omega)) (HNE.out rfl 2 (by omega)) c v y x HC1.out HC2.out (HNE.out rfl 3 (by omega)) (HNE.out rfl 4 (by omega));clear a1 a2 a3 a4 a5 HE HQ HNE HC1 HC2 AW;subst e1;subst e2;subst e3;subst e4;subst e5;subst e6;subst e7;subst e8;subst e10;subst e11;have w3:IntKind.i64.wrap (-y)= -y:=IntWalk.i64_in _ (by omega);have mxA:∀w:zA,(Builtin.max_ #[27,27,27,27,27,27,27,27,27,27] 27 #[.int .i64 0,.int .i64 0,.int .i64 0,.int .i64 0,.int .i64 0,.int .i64 0,.int .i64 0,.int .i64 0,.int .i64 0,.int .i64 0]).run zF w=.ok (.int .i64 0) w:=λ_=>by kernel_rfl
 obtain⟨p1,p2,p3,p4, -⟩:=e13;rcases(show m= -1\/m=0\/m=1 by omega) with rfl|rfl|rfl<;>rcases(show n= -1\/n=0\/n=1 by omega) with rfl|rfl|rfl
 all_goals clear p1 p2 p3 p4
 all_goals try(have hl:=e9 rfl;subst hl)
 all_goals first
  |(have hz:=e12.2 rfl;subst hz)
  |(have hz:((ns:Int)==0)=false:=by rw[beq_eq_false_iff_ne];intro h;exact absurd (e12.1 (by omega)) (by decide))
 all_goals clear e9 e12
 all_goals
  go_wp21;refine zzM HA.out λwz hb=>?_;have HB:=qT HT hb;clear hb;go_wp21;go_ret;exact⟨rfl,HB.out⟩
end
section
open Go.RowKit Go.Shelf Lib Str Limb
theorem zj7 {T T':List (Rat×Nat)} (hT:PosR T) (hT':PosR T') {k:Rat} (hk:0<k) (hp:∀r,0<r->phi r (mkG T')= -k*phi r (mkG T)) (hb:Bd λq=>vZ (mkG T') q+k*vZ (mkG T) q) (e:sgeL (mkG T)=0) (e':sgeL (mkG T')=0):sgnL (mkG T')= -sgnL (mkG T):=by
 by_cases h:mkG T=[]
 ·have h':mkG T'=[]:=z8i hT' λr hr=>by rw[hp r hr,h];show-k*0=0;grind
  rw[h,h'];rfl
 ·have h':mkG T'≠[]:=λk'=>h (z8i hT λr hr=>by
   have:=hp r hr;rw[k'] at this;have z:(0:Rat)= -k*phi r (mkG T):=this;rcases Rat.mul_eq_zero.1 z.symm with z|z
   ·grind
   ·exact z)
  exact zq6 (λt ht=>(zx8 ht).2) (λt ht=>(zx8 ht).2) (zn6 hT) (zn6 hT') h h' hk hb e e'
section
variable {D X Y Z:List (Rat×Nat)} (hD:PosR D) (hX:PosR X) (hY:PosR Y) (hZ:PosR Z)
include hD hX hY hZ
end
end
section
open Go.RowKit Go.Shelf Lib Str Limb
attribute [local go_sem] Oper.semAt_some
theorem ycw {s t:List (Rat×Nat)} (hs:PosR s) (ht:PosR t) (e:sgeL (dfL s t)=0) (e':sgeL (dfL t s)=0):sgnL (dfL s t)= -sgnL (dfL t s):=by
 have p1:=yan ht hs;have p2:=yan hs ht;refine zj7 p1 p2 (k:=1) (by decide) (λr hr=>?_) ?_ e' e
 ·rw[zuc hr p1,zuc hr p2,zo8,zo8,zpm,zpm]
  grind
 ·refine(((z7t p2).add (z7t p1)).add ((z7x (-1) t).add (z7x (-1) s))).congr λq=>?_
  rw[z71,z71];grind
theorem ycx (l:List (Rat×Nat)):sclR l (-1)=l.map ngT:=by
 unfold sclR;rw[if_neg (by decide)];unfold sclL;refine List.map_congr_left λt _=>?_;unfold ngT;congr 1;grind
theorem yb8 {l:List (Rat×Nat)} (h:∀t∈l,t.1≠0) (hp:PosR l) (e:sgeL l=0):l.length=0↔sgnL l=0:=by
 by_cases hl:l=[]
 ·subst hl;exact⟨λ_=>if_pos rfl,λ_=>rfl⟩
 ·obtain⟨c, -⟩:=zvr h hp hl e
  exact⟨λg=>absurd (List.length_eq_zero_iff.1 g) hl,λg=>by omega⟩
theorem z8g {l:List (Rat×Nat)} {w w':zA} {x:Ending} (h:MkOut l w x w'):∃q k c r,x=.returned (.tuple #[.slice q k c,.int .i64 r])/\zB w.heap.size w w'/\OutR l (∀c∈l,sz c.1 60) True (.slice q k c) r w':=by
 obtain⟨q,n,c,r,h1,h2,h3⟩:=h;exact⟨q,n,c,r,h1,h2,h3.imp id λh=>⟨h.1,h.2.1,trivial⟩⟩
theorem SdU.own {B:Nat} {c:Nat} {q:Option Addr} {U:List (Rat×Rat)} {W:zA} (h:W.ownsRow B 37 2 (.slice q U.length c) U.length (zbj (U.map λu=>(numS u.1,numS u.2)))):SdU (.slice q U.length c) U W:=by
 rcases h.2 with⟨e,e0⟩|⟨g,cp,cur,e,hg1,hg2,hnc,_⟩
 ·injection e with e1 e2 e3
  exact⟨q,c,rfl,by omega,λi u hu=>by
   have:=(List.getElem?_eq_some_iff.1 hu).1;omega⟩
 ·have hcap:U.length<=c:=by injection e with e1 e2 e3;omega
  injection e with e1 e2 e3;subst e1;refine⟨_,c,rfl,hcap,λi u hu=>⟨g,0,rfl,(Array.getElem?_eq_some_iff.1 hg2).1,?_⟩⟩;have hm:(U.map λu=>(numS u.1,numS u.2))[i]? =some (numS u.1,numS u.2):=by rw[List.getElem?_map,hu];rfl
  obtain⟨k0,k1⟩:=zpb _ i _ hm;obtain⟨g',c',e', -,hx⟩:=zye h (by have:=(List.getElem?_eq_some_iff.1 hu).1;omega);injection e' with e1' _ _;injection e1' with e1';cases e1';rw[Nat.zero_add];exact⟨hx _ _ k0,hx _ _ k1⟩
theorem yas (C D:Nat->Nat->List UInt8) (m:Nat):∀n,zhr C D m n=(List.range n).flatMap λi=>(List.range m).map λj=>(C i j,D i j):=by
 have hr:∀i k,zuh C D i k=(List.range k).map λj=>(C i j,D i j):=λi k=>by
  induction k with
  |zero=>rfl
  |succ k ih=>rw[zuh,ih,List.range_succ,List.map_append];rfl
 intro n
 induction n with
 |zero=>rfl
 |succ n ih=>rw[zhr,ih,hr,List.range_succ,List.flatMap_append];simp
theorem z3y {α β:Type} (f:α->β) (d:α) (l:List α):(List.range l.length).map (λi=>f (l[i]?.getD d))=l.map f:=by
 refine List.ext_getElem? λi=>?_;rw[List.getElem?_map,List.getElem?_map];by_cases h:i<l.length
 ·rw[List.getElem?_range h]
  show some (f (l[i]?.getD d))=Option.map f l[i]?;rw[yB h];rfl
 ·rw[List.getElem?_eq_none (by simpa using h),List.getElem?_eq_none (by simpa using h)];rfl
theorem z9z {α β:Type} (f:α->List β) (d:α) (l:List α):(List.range l.length).flatMap (λi=>f (l[i]?.getD d))=l.flatMap f:=by
 rw[List.flatMap_def,List.flatMap_def,z3y]
theorem yat {α β γ:Type} (F:α->β->γ) (d:α) (e:β) (s:List α) (t:List β):((List.range s.length).flatMap λi:Nat=>(List.range t.length).map λj:Nat=>F (s[i]?.getD d) (t[j]?.getD e))=s.flatMap λa=>t.map λb=>F a b:=by
 have h:(λi:Nat=>(List.range t.length).map λj:Nat=>F (s[i]?.getD d) (t[j]?.getD e))= λi:Nat=>(λa=>t.map λb=>F a b) (s[i]?.getD d):=funext λi=>z3y (λb=>F (s[i]?.getD d) b) e t;rw[h];exact z9z (λa=>t.map λb=>F a b) d s
theorem ybk (s t:List (Rat×Nat)):zhr (λi j=>numS ((s[i]?.getD (1,1)).1*(t[j]?.getD (1,1)).1)) (λi j=>numS (((s[i]?.getD (1,1)).2*(t[j]?.getD (1,1)).2:Nat):Rat)) t.length s.length=(prU s t).map λu=>(numS u.1,numS u.2):=by
 rw[yas];refine(yat (λa b:Rat×Nat=>(numS (a.1*b.1),numS ((a.2*b.2:Nat):Rat))) (1,1) (1,1) s t).trans ?_;unfold prU;rw[List.map_flatMap];congr 1;funext a;rw[List.map_map];exact List.map_congr_left λb _=>rfl
theorem ydb (v1 v2:Value) (s t:List (Rat×Nat)) (hs:ShrS s) (ht:ShrS t) (w:zA) (hw:Hw w) (h1:SdL v1 s w) (h2:SdL v2 t w):
 zC zF 18 #[v1,v2] w λx w'=>∃q k c r,x=.returned (.tuple #[.slice q k c,.int .i64 r])/\zB w.heap.size w w'/\OutR (mkG (pdL zn7 s t)) (∀c∈mkG (pdL zn7 s t),sz c.1 60) True (.slice q k c) r w':=by
 have hb:=zbh v1 s hs.ok w hw.wd hw.pw h1;have hb2:∀W,qL w W->qJ 70 #[v2] W (.int .i64 0):=λW hW=>zbh v2 t ht.ok W (hw.below hW).wd (hw.below hW).pw (h2.below hW);obtain⟨p1,c1,rfl, -,x1⟩:=h1.slice;obtain⟨p2,c2,rfl, -,x2⟩:=h2.slice;have BT:=z6g (.slice p1 s.length c1) (.slice p2 t.length c2) (λW=>qL w W) (λW W' h hb=>h.trans (hb.mono h.size)) (hid λW hW=>zbh _ s hs.ok W (hw.below hW).wd (hw.below hW).pw (h1.below hW)) (hid hb2) w (hid (zM _ _));have at1:∀i,i<s.length->∃a,s[i]? =some a/\s[i]?.getD (1,1)=a/\a∈s:=λi hi=>⟨_,yB hi,by rw[yB hi];rfl,List.getElem_mem hi⟩;have at2:∀i,i<t.length->∃a,t[i]? =some a/\t[i]?.getD (1,1)=a/\a∈t:=λi hi=>⟨_,yB hi,by rw[yB hi];rfl,List.getElem_mem hi⟩;have szn:∀{n:Nat},n<10^10->sz (n:Rat) 10:=λh=>⟨by simpa using h,by rw[show((_:Nat):Rat).den=1 from rfl];exact Nat.one_lt_pow (by omega) (by omega)⟩;have hp:=ybk s t;have hlen:((prU s t).map λu=>(numS u.1,numS u.2)).length=(prU s t).length:=zV ..;refine zy2 p1 p2 c1 c2 s.length t.length (λi=>numS (s[i]?.getD (1,1)).1) (λi=>zD (s[i]?.getD (1,1)).2) (λj=>numS (t[j]?.getD (1,1)).1) (λj=>zD (t[j]?.getD (1,1)).2) (λi j=>numS ((s[i]?.getD (1,1)).1*(t[j]?.getD (1,1)).1)) (λi j=>numS (((s[i]?.getD (1,1)).2*(t[j]?.getD (1,1)).2:Nat):Rat))
  (λv r W=>OutR (mkG (pdL zn7 s t)) (∀c∈mkG (pdL zn7 s t),sz c.1 60) True v r W) (by have:=hs.len;omega) (by have:=ht.len;omega) w hw.d (hid BT) (hid λi j hi hj W hW=>?_) (hid λi j hi hj W hW=>?_) (hid λi hi=>?_) (hid λi hi=>?_) (hid λW q c hW ho=>?_)
 ·obtain⟨a, -,e,hm⟩:=at1 i hi
  obtain⟨b, -,e',hm'⟩:=at2 j hj;rw[e,e'];exact zjf _ _ 10 10 (by omega) (by omega) (by omega) (hs.sh a hm).1 (ht.sh b hm').1 W hW
 ·obtain⟨a, -,e,hm⟩:=at1 i hi
  obtain⟨b, -,e',hm'⟩:=at2 j hj;rw[e,e'];have:=zjf (a.2:Rat) (b.2:Rat) 10 10 (by omega) (by omega) (by omega) (szn (hs.sh a hm).2) (szn (ht.sh b hm').2) W hW;rw[zhe,zhe] at this;rw[Rat.natCast_mul];exact this
 ·obtain⟨a,ha,e, -⟩:=at1 i hi
  rw[e];exact x1 i a ha
 ·obtain⟨a,ha,e, -⟩:=at2 i hi
  rw[e];exact x2 i a ha
 ·rw[hp] at ho⊢
  rw[hlen] at ho⊢;have hW':=hw.below hW;have:=ycq (prU s t) (ybj hs ht) _ W hW'.d hW'.p (SdU.own ho);rw[z8e] at this;exact this.mono λe w' h=>z8g h
theorem yau {s t:List (Rat×Nat)} (hs:ShrS s) (ht:ShrS t):∀c∈pdL zn7 s t,c.1≠0/\sz c.1 30/\NrmR c.2:=λc hc=>by
 obtain⟨a,ha,b,hb,hcc⟩:=yap hc;have:=z22 hs ht ha hb;clear hc;generalize zn7 (a.2*b.2)=p at*
 subst hcc;exact⟨this.2.1,this.2.2.1,this.2.2.2⟩
theorem yb9 (vs vt:Value) (s t:List (Rat×Nat)) (hs:ShrS s) (ht:ShrS t) (w:zA) (hw:Hw w) (h1:SdL vs s w) (h2:SdL vt t w):
 ∃m e n f k j l o r u lp lq lm Ep Eq Em C1 C2,SgQ w vs vt s.length m e n f k j l o r u lp lq lm Ep Eq Em C1 C2:=by
 have ps:=hs.ok.pos;have pt:=ht.ok.pos;have ns:∀a∈s,a.1≠0:=λa ha=>(hs.ok.trm a ha).ne;have nt:∀a∈t,a.1≠0:=λa ha=>(ht.ok.trm a ha).ne;have hl:s.length+t.length<=12:=by have:=hs.len;have:=ht.len;omega
 have hpd:PosR (pdL zn7 s t):=λc hc=>by
  have:=(yau hs ht c hc).2.2.pos;exact_mod_cast this
 have hnp:∀c∈pdL zn7 s t,NrmR c.2:=λc hc=>(yau hs ht c hc).2.2;have hlp:(pdL zn7 s t).length<=12:=by
  rw[<-z8e,zV,yaq];have:=Nat.mul_le_mul hs.len ht.len;omega
 have sg:∀(v:Value) (l:List (Rat×Nat)),SdOk l->∀W,qL w W->SdL v l W->zC zF 17 #[v] W λx w'=>x=.returned (.tuple #[.int .i64 (sgnL l),.int .i64 (sgeL l)])/\zB W.heap.size W w':=λv l ok W hW hv=>z5j v l ok W (hw.below hW).d (hw.below hW).p (hw.below hW).s hv;have okp:(∀c∈mkG (pdL zn7 s t),sz c.1 60)->SdOk (mkG (pdL zn7 s t)):=z5t hnp hlp;have okq:(∀c∈mkG (s++t),sz c.1 60)->SdOk (mkG (s++t)):=z2e hs.ok ht.ok hl;have okm:SdOk (sclR s (-1)):=by
  unfold sclR;rw[if_neg (by decide)];exact zvn hs.ok
 have m1:St (numS (-1))=.string ⟨#[45,49]⟩:=by rw[nm_1]
 refine⟨sgnL s,sgeL s,sgnL t,sgeL t,sgnL (mkG (pdL zn7 s t)),sgeL (mkG (pdL zn7 s t)),sgnL (mkG (s++t)),sgeL (mkG (s++t)),sgnL (sclR s (-1)),sgeL (sclR s (-1)),mkG (pdL zn7 s t),mkG (s++t),sclR s (-1),∀c∈mkG (pdL zn7 s t),sz c.1 60,∀c∈mkG (s++t),sz c.1 60,∀c∈sclR s (-1),sz c.1 60,
  λc v=>(v=4/\c=0/\True)\/(c=sgnL (dfL s t)/\v=sgeL (dfL s t)/\∀x∈dfL s t,sz x.1 60),λc v=>(v=4/\c=0/\True)\/(c=sgnL (dfL t s)/\v=sgeL (dfL t s)/\∀x∈dfL t s,sz x.1 60),
  ⟨λW hW=>sg vs s hs.ok W hW (h1.below hW),λW hW=>sg vt t ht.ok W hW (h2.below hW),λW hW=>ydb vs vt s t hs ht W (hw.below hW) (h1.below hW) (h2.below hW),λW hW=>(z4w vs vt s t hs.ok ht.ok hl W (hw.below hW).d (hw.below hW).p (h1.below hW) (h2.below hW)).mono λe w' h=>z8g h,λW hW=>?_,
    λW v hW hv hE=>sg v _ (okp hE) W hW hv,λW v hW hv hE=>sg v _ (okq hE) W hW hv,λW v hW hv _=>sg v _ okm W hW hv,λW hW=>z9r vs vt s t hs.ok ht.ok hl W (hw.below hW) (h1.below hW) (h2.below hW),λW hW=>z9r vt vs t s ht.ok hs.ok (by omega) W (hw.below hW) (h2.below hW) (h1.below hW),?_⟩⟩
 ·have:=zeu vs s (-1) hs.ok (by have:=hs.len;omega) (by exact⟨by decide,by decide⟩) (λa ha=>(z4v (hs.ok.trm a ha).sc).mono (by omega)) W (hw.below hW).d (hw.below hW).p (h1.below hW)
  rw[m1] at this;exact this.mono λe w' h=>z8g h
 ·intro e1 e2 hE1 hE2 _ e3 e4 e5 c v y x hc hd e6 e7
  have z1:=(zzk s).resolve_right e1;have z2:=(zzk t).resolve_right e2;have z3:=(zzk _).resolve_right e3;have z4:=(zzk _).resolve_right e4;have z5:=(zzk _).resolve_right e5;rcases hc with⟨h, -⟩|⟨rfl,rfl, -⟩
  ·exact absurd h e6
  rcases hd with⟨h, -⟩|⟨rfl,rfl, -⟩
  ·exact absurd h e7
  have z6:=(zzk _).resolve_right e6;have z7:=(zzk _).resolve_right e7;have r1:=znt s;have r2:=znt t;have r3:=znt (dfL t s);refine⟨z1,z2,z3,z4,z5,z6,z7,ybi ns ps nt pt (λa ha b hb=>(z22 hs ht ha hb).1) hpd z1 z2 z3,λh=>yb5 ns ps nt pt z1 z2 z4 h,?_,ycw ps pt z6 z7,yb8 ns ps z1,r1.1,r1.2,r2.1,r2.2,r3.1,r3.2⟩;rw[ycx] at z5⊢;have:=yb2 ns z1 z5;omega
end
section
open Go.RowKit Go.Shelf Lib Str Limb Geo
attribute [local go_sem] Oper.semAt_some
def GoX (x y:List UInt8) (c:Rat) (r:Nat):Prop:=x=numS c/\sz c 10/\y=zD r/\r<10^10/\TrmR c r
theorem z90 (x y:List UInt8) (P1 P2:Prop) (hno:¬(P1/\P2))
 (C1:Hid (∀W:zA,Wd W->zC zF 33 #[St x] W λe w'=>∃r:Int,e=.returned (.int .i64 r)/\(r=0↔P1)/\zB W.heap.size W w'))
 (C2:Hid (∀W:zA,Wd W->zC zF 33 #[St y] W λe w'=>∃r:Int,e=.returned (.int .i64 r)/\(r=0↔P2)/\zB W.heap.size W w'))
 (G:Prop) (w:zA) (HW:Hid (Wd w)):
 zC zF 130 #[.agg #[St x,St y]] w (ErrP w G):=by
 obtain⟨s,hs⟩:=zzX (⟨x.toArray⟩:ByteArray);obtain⟨t,ht⟩:=zzX (⟨y.toArray⟩:ByteArray);rw[show St x=.string s by rw[hs],show St y=.string t by rw[ht]] at*
 obtain⟨W0,hW0⟩:=zzX (w.alloc (.cells #[.string s,.string t] 37));have K0:=hid (show BxT w s t W0 by rw[hW0];exact BxT.start w s t);obtain⟨c0,c1⟩:=K0.out.cx;rw[hW0] at c0 c1;have H9:=hid hW0.symm;have HNO:=hid hno;clear hW0 hs ht hno;go_enter Tryz.func130,Tryz.ntmps130;go_wp21;rw[H9.out];clear c0 c1 H9;refine(C1.out W0 (HW.out.below K0.out.bel)).mono ?_;rintro e w1 ⟨r,rfl,hr,hb1⟩;have K1:=hid (K0.out.next hb1);have HR:=hid hr;clear hb1 hr K0 C1;by_cases h0:r=0
 ·subst h0
  have HP1:=hid (HR.out.1 rfl);obtain⟨c0,c1⟩:=K1.out.cx;go_wp21;clear c0 c1;refine(C2.out w1 (HW.out.below K1.out.bel)).mono ?_;rintro e w2 ⟨r,rfl,hr,hb2⟩;have K2:=hid (K1.out.next hb2);have h1:r≠0:=λe=>HNO.out ⟨HP1.out,hr.1 e⟩;have hrb:(r !=0)=true:=by simpa using h1
  have HN:=hid h1;clear hb2 hr K1 C2 h1 HR;go_wp21;go_ret;exact⟨r,rfl,λh=>absurd h HN.out,K2.out.bel⟩
 ·have hrb:(r !=0)=true:=by simpa using h0
  have HN:=hid h0;clear h0 C2 HR;go_wp21;go_ret;exact⟨r,rfl,λh=>absurd h HN.out,K1.out.bel⟩
theorem zxs (x y:List UInt8) (lx:x.length<=10) (ly:y.length<=10) (w:zA) (hw:Wd w):
 zC zF 130 #[.agg #[St x,St y]] w (ErrP w (∃c r,GoX x y c r)):=by
 by_cases h:(∃q,x=numS q/\okQ q)/\(∃q,y=numS q/\okQ q)
 ·obtain⟨⟨c,rfl,hc⟩,q,rfl,hq⟩:=h
  exact z9y 10 (by omega) (by omega) c q hc hq (zto (by omega) lx) (zto (by omega) ly) w hw
 ·exact z90 x y _ _ h (hid λW hW=>zuj x (by omega) W hW) (hid λW hW=>zuj y (by omega) W hW) _ w (hid hw)
theorem yca {t:List UInt8×List UInt8} {c:Rat} {r:Nat} (h:GoX t.1 t.2 c r):∃D,[t]=D.map strT/\ShrS D:=by
 obtain⟨h1,h2,h3,h4,h5⟩:=h;refine⟨[(c,r)],by simp[strT,<-h1,<-h3],⟨SdOk.one h5,by simp,λu hu=>?_⟩⟩;simp at hu;subst hu;exact⟨h2,h4⟩
theorem ycb {t u:List UInt8×List UInt8} {c d:Rat} {r s:Nat} (hg:GoX t.1 t.2 c r) (hh:GoX u.1 u.2 d s) (hlt:r<s) (ha:z5c (s:Rat) (r:Rat)=false):∃D,[t,u]=D.map strT/\ShrS D:=by
 obtain⟨h1,h2,h3,h4,h5⟩:=hg;obtain⟨k1,k2,k3,k4,k5⟩:=hh;have pr:(0:Rat)<(r:Rat):=by have:=h5.nr.pos;exact_mod_cast this
 have ps:(0:Rat)<(s:Rat):=by have:=k5.nr.pos;exact_mod_cast this
 refine⟨[(c,r),(d,s)],by simp[strT,<-h1,<-h3,<-k1,<-k3],⟨⟨by simp,λv hv=>?_,λi a b h1 h2=>?_,λi k a b hik h1 h2=>?_⟩,by simp,λv hv=>?_⟩⟩
 ·simp at hv
  rcases hv with rfl|rfl
  ·exact h5
  ·exact k5
 ·match i with
  |0=>simp at h1 h2;subst h1;subst h2;exact hlt
  |i+1=>simp at h2
 ·match i,k with
  |0,0=>exact absurd rfl hik
  |0,1=>simp at h1 h2;subst h1;subst h2;exact ha
  |1,0=>simp at h1 h2;subst h1;subst h2;exact zu9 ps pr ha
  |1,1=>exact absurd rfl hik
  |i+2,_=>simp at h1
  |_,k+2=>simp at h2
 ·simp at hv
  rcases hv with rfl|rfl
  ·exact⟨h2,h4⟩
  ·exact⟨k2,k4⟩
theorem z9a (v:Value) (l:List (List UInt8×List UInt8)) (hl:l.length<=2) (h10:∀t∈l,t.1.length<=10/\t.2.length<=10) (w:zA) (hw:Wd w) (hv:SdT v l w):
 zC zF 67 #[v] w (ErrP w (∃D,l=D.map strT/\ShrS D)):=by
 obtain⟨p,cap,rfl,hc,hx⟩:=hv.slice
 match l,hl,h10,hx with
 |[],_,_,_=>
  exact(z0y p cap w).mono λe w' ⟨r,e1,_,e3⟩=>⟨r,e1,λ_=>⟨[],rfl,SdOk.nil,by simp,λt h=>by cases h⟩,e3⟩
 |[t],_,h10,hx=>
  obtain⟨b,off,rfl,_,d0,d1⟩:=hx 0 t rfl;have hm:=h10 t (yD ..)
  exact(z0z b off cap t.1 t.2 _ (hid λW hW=>zxs t.1 t.2 hm.1 hm.2 W hW) w (hid hw) (hid ⟨by simpa using d0,by simpa using d1⟩)).mono λe w' ⟨r,e1,e2,e3⟩=>⟨r,e1,λh=>by
   obtain⟨c,s,hg⟩:=e2 h;exact yca hg,e3⟩
 |[t,u],_,h10,hx=>
  obtain⟨b,off,rfl,_,d0,d1⟩:=hx 0 t rfl;obtain⟨b',off',eb,_,k0,k1⟩:=hx 1 u rfl;obtain⟨rfl,rfl⟩:b=b'/\off=off':=by simpa using eb
  have hm:=h10 t (yD ..);have hm2:=h10 u (List.mem_cons_of_mem _ (yD ..));have uniq:∀{x y:List UInt8} {c d:Rat} {r s:Nat},GoX x y c r->GoX x y d s->r=s:=λh1 h2=>by
   have e:=h1.2.2.1.symm.trans h2.2.2.1;rw[<-Str.zad,<-Str.zad] at e;have:=zdo e;omega
  refine(z00 b off cap t.1 t.2 u.1 u.2 (∃c r,GoX t.1 t.2 c r) (∃c r,GoX u.1 u.2 c r) (∀c d r s,GoX t.1 t.2 c r->GoX u.1 u.2 d s->r<s) (∀c d r s,GoX t.1 t.2 c r->GoX u.1 u.2 d s->z5c ((s:Nat):Rat) ((r:Nat):Rat)=false)
   (hid λW hW=>zxs t.1 t.2 hm.1 hm.2 W hW) (hid λW hW=>zxs u.1 u.2 hm2.1 hm2.2 W hW) (hid λh1 h2=>?_) (hid λh1 h2=>?_) w (hid hw) (hid ⟨by simpa using d0,by simpa using d1,by simpa using k0,by simpa using k1⟩)).mono λe w' ⟨r,e1,e2,e3⟩=>⟨r,e1,λh=>?_,e3⟩
  ·obtain⟨c,r,hg⟩:=h1
   obtain⟨d,s,hh⟩:=h2;have a1:=(zlj (show r<10^15 by have:=hg.2.2.2.1;omega)).2.1;have b1:=(zlj (show s<10^15 by have:=hh.2.2.2.1;omega)).2.1;refine⟨cmpR (r:Rat) (s:Rat),λhlt c' d' r' s' hg' hh'=>?_,λW hW=>?_⟩
   ·rw[<-uniq hg hg',<-uniq hh hh']
    have hcc:=zaw (r:Rat) (s:Rat);have:(r:Rat)<(s:Rat):=by grind
    exact_mod_cast this
   ·have:=zx0 (r:Rat) (s:Rat) a1 b1 W hW
    rw[zhe,zhe] at this;rw[hg.2.2.1,hh.2.2.1];exact this
  ·obtain⟨c,r,hg⟩:=h1
   obtain⟨d,s,hh⟩:=h2;obtain⟨t0,t1,t2⟩:=z4q r s hg.2.2.2.2.nr hh.2.2.2.2.nr (by have:=hg.2.2.2.1;omega) (by have:=hh.2.2.2.1;omega);refine⟨t0,λhlt c' d' r' s' hg' hh'=>?_,λW hW=>?_⟩
   ·rw[<-uniq hg hg',<-uniq hh hh']
    exact t1 hlt
   ·rw[hg.2.2.1,hh.2.2.1]
    exact t2 W hW
  ·obtain⟨⟨c,r,g1⟩,⟨d,s,g2⟩,g3,g4⟩:=e2 h
   exact ycb g1 g2 (g3 c d r s g1 g2) (g4 c d r s g1 g2)
theorem yaz (p:Option Addr) (cap n:Nat) (D:Nat->Value) (hD:∀i,i<n->∃q m c,D i=.slice q m c) (hn:n<=5000) (G:Nat->Prop) (w:zA)
 (F:Hid (∀i,i<n->∀W:zA,qL w W->zC zF 64 #[D i] W (zzx W (G i))))
 (HP:Hid (RowSl p n D w)):
 zC zF 128 #[.slice p n cap,.func (.func 64) #[] #[]] w (IdxI w n G):=by
 have D0:=hid (zM w.heap.size w);go_enter Tryz.func128,Tryz.ntmps128;go_wp2;go_loopw [8] (λi wr=>∃(k:Nat),k<=n/\i=.int .i64 (k:Int)/\Hid (∀i,i<k->G i)/\Hid (qL w wr))
  (λi _=>n-(zL i).toNat)
 case atStart=>exact⟨0,zR _,rfl,λi h=>by omega,D0⟩
 case round=>
  clear D0;obtain⟨k,hk,rfl,hG,hB⟩:=hrel;by_cases hlt:k<n
  ·obtain⟨b,off,rfl,c0⟩:=(HP.out.keep (zac hB.out)) k hlt
   have HF:=hid (F.out k hlt wr hB.out);obtain⟨q0,m0,cc,hd⟩:=hD k hlt;rw[hd] at c0 HF;go_wp21;refine HF.out.mono ?_;rintro e w2 ⟨t,rfl,ht,hb2⟩;have hB2:=hid (hB.out.trans (hb2.mono hB.out.size));have HT:=hid ht;clear ht hb2 HF c0;cases t
   ·go_wp21
    go_roundw
    case rel=>exact⟨k+1,by omega,by go_num,λi hi=>(by
     by_cases e:i=k
     ·subst e;exact HT.out (by trivial)
     ·exact hG.out i (by omega)),hB2⟩
    case measure=>simp[zL];omega
   ·go_wp21
    go_ret;exact⟨k,rfl,.inr (by omega),hB2.out⟩
  ·have hkn:k=n:=by omega
   have HK:=hid hkn;clear hkn;go_wp21;go_ret;exact⟨-1,rfl,.inl ⟨rfl,by rw[<-HK.out];exact hG.out⟩,hB.out⟩
theorem z91 (p:Option Addr) (cap n:Nat) (G:Nat->Prop) (w:zA)
 (F:Hid (zC zF 128 #[.slice p n cap,.func (.func 64) #[] #[]] w (IdxI w n G))):
 zC zF 63 #[.slice p n cap,.func (.func 64) #[] #[]] w (zzx w (∀i,i<n->G i)):=by
 go_enter Tryz.func63,Tryz.ntmps63;go_wp21;refine F.out.mono ?_;rintro e w1 ⟨k,rfl,hk,hB⟩;rcases hk with⟨rfl,h⟩|h0
 ·have HN:=hid h;clear h
  go_wp21;go_ret;exact⟨false,rfl,λ_=>HN.out,hB⟩
 ·go_wp21
  go_ret;exact⟨true,rfl,(λh=>by cases h),hB⟩
theorem ya0 (p:Option Addr) (cap n:Nat) (X Y:Nat->List UInt8) (hn:n<=5000) (G:Nat->Prop) (w:zA)
 (F:Hid (∀i,i<n->∀W:zA,qL w W->zC zF 66 #[.agg #[St (X i),St (Y i)]] W (zzx W (G i))))
 (HP:Hid (RowTt p n X Y w)):
 zC zF 129 #[.slice p n cap,.func (.func 66) #[] #[]] w (IdxI w n G):=by
 have D0:=hid (zM w.heap.size w);go_enter Tryz.func129,Tryz.ntmps129;go_wp2;go_loopw [8] (λi wr=>∃(k:Nat),k<=n/\i=.int .i64 (k:Int)/\Hid (∀i,i<k->G i)/\Hid (qL w wr))
  (λi _=>n-(zL i).toNat)
 case atStart=>exact⟨0,zR _,rfl,λi h=>by omega,D0⟩
 case round=>
  clear D0;obtain⟨k,hk,rfl,hG,hB⟩:=hrel;by_cases hlt:k<n
  ·obtain⟨b,off,rfl,c0,c1⟩:=(HP.out.keep (zac hB.out)) k hlt
   have HF:=hid (F.out k hlt wr hB.out);generalize X k=x at*
   generalize Y k=y at*
   go_wp21;refine HF.out.mono ?_;rintro e w2 ⟨t,rfl,ht,hb2⟩;have hB2:=hid (hB.out.trans (hb2.mono hB.out.size));have HT:=hid ht;clear ht hb2 HF c0 c1;cases t
   ·go_wp21
    go_roundw
    case rel=>exact⟨k+1,by omega,by go_num,λi hi=>(by
     by_cases e:i=k
     ·subst e;exact HT.out (by trivial)
     ·exact hG.out i (by omega)),hB2⟩
    case measure=>simp[zL];omega
   ·go_wp21
    go_ret;exact⟨k,rfl,.inr (by omega),hB2.out⟩
  ·have hkn:k=n:=by omega
   have HK:=hid hkn;clear hkn;go_wp21;go_ret;exact⟨-1,rfl,.inl ⟨rfl,by rw[<-HK.out];exact hG.out⟩,hB.out⟩
theorem z92 (p:Option Addr) (cap n:Nat) (G:Nat->Prop) (w:zA)
 (F:Hid (zC zF 129 #[.slice p n cap,.func (.func 66) #[] #[]] w (IdxI w n G))):
 zC zF 65 #[.slice p n cap,.func (.func 66) #[] #[]] w (zzx w (∀i,i<n->G i)):=by
 go_enter Tryz.func65,Tryz.ntmps65;go_wp21;refine F.out.mono ?_;rintro e w1 ⟨k,rfl,hk,hB⟩;rcases hk with⟨rfl,h⟩|h0
 ·have HN:=hid h;clear h
  go_wp21;go_ret;exact⟨false,rfl,λ_=>HN.out,hB⟩
 ·go_wp21
  go_ret;exact⟨true,rfl,(λh=>by cases h),hB⟩
theorem ybl (x y:List UInt8) (w:zA):zC zF 66 #[.agg #[St x,St y]] w (zzx w (x.length<=10/\y.length<=10)):=by
 obtain⟨v1,hv⟩:=zzX (w.alloc (.cells #[St x,St y] 37));obtain⟨b1,A1⟩:=zu4 hv;have k0:v1.cell? ⟨w.heap.size,0,none⟩=some (St x):=by rw[zJ A1];rfl
 have k1:v1.cell? ⟨w.heap.size,1,none⟩=some (St y):=by rw[zJ A1];rfl
 rw[hv] at k0 k1;have B1:=hid b1;have HV:=hid hv.symm;clear hv b1 A1;by_cases h:(10:Int)<max (x.length:Int) (y.length:Int)
 ·have hd:=decide_eq_true h
  clear h;go_enter Tryz.func66,Tryz.ntmps66;go_wp21;go_ret;exact⟨true,rfl,(λh=>by cases h),by rw[HV.out];exact B1.out⟩
 ·have HH:=hid (show x.length<=10/\y.length<=10 by omega)
  have hd:=decide_eq_false h;clear h;go_enter Tryz.func66,Tryz.ntmps66;go_wp21;go_ret;exact⟨false,rfl,λ_=>HH.out,by rw[HV.out];exact B1.out⟩
theorem ycc (v:Value) (l:List (List UInt8×List UInt8)) (w:zA) (hw:Wd w) (hv:SdT v l w):
 zC zF 64 #[v] w (zzx w (∃D,l=D.map strT/\ShrS D)):=by
 obtain⟨p,cap,rfl,hc,hx⟩:=hv.slice;by_cases h2:2<l.length
 ·have hlI:(2:Int)<(l.length:Int):=by omega
  clear h2 hx hv hw;go_enter Tryz.func64,Tryz.ntmps64;go_wp21;go_ret;exact⟨true,rfl,(λh=>by cases h),zM _ _⟩
 ·have hlI:¬(2:Int)<(l.length:Int):=by omega
  have at_:∀i,i<l.length->∃t,l[i]? =some t:=λi hi=>⟨_,yB hi⟩;have hg:∀(i:Nat) (t:List UInt8×List UInt8),l[i]? =some t->l[i]?.getD ([],[])=t:=λi t h=>by rw[h];rfl
  have hr:RowTt p l.length (λi=>(l[i]?.getD ([],[])).1) (λi=>(l[i]?.getD ([],[])).2) w:=λi hi=>by
   obtain⟨t,ht⟩:=at_ i hi;obtain⟨b,off,e,_,c0,c1⟩:=hx i t ht;simp only[hg i t ht];exact⟨b,off,e,c0,c1⟩
  have HC:=hid (z92 p cap l.length _ w (hid (ya0 p cap l.length _ _ (by omega) (λi=>(l[i]?.getD ([],[])).1.length<=10/\(l[i]?.getD ([],[])).2.length<=10) w (hid λi hi W hW=>ybl _ _ W) (hid hr))))
  have HG:=hid (λh=>⟨by omega,λt ht=>by
   obtain⟨i,hi⟩:=List.mem_iff_getElem?.1 ht;have:=h i (List.getElem?_eq_some_iff.1 hi).1;rw[hg i t hi] at this;exact this⟩:(∀i,i<l.length->(l[i]?.getD ([],[])).1.length<=10/\(l[i]?.getD ([],[])).2.length<=10)->l.length<=2/\∀t∈l,t.1.length<=10/\t.2.length<=10)
  have HK:=hid (λ(h:l.length<=2/\∀t∈l,t.1.length<=10/\t.2.length<=10) (W:zA) (hW:qL w W)=>z9a _ l h.1 h.2 W (hw.below hW) (hv.below hW));clear hr hx hv hw h2 at_ hg;go_enter Tryz.func64,Tryz.ntmps64;go_wp21;refine HC.out.mono ?_;rintro e w1 ⟨b,rfl,hb,hB⟩;have HB:=hid hB;cases b
  ·have HC2:=hid (HK.out (HG.out (hb rfl)) w1 hB)
   clear hb hB HC HK HG;go_wp21;refine HC2.out.mono ?_;rintro e w2 ⟨r,rfl,hr,hb2⟩;have HB2:=qT HB hb2;have HR:=hid hr;clear hb2 hr HC2;by_cases h0:r=0
   ·subst h0
    have HD:=hid (HR.out rfl);go_wp21;go_ret;exact⟨false,rfl,λ_=>HD.out,HB2.out⟩
   ·have hrb:(r !=0)=true:=by simpa using h0
    clear h0 HR;go_wp21;go_ret;exact⟨true,rfl,(λh=>by cases h),HB2.out⟩
  ·clear hb hB HC HK HG
   go_wp21;go_ret;exact⟨true,rfl,(λh=>by cases h),HB.out⟩
theorem z8j (p:Option Addr) (cap n:Nat) (D:Nat->Value) (L:Nat->List (List UInt8×List UInt8)) (hn:n<=5000) (w:zA) (hw:Wd w) (hp:RowSl p n D w) (hD:∀i,i<n->SdT (D i) (L i) w):
 zC zF 15 #[.slice p n cap] w (YesI w (∀i,i<n->∃E,L i=E.map strT/\ShrS E)):=by
 have HC:=hid (z91 p cap n _ w (hid (yaz p cap n D (λi hi=>(hD i hi).any) hn (λi=>∃E,L i=E.map strT/\ShrS E) w (hid λi hi W hW=>ycc (D i) (L i) W (hw.below hW) ((hD i hi).below hW)) (hid hp))));clear hw hp hD;go_enter Tryz.func15,Tryz.ntmps15;go_wp21;refine HC.out.mono ?_;rintro e w1 ⟨b,rfl,hb,hB⟩;have HN:=hid hb;clear hb;cases b
 ·go_wp21
  go_ret;exact⟨true,rfl,λ_=>HN.out (by trivial),hB⟩
 ·go_wp21
  go_ret;exact⟨false,rfl,(λh=>by cases h),hB⟩
end
section
open Go.RowKit Go.Shelf Lib Str Limb
attribute [local go_sem] Oper.semAt_some
structure Ew (w:zA):Prop where
 wd:Wd w
 pw:Pw w
 sw:Spw w
theorem Ew.below {w w':zA} (h:Ew w) (hb:qL w w'):Ew w':=⟨h.wd.below hb,h.pw.below hb,h.sw.below hb⟩
structure Er (g:Nat) (w:zA):Prop where
 ew:Ew w
 c0:w.cell? ⟨g,0,none⟩=some (St (numS 1))
 c1:w.cell? ⟨g,1,none⟩=some (St (numS 2))
theorem Er.below {g:Nat} {w w':zA} (h:Er g w) (hb:qL w w'):Er g w':=⟨h.ew.below hb,zai hb h.c0,zai hb h.c1⟩
theorem z1a:zD 1=numS 1/\zD 2=numS 2:=⟨by rw[zfc,zae (by omega)];rfl,by rw[nm2,zae (by omega)];rfl⟩
theorem z8k (g cap:Nat) (hc:1<=cap) (W:zA) (h:Er g W):qJ 70 #[.slice (some ⟨g,0,none⟩) 1 cap] W (.int .i64 0):=by
 refine zos (some ⟨g,0,none⟩) cap 1 (λ_=>1) (λ_=>2) (ya9 1 (by decide) zb7.2.1 2 zyl.2) hc W h.ew.wd h.ew.pw λi hi=>?_;obtain rfl:i=0:=by omega
 exact⟨g,0,rfl,h.c0,by show W.cell? ⟨g,1,none⟩=some (St (zD 2));rw[z1a.2];exact h.c1⟩
theorem z8l (a:Rat) (ha:a≠0) (sa:sz a 2) (B d:Nat) (q:Option Addr) (W:zA) (h:Ew W) (ho:W.ownsRow B 37 2 (.slice q 1 d) 1 (zbj (a2L a 1))):qJ 70 #[.slice q 1 d] W (.int .i64 0):=by
 obtain⟨hd,g,rfl, -, -, -,hx⟩:=ztq ho (by omega);obtain⟨c0,c1⟩:=hx 0 _ rfl;refine zos (some ⟨g,0,none⟩) d 1 (λ_=>a) (λ_=>1) ⟨by omega,λi hi=>⟨ha,sa.mono (by omega),zyl.1⟩,λi hi=>by omega,λi k h1 h2=>by omega⟩ hd W h.wd h.pw λi hi=>?_;obtain rfl:i=0:=by omega
 exact⟨g,0,rfl,c0,by show W.cell? ⟨g,1,none⟩=some (St (zD 1));rw[z1a.1];exact c1⟩
theorem ycy (a:Rat) (ha:a≠0) (sa:sz a 2) (g cap d B:Nat) (q:Option Addr) (hc:1<=cap) (w:zA) (h:Er g w) (ho:w.ownsRow B 37 2 (.slice q 1 d) 1 (zbj (a2L a 1))):
 zC zF 61 #[.slice q 1 d,.slice (some ⟨g,0,none⟩) 1 cap] w λe w'=>∃q' d',e=.returned (.tuple #[.slice q' 2 d',.int .i64 0])/\zB w.heap.size w w'/\∃B',w'.ownsRow B' 37 2 (.slice q' 2 d') 2 (zbj (a2L a 2)):=by
 have hg:g<w.heap.size:=zbe h.c0;have ER:=λ(W:zA) (hb:qL w W)=>h.below hb;have KO:=λ(W:zA) (hb:qL w W)=>zcj (zac hb) ho;obtain⟨-,g1,rfl, -,hg1,hy, -⟩:=ztq ho (by omega);refine z7u (some ⟨g1,0,none⟩) (some ⟨g,0,none⟩) 1 1 d cap 2 2
  (λq d W=>∃B,W.ownsRow B 37 2 (.slice q 1 d) 1 (zbj [(numS (-1),numS 2)]))
  (λq d W=>∃B,W.ownsRow B 37 2 (.slice q 2 d) 2 (zbj (a2L a 2)))
  (λq d W=>∃B,W.ownsRow B 37 2 (.slice q 2 d) 2 (zbj (a2L a 2))) w (hid ?_) (hid λW hW=>?_) (hid λW q2 d2 b hW hb hR k0 k1=>?_) (hid λW q2 d2 hW hR=>?_)
 ·exact z6g _ _ (λW=>qL w W) (λW W' h h'=>h.trans (h'.mono h.size)) (hid λW hW=>z8l a ha sa B d _ W (ER W hW).ew (KO W hW)) (hid λW hW=>z8k g cap hc W (ER W hW)) w (zM _ _)
 ·have hs:=hW.size
  have hm:Hid (∀i,i<1->∀V:zA,Wd V->qJ 11 #[St (numS 1),St (numS (-1))] V (.tuple #[St (numS (-1)),.int .i64 0])):=
   hid λi _ V hV=>zs5 1 (-1) (-1) zb7.2.1 zb7.2.2.2.2.1 (by decide+kernel) V hV
  have:=z6y (some ⟨g,0,none⟩) cap 1 (λ_=>numS 1) (λ_=>numS 2) (λ_=>numS (-1)) (numS (-1)) (by omega) W (hid λV hV=>((ER W hW).below hV).ew.wd) hm (hid λi hi=>by
   obtain rfl:i=0:=by omega
   exact⟨g,0,rfl,by omega,(ER W hW).c0,(ER W hW).c1⟩)
  rw[show numS (-1)=[45,49] from nm_1] at this;refine this.mono λe w' ⟨q2,d2,h1,h2,h3⟩=>⟨q2,d2,h1,h2,W.heap.size,?_⟩;rw[nm_1];exact h3
 ·obtain⟨W0,hB0,⟨B2,hR⟩,hBW⟩:=hR
  have o2:=zcj (zac hBW) hR;obtain⟨-,g2,rfl, -,hg2,hz, -⟩:=ztq o2 (by omega);have hc:catL (λk=>if k=0 then[(numS a,numS 1)] else[(numS (-1),numS 2)]) 2=a2L a 2:=rfl
  have ce:=z5g b 2 (λk=>if k=0 then some ⟨g1,0,none⟩ else some ⟨g2,0,none⟩) (λk=>if k=0 then d else d2) (λk=>if k=0 then[(numS a,numS 1)] else[(numS (-1),numS 2)]) (by omega) (by rw[hc,zvp a 2 (by omega)];omega) W (hid λV=>z62 _ (by rw[hc,zvp a 2 (by omega)];omega) (by rw[hc,zvp a 2 (by omega)];omega) V)
   (hid λk hk=>by
     match k,hk with
     |0,_=>exact .inr ⟨g1,0,rfl,λV hV j u hu=>by rw[Nat.zero_add];exact zai hV (zai hW (hy j u hu))⟩
     |1,_=>exact .inr ⟨g2,0,rfl,λV hV j u hu=>by rw[Nat.zero_add];exact zai hV (hz j u hu)⟩)
   (hid λV hV k hk=>by
     match k,hk with
     |0,_=>exact zai hV k0
     |1,_=>exact zai hV k1)
  rw[hc,zvp a 2 (by omega)] at ce;refine ce.mono λe w' ⟨v,h1,h2,h3⟩=>?_;obtain⟨q',d',rfl⟩:=zpa h2;exact⟨q',d',h1,h3,_,h2⟩
 ·obtain⟨B2,o2⟩:=hR
  obtain⟨-,g2,rfl, -,hg2, -,hx⟩:=ztq o2 (by omega);have E:=ER W hW;refine(z9d a ha sa 2 (by omega) (by omega) (some ⟨g2,0,none⟩) d2 W (hid λV hV=>(E.below hV).ew.wd) (hid λV hV=>(E.below hV).ew.pw) (hid λi hi=>?_)).mono λe w' ⟨q',d',h1,h2,h3⟩=>⟨q',d',h1,h2,_,h3⟩;obtain⟨c0,c1⟩:=hx 0 _ rfl;obtain⟨c2,c3⟩:=hx 1 _ rfl
  match i,hi with
  |0,_=>exact⟨g2,0,rfl,hg2,c0,c1⟩
  |1,_=>exact⟨g2,0,rfl,hg2,c2,c3⟩
theorem ycd (a:Rat) (ha:0<a) (sa:sz a 2) (s:Nat) (hs:s*s=a.num.natAbs*a.num.natAbs*1*10^(2*4)) (m:Int) (hm:((s/a.den:Nat):Int)=m) (W:zA) (hW:Wd W):
 qJ 127 #[.agg #[St (numS a),St (numS 1)],.int .i64 4] W (St (zE m)):=by
 have hn:¬a.num<0:=by have:=Rat.num_nonneg.2 (Rat.le_of_lt ha);omega
 have h1:=sa.1;have h2:a.num.natAbs*a.num.natAbs<10^(2+2):=zcc h1 h1;have h3:a.num.natAbs*a.num.natAbs*1*10^(2*4)<10^13:=by
  have:a.num.natAbs*a.num.natAbs*1*10^(2*4)<=10^(2+2)*10^(2*4):=Nat.mul_le_mul_right _ (by omega);exact Nat.lt_of_le_of_lt this (by decide)
 have:=zul a 1 4 s _ (zd0 (by omega) (by omega) sa) (by grind) (by omega) (by omega) rfl (zO (zil (by omega) h3) (by omega)) ⟨Nat.le_of_eq hs,by rw[<-hs];exact Nat.mul_lt_mul_of_lt_of_lt (by omega) (by omega)⟩ W hW;rw[z1a.1] at this;unfold floT at this;rw[if_neg hn,hm] at this;exact this
theorem ybm (W:zA) (hW:Wd W):
 qJ 127 #[.agg #[St (numS (-1)),St (numS 2)],.int .i64 4] W (St (zE (-14143))):=by
 have:=zul (-1) 2 4 14142 200000000 (zm5 zb7.2.2.2.2.1) (by decide) (by omega) (by omega) (by decide+kernel) (zO (zil (k:=10) (by omega) (by omega)) (by omega)) ⟨by omega,by omega⟩ W hW;rw[z1a.2] at this;unfold floT at this;rw[if_pos (by decide),if_neg (by omega),show((14142/(-1:Rat).den+1:Nat):Int)=14143 by decide+kernel] at this;exact this
def sgT2 (m:Int):Nat->Int
 |0=>0
 |1=>m
 |_=>m-14143
theorem yce (a:Rat) (ha:0<a) (sa:sz a 2) (s:Nat) (hs:s*s=a.num.natAbs*a.num.natAbs*1*10^(2*4)) (m:Int) (hm:((s/a.den:Nat):Int)=m) (hm2:m<100000) (sg:Int) (hsg:(14143<m/\sg=1)\/(m<14141/\sg= -1))
 (B d:Nat) (q:Option Addr) (w:zA) (h:Ew w) (ho:w.ownsRow B 37 2 (.slice q 2 d) 2 (zbj (a2L a 2))):
 qJ 62 #[.slice q 2 d] w (.tuple #[.int .i64 sg,.int .i64 0]):=by
 obtain⟨-,g2,rfl, -,hg2, -,hx⟩:=ztq ho (by omega);obtain⟨c0,c1⟩:=hx 0 _ rfl;obtain⟨c2,c3⟩:=hx 1 _ rfl;have hm0:0<=m:=by rw[<-hm];exact Int.natCast_nonneg _
 have dz:∀z:Int, -1000000<z->z<1000000->digs z<=300:=λz h1 h2=>zO (zhd (k:=6) (by omega) (by show z.natAbs<1000000;omega)) (by omega);have z48:zE 0=[48]:=zb9;have z49:zE 1=[49]:=by rw[show(1:Int)=((1:Nat):Int) from rfl,Str.zad,zae (by omega)];rfl
 have hcmp:∀z:Int, -1000000<z->z<1000000->qK 83 #[St (zE z),.string ⟨#[48]⟩] (.tuple #[.int .i64 (cmpZ z 0),.int .i64 0]):=λz h1 h2 W _=>by
  have:=zsx z 0 (dz z h1 h2) (dz 0 (by omega) (by omega)) W;rw[z48] at this;exact this
 have hadd1:∀z:Int, -100000<z->z<100000->qK 53 #[St (zE z),.string ⟨#[49]⟩] (.tuple #[St (zE (z+1)),.int .i64 0]):=λz h1 h2 W hW=>by
  have:=zva z 1 (dz z (by omega) (by omega)) (dz 1 (by omega) (by omega)) (dz _ (by omega) (by omega)) W hW;rw[z49] at this;exact this
 refine z3w (some ⟨g2,0,none⟩) d 2 (by omega) (by omega) (a2X a) a2Y (λi=>if i=0 then zE m else zE (-14143)) (λi=>zE (sgT2 m i)) (λi=>zE (m-14143+i)) (cmpZ (m-14143) 0) (cmpZ (m-14143+2) 0) sg z48
  (hid λi hi W hW=>?_) (hid λi hi W hW=>?_) (hid λW hW=>hcmp (m-14143) (by omega) (by omega) W hW) (hid ?_) w (hid h.wd) (hid h.sw) (hid λi hi=>?_)
 ·match i,hi with
  |0,_=>exact ycd a ha sa s hs m hm W hW
  |1,_=>exact ybm W hW
 ·match i,hi with
  |0,_=>
   have:=zva 0 m (dz _ (by omega) (by omega)) (dz _ (by omega) (by omega)) (dz _ (by omega) (by omega)) W hW;rw[Int.zero_add] at this;exact this
  |1,_=>exact zva m (-14143) (dz _ (by omega) (by omega)) (dz _ (by omega) (by omega)) (dz _ (by omega) (by omega)) W hW
 ·rcases hsg with⟨h1,h2⟩|⟨h1,h2⟩
  ·left
   refine⟨?_,h2⟩;unfold cmpZ;rw[if_neg (by omega),if_pos (by omega)];rfl
  ·right
   refine⟨?_,h2,?_,?_,λi hi W hW=>?_,λW hW=>hcmp (m-14143+2) (by omega) (by omega) W hW⟩
   ·unfold cmpZ;rw[if_pos (by omega)];rfl
   ·show zE (m-14143+((0:Nat):Int))=zE (m-14143)
    rw[show m-14143+((0:Nat):Int)=m-14143 by omega]
   ·unfold cmpZ;rw[if_pos (by omega)];rfl
   ·have:=hadd1 (m-14143+(i:Int)) (by omega) (by omega) W hW
    rw[show m-14143+(i:Int)+1=m-14143+((i+1:Nat):Int) by omega] at this;exact this
 ·match i,hi with
  |0,_=>exact⟨g2,0,rfl,hg2,c0,c1⟩
  |1,_=>exact⟨g2,0,rfl,hg2,c2,c3⟩
theorem z3q (a:Rat) (ha:0<a) (sa:sz a 2) (s:Nat) (hs:s*s=a.num.natAbs*a.num.natAbs*1*10^(2*4)) (m:Int) (hm:((s/a.den:Nat):Int)=m) (hm2:m<100000) (sg:Int) (hsg:(14143<m/\sg=1)\/(m<14141/\sg= -1))
 (g cap:Nat) (hc:1<=cap) (w:zA) (h:Er g w):
 qJ 214 #[.slice (some ⟨g,0,none⟩) 1 cap,St (numS a)] w (.tuple #[.int .i64 (-sg),.int .i64 0]):=by
 have ha0:a≠0:=by grind
 have ER:=λ(W:zA) (hb:qL w W)=>h.below hb;refine z5k _ (numS a) 1 sg (by omega) (by omega) (λq d W=>∃B,W.ownsRow B 37 2 (.slice q 1 d) 1 (zbj (a2L a 1))) w (hid λW hW k0 k1=>?_) (hid λW q d hW hR=>?_)
 ·have hl:=zbe k0
  refine(z9d a ha0 sa 1 (by omega) (by omega) _ 1 W (hid λV hV=>((ER W hW).below hV).ew.wd) (hid λV hV=>((ER W hW).below hV).ew.pw) (hid λi hi=>?_)).mono λe w' ⟨q',d',h1,h2,h3⟩=>⟨q',d',h1,h2,_,h3⟩;obtain rfl:i=0:=by omega
  exact⟨w.heap.size,0,rfl,hl,k0,by show W.cell? ⟨w.heap.size,1,none⟩=some (St (numS 1));rw[zfc];exact k1⟩
 ·obtain⟨B,hR⟩:=hR
  refine zzh _ _ 2 sg (λq d W=>∃B,W.ownsRow B 37 2 (.slice q 2 d) 2 (zbj (a2L a 2))) W (hid (ycy a ha0 sa g cap d B q hc W (ER W hW) hR)) (hid λV q' d' hV hR'=>?_);obtain⟨B',hR'⟩:=hR';exact yce a ha sa s hs m hm hm2 sg hsg B' d' q' V ((ER W hW).below hV).ew hR'
end
end Go.Proofs.YtmeekcnlacckfaaGreatDoor
