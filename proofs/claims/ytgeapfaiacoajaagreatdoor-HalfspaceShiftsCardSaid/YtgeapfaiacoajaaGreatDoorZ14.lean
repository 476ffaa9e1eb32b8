/- kingpostref03.Ratio; kingpostref04: related, checkTerm, Check. -/
import Derived.Test.YtgeapfaiacoajaaGreatDoorZ13
set_option maxRecDepth 100000
set_option maxHeartbeats 8000000
open Go renaming World → zA, Calls → zC
open Go.RowKit renaming Below → zB
open Go.Lib renaming decDigits → zD
open Go.Proofs.Tryz renaming prog → zF
open Go.World renaming alloc_heap_new → zG, size_alloc → zH
open Go.Joins renaming cell_of_block → zJ, block_setCell → zK
open Go.RowKit.Below renaming refl → zM, heap_setCell → yE
open Nat renaming le_refl → zN
open List renaming mem_cons_self → yD
namespace Go.Proofs.YtgeapfaiacoajaaGreatDoor
section
open Go.RowKit Go.Shelf Lib Str Limb Geo
attribute [local go_sem] Oper.semAt_some
theorem z0e (a b q n d x y z:List UInt8) (i1 i2:Bool)
 (CK:Hid (∀(W:zA) (A:Nat),Wd W->W.heap[A]? =some (.cells #[St a,St b] 22 (0,0))->qJ 227 #[.slice (some ⟨A,0,none⟩) 2 2] W (.int .i64 0)))
 (S1:Hid (∀W:zA,qJ 228 #[St a] W (.int .i64 1)))
 (S2:Hid (∀W:zA,qJ 228 #[St b] W (.int .i64 1)))
 (Q1:Hid (qK 232 #[St a,St b] (St q)))
 (PT:Hid (qK 170 #[St q] (.tuple #[St n,St d,.int .i64 0])))
 (SN:Hid (qK 231 #[St n] (.tuple #[St x,.bool i1])))
 (SD:Hid (qK 231 #[St d] (.tuple #[St y,.bool i2])))
 (Q2:Hid (qK 232 #[St x,St y] (St z)))
 (w:zA) (HW:Hid (Wd w)):
 zC zF 173 #[St a,St b] w λe w'=>∃k,e=.returned (.tuple #[.string k,.bool (i1&&i2),.int .i64 0])/\zB w.heap.size w w':=by
 obtain⟨v1,hv⟩:=zzX (w.alloc (.cells #[St a,St b] 22));have a1:qL w v1:=by rw[hv];exact(zM _ w).alloc (zN _) _
 have A1:v1.heap[w.heap.size]? =some (.cells #[St a,St b] 22 (0,0)):=by rw[hv];exact zG w _
 have HCK:=hid (CK.out v1 w.heap.size (HW.out.below a1) A1);have B0:=hid a1;have HV:=hid hv.symm;clear hv a1 A1 CK;go_enter Tryz.func173,Tryz.ntmps173;go_wp21;have h9:=HV.out;rw[show w.alloc (.cells #[.string ⟨a.toArray⟩,.string ⟨b.toArray⟩] 22)=v1 from h9];clear h9 HV;refine zzM HCK.out λw1 hb=>?_;have B1:=hid (B0.out.trans (hb.mono B0.out.size));clear hb HCK B0;go_wp21;refine zzM (S1.out w1) λw2 hb=>?_;have B2:=hid (B1.out.trans (hb.mono B1.out.size));clear hb B1 S1;go_wp21;refine zzM (S2.out w2) λw3 hb=>?_;have B3:=hid (B2.out.trans (hb.mono B2.out.size));clear hb B2;go_wp21;refine zzM (S2.out w3) λw4 hb=>?_;have B4:=hid (B3.out.trans (hb.mono B3.out.size));clear hb B3 S2;go_wp21;refine zzM (Q1.out w4 (HW.out.below B4.out)) λw5 hb=>?_;have B5:=hid (B4.out.trans (hb.mono B4.out.size));clear hb B4 Q1;go_wp21;refine zzM (PT.out w5 (HW.out.below B5.out)) λw6 hb=>?_;have B6:=hid (B5.out.trans (hb.mono B5.out.size));clear hb B5 PT;go_wp21;refine zzM (SN.out w6 (HW.out.below B6.out)) λw7 hb=>?_;have B7:=hid (B6.out.trans (hb.mono B6.out.size));clear hb B6 SN;go_wp21;refine zzM (SD.out w7 (HW.out.below B7.out)) λw8 hb=>?_;have B8:=hid (B7.out.trans (hb.mono B7.out.size));clear hb B7 SD;cases i1
 ·clear Q2
  go_wp21;go_ret3;exact⟨_,rfl,B8.out⟩
 ·cases i2
  ·clear Q2
   go_wp21;go_ret3;exact⟨_,rfl,B8.out⟩
  ·go_wp21
   refine zzM (Q2.out w8 (HW.out.below B8.out)) λw9 hb=>?_;have B9:=hid (B8.out.trans (hb.mono B8.out.size));clear hb;go_wp21;go_ret3;exact⟨_,rfl,B9.out⟩
theorem z2g (r s:Nat) (hr0:0<r) (hs0:0<s) (hr:r<10^8) (hs:s<10^8) (w:zA) (hw:Wd w):
 zC zF 173 #[St (zD r),St (zD s)] w λe w'=>∃k,e=.returned (.tuple #[.string k,.bool (z5c (r:Rat) (s:Rat)),.int .i64 0])/\zB w.heap.size w w':=by
 obtain⟨r1,r2,r3⟩:=zlj (show r<10^9 by omega);obtain⟨s1,s2,s3⟩:=zlj (show s<10^9 by omega);have pr:(0:Rat)<(r:Rat):=by exact_mod_cast hr0
 have ps:(0:Rat)<(s:Rat):=by exact_mod_cast hs0
 have sq:sz ((r:Rat)/(s:Rat)) 8:=zvm (by omega) hr hs;have h90:∀x:Nat,x<10^8->sz (x:Rat) 90:=λx hx=>(zrg (k:=8) (by omega) ((zaf x 8 (by omega)).2 hx)).mono (by omega);have okq:okN ((r:Rat)/(s:Rat)):=z6i (by omega) (by omega) sq;have hn:0<=((r:Rat)/(s:Rat)).num:=Rat.num_nonneg.2 (Rat.le_of_lt (div_pos pr ps));have le:∀n:Nat,isq n<=n:=λn=>by
  have h1:=(zv0 n).1;rcases Nat.eq_zero_or_pos (isq n) with e|e
  ·omega
  ·have:=Nat.le_mul_of_pos_left (isq n) e;omega
 have pos:∀n:Nat,0<n->0<isq n:=λn h=>by
  have h2:=(zv0 n).2;rcases Nat.eq_zero_or_pos (isq n) with e|e
  ·rw[e] at h2;omega
  ·exact e
 have a1:=sq.1;have a2:=sq.2;have dp:=((r:Rat)/(s:Rat)).den_pos;obtain⟨n1,n2, -⟩:=zlj (show isq ((r:Rat)/(s:Rat)).num.natAbs<10^9 from Nat.lt_of_le_of_lt (le _) (by omega));obtain⟨d1,d2, -⟩:=zlj (show isq ((r:Rat)/(s:Rat)).den<10^9 from Nat.lt_of_le_of_lt (le _) (by omega));exact z0e (zD r) (zD s) (numS ((r:Rat)/(s:Rat))) (zD ((r:Rat)/(s:Rat)).num.natAbs) (zD ((r:Rat)/(s:Rat)).den) (zD (isq ((r:Rat)/(s:Rat)).num.natAbs)) (zD (isq ((r:Rat)/(s:Rat)).den)) _ _ _
  (hid λW A hW hA=>zvv (some ⟨A,0,none⟩) 2 2 (λi=>if i=0 then(r:Rat) else(s:Rat)) (by omega) (λi _=>by
    by_cases e:i=0
    ·rw[if_pos e];exact⟨r1,h90 r hr⟩
    ·rw[if_neg e];exact⟨s1,h90 s hs⟩) W (hid hW) (hid (z5n A _ (r:Rat) (s:Rat) W (by rw[zhe,zhe];exact hA))))
  (hid λW=>zvu r hr0 W) (hid λW=>zvu s hs0 W)
  (hid λW hW=>by
    have:=zxz (r:Rat) (s:Rat) r1 s1 r2 s2 ps W hW;rw[zhe,zhe] at this;exact this)
  (hid λW hW=>by
    have:=znm _ okq W hW;rw[show itoa ((r:Rat)/(s:Rat)).num=zD ((r:Rat)/(s:Rat)).num.natAbs by rw[<-Str.zad];congr 1;omega] at this;exact this)
  (hid λW hW=>zvj _ (by omega) W hW) (hid λW hW=>zvj _ (by omega) W hW)
  (hid λW hW=>by
    have:=zxz ((isq ((r:Rat)/(s:Rat)).num.natAbs:Nat):Rat) ((isq ((r:Rat)/(s:Rat)).den:Nat):Rat) n1 d1 n2 d2 (by have:=pos _ dp;exact_mod_cast this) W hW;rw[zhe,zhe] at this;exact this) w (hid hw)
theorem z2h (a b:List UInt8) (r:Bool)
 (H2:Hid ((a==b)=false->(a==[49])=false->(b==[49])=false->∀W:zA,Wd W->zC zF 173 #[St a,St b] W λe w'=>∃k,e=.returned (.tuple #[.string k,.bool r,.int .i64 0])/\zB W.heap.size W w'))
 (w:zA) (HW:Hid (Wd w)):
 qJ 119 #[St a,St b] w (.bool (if(a==b)=true then true else if(a==[49])=true\/(b==[49])=true then false else r)):=by
 obtain⟨s,hs⟩:=zzX (⟨a.toArray⟩:ByteArray);obtain⟨t,ht⟩:=zzX (⟨b.toArray⟩:ByteArray);have es:s.toList=a:=by rw[hs,ByteArray.toList_eq]
 have et:t.toList=b:=by rw[ht,ByteArray.toList_eq]
 rw[show St a=.string s by rw[hs],show St b=.string t by rw[ht]] at*
 rw[<-es,<-et] at H2;rw[<-es,<-et];clear es et hs ht;cases h0:(s.toList==t.toList)
 ·rw[if_neg (by simp)]
  cases h1:(s.toList==[49])
  ·cases h2:(t.toList==[49])
   ·have HR:=hid (H2.out h0 h1 h2 w HW.out)
    rw[if_neg (by simp)];clear H2;go_enter Tryz.func119,Tryz.ntmps119;go_wp21;refine HR.out.mono ?_;rintro e w1 ⟨k,rfl,hb⟩;have HB:=hid hb;clear hb;go_wp21;go_ret;exact⟨rfl,HB.out⟩
   ·rw[if_pos (by simp)]
    clear H2;go_enter Tryz.func119,Tryz.ntmps119;go_wp21;go_ret;exact⟨rfl,zM _ _⟩
  ·rw[if_pos (by simp)]
   clear H2;go_enter Tryz.func119,Tryz.ntmps119;go_wp21;go_ret;exact⟨rfl,zM _ _⟩
 ·rw[if_pos (by simp)]
  clear H2;go_enter Tryz.func119,Tryz.ntmps119;go_wp21;go_ret;exact⟨rfl,zM _ _⟩
theorem zx7 {r:Nat} (h:NrmR r) (h1:r≠1):z5c (r:Rat) ((1:Nat):Rat)=false:=by
 have hnc:=h.nc;have e:¬isq r*isq r=r:=λe=>by
  obtain⟨C,L,hCL⟩:∃C L,zro prL (1,r)=(C,L):=by
   generalize zro prL (1,r)=x;exact⟨x.1,x.2,rfl⟩
  unfold zn7 at hnc;rw[hCL] at hnc;dsimp only at hnc;split at hnc
  ·have:=(Prod.mk.inj hnc).2
   exact h1 this.symm
  ·rename_i hne
   have:=(Prod.mk.inj hnc).2;rw[this] at hne;exact hne e
 unfold z5c;rw[Bool.and_eq_false_iff];left;have hd:(r:Rat)/((1:Nat):Rat)=(r:Rat):=by rw[show((1:Nat):Rat)=1 by decide+kernel];grind
 rw[hd,show(r:Rat).num.natAbs=r from rfl];exact decide_eq_false e
theorem zw7 {a b:Nat}:(zD a==zD b)=decide (a=b):=by
 rw[Bool.eq_iff_iff,beq_iff_eq,decide_eq_true_eq];constructor
 ·intro h
  rw[<-Str.zad,<-Str.zad] at h;have:=zdo h;omega
 ·rintro rfl;rfl
theorem z4q (r s:Nat) (hr:NrmR r) (hs:NrmR s) (r8:r<10^8) (s8:s<10^8):∃t:Bool,(t=false->z5c (s:Rat) (r:Rat)=false)/\∀W:zA,Wd W->
 qJ 119 #[St (zD r),St (zD s)] W (.bool t):=by
 have d1:[49]=zD 1:=by rw[zae (by omega)];rfl
 have pr:(0:Rat)<(r:Rat):=by have:=hr.pos;exact_mod_cast this
 have ps:(0:Rat)<(s:Rat):=by have:=hs.pos;exact_mod_cast this
 have p1:(0:Rat)<((1:Nat):Rat):=by decide+kernel
 refine⟨_,λh=>?_,λW hW=>z2h _ _ (z5c (r:Rat) (s:Rat)) (hid λ_ _ _ V hV=>z2g r s hr.pos hs.pos r8 s8 V hV) W (hid hW)⟩;rw[d1,zw7,zw7,zw7] at h;simp only[decide_eq_true_eq] at h;split at h
 ·cases h
 ·rename_i h0
  split at h
  ·rename_i h1
   rcases h1 with e|e
   ·subst e;exact zx7 hs (λe=>h0 e.symm)
   ·subst e;exact zu9 pr p1 (zx7 hr h0)
  ·exact zu9 pr ps h
theorem zxa (x y n d k l:List UInt8) (c:Int) (G:Prop)
 (C1:Hid (qK 25 #[St x] (.int .i64 0)))
 (C2:Hid (qK 25 #[St y] (.int .i64 0)))
 (L1:Hid (qK 169 #[St x,.int .i64 60] (.bool false)))
 (L2:Hid (qK 169 #[St y,.int .i64 40] (.bool false)))
 (PT:Hid (qK 170 #[St y] (.tuple #[St n,St d,.int .i64 0])))
 (CM:Hid (qK 118 #[St y,.string ⟨#[48]⟩] (.int .i64 c)))
 (H1:Hid ((x==[48])=false->(d==[49])=true->0<c->(y==[49])=true->G))
 (H2:Hid ((x==[48])=false->(d==[49])=true->0<c->(y==[49])=false->((k==[49])=true->(l==y)=true->G)/\qK 171 #[St y] (.tuple #[St k,St l,.int .i64 0])))
 (w:zA) (HW:Hid (Wd w)):
 zC zF 117 #[.agg #[St x,St y]] w (ErrP w G):=by
 obtain⟨s,hs⟩:=zzX (⟨x.toArray⟩:ByteArray);obtain⟨t,ht⟩:=zzX (⟨y.toArray⟩:ByteArray);obtain⟨dd,hd⟩:=zzX (⟨d.toArray⟩:ByteArray);obtain⟨kk,hk⟩:=zzX (⟨k.toArray⟩:ByteArray);obtain⟨ll,hl⟩:=zzX (⟨l.toArray⟩:ByteArray);have es:s.toList=x:=by rw[hs,ByteArray.toList_eq]
 have et:t.toList=y:=by rw[ht,ByteArray.toList_eq]
 have ed:dd.toList=d:=by rw[hd,ByteArray.toList_eq]
 have ek:kk.toList=k:=by rw[hk,ByteArray.toList_eq]
 have el:ll.toList=l:=by rw[hl,ByteArray.toList_eq]
 rw[show St x=.string s by rw[hs],show St y=.string t by rw[ht],show St d=.string dd by rw[hd],show St k=.string kk by rw[hk],show St l=.string ll by rw[hl]] at*
 rw[<-es,<-et,<-ed] at H1;rw[<-es,<-et,<-ed,<-ek,<-el] at H2;clear es et ed ek el hs ht hd hk hl;obtain⟨W0,hW0⟩:=zzX (w.alloc (.cells #[.string s,.string t] 69));have K0:=hid (show BxT w s t W0 by rw[hW0];exact BxT.start w s t);obtain⟨c0,c1⟩:=K0.out.cx;rw[hW0] at c0 c1;have H9:=hid hW0.symm;clear hW0;go_enter Tryz.func117,Tryz.ntmps117;go_wp21;rw[H9.out];clear c0 c1 H9;refine zzM (C1.out W0 (HW.out.below K0.out.bel)) λw1 hb1=>?_;have K1:=hid (K0.out.next hb1);clear hb1 K0 C1;obtain⟨c0,c1⟩:=K1.out.cx;go_wp21;clear c0 c1;refine zzM (C2.out w1 (HW.out.below K1.out.bel)) λw2 hb2=>?_;have K2:=hid (K1.out.next hb2);clear hb2 K1 C2;obtain⟨c0,c1⟩:=K2.out.cx;cases hx0:(s.toList==[48])
 ·go_wp21
  clear c0 c1;refine zzM (L1.out w2 (HW.out.below K2.out.bel)) λw3 hb3=>?_;have K3:=hid (K2.out.next hb3);clear hb3 K2 L1;obtain⟨c0,c1⟩:=K3.out.cx;go_wp21;clear c0 c1;refine zzM (L2.out w3 (HW.out.below K3.out.bel)) λw4 hb4=>?_;have K4:=hid (K3.out.next hb4);clear hb4 K3 L2;obtain⟨c0,c1⟩:=K4.out.cx;go_wp21;clear c0 c1;refine zzM (PT.out w4 (HW.out.below K4.out.bel)) λw5 hb5=>?_;have K5:=hid (K4.out.next hb5);clear hb5 K4 PT;obtain⟨c0,c1⟩:=K5.out.cx;cases hd1:(dd.toList==[49])
  ·have hdb:(dd.toList !=[49])=true:=by simp[bne,hd1]
   clear H1 H2 CM;go_wp21;go_ret;exact⟨_,rfl,(λh=>by cases h),K5.out.bel⟩
  ·have hdb:(dd.toList !=[49])=false:=by simp[bne,hd1]
   go_wp21;clear c0 c1;refine zzM (CM.out w5 (HW.out.below K5.out.bel)) λw6 hb6=>?_;have K6:=hid (K5.out.next hb6);clear hb6 K5 CM;obtain⟨c0,c1⟩:=K6.out.cx;by_cases hc:0<c
   ·have hcn:¬c<=0:=by omega
    cases hy1:(t.toList==[49])
    ·obtain⟨hG,hN⟩:=H2.out hx0 hd1 hc hy1
     have HG:=hid hG;have HN:=hid hN;clear hG hN H1 H2;go_wp21;clear c0 c1;refine zzM (HN.out w6 (HW.out.below K6.out.bel)) λw7 hb7=>?_;have K7:=hid (K6.out.next hb7);clear hb7 K6 HN;obtain⟨c0,c1⟩:=K7.out.cx;cases hk1:(kk.toList==[49])
     ·have hkb:(kk.toList !=[49])=true:=by simp[bne,hk1]
      go_wp21;go_ret;exact⟨_,rfl,(λh=>by cases h),K7.out.bel⟩
     ·have hkb:(kk.toList !=[49])=false:=by simp[bne,hk1]
      cases hl1:(ll.toList==t.toList)
      ·have hlb:(ll.toList !=t.toList)=true:=by simp[bne,hl1]
       go_wp21;go_ret;exact⟨_,rfl,(λh=>by cases h),K7.out.bel⟩
      ·have hlb:(ll.toList !=t.toList)=false:=by simp[bne,hl1]
       have HGG:=hid (HG.out hk1 hl1);go_wp21;go_ret;exact⟨_,rfl,λ_=>HGG.out,K7.out.bel⟩
    ·have HG:=hid (H1.out hx0 hd1 hc hy1)
     clear H1 H2;go_wp21;go_ret;exact⟨_,rfl,λ_=>HG.out,K6.out.bel⟩
   ·have hcn:c<=0:=by omega
    clear H1 H2;go_wp21;go_ret;exact⟨_,rfl,(λh=>by cases h),K6.out.bel⟩
 ·clear H1 H2 CM PT L1 L2
  go_wp21;go_ret;exact⟨_,rfl,(λh=>by cases h),K2.out.bel⟩
theorem zvy (x y:List UInt8) (hx:shT x) (hy:shT y) (w:zA) (hw:Wd w):
 zC zF 117 #[.agg #[St x,St y]] w (ErrP w (GoE x y)):=by
 obtain⟨lx,c,rfl,hc⟩:=hx;obtain⟨ly,q,rfl,hq⟩:=hy;have sc:=zto (by omega) lx;have sq:=zto (by omega) ly;have d1:zD 1=[49]:=by rw[zae (by omega)];rfl
 have near:∀{p:Rat},sz p 8->zm0 p:=λh=>by
  have:=zok (k:=8) (by omega) h;exact⟨by omega,by omega⟩
 have z0:okN (0:Rat)/\zm0 (0:Rat):=by
  have:=zlj (n:=0) (by omega);exact⟨this.1,this.2.1⟩
 have hnz:(numS c==[48])=false->c≠0:=λh e=>by
  rw[beq_eq_false_iff_ne] at h;exact h (by rw[e];exact zie)
 have inj:∀a b:Nat,zD a=zD b->a=b:=λa b h=>by
  have:=zw7 (a:=a) (b:=b);rw[h,beq_self_eq_true] at this;exact of_decide_eq_true this.symm
 have nat:(zD q.den==[49])=true->0<cmpR q 0->∃n:Nat,numS q=zD n/\0<n/\n<10^8:=λhd hcm=>by
  rw[beq_iff_eq,<-d1] at hd;have hden:=inj _ _ hd;have hqp:0<q:=by have:=zaw q 0;grind
  have hqn:0<=q.num:=Rat.num_nonneg.2 (Rat.le_of_lt hqp);have hq0:q.num≠0:=λe=>by have:=Rat.num_eq_zero.1 e;grind
  refine⟨q.num.natAbs,?_,by omega,sq.1⟩;unfold numS;rw[if_pos hden,List.append_nil,<-Str.zad];congr 1;omega
 by_cases hnat:(zD q.den==[49])=true/\0<cmpR q 0
 ·obtain⟨n,hn,n0,n8⟩:=nat hnat.1 hnat.2
  refine zxa (numS c) (numS q) (itoa q.num) (zD q.den) (zD (zn7 n).1) (zD (zn7 n).2) (cmpR q 0) _ (hid λW hW=>zft c hc W hW) (hid λW hW=>zft q hq W hW) (hid λW hW=>zvi c 60 (by omega) hc sc (by omega) W hW) (hid λW hW=>zvi q 40 (by omega) hq sq (by omega) W hW) (hid λW hW=>znm q hq W hW) (hid λW hW=>?_) (hid λh0 _ _ h1=>?_) (hid λh0 _ _ h1=>⟨λhk hl=>?_,λW hW=>?_⟩) w (hid hw)
  ·have:=zx0 q 0 hq z0.1 (near sq) z0.2 W hW
   rw[nm0] at this;exact this
  ·rw[beq_iff_eq] at h1
   exact⟨c,1,rfl,sc,by rw[h1,d1],by omega,hnz h0,sc.mono (by omega),zyl.1⟩
  ·rw[beq_iff_eq,<-d1] at hk
   rw[beq_iff_eq,hn] at hl;exact⟨c,n,rfl,sc,hn,n8,hnz h0,sc.mono (by omega),n0,by have:=(zaf n 8 (by omega)).2 n8;omega,Prod.ext (inj _ _ hk) (inj _ _ hl)⟩
  ·rw[hn];exact z0x n n0 n8 W hW
 ·refine zxa (numS c) (numS q) (itoa q.num) (zD q.den) [] [] (cmpR q 0) _ (hid λW hW=>zft c hc W hW) (hid λW hW=>zft q hq W hW) (hid λW hW=>zvi c 60 (by omega) hc sc (by omega) W hW) (hid λW hW=>zvi q 40 (by omega) hq sq (by omega) W hW) (hid λW hW=>znm q hq W hW) (hid λW hW=>?_) (hid λ_ h1 h2 _=>absurd ⟨h1,h2⟩ hnat) (hid λ_ h1 h2 _=>absurd ⟨h1,h2⟩ hnat) w (hid hw)
  have:=zx0 q 0 hq z0.1 (near sq) z0.2 W hW;rw[nm0] at this;exact this
theorem z0y (p:Option Addr) (cap:Nat) (w:zA):zC zF 67 #[.slice p 0 cap] w (ErrP w True):=by
 go_enter Tryz.func67,Tryz.ntmps67;go_wp21;refine wp_loop_rounds 1 ?_;rw[rounds_succ];go_wp21;go_ret;exact⟨_,rfl,λ_=>trivial,zM _ _⟩
theorem z0z (b off cap:Nat) (x0 y0:List UInt8) (G0:Prop)
 (T0:Hid (∀W:zA,Wd W->zC zF 117 #[.agg #[St x0,St y0]] W (ErrP W G0)))
 (w:zA) (HW:Hid (Wd w)) (HC:Hid (w.cell? ⟨b,off,none⟩=some (St x0)/\w.cell? ⟨b,off+1,none⟩=some (St y0))):
 zC zF 67 #[.slice (some ⟨b,off,none⟩) 1 cap] w (ErrP w G0):=by
 obtain⟨c0,c1⟩:=HC.out;go_enter Tryz.func67,Tryz.ntmps67;go_wp21;refine wp_loop_rounds 2 ?_;rw[rounds_succ];go_wp21;refine(T0.out w HW.out).mono ?_;rintro e w1 ⟨r,rfl,hr,hb⟩;have B1:=hid hb;have HR:=hid hr;clear hb hr c0 c1;by_cases h0:r=0
 ·subst h0
  have HG:=hid (HR.out rfl);go_wp21
  (refine wp_region_quiet_lit (by kernel_rfl) (by kernel_rfl) (WQ.out ?_);(repeat(first|(apply WQ.read (by rfl);(focus(rintro W ⟨n,rfl⟩;go_simp;try with_reducible rfl));try simp only[zzQ])|(apply WQ.skip (by rfl);try simp only[zzQ])));refine WQ.nil ?_;rintro _ ⟨nq,rfl⟩)
  go_wp21;refine wp_loop_rounds 1 ?_;rw[rounds_succ];go_wp21;rw[rounds_succ];go_wp21;go_ret;exact⟨_,rfl,λ_=>HG.out,zao B1.out _⟩
 ·have hrb:(r !=0)=true:=by simpa using h0
  have HN:=hid h0;clear h0;go_wp21;go_ret;exact⟨r,rfl,λh=>absurd h HN.out,B1.out⟩
theorem z00 (b off cap:Nat) (x0 y0 x1 y1:List UInt8) (G0 G1 OR UL:Prop)
 (T0:Hid (∀W:zA,Wd W->zC zF 117 #[.agg #[St x0,St y0]] W (ErrP W G0)))
 (T1:Hid (∀W:zA,Wd W->zC zF 117 #[.agg #[St x1,St y1]] W (ErrP W G1)))
 (CM:Hid (G0->G1->∃c:Int,(c<0->OR)/\qK 118 #[St y0,St y1] (.int .i64 c)))
 (RL:Hid (G0->G1->∃t:Bool,(t=false->UL)/\qK 119 #[St y0,St y1] (.bool t)))
 (w:zA) (HW:Hid (Wd w)) (HC:Hid (w.cell? ⟨b,off,none⟩=some (St x0)/\w.cell? ⟨b,off+1,none⟩=some (St y0)/\w.cell? ⟨b,off+2,none⟩=some (St x1)/\w.cell? ⟨b,off+2+1,none⟩=some (St y1))):
 zC zF 67 #[.slice (some ⟨b,off,none⟩) 2 cap] w (ErrP w (G0/\G1/\OR/\UL)):=by
 obtain⟨c0,c1,c2,c3⟩:=HC.out;go_enter Tryz.func67,Tryz.ntmps67;go_wp21;refine wp_loop_rounds 3 ?_;rw[rounds_succ];go_wp21;refine(T0.out w HW.out).mono ?_;rintro e w1 ⟨r,rfl,hr,hb⟩;have B1:=hid hb;have HR:=hid hr;clear hb hr c0 c1 c2 c3 T0;by_cases h0:r=0
 ·subst h0
  have HG0:=hid (HR.out rfl);clear HR;go_wp21
  (refine wp_region_quiet_lit (by kernel_rfl) (by kernel_rfl) (WQ.out ?_);(repeat(first|(apply WQ.read (by rfl);(focus(rintro W ⟨n,rfl⟩;go_simp;try with_reducible rfl));try simp only[zzQ])|(apply WQ.skip (by rfl);try simp only[zzQ])));refine WQ.nil ?_;rintro _ ⟨nq,rfl⟩)
  go_wp21;refine wp_loop_rounds 1 ?_;rw[rounds_succ];go_wp21;rw[rounds_succ];obtain⟨wq,hwq⟩:=zzX (w1.drewN nq);have BQ:Hid (qL w wq):=hid (by rw[hwq];exact zao B1.out _);rw[<-hwq];clear hwq;have c2:=zai BQ.out HC.out.2.2.1;have c3:=zai BQ.out HC.out.2.2.2;go_wp21;refine(T1.out wq (HW.out.below BQ.out)).mono ?_;rintro e w2 ⟨r,rfl,hr,hb⟩;have B2:=hid (BQ.out.trans (hb.mono BQ.out.size));have HR:=hid hr;clear hb hr c2 c3 T1 BQ;by_cases h0:r=0
  ·subst h0
   have HG1:=hid (HR.out rfl);obtain⟨c,hc1,hc2⟩:=CM.out HG0.out HG1.out;obtain⟨bb,hb1,hb2⟩:=RL.out HG0.out HG1.out;have HC1:=hid hc1;have HCM:=hid hc2;have HB1:=hid hb1;have HRL:=hid hb2;have HC2:=hid (⟨zai B2.out HC.out.1,zai B2.out HC.out.2.1,zai B2.out HC.out.2.2.1,zai B2.out HC.out.2.2.2⟩:_/\_/\_/\_);clear hc1 hc2 hb1 hb2 CM RL HR;by_cases hcn:c<0
   ·have hng:¬0<=c:=by omega
    have hgd:decide (0<=c)=false:=decide_eq_false hng;have HOR:=hid (HC1.out hcn);go_wp21
    focus
     refine zbl (λ_ W=>qL w2 W) (by kernel_rfl) (by kernel_rfl) (zM _ _).drew ?_;refine qR (.int .i64 1) ?_ (hy:=λf W' hf h=>by go_simp;try first|omega|decide);refine qR (.bool true) ?_ (hy:=λf W' hf h=>by go_simp;try first|omega|decide);refine qR (.bool true) ?_ (hy:=λf W' hf h=>by go_simp;try first|omega|decide);simp only[zzQ];refine qR (.slice (some ⟨b,off,none⟩) 2 cap) ?_ (hy:=λf W' hf h=>by go_simp;try first|omega|decide);refine qR (.int .i64 1) ?_ (hy:=λf W' hf h=>by go_simp;try first|omega|decide);refine qR (.int .i64 0) ?_ (hy:=λf W' hf h=>by go_simp;try first|omega|decide);simp only[zzQ];refine qR (.pointer (some ⟨b,off,none⟩)) ?_ (hy:=λf W' hf h=>by go_simp;try first|omega|decide);refine qR (.pointer (some ⟨b,off+1,none⟩)) ?_ (hy:=λf W' hf h=>by go_simp;try first|omega|decide);refine qR (St y0) ?_ (hy:=λf W' hf h=>by have c0:=zai h HC2.out.2.1;go_simp;try first|omega|decide);simp only[zzQ];refine qR (.slice (some ⟨b,off,none⟩) 2 cap) ?_ (hy:=λf W' hf h=>by go_simp;try first|omega|decide);refine qR (.int .i64 1) ?_ (hy:=λf W' hf h=>by go_simp;try first|omega|decide);refine qR (.pointer (some ⟨b,off+2,none⟩)) ?_ (hy:=λf W' hf h=>by go_simp;try first|omega|decide);simp only[zzQ];refine qR (.pointer (some ⟨b,off+2+1,none⟩)) ?_ (hy:=λf W' hf h=>by go_simp;try first|omega|decide);refine qR (St y1) ?_ (hy:=λf W' hf h=>by have c0:=zai h HC2.out.2.2.2;go_simp;try first|omega|decide);simp only[zzQ]
     refine zar (.int .i64 c) (by rfl) (λf W' hf h C' hC'=>by
      go_simp;refine zzM (HCM.out _ (HW.out.below (B2.out.trans (h.mono B2.out.size)))) λw' hb=>?_;exact⟨rfl,hC' _ (h.trans (hb.mono h.size))⟩) ?_
     refine qR (.bool false) ?_ (hy:=λf W' hf h=>by go_simp;try first|omega|decide);refine qR (.bool false) ?_ (hy:=λf W' hf h=>by go_simp;try first|omega|decide);simp only[zzQ];refine zck λf W5 hf h5=>?_;obtain⟨w5,hw5⟩:=zzX W5;rw[<-hw5] at h5⊢;have B5:=hid (B2.out.trans (h5.mono B2.out.size));have HC5:=hid (⟨zai B5.out HC.out.1,zai B5.out HC.out.2.1,zai B5.out HC.out.2.2.1,zai B5.out HC.out.2.2.2⟩:_/\_/\_/\_);clear hf h5 hw5 HC2 HCM;go_wp21;refine wp_loop_rounds 2 ?_;rw[rounds_succ];go_wp21;refine zbl (λ_ W=>qL w5 W) (by kernel_rfl) (by kernel_rfl) (zM _ _).drew ?_;refine qR (.slice (some ⟨b,off,none⟩) 2 cap) ?_ (hy:=λf W' hf h=>by go_simp;try first|omega|decide);refine qR (.int .i64 0) ?_ (hy:=λf W' hf h=>by go_simp;try first|omega|decide);refine qR (.pointer (some ⟨b,off,none⟩)) ?_ (hy:=λf W' hf h=>by go_simp;try first|omega|decide);simp only[zzQ];refine qR (.pointer (some ⟨b,off+1,none⟩)) ?_ (hy:=λf W' hf h=>by go_simp;try first|omega|decide);refine qR (St y0) ?_ (hy:=λf W' hf h=>by have c0:=zai h HC5.out.2.1;go_simp;try first|omega|decide);refine qR (.slice (some ⟨b,off,none⟩) 2 cap) ?_ (hy:=λf W' hf h=>by go_simp;try first|omega|decide);simp only[zzQ];refine qR (.int .i64 1) ?_ (hy:=λf W' hf h=>by go_simp;try first|omega|decide);refine qR (.pointer (some ⟨b,off+2,none⟩)) ?_ (hy:=λf W' hf h=>by go_simp;try first|omega|decide);refine qR (.pointer (some ⟨b,off+2+1,none⟩)) ?_ (hy:=λf W' hf h=>by go_simp;try first|omega|decide);simp only[zzQ];refine qR (St y1) ?_ (hy:=λf W' hf h=>by have c0:=zai h HC5.out.2.2.2;go_simp;try first|omega|decide);simp only[zzQ]
     refine zar (.bool bb) (by rfl) (λf W' hf h C' hC'=>by
      go_simp;refine zzM (HRL.out _ (HW.out.below (B5.out.trans (h.mono B5.out.size)))) λw' hb=>?_;exact⟨rfl,hC' _ (h.trans (hb.mono h.size))⟩) ?_
     try simp only[zzQ]
     refine zck λf W6 hf h6=>?_;have B6:=hid (B5.out.trans (h6.mono B5.out.size));clear hf h6 HC5 HRL;cases bb
     ·have HUL:=hid (HB1.out rfl)
      go_wp21;rw[rounds_succ];go_wp21;rw[rounds_succ];go_wp21;go_ret;exact⟨_,rfl,λ_=>⟨HG0.out,HG1.out,HOR.out,HUL.out⟩,B6.out⟩
     ·go_wp21
      go_ret;exact⟨_,rfl,(λh=>by cases h),B6.out⟩
   ·have hng:0<=c:=by omega
    have hgd:decide (0<=c)=true:=decide_eq_true hng;go_wp21
    focus
     refine zbl (λ_ W=>qL w2 W) (by kernel_rfl) (by kernel_rfl) (zM _ _).drew ?_;refine qR (.int .i64 1) ?_ (hy:=λf W' hf h=>by go_simp;try first|omega|decide);refine qR (.bool true) ?_ (hy:=λf W' hf h=>by go_simp;try first|omega|decide);refine qR (.bool true) ?_ (hy:=λf W' hf h=>by go_simp;try first|omega|decide);simp only[zzQ];refine qR (.slice (some ⟨b,off,none⟩) 2 cap) ?_ (hy:=λf W' hf h=>by go_simp;try first|omega|decide);refine qR (.int .i64 1) ?_ (hy:=λf W' hf h=>by go_simp;try first|omega|decide);refine qR (.int .i64 0) ?_ (hy:=λf W' hf h=>by go_simp;try first|omega|decide);simp only[zzQ];refine qR (.pointer (some ⟨b,off,none⟩)) ?_ (hy:=λf W' hf h=>by go_simp;try first|omega|decide);refine qR (.pointer (some ⟨b,off+1,none⟩)) ?_ (hy:=λf W' hf h=>by go_simp;try first|omega|decide);refine qR (St y0) ?_ (hy:=λf W' hf h=>by have c0:=zai h HC2.out.2.1;go_simp;try first|omega|decide);simp only[zzQ];refine qR (.slice (some ⟨b,off,none⟩) 2 cap) ?_ (hy:=λf W' hf h=>by go_simp;try first|omega|decide);refine qR (.int .i64 1) ?_ (hy:=λf W' hf h=>by go_simp;try first|omega|decide);refine qR (.pointer (some ⟨b,off+2,none⟩)) ?_ (hy:=λf W' hf h=>by go_simp;try first|omega|decide);simp only[zzQ];refine qR (.pointer (some ⟨b,off+2+1,none⟩)) ?_ (hy:=λf W' hf h=>by go_simp;try first|omega|decide);refine qR (St y1) ?_ (hy:=λf W' hf h=>by have c0:=zai h HC2.out.2.2.2;go_simp;try first|omega|decide);simp only[zzQ]
     refine zar (.int .i64 c) (by rfl) (λf W' hf h C' hC'=>by
      go_simp;refine zzM (HCM.out _ (HW.out.below (B2.out.trans (h.mono B2.out.size)))) λw' hb=>?_;exact⟨rfl,hC' _ (h.trans (hb.mono h.size))⟩) ?_
     refine qR (.bool true) ?_ (hy:=λf W' hf h=>by go_simp;try first|omega|decide);refine qR (.bool true) ?_ (hy:=λf W' hf h=>by go_simp;try first|omega|decide);simp only[zzQ];refine zck λf W5 hf h5=>?_;have B5:=hid (B2.out.trans (h5.mono B2.out.size));clear hf h5 HC2 HCM;go_wp21;go_ret;exact⟨_,rfl,(λh=>by cases h),B5.out⟩
  ·have hrb:(r !=0)=true:=by simpa using h0
   have HN:=hid h0;clear h0;go_wp21;go_ret;exact⟨r,rfl,λh=>absurd h HN.out,B2.out⟩
 ·have hrb:(r !=0)=true:=by simpa using h0
  have HN:=hid h0;clear h0;go_wp21;go_ret;exact⟨r,rfl,λh=>absurd h HN.out,B1.out⟩
theorem z2i (v:Value) (l:List (List UInt8×List UInt8)) (hl:ShS l) (w:zA) (hw:Wd w) (hv:SdT v l w):
 zC zF 67 #[v] w (ErrP w (∃D,GoS l D)):=by
 obtain⟨p,cap,rfl,hc,hx⟩:=hv.slice
 match l,hl,hx with
 |[],_,_=>
  refine(z0y p cap w).mono λe w' ⟨r,e1,_,e3⟩=>⟨r,e1,λ_=>⟨[],rfl,SdOk.nil,by simp,λt h=>by cases h⟩,e3⟩
 |[t],hl,hx=>
  obtain⟨b,off,rfl,_,d0,d1⟩:=hx 0 t rfl;have hm:=hl.2 t (yD ..);refine(z0z b off cap t.1 t.2 _ (hid λW hW=>zvy t.1 t.2 hm.1 hm.2 W hW) w (hid hw) (hid ⟨by simpa using d0,by simpa using d1⟩)).mono λe w' ⟨r,e1,e2,e3⟩=>⟨r,e1,λh=>?_,e3⟩
  exact z0d (by simp) (λi u hu=>by
   match i with
   |0=>simp at hu;subst hu;exact e2 h
   |i+1=>simp at hu) λt' u' _ _ _ _ e=>by simp at e
 |[t,u],hl,hx=>
  obtain⟨b,off,rfl,_,d0,d1⟩:=hx 0 t rfl;obtain⟨b',off',eb,_,k0,k1⟩:=hx 1 u rfl;obtain⟨rfl,rfl⟩:b=b'/\off=off':=by simpa using eb
  have hm:=hl.2 t (yD ..);have hm2:=hl.2 u (List.mem_cons_of_mem _ (yD ..));have uniq:∀{x y:List UInt8} {c d:Rat} {r s:Nat},GoT x y c r->GoT x y d s->r=s:=λh1 h2=>by
   have e:=h1.2.2.1.symm.trans h2.2.2.1;rw[<-Str.zad,<-Str.zad] at e;have:=zdo e;omega
  refine(z00 b off cap t.1 t.2 u.1 u.2 (GoE t.1 t.2) (GoE u.1 u.2) (∀c d r s,GoT t.1 t.2 c r->GoT u.1 u.2 d s->r<s) (∀c d r s,GoT t.1 t.2 c r->GoT u.1 u.2 d s->z5c ((s:Nat):Rat) ((r:Nat):Rat)=false)
   (hid λW hW=>zvy t.1 t.2 hm.1 hm.2 W hW) (hid λW hW=>zvy u.1 u.2 hm2.1 hm2.2 W hW) (hid λh1 h2=>?_) (hid λh1 h2=>?_) w (hid hw) (hid ⟨by simpa using d0,by simpa using d1,by simpa using k0,by simpa using k1⟩)).mono λe w' ⟨r,e1,e2,e3⟩=>⟨r,e1,λh=>?_,e3⟩
  ·obtain⟨c,r,hg⟩:=h1
   obtain⟨d,s,hh⟩:=h2;obtain⟨a1,a2, -⟩:=zlj (show r<10^9 by have:=hg.2.2.2.1;omega);obtain⟨b1,b2, -⟩:=zlj (show s<10^9 by have:=hh.2.2.2.1;omega);refine⟨cmpR (r:Rat) (s:Rat),λhlt c' d' r' s' hg' hh'=>?_,λW hW=>?_⟩
   ·rw[<-uniq hg hg',<-uniq hh hh']
    have hcc:=zaw (r:Rat) (s:Rat);have:(r:Rat)<(s:Rat):=by grind
    exact_mod_cast this
   ·have:=zx0 (r:Rat) (s:Rat) a1 b1 a2 b2 W hW
    rw[zhe,zhe] at this;rw[hg.2.2.1,hh.2.2.1];exact this
  ·obtain⟨c,r,hg⟩:=h1
   obtain⟨d,s,hh⟩:=h2;obtain⟨t0,t1,t2⟩:=z4q r s hg.2.2.2.2.nr hh.2.2.2.2.nr hg.2.2.2.1 hh.2.2.2.1;refine⟨t0,λhlt c' d' r' s' hg' hh'=>?_,λW hW=>?_⟩
   ·rw[<-uniq hg hg',<-uniq hh hh']
    exact t1 hlt
   ·rw[hg.2.2.1,hh.2.2.1]
    exact t2 W hW
  ·obtain⟨g1,g2,g3,g4⟩:=e2 h
   exact z0d (by simp) (λi v hv=>by
    match i with
    |0=>simp at hv;subst hv;exact g1
    |1=>simp at hv;subst hv;exact g2
    |i+2=>simp at hv) λt' u' c d r s e hg hh=>by
     obtain⟨rfl,rfl⟩:t=t'/\u=u':=by simpa using e
     exact⟨g3 c d r s hg hh,g4 c d r s hg hh⟩
theorem box2 {w y:zA} {cs ds:Array Value} {s t:TypeId} (hy:y=(w.alloc (.cells cs s)).alloc (.cells ds t)):qL w y/\y.heap[w.heap.size]? =some (.cells cs s (0,0))/\y.heap[w.heap.size+1]? =some (.cells ds t (0,0)):=by
 refine⟨by rw[hy];exact((zM _ w).alloc (zN _) _).alloc (by simp) _,by rw[hy];exact(Below.heap_alloc _ _ _ (by simp)).trans (zG w _),?_⟩;rw[hy];have:=zG (w.alloc (.cells cs s)) (.cells ds t);rw[zH] at this;exact this
theorem zu4 {w y:zA} {cs:Array Value} {t:TypeId} (hy:y=w.alloc (.cells cs t)):qL w y/\y.heap[w.heap.size]? =some (.cells cs t (0,0)):=by
 rw[hy];exact⟨(zM _ w).alloc (zN _) _,zG w _⟩
theorem zfb {W:zA} {A:Nat} {a b c d:Value} {t:TypeId} (h:W.heap[A]? =some (.cells #[a,b,c,d] t (0,0))):W.cell? ⟨A,0,none⟩=some a/\W.cell? ⟨A,1,none⟩=some b/\W.cell? ⟨A,2,none⟩=some c/\W.cell? ⟨A,3,none⟩=some d:=
 ⟨by rw[zJ h];rfl,by rw[zJ h];rfl,by rw[zJ h];rfl,by rw[zJ h];rfl⟩
theorem z4r (x y:List UInt8) (w:zA) (hw:Wd w):
 zC zF 63 #[.agg #[St x,St y]] w (BoolP w (shT x/\shT y)):=by
 obtain⟨v1,hv⟩:=zzX ((w.alloc (.cells #[St x,St y] 69)).alloc (.cells #[St x,St y] 22));obtain⟨b1,A1,A2⟩:=box2 hv
 have hs:=zmy (some ⟨w.heap.size+1,0,none⟩) 2 [x,y] (by simp) v1 (hw.below b1) (λi hi=>by
  refine⟨_,_,rfl,?_⟩;rw[zJ A2]
  match i,hi with
  |0,_|1,_=>rfl)
 have HS:=hid hs
 have HG:=hid (show(∀i,i<[x,y].length->shT ([x,y][i]?.getD []))↔shT x/\shT y from⟨λh=>⟨h 0 (by simp),h 1 (by simp)⟩,λh i hi=>by
  match i,hi with
  |0,_=>exact h.1
  |1,_=>exact h.2⟩)
 have B1:=hid b1;have HV:=hid hv.symm;clear hv b1 A1 A2 hs hw;go_enter Tryz.func63,Tryz.ntmps63;go_wp21;have h9:=HV.out;rw[show(w.alloc (.cells #[.string ⟨x.toArray⟩,.string ⟨y.toArray⟩] 69)).alloc (.cells #[.string ⟨x.toArray⟩,.string ⟨y.toArray⟩] 22)=v1 from h9];clear h9 HV;refine HS.out.mono ?_;rintro e w1 ⟨b,rfl,hb,hB⟩;have HB:=hid (B1.out.trans (hB.mono B1.out.size));have HN:=hid hb;clear hb hB HS;cases b
 ·go_wp21
  go_ret;exact BoolP.no (λh=>by have:=HN.out.2 (HG.out.2 h);simp at this) HB.out
 ·go_wp21
  go_ret;exact BoolP.yes (HG.out.1 (HN.out.1 (by trivial))) HB.out
theorem z5o (v:Value) (l:List (List UInt8×List UInt8)) (w:zA) (hw:Wd w) (hv:SdT v l w):
 zC zF 61 #[v] w (BoolP w (ShS l)):=by
 obtain⟨p,cap,rfl,hc,hx⟩:=hv.slice;by_cases h2:2<l.length
 ·have hlI:(2:Int)<(l.length:Int):=by omega
  have HN:=hid (λh=>by have:=h.1;omega:¬ShS l);clear h2 hx hv hw;go_enter Tryz.func61,Tryz.ntmps61;go_wp21;go_ret;exact BoolP.no HN.out (zM _ _)
 ·have hlI:¬(2:Int)<(l.length:Int):=by omega
  have at_:∀i,i<l.length->∃t,l[i]? =some t:=λi hi=>⟨_,List.getElem?_eq_getElem hi⟩;have hg:∀(i:Nat) (t:List UInt8×List UInt8),l[i]? =some t->l[i]?.getD ([],[])=t:=λi t h=>by rw[h];rfl
  have hr:RowTt p l.length (λi=>(l[i]?.getD ([],[])).1) (λi=>(l[i]?.getD ([],[])).2) w:=λi hi=>by
   obtain⟨t,ht⟩:=at_ i hi;obtain⟨b,off,e,_,c0,c1⟩:=hx i t ht;simp only[hg i t ht];exact⟨b,off,e,c0,c1⟩
  have hcn:=z2f p cap l.length _ w (hid (z3i p cap l.length _ _ (by omega) (λi=>shT (l[i]?.getD ([],[])).1/\shT (l[i]?.getD ([],[])).2) w (hid λi hi W hW=>z4r _ _ W (hw.below hW)) (hid hr)));have HC:=hid hcn
  have HG:=hid (show(∀i,i<l.length->shT (l[i]?.getD ([],[])).1/\shT (l[i]?.getD ([],[])).2)↔ShS l from⟨λh=>⟨by omega,λt ht=>by
   obtain⟨i,hi⟩:=List.mem_iff_getElem?.1 ht;have:=h i (List.getElem?_eq_some_iff.1 hi).1;rw[hg i t hi] at this;exact this⟩,λh i hi=>by
   obtain⟨t,ht⟩:=at_ i hi;rw[hg i t ht];exact h.2 t (List.mem_of_getElem? ht)⟩)
  clear hcn hr hx hv hw h2 at_ hg;go_enter Tryz.func61,Tryz.ntmps61;go_wp21;refine HC.out.mono ?_;rintro e w1 ⟨b,rfl,hb,hB⟩;have HB:=hid hB;have HN:=hid hb;clear hb hB HC;cases b
  ·go_wp21
   go_ret;exact BoolP.yes (HG.out.1 (HN.out.1 (by trivial))) HB.out
  ·go_wp21
   go_ret;exact BoolP.no (λh=>by have:=HN.out.2 (HG.out.2 h);simp at this) HB.out
theorem z3o (p:Option Addr) (cap n:Nat) (D:Nat->Value) (L:Nat->List (List UInt8×List UInt8)) (hn:n<=5000) (w:zA) (hw:Wd w) (hp:RowSl p n D w) (hD:∀i,i<n->SdT (D i) (L i) w):
 zC zF 21 #[.slice p n cap] w (YesP w (∀i,i<n->ShS (L i))):=by
 have HC:=hid (z3h p cap n _ w (hid (z4h p cap n D (λi hi=>(hD i hi).any) hn (λi=>ShS (L i)) w (hid λi hi W hW=>z5o (D i) (L i) W (hw.below hW) ((hD i hi).below hW)) (hid hp))));clear hw hp hD;go_enter Tryz.func21,Tryz.ntmps21;go_wp21;refine HC.out.mono ?_;rintro e w1 ⟨b,rfl,hb,hB⟩;have HN:=hid hb;clear hb;cases b
 ·go_wp21
  go_ret;exact YesP.yes (HN.out.1 (by trivial)) hB
 ·go_wp21
  go_ret;exact YesP.no (λh=>by have:=HN.out.2 h;simp at this) hB
theorem zvo (a b c:List UInt8) (p:Option Addr) (n k:Nat) (w:zA):
 qJ 65 #[.agg #[St a,St b,St c,.slice p n k]] w (.agg #[St a,St b,St c]):=by
 go_enter Tryz.func65,Tryz.ntmps65;go_wp21;exact bodyPost_ret (v:=.agg #[St a,St b,St c]) (by simp[results,Tryz.results65,go_sem]) rfl ⟨rfl,((zM _ w).alloc (zN _) _).alloc (by simp) _⟩
theorem z0f (a b c:List UInt8)
 (C0:Hid (qK 25 #[St a] (.int .i64 0)))
 (C1:Hid (qK 25 #[St b] (.int .i64 0)))
 (C2:Hid (qK 25 #[St c] (.int .i64 0)))
 (w:zA) (HW:Hid (Wd w)):
 qJ 64 #[.agg #[St a,St b,St c]] w (.int .i64 0):=by
 obtain⟨v1,hv⟩:=zzX (w.alloc (.cells #[St a,St b,St c] 45));have a1:qL w v1:=by rw[hv];exact(zM _ w).alloc (zN _) _
 have A1:v1.heap[w.heap.size]? =some (.cells #[St a,St b,St c] 45 (0,0)):=by rw[hv];exact zG w _
 have k0:v1.cell? ⟨w.heap.size,0,none⟩=some (St a):=by rw[zJ A1];rfl
 have HV:=hid hv.symm;have E1:=hid a1;have P1:=hid A1;rw[hv] at k0;clear hv a1 A1;go_enter Tryz.func64,Tryz.ntmps64;go_wp21;have h9:=HV.out;rw[show w.alloc (.cells #[.string ⟨a.toArray⟩,.string ⟨b.toArray⟩,.string ⟨c.toArray⟩] 45)=v1 from h9];clear h9 HV k0;refine zzM (C0.out v1 (HW.out.below E1.out)) λr1 hb=>?_;have E2:=hid (E1.out.trans (hb.mono E1.out.size));have P2:=hid (zac hb _ _ _ _ P1.out);clear hb E1 P1;have k1:r1.cell? ⟨w.heap.size,1,none⟩=some (St b):=by rw[zJ P2.out];rfl
 go_wp21;clear k1;refine zzM (C1.out r1 (HW.out.below E2.out)) λr2 hb=>?_;have E3:=hid (E2.out.trans (hb.mono E2.out.size));have P3:=hid (zac hb _ _ _ _ P2.out);clear hb E2 P2;have k2:r2.cell? ⟨w.heap.size,2,none⟩=some (St c):=by rw[zJ P3.out];rfl
 go_wp21;clear k2;refine zzM (C2.out r2 (HW.out.below E3.out)) λr3 hb=>?_;have E4:=hid (E3.out.trans (hb.mono E3.out.size));clear hb E3;go_wp21;go_ret;exact⟨rfl,E4.out⟩
theorem z0g (a b c:List UInt8) (w:zA):
 qJ 66 #[.agg #[St a,St b,St c]] w (.bool ((a==[48])&&(b==[48])&&(c==[48]))):=by
 obtain⟨s,hs⟩:=zzX (⟨a.toArray⟩:ByteArray);obtain⟨t,ht⟩:=zzX (⟨b.toArray⟩:ByteArray);obtain⟨u,hu⟩:=zzX (⟨c.toArray⟩:ByteArray);have es:s.toList=a:=by rw[hs,ByteArray.toList_eq]
 have et:t.toList=b:=by rw[ht,ByteArray.toList_eq]
 have eu:u.toList=c:=by rw[hu,ByteArray.toList_eq]
 rw[show St a=.string s by rw[hs],show St b=.string t by rw[ht],show St c=.string u by rw[hu],<-es,<-et,<-eu];clear es et eu hs ht hu;obtain⟨v1,hv⟩:=zzX (w.alloc (.cells #[.string s,.string t,.string u] 45));have a1:qL w v1:=by rw[hv];exact(zM _ w).alloc (zN _) _
 have A1:v1.heap[w.heap.size]? =some (.cells #[.string s,.string t,.string u] 45 (0,0)):=by rw[hv];exact zG w _
 have k0:v1.cell? ⟨w.heap.size,0,none⟩=some (.string s):=by rw[zJ A1];rfl
 have k1:v1.cell? ⟨w.heap.size,1,none⟩=some (.string t):=by rw[zJ A1];rfl
 have k2:v1.cell? ⟨w.heap.size,2,none⟩=some (.string u):=by rw[zJ A1];rfl
 have HB:=hid a1;have HV:=hid hv.symm;rw[hv] at k0 k1 k2;clear hv a1 A1;cases h0:(s.toList==[48])
 ·go_enter Tryz.func66,Tryz.ntmps66
  go_wp21;go_ret;exact⟨rfl,by rw[HV.out];exact HB.out⟩
 ·cases h1:(t.toList==[48])
  ·go_enter Tryz.func66,Tryz.ntmps66
   go_wp21;go_ret;exact⟨rfl,by rw[HV.out];exact HB.out⟩
  ·go_enter Tryz.func66,Tryz.ntmps66
   go_wp21;go_ret;exact⟨rfl,by rw[HV.out];exact HB.out⟩
theorem zzp (a b c:List UInt8) (p:Option Addr) (n k:Nat) (G:Prop)
 (CK:Hid (qK 64 #[.agg #[St a,St b,St c]] (.int .i64 0)))
 (w:zA) (HW:Hid (Wd w))
 (SC:Hid (∀W:zA,qL w W->zC zF 67 #[.slice p n k] W (ErrP W G))):
 zC zF 22 #[.agg #[St a,St b,St c,.slice p n k]] w (ErrP w (((a==[48])&&(b==[48])&&(c==[48]))=false/\G)):=by
 obtain⟨v1,hv⟩:=zzX (w.alloc (.cells #[St a,St b,St c,.slice p n k] 26));obtain⟨b1,A1⟩:=zu4 hv;obtain⟨k0,k1,k2,k3⟩:=zfb A1;have B1:=hid b1;have P1:=hid A1;have HV:=hid hv.symm;rw[hv] at k0 k1 k2 k3;clear hv b1 A1;go_enter Tryz.func22,Tryz.ntmps22;go_wp21;have h9:=HV.out;rw[show w.alloc (.cells #[.string ⟨a.toArray⟩,.string ⟨b.toArray⟩,.string ⟨c.toArray⟩,.slice p n k] 26)=v1 from h9];clear h9 HV k0 k1 k2 k3;refine zzM (zvo a b c p n k v1) λw1 hb=>?_;have B2:=hid (B1.out.trans (hb.mono B1.out.size));have P2:=hid (zac hb _ _ _ _ P1.out);clear hb B1 P1;go_wp21;refine zzM (CK.out w1 (HW.out.below B2.out)) λw2 hb=>?_;have B3:=hid (B2.out.trans (hb.mono B2.out.size));have P3:=hid (zac hb _ _ _ _ P2.out);clear hb B2 P2;obtain⟨k0,k1,k2,k3⟩:=zfb P3.out;go_wp21;clear k0 k1 k2 k3;refine zzM (zvo a b c p n k w2) λw3 hb=>?_;have B4:=hid (B3.out.trans (hb.mono B3.out.size));have P4:=hid (zac hb _ _ _ _ P3.out);clear hb B3 P3;go_wp21;refine zzM (z0g a b c w3) λw4 hb=>?_;have hB5:=B4.out.trans (hb.mono B4.out.size);have B5:=hid hB5;have P5:=hid (zac hb _ _ _ _ P4.out);have HS:=hid (SC.out w4 hB5);clear hb hB5 B4 P4 SC;obtain⟨k0,k1,k2,k3⟩:=zfb P5.out;generalize ((a==[48])&&(b==[48])&&(c==[48]))=zz at*
 cases zz
 ·go_wp21
  refine HS.out.mono ?_;rintro e w5 ⟨r,rfl,hr,hb⟩;have B6:=hid (B5.out.trans (hb.mono B5.out.size));have HR:=hid hr;clear hb hr;go_wp21;go_ret;exact⟨r,rfl,λh=>⟨by first|rfl|trivial,HR.out h⟩,B6.out⟩
 ·clear HS
  go_wp21;go_ret;exact⟨_,rfl,(λh=>by cases h),B5.out⟩
structure FinH (a b c:List UInt8) (l:List (List UInt8×List UInt8)) (A B C:Rat) (D:List (Rat×Nat)):Prop where
 a:a=numS A
 b:b=numS B
 c:c=numS C
 sa:sz A 8
 sb:sz B 8
 sc:sz C 8
 nz:A≠0\/B≠0\/C≠0
 d:GoS l D
theorem z01 (a b c:List UInt8) (ha:shT a) (hb:shT b) (hc:shT c) (v:Value) (l:List (List UInt8×List UInt8)) (hl:ShS l) (w:zA) (hw:Wd w) (hv:SdT v l w):
 zC zF 22 #[.agg #[St a,St b,St c,v]] w (ErrP w (∃A B C D,FinH a b c l A B C D)):=by
 obtain⟨p,n,k,rfl⟩:=hv.any;obtain⟨la,A,rfl,oa⟩:=ha;obtain⟨lb,B,rfl,ob⟩:=hb;obtain⟨lc,C,rfl,oc⟩:=hc;refine(zzp _ _ _ p n k (∃D,GoS l D) (hid λW hW=>z0f _ _ _ (hid λV hV=>zft A oa V hV) (hid λV hV=>zft B ob V hV) (hid λV hV=>zft C oc V hV) W (hid hW)) w (hid hw) (hid λW hW=>z2i _ l hl W (hw.below hW) (hv.below hW))).mono λe w' ⟨r,e1,e2,e3⟩=>⟨r,e1,λh=>?_,e3⟩;obtain⟨hz,D,hD⟩:=e2 h;refine⟨A,B,C,D,rfl,rfl,rfl,zto (by omega) la,zto (by omega) lb,zto (by omega) lc,?_,hD⟩;have z:∀q:Rat,q=0->(numS q==[48])=true:=λq h=>by rw[h,zie];rfl
 refine Classical.byContradiction λhn=>?_;rw[z A (Classical.byContradiction λh=>hn (.inl h)),z B (Classical.byContradiction λh=>hn (.inr (.inl h))),z C (Classical.byContradiction λh=>hn (.inr (.inr h)))] at hz;cases hz
theorem z2j (a b c:List UInt8) (p:Option Addr) (n k:Nat) (S F G:Prop) (w:zA)
 (SH:Hid (∀(W:zA) (A:Nat),qL w W->W.heap[A]? =some (.cells #[St a,St b,St c] 22 (0,0))->zC zF 6 #[.slice (some ⟨A,0,none⟩) 3 3] W (YesI W S)))
 (FW:Hid (∀(W:zA) (A:Nat),qL w W->W.heap[A]? =some (.cells #[.slice p n k] 24 (0,0))->zC zF 21 #[.slice (some ⟨A,0,none⟩) 1 1] W (YesI W F)))
 (CK:Hid (S->F->∀W:zA,qL w W->zC zF 22 #[.agg #[St a,St b,St c,.slice p n k]] W (ErrP W G))):
 zC zF 20 #[.agg #[St a,St b,St c,.slice p n k]] w (zzx w G):=by
 obtain⟨v1,hv⟩:=zzX ((w.alloc (.cells #[St a,St b,St c,.slice p n k] 26)).alloc (.cells #[St a,St b,St c] 22));obtain⟨b1,A1,A2⟩:=box2 hv;have HS:=hid (SH.out v1 _ b1 A2);have B1:=hid b1;have P1:=hid A1;have HV:=hid hv.symm;clear hv b1 A1 A2 SH;go_enter Tryz.func20,Tryz.ntmps20;go_wp21;have h9:=HV.out;rw[show(w.alloc (.cells #[.string ⟨a.toArray⟩,.string ⟨b.toArray⟩,.string ⟨c.toArray⟩,.slice p n k] 26)).alloc (.cells #[.string ⟨a.toArray⟩,.string ⟨b.toArray⟩,.string ⟨c.toArray⟩] 22)=v1 from h9];clear h9 HV;refine HS.out.mono ?_;rintro e w1 ⟨s,rfl,hs,hb⟩;have B2:=hid (B1.out.trans (hb.mono B1.out.size));have P2:=hid (zac hb _ _ _ _ P1.out);have HSS:=hid hs;clear hb B1 P1 HS hs;cases s
 ·clear FW CK
  go_wp21;go_ret;exact⟨true,rfl,(λh=>by cases h),B2.out⟩
 ·have HSP:=hid (HSS.out rfl)
  obtain⟨k0,k1,k2,k3⟩:=zfb P2.out;obtain⟨v2,hv2⟩:=zzX (w1.alloc (.cells #[.slice p n k] 24));have a2:qL w1 v2:=by rw[hv2];exact(zM _ w1).alloc (zN _) _
  have A2:v2.heap[w1.heap.size]? =some (.cells #[.slice p n k] 24 (0,0)):=by rw[hv2];exact zG w1 _
  have hB3:=B2.out.trans (a2.mono B2.out.size);have B3:=hid hB3;have P3:=hid (zac a2 _ _ _ _ P2.out);have HF:=hid (FW.out v2 _ hB3 A2);have HV2:=hid hv2.symm;clear hv2 a2 A2 hB3 B2 P2 FW;go_wp21;rw[HV2.out];clear HV2 k0 k1 k2 k3;refine HF.out.mono ?_;rintro e w2 ⟨s,rfl,hs,hb⟩;have hB4:=B3.out.trans (hb.mono B3.out.size);have B4:=hid hB4;have P4:=hid (zac hb _ _ _ _ P3.out);have HFF:=hid hs;clear hb B3 P3 HF hs hB4;cases s
  ·clear CK
   go_wp21;go_ret;exact⟨true,rfl,(λh=>by cases h),B4.out⟩
  ·have HCK:=hid (CK.out HSP.out (HFF.out rfl) w2 B4.out)
   obtain⟨k0,k1,k2,k3⟩:=zfb P4.out;clear CK;go_wp21;clear k0 k1 k2 k3;refine HCK.out.mono ?_;rintro e w3 ⟨r,rfl,hr,hb⟩;have B5:=hid (B4.out.trans (hb.mono B4.out.size));have HR:=hid hr;clear hb hr;by_cases h0:r=0
   ·subst h0
    have HG:=hid (HR.out rfl);go_wp21;go_ret;exact⟨false,rfl,λ_=>HG.out,B5.out⟩
   ·have hrb:(r !=0)=true:=by simpa using h0
    clear h0;go_wp21;go_ret;exact⟨true,rfl,(λh=>by cases h),B5.out⟩
theorem z4s (a b c:List UInt8) (v:Value) (l:List (List UInt8×List UInt8)) (w:zA) (hw:Wd w) (hv:SdT v l w):
 zC zF 20 #[.agg #[St a,St b,St c,v]] w (zzx w (∃A B C D,FinH a b c l A B C D)):=by
 obtain⟨p,n,k,rfl⟩:=hv.any;refine z2j a b c p n k (shT a/\shT b/\shT c) (ShS l) _ w (hid λW A hW hA=>?_) (hid λW A hW hA=>?_) (hid λhs hf W hW=>z01 a b c hs.1 hs.2.1 hs.2.2 _ l hf W (hw.below hW) (hv.below hW))
 ·have:=zmy (some ⟨A,0,none⟩) 3 [a,b,c] (by simp) W (hw.below hW) (λi hi=>by
   refine⟨_,_,rfl,?_⟩;rw[zJ hA]
   match i,hi with
   |0,_|1,_|2,_=>rfl)
  refine this.mono λe w' ⟨t,h1,h2,h3⟩=>⟨t,h1,λh=>?_,h3⟩;have g:=h2.1 h;exact⟨g 0 (by simp),g 1 (by simp),g 2 (by simp)⟩
 ·refine(z3o (some ⟨A,0,none⟩) 1 1 (λ_=>.slice p n k) (λ_=>l) (by omega) W (hw.below hW) (λi hi=>⟨A,0,rfl,?_⟩) (λ_ _=>hv.below hW)).mono λe w' ⟨t,h1,h2,h3⟩=>⟨t,h1,λh=>h2.1 h 0 (by omega),h3⟩
  obtain rfl:i=0:=by omega
  rw[zJ hA];rfl
theorem zt3 (p:Option Addr) (cap n:Nat) (X Y Z:Nat->List UInt8) (D:Nat->Value) (L:Nat->List (List UInt8×List UInt8)) (hn:n<=5000) (w:zA) (hw:Wd w) (hA:RowHf p n X Y Z D w) (hD:∀i,i<n->SdT (D i) (L i) w):
 zC zF 5 #[.slice p n cap] w (YesI w (∀i,i<n->∃A B C D,FinH (X i) (Y i) (Z i) (L i) A B C D)):=by
 have HC:=hid (z3k p cap n _ w (hid (z4i p cap n X Y Z D (λi hi=>(hD i hi).any) hn (λi=>∃A B C D,FinH (X i) (Y i) (Z i) (L i) A B C D) w (hid λi hi W hW=>z4s _ _ _ _ _ W (hw.below hW) ((hD i hi).below hW)) (hid hA))));clear hw hA hD;go_enter Tryz.func5,Tryz.ntmps5;go_wp21;refine HC.out.mono ?_;rintro e w1 ⟨t,rfl,hb,hB⟩;have HN:=hid hb;clear hb;cases t
 ·go_wp21
  go_ret;exact⟨true,rfl,λ_=>HN.out (by trivial),hB⟩
 ·go_wp21
  go_ret;exact⟨false,rfl,(λh=>by cases h),hB⟩
theorem z7p (A0:Nat) (a b c:List UInt8) (v:Value) (l:List (List UInt8×List UInt8)) (w:zA) (hw:Wd w) (hA:w.heap[A0]? =some (.cells #[St a,St b,St c,v] 26 (0,0))) (hv:SdT v l w):
 zC zF 5 #[.slice (some ⟨A0,0,none⟩) 1 1] w (YesI w (∃A B C D,FinH a b c l A B C D)):=
 (zt3 (some ⟨A0,0,none⟩) 1 1 (λ_=>a) (λ_=>b) (λ_=>c) (λ_=>v) (λ_=>l) (by omega) w hw (λi hi=>by
   obtain rfl:i=0:=by omega
   obtain⟨k0,k1,k2,k3⟩:=zfb hA;exact⟨A0,0,rfl,k0,k1,k2,k3⟩) (λ_ _=>hv)).mono λe w' ⟨b,h1,h2,h3⟩=>⟨b,h1,λh=>h2 h 0 (by omega),h3⟩
theorem z1k (p0 p1 p2:Option Addr) (n0 n1 n2 k0 k1 k2:Nat) (F G0 G1 G2:Prop) (w:zA)
 (FW:Hid (∀(W:zA) (A:Nat),qL w W->W.heap[A]? =some (.cells #[.slice p0 n0 k0,.slice p1 n1 k1,.slice p2 n2 k2] 24 (0,0))->zC zF 21 #[.slice (some ⟨A,0,none⟩) 3 3] W (YesI W F)))
 (C0:Hid (F->∀W:zA,qL w W->zC zF 26 #[.slice p0 n0 k0] W (ErrP W G0)))
 (C1:Hid (F->∀W:zA,qL w W->zC zF 26 #[.slice p1 n1 k1] W (ErrP W G1)))
 (C2:Hid (F->∀W:zA,qL w W->zC zF 26 #[.slice p2 n2 k2] W (ErrP W G2))):
 zC zF 7 #[.agg #[.slice p0 n0 k0,.slice p1 n1 k1,.slice p2 n2 k2]] w (YesI w (G0/\G1/\G2)):=by
 obtain⟨v1,hv⟩:=zzX ((w.alloc (.cells #[.slice p0 n0 k0,.slice p1 n1 k1,.slice p2 n2 k2] 28)).alloc (.cells #[.slice p0 n0 k0,.slice p1 n1 k1,.slice p2 n2 k2] 24));obtain⟨b1,A1,A2⟩:=box2 hv;have HS:=hid (FW.out v1 _ b1 A2);have B1:=hid b1;have P1:=hid A1;have HV:=hid hv.symm;clear hv b1 A1 A2 FW;go_enter Tryz.func7,Tryz.ntmps7;go_wp21;have h9:=HV.out;rw[h9];clear h9 HV;refine HS.out.mono ?_;rintro e w1 ⟨s,rfl,hs,hb⟩;have B2:=hid (B1.out.trans (hb.mono B1.out.size));have P2:=hid (zac hb _ _ _ _ P1.out);have HSS:=hid hs;clear hb B1 P1 HS hs;cases s
 ·clear C0 C1 C2
  go_wp21;go_ret;exact⟨false,rfl,(λh=>by cases h),B2.out⟩
 ·have HSP:=hid (HSS.out rfl)
  have HC:=hid (C0.out HSP.out w1 B2.out);clear C0;obtain⟨c0,c1,c2⟩:w1.cell? ⟨w.heap.size,0,none⟩=some (.slice p0 n0 k0)/\w1.cell? ⟨w.heap.size,1,none⟩=some (.slice p1 n1 k1)/\w1.cell? ⟨w.heap.size,2,none⟩=some (.slice p2 n2 k2):=⟨by rw[zJ P2.out];rfl,by rw[zJ P2.out];rfl,by rw[zJ P2.out];rfl⟩;go_wp21;clear c0 c1 c2;refine HC.out.mono ?_;rintro e w2 ⟨r,rfl,hr,hb⟩;have B3:=hid (B2.out.trans (hb.mono B2.out.size));have P3:=hid (zac hb _ _ _ _ P2.out);have HR:=hid hr;clear hb hr HC B2 P2;by_cases h0:r=0
  ·subst h0
   have HG0:=hid (HR.out rfl);have HC:=hid (C1.out HSP.out w2 B3.out);clear C1 HR;obtain⟨c0,c1,c2⟩:w2.cell? ⟨w.heap.size,0,none⟩=some (.slice p0 n0 k0)/\w2.cell? ⟨w.heap.size,1,none⟩=some (.slice p1 n1 k1)/\w2.cell? ⟨w.heap.size,2,none⟩=some (.slice p2 n2 k2):=⟨by rw[zJ P3.out];rfl,by rw[zJ P3.out];rfl,by rw[zJ P3.out];rfl⟩;go_wp21;clear c0 c1 c2;refine HC.out.mono ?_;rintro e w3 ⟨r,rfl,hr,hb⟩;have B4:=hid (B3.out.trans (hb.mono B3.out.size));have P4:=hid (zac hb _ _ _ _ P3.out);have HR:=hid hr;clear hb hr HC B3 P3;by_cases h0:r=0
   ·subst h0
    have HG1:=hid (HR.out rfl);have HC:=hid (C2.out HSP.out w3 B4.out);clear C2 HR;obtain⟨c0,c1,c2⟩:w3.cell? ⟨w.heap.size,0,none⟩=some (.slice p0 n0 k0)/\w3.cell? ⟨w.heap.size,1,none⟩=some (.slice p1 n1 k1)/\w3.cell? ⟨w.heap.size,2,none⟩=some (.slice p2 n2 k2):=⟨by rw[zJ P4.out];rfl,by rw[zJ P4.out];rfl,by rw[zJ P4.out];rfl⟩;go_wp21;clear c0 c1 c2;refine HC.out.mono ?_;rintro e w4 ⟨r,rfl,hr,hb⟩;have B5:=hid (B4.out.trans (hb.mono B4.out.size));have HR:=hid hr;clear hb hr HC B4 P4;by_cases h0:r=0
    ·subst h0
     have HG2:=hid (HR.out rfl);go_wp21;go_ret;exact⟨true,rfl,λ_=>⟨HG0.out,HG1.out,HG2.out⟩,B5.out⟩
    ·have hrb:(r==0)=false:=by simpa using h0
     clear h0;go_wp21;go_ret;exact⟨false,rfl,(λh=>by cases h),B5.out⟩
   ·have hrb:(r==0)=false:=by simpa using h0
    clear h0 C2;go_wp21;go_ret;exact⟨false,rfl,(λh=>by cases h),B4.out⟩
  ·have hrb:(r==0)=false:=by simpa using h0
   clear h0 C1 C2;go_wp21;go_ret;exact⟨false,rfl,(λh=>by cases h),B3.out⟩
theorem z3p (u0 u1 u2:Value) (l0 l1 l2:List (List UInt8×List UInt8)) (w:zA) (hw:Hw w) (s0:SdT u0 l0 w) (s1:SdT u1 l1 w) (s2:SdT u2 l2 w):
 zC zF 7 #[.agg #[u0,u1,u2]] w (YesI w ((∃D,GoS l0 D)/\(∃D,GoS l1 D)/\∃D,GoS l2 D)):=by
 obtain⟨p0,n0,k0,rfl⟩:=s0.any;obtain⟨p1,n1,k1,rfl⟩:=s1.any;obtain⟨p2,n2,k2,rfl⟩:=s2.any;refine z1k p0 p1 p2 n0 n1 n2 k0 k1 k2 (ShS l0/\ShS l1/\ShS l2) _ _ _ w (hid λW A hW hA=>?_) (hid λhF W hW=>zxy _ l0 hF.1 W (hw.below hW).wd (hw.below hW).pw (s0.below hW)) (hid λhF W hW=>zxy _ l1 hF.2.1 W (hw.below hW).wd (hw.below hW).pw (s1.below hW)) (hid λhF W hW=>zxy _ l2 hF.2.2 W (hw.below hW).wd (hw.below hW).pw (s2.below hW));refine(z3o (some ⟨A,0,none⟩) 3 3 (λi=>if i=0 then .slice p0 n0 k0 else if i=1 then .slice p1 n1 k1 else .slice p2 n2 k2) (λi=>if i=0 then l0 else if i=1 then l1 else l2) (by omega) W (hw.below hW).wd (λi hi=>⟨A,0,rfl,?_⟩) (λi hi=>?_)).mono λe w' ⟨t,e1,e2,e3⟩=>⟨t,e1,λh=>⟨e2.1 h 0 (by omega),e2.1 h 1 (by omega),e2.1 h 2 (by omega)⟩,e3⟩
 ·rw[zJ hA]
  match i,hi with
  |0,_|1,_|2,_=>rfl
 ·match i,hi with
  |0,_=>exact s0.below hW
  |1,_=>exact s1.below hW
  |2,_=>exact s2.below hW
end
section
open Go.RowKit Go.Shelf Lib Str Limb
attribute [local go_sem] Oper.semAt_some
theorem zlf (a b c:List UInt8) (w:zA):
 qJ 193 #[.agg #[St a,St b,St c]] w (.agg #[St a,St b,St c]):=by
 go_enter Tryz.func193,Tryz.ntmps193;go_wp21;exact bodyPost_ret (v:=.agg #[St a,St b,St c]) (by simp[results,Tryz.results193,go_sem]) rfl ⟨rfl,((zM _ w).alloc (zN _) _).alloc (by simp) _⟩
theorem zon (a b c d e f:List UInt8) (w:zA)
 (C0:Hid (∀W:zA,qL w W->qJ 52 #[.agg #[St a,St b,St c]] W (.int .i64 0)))
 (C1:Hid (∀W:zA,qL w W->qJ 52 #[.agg #[St d,St e,St f]] W (.int .i64 0))):
 qJ 107 #[.agg #[St a,St b,St c],.agg #[St d,St e,St f]] w (.int .i64 0):=by
 obtain⟨v1,hv⟩:=zzX ((w.alloc (.cells #[St a,St b,St c] 45)).alloc (.cells #[St d,St e,St f] 45));have b1:qL w v1:=by rw[hv];exact((zM _ w).alloc (zN _) _).alloc (by simp) _
 have A2:v1.heap[w.heap.size+1]? =some (.cells #[St d,St e,St f] 45 (0,0)):=by
  rw[hv];have:=zG (w.alloc (.cells #[St a,St b,St c] 45)) (.cells #[St d,St e,St f] 45);rw[zH] at this;exact this
 have B1:=hid b1;have P1:=hid A2;have HV:=hid hv.symm;have HC:=hid (C0.out v1 b1);clear hv b1 A2 C0;go_enter Tryz.func107,Tryz.ntmps107;go_wp21;have h9:=HV.out;rw[show(w.alloc (.cells #[.string ⟨a.toArray⟩,.string ⟨b.toArray⟩,.string ⟨c.toArray⟩] 45)).alloc (.cells #[.string ⟨d.toArray⟩,.string ⟨e.toArray⟩,.string ⟨f.toArray⟩] 45)=v1 from h9];clear h9 HV;refine zzM HC.out λr1 hb=>?_;have hbb:=B1.out.trans (hb.mono B1.out.size);have B2:=hid hbb;have hp:=zac hb _ _ _ _ P1.out;have k0:r1.cell? ⟨w.heap.size+1,0,none⟩=some (St d):=by rw[zJ hp];rfl
 have k1:r1.cell? ⟨w.heap.size+1,1,none⟩=some (St e):=by rw[zJ hp];rfl
 have k2:r1.cell? ⟨w.heap.size+1,2,none⟩=some (St f):=by rw[zJ hp];rfl
 have HS:=hid (C1.out r1 hbb);clear hb hbb hp B1 P1 HC C1;go_wp21;refine zzM HS.out λr2 hb=>?_;have B3:=hid (B2.out.trans (hb.mono B2.out.size));clear hb;go_wp21;go_ret;exact⟨rfl,B3.out⟩
structure WtS (w:zA) (a0 a1 a2 b0 b1 b2 o0 o1 o2:List UInt8) (Y:Nat) (W:zA):Prop where
 bel:qL w W
 h0:W.heap[w.heap.size]? =some (.cells #[St a0,St a1,St a2] 169 (0,0))
 h1:W.heap[w.heap.size+1]? =some (.cells #[St b0,St b1,St b2] 169 (0,0))
 h2:W.heap[w.heap.size+1+1]? =some (.cells #[St [],St [],St []] 45 (0,0))
 h3:W.heap[w.heap.size+1+1+1]? =some (.cells #[St o0,St o1,St o2] 170 (0,0))
 lo:w.heap.size+1+1+1<Y
 h4:W.heap[Y]? =some (.cells #[St b0,St b1,St b2] 170 (0,0))
section
variable {w W W':zA} {a0 a1 a2 b0 b1 b2 o0 o1 o2:List UInt8} {Y:Nat}
theorem WtS.next (h:WtS w a0 a1 a2 b0 b1 b2 o0 o1 o2 Y W) (hb:qL W W'):WtS w a0 a1 a2 b0 b1 b2 o0 o1 o2 Y W':=
 have hc:=zac hb
 ⟨h.bel.trans (hb.mono h.bel.size),hc _ _ _ _ h.h0,hc _ _ _ _ h.h1,hc _ _ _ _ h.h2,hc _ _ _ _ h.h3,h.lo,hc _ _ _ _ h.h4⟩
theorem zah {W:zA} {A:Nat} {x y z:Value} {t:TypeId} (h:W.heap[A]? =some (.cells #[x,y,z] t (0,0))):W.cell? ⟨A,0,none⟩=some x/\W.cell? ⟨A,1,none⟩=some y/\W.cell? ⟨A,2,none⟩=some z/\W.frozen? ⟨A,0,none⟩=false/\W.frozen? ⟨A,1,none⟩=false/\W.frozen? ⟨A,2,none⟩=false:=
 ⟨by rw[zJ h];rfl,by rw[zJ h];rfl,by rw[zJ h];rfl,Go.Joins.unfrozen_of_block h 0,Go.Joins.unfrozen_of_block h 1,Go.Joins.unfrozen_of_block h 2⟩
theorem WtS.ne (h:WtS w a0 a1 a2 b0 b1 b2 o0 o1 o2 Y W) (i:Nat) (u:Value):qL w (W.setCell ⟨w.heap.size+1+1+1,i,none⟩ u)/\(∀b,b≠w.heap.size+1+1+1->(W.setCell ⟨w.heap.size+1+1+1,i,none⟩ u).heap[b]? =W.heap[b]?):=
 ⟨h.bel.setCell (p:=⟨w.heap.size+1+1+1,i,none⟩) (by show _<=w.heap.size+1+1+1;omega) _,λb hb=>yE _ _ _ _ (by exact hb)⟩
theorem WtS.put0 (h:WtS w a0 a1 a2 b0 b1 b2 o0 o1 o2 Y W) (u:List UInt8):WtS w a0 a1 a2 b0 b1 b2 u o1 o2 Y (W.setCell ⟨w.heap.size+1+1+1,0,none⟩ (St u)):=by
 obtain⟨k1,k2⟩:=h.ne 0 (St u);have:=h.lo;exact⟨k1,(k2 _ (by omega)).trans h.h0,(k2 _ (by omega)).trans h.h1,(k2 _ (by omega)).trans h.h2,zK (i:=0) h.h3 (St u),h.lo,(k2 _ (by omega)).trans h.h4⟩
theorem WtS.put1 (h:WtS w a0 a1 a2 b0 b1 b2 o0 o1 o2 Y W) (u:List UInt8):WtS w a0 a1 a2 b0 b1 b2 o0 u o2 Y (W.setCell ⟨w.heap.size+1+1+1,1,none⟩ (St u)):=by
 obtain⟨k1,k2⟩:=h.ne 1 (St u);have:=h.lo;exact⟨k1,(k2 _ (by omega)).trans h.h0,(k2 _ (by omega)).trans h.h1,(k2 _ (by omega)).trans h.h2,zK (i:=1) h.h3 (St u),h.lo,(k2 _ (by omega)).trans h.h4⟩
theorem WtS.put2 (h:WtS w a0 a1 a2 b0 b1 b2 o0 o1 o2 Y W) (u:List UInt8):WtS w a0 a1 a2 b0 b1 b2 o0 o1 u Y (W.setCell ⟨w.heap.size+1+1+1,2,none⟩ (St u)):=by
 obtain⟨k1,k2⟩:=h.ne 2 (St u);have:=h.lo;exact⟨k1,(k2 _ (by omega)).trans h.h0,(k2 _ (by omega)).trans h.h1,(k2 _ (by omega)).trans h.h2,zK (i:=2) h.h3 (St u),h.lo,(k2 _ (by omega)).trans h.h4⟩
end
theorem zoo (a0 a1 a2 b0 b1 b2 c0 c1 c2:List UInt8) (g:FuncId) (eg:∀args w,(callFunc g args).run zF w=.ok (.enter g args) w) (w:zA)
 (F0:Hid (∀W:zA,qL w W->zC zF g #[St a0,St b0] W λe w'=>e=.returned (.tuple #[St c0,.int .i64 0])/\zB W.heap.size W w'))
 (F1:Hid (∀W:zA,qL w W->zC zF g #[St a1,St b1] W λe w'=>e=.returned (.tuple #[St c1,.int .i64 0])/\zB W.heap.size W w'))
 (F2:Hid (∀W:zA,qL w W->zC zF g #[St a2,St b2] W λe w'=>e=.returned (.tuple #[St c2,.int .i64 0])/\zB W.heap.size W w')):
 qJ 137 #[.agg #[St a0,St a1,St a2],.agg #[St b0,St b1,St b2],.func (.func g) #[] #[]] w (.tuple #[.agg #[St c0,St c1,St c2],.int .i64 0]):=by
 have n0:=λw=>(zdr a0 a1 a2 w).1;have n1:=λw=>(zdr a0 a1 a2 w).2.1;have n2:=λw=>(zdr a0 a1 a2 w).2.2;obtain⟨x1,hx1⟩:=zzX (w.alloc (.cells #[St a0,St a1,St a2] 169));obtain⟨x2,hx2⟩:=zzX (x1.alloc (.cells #[St b0,St b1,St b2] 169));obtain⟨x3,hx3⟩:=zzX (x2.alloc (.cells #[St [],St [],St []] 45));obtain⟨x4,hx4⟩:=zzX (x3.alloc (.cells #[St [],St [],St []] 170));have s1:x1.heap.size=w.heap.size+1:=by rw[hx1];simp
 have s2:x2.heap.size=w.heap.size+1+1:=by rw[hx2,zH,s1]
 have s3:x3.heap.size=w.heap.size+1+1+1:=by rw[hx3,zH,s2]
 have s4:x4.heap.size=w.heap.size+1+1+1+1:=by rw[hx4,zH,s3]
 have q1:qL w x1:=by rw[hx1];exact(zM _ w).alloc (zN _) _
 have q2:qL x1 x2:=by rw[hx2];exact(zM _ x1).alloc (zN _) _
 have q3:qL x2 x3:=by rw[hx3];exact(zM _ x2).alloc (zN _) _
 have q4:qL x3 x4:=by rw[hx4];exact(zM _ x3).alloc (zN _) _
 have f1:x1.heap[w.heap.size]? =some (.cells #[St a0,St a1,St a2] 169 (0,0)):=by rw[hx1];exact zG w _
 have f2:x2.heap[w.heap.size+1]? =some (.cells #[St b0,St b1,St b2] 169 (0,0)):=by rw[hx2,<-s1];exact zG x1 _
 have f3:x3.heap[w.heap.size+1+1]? =some (.cells #[St [],St [],St []] 45 (0,0)):=by rw[hx3,<-s2];exact zG x2 _
 have f4:x4.heap[w.heap.size+1+1+1]? =some (.cells #[St [],St [],St []] 170 (0,0)):=by rw[hx4,<-s3];exact zG x3 _
 have q24:=(q2.trans (q3.mono q2.size)).trans (q4.mono (q2.trans (q3.mono q2.size)).size);have q34:=q3.trans (q4.mono q3.size);have q14:=q1.trans (q24.mono q1.size);have F:=hid (⟨q14,zac q24 _ _ _ _ f1,zac q34 _ _ _ _ f2,zac q4 _ _ _ _ f3,f4,s4⟩:
  qL w x4/\x4.heap[w.heap.size]? =some (.cells #[St a0,St a1,St a2] 169 (0,0))/\x4.heap[w.heap.size+1]? =some (.cells #[St b0,St b1,St b2] 169 (0,0))/\x4.heap[w.heap.size+1+1]? =some (.cells #[St [],St [],St []] 45 (0,0))/\x4.heap[w.heap.size+1+1+1]? =some (.cells #[St [],St [],St []] 170 (0,0))/\x4.heap.size=w.heap.size+1+1+1+1)
 have hall:x4=(((w.alloc (.cells #[St a0,St a1,St a2] 169)).alloc (.cells #[St b0,St b1,St b2] 169)).alloc (.cells #[St [],St [],St []] 45)).alloc (.cells #[St [],St [],St []] 170):=by rw[hx4,hx3,hx2,hx1]
 have HV:=hid hall.symm;have EG:=hid eg;clear hall hx1 hx2 hx3 hx4 s1 s2 s3 s4 q1 q2 q3 q4 f1 f2 f3 f4 q24 q34 q14 eg;clear x1 x2 x3;go_enter Tryz.func137,Tryz.ntmps137;go_wp21;have h9:=HV.out;rw[show(((w.alloc (.cells #[.string ⟨a0.toArray⟩,.string ⟨a1.toArray⟩,.string ⟨a2.toArray⟩] 169)).alloc (.cells #[.string ⟨b0.toArray⟩,.string ⟨b1.toArray⟩,.string ⟨b2.toArray⟩] 169)).alloc (.cells #[.string ⟨#[]⟩,.string ⟨#[]⟩,.string ⟨#[]⟩] 45)).alloc (.cells #[.string ⟨#[]⟩,.string ⟨#[]⟩,.string ⟨#[]⟩] 170)=x4 from h9];clear h9 HV;refine zzM (zda b0 b1 b2 x4) λr0 hb=>?_;obtain⟨y4,hy⟩:=zzX (r0.alloc (.cells #[St b0,St b1,St b2] 170));have by4:qL r0 y4:=by rw[hy];exact(zM _ r0).alloc (zN _) _
 obtain⟨Y,hY⟩:=zzX r0.heap.size;have hYb:y4.heap[Y]? =some (.cells #[St b0,St b1,St b2] 170 (0,0)):=by rw[hy,hY];exact zG r0 _
 have hx:=hb.trans (by4.mono hb.size);have hck:=zac hx;have HS0:Hid (WtS w a0 a1 a2 b0 b1 b2 [] [] [] Y y4):=hid ⟨F.out.1.trans (hx.mono F.out.1.size),hck _ _ _ _ F.out.2.1,hck _ _ _ _ F.out.2.2.1,hck _ _ _ _ F.out.2.2.2.1,hck _ _ _ _ F.out.2.2.2.2.1,by have:=hb.size;have:=F.out.2.2.2.2.2;omega,hYb⟩;have y0:y4.cell? ⟨w.heap.size,0,none⟩=some (St a0):=(zah HS0.out.h0).1;have y1:y4.cell? ⟨w.heap.size,1,none⟩=some (St a1):=(zah HS0.out.h0).2.1;have y2:y4.cell? ⟨w.heap.size,2,none⟩=some (St a2):=(zah HS0.out.h0).2.2.1;have HY:=hid hy.symm;have HYe:=hid hY.symm;clear hb hx hck hy hY by4 hYb F;rw[<-HY.out] at y0 y1 y2;go_wp21;have h9:=HY.out;rw[show r0.alloc (.cells #[.string ⟨b0.toArray⟩,.string ⟨b1.toArray⟩,.string ⟨b2.toArray⟩] 170)=y4 from h9,HYe.out];clear h9 HY HYe y0 y1 y2;refine zzM (zda a0 a1 a2 y4) λt3 hb=>?_;have HP3:=hid (HS0.out.next hb);clear hb HS0;go_wp21;refine wp_loop_rounds 4 ?_;rw[rounds_succ];obtain⟨d0,d1,d2, -, -, -⟩:=zah HP3.out.h4;have heg:=EG.out;have HC:=hid (F0.out t3 HP3.out.bel);go_wp21;clear d0 d1 d2 heg;refine zzM HC.out λr0 hb=>?_;have HR0:=hid (HP3.out.next hb);clear hb HC HP3;obtain⟨d0,d1,d2,z0,z1,z2⟩:=zah HR0.out.h3;obtain⟨t0,ht0⟩:=zzX (r0.setCell ⟨w.heap.size+1+1+1,0,none⟩ (St c0));have hp:=HR0.out.put0 c0;rw[<-ht0] at hp;have HQ0:=hid hp;have HT:=hid ht0.symm;clear hp ht0;go_wp21;have h9:=HT.out;rw[show r0.setCell ⟨w.heap.size+1+1+1,0,none⟩ (.string ⟨c0.toArray⟩)=t0 from h9];clear h9 HT d0 d1 d2 z0 z1 z2 HR0;rw[rounds_succ]
 obtain⟨d0,d1,d2, -, -, -⟩:=zah HQ0.out.h4;have heg:=EG.out;have HC:=hid (F1.out t0 HQ0.out.bel);go_wp21;clear d0 d1 d2 heg;refine zzM HC.out λr1 hb=>?_;have HR1:=hid (HQ0.out.next hb);clear hb HC HQ0;obtain⟨d0,d1,d2,z0,z1,z2⟩:=zah HR1.out.h3;obtain⟨t1,ht1⟩:=zzX (r1.setCell ⟨w.heap.size+1+1+1,1,none⟩ (St c1));have hp:=HR1.out.put1 c1;rw[<-ht1] at hp;have HQ1:=hid hp;have HT:=hid ht1.symm;clear hp ht1;go_wp21;have h9:=HT.out;rw[show r1.setCell ⟨w.heap.size+1+1+1,1,none⟩ (.string ⟨c1.toArray⟩)=t1 from h9];clear h9 HT d0 d1 d2 z0 z1 z2 HR1;rw[rounds_succ];obtain⟨d0,d1,d2, -, -, -⟩:=zah HQ1.out.h4;have heg:=EG.out;have HC:=hid (F2.out t1 HQ1.out.bel);go_wp21;clear d0 d1 d2 heg;refine zzM HC.out λr2 hb=>?_;have HR2:=hid (HQ1.out.next hb);clear hb HC HQ1;obtain⟨d0,d1,d2,z0,z1,z2⟩:=zah HR2.out.h3;obtain⟨t2,ht2⟩:=zzX (r2.setCell ⟨w.heap.size+1+1+1,2,none⟩ (St c2));have hp:=HR2.out.put2 c2;rw[<-ht2] at hp;have HQ2:=hid hp;have HT:=hid ht2.symm;clear hp ht2;go_wp21;have h9:=HT.out;rw[show r2.setCell ⟨w.heap.size+1+1+1,2,none⟩ (.string ⟨c2.toArray⟩)=t2 from h9];clear h9 HT d0 d1 d2 z0 z1 z2 HR2;rw[rounds_succ];obtain⟨d0,d1,d2, -, -, -⟩:=zah HQ2.out.h3;go_wp21;clear d0 d1 d2;refine zzM (zlf c0 c1 c2 t2) λr3 hb=>?_;have hn:=HQ2.out.next hb;obtain⟨d0,d1,d2,z0,z1,z2⟩:=zah hn.h2;have HF:=hid hn;clear hn hb HQ2;go_wp21;have hf:=HF.out.bel
 exact bodyPost_ret (v:=.tuple #[.agg #[St c0,St c1,St c2],.int .i64 0]) (by simp[results,Tryz.results137,go_sem,d0,d1,d2]) rfl ⟨rfl,((hf.setCell (p:=⟨w.heap.size+1+1,0,none⟩) (by show _<=w.heap.size+1+1;omega) _).setCell (p:=⟨w.heap.size+1+1,1,none⟩) (by show _<=w.heap.size+1+1;omega) _).setCell (p:=⟨w.heap.size+1+1,2,none⟩) (by show _<=w.heap.size+1+1;omega) _⟩
theorem zfs {w v1:zA} {a b c d e f:Value} {s t:TypeId} (hv:v1=(w.alloc (.cells #[a,b,c] s)).alloc (.cells #[d,e,f] t)):
 qL w v1/\v1.heap[w.heap.size]? =some (.cells #[a,b,c] s (0,0))/\v1.heap[w.heap.size+1]? =some (.cells #[d,e,f] t (0,0))/\v1.heap.size=w.heap.size+1+1:=by
 refine⟨by rw[hv];exact((zM _ w).alloc (zN _) _).alloc (by simp) _,by rw[hv];exact(Below.heap_alloc _ _ _ (by simp)).trans (zG w _),?_,by rw[hv];simp⟩;rw[hv];have:=zG (w.alloc (.cells #[a,b,c] s)) (.cells #[d,e,f] t);rw[zH] at this;exact this
theorem zqa (a0 a1 a2 b0 b1 b2 c0 c1 c2 s r:List UInt8) (w:zA)
 (WI:Hid (∀W:zA,qL w W->qJ 137 #[.agg #[St a0,St a1,St a2],.agg #[St b0,St b1,St b2],.func (.func 10) #[] #[]] W (.tuple #[.agg #[St c0,St c1,St c2],.int .i64 0])))
 (D1:Hid (∀W:zA,qL w W->qJ 160 #[St c0,St c1] W (.tuple #[St s,.int .i64 0])))
 (D2:Hid (∀W:zA,qL w W->qJ 160 #[St s,St c2] W (.tuple #[St r,.int .i64 0]))):
 qJ 108 #[.agg #[St a0,St a1,St a2],.agg #[St b0,St b1,St b2]] w (.tuple #[St r,.int .i64 0]):=by
 obtain⟨v1,hv⟩:=zzX ((w.alloc (.cells #[St a0,St a1,St a2] 169)).alloc (.cells #[St b0,St b1,St b2] 169));have b1:=(zfs hv).1;have HC:=hid (WI.out v1 b1);have B1:=hid b1;have HV:=hid hv.symm;clear hv b1 WI;go_enter Tryz.func108,Tryz.ntmps108;go_wp21;have h9:=HV.out;rw[show(w.alloc (.cells #[.string ⟨a0.toArray⟩,.string ⟨a1.toArray⟩,.string ⟨a2.toArray⟩] 169)).alloc (.cells #[.string ⟨b0.toArray⟩,.string ⟨b1.toArray⟩,.string ⟨b2.toArray⟩] 169)=v1 from h9];clear h9 HV;refine zzM HC.out λr0 hb=>?_;obtain⟨y4,hy⟩:=zzX (r0.alloc (.cells #[St c0,St c1,St c2] 45));have by4:qL r0 y4:=by rw[hy];exact(zM _ r0).alloc (zN _) _
 obtain⟨Y,hY⟩:=zzX r0.heap.size;have hYb:y4.heap[Y]? =some (.cells #[St c0,St c1,St c2] 45 (0,0)):=by rw[hy,hY];exact zG r0 _
 have hx:=hb.trans (by4.mono hb.size);have hB:=B1.out.trans (hx.mono B1.out.size);have B2:=hid hB;have HD:=hid (D1.out y4 hB);have P2:=hid hYb;obtain⟨d0,d1,d2, -, -, -⟩:=zah hYb;have HY:=hid hy.symm;have HYe:=hid hY.symm;clear hb hx hy hY by4 hYb hB B1 D1 HC;rw[<-HY.out] at d0 d1 d2;go_wp21;have h9:=HY.out;rw[show r0.alloc (.cells #[.string ⟨c0.toArray⟩,.string ⟨c1.toArray⟩,.string ⟨c2.toArray⟩] 45)=y4 from h9]
 try rw[HYe.out]
 clear h9 HY HYe d0 d1 d2;refine zzM HD.out λr1 hb=>?_;have hB:=B2.out.trans (hb.mono B2.out.size);have B3:=hid hB;have HD2:=hid (D2.out r1 hB);obtain⟨d0,d1,d2, -, -, -⟩:=zah (zac hb _ _ _ _ P2.out);clear hb hB HD D2 B2 P2;go_wp21;clear d0 d1 d2;refine zzM HD2.out λr2 hb=>?_;have B4:=hid (B3.out.trans (hb.mono B3.out.size));clear hb HD2 B3;go_wp21;go_ret2;exact⟨rfl,B4.out⟩
theorem zll (a0 a1 a2 b0 b1 b2 r:List UInt8) (w:zA)
 (BO:Hid (∀W:zA,qL w W->qJ 107 #[.agg #[St a0,St a1,St a2],.agg #[St b0,St b1,St b2]] W (.int .i64 0)))
 (DO:Hid (∀W:zA,qL w W->qJ 108 #[.agg #[St a0,St a1,St a2],.agg #[St b0,St b1,St b2]] W (.tuple #[St r,.int .i64 0]))):
 qJ 47 #[.agg #[St a0,St a1,St a2],.agg #[St b0,St b1,St b2]] w (.tuple #[St r,.int .i64 0]):=by
 obtain⟨v1,hv⟩:=zzX ((w.alloc (.cells #[St a0,St a1,St a2] 45)).alloc (.cells #[St b0,St b1,St b2] 45));obtain⟨b1,p1,p2, -⟩:=zfs hv;have HC:=hid (BO.out v1 b1);have B1:=hid b1;have P1:=hid p1;have P2:=hid p2;have HV:=hid hv.symm;clear hv b1 BO p1 p2;go_enter Tryz.func47,Tryz.ntmps47;go_wp21;have h9:=HV.out;rw[show(w.alloc (.cells #[.string ⟨a0.toArray⟩,.string ⟨a1.toArray⟩,.string ⟨a2.toArray⟩] 45)).alloc (.cells #[.string ⟨b0.toArray⟩,.string ⟨b1.toArray⟩,.string ⟨b2.toArray⟩] 45)=v1 from h9];clear h9 HV;refine zzM HC.out λr0 hb=>?_;have hB:=B1.out.trans (hb.mono B1.out.size);have B2:=hid hB;have HD:=hid (DO.out r0 hB);obtain⟨d0,d1,d2, -, -, -⟩:=zah (zac hb _ _ _ _ P1.out);obtain⟨d3,d4,d5, -, -, -⟩:=zah (zac hb _ _ _ _ P2.out);clear hb hB B1 DO HC P1 P2;go_wp21;clear d0 d1 d2 d3 d4 d5;refine zzM HD.out λr2 hb=>?_;have B4:=hid (B2.out.trans (hb.mono B2.out.size));clear hb HD B2;go_wp21;go_ret2;exact⟨rfl,B4.out⟩
theorem zhm {w v1:zA} {a b c d e f x y z:Value} {s t u:TypeId} (hv:v1=((w.alloc (.cells #[a,b,c] s)).alloc (.cells #[d,e,f] t)).alloc (.cells #[x,y,z] u)):
 qL w v1/\v1.heap[w.heap.size]? =some (.cells #[a,b,c] s (0,0))/\v1.heap[w.heap.size+1]? =some (.cells #[d,e,f] t (0,0))/\v1.heap[w.heap.size+1+1]? =some (.cells #[x,y,z] u (0,0))/\v1.heap.size=w.heap.size+1+1+1:=by
 obtain⟨v0,h0⟩:=zzX ((w.alloc (.cells #[a,b,c] s)).alloc (.cells #[d,e,f] t));obtain⟨h1,h2,h3,h4⟩:=zfs h0;rw[<-h0] at hv;have hb:qL v0 v1:=by rw[hv];exact(zM _ v0).alloc (zN _) _
 have hc:=zac hb;exact⟨h1.trans (hb.mono h1.size),hc _ _ _ _ h2,hc _ _ _ _ h3,by rw[hv,<-h4];exact zG v0 _,by rw[hv,zH,h4]⟩
theorem zjm (a0 a1 a2 b0 b1 b2 c0 c1 c2:List UInt8) (w:zA)
 (BO:Hid (∀W:zA,qL w W->qJ 107 #[.agg #[St a0,St a1,St a2],.agg #[St b0,St b1,St b2]] W (.int .i64 0)))
 (DO:Hid (∀W:zA,qL w W->qJ 134 #[.agg #[St a0,St a1,St a2],.agg #[St b0,St b1,St b2]] W (.tuple #[.agg #[St c0,St c1,St c2],.int .i64 0]))):
 qJ 81 #[.agg #[St a0,St a1,St a2],.agg #[St b0,St b1,St b2]] w (.tuple #[.agg #[St c0,St c1,St c2],.int .i64 0]):=by
 obtain⟨v1,hv⟩:=zzX (((w.alloc (.cells #[St a0,St a1,St a2] 45)).alloc (.cells #[St b0,St b1,St b2] 45)).alloc (.cells #[St [],St [],St []] 45));obtain⟨b1,p1,p2,p3, -⟩:=zhm hv;have HC:=hid (BO.out v1 b1);have B1:=hid b1;have P1:=hid p1;have P2:=hid p2;have P3:=hid p3;have HV:=hid hv.symm;clear hv b1 BO p1 p2 p3;go_enter Tryz.func81,Tryz.ntmps81;go_wp21;have h9:=HV.out;rw[show((w.alloc (.cells #[.string ⟨a0.toArray⟩,.string ⟨a1.toArray⟩,.string ⟨a2.toArray⟩] 45)).alloc (.cells #[.string ⟨b0.toArray⟩,.string ⟨b1.toArray⟩,.string ⟨b2.toArray⟩] 45)).alloc (.cells #[.string ⟨#[]⟩,.string ⟨#[]⟩,.string ⟨#[]⟩] 45)=v1 from h9];clear h9 HV;refine zzM HC.out λr0 hb=>?_;have hB:=B1.out.trans (hb.mono B1.out.size);have B2:=hid hB;have HD:=hid (DO.out r0 hB);obtain⟨d0,d1,d2, -, -, -⟩:=zah (zac hb _ _ _ _ P1.out);obtain⟨d3,d4,d5, -, -, -⟩:=zah (zac hb _ _ _ _ P2.out);have P4:=hid (zac hb _ _ _ _ P3.out);clear hb hB B1 DO HC P1 P2 P3;go_wp21;clear d0 d1 d2 d3 d4 d5;refine zzM HD.out λr2 hb=>?_;have hf:=B2.out.trans (hb.mono B2.out.size);have B4:=hid hf;obtain⟨d0,d1,d2,z0,z1,z2⟩:=zah (zac hb _ _ _ _ P4.out);clear hb HD B2 P4 hf;go_wp21
 exact bodyPost_ret (v:=.tuple #[.agg #[St c0,St c1,St c2],.int .i64 0]) (by simp[results,Tryz.results81,go_sem,d0,d1,d2]) rfl ⟨rfl,((B4.out.setCell (p:=⟨w.heap.size+1+1,0,none⟩) (by show _<=w.heap.size+1+1;omega) _).setCell (p:=⟨w.heap.size+1+1,1,none⟩) (by show _<=w.heap.size+1+1;omega) _).setCell (p:=⟨w.heap.size+1+1,2,none⟩) (by show _<=w.heap.size+1+1;omega) _⟩
theorem zj3 (a0 a1 a2 x c0 c1 c2:List UInt8) (w:zA)
 (CK:Hid (∀W:zA,qL w W->qJ 52 #[.agg #[St a0,St a1,St a2]] W (.int .i64 0)))
 (CX:Hid (∀W:zA,qL w W->qJ 41 #[St x] W (.int .i64 0)))
 (WI:Hid (∀W:zA,qL w W->qJ 137 #[.agg #[St a0,St a1,St a2],.agg #[St x,St x,St x],.func (.func 10) #[] #[]] W (.tuple #[.agg #[St c0,St c1,St c2],.int .i64 0]))):
 qJ 83 #[.agg #[St a0,St a1,St a2],St x] w (.tuple #[.agg #[St c0,St c1,St c2],.int .i64 0]):=by
 obtain⟨v1,hv⟩:=zzX ((w.alloc (.cells #[St a0,St a1,St a2] 45)).alloc (.cells #[St [],St [],St []] 45));obtain⟨b1,p1,p2, -⟩:=zfs hv;have HC:=hid (CK.out v1 b1);have B1:=hid b1;have P1:=hid p1;have P2:=hid p2;have HV:=hid hv.symm;clear hv b1 CK p1 p2;go_enter Tryz.func83,Tryz.ntmps83;go_wp21;have h9:=HV.out;rw[show(w.alloc (.cells #[.string ⟨a0.toArray⟩,.string ⟨a1.toArray⟩,.string ⟨a2.toArray⟩] 45)).alloc (.cells #[.string ⟨#[]⟩,.string ⟨#[]⟩,.string ⟨#[]⟩] 45)=v1 from h9];clear h9 HV;refine zzM HC.out λr0 hb=>?_;have hB:=B1.out.trans (hb.mono B1.out.size);have B2:=hid hB;have HD:=hid (CX.out r0 hB);have P3:=hid (zac hb _ _ _ _ P1.out);have P4:=hid (zac hb _ _ _ _ P2.out);clear hb hB B1 CX HC P1 P2;go_wp21;refine zzM HD.out λr1 hb=>?_;have hB:=B2.out.trans (hb.mono B2.out.size);have B3:=hid hB;have HW:=hid (WI.out r1 hB);obtain⟨d0,d1,d2, -, -, -⟩:=zah (zac hb _ _ _ _ P3.out);have P5:=hid (zac hb _ _ _ _ P4.out);clear hb hB B2 WI HD P3 P4;go_wp21;clear d0 d1 d2;refine zzM HW.out λr2 hb=>?_;have B4:=hid (B3.out.trans (hb.mono B3.out.size));obtain⟨d0,d1,d2,z0,z1,z2⟩:=zah (zac hb _ _ _ _ P5.out);clear hb HW B3 P5;go_wp21;exact bodyPost_ret (v:=.tuple #[.agg #[St c0,St c1,St c2],.int .i64 0]) (by simp[results,Tryz.results83,go_sem,d0,d1,d2]) rfl ⟨rfl,((B4.out.setCell (p:=⟨w.heap.size+1,0,none⟩) (by show _<=w.heap.size+1;omega) _).setCell (p:=⟨w.heap.size+1,1,none⟩) (by show _<=w.heap.size+1;omega) _).setCell (p:=⟨w.heap.size+1,2,none⟩) (by show _<=w.heap.size+1;omega) _⟩
structure BoxS (n X0 Y0:Nat) (z:Array Value) (c:Nat->Array Value) (t:TypeId) (w:zA) (q:Nat->Nat) (f:Nat->Bool) (W:zA):Prop where
 bel:qL w W
 lo:∀i,i<n->f (X0+i)=true->w.heap.size<=q i
 ne:∀i j,i<n->j<n->i≠j->f (X0+i)=true->f (X0+j)=true->q i≠q j
 blk:∀i,i<n->f (X0+i)=true->W.heap[q i]? =some (.cells (if f (Y0+i)=true then c i else z) t (0,0))
section
variable {n X0 Y0:Nat} {z:Array Value} {c:Nat->Array Value} {t:TypeId} {w W W':zA} {q:Nat->Nat} {f:Nat->Bool}
theorem BoxS.start (hb:qL w W):BoxS n X0 Y0 z c t w q (λ_=>false) W:=⟨hb,λ_ _ k=>(by cases k),λ_ _ _ _ _ k=>(by cases k),λ_ _ k=>(by cases k)⟩
theorem BoxS.step (h:BoxS n X0 Y0 z c t w q f W) (k:Nat) (h1:k<X0\/X0+n<=k) (h2:k<Y0\/Y0+n<=k):BoxS n X0 Y0 z c t w q (λj=>if k=j then true else f j) W:=by
 have e1:∀i,i<n->(if k=X0+i then true else f (X0+i))=f (X0+i):=λi hi=>if_neg (by omega);have e2:∀i,i<n->(if k=Y0+i then true else f (Y0+i))=f (Y0+i):=λi hi=>if_neg (by omega);exact⟨h.bel,λi hi=>by simp only[e1 i hi];exact h.lo i hi,λi j hi hj=>by simp only[e1 i hi,e1 j hj];exact h.ne i j hi hj,λi hi=>by simp only[e1 i hi,e2 i hi];exact h.blk i hi⟩
theorem BoxS.next (h:BoxS n X0 Y0 z c t w q f W) (hb:qL W W'):BoxS n X0 Y0 z c t w q f W':=
 ⟨h.bel.trans (hb.mono h.bel.size),h.lo,h.ne,λi hi k=>zac hb _ _ _ _ (h.blk i hi k)⟩
theorem BoxS.new (h:BoxS n X0 Y0 z c t w q f W) (i:Nat) (hi:i<n) (h0:f (Y0+i)=false) (hX:X0+n<=Y0):BoxS n X0 Y0 z c t w (λj=>if j=i then W.heap.size else q j) (λj=>if X0+i=j then true else f j) (W.alloc (.cells z t)):=by
 have hb:qL W (W.alloc (.cells z t)):=(zM _ W).alloc (zN _) _;have e2:∀k,k<n->(if X0+i=Y0+k then true else f (Y0+k))=f (Y0+k):=λk hk=>if_neg (by omega);have e1:∀k,k≠i->(if X0+i=X0+k then true else f (X0+k))=f (X0+k):=λk hk=>if_neg (by omega);have lt:∀k,k<n->f (X0+k)=true->q k<W.heap.size:=λk hk hf=>(Array.getElem?_eq_some_iff.1 (h.blk k hk hf)).1;refine⟨h.bel.trans (hb.mono h.bel.size),λk hk=>?_,λa b ha hb' hab=>?_,λk hk=>?_⟩
 ·by_cases e:k=i
  ·simp only[if_pos e];exact λ_=>h.bel.size
  ·simp only[if_neg e,e1 k e];exact h.lo k hk
 ·by_cases ea:a=i
  ·have eb:b≠i:=λeb=>hab (ea.trans eb.symm)
   simp only[if_pos ea,if_neg eb,e1 b eb];intro _ hf;have:=lt b hb' hf;omega
  ·by_cases eb:b=i
   ·simp only[if_neg ea,if_pos eb,e1 a ea]
    intro hf _;have:=lt a ha hf;omega
   ·simp only[if_neg ea,if_neg eb,e1 a ea,e1 b eb];exact h.ne a b ha hb' hab
 ·simp only[e2 k hk]
  by_cases e:k=i
  ·simp only[if_pos e]
   intro _;rw[show f (Y0+k)=false by rw[e];exact h0];exact zG _ _
  ·simp only[if_neg e,e1 k e]
   intro hf;exact zac hb _ _ _ _ (h.blk k hk hf)
theorem BoxS.put (h:BoxS n X0 Y0 z c t w q f W) (i:Nat) (hi:i<n) (k:f (X0+i)=true) (hX:X0+n<=Y0) (u0 u1 u2:Value) (hc:c i= #[u0,u1,u2]) (hz:z.size=3):BoxS n X0 Y0 z c t w q (λj=>if Y0+i=j then true else f j) (((W.setCell ⟨q i,0,none⟩ u0).setCell ⟨q i,1,none⟩ u1).setCell ⟨q i,2,none⟩ u2):=by
 have hl:=h.lo i hi k;have e1:∀k,k<n->(if Y0+i=X0+k then true else f (X0+k))=f (X0+k):=λk hk=>if_neg (by omega);refine⟨((h.bel.setCell (p:=⟨q i,0,none⟩) (by exact hl) _).setCell (p:=⟨q i,1,none⟩) (by exact hl) _).setCell (p:=⟨q i,2,none⟩) (by exact hl) _,λj hj=>by simp only[e1 j hj];exact h.lo j hj,λa b ha hb=>by simp only[e1 a ha,e1 b hb];exact h.ne a b ha hb,λj hj=>?_⟩;simp only[e1 j hj];intro hf;by_cases e:j=i
 ·subst e
  rw[if_pos (show(if Y0+j=Y0+j then true else f (Y0+j))=true from if_pos rfl),hc];have hb:=h.blk j hj hf;have hs:(if f (Y0+j)=true then c j else z).size=3:=by split;rw[hc];rfl;exact hz
  rw[zK (i:=2) (zK (i:=1) (zK (i:=0) hb u0) u1) u2];generalize (if f (Y0+j)=true then c j else z)=m at hs;obtain⟨l⟩:=m
  match l,hs with
  |[a,b,c],_=>rfl
 ·have hn:=h.ne j i hj hi e hf k
  rw[if_neg (show Y0+i≠Y0+j by omega),yE _ _ _ _ (by exact hn),yE _ _ _ _ (by exact hn),yE _ _ _ _ (by exact hn)];exact h.blk j hj hf
theorem BoxS.open (h:BoxS n X0 Y0 z c t w q f W) (i:Nat) (hi:i<n) (k:f (X0+i)=true) (hz:z.size=3) (hc:(c i).size=3):(∃s,W.cell? ⟨q i,0,none⟩=some s)/\(∃s,W.cell? ⟨q i,1,none⟩=some s)/\(∃s,W.cell? ⟨q i,2,none⟩=some s)/\W.frozen? ⟨q i,0,none⟩=false/\W.frozen? ⟨q i,1,none⟩=false/\W.frozen? ⟨q i,2,none⟩=false:=by
 have hb:=h.blk i hi k;have hs:(if f (Y0+i)=true then c i else z).size=3:=by split;exact hc;exact hz
 generalize (if f (Y0+i)=true then c i else z)=m at hb hs;obtain⟨l⟩:=m
 match l,hs with
 |[a,b,c],_=>exact⟨⟨a,(zah hb).1⟩,⟨b,(zah hb).2.1⟩,⟨c,(zah hb).2.2.1⟩,(zah hb).2.2.2.1,(zah hb).2.2.2.2.1,(zah hb).2.2.2.2.2⟩
end
structure CrS (w:zA) (x0 x1 x2 y0 y1 y2 o0 o1 o2:List UInt8) (Y1 Y2:Nat) (W:zA):Prop where
 bel:qL w W
 h2:W.heap[w.heap.size+1+1]? =some (.cells #[St [],St [],St []] 45 (0,0))
 h3:W.heap[w.heap.size+1+1+1]? =some (.cells #[St o0,St o1,St o2] 170 (0,0))
 lo1:w.heap.size+1+1+1<Y1
 lo2:w.heap.size+1+1+1<Y2
 h4:W.heap[Y1]? =some (.cells #[St x0,St x1,St x2] 170 (0,0))
 h5:W.heap[Y2]? =some (.cells #[St y0,St y1,St y2] 170 (0,0))
section
variable {w W W':zA} {x0 x1 x2 y0 y1 y2 o0 o1 o2:List UInt8} {Y1 Y2:Nat}
theorem CrS.next (h:CrS w x0 x1 x2 y0 y1 y2 o0 o1 o2 Y1 Y2 W) (hb:qL W W'):CrS w x0 x1 x2 y0 y1 y2 o0 o1 o2 Y1 Y2 W':=
 have hc:=zac hb
 ⟨h.bel.trans (hb.mono h.bel.size),hc _ _ _ _ h.h2,hc _ _ _ _ h.h3,h.lo1,h.lo2,hc _ _ _ _ h.h4,hc _ _ _ _ h.h5⟩
theorem CrS.ne (h:CrS w x0 x1 x2 y0 y1 y2 o0 o1 o2 Y1 Y2 W) (i:Nat) (u:Value):qL w (W.setCell ⟨w.heap.size+1+1+1,i,none⟩ u)/\(∀b,b≠w.heap.size+1+1+1->(W.setCell ⟨w.heap.size+1+1+1,i,none⟩ u).heap[b]? =W.heap[b]?):=
 ⟨h.bel.setCell (p:=⟨w.heap.size+1+1+1,i,none⟩) (by show _<=w.heap.size+1+1+1;omega) _,λb hb=>yE _ _ _ _ (by exact hb)⟩
theorem CrS.put0 (h:CrS w x0 x1 x2 y0 y1 y2 o0 o1 o2 Y1 Y2 W) (u:List UInt8):CrS w x0 x1 x2 y0 y1 y2 u o1 o2 Y1 Y2 (W.setCell ⟨w.heap.size+1+1+1,0,none⟩ (St u)):=by
 obtain⟨k1,k2⟩:=h.ne 0 (St u);have:=h.lo1;have:=h.lo2;exact⟨k1,(k2 _ (by omega)).trans h.h2,zK (i:=0) h.h3 (St u),h.lo1,h.lo2,(k2 _ (by omega)).trans h.h4,(k2 _ (by omega)).trans h.h5⟩
theorem CrS.put1 (h:CrS w x0 x1 x2 y0 y1 y2 o0 o1 o2 Y1 Y2 W) (u:List UInt8):CrS w x0 x1 x2 y0 y1 y2 o0 u o2 Y1 Y2 (W.setCell ⟨w.heap.size+1+1+1,1,none⟩ (St u)):=by
 obtain⟨k1,k2⟩:=h.ne 1 (St u);have:=h.lo1;have:=h.lo2;exact⟨k1,(k2 _ (by omega)).trans h.h2,zK (i:=1) h.h3 (St u),h.lo1,h.lo2,(k2 _ (by omega)).trans h.h4,(k2 _ (by omega)).trans h.h5⟩
theorem CrS.put2 (h:CrS w x0 x1 x2 y0 y1 y2 o0 o1 o2 Y1 Y2 W) (u:List UInt8):CrS w x0 x1 x2 y0 y1 y2 o0 o1 u Y1 Y2 (W.setCell ⟨w.heap.size+1+1+1,2,none⟩ (St u)):=by
 obtain⟨k1,k2⟩:=h.ne 2 (St u);have:=h.lo1;have:=h.lo2;exact⟨k1,(k2 _ (by omega)).trans h.h2,zK (i:=2) h.h3 (St u),h.lo1,h.lo2,(k2 _ (by omega)).trans h.h4,(k2 _ (by omega)).trans h.h5⟩
end
theorem zm3 (x0 x1 x2 y0 y1 y2 p0 p1 p2 q0 q1 q2 c0 c1 c2:List UInt8) (w:zA)
 (P0:Hid (∀W:zA,qL w W->qJ 10 #[St x1,St y2] W (.tuple #[St p0,.int .i64 0])))
 (Q0:Hid (∀W:zA,qL w W->qJ 10 #[St x2,St y1] W (.tuple #[St q0,.int .i64 0])))
 (S0:Hid (∀W:zA,qL w W->qJ 132 #[St p0,St q0] W (.tuple #[St c0,.int .i64 0])))
 (P1:Hid (∀W:zA,qL w W->qJ 10 #[St x2,St y0] W (.tuple #[St p1,.int .i64 0])))
 (Q1:Hid (∀W:zA,qL w W->qJ 10 #[St x0,St y2] W (.tuple #[St q1,.int .i64 0])))
 (S1:Hid (∀W:zA,qL w W->qJ 132 #[St p1,St q1] W (.tuple #[St c1,.int .i64 0])))
 (P2:Hid (∀W:zA,qL w W->qJ 10 #[St x0,St y1] W (.tuple #[St p2,.int .i64 0])))
 (Q2:Hid (∀W:zA,qL w W->qJ 10 #[St x1,St y0] W (.tuple #[St q2,.int .i64 0])))
 (S2:Hid (∀W:zA,qL w W->qJ 132 #[St p2,St q2] W (.tuple #[St c2,.int .i64 0]))):
 qJ 134 #[.agg #[St x0,St x1,St x2],.agg #[St y0,St y1,St y2]] w (.tuple #[.agg #[St c0,St c1,St c2],.int .i64 0]):=by
 obtain⟨z3,hz3⟩:=zzX (((w.alloc (.cells #[St x0,St x1,St x2] 169)).alloc (.cells #[St y0,St y1,St y2] 169)).alloc (.cells #[St [],St [],St []] 45));obtain⟨g1,g2,g3,g4,g5⟩:=zhm hz3;obtain⟨z4,hz4⟩:=zzX (z3.alloc (.cells #[St [],St [],St []] 170));have b4:qL z3 z4:=by rw[hz4];exact(zM _ z3).alloc (zN _) _
 have hck:=zac b4
 have F:=hid (⟨g1.trans (b4.mono g1.size),hck _ _ _ _ g2,hck _ _ _ _ g3,hck _ _ _ _ g4,by rw[hz4,<-g5];exact zG z3 _,by rw[hz4,zH,g5]⟩:
  qL w z4/\z4.heap[w.heap.size]? =some (.cells #[St x0,St x1,St x2] 169 (0,0))/\z4.heap[w.heap.size+1]? =some (.cells #[St y0,St y1,St y2] 169 (0,0))/\z4.heap[w.heap.size+1+1]? =some (.cells #[St [],St [],St []] 45 (0,0))/\z4.heap[w.heap.size+1+1+1]? =some (.cells #[St [],St [],St []] 170 (0,0))/\z4.heap.size=w.heap.size+1+1+1+1)
 have hall:z4=(((w.alloc (.cells #[St x0,St x1,St x2] 169)).alloc (.cells #[St y0,St y1,St y2] 169)).alloc (.cells #[St [],St [],St []] 45)).alloc (.cells #[St [],St [],St []] 170):=by rw[hz4,hz3]
 have HV:=hid hall.symm;clear hall hz3 hz4 g1 g2 g3 g4 g5 b4 hck;clear z3;go_enter Tryz.func134,Tryz.ntmps134;go_wp21;have h9:=HV.out;rw[show(((w.alloc (.cells #[.string ⟨x0.toArray⟩,.string ⟨x1.toArray⟩,.string ⟨x2.toArray⟩] 169)).alloc (.cells #[.string ⟨y0.toArray⟩,.string ⟨y1.toArray⟩,.string ⟨y2.toArray⟩] 169)).alloc (.cells #[.string ⟨#[]⟩,.string ⟨#[]⟩,.string ⟨#[]⟩] 45)).alloc (.cells #[.string ⟨#[]⟩,.string ⟨#[]⟩,.string ⟨#[]⟩] 170)=z4 from h9];clear h9 HV;have KA:=hid (λW (h:qL z4 W)=>(⟨zah (zac h _ _ _ _ F.out.2.1),zah (zac h _ _ _ _ F.out.2.2.1)⟩:(_/\_/\_/\_/\_/\_)/\_/\_/\_/\_/\_/\_));refine zc4 (λ(q:Nat->Nat) i=>([.agg #[St x0,St x1,St x2],.agg #[St x0,St x1,St x2],.agg #[St y0,St y1,St y2],.agg #[St y0,St y1,St y2],.pointer (some ⟨q 0,0,none⟩),.pointer (some ⟨q 1,0,none⟩),undef,undef]:List Value).getD i undef)
  (BoxS 2 4 6 #[St [],St [],St []] (λi=>if i=0 then #[St x0,St x1,St x2] else #[St y0,St y1,St y2]) 170 z4) (by kernel_rfl) (by kernel_rfl) (λ_=>0) (BoxS.start (zM _ z4).drew) λq=>?_
 refine qB (.agg #[St x0,St x1,St x2]) (λf W' h=>h.step 0 (by decide) (by decide)) ?_ (hy:=λf W' hf h=>by obtain⟨⟨d0,d1,d2, -⟩, -⟩:=KA.out W' h.bel;go_simp);simp only[zzQ]
 refine zbv (.agg #[St x0,St x1,St x2]) (by rfl) (by rfl) (λf W' hf h C' hC'=>by
  go_simp;refine zzM (zda x0 x1 x2 W') λw' hb=>?_;exact⟨_,rfl,hC' _ ((h.next hb).step 1 (by decide) (by decide))⟩) ?_
 refine qB (.agg #[St y0,St y1,St y2]) (λf W' h=>h.step 2 (by decide) (by decide)) ?_ (hy:=λf W' hf h=>by obtain⟨-,d0,d1,d2, -⟩:=KA.out W' h.bel;go_simp);simp only[zzQ]
 refine zbv (.agg #[St y0,St y1,St y2]) (by rfl) (by rfl) (λf W' hf h C' hC'=>by
  go_simp;refine zzM (zda y0 y1 y2 W') λw' hb=>?_;exact⟨_,rfl,hC' _ ((h.next hb).step 3 (by decide) (by decide))⟩) ?_
 try simp only[zzQ]
 refine zdc (.pointer (some ⟨q 0,0,none⟩)) (by rfl) (by rfl) (λf W' hf h C' hC'=>by
  have h0:=hf.self;have h1:=hf.no (j:=6) hf.self (by kernel_rfl);have hc:=hC' (λj=>if j=0 then W'.heap.size else q j) _ (λj hj=>by
   match j,hj with
   |0,_|1,_|2,_|3,_|5,_|6,_|7,_=>rfl
   |4,hj=>rw[h0] at hj;cases hj
   |_+8,_=>rfl) (h.new 0 (by decide) h1 (by decide))
  clear h hC';go_simp;exact hc) ?_
 try simp only[zzQ]
 refine zdc (.pointer (some ⟨q 1,0,none⟩)) (by rfl) (by rfl) (λf W' hf h C' hC'=>by
  have h0:=hf.self;have h1:=hf.no (j:=7) hf.self (by kernel_rfl);have hc:=hC' (λj=>if j=1 then W'.heap.size else q j) _ (λj hj=>by
   match j,hj with
   |0,_|1,_|2,_|3,_|4,_|6,_|7,_=>rfl
   |5,hj=>rw[h0] at hj;cases hj
   |_+8,_=>rfl) (h.new 1 (by decide) h1 (by decide))
  clear h hC';go_simp;exact hc) ?_
 try simp only[zzQ]
 refine zbv undef (by rfl) (by rfl) (λf W' hf h C' hC'=>by
  have h0:=hf.done 4 (by kernel_rfl);obtain⟨⟨s0,d0⟩,⟨s1,d1⟩,⟨s2,d2⟩,z0,z1,z2⟩:=h.open 0 (by decide) h0 rfl rfl;have hc:=hC' _ (h.put 0 (by decide) h0 (by decide) (St x0) (St x1) (St x2) rfl rfl);clear h hC';go_simp;exact hc) ?_
 try simp only[zzQ]
 refine zbv undef (by rfl) (by rfl) (λf W' hf h C' hC'=>by
  have h0:=hf.done 5 (by kernel_rfl);obtain⟨⟨s0,d0⟩,⟨s1,d1⟩,⟨s2,d2⟩,z0,z1,z2⟩:=h.open 1 (by decide) h0 rfl rfl;have hc:=hC' _ (h.put 1 (by decide) h0 (by decide) (St y0) (St y1) (St y2) rfl rfl);clear h hC';go_simp;exact hc) ?_
 try simp only[zzQ]
 refine ze1 λf X hf h=>?_;obtain⟨Y1,hY1⟩:=zzX (q 0);obtain⟨Y2,hY2⟩:=zzX (q 1);have hA:=h.blk 0 (by decide) (hf 4 (by decide));have hB:=h.blk 1 (by decide) (hf 5 (by decide));have l1:=h.lo 0 (by decide) (hf 4 (by decide));have l2:=h.lo 1 (by decide) (hf 5 (by decide));rw[if_pos (hf 6 (by decide))] at hA;rw[if_pos (hf 7 (by decide))] at hB;rw[<-hY1] at hA l1;rw[<-hY2] at hB l2;have hck:=zac h.bel;have HS0:Hid (CrS w x0 x1 x2 y0 y1 y2 [] [] [] Y1 Y2 X):=hid ⟨F.out.1.trans (h.bel.mono F.out.1.size),hck _ _ _ _ F.out.2.2.2.1,hck _ _ _ _ F.out.2.2.2.2.1,by have:=F.out.2.2.2.2.2;omega,by have:=F.out.2.2.2.2.2;omega,hA,hB⟩;rw[<-hY1,<-hY2];clear hY1 hY2 hA hB l1 l2 hck h hf F KA;go_wp21;refine wp_loop_rounds 4 ?_;rw[rounds_succ];go_wp21;refine zc4 (λ(_:Unit) i=>([.int .i64 1,.pointer (some ⟨Y1,1,none⟩),St x1,.int .i64 2,.pointer (some ⟨Y2,2,none⟩),St y2,.tuple #[St p0,.int .i64 0],.tuple #[St p0,.int .i64 0],St p0,.int .i64 0,St p0,.int .i64 0]:List Value).getD i undef) (λ_ _ V=>qL X V) (by kernel_rfl) (by kernel_rfl) () ((zM _ X).drew) λ_=>?_;refine qB (.int .i64 1) (λf W' h=>h) ?_;refine qB (.pointer (some ⟨Y1,1,none⟩)) (λf W' h=>h) ?_;refine qB (St x1) (λf W' h=>h) ?_ (hy:=λf W' hf h=>by obtain⟨d0,d1,d2, -⟩:=zah (zac h _ _ _ _ HS0.out.h4);go_simp);simp only[zzQ];refine qB (.int .i64 2) (λf W' h=>h) ?_;refine qB (.pointer (some ⟨Y2,2,none⟩)) (λf W' h=>h) ?_;refine qB (St y2) (λf W' h=>h) ?_ (hy:=λf W' hf h=>by obtain⟨d0,d1,d2, -⟩:=zah (zac h _ _ _ _ HS0.out.h5);go_simp);simp only[zzQ]
 refine zbv (.tuple #[St p0,.int .i64 0]) (by rfl) (by rfl) (λf W' hf h C' hC'=>by
  have hq:=P0.out W' (HS0.out.bel.trans (h.mono HS0.out.bel.size));go_simp;refine zzM hq λw' hb=>?_;exact⟨_,rfl,hC' _ (h.trans (hb.mono h.size))⟩) ?_
 refine qB (.tuple #[St p0,.int .i64 0]) (λf W' h=>h) ?_;refine qB (St p0) (λf W' h=>h) ?_;simp only[zzQ];refine qB (.int .i64 0) (λf W' h=>h) ?_;refine qB (St p0) (λf W' h=>h) ?_;refine qB (.int .i64 0) (λf W' h=>h) ?_;simp only[zzQ];refine ze1 λf r0 hf h=>?_;have HR0:=hid (HS0.out.next h);clear h hf HS0;go_wp21;refine zc4 (λ(_:Unit) i=>([.int .i64 2,.pointer (some ⟨Y1,2,none⟩),St x2,.int .i64 1,.pointer (some ⟨Y2,1,none⟩),St y1,.tuple #[St q0,.int .i64 0],.tuple #[St q0,.int .i64 0],St q0,.int .i64 0,St q0,.int .i64 0]:List Value).getD i undef) (λ_ _ V=>qL r0 V) (by kernel_rfl) (by kernel_rfl) () ((zM _ r0).drew) λ_=>?_;refine qB (.int .i64 2) (λf W' h=>h) ?_;refine qB (.pointer (some ⟨Y1,2,none⟩)) (λf W' h=>h) ?_;refine qB (St x2) (λf W' h=>h) ?_ (hy:=λf W' hf h=>by obtain⟨d0,d1,d2, -⟩:=zah (zac h _ _ _ _ HR0.out.h4);go_simp);simp only[zzQ];refine qB (.int .i64 1) (λf W' h=>h) ?_;refine qB (.pointer (some ⟨Y2,1,none⟩)) (λf W' h=>h) ?_;refine qB (St y1) (λf W' h=>h) ?_ (hy:=λf W' hf h=>by obtain⟨d0,d1,d2, -⟩:=zah (zac h _ _ _ _ HR0.out.h5);go_simp);simp only[zzQ]
 refine zbv (.tuple #[St q0,.int .i64 0]) (by rfl) (by rfl) (λf W' hf h C' hC'=>by
  have hq:=Q0.out W' (HR0.out.bel.trans (h.mono HR0.out.bel.size));go_simp;refine zzM hq λw' hb=>?_;exact⟨_,rfl,hC' _ (h.trans (hb.mono h.size))⟩) ?_
 refine qB (.tuple #[St q0,.int .i64 0]) (λf W' h=>h) ?_;refine qB (St q0) (λf W' h=>h) ?_;simp only[zzQ];refine qB (.int .i64 0) (λf W' h=>h) ?_;refine qB (St q0) (λf W' h=>h) ?_;refine qB (.int .i64 0) (λf W' h=>h) ?_;simp only[zzQ];refine ze1 λf s0 hf h=>?_;have HU0:=hid (HR0.out.next h);clear h hf HR0;have HC:=hid (S0.out s0 HU0.out.bel);go_wp21;refine zzM HC.out λv0 hb=>?_;have HW0:=hid (HU0.out.next hb);clear hb HC HU0;obtain⟨d0,d1,d2,z0,z1,z2⟩:=zah HW0.out.h3;obtain⟨t0,ht0⟩:=zzX (v0.setCell ⟨w.heap.size+1+1+1,0,none⟩ (St c0));have hp:=HW0.out.put0 c0;rw[<-ht0] at hp;have HQ0:=hid hp;have HT:=hid ht0.symm;clear hp ht0;go_wp21;have h9:=HT.out;rw[show v0.setCell ⟨w.heap.size+1+1+1,0,none⟩ (.string ⟨c0.toArray⟩)=t0 from h9];clear h9 HT d0 d1 d2 z0 z1 z2 HW0;rw[rounds_succ];go_wp21;refine zc4 (λ(_:Unit) i=>([.int .i64 2,.pointer (some ⟨Y1,2,none⟩),St x2,.int .i64 0,.pointer (some ⟨Y2,0,none⟩),St y0,.tuple #[St p1,.int .i64 0],.tuple #[St p1,.int .i64 0],St p1,.int .i64 0,St p1,.int .i64 0]:List Value).getD i undef) (λ_ _ V=>qL t0 V) (by kernel_rfl) (by kernel_rfl) () ((zM _ t0).drew) λ_=>?_;refine qB (.int .i64 2) (λf W' h=>h) ?_;refine qB (.pointer (some ⟨Y1,2,none⟩)) (λf W' h=>h) ?_;refine qB (St x2) (λf W' h=>h) ?_ (hy:=λf W' hf h=>by obtain⟨d0,d1,d2, -⟩:=zah (zac h _ _ _ _ HQ0.out.h4);go_simp);simp only[zzQ];refine qB (.int .i64 0) (λf W' h=>h) ?_;refine qB (.pointer (some ⟨Y2,0,none⟩)) (λf W' h=>h) ?_;refine qB (St y0) (λf W' h=>h) ?_ (hy:=λf W' hf h=>by obtain⟨d0,d1,d2, -⟩:=zah (zac h _ _ _ _ HQ0.out.h5);go_simp);simp only[zzQ]
 refine zbv (.tuple #[St p1,.int .i64 0]) (by rfl) (by rfl) (λf W' hf h C' hC'=>by
  have hq:=P1.out W' (HQ0.out.bel.trans (h.mono HQ0.out.bel.size));go_simp;refine zzM hq λw' hb=>?_;exact⟨_,rfl,hC' _ (h.trans (hb.mono h.size))⟩) ?_
 refine qB (.tuple #[St p1,.int .i64 0]) (λf W' h=>h) ?_;refine qB (St p1) (λf W' h=>h) ?_;simp only[zzQ];refine qB (.int .i64 0) (λf W' h=>h) ?_;refine qB (St p1) (λf W' h=>h) ?_;refine qB (.int .i64 0) (λf W' h=>h) ?_;simp only[zzQ];refine ze1 λf r1 hf h=>?_;have HR1:=hid (HQ0.out.next h);clear h hf HQ0;go_wp21;refine zc4 (λ(_:Unit) i=>([.int .i64 0,.pointer (some ⟨Y1,0,none⟩),St x0,.int .i64 2,.pointer (some ⟨Y2,2,none⟩),St y2,.tuple #[St q1,.int .i64 0],.tuple #[St q1,.int .i64 0],St q1,.int .i64 0,St q1,.int .i64 0]:List Value).getD i undef) (λ_ _ V=>qL r1 V) (by kernel_rfl) (by kernel_rfl) () ((zM _ r1).drew) λ_=>?_;refine qB (.int .i64 0) (λf W' h=>h) ?_;refine qB (.pointer (some ⟨Y1,0,none⟩)) (λf W' h=>h) ?_;refine qB (St x0) (λf W' h=>h) ?_ (hy:=λf W' hf h=>by obtain⟨d0,d1,d2, -⟩:=zah (zac h _ _ _ _ HR1.out.h4);go_simp);simp only[zzQ];refine qB (.int .i64 2) (λf W' h=>h) ?_;refine qB (.pointer (some ⟨Y2,2,none⟩)) (λf W' h=>h) ?_;refine qB (St y2) (λf W' h=>h) ?_ (hy:=λf W' hf h=>by obtain⟨d0,d1,d2, -⟩:=zah (zac h _ _ _ _ HR1.out.h5);go_simp);simp only[zzQ]
 refine zbv (.tuple #[St q1,.int .i64 0]) (by rfl) (by rfl) (λf W' hf h C' hC'=>by
  have hq:=Q1.out W' (HR1.out.bel.trans (h.mono HR1.out.bel.size));go_simp;refine zzM hq λw' hb=>?_;exact⟨_,rfl,hC' _ (h.trans (hb.mono h.size))⟩) ?_
 refine qB (.tuple #[St q1,.int .i64 0]) (λf W' h=>h) ?_;refine qB (St q1) (λf W' h=>h) ?_;simp only[zzQ];refine qB (.int .i64 0) (λf W' h=>h) ?_;refine qB (St q1) (λf W' h=>h) ?_;refine qB (.int .i64 0) (λf W' h=>h) ?_;simp only[zzQ];refine ze1 λf s1 hf h=>?_;have HU1:=hid (HR1.out.next h);clear h hf HR1;have HC:=hid (S1.out s1 HU1.out.bel);go_wp21;refine zzM HC.out λv1 hb=>?_;have HW1:=hid (HU1.out.next hb);clear hb HC HU1;obtain⟨d0,d1,d2,z0,z1,z2⟩:=zah HW1.out.h3;obtain⟨t1,ht1⟩:=zzX (v1.setCell ⟨w.heap.size+1+1+1,1,none⟩ (St c1));have hp:=HW1.out.put1 c1;rw[<-ht1] at hp;have HQ1:=hid hp;have HT:=hid ht1.symm;clear hp ht1;go_wp21;have h9:=HT.out;rw[show v1.setCell ⟨w.heap.size+1+1+1,1,none⟩ (.string ⟨c1.toArray⟩)=t1 from h9];clear h9 HT d0 d1 d2 z0 z1 z2 HW1;rw[rounds_succ];go_wp21;refine zc4 (λ(_:Unit) i=>([.int .i64 0,.pointer (some ⟨Y1,0,none⟩),St x0,.int .i64 1,.pointer (some ⟨Y2,1,none⟩),St y1,.tuple #[St p2,.int .i64 0],.tuple #[St p2,.int .i64 0],St p2,.int .i64 0,St p2,.int .i64 0]:List Value).getD i undef) (λ_ _ V=>qL t1 V) (by kernel_rfl) (by kernel_rfl) () ((zM _ t1).drew) λ_=>?_;refine qB (.int .i64 0) (λf W' h=>h) ?_;refine qB (.pointer (some ⟨Y1,0,none⟩)) (λf W' h=>h) ?_;refine qB (St x0) (λf W' h=>h) ?_ (hy:=λf W' hf h=>by obtain⟨d0,d1,d2, -⟩:=zah (zac h _ _ _ _ HQ1.out.h4);go_simp);simp only[zzQ];refine qB (.int .i64 1) (λf W' h=>h) ?_;refine qB (.pointer (some ⟨Y2,1,none⟩)) (λf W' h=>h) ?_;refine qB (St y1) (λf W' h=>h) ?_ (hy:=λf W' hf h=>by obtain⟨d0,d1,d2, -⟩:=zah (zac h _ _ _ _ HQ1.out.h5);go_simp);simp only[zzQ]
 refine zbv (.tuple #[St p2,.int .i64 0]) (by rfl) (by rfl) (λf W' hf h C' hC'=>by
  have hq:=P2.out W' (HQ1.out.bel.trans (h.mono HQ1.out.bel.size));go_simp;refine zzM hq λw' hb=>?_;exact⟨_,rfl,hC' _ (h.trans (hb.mono h.size))⟩) ?_
 refine qB (.tuple #[St p2,.int .i64 0]) (λf W' h=>h) ?_;refine qB (St p2) (λf W' h=>h) ?_;simp only[zzQ];refine qB (.int .i64 0) (λf W' h=>h) ?_;refine qB (St p2) (λf W' h=>h) ?_;refine qB (.int .i64 0) (λf W' h=>h) ?_;simp only[zzQ];refine ze1 λf r2 hf h=>?_;have HR2:=hid (HQ1.out.next h);clear h hf HQ1;go_wp21;refine zc4 (λ(_:Unit) i=>([.int .i64 1,.pointer (some ⟨Y1,1,none⟩),St x1,.int .i64 0,.pointer (some ⟨Y2,0,none⟩),St y0,.tuple #[St q2,.int .i64 0],.tuple #[St q2,.int .i64 0],St q2,.int .i64 0,St q2,.int .i64 0]:List Value).getD i undef) (λ_ _ V=>qL r2 V) (by kernel_rfl) (by kernel_rfl) () ((zM _ r2).drew) λ_=>?_;refine qB (.int .i64 1) (λf W' h=>h) ?_;refine qB (.pointer (some ⟨Y1,1,none⟩)) (λf W' h=>h) ?_;refine qB (St x1) (λf W' h=>h) ?_ (hy:=λf W' hf h=>by obtain⟨d0,d1,d2, -⟩:=zah (zac h _ _ _ _ HR2.out.h4);go_simp);simp only[zzQ];refine qB (.int .i64 0) (λf W' h=>h) ?_;refine qB (.pointer (some ⟨Y2,0,none⟩)) (λf W' h=>h) ?_;refine qB (St y0) (λf W' h=>h) ?_ (hy:=λf W' hf h=>by obtain⟨d0,d1,d2, -⟩:=zah (zac h _ _ _ _ HR2.out.h5);go_simp);simp only[zzQ]
 refine zbv (.tuple #[St q2,.int .i64 0]) (by rfl) (by rfl) (λf W' hf h C' hC'=>by
  have hq:=Q2.out W' (HR2.out.bel.trans (h.mono HR2.out.bel.size));go_simp;refine zzM hq λw' hb=>?_;exact⟨_,rfl,hC' _ (h.trans (hb.mono h.size))⟩) ?_
 refine qB (.tuple #[St q2,.int .i64 0]) (λf W' h=>h) ?_;refine qB (St q2) (λf W' h=>h) ?_;simp only[zzQ];refine qB (.int .i64 0) (λf W' h=>h) ?_;refine qB (St q2) (λf W' h=>h) ?_;refine qB (.int .i64 0) (λf W' h=>h) ?_;simp only[zzQ];refine ze1 λf s2 hf h=>?_;have HU2:=hid (HR2.out.next h);clear h hf HR2;have HC:=hid (S2.out s2 HU2.out.bel);go_wp21;refine zzM HC.out λv2 hb=>?_;have HW2:=hid (HU2.out.next hb);clear hb HC HU2;obtain⟨d0,d1,d2,z0,z1,z2⟩:=zah HW2.out.h3;obtain⟨t2,ht2⟩:=zzX (v2.setCell ⟨w.heap.size+1+1+1,2,none⟩ (St c2));have hp:=HW2.out.put2 c2;rw[<-ht2] at hp;have HQ2:=hid hp;have HT:=hid ht2.symm;clear hp ht2;go_wp21;have h9:=HT.out;rw[show v2.setCell ⟨w.heap.size+1+1+1,2,none⟩ (.string ⟨c2.toArray⟩)=t2 from h9];clear h9 HT d0 d1 d2 z0 z1 z2 HW2;rw[rounds_succ];obtain⟨d0,d1,d2, -, -, -⟩:=zah HQ2.out.h3;go_wp21;clear d0 d1 d2;refine zzM (zlf c0 c1 c2 t2) λr3 hb=>?_;have hn:=HQ2.out.next hb;obtain⟨d0,d1,d2,z0,z1,z2⟩:=zah hn.h2;have HF:=hid hn;clear hn hb HQ2;go_wp21;have hf:=HF.out.bel;exact bodyPost_ret (v:=.tuple #[.agg #[St c0,St c1,St c2],.int .i64 0]) (by simp[results,Tryz.results134,go_sem,d0,d1,d2]) rfl ⟨rfl,((hf.setCell (p:=⟨w.heap.size+1+1,0,none⟩) (by show _<=w.heap.size+1+1;omega) _).setCell (p:=⟨w.heap.size+1+1,1,none⟩) (by show _<=w.heap.size+1+1;omega) _).setCell (p:=⟨w.heap.size+1+1,2,none⟩) (by show _<=w.heap.size+1+1;omega) _⟩
end
section
open Go.RowKit Go.Shelf Lib Str Limb
theorem zsb:∀args w,(callFunc 10 args).run zF w=.ok (.enter 10 args) w:=enters_of Tryz.func10 (by kernel_rfl) rfl
def sz3 (a b c:Rat) (k:Nat):Prop:=sz a k/\sz b k/\sz c k
theorem sz3.mono {a b c:Rat} {i j:Nat} (h:sz3 a b c i) (hij:i<=j):sz3 a b c j:=⟨h.1.mono hij,h.2.1.mono hij,h.2.2.mono hij⟩
theorem zf7 (a b c:Rat) (h:sz3 a b c 140) (w:zA) (hw:Wd w):qJ 52 #[.agg #[St (numS a),St (numS b),St (numS c)]] w (.int .i64 0):=
 zgk _ _ _ (hid λV hV=>zfj a (zd0 (by omega) (by omega) h.1) V hV) (hid λV hV=>zfj b (zd0 (by omega) (by omega) h.2.1) V hV) (hid λV hV=>zfj c (zd0 (by omega) (by omega) h.2.2) V hV) w (hid hw)
theorem zlv (a b c d e f:Rat) (h:sz3 a b c 60) (h':sz3 d e f 60) (w:zA) (hw:Wd w):qJ 107 #[.agg #[St (numS a),St (numS b),St (numS c)],.agg #[St (numS d),St (numS e),St (numS f)]] w (.int .i64 0):=
 zon _ _ _ _ _ _ w (hid λW hW=>zf7 a b c (h.mono (by omega)) W (hw.below hW)) (hid λW hW=>zf7 d e f (h'.mono (by omega)) W (hw.below hW))
theorem zho (a b c d e f:Rat) (h:sz3 a b c 140) (h':sz3 d e f 140) (w:zA) (hw:Wd w):zC zF 137 #[.agg #[St (numS a),St (numS b),St (numS c)],.agg #[St (numS d),St (numS e),St (numS f)],.func (.func 10) #[] #[]] w λe' w'=>e'=.returned (.tuple #[.agg #[St (numS (a*d)),St (numS (b*e)),St (numS (c*f))],.int .i64 0])/\zB w.heap.size w w':=
 zoo _ _ _ _ _ _ _ _ _ _ zsb w (hid λW hW=>zjf a d 140 140 (by omega) (by omega) (by omega) h.1 h'.1 W (hw.below hW)) (hid λW hW=>zjf b e 140 140 (by omega) (by omega) (by omega) h.2.1 h'.2.1 W (hw.below hW)) (hid λW hW=>zjf c f 140 140 (by omega) (by omega) (by omega) h.2.2 h'.2.2 W (hw.below hW))
theorem zt4 (a b c d e f:Rat) (h:sz3 a b c 40) (h':sz3 d e f 40) (w:zA) (hw:Wd w):zC zF 47 #[.agg #[St (numS a),St (numS b),St (numS c)],.agg #[St (numS d),St (numS e),St (numS f)]] w λe' w'=>e'=.returned (.tuple #[St (numS (a*d+b*e+c*f)),.int .i64 0])/\zB w.heap.size w w':=
 zll _ _ _ _ _ _ _ w (hid λW hW=>zlv a b c d e f (h.mono (by omega)) (h'.mono (by omega)) W (hw.below hW))
  (hid λW hW=>zqa _ _ _ _ _ _ _ _ _ (numS (a*d+b*e)) _ W (hid λV hV=>zho a b c d e f (h.mono (by omega)) (h'.mono (by omega)) V ((hw.below hW).below hV))
    (hid λV hV=>zje (a*d) (b*e) 80 80 (by omega) (by omega) (by omega) (zca h.1 h'.1) (zca h.2.1 h'.2.1) V ((hw.below hW).below hV))
    (hid λV hV=>zje (a*d+b*e) (c*f) 161 80 (by omega) (by omega) (by omega) (zk0 (zca h.1 h'.1) (zca h.2.1 h'.2.1)) (zca h.2.2 h'.2.2) V ((hw.below hW).below hV)))
theorem zs6 (a b c d e f:Rat) (h:sz3 a b c 30) (h':sz3 d e f 30) (w:zA) (hw:Wd w):zC zF 47 #[.agg #[St (numS a),St (numS b),St (numS c)],.agg #[St (numS d),St (numS e),St (numS f)]] w λe' w'=>e'=.returned (.tuple #[St (numS (a*d+b*e+c*f)),.int .i64 0])/\zB w.heap.size w w':=zt4 a b c d e f (h.mono (by omega)) (h'.mono (by omega)) w hw
theorem zgs (a b c d e f:Rat) (h:sz3 a b c 30) (h':sz3 d e f 30) (w:zA) (hw:Wd w):zC zF 81 #[.agg #[St (numS a),St (numS b),St (numS c)],.agg #[St (numS d),St (numS e),St (numS f)]] w λe' w'=>e'=.returned (.tuple #[.agg #[St (numS (b*f-c*e)),St (numS (c*d-a*f)),St (numS (a*e-b*d))],.int .i64 0])/\zB w.heap.size w w':=
 zjm _ _ _ _ _ _ _ _ _ w (hid λW hW=>zlv a b c d e f (h.mono (by omega)) (h'.mono (by omega)) W (hw.below hW))
  (hid λW hW=>by
    have M:∀(x y:Rat),sz x 30->sz y 30->Hid (∀V:zA,qL W V->qJ 10 #[St (numS x),St (numS y)] V (.tuple #[St (numS (x*y)),.int .i64 0])):=λx y hx hy=>hid λV hV=>zjf x y 30 30 (by omega) (by omega) (by omega) hx hy V ((hw.below hW).below hV);have S:∀(x y z t:Rat),sz x 30->sz y 30->sz z 30->sz t 30->Hid (∀V:zA,qL W V->qJ 132 #[St (numS (x*y)),St (numS (z*t))] V (.tuple #[St (numS (x*y-z*t)),.int .i64 0])):=λx y z t hx hy hz ht=>hid λV hV=>ztz (x*y) (z*t) 60 60 (by omega) (by omega) (by omega) (zca hx hy) (zca hz ht) V ((hw.below hW).below hV);exact zm3 _ _ _ _ _ _ _ _ _ _ _ _ _ _ _ W (M b f h.2.1 h'.2.2) (M c e h.2.2 h'.2.1) (S b f c e h.2.1 h'.2.2 h.2.2 h'.2.1) (M c d h.2.2 h'.1) (M a f h.1 h'.2.2) (S c d a f h.2.2 h'.1 h.1 h'.2.2) (M a e h.1 h'.2.1) (M b d h.2.1 h'.1) (S a e b d h.1 h'.2.1 h.2.1 h'.1))
theorem zf8 (a b c x:Rat) (h:sz3 a b c 140) (hx:sz x 140) (w:zA) (hw:Wd w):zC zF 83 #[.agg #[St (numS a),St (numS b),St (numS c)],St (numS x)] w λe' w'=>e'=.returned (.tuple #[.agg #[St (numS (a*x)),St (numS (b*x)),St (numS (c*x))],.int .i64 0])/\zB w.heap.size w w':=
 zj3 _ _ _ _ _ _ _ w (hid λW hW=>zf7 a b c h W (hw.below hW)) (hid λW hW=>zfj x (zd0 (by omega) (by omega) hx) W (hw.below hW)) (hid λW hW=>zho a b c x x x h ⟨hx,hx,hx⟩ W (hw.below hW))
end
end Go.Proofs.YtgeapfaiacoajaaGreatDoor
