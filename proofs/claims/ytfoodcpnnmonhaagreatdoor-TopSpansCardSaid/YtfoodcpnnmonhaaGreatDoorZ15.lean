/- kingpostref04.Check of a surd of one term that is normal. -/
import Derived.Test.YtfoodcpnnmonhaaGreatDoorZ14
set_option maxRecDepth 100000
set_option maxHeartbeats 8000000
open Go renaming World → zA, Calls → zC
open Go.RowKit renaming Below → zB, intOf → zL
open Go.Lib renaming decDigits → zD, itoa → zE
open Go.Proofs.Tryz renaming prog → zF
open Go.World renaming alloc_heap_new → zG, size_alloc → zH
open Go.IntWalk renaming i64_in → zI
open Go.Joins renaming cell_of_block → zJ, block_setCell → zK
open Go.RowKit.Below renaming refl → zM, heap_setCell → yE
open Nat renaming le_refl → zN, le_trans → zO, zero_le → zR, lt_of_lt_of_le → zS, pow_le_pow_right → yF
open List renaming getElem?_eq_getElem → yB
namespace Go.Proofs.YtfoodcpnnmonhaaGreatDoor
section
open Go.RowKit Go.Shelf Lib Str Limb Geo
attribute [local go_sem] Oper.semAt_some
theorem z8d (q:Rat) (most:Nat) (hm0:0<most) (hok:okN q) (hs:¬sz q most) (w:zA) (hw:Wd w):
 qJ 156 #[St (numS q),.int .i64 (most:Int)] w (.bool true):=by
 have hc:=zp5 q hok w hw;have dd:most<digs q.num\/most<(zD q.den).length:=by
  rcases Nat.lt_or_ge most (digs q.num) with h|h
  ·exact .inl h
  ·rcases Nat.lt_or_ge most (zD q.den).length with g|g
   ·exact .inr g
   ·exact absurd ⟨(za3 _ _ hm0).1 h,(zaf _ _ hm0).1 g⟩ hs
 obtain⟨s,hse⟩:=zzX (⟨(zE q.num).toArray⟩:ByteArray);obtain⟨h0,h1,h2⟩:=zp6 q.num s hse;have hsz:s.size=(zE q.num).length:=by rw[hse];show(zE q.num).toArray.size=_;simp
 have hl:=zqo q.num;obtain⟨t,ht⟩:=zzX (⟨(zD q.den).toArray⟩:ByteArray);have hts:t.size=(zD q.den).length:=by rw[ht];show(zD q.den).toArray.size=_;simp
 rw[<-hts] at dd;rw[show St (zE q.num)=.string s by rw[hse],show St (zD q.den)=.string t by rw[ht]] at hc;have HC:=hid hc;have hs0:(0:Int)<(s.size:Int):=by omega
 clear hc hw ht;generalize numS q=x at*
 by_cases hn:q.num<0
 ·have hb:(((s[0]'h0).toNat:Int)==45)=true:=by rw[h1,decide_eq_true hn]
  have he:=h2 hn;have hus:(⟨(zD q.num.natAbs).toArray⟩:ByteArray).size=digs q.num:=by show(zD q.num.natAbs).toArray.size=_;unfold digs;simp
  generalize (⟨(zD q.num.natAbs).toArray⟩:ByteArray)=u at*
  have HD:=hid (show most<u.size\/most<t.size by rw[hus];exact dd);have hs1:(1:Int)<=(s.size:Int):=by omega
  clear h1 h2 hl hse hsz dd hn hts hus;go_enter Tryz.func156,Tryz.ntmps156;go_wp21;refine zzM HC.out λw1 hb1=>?_;have HB:=hid hb1;clear hb1;go_wp21
  all_goals
   go_ret;exact⟨by have hd:=HD.out;first|rfl|(simp;omega),HB.out⟩
 ·have hb:(((s[0]'h0).toNat:Int)==45)=false:=by rw[h1,decide_eq_false hn]
  have HD:=hid (show most<s.size\/most<t.size by
   rw[if_neg hn] at hl;rcases dd with h|h
   ·exact .inl (by omega)
   ·exact .inr h)
  clear h1 h2 hl hse hsz dd hn hts;go_enter Tryz.func156,Tryz.ntmps156;go_wp21;refine zzM HC.out λw1 hb1=>?_;have HB:=hid hb1;clear hb1;go_wp21
  all_goals
   go_ret;exact⟨by have hd:=HD.out;first|rfl|(simp;omega),HB.out⟩
theorem z6u (x y:List UInt8) (l1 l2:Bool) (hl:(l1||l2)=true) (hx:(x==[48])=false)
 (C1:Hid (qK 139 #[St x] (.int .i64 0)))
 (C2:Hid (qK 139 #[St y] (.int .i64 0)))
 (L1:Hid (qK 156 #[St x,.int .i64 60] (.bool l1)))
 (L2:Hid (qK 156 #[St y,.int .i64 40] (.bool l2)))
 (w:zA) (HW:Hid (Wd w)):
 zC zF 92 #[.agg #[St x,St y]] w (ErrP w False):=by
 obtain⟨s,hs⟩:=zzX (⟨x.toArray⟩:ByteArray);obtain⟨t,ht⟩:=zzX (⟨y.toArray⟩:ByteArray);have es:s.toList=x:=by rw[hs,ByteArray.toList_eq]
 rw[show St x=.string s by rw[hs],show St y=.string t by rw[ht]] at*
 rw[<-es] at hx;clear es hs ht;obtain⟨W0,hW0⟩:=zzX (w.alloc (.cells #[.string s,.string t] 49));have K0:=hid (show BxT w s t W0 by rw[hW0];exact BxT.start w s t);obtain⟨c0,c1⟩:=K0.out.cx;rw[hW0] at c0 c1;have H9:=hid hW0.symm;clear hW0;go_enter Tryz.func92,Tryz.ntmps92;go_wp21;rw[H9.out];clear c0 c1 H9;refine zzM (C1.out W0 (HW.out.below K0.out.bel)) λw1 hb1=>?_;have K1:=hid (K0.out.next hb1);clear hb1 K0 C1;obtain⟨c0,c1⟩:=K1.out.cx;go_wp21;clear c0 c1;refine zzM (C2.out w1 (HW.out.below K1.out.bel)) λw2 hb2=>?_;have K2:=hid (K1.out.next hb2);clear hb2 K1 C2;obtain⟨c0,c1⟩:=K2.out.cx;go_wp21;clear c0 c1;refine zzM (L1.out w2 (HW.out.below K2.out.bel)) λw3 hb3=>?_;have K3:=hid (K2.out.next hb3);clear hb3 K2 L1;obtain⟨c0,c1⟩:=K3.out.cx;cases l1
 ·have h2:l2=true:=by simpa using hl
  subst h2;clear hl;go_wp21;clear c0 c1;refine zzM (L2.out w3 (HW.out.below K3.out.bel)) λw4 hb4=>?_;have K4:=hid (K3.out.next hb4);clear hb4 K3 L2;go_wp21;go_ret;exact⟨_,rfl,(λh=>by cases h),K4.out.bel⟩
 ·clear hl L2
  go_wp21;go_ret;exact⟨_,rfl,(λh=>by cases h),K3.out.bel⟩
theorem z6x (c:Rat) (n:Nat) (hc:c≠0) (oc:okN c) (n0:0<n) (on:okN (n:Rat)) (hn:zn7 n=(1,n)) (w:zA) (hw:Wd w):
 zC zF 92 #[.agg #[St (numS c),St (zD n)]] w (ErrP w (sz c 60/\n<10^40)):=by
 have d1:zD 1=[49]:=by rw[zae (by omega)];rfl
 have C1:=hid λW hW=>zgv c oc W hW;have C2:=λW hW=>zgv (n:Rat) on W hW;rw[zhe] at C2;have hx:=zsf hc;have long:∀(q:Rat) (most:Nat),0<most->most<=200->okN q->∀W,Wd W->qJ 156 #[St (numS q),.int .i64 (most:Int)] W (.bool (!decide (sz q most))):=λq most h1 h2 oq W hW=>by
  by_cases h:sz q most
  ·rw[decide_eq_true h];exact z7d q most most h2 oq h1 h (zN _) W hW
  ·rw[decide_eq_false h];exact z8d q most h1 oq h W hW
 have L2:=λW hW=>long (n:Rat) 40 (by omega) (by omega) on W hW;rw[zhe] at L2;by_cases g:sz c 60/\sz (n:Rat) 40
 ·have n4:n<10^40:=by have:=g.2.1;rwa [show((n:Rat)).num=(n:Int) from rfl,Int.natAbs_natCast] at this
  have PT:=λW hW=>zp5 (n:Rat) on W hW;rw[zhe,show((n:Rat)).num=(n:Int) from rfl,Str.zad,show((n:Rat)).den=1 from rfl] at PT;have L1:=λW hW=>long c 60 (by omega) (by omega) oc W hW;rw[decide_eq_true g.1] at L1;rw[decide_eq_true g.2] at L2;have CM:=λW hW=>z7c (n:Rat) 0 40 1 (by omega) (by omega) (by omega) g.2 (zd2 1 (by omega)) W hW;rw[zhe,zie] at CM;have NR:=λW hW=>zvl (n:Rat) (by exact_mod_cast n0) (g.2.mono (by omega)) W hW;rw[show((n:Rat)).num.natAbs*((n:Rat)).den=n by show((n:Int)).natAbs*1=n;omega,hn,zhe,show((n:Rat)).den=1 from rfl,show(((1:Nat):Rat)/((1:Nat):Rat))=((1:Nat):Rat) by decide+kernel,zhe] at NR;refine(z3x (numS c) (zD n) (zD n) (zD 1) (zD 1) (zD n) (cmpR (n:Rat) 0) (sz c 60/\n<10^40) C1 (hid C2) (hid L1) (hid L2) (hid PT) (hid CM) (hid λ_ _ _ _=>⟨g.1,n4⟩) (hid λ_ _ _ _=>⟨λ_ _=>⟨g.1,n4⟩,NR⟩) w (hid hw))
 ·refine(z6u (numS c) (zD n) _ _ ?_ hx C1 (hid C2) (hid λW hW=>long c 60 (by omega) (by omega) oc W hW) (hid L2) w (hid hw)).mono λe w' ⟨r,h1,h2,h3⟩=>⟨r,h1,λh=>(h2 h).elim,h3⟩
  rcases Decidable.not_and_iff_or_not.1 g with h|h
  ·rw[decide_eq_false h];rfl
  ·rw[decide_eq_false h];simp
end
section
open Go.RowKit Go.Shelf Lib Str Limb Geo
theorem z5l {n d:Int} (hd:d≠0):(Rat.divInt n d).num.natAbs<=n.natAbs/\(Rat.divInt n d).den<=d.natAbs:=by
 rw[zes _ _ hd];have hk:d.natAbs≠0:=by omega
 constructor
 ·rw[Rat.num_mkRat,if_neg hk]
  have:(if d<0 then-n else n).natAbs=n.natAbs:=by split<;>omega
  rw[Int.natAbs_ediv_of_dvd (Int.ofNat_dvd_left.2 (Nat.gcd_dvd_right _ _)),this];exact Nat.div_le_self _ _
 ·rw[Rat.den_mkRat,if_neg hk]
  exact Nat.div_le_self _ _
def szE (q:Rat) (i j:Nat):Prop:=q.num.natAbs<10^i/\q.den<10^j
theorem z5m {a b:Rat} {i j k m:Nat} (ha:szE a i j) (hb:szE b k m) (u:Nat) (h1:i+m=u) (h2:k+j=u):szE (a+b) (u+1) (j+m):=by
 have c1:=zcc ha.1 hb.2;have c2:=zcc hb.1 ha.2;have c3:=zcc ha.2 hb.2;rw[h1] at c1;rw[h2] at c2;have:=a.den_nz;have:=b.den_nz;obtain⟨d1,d2⟩:=z5l (n:=a.num*b.den+b.num*a.den) (d:=((a.den*b.den:Nat):Int)) (by simp;omega);rw[zf0];refine⟨Nat.lt_of_le_of_lt d1 ?_,Nat.lt_of_le_of_lt d2 (by rw[Int.natAbs_natCast];exact c3)⟩;refine Nat.lt_of_le_of_lt (Int.natAbs_add_le _ _) ?_;rw[ze0,ze0];exact zuz c1 c2
theorem z5n {a b:Rat} {i j k m:Nat} (ha:szE a i j) (hb:szE b k m):szE (a*b) (i+k) (j+m):=by
 have:=a.den_nz;have:=b.den_nz;obtain⟨d1,d2⟩:=z5l (n:=a.num*b.num) (d:=((a.den*b.den:Nat):Int)) (by simp;omega);rw[zf1];exact⟨Nat.lt_of_le_of_lt d1 (by rw[Int.natAbs_mul];exact zcc ha.1 hb.1),Nat.lt_of_le_of_lt d2 (by rw[Int.natAbs_natCast];exact zcc ha.2 hb.2)⟩
theorem z9p {a b c d:Rat} (ha:szE a 12 10) (hb:szE b 12 10) (hc:szE c 12 10) (hd:szE d 12 10):sz ((a-b)*(a-b)+(c-d)*(c-d)) 87:=by
 have sub:∀{a b:Rat},szE a 12 10->szE b 12 10->szE (a-b) 23 20:=λ{a b} ha hb=>by
  rw[Rat.sub_eq_add_neg];exact z5m (k:=12) (m:=10) ha ⟨by simpa using hb.1,by simpa using hb.2⟩ 22 rfl rfl
 have s1:=sub ha hb;have s2:=sub hc hd;have:=z5m (z5n s1 s1) (z5n s2 s2) 86 rfl rfl;exact⟨this.1,zS this.2 (yF (by omega) (by omega))⟩
theorem z9q {q:Rat} (h:(numS q).length<=12):q.den<10^10:=by
 by_cases h1:q.den=1
 ·rw[h1];decide
 ·rw[zid h1] at h
  simp at h;have:=zbr q.num;have h2:=zbn q.num;exact(zaf _ 10 (by omega)).1 (by omega)
theorem zk9 (b:ByteArray):(⟨b.toList.toArray⟩:ByteArray)=b:=by rw[ByteArray.toList_eq]
theorem zon (b:ByteArray):b.toList.length=b.size:=by rw[ByteArray.toList_eq];rfl
def sE3 (a b c:Rat):Prop:=szE a 12 10/\szE b 12 10/\szE c 12 10
theorem szE.sz {q:Rat} (h:szE q 12 10):sz q 12:=⟨h.1,zS h.2 (yF (by omega) (by omega))⟩
theorem sE3.sz3 {a b c:Rat} (h:sE3 a b c) {k:Nat} (hk:12<=k):sz3 a b c k:=⟨h.1.sz.mono hk,h.2.1.sz.mono hk,h.2.2.sz.mono hk⟩
theorem ya1 {q:Rat} (h:(numS q).length<=12):szE q 12 10:=⟨(z31 (by omega) h).1,z9q h⟩
theorem z8e {b:ByteArray} {q:Rat} (hb:b.size<=12) (h:b.toList=numS q):b=nB q/\szE q 12 10:=by
 rw[<-zon,h] at hb;exact⟨by unfold nB;rw[<-h,zk9],ya1 hb⟩
theorem ErrP.imp {w w':zA} {G H:Prop} {e:Ending} (h:ErrP w G e w') (g:G->H):ErrP w H e w':=let ⟨r,h1,h2,h3⟩:=h;⟨r,h1,λh=>g (h2 h),h3⟩
theorem RunO.imp {w w':zA} {P Q:Option Addr->Nat->Nat->zA->Prop} {e:Ending} (h:RunO w P e w') (g:∀p n c,P p n c w'->Q p n c w'):RunO w Q e w':=let ⟨p,n,c,r,h1,h2,h3⟩:=h;⟨p,n,c,r,h1,h2,λh=>g _ _ _ (h3 h)⟩
theorem zyl (b:ByteArray) (hb:b.size<=12) (w:zA) (hw:Wd w):zC zF 139 #[.string b] w (ErrP w (∃q,b=nB q/\szE q 12 10)):=by
 have h:=zt5 b.toList (by rw[zon];omega) w hw;rw[show St b.toList=.string b by show Value.string ⟨b.toList.toArray⟩=_;rw[zk9]] at h;exact h.mono λe w' ⟨r,h1,h2,h3⟩=>⟨r,h1,λh=>let ⟨q,hq,_⟩:=h2.1 h;⟨q,z8e hb hq⟩,h3⟩
theorem r9E (X Y Z:ByteArray) (hX:X.size<=12) (hY:Y.size<=12) (hZ:Z.size<=12) (w:zA) (hw:Wd w):
 zC zF 77 #[.agg #[.string X,.string Y,.string Z]] w (ErrP w (∃a b c:Rat,X=nB a/\Y=nB b/\Z=nB c/\sE3 a b c)):=
 (z9h X Y Z _ _ _ w (hid λW hW=>zyl X hX W (hw.below hW)) (hid λW hW=>zyl Y hY W (hw.below hW)) (hid λW hW=>zyl Z hZ W (hw.below hW))).mono
   λ_ _ h=>h.imp λ⟨⟨a,ha,sa⟩,⟨b,hb,sb⟩,⟨c,hc,sc⟩⟩=>⟨a,b,c,ha,hb,hc,sa,sb,sc⟩
theorem z3l (a b c:Rat) (h:sE3 a b c) (w:zA) (hw:Wd w):qJ 78 #[.agg #[.string (nB a),.string (nB b),.string (nB c)]] w (.bool false):=by
 have one:∀q:Rat,szE q 12 10->Hid (∀W:zA,qL w W->qJ 140 #[.string (nB q)] W (.bool false)):=λq h=>hid λW hW=>
  z6i q 12 (zoo (k:=12) (by omega) (by omega) h.sz) (by omega) h.sz (by omega) W (hw.below hW)
 exact z11 _ _ _ w (one a h.1) (one b h.2.1) (one c h.2.2)
structure MSh (x:Mrat):Prop where
 s1:sE3 x.a0 x.a1 x.a2
 s2:sE3 x.b0 x.b1 x.b2
structure Mbr.short (m:Mbr):Prop where
 a0:m.a0.size<=12
 a1:m.a1.size<=12
 a2:m.a2.size<=12
 b0:m.b0.size<=12
 b1:m.b1.size<=12
 b2:m.b2.size<=12
theorem z00 (m:Mbr) (hs:m.short) (w:zA) (hw:Wd w):zC zF 42 #[m.v] w (ErrP w (∃x:Mrat,x.m=m/\MOk x/\MSh x)):=by
 refine(z12 m _ _ w (hid λW hW=>r9E _ _ _ hs.a0 hs.a1 hs.a2 W (hw.below hW)) (hid λW hW=>r9E _ _ _ hs.b0 hs.b1 hs.b2 W (hw.below hW)) (hid λ⟨a,b,c,ha,hb,hc,s⟩ W hW=>?_) (hid λ⟨a,b,c,ha,hb,hc,s⟩ W hW=>?_)).mono λe w' h=>h.imp ?_
 ·rw[ha,hb,hc];exact z3l a b c s W (hw.below hW)
 ·rw[ha,hb,hc];exact z3l a b c s W (hw.below hW)
 ·rintro⟨hk,hf,ho,hwd,hdp,⟨a,b,c,ha,hb,hc,s⟩,⟨a',b',c',ha',hb',hc',s'⟩,hE⟩
  refine⟨⟨m.k,m.f,m.o,a,b,c,a',b',c',m.wd,m.dp⟩,?_,⟨hk,hf,ho,hwd,hdp,?_,s.sz3 (by omega),s'.sz3 (by omega)⟩,⟨s,s'⟩⟩
  ·show Mbr.mk m.k m.f m.o (nB a) (nB b) (nB c) (nB a') (nB b') (nB c') m.wd m.dp=m
   rw[<-ha,<-hb,<-hc,<-ha',<-hb',<-hc']
  ·rintro⟨e0,e1,e2⟩
   have e0:a=a':=e0;have e1:b=b':=e1;have e2:c=c':=e2;unfold Mbr.eqB at hE;rw[ha,hb,hc,ha',hb',hc',e0,e1,e2] at hE;simp at hE
theorem z6z (a b c:Rat) (h:sz3 a b c 60) (w:zA) (hw:Wd w):qJ 77 #[.agg #[.string (nB a),.string (nB b),.string (nB c)]] w (.int .i64 0):=
 z2h (numS a) (numS b) (numS c) (hid λW hW=>zgv a (zoo (k:=60) (by omega) (by omega) h.1) W hW) (hid λW hW=>zgv b (zoo (k:=60) (by omega) (by omega) h.2.1) W hW) (hid λW hW=>zgv c (zoo (k:=60) (by omega) (by omega) h.2.2) W hW) w (hid hw)
theorem yb9 (a b c d e f:Rat) (h:sz3 a b c 12) (h':sz3 d e f 12) (w:zA) (hw:Wd w):zC zF 43 #[.agg #[.string (nB a),.string (nB b),.string (nB c)],.agg #[.string (nB d),.string (nB e),.string (nB f)]] w λe' w'=>e'=.returned (.tuple #[.agg #[.string (nB (a-d)),.string (nB (b-e)),.string (nB (c-f))],.int .i64 0])/\zB w.heap.size w w':=
 z6k _ _ _ _ _ _ _ _ _ w (hid λW hW=>zp9 _ _ _ _ _ _ W (hid λV hV=>z6z a b c (h.mono (by omega)) V ((hw.below hW).below hV)) (hid λV hV=>z6z d e f (h'.mono (by omega)) V ((hw.below hW).below hV)))
  (hid λW hW=>yfp a d 12 12 (by omega) (by omega) (by omega) h.1 h'.1 W (hw.below hW)) (hid λW hW=>yfp b e 12 12 (by omega) (by omega) (by omega) h.2.1 h'.2.1 W (hw.below hW)) (hid λW hW=>yfp c f 12 12 (by omega) (by omega) (by omega) h.2.2 h'.2.2 W (hw.below hW))
theorem yca (x y z q:Rat) (hx:sz x 40) (hy:sz y 40) (hz:sz z 40) (hq:x*x+y*y+z*z=q) (w:zA) (hw:Wd w):qJ 44 #[.agg #[.string (nB x),.string (nB y),.string (nB z)],.agg #[.string (nB x),.string (nB y),.string (nB z)]] w (.tuple #[.string (nB q),.int .i64 0]):=by
 rw[<-hq];have s1:=zca hx hx;have s2:=zca hy hy;have s3:=zca hz hz;have s4:=zk0 s1 s2;have ck:∀V:zA,Wd V->_:=λV hV=>z6z x y z ⟨hx.mono (by omega),hy.mono (by omega),hz.mono (by omega)⟩ V hV;exact z6m (nB x) (nB y) (nB z) (nB (x*x)) (nB (y*y)) (nB (z*z)) (nB (x*x+y*y)) (nB (x*x+y*y+z*z)) w (hid λW hW=>zp9 _ _ _ _ _ _ W (hid λV hV=>ck V ((hw.below hW).below hV)) (hid λV hV=>ck V ((hw.below hW).below hV)))
  (hid λV hV=>yfr x x 40 40 (by omega) (by omega) (by omega) hx hx V (hw.below hV)) (hid λV hV=>yfr y y 40 40 (by omega) (by omega) (by omega) hy hy V (hw.below hV)) (hid λV hV=>yfr z z 40 40 (by omega) (by omega) (by omega) hz hz V (hw.below hV))
  (hid λV hV=>z3a (x*x) (y*y) 80 80 (by omega) (by omega) (by omega) s1 s2 V (hw.below hV))
  (hid λV hV=>z3a (x*x+y*y) (z*z) 161 80 (by omega) (by omega) (by omega) s4 s3 V (hw.below hV))
theorem ycb {q:Rat} {k n:Nat} (h0:0<q) (h:sz q k) (hn2:k+k=n):sz (rtC q) k/\rtR q<10^n:=by
 rw[<-hn2];clear hn2;obtain⟨-,hn⟩:=z9b h0;have hd:0<q.den:=q.den_pos;obtain⟨e,p1,p2,e2⟩:=zf5 (Nat.mul_pos hn hd);unfold rtC rtR;generalize zn7 (q.num.natAbs*q.den)=x at*
 have hN:q.num.natAbs*q.den<10^(k+k):=zcc h.1 h.2;have hC:x.1<10^k:=by
  refine Nat.lt_of_not_le λhc=>?_;have h3:=Nat.mul_le_mul hc hc;rw[<-Nat.pow_add] at h3;have h5:=Nat.le_mul_of_pos_right (x.1*x.1) p2;omega
 have hL:x.2<=q.num.natAbs*q.den:=by rw[<-e];exact Nat.le_mul_of_pos_left _ (Nat.mul_pos p1 p1)
 refine⟨?_,Nat.lt_of_le_of_lt hL hN⟩;rw[show((x.1:Nat):Rat)/((q.den:Nat):Rat)=Rat.divInt (x.1:Int) (q.den:Int) by rw[Rat.divInt_eq_div];rfl];exact zig (by omega) (by rw[Int.natAbs_natCast];exact hC) (by rw[Int.natAbs_natCast];exact h.2)
theorem ycc (x y q:Rat) (hx:sz x 40) (hy:sz y 40) (hq:x*x+y*y=q) (h0:0<=q) (sq:sz q 90) (w:zA) (hw:Wd w):
 zC zF 22 #[.agg #[.string (nB x),.string (nB y),.string ⟨#[48]⟩]] w (RunO w λp n c W=>LenK q/\SdL (.slice p n c) (lenL q) W):=by
 have s0:sz 0 40:=⟨by decide,by decide⟩;have n0:(⟨#[48]⟩:ByteArray)=nB 0:=by unfold nB;rw[nm0]
 have DO:∀W:zA,qL w W->_:=λW hW=>yca x y 0 q hx hy s0 (by grind) W (hw.below hW);rw[n0];by_cases z:q=0
 ·refine(z4f (nB x) (nB y) (nB 0) w (hid λW hW=>?_)).mono λe w' ⟨h1,h2⟩=>⟨none,0,0,0,h1,h2,λ_=>⟨.inl z,?_⟩⟩
  ·have h9:=DO W hW
   rw[z] at h9;rw[n0];exact h9
  ·unfold lenL;rw[if_pos z];exact SdL.nil w'
 ·have hp:0<q:=by grind
  obtain⟨p1,p2,e2, -⟩:=zef hp;obtain⟨c1,c2⟩:=ycb (n:=180) hp sq rfl;have c3:sz ((rtR q:Nat):Rat) 180:=by
   have one:(1:Nat)<10^180:=Nat.one_lt_pow (by omega) (by omega);exact⟨by rw[show(((rtR q:Nat):Rat)).num=(rtR q:Int) from rfl,Int.natAbs_natCast];exact c2,one⟩
  have TM:=λ(W:zA) (hW:Wd W)=>z6x (rtC q) (rtR q) (by grind) (zoo (k:=90) (by omega) (by omega) c1) p2 (zoo (k:=180) (by omega) (by omega) c3) e2 W hW;refine(z6n (nB x) (nB y) (nB 0) (nB q) (nB (rtC q)) ⟨(zD (rtR q)).toArray⟩ (z7w (by grind)) _ w (hid DO) (hid λW hW=>zvl q hp sq W (hw.below hW)) (hid λW b hW k0 k1=>z3y b 0 1 _ _ _ (hid TM) W (hid (hw.below hW)) (hid ⟨k0,k1⟩))).mono λe w' h=>h.imp ?_;rintro p n c ⟨g,b,rfl,rfl,hc,k0,k1⟩;refine⟨.inr g,?_⟩;unfold lenL;rw[if_neg z];exact zf4 hc k0 k1
theorem MSh.dx {x:Mrat} (h:MSh x):sz (x.b0-x.a0) 40/\sz (x.b1-x.a1) 40/\sz x.q 87:=
 ⟨(zfq h.s2.1.sz h.s1.1.sz).mono (by omega),(zfq h.s2.2.1.sz h.s1.2.1.sz).mono (by omega),z9p h.s2.1 h.s1.1 h.s2.2.1 h.s1.2.1⟩
theorem z3n (m:Mbr) (hs:m.short) (w:zA) (hw:Wd w):
 zC zF 8 #[m.v] w (RunO w λp n c W=>∃x:Mrat,x.m=m/\MOk x/\MSh x/\LenK x.q/\SdL (.slice p n c) (lenL x.q) W):=by
 by_cases h:∃x:Mrat,x.m=m/\MOk x/\MSh x
 ·obtain⟨x,rfl,ok,sh⟩:=h
  obtain⟨d0,d1,d2⟩:=sh.dx;refine(zrl x.m True (nB (x.b0-x.a0)) (nB (x.b1-x.a1)) (nB (x.b2-x.a2)) (λp n c W=>LenK x.q/\SdL (.slice p n c) (lenL x.q) W) w
   (hid λW hW=>zqa x.m True _ _ _ W (hid λV hV=>(z00 x.m hs V ((hw.below hW).below hV)).mono λe w' h=>h.imp λ_=>trivial) (hid λ_ V hV=>yb9 x.b0 x.b1 x.b2 x.a0 x.a1 x.a2 (sh.s2.sz3 (by omega)) (sh.s1.sz3 (by omega)) V ((hw.below hW).below hV)))
   (hid λ_ W hW=>ycc (x.b0-x.a0) (x.b1-x.a1) x.q d0 d1 rfl x.q_nn (d2.mono (by omega)) W (hw.below hW))).mono λe w' h=>h.imp λp n c g=>⟨x,rfl,ok,sh,g.2⟩
 ·refine(zrl m False (nB 0) (nB 0) (nB 0) (λ_ _ _ _=>False) w (hid λW hW=>zqa m False _ _ _ W (hid λV hV=>(z00 m hs V ((hw.below hW).below hV)).mono λe w' g=>g.imp λg=>h g) (hid λf=>f.elim)) (hid λf=>f.elim)).mono λe w' g=>g.imp λp n c g=>g.1.elim
theorem z3o {n:Nat} {q:Nat->AlR} (e:AlR->Bool) (hT:TabO n q):∀i,i<=n->0<=maxE e q i/\maxE e q i<=65536
 |0,_=>⟨Int.le_refl _,by show(0:Int)<=65536;omega⟩
 |i+1,hi=>by
  have h:=z3o e hT i (by omega);have ok:=(hT i (by omega)).1;have hx:1<=(q i).n/\(q i).n<=65536:=by unfold AlR.ok inB at ok;simp only[Bool.and_eq_true,decide_eq_true_eq] at ok;exact ok.2
  show 0<=(if e (q i)=true then max (maxE e q i) (q i).n else maxE e q i)/\(if e (q i)=true then max (maxE e q i) (q i).n else maxE e q i)<=65536;split<;>omega
theorem z5q {q:Nat->AlR} {e e':AlR->Bool} (h:∀x,e x=true->e' x=true):∀i,maxE e q i<=maxE e' q i
 |0=>Int.le_refl _
 |i+1=>by
  have g:=z5q (q:=q) h i;show(if e (q i)=true then max (maxE e q i) (q i).n else maxE e q i)<=(if e' (q i)=true then max (maxE e' q i) (q i).n else maxE e' q i);by_cases c:e (q i)=true
  ·rw[if_pos c,if_pos (h _ c)];omega
  ·rw[if_neg c];split<;>omega
theorem ybn {wd dp sp ld wd' dp' sp' ld':Int} (h1:wd<=wd') (h2:dp<=dp') (h3:sp'<=sp) (h4:ld'<=ld) (x:AlR) (h:enoB wd dp sp ld x=true):enoB wd' dp' sp' ld' x=true:=by
 unfold enoB at*
 simp only[Bool.and_eq_true,decide_eq_true_eq] at*
 omega
structure Tab (p:Option Addr) (n:Nat) (q:Nat->AlR) (w:zA):Prop where
 len:n<=4096
 ok:TabO n q
 row:RowAl p n q w
 low:∀b off,p=some ⟨b,off,none⟩->b<w.heap.size
theorem Tab.below {p:Option Addr} {n:Nat} {q:Nat->AlR} {w w':zA} (h:Tab p n q w) (hb:qL w w'):Tab p n q w':=⟨h.len,h.ok,h.row.keep hb,λb off e=>zS (h.low b off e) hb.size⟩
def alw (q:Nat->AlR) (n:Nat) (wd dp sp ld:Int):Nat:=(maxE (enoB wd dp sp ld) q n).toNat
theorem zgw {n:Nat} {q:Nat->AlR} (hT:TabO n q) (wd dp sp ld:Int):((alw q n wd dp sp ld:Nat):Int)=maxE (enoB wd dp sp ld) q n/\alw q n wd dp sp ld<=65536:=by
 have h:=z3o (enoB wd dp sp ld) hT n (zN _);unfold alw;omega
theorem ybo {n:Nat} {q:Nat->AlR} (hT:TabO n q) {wd dp sp ld wd' dp' sp' ld':Int} (h1:wd<=wd') (h2:dp<=dp') (h3:sp'<=sp) (h4:ld'<=ld):alw q n wd dp sp ld<=alw q n wd' dp' sp' ld':=by
 have:=(zgw hT wd dp sp ld).1;have:=(zgw hT wd' dp' sp' ld').1;have:=z5q (q:=q) (ybn h1 h2 h3 h4) n;omega
theorem z3p {p:Option Addr} {n:Nat} {q:Nat->AlR} {w:zA} (h:Tab p n q w) (cap:Nat) (wd dp sp ld:Int):
 qJ 29 #[.slice p n cap,.int .i64 wd,.int .i64 dp,.int .i64 sp,.int .i64 ld] w (.int .i64 (alw q n wd dp sp ld:Int)):=by
 rw[(zgw h.ok wd dp sp ld).1];exact z5w p cap n q h.len wd dp sp ld w h.low (hid h.row)
theorem ycd {p:Option Addr} {n:Nat} {q:Nat->AlR} {w:zA} (h:Tab p n q w) (cap:Nat) (wd dp sp ld:Int) (hs:secB wd dp sp ld=true):
 qJ 12 #[.slice p n cap,.int .i64 wd,.int .i64 dp,.int .i64 sp,.int .i64 ld] w (.tuple #[.int .i64 (alw q n wd dp sp ld:Int),.int .i64 (if(alw q n wd dp sp ld:Int)=0 then 25 else 0)]):=
 z7u p cap n wd dp sp ld _ w (hid λW hW=>zmx p cap n q h.len h.ok wd dp sp ld hs W (h.below hW).row) (hid λ_ hW=>z3p (h.below hW) cap wd dp sp ld)
theorem of1 (N:Nat) (hN:N<1000000000000000000) (w:zA) (hw:Wd w):qJ 13 #[.int .i64 (N:Int),.int .i64 1] w (.tuple #[.string (nB (N:Rat)),.int .i64 0]):=by
 have:=z7l N 1 (by omega) hN (by omega) w hw;rw[show(N:Rat)/((1:Nat):Rat)=(N:Rat) by grind] at this;exact this
theorem szN {N:Nat} {k:Nat} (hk:0<k) (h:N<10^k):sz (N:Rat) k:=⟨by rw[show((N:Rat)).num=(N:Int) from rfl,Int.natAbs_natCast];exact h,Nat.one_lt_pow (by omega) (by omega)⟩
def refB (q:Rat) (N:Nat):Bool:=decide (N=0)||decide ((N:Rat)*(N:Rat)<q)
structure MMe (y:Mrat):Prop where
 k:1<=y.k/\y.k<=5
 wd:1<=y.wd/\y.wd<=1000
 dp:1<=y.dp/\y.dp<=1000
 s1:sz3 y.a0 y.a1 y.a2 60
 s2:sz3 y.b0 y.b1 y.b2 60
 dx:sz (y.b0-y.a0) 40
 dy:sz (y.b1-y.a1) 40
theorem zr3 (y:Mrat) (hy:MMe y) {p:Option Addr} {n:Nat} {q:Nat->AlR} {w:zA} (hw:Wd w) (h:Tab p n q w) (cap:Nat) (sp ld:Int) (hs:secB 1 1 sp ld=true) (b cap1:Nat) (hm:MbS y.m b w):
 zC zF 10 #[.slice (some ⟨b,0,none⟩) 1 cap1,.slice p n cap,.int .i64 sp,.int .i64 ld] w λe w'=>∃p' n' c',e=.returned (.tuple #[.slice p' n' c',.int .i64 0])/\zB w.heap.size w w'/\MemO (refB y.q (alw q n y.wd y.dp sp ld)) p' n' c' w':=by
 obtain⟨e1,e2⟩:=zgw h.ok y.wd y.dp sp ld;have A:=λ(W:zA) (hW:qL w W)=>z3p (h.below hW) cap y.wd y.dp sp ld;generalize alw q n y.wd y.dp sp ld=N at*
 have hN:N*N<10^10:=by have:=Nat.mul_le_mul e2 e2;omega
 have s1:=zca hy.dx hy.dx;have s2:=zca hy.dy hy.dy;have hR:(((N:Int)==0)||decide (0<cmpR y.q ((N*N:Nat):Rat)))=refB y.q N:=by
  have g:decide (0<cmpR y.q ((N*N:Nat):Rat))=decide ((N:Rat)*(N:Rat)<y.q):=by
   rw[show((N*N:Nat):Rat)=(N:Rat)*(N:Rat) by exact_mod_cast rfl];rcases zaw y.q ((N:Rat)*(N:Rat)) with⟨h1,h2⟩|⟨h1,h2⟩|⟨h1,h2⟩
   ·rw[h2,decide_eq_false (by omega),decide_eq_false (by grind)]
   ·rw[h2,decide_eq_false (by omega),decide_eq_false (by grind)]
   ·rw[h2,decide_eq_true (by omega),decide_eq_true h1]
  rw[g];unfold refB;congr 1;by_cases z:N=0
  ·subst z;rfl
  ·rw[decide_eq_false z];exact beq_eq_false_iff_ne.2 (by omega)
 rw[<-hR]
 refine z2y y.m hy.k p cap n sp ld (N:Int) ((N*N:Nat):Int) _ (nB y.q) (nB ((N*N:Nat):Rat)) (by omega) (by exact_mod_cast rfl) b cap1 w (hid hm) (hid λW hW=>zmx p cap n q h.len h.ok 1 1 sp ld hs W (h.below hW).row)
  (hid λW hW=>z1z y.m hy.wd hy.dp W (hid λV hV=>zcl _ _ _ (hy.s1.mono (by omega)) V ((hw.below hW).below hV)) (hid λV hV=>zcl _ _ _ (hy.s2.mono (by omega)) V ((hw.below hW).below hV)))
  (hid λW hW=>?_) (hid A) (hid λW hW=>of1 (N*N) (by omega) W (hw.below hW)) (hid λW hW=>zgq y.q ((N*N:Nat):Rat) 161 10 (by omega) (by omega) (by omega) (zk0 s1 s2) (szN (by omega) hN) W (hw.below hW))
 exact z39 y.m (nB (y.b0-y.a0)) (nB (y.b1-y.a1)) (nB (y.b2-y.a2)) (nB ((y.b0-y.a0)*(y.b0-y.a0))) (nB ((y.b1-y.a1)*(y.b1-y.a1))) (nB y.q) W (hid λV hV=>z4u _ _ _ _ _ _ hy.s2 hy.s1 V ((hw.below hW).below hV))
  (hid λV hV=>zjf _ _ 40 40 (by omega) (by omega) (by omega) hy.dx hy.dx V ((hw.below hW).below hV)) (hid λV hV=>zjf _ _ 40 40 (by omega) (by omega) (by omega) hy.dy hy.dy V ((hw.below hW).below hV))
  (hid λV hV=>zje _ _ 80 80 (by omega) (by omega) (by omega) s1 s2 V ((hw.below hW).below hV))
theorem ya2 (q:Rat):Lib.hasPrefix (numS q) [45]=decide (q.num<0):=by
 rcases(show 0<=q.num\/q.num<0 by omega) with h|h
 ·rw[zqc q h,decide_eq_false (by omega)]
 ·rw[decide_eq_true h]
  by_cases h1:q.den=1
  ·rw[zmu h1];exact zkf h
  ·rw[zid h1]
   obtain⟨_,e⟩|⟨_,e⟩:=zbg q.num
   ·omega
   ·rw[e];rfl
theorem ybq (x:Mrat) (h:MOk x) (sd:sz3 (x.b0-x.a0) (x.b1-x.a1) (x.b2-x.a2) 25) (D:ByteArray) (hD:D.size<=12) (w:zA) (hw:Wd w):
 zC zF 14 #[x.m.v,.string D] w λe w'=>∃(t0 t1 t2:ByteArray) (f:Int),e=.returned (.tuple #[.agg #[.string t0,.string t1,.string t2],.int .i64 f])/\zB w.heap.size w w'/\
  (f=0->∃s:Rat,0<=s/\s<=1/\sz s 12/\t0=nB (x.a0+(x.b0-x.a0)*s)/\t1=nB (x.a1+(x.b1-x.a1)*s)/\t2=nB (x.a2+(x.b2-x.a2)*s)):=by
 have hr:∀W:zA,qL w W->zC zF 36 #[.string D] W λe w'=>∃r:Int,e=.returned (.int .i64 r)/\(r=0->∃s,D=nB s/\szE s 12 10)/\zB W.heap.size W w':=λW hW=>by
  have h:=z6h D.toList (by rw[zon];omega) W (hw.below hW);rw[show St D.toList=.string D by show Value.string ⟨D.toList.toArray⟩=_;rw[zk9]] at h;exact h.mono λe w' ⟨r,h1,h2,h3⟩=>⟨r,h1,λh=>let ⟨q,hq,_⟩:=h2.1 h;⟨q,z8e hD hq⟩,h3⟩
 have tp:=λ(u:ByteArray) (W:zA)=>Tryz.strings_TrimPrefix u ⟨#[45]⟩ W;have pf:=λ(W:zA)=>Tryz.strings_HasPrefix D ⟨#[45]⟩ W;by_cases hg:∃s,D=nB s/\szE s 12 10
 ·obtain⟨s,rfl,se⟩:=hg
  have ss:=se.sz;have s1:sz 1 1:=⟨by decide,by decide⟩;have n1:(⟨#[49]⟩:ByteArray)=nB 1:=by unfold nB;rw[show numS 1=[49] by decide+kernel]
  obtain⟨d0,d1,d2⟩:=sd;have m0:=zca d0 ss;have m1:=zca d1 ss;have m2:=zca d2 ss;have dg:=zok (k:=12) (by omega) ss;have ok:=zd0 (k:=12) (by omega) (by omega) ss;refine(zt2 x.m (nB s) _ _ _ (nB ((x.b0-x.a0)*s)) (nB ((x.b1-x.a1)*s)) (nB ((x.b2-x.a2)*s)) (nB (x.a0+(x.b0-x.a0)*s)) (nB (x.a1+(x.b1-x.a1)*s)) (nB (x.a2+(x.b2-x.a2)*s)) ⟨(zE s.num).toArray⟩ ⟨(zD s.den).toArray⟩ _ (cmpR s 1) _ True w
   (hid λW hW=>zrp x h W (hw.below hW)) (hid λW hW=>(hr W hW).mono λe w' ⟨r,h1,_,h3⟩=>⟨r,h1,λ_=>trivial,h3⟩) (hid λ_ W hW=>zk5 s ok W (hw.below hW)) (hid (tp _)) (λ_=>⟨?_,?_⟩)
   (hid λ_ W hW=>by rw[n1];exact zgq s 1 12 1 (by omega) (by omega) (by omega) ss s1 W (hw.below hW)) (hid pf)
   (hid λ_ _ _ W hW=>z7v _ _ _ s ⟨d0.mono (by omega),d1.mono (by omega),d2.mono (by omega)⟩ (ss.mono (by omega)) W (hw.below hW))
   (hid λ_ _ _ W hW=>yat _ _ _ _ _ _ (h.s1.mono (by omega)) ⟨m0.mono (by omega),m1.mono (by omega),m2.mono (by omega)⟩ W (hw.below hW))).mono λe w' ⟨t0,t1,t2,f,h1,h2,h3⟩=>⟨t0,t1,t2,f,h1,h2,λhf=>?_⟩
  ·show((Lib.trimPrefix (zE s.num) [45]).toArray.size:Int)<=36
   rw[zbi];have:=dg.1;unfold digs at this;simp;omega
  ·show((zD s.den).toArray.size:Int)<=36
   have:=dg.2;simp;omega
  ·obtain⟨⟨_,g2,g3⟩,g4,g5,g6⟩:=h3 hf
   refine⟨s,?_,?_,ss,g4,g5,g6⟩
   ·have g3':Lib.hasPrefix (numS s) [45]=false:=g3
    rw[ya2] at g3';exact Rat.num_nonneg.1 (by have:=of_decide_eq_false g3';omega)
   ·rcases zaw s 1 with⟨c1,c2⟩|⟨c1,c2⟩|⟨c1,c2⟩
    ·exact Rat.le_of_lt c1
    ·rw[c1];exact Rat.le_refl
    ·omega
 ·refine(zt2 x.m D _ _ _ D D D D D D D D _ 0 _ False w (hid λW hW=>zrp x h W (hw.below hW)) (hid λW hW=>(hr W hW).mono λe w' ⟨r,h1,h2,h3⟩=>⟨r,h1,λg=>hg (h2 g),h3⟩) (hid λg=>g.elim) (hid (tp _)) (λg=>g.elim)
   (hid λg=>g.elim) (hid pf) (hid λg=>g.elim) (hid λg=>g.elim)).mono λe w' ⟨t0,t1,t2,f,h1,h2,h3⟩=>⟨t0,t1,t2,f,h1,h2,λhf=>(h3 hf).1.1.elim⟩
structure SpQ (p:Option Addr) (cap n:Nat) (m:Mbr) (D:ByteArray) (sp ld sp2 ld2 wd2 dp2:Int) (L:List (Rat×Nat)) (N:Nat) (R:Bool) (K:ByteArray) (E:ByteArray->ByteArray->ByteArray->Prop) (w:zA):Prop where
 rn:N=0->R=true
 own:∀W:zA,qL w W->zC zF 9 #[m.v] W λe w'=>∃p n c,e=.returned (.tuple #[.slice p n c,.int .i64 0])/\zB W.heap.size W w'/\SdL (.slice p n c) L w'
 mem:∀(W:zA) (b cap1:Nat),qL w W->MbS m b W->zC zF 10 #[.slice (some ⟨b,0,none⟩) 1 cap1,.slice p n cap,.int .i64 sp,.int .i64 ld] W λe w'=>∃p' n' c',e=.returned (.tuple #[.slice p' n' c',.int .i64 0])/\zB W.heap.size W w'/\MemO R p' n' c' w'
 cmp:∀(W:zA) (v1 v2:Value),qL w W->SdL v1 L W->SdL v2 L W->qJ 11 #[v1,v2] W (.tuple #[.int .i64 0,.int .i64 0])
 fnd:∀W:zA,qL w W->qJ 12 #[.slice p n cap,.int .i64 m.wd,.int .i64 m.dp,.int .i64 sp,.int .i64 ld] W (.tuple #[.int .i64 (N:Int),.int .i64 (if(N:Int)=0 then 25 else 0)])
 one:∀W:zA,qL w W->qJ 13 #[.int .i64 (N:Int),.int .i64 1] W (.tuple #[.string K,.int .i64 0])
 cmk:∀(W:zA) (v1:Value) (b:Nat),N≠0->qL w W->SdL v1 L W->W.heap[b]? =some (.cells #[.string K,.string ⟨#[49]⟩] 49 (0,0))->zC zF 11 #[v1,.slice (some ⟨b,0,none⟩) 1 1] W λe w'=>∃a r,e=.returned (.tuple #[.int .i64 a,.int .i64 r])/\zB W.heap.size W w'/\(r=0->decide (0<a)=R)
 alg:∀W:zA,qL w W->zC zF 14 #[m.v,.string D] W λe w'=>∃(t0 t1 t2:ByteArray) (f:Int),e=.returned (.tuple #[.agg #[.string t0,.string t1,.string t2],.int .i64 f])/\zB W.heap.size W w'/\(f=0->E t0 t1 t2)
 easy:∀(W:zA) (t0 t1 t2:ByteArray) (b cap1:Nat),E t0 t1 t2\/(t0=m.b0/\t1=m.b1/\t2=m.b2)->qL w W->MbS ⟨m.k,m.f,m.o,m.a0,m.a1,m.a2,t0,t1,t2,wd2,dp2⟩ b W->
  zC zF 10 #[.slice (some ⟨b,0,none⟩) 1 cap1,.slice p n cap,.int .i64 sp2,.int .i64 ld2] W λe w'=>∃p' n' c',e=.returned (.tuple #[.slice p' n' c',.int .i64 0])/\zB W.heap.size W w'/\(R=false->n'=0)
def CndS (m:Mbr) (sp ld:Int):Prop:=(1<=m.k/\m.k<=5)/\(1<=sp/\sp<=65536)/\(0<=ld/\ld<=1048576)
end
section
open Go.RowKit Go.Shelf Lib Str Limb Geo
attribute [local go_sem] Oper.semAt_some
theorem MbS.fz {m:Mbr} {b:Nat} {W:zA} (h:MbS m b W):W.frozen? ⟨b,6,none⟩=false/\W.frozen? ⟨b,7,none⟩=false/\W.frozen? ⟨b,8,none⟩=false/\W.frozen? ⟨b,9,none⟩=false/\W.frozen? ⟨b,10,none⟩=false:=
 ⟨Go.Joins.unfrozen_of_block h.h 6,Go.Joins.unfrozen_of_block h.h 7,Go.Joins.unfrozen_of_block h.h 8,Go.Joins.unfrozen_of_block h.h 9,Go.Joins.unfrozen_of_block h.h 10⟩
structure EzS (w:zA) (M E:Nat) (m:Mbr) (wd2 dp2:Int) (_:Unit) (f:Nat->Bool) (W:zA):Prop where
 bel:qL w W
 S:MbS m M W
 E:MbS ⟨m.k,m.f,m.o,m.a0,m.a1,m.a2,m.b0,m.b1,m.b2,if f 13=true then wd2 else m.wd,if f 15=true then dp2 else m.dp⟩ E W
theorem EzS.congr {w W:zA} {M E:Nat} {m:Mbr} {wd2 dp2:Int} {u:Unit} {f f':Nat->Bool} (h:EzS w M E m wd2 dp2 u f W) (e13:f' 13=f 13) (e15:f' 15=f 15):EzS w M E m wd2 dp2 u f' W:=
 ⟨h.bel,h.S,by rw[e13,e15];exact h.E⟩
theorem EzS.put {w W:zA} {M E:Nat} {m:Mbr} {wd2 dp2:Int} {u:Unit} {f f':Nat->Bool} (h:EzS w M E m wd2 dp2 u f W) (hM:M≠E) (hw:w.heap.size<=E) (i:Nat) (v:Int) (h':(i=9/\v=wd2/\f' 13=true/\f' 15=f 15)\/(i=10/\v=dp2/\f' 15=true/\f' 13=f 13)):EzS w M E m wd2 dp2 u f' (W.setCell ⟨E,i,none⟩ (.int .i64 v)):=by
 refine⟨h.bel.setCell (p:=⟨E,i,none⟩) (by exact hw) _,⟨(yE _ _ _ _ (by exact hM)).trans h.S.h⟩,⟨?_⟩⟩;rcases h' with⟨rfl,rfl,e1,e2⟩|⟨rfl,rfl,e1,e2⟩
 ·rw[e1,e2];exact zK (i:=9) h.E.h _
 ·rw[e1,e2];exact zK (i:=10) h.E.h _
theorem MbS.put3 {m:Mbr} {E:Nat} {W:zA} (h:MbS m E W) {w:zA} (hw:w.heap.size<=E) (hb:qL w W) (x y z:ByteArray) {V:zA} (hV:V=((W.setCell ⟨E,6,none⟩ (.string x)).setCell ⟨E,7,none⟩ (.string y)).setCell ⟨E,8,none⟩ (.string z)):
 MbS ⟨m.k,m.f,m.o,m.a0,m.a1,m.a2,x,y,z,m.wd,m.dp⟩ E V/\zB w.heap.size w V:=by
 rw[hV];exact⟨⟨zK (i:=8) (zK (i:=7) (zK (i:=6) h.h _) _) _⟩,((hb.setCell (p:=⟨E,6,none⟩) (by exact hw) _).setCell (p:=⟨E,7,none⟩) (by exact hw) _).setCell (p:=⟨E,8,none⟩) (by exact hw) _⟩
theorem zvn (p:Option Addr) (cap n:Nat) (m:Mbr) (D:ByteArray) (sp ld wd1 dp1 ls sp2 ld2 wd2 dp2:Int) (L:List (Rat×Nat)) (N:Nat) (R:Bool) (K:ByteArray) (E:ByteArray->ByteArray->ByteArray->Prop) (TT S G:Prop) (w:zA)
 (hw1:0<=wd1/\wd1<65536) (hw2:0<=dp1/\dp1<65536) (hw3:0<=ls/\ls<65536) (hwd:G->1<=m.wd/\m.wd<=1000/\1<=m.dp/\m.dp<=1000)
 (e1:Hid (wd2=min 1000 (m.wd+wd1))) (e2:Hid (dp2=min 1000 (m.dp+dp1))) (e3:Hid (sp2=max 1 (sp-ls))) (e4:Hid (ld2=max 0 (ld-ls)))
 (AW:Hid (∀W:zA,qL w W->qJ 7 #[] W (.bool true)))
 (CT:Hid (n<=12->∀W:zA,qL w W->zC zF 4 #[.slice p n cap] W (ErrP W TT)))
 (CS:Hid (∀(W:zA) (b:Nat),qL w W->W.heap[b]? =some (.cells #[.string m.a0,.string m.a1,.string m.a2,.string m.b0,.string m.b1,.string m.b2,.string D] 23 (0,0))->zC zF 5 #[.slice (some ⟨b,0,none⟩) 7 7,.func (.func 6) #[] #[]] W λe w'=>∃c:Bool,e=.returned (.bool c)/\(c=false->S)/\zB W.heap.size W w'))
 (RU:Hid (S->∀W:zA,qL w W->zC zF 8 #[m.v] W (RunO W λp n c W'=>G/\SdL (.slice p n c) L W')))
 (HQ:Hid (n<=12->TT->CndS m sp ld->S->G->SpQ p cap n m D sp ld sp2 ld2 wd2 dp2 L N R K E w)):
 qJ 3 #[.slice p n cap,m.v,.int .i64 sp,.int .i64 ld,.int .u16 wd1,.int .u16 dp1,.int .u16 ls,.string D] w (.bool true):=by
 obtain⟨v1,hv⟩:=zzX (w.alloc (.cells #[.int .i64 m.k,.int .i64 m.f,.int .i64 m.o,.string m.a0,.string m.a1,.string m.a2,.string m.b0,.string m.b1,.string m.b2,.int .i64 m.wd,.int .i64 m.dp] 27));obtain⟨b1,A1⟩:=zdn hv;have S0:=hid (MbS.mk A1:MbS m w.heap.size v1);have B0:=hid b1;have HV:=hid hv.symm;have HU:=hid (⟨hw1,hw2,hw3⟩:_/\_/\_);have HWD:=hid hwd;obtain⟨k0,k1,k2,k3,k4,k5,k6,k7,k8,k9,k10⟩:=S0.out.cells;rw[hv] at k0 k1 k2 k3 k4 k5 k6 k7 k8 k9 k10;clear hv b1 A1 hw1 hw2 hw3 hwd;unfold Mbr.v at*
 by_cases hn:12<n
 ·have hnI:(12:Int)<(n:Int):=by omega
  go_enter Tryz.func3,Tryz.ntmps3;go_wp21;rw[HV.out];refine zzM (AW.out v1 B0.out) λw9 hb=>?_;have B9:=hid ((B0.out).trans (hb.mono (B0.out).size));clear hb;go_wp21;go_ret;exact⟨rfl,B9.out⟩
 have hnI:¬(12:Int)<(n:Int):=by omega
 have HN:=hid (show n<=12 by omega);clear hn;go_enter Tryz.func3,Tryz.ntmps3;go_wp21;rw[HV.out];clear k0 k1 k2 k3 k4 k5 k6 k7 k8 k9 k10;refine(CT.out HN.out v1 B0.out).mono ?_;rintro e w1 ⟨r,rfl,hr,hb⟩;have B1:=hid (B0.out.trans (hb.mono B0.out.size));have S1:=hid (S0.out.below hb);have HR:=hid hr;clear hb hr B0 S0 CT HV;obtain⟨k0,k1,k2,k3,k4,k5,k6,k7,k8,k9,k10⟩:=S1.out.cells;cases h0:(r !=0)
 case true=>
  go_wp21;refine zzM (AW.out w1 B1.out) λw9 hb=>?_;have B9:=hid ((B1.out).trans (hb.mono (B1.out).size));clear hb;go_wp21;go_ret;exact⟨rfl,B9.out⟩
 have TT1:=hid (HR.out (by simpa using h0));clear HR;cases h1:decide (m.k<1)
 case true=>
  go_wp21;refine zzM (AW.out w1 B1.out) λw9 hb=>?_;have B9:=hid ((B1.out).trans (hb.mono (B1.out).size));clear hb;go_wp21;go_ret;exact⟨rfl,B9.out⟩
 cases h2:decide (5<m.k)
 case true=>
  go_wp21;refine zzM (AW.out w1 B1.out) λw9 hb=>?_;have B9:=hid ((B1.out).trans (hb.mono (B1.out).size));clear hb;go_wp21;go_ret;exact⟨rfl,B9.out⟩
 cases h3:decide (sp<1)
 case true=>
  go_wp21;refine zzM (AW.out w1 B1.out) λw9 hb=>?_;have B9:=hid ((B1.out).trans (hb.mono (B1.out).size));clear hb;go_wp21;go_ret;exact⟨rfl,B9.out⟩
 cases h4:decide (65536<sp)
 case true=>
  go_wp21;refine zzM (AW.out w1 B1.out) λw9 hb=>?_;have B9:=hid ((B1.out).trans (hb.mono (B1.out).size));clear hb;go_wp21;go_ret;exact⟨rfl,B9.out⟩
 cases h5:decide (ld<0)
 case true=>
  go_wp21;refine zzM (AW.out w1 B1.out) λw9 hb=>?_;have B9:=hid ((B1.out).trans (hb.mono (B1.out).size));clear hb;go_wp21;go_ret;exact⟨rfl,B9.out⟩
 cases h6:decide (1048576<ld)
 case true=>
  go_wp21;refine zzM (AW.out w1 B1.out) λw9 hb=>?_;have B9:=hid ((B1.out).trans (hb.mono (B1.out).size));clear hb;go_wp21;go_ret;exact⟨rfl,B9.out⟩
 have HC:=hid (show CndS m sp ld by unfold CndS;have:=of_decide_eq_false h1;have:=of_decide_eq_false h2;have:=of_decide_eq_false h3;have:=of_decide_eq_false h4;have:=of_decide_eq_false h5;have:=of_decide_eq_false h6;omega);go_wp21;clear k0 k1 k2 k3 k4 k5 k6 k7 k8 k9 k10 h0 h1 h2 h3 h4 h5 h6;obtain⟨v2,hv⟩:=zzX (w1.alloc (.cells #[.string m.a0,.string m.a1,.string m.a2,.string m.b0,.string m.b1,.string m.b2,.string D] 23));obtain⟨b2,A2⟩:=zdn hv;rw[<-hv];have B2:=hid (B1.out.trans (b2.mono B1.out.size));have S2:=hid (S1.out.below b2);refine(CS.out v2 _ B2.out A2).mono ?_;clear hv b2 A2 B1 S1 CS;rintro e w3 ⟨c,rfl,hc,hb⟩;have B3:=hid (B2.out.trans (hb.mono B2.out.size));have S3:=hid (S2.out.below hb);have HS:=hid hc;clear hb hc B2 S2;cases c
 case true=>
  go_wp21;refine zzM (AW.out w3 B3.out) λw9 hb=>?_;have B9:=hid ((B3.out).trans (hb.mono (B3.out).size));clear hb;go_wp21;go_ret;exact⟨rfl,B9.out⟩
 have SS:=hid (HS.out rfl);clear HS;obtain⟨k0,k1,k2,k3,k4,k5,k6,k7,k8,k9,k10⟩:=S3.out.cells;go_wp21;clear k0 k1 k2 k3 k4 k5 k6 k7 k8 k9 k10;refine(RU.out SS.out w3 B3.out).mono ?_;rintro e w4 ⟨pr,nr,cr,r,rfl,hb,hr⟩;have B4:=hid (B3.out.trans (hb.mono B3.out.size));have S4:=hid (S3.out.below hb);have HR:=hid hr;clear hb hr B3 S3 RU;cases h0:(r !=0)
 case true=>
  go_wp21;refine zzM (AW.out w4 B4.out) λw9 hb=>?_;have B9:=hid ((B4.out).trans (hb.mono (B4.out).size));clear hb;go_wp21;go_ret;exact⟨rfl,B9.out⟩
 obtain⟨g,lr⟩:=HR.out (by simpa using h0);have Q:=hid (HQ.out HN.out TT1.out HC.out SS.out g);have LR:=hid lr;have WD:=hid (HWD.out g);clear g lr HQ HR HWD TT1 SS HN;obtain⟨k0,k1,k2,k3,k4,k5,k6,k7,k8,k9,k10⟩:=S4.out.cells;go_wp21;clear k0 k1 k2 k3 k4 k5 k6 k7 k8 k9 k10 h0;refine(Q.out.own w4 B4.out).mono ?_;rintro e w5 ⟨po,no,co,rfl,hb,lo⟩;have B5:=hid (B4.out.trans (hb.mono B4.out.size));have S5:=hid (S4.out.below hb);have LR5:=hid (LR.out.below hb);have LO5:=hid lo;clear hb lo B4 S4 LR;obtain⟨k0,k1,k2,k3,k4,k5,k6,k7,k8,k9,k10⟩:=S5.out.cells;obtain⟨v6,hv⟩:=zzX (w5.alloc (.cells #[.int .i64 m.k,.int .i64 m.f,.int .i64 m.o,.string m.a0,.string m.a1,.string m.a2,.string m.b0,.string m.b1,.string m.b2,.int .i64 m.wd,.int .i64 m.dp] 27));obtain⟨b6,A6⟩:=zdn hv;have B6:=hid (B5.out.trans (b6.mono B5.out.size));have S6:=hid (S5.out.below b6);have LR6:=hid (LR5.out.below b6);have LO6:=hid (LO5.out.below b6);have HM:=hid (Q.out.mem v6 w5.heap.size 1 B6.out ⟨A6⟩);have HV:=hid hv.symm;clear hv b6 A6 B5 S5 LR5 LO5;go_wp21;rw[HV.out];clear k0 k1 k2 k3 k4 k5 k6 k7 k8 k9 k10 HV;refine HM.out.mono ?_;rintro e w7 ⟨pg,ng,cg,rfl,hb,hg⟩;have B7:=hid (B6.out.trans (hb.mono B6.out.size));have S7:=hid (S6.out.below hb);have LR7:=hid (LR6.out.below hb);have LO7:=hid (LO6.out.below hb);clear hb B6 S6 LR6 LO6 HM;have hnb:decide (0<ng)=R:=by
  rcases hg with⟨h,_,h2,_⟩|⟨h,h2,_⟩<;>rw[h,h2]<;>rfl
 clear hg;go_wp21;refine zzM (Q.out.cmp w7 _ _ B7.out LR7.out LO7.out) λw8 hb=>?_;have B8:=hid (B7.out.trans (hb.mono B7.out.size));have S8:=hid (S7.out.below hb);have LO8:=hid (LO7.out.below hb);clear hb B7 S7 LR7 LO7 hnb;obtain⟨k0,k1,k2,k3,k4,k5,k6,k7,k8,k9,k10⟩:=S8.out.cells;have HF:=hid (Q.out.fnd w8 B8.out);by_cases z:(N:Int)=0
 case' pos=>
  rw[if_pos z] at HF;have hR:R=true:=Q.out.rn (by omega);clear z;go_wp21;clear k0 k1 k2 k3 k4 k5 k6 k7 k8 k9 k10;refine zzM HF.out λwa hb=>?_;have BA:=hid (B8.out.trans (hb.mono B8.out.size));have SA:=hid (S8.out.below hb);clear hb B8 S8 LO8 HF
 case' neg=>
  rw[if_neg z] at HF;have HZ:=hid (show N≠0 by omega);clear z;go_wp21;clear k0 k1 k2 k3 k4 k5 k6 k7 k8 k9 k10;refine zzM HF.out λw9 hb=>?_;have B9:=hid (B8.out.trans (hb.mono B8.out.size));have S9:=hid (S8.out.below hb);have LO9:=hid (LO8.out.below hb);clear hb B8 S8 LO8 HF;go_wp21;refine zzM (Q.out.one w9 B9.out) λw10 hb=>?_;have B10:=hid (B9.out.trans (hb.mono B9.out.size));have S10:=hid (S9.out.below hb);have LO10:=hid (LO9.out.below hb);clear hb B9 S9 LO9;obtain⟨v11,hv⟩:=zzX (w10.alloc (.cells #[.string K,.string ⟨#[49]⟩] 49));obtain⟨b11,A11⟩:=zdn hv;have B11:=hid (B10.out.trans (b11.mono B10.out.size));have S11:=hid (S10.out.below b11);have HC:=hid (Q.out.cmk v11 _ _ HZ.out B11.out (LO10.out.below b11) A11);have HV:=hid hv.symm;clear hv b11 A11 B10 S10 LO10;go_wp21;rw[HV.out];clear HV;refine HC.out.mono ?_;rintro e wa ⟨a2,r2,rfl,hb,hc⟩;have BA:=hid (B11.out.trans (hb.mono B11.out.size));have SA:=hid (S11.out.below hb);clear hb HC B11 S11 HZ;cases h2:(r2==0)
  case' true=>have hR:(!(R==decide (0<a2)))=false:=by rw[hc (by simpa using h2)];simp
  all_goals clear hc
 all_goals
  obtain⟨k0,k1,k2,k3,k4,k5,k6,k7,k8,k9,k10⟩:=SA.out.cells;obtain⟨ve,hv⟩:=zzX (wa.alloc (.cells #[.int .i64 m.k,.int .i64 m.f,.int .i64 m.o,.string m.a0,.string m.a1,.string m.a2,.string m.b0,.string m.b1,.string m.b2,.int .i64 m.wd,.int .i64 m.dp] 27));obtain⟨be,AE⟩:=zdn hv;have BE:=hid (BA.out.trans (be.mono BA.out.size));have SE:=hid (SA.out.below be);have EE:=hid (MbS.mk AE:MbS m wa.heap.size ve);have HL:=hid (show w.heap.size<wa.heap.size from(Array.getElem?_eq_some_iff.1 SA.out.h).1);have HV:=hid hv.symm;clear hv be AE BA SA;go_wp21;rw[HV.out];clear k0 k1 k2 k3 k4 k5 k6 k7 k8 k9 k10 HV;generalize wa.heap.size=E' at*
  have hw1:IntKind.i64.wrap wd1=wd1:=zI _ (by have:=HU.out;omega);have hw2:IntKind.i64.wrap dp1=dp1:=zI _ (by have:=HU.out;omega);have ha1:IntKind.i64.wrap (m.wd+wd1)=m.wd+wd1:=zI _ (by have:=HU.out;have:=WD.out;omega);have ha2:IntKind.i64.wrap (m.dp+dp1)=m.dp+dp1:=zI _ (by have:=HU.out;have:=WD.out;omega);have hm1:min 1000 (m.wd+wd1)=wd2:=e1.out.symm;have hm2:min 1000 (m.dp+dp1)=dp2:=e2.out.symm;refine zc4 (λ(_:Unit) i=>([.pointer (some ⟨w.heap.size,9,none⟩),.int .i64 m.wd,.int .u16 wd1,.int .i64 wd1,.int .i64 (m.wd+wd1),.int .i64 wd2,.pointer (some ⟨w.heap.size,10,none⟩),.int .i64 m.dp,.int .u16 dp1,.int .i64 dp1,.int .i64 (m.dp+dp1),.int .i64 dp2,.pointer (some ⟨E',9,none⟩),undef,.pointer (some ⟨E',10,none⟩),undef]:List Value)[i]?.getD undef) (EzS w w.heap.size E' m wd2 dp2) (by kernel_rfl) (by kernel_rfl) () ⟨BE.out.drew,⟨SE.out.h⟩,⟨EE.out.h⟩⟩ λ_=>?_;clear BE SE EE;refine qB (.pointer (some ⟨w.heap.size,9,none⟩)) (λf W' h=>h.congr rfl rfl) ?_;refine qB (.int .i64 m.wd) (λf W' h=>h.congr rfl rfl) ?_ (hy:=λf W' hf h=>by obtain⟨-, -, -, -, -, -, -, -, -,k9,k10⟩:=h.S.cells;go_simp);refine qB (.int .u16 wd1) (λf W' h=>h.congr rfl rfl) ?_;simp only[zzQ];refine qB (.int .i64 wd1) (λf W' h=>h.congr rfl rfl) ?_;refine qB (.int .i64 (m.wd+wd1)) (λf W' h=>h.congr rfl rfl) ?_;refine qB (.int .i64 wd2) (λf W' h=>h.congr rfl rfl) ?_;simp only[zzQ];refine qB (.pointer (some ⟨w.heap.size,10,none⟩)) (λf W' h=>h.congr rfl rfl) ?_
  refine qB (.int .i64 m.dp) (λf W' h=>h.congr rfl rfl) ?_ (hy:=λf W' hf h=>by obtain⟨-, -, -, -, -, -, -, -, -,k9,k10⟩:=h.S.cells;go_simp);refine qB (.int .u16 dp1) (λf W' h=>h.congr rfl rfl) ?_;simp only[zzQ];refine qB (.int .i64 dp1) (λf W' h=>h.congr rfl rfl) ?_;refine qB (.int .i64 (m.dp+dp1)) (λf W' h=>h.congr rfl rfl) ?_;refine qB (.int .i64 dp2) (λf W' h=>h.congr rfl rfl) ?_;simp only[zzQ];refine qB (.pointer (some ⟨E',9,none⟩)) (λf W' h=>h.congr rfl rfl) ?_;simp only[zzQ]
  refine zbv undef (by rfl) (by rfl) (λf W' hf h C' hC'=>by
   obtain⟨-, -, -,z9,z10⟩:=h.E.fz;obtain⟨-, -, -, -, -, -, -, -, -,k9,k10⟩:=h.E.cells;have hc:=hC' _ (h.put (f':=λj=>if 13=j then true else f j) (by have:=HL.out;omega) (by have:=HL.out;omega) 9 wd2 (.inl ⟨rfl,rfl,rfl,rfl⟩));clear h;go_simp;exact hc) ?_
  refine qB (.pointer (some ⟨E',10,none⟩)) (λf W' h=>h.congr rfl rfl) ?_;simp only[zzQ]
  refine zbv undef (by rfl) (by rfl) (λf W' hf h C' hC'=>by
   obtain⟨-, -, -,z9,z10⟩:=h.E.fz;obtain⟨-, -, -, -, -, -, -, -, -,k9,k10⟩:=h.E.cells;have hc:=hC' _ (h.put (f':=λj=>if 15=j then true else f j) (by have:=HL.out;omega) (by have:=HL.out;omega) 10 dp2 (.inr ⟨rfl,rfl,rfl,rfl⟩));clear h;go_simp;exact hc) ?_
  try simp only[zzQ]
  clear hw1 hw2 ha1 ha2 hm1 hm2;refine ze1 λf w5 hf h=>?_;have E5:Hid (MbS ⟨m.k,m.f,m.o,m.a0,m.a1,m.a2,m.b0,m.b1,m.b2,wd2,dp2⟩ E' w5):=hid (by have g:=h.E;rw[if_pos (hf 13 (by decide)),if_pos (hf 15 (by decide))] at g;exact g);have B5:=hid h.bel;have S5:=hid h.S;clear hf h;obtain⟨k0,k1,k2,k3,k4,k5,k6,k7,k8,k9,k10⟩:=S5.out.cells;go_wp21;clear k0 k1 k2 k3 k4 k5 k6 k7 k8 k9 k10;refine(Q.out.alg w5 B5.out).mono ?_;rintro e w6 ⟨t0,t1,t2,f',rfl,hb,hE⟩;have HE:=hid hE;have B6:=hid (B5.out.trans (hb.mono B5.out.size));have S6:=hid (S5.out.below hb);have E6:=hid (E5.out.below hb);clear hb hE B5 S5 E5
  try clear hR
  obtain⟨v7,hv7⟩:=zzX (w6.alloc (.cells #[.string t0,.string t1,.string t2] 25));obtain⟨b7,A7⟩:=zdn hv7;have s7:v7.heap.size=w6.heap.size+1:=by rw[hv7];simp
  have B7:=hid (B6.out.trans (b7.mono B6.out.size));have S7:=hid (S6.out.below b7);have E7:=hid (E6.out.below b7);obtain⟨d0,d1,d2, -, -, -⟩:=zah A7;obtain⟨-, -, -,u3,u4,u5, -, -, -, -, -⟩:=S7.out.cells;rw[hv7] at d0 d1 d2 u3 u4 u5;clear b7 A7 B6 S6 E6 S7;have hl1:IntKind.i64.wrap ls=ls:=zI _ (by have:=HU.out;omega);have hs1:IntKind.i64.wrap (sp-ls)=sp-ls:=zI _ (by have:=HU.out;have:=HC.out.2.1;omega);have hs2:max 1 (sp-ls)=sp2:=e3.out.symm;have hs3:IntKind.i64.wrap (ld-ls)=ld-ls:=zI _ (by have:=HU.out;have:=HC.out.2.2;omega);have hs4:max 0 (ld-ls)=ld2:=e4.out.symm;by_cases hs:(f'==0)=true/\¬(t0.toList=m.a0.toList/\t1.toList=m.a1.toList/\t2.toList=m.a2.toList)
  ·obtain⟨hf,hX⟩:=hs
   have HT:=hid (show E t0 t1 t2\/(t0=m.b0/\t1=m.b1/\t2=m.b2) from .inl (HE.out (by simpa using hf)));obtain⟨vz,hvz⟩:=zzX (((v7.setCell ⟨E',6,none⟩ (.string t0)).setCell ⟨E',7,none⟩ (.string t1)).setCell ⟨E',8,none⟩ (.string t2));obtain⟨ez,bz⟩:=E7.out.put3 (w:=w) (by have:=HL.out;omega) B7.out t0 t1 t2 hvz;have sz:vz.heap.size=w6.heap.size+1:=by rw[hvz];simp[s7]
   have BZ:=hid bz;have EZ:=hid ez;obtain⟨z6,z7,z8, -, -⟩:=E7.out.fz;obtain⟨-, -, -, -, -, -,o6,o7,o8, -, -⟩:=E7.out.cells;rw[hv7] at z6 z7 z8 o6 o7 o8 hvz;clear ez bz hv7 B7 E7 s7 HE;obtain⟨v8,hv⟩:=zzX (vz.alloc (.cells #[.int .i64 m.k,.int .i64 m.f,.int .i64 m.o,.string m.a0,.string m.a1,.string m.a2,.string t0,.string t1,.string t2,.int .i64 wd2,.int .i64 dp2] 27));obtain⟨b8,A8⟩:=zdn hv;rw[sz] at A8;have B8:=hid (BZ.out.trans (b8.mono BZ.out.size));have HM:=hid (Q.out.easy v8 t0 t1 t2 (w6.heap.size+1) 1 HT.out B8.out ⟨A8⟩);obtain⟨j0,j1,j2,j3,j4,j5,j6,j7,j8,j9,j10⟩:=EZ.out.cells;rw[hvz] at hv j0 j1 j2 j3 j4 j5 j6 j7 j8 j9 j10;have HV:=hid hv.symm;clear hv b8 A8 sz hvz BZ EZ HT;have H3:Hid (t0.toList≠m.a0.toList\/(t0.toList=m.a0.toList/\t1.toList≠m.a1.toList)\/(t0.toList=m.a0.toList/\t1.toList=m.a1.toList/\t2.toList≠m.a2.toList)):=hid<|by
    by_cases c0:t0.toList=m.a0.toList
    ·by_cases c1:t1.toList=m.a1.toList
     ·refine .inr (.inr ⟨c0,c1,λc2=>?_⟩)
      exact hX ⟨c0,c1,c2⟩
     ·exact .inr (.inl ⟨c0,c1⟩)
    ·exact .inl c0
   clear hX;rcases H3.out with c0|⟨c0,c1⟩|⟨c0,c1,c2⟩
   all_goals
    go_wp21;rw[HV.out];clear z6 z7 z8 o6 o7 o8;clear j0 j1 j2 j3 j4 j5 j6 j7 j8 j9 j10 HV d0 d1 d2 u3 u4 u5 hl1 hs1 hs2 hs3 hs4;refine HM.out.mono ?_;rintro e w9 ⟨pz,nz,cz,rfl,hb,hn⟩;have B9:=hid (B8.out.trans (hb.mono B8.out.size));have HN:=hid hn;clear hb hn HM B8;cases R
    case' false=>obtain rfl:=HN.out rfl
    all_goals
     try clear HN
     go_wp21;refine zzM (AW.out w9 B9.out) λw10 hb=>?_;have B10:=hid (B9.out.trans (hb.mono B9.out.size));clear hb;go_wp21;go_ret;exact⟨rfl,B10.out⟩
  ·have HT:=hid (show E m.b0 m.b1 m.b2\/(m.b0=m.b0/\m.b1=m.b1/\m.b2=m.b2) from .inr ⟨rfl,rfl,rfl⟩)
   obtain⟨vz,hvz⟩:=zzX v7;have sz:vz.heap.size=w6.heap.size+1:=by rw[hvz];exact s7
   have BZ:Hid (qL w vz):=by rw[hvz];exact B7
   have EZ:Hid (MbS ⟨m.k,m.f,m.o,m.a0,m.a1,m.a2,m.b0,m.b1,m.b2,wd2,dp2⟩ E' vz):=by rw[hvz];exact E7
   rw[hv7] at hvz;clear hv7 B7 E7 s7 HE;cases hf:(f'==0)
   case' true=>obtain⟨x0,x1,x2⟩:=Classical.not_not.1 λh=>hs ⟨hf,h⟩
   all_goals
    clear hs;obtain⟨v8,hv⟩:=zzX (vz.alloc (.cells #[.int .i64 m.k,.int .i64 m.f,.int .i64 m.o,.string m.a0,.string m.a1,.string m.a2,.string m.b0,.string m.b1,.string m.b2,.int .i64 wd2,.int .i64 dp2] 27));obtain⟨b8,A8⟩:=zdn hv;rw[sz] at A8;have B8:=hid (BZ.out.trans (b8.mono BZ.out.size));have HM:=hid (Q.out.easy v8 m.b0 m.b1 m.b2 (w6.heap.size+1) 1 HT.out B8.out ⟨A8⟩);obtain⟨j0,j1,j2,j3,j4,j5,j6,j7,j8,j9,j10⟩:=EZ.out.cells;rw[hvz] at hv j0 j1 j2 j3 j4 j5 j6 j7 j8 j9 j10;have HV:=hid hv.symm;clear hv b8 A8 sz hvz BZ EZ HT;go_wp21;rw[HV.out];clear j0 j1 j2 j3 j4 j5 j6 j7 j8 j9 j10 HV d0 d1 d2 u3 u4 u5 hl1 hs1 hs2 hs3 hs4;refine HM.out.mono ?_;rintro e w9 ⟨pz,nz,cz,rfl,hb,hn⟩;have B9:=hid (B8.out.trans (hb.mono B8.out.size));have HN:=hid hn;clear hb hn HM B8;cases R
    case' false=>obtain rfl:=HN.out rfl
    all_goals
     try clear HN
     go_wp21;refine zzM (AW.out w9 B9.out) λw10 hb=>?_;have B10:=hid (B9.out.trans (hb.mono B9.out.size));clear hb;go_wp21;go_ret;exact⟨rfl,B10.out⟩
end
section
open Go.RowKit Go.Shelf Lib Str Limb
attribute [local go_sem] Oper.semAt_some
theorem zh8 {z:Int} (h:¬digs z<=300):resL z=[]:=if_neg h
theorem zh9 {z:Int} (h:¬digs z<=300):resE z=4:=if_neg h
def okAdd (a b:Rat):Prop:=digs (a.num*b.den)<=300/\digs (b.num*a.den)<=300/\digs (a.num*b.den+b.num*a.den)<=300/\digs ((a.den*b.den:Nat):Int)<=300
def okMul (a b:Rat):Prop:=digs (a.num*b.num)<=300/\digs ((a.den*b.den:Nat):Int)<=300
instance okAddDec (a b:Rat):Decidable (okAdd a b):=inferInstanceAs (Decidable (_/\_/\_/\_))
instance okMulDec (a b:Rat):Decidable (okMul a b):=inferInstanceAs (Decidable (_/\_))
theorem zs6 (n1 n2:Int) (d1 d2:Nat) (h1:digs n1<=300) (_:digs n2<=300) (_:(zD d1).length<=300) (h4:(zD d2).length<=300) (k1:¬digs (n1*d2)<=300) (w:zA) (hw:Wd w):
 zC zF 58 #[.agg #[St (zE n1),St (zD d1)],.agg #[St (zE n2),St (zD d2)]] w λe w'=>
  e=.returned (.tuple #[St [],St [],.int .i64 4])/\zB w.heap.size w w':=by
 have m1:=λW hW=>zhk n1 d2 h1 (by unfold digs;rw[Int.natAbs_natCast];exact h4) W hW;rw[zh8 k1,zh9 k1,Str.zad] at m1;generalize zE n1=s1 at m1⊢;generalize zE n2=s2 at⊢;generalize zD d1=t1 at⊢;generalize zD d2=t2 at m1⊢;have M1:=hid m1;have HW:=hid hw;clear m1 hw h1 h4 k1;obtain⟨W3,hW3⟩:=zzX ((w.alloc (.cells #[St s1,St t1] 98)).alloc (.cells #[St s2,St t2] 98));have hB0:qL w W3:=by rw[hW3];exact((zM _ w).alloc (zN _) _).alloc (by simp) _
 have z0:W3.heap.size=w.heap.size+1+1:=by rw[hW3];simp
 have A3:W3.heap[w.heap.size]? =some (.cells #[St s1,St t1] 98 (0,0)):=by
  rw[hW3];exact(Below.heap_alloc _ _ _ (by simp only[zH];omega)).trans (zG w _)
 have B3:W3.heap[w.heap.size+1]? =some (.cells #[St s2,St t2] 98 (0,0)):=by
  have:=zG (w.alloc (.cells #[St s1,St t1] 98)) (.cells #[St s2,St t2] 98 (0,0));rw[zH] at this;rw[hW3];exact this
 have HW3:=hid hW3;clear hW3;go_enter Tryz.func58,Tryz.ntmps58;go_wp21;rw[<-HW3.out];refine zzM (M1.out _ (HW.out.below hB0)) λw4 hb4=>?_;have hB4:=hB0.trans (hb4.mono hB0.size);clear hb4 A3 B3 z0;go_wp21;go_ret3;exact⟨rfl,hB4⟩
theorem yfd (a b:Rat) (ha:okQ a) (hb:okQ b) (h:¬okAdd a b)
 (c:Nat) (w:zA) (hc:w.cell? ⟨c,0,none⟩=some (.func (.func 64) #[] #[])) (hw:Wd w):
 qJ 175 #[zb1 a,zb1 b,.pointer (some ⟨c,0,none⟩)] w (.tuple #[St [],.int .i64 4]):=by
 have key:(qK 58 #[zb1 a,zb1 b] (.tuple #[St [],St [],.int .i64 4]))\/
  (∃(u1 u2 v:List UInt8),(qK 58 #[zb1 a,zb1 b] (.tuple #[St u1,St v,.int .i64 4])))\/
  (∃(u1 u2:List UInt8),(qK 58 #[zb1 a,zb1 b] (.tuple #[St u1,St u2,.int .i64 0]))/\
    ((qK 64 #[St u1,St u2] (.tuple #[St [],.int .i64 4]))\/
     (∃u:List UInt8,(qK 64 #[St u1,St u2] (.tuple #[St u,.int .i64 0]))/\
      qK 106 #[St (zD a.den),St (zD b.den)] (.tuple #[St [],.int .i64 4])))):=by
  by_cases h1:digs (a.num*b.den)<=300
  ·have m1:=λW hW=>zhc a.num b.num a.den b.den ha.1 hb.1 ha.2 hb.2 h1 W hW
   by_cases h2:digs (b.num*a.den)<=300
   ·rw[zcf h2,zcg h2] at m1
    refine .inr (.inr ⟨_,_,m1,?_⟩);have m3:=λW hW=>z1c (a.num*b.den) (b.num*a.den) h1 h2 W hW;by_cases h3:digs (a.num*b.den+b.num*a.den)<=300
    ·rw[zcf h3,zcg h3] at m3
     refine .inr ⟨_,m3,?_⟩;have h4:¬digs ((a.den*b.den:Nat):Int)<=300:=λh4=>h ⟨h1,h2,h3,h4⟩;have m2:=λW hW=>zhk (a.den:Int) (b.den:Int) (by rw[zd9];exact ha.2) (by rw[zd9];exact hb.2) W hW;rw[<-Int.natCast_mul,Str.zad,Str.zad,zh8 h4,zh9 h4] at m2;exact m2
    ·rw[zh8 h3,zh9 h3] at m3
     exact .inl m3
   ·rw[zh8 h2,zh9 h2] at m1
    exact .inr (.inl ⟨_,[],_,m1⟩)
  ·exact .inl λW hW=>zs6 a.num b.num a.den b.den ha.1 hb.1 ha.2 hb.2 h1 W hW
 unfold zb1 at key⊢;generalize zE a.num=s1 at key⊢;generalize zE b.num=s2 at key⊢;generalize zD a.den=t1 at key⊢;generalize zD b.den=t2 at key⊢;have HW:=hid hw;clear hw h ha hb;have zc:=zbe hc;dsimp only at zc;obtain⟨W3,hW3⟩:=zzX ((w.alloc (.cells #[St s1,St t1] 98)).alloc (.cells #[St s2,St t2] 98));have hB0:qL w W3:=by rw[hW3];exact((zM _ w).alloc (zN _) _).alloc (by simp) _
 have z0:W3.heap.size=w.heap.size+1+1:=by rw[hW3];simp
 have A3:W3.heap[w.heap.size]? =some (.cells #[St s1,St t1] 98 (0,0)):=by
  rw[hW3];exact(Below.heap_alloc _ _ _ (by simp only[zH];omega)).trans (zG w _)
 have B3:W3.heap[w.heap.size+1]? =some (.cells #[St s2,St t2] 98 (0,0)):=by
  have:=zG (w.alloc (.cells #[St s1,St t1] 98)) (.cells #[St s2,St t2] 98 (0,0));rw[zH] at this;rw[hW3];exact this
 have HW3:=hid hW3;clear hW3;go_enter Tryz.func175,Tryz.ntmps175;go_wp21;rw[<-HW3.out];rcases key with m1|⟨u1,u2,v,m1⟩|⟨u1,u2,m1,key⟩
 ·refine zzM (m1 _ (HW.out.below hB0)) λw4 hb4=>?_
  have hB4:=hB0.trans (hb4.mono hB0.size);clear hb4 m1;go_wp21;go_ret2;exact⟨rfl,hB4⟩
 ·refine zzM (m1 _ (HW.out.below hB0)) λw4 hb4=>?_
  have hB4:=hB0.trans (hb4.mono hB0.size);clear hb4 m1;go_wp21;go_ret2;exact⟨rfl,hB4⟩
 ·have KEY:=hid key;clear key
  refine zzM (m1 _ (HW.out.below hB0)) λw4 hb4=>?_;have hB4:=hB0.trans (hb4.mono hB0.size);have A4:w4.heap[w.heap.size]? =some (.cells #[St s1,St t1] 98 (0,0)):=(hb4.block _ (by omega)).trans A3;have B4:w4.heap[w.heap.size+1]? =some (.cells #[St s2,St t2] 98 (0,0)):=(hb4.block _ (by omega)).trans B3;have z4:W3.heap.size<=w4.heap.size:=hb4.size;have C4:w4.cell? ⟨c,0,none⟩=some (.func (.func 64) #[] #[]):=by rw[hB4.cell (p:=⟨c,0,none⟩) zc];exact hc
  clear hb4 A3 B3 hc m1;go_wp21;rcases KEY.out with m3|⟨u,m3,m2⟩
  ·refine zzM (m3 _ (HW.out.below hB4)) λw5 hb5=>?_
   have hB5:=hB4.trans (hb5.mono hB4.size);clear hb5 C4 A4 B4 KEY m3;go_wp21;go_ret2;exact⟨rfl,hB5⟩
  ·have M2:=hid m2;clear m2 KEY
   refine zzM (m3 _ (HW.out.below hB4)) λw5 hb5=>?_;have hB5:=hB4.trans (hb5.mono hB4.size);have A5:w5.heap[w.heap.size]? =some (.cells #[St s1,St t1] 98 (0,0)):=(hb5.block _ (by omega)).trans A4;have B5:w5.heap[w.heap.size+1]? =some (.cells #[St s2,St t2] 98 (0,0)):=(hb5.block _ (by omega)).trans B4;have A51:w5.cell? ⟨w.heap.size,1,none⟩=some (St t1):=by simp[World.cell?,A5]
   have B51:w5.cell? ⟨w.heap.size+1,1,none⟩=some (St t2):=by simp[World.cell?,B5]
   clear hb5 A4 B4 C4 A5 B5 m3;go_wp21;refine zzM (M2.out _ (HW.out.below hB5)) λw6 hb6=>?_;have hB6:=hB5.trans (hb6.mono hB5.size);clear hb6 A51 B51;go_wp21;go_ret2;exact⟨rfl,hB6⟩
theorem zxy (a b:Rat) (ha:okQ a) (hb:okQ b) (c:Nat) (r:List UInt8) (E:Int) (w:zA) (hw:Wd w)
 (H:∀W:zA,qL w W->Wd W->qJ 175 #[zb1 a,zb1 b,.pointer (some ⟨c,0,none⟩)] W (.tuple #[St r,.int .i64 E])):
 qJ 104 #[St (numS a),St (numS b),.func (.func 175) #[] #[.pointer (some ⟨c,0,none⟩)]] w (.tuple #[St r,.int .i64 E]):=by
 have r1:=λW hW=>zek a ha W hW;have r2:=λW hW=>zek b hb W hW;unfold zb1 at H;generalize numS a=x at r1⊢;generalize numS b=y at r2⊢;generalize zE a.num=s1 at H r1;generalize zE b.num=s2 at H r2;generalize zD a.den=t1 at H r1;generalize zD b.den=t2 at H r2;have R1:=hid r1;have R2:=hid r2;have HH:=hid H;have HW:=hid hw;clear r1 r2 H hw ha hb;go_enter Tryz.func104,Tryz.ntmps104;go_wp21;refine zzM (R1.out _ HW.out) λw1 hB1=>?_;have hB1':=hB1.alloc hB1.size (.cells #[.string ⟨s1.toArray⟩,.string ⟨t1.toArray⟩] 98);go_wp21;refine zzM (R2.out _ (HW.out.below hB1')) λw2 hb2=>?_;have hz1:=hB1.size;have z2:w1.heap.size<w2.heap.size:=by have:=hb2.size;simp at this;omega
 have hB2:=hB1'.trans (hb2.mono hB1'.size);have A2:w2.heap[w1.heap.size]? =some (.cells #[.string ⟨s1.toArray⟩,.string ⟨t1.toArray⟩] 98 (0,0)):=(hb2.block _ (by simp)).trans (zG w1 _);have A20:w2.cell? ⟨w1.heap.size,0,none⟩=some (.string ⟨s1.toArray⟩):=by simp[World.cell?,A2]
 have A21:w2.cell? ⟨w1.heap.size,1,none⟩=some (.string ⟨t1.toArray⟩):=by simp[World.cell?,A2]
 have hB3:=hB2.alloc hB2.size (.cells #[.string ⟨s2.toArray⟩,.string ⟨t2.toArray⟩] 98);clear hb2 A2 hB1 hB1';go_wp21;refine zzM (HH.out _ hB3 (HW.out.below hB3)) λw4 hb4=>?_;have hB4:=hB3.trans (hb4.mono hB3.size);clear hb4;go_wp21;go_ret2;exact⟨rfl,hB4⟩
theorem yfe (a b:Rat) (oa:okQ a) (ob:okQ b) (w:zA) (hw:Wd w):
 qJ 53 #[St (numS a),St (numS b)] w (.tuple #[St (if okAdd a b then numS (a+b) else[]),.int .i64 (if okAdd a b then 0 else 4)]):=by
 by_cases h:zbb a/\zbb b
 ·obtain⟨h1,h2⟩:=h
  have s1:sz a 8:=⟨(zaf a.num.natAbs 8 (by omega)).1 h1.1,(zaf a.den 8 (by omega)).1 h1.2⟩;have s2:sz b 8:=⟨(zaf b.num.natAbs 8 (by omega)).1 h2.1,(zaf b.den 8 (by omega)).1 h2.2⟩;have c1:=zcd (show 0<8 by omega) s1.1 s2.2;have c2:=zcd (show 0<8 by omega) s2.1 s1.2;have g:okAdd a b:=⟨by omega,by omega,by have:=zhz (show 0<16 by omega) c1 c2;omega,by rw[zd9];exact zO (zil (by omega) (zcc s1.2 s2.2)) (by omega)⟩;rw[if_pos g,if_pos g];exact zje a b 8 8 (by omega) (by omega) (by omega) s1 s2 w hw
 ·have hq:=λW=>zd1 107 a b h oa ob W
  have hbo:=λc W hW H=>zxy a b oa ob c (if okAdd a b then numS (a+b) else[]) (if okAdd a b then 0 else 4) W hW H;have hcb:∀(c:Nat) (W:zA),W.cell? ⟨c,0,none⟩=some (.func (.func 64) #[] #[])->Wd W->qJ 175 #[zb1 a,zb1 b,.pointer (some ⟨c,0,none⟩)] W (.tuple #[St (if okAdd a b then numS (a+b) else[]),.int .i64 (if okAdd a b then 0 else 4)]):=λc W hc hW=>by
   by_cases g:okAdd a b
   ·rw[if_pos g,if_pos g];exact zy8 a b oa ob g.1 g.2.1 g.2.2.1 (by have:=g.2.2.2;rwa [zd9] at this) c W hc hW
   ·rw[if_neg g,if_neg g];exact yfd a b oa ob g c W hc hW
  generalize numS a=x at hq hbo⊢;generalize numS b=y at hq hbo⊢;generalize (if okAdd a b then numS (a+b) else[])=r at hbo hcb⊢;generalize (if okAdd a b then(0:Int) else 4)=E at hbo hcb⊢;generalize zb1 a=pa at hbo hcb;generalize zb1 b=pb at hbo hcb;have HQ:=hid hq;have HBO:=hid hbo;have HCB:=hid hcb;have HW:=hid hw;clear hq hbo hcb oa ob h hw;go_enter Tryz.func53,Tryz.ntmps53;go_wp21;refine zzM (HQ.out _) λw1 hB1=>?_;go_wp21;refine(zk4 _ _).mono ?_;rintro e w2 ⟨t,rfl,rfl⟩;go_wp21;have hB2:=hB1.alloc hB1.size (.cells #[.func (.func 64) #[] #[]] t);have hc2:(w1.alloc (.cells #[.func (.func 64) #[] #[]] t)).cell? ⟨w1.heap.size,0,none⟩=some (.func (.func 64) #[] #[]):=by
   have:=zG w1 (.cells #[.func (.func 64) #[] #[]] t (0,0));simp only[World.cell?,this];rfl
  refine zzM (HBO.out _ _ (HW.out.below hB2) (λW hb hW=>HCB.out _ W ((hb.cell (p:=⟨w1.heap.size,0,none⟩) (by simp)).trans hc2) hW)) λw3 hb3=>?_;have hB3:=hB2.trans (hb3.mono hB2.size);clear hc2 hb3;go_wp21;go_ret2;exact⟨rfl,hB3⟩
theorem yff (a b:Rat) (ha:okQ a) (hb:okQ b) (h:¬okMul a b) (w:zA) (hw:Wd w):
 qJ 105 #[zb1 a,zb1 b] w (.tuple #[St [],.int .i64 4]):=by
 have key:(qK 106 #[St (zE a.num),St (zE b.num)] (.tuple #[St [],.int .i64 4]))\/
  ∃u:List UInt8,(qK 106 #[St (zE a.num),St (zE b.num)] (.tuple #[St u,.int .i64 0]))/\
   qK 106 #[St (zD a.den),St (zD b.den)] (.tuple #[St [],.int .i64 4]):=by
  have m1:=λW hW=>zhk a.num b.num ha.1 hb.1 W hW;by_cases h1:digs (a.num*b.num)<=300
  ·have h2:¬digs ((a.den*b.den:Nat):Int)<=300:=λh2=>h ⟨h1,h2⟩
   have m2:=λW hW=>zhk (a.den:Int) (b.den:Int) (by rw[zd9];exact ha.2) (by rw[zd9];exact hb.2) W hW;rw[<-Int.natCast_mul,Str.zad,Str.zad,zh8 h2,zh9 h2] at m2;rw[zcf h1,zcg h1] at m1;exact .inr ⟨_,m1,m2⟩
  ·rw[zh8 h1,zh9 h1] at m1
   exact .inl m1
 unfold zb1;generalize zE a.num=s1 at key⊢;generalize zE b.num=s2 at key⊢;generalize zD a.den=t1 at key⊢;generalize zD b.den=t2 at key⊢;have HW:=hid hw;clear hw h ha hb;obtain⟨W3,hW3⟩:=zzX ((w.alloc (.cells #[St s1,St t1] 98)).alloc (.cells #[St s2,St t2] 98));have hB0:qL w W3:=by rw[hW3];exact((zM _ w).alloc (zN _) _).alloc (by simp) _
 have z0:W3.heap.size=w.heap.size+1+1:=by rw[hW3];simp
 have A3:W3.heap[w.heap.size]? =some (.cells #[St s1,St t1] 98 (0,0)):=by
  rw[hW3];exact(Below.heap_alloc _ _ _ (by simp only[zH];omega)).trans (zG w _)
 have B3:W3.heap[w.heap.size+1]? =some (.cells #[St s2,St t2] 98 (0,0)):=by
  have:=zG (w.alloc (.cells #[St s1,St t1] 98)) (.cells #[St s2,St t2] 98 (0,0));rw[zH] at this;rw[hW3];exact this
 have HW3:=hid hW3;clear hW3;go_enter Tryz.func105,Tryz.ntmps105;go_wp21;rw[<-HW3.out];rcases key with m1|⟨u,m1,m2⟩
 ·refine zzM (m1 _ (HW.out.below hB0)) λw4 hb4=>?_
  have hB4:=hB0.trans (hb4.mono hB0.size);clear hb4 m1;go_wp21;go_ret2;exact⟨rfl,hB4⟩
 ·have M2:=hid m2;clear m2
  refine zzM (m1 _ (HW.out.below hB0)) λw4 hb4=>?_;have hB4:=hB0.trans (hb4.mono hB0.size);have A4:w4.heap[w.heap.size]? =some (.cells #[St s1,St t1] 98 (0,0)):=(hb4.block _ (by omega)).trans A3;have B4:w4.heap[w.heap.size+1]? =some (.cells #[St s2,St t2] 98 (0,0)):=(hb4.block _ (by omega)).trans B3;have A41:w4.cell? ⟨w.heap.size,1,none⟩=some (St t1):=by simp[World.cell?,A4]
  have B41:w4.cell? ⟨w.heap.size+1,1,none⟩=some (St t2):=by simp[World.cell?,B4]
  clear hb4 A3 B3 z0 m1;go_wp21;refine zzM (M2.out _ (HW.out.below hB4)) λw5 hb5=>?_;have hB5:=hB4.trans (hb5.mono hB4.size);clear hb5 A4 B4 A41 B41;go_wp21;go_ret2;exact⟨rfl,hB5⟩
theorem yfg (a b:Rat) (oa:okQ a) (ob:okQ b) (w:zA) (hw:Wd w):
 qJ 52 #[St (numS a),St (numS b)] w (.tuple #[St (if okMul a b then numS (a*b) else[]),.int .i64 (if okMul a b then 0 else 4)]):=by
 by_cases h:zbb a/\zbb b
 ·obtain⟨h1,h2⟩:=h
  have s1:sz a 8:=⟨(zaf a.num.natAbs 8 (by omega)).1 h1.1,(zaf a.den 8 (by omega)).1 h1.2⟩;have s2:sz b 8:=⟨(zaf b.num.natAbs 8 (by omega)).1 h2.1,(zaf b.den 8 (by omega)).1 h2.2⟩;have g:okMul a b:=⟨zO (zhd (k:=16) (by omega) (by rw[Int.natAbs_mul];exact zcc s1.1 s2.1)) (by omega),by rw[zd9];exact zO (zil (by omega) (zcc s1.2 s2.2)) (by omega)⟩;rw[if_pos g,if_pos g];exact zjf a b 8 8 (by omega) (by omega) (by omega) s1 s2 w hw
 ·have hq:=λW=>zd1 103 a b h oa ob W
  have hbo:=λW hW=>zgn 105 (enters_of Tryz.func105 (by kernel_rfl) rfl) a b oa ob (if okMul a b then numS (a*b) else[]) (E:=if okMul a b then 0 else 4) W hW (λW' _ hW'=>by
   by_cases g:okMul a b
   ·rw[if_pos g,if_pos g];exact zt7 a b oa ob g.1 (by have:=g.2;rwa [zd9] at this) W' hW'
   ·rw[if_neg g,if_neg g];exact yff a b oa ob g W' hW')
  generalize numS a=x at hq hbo⊢;generalize numS b=y at hq hbo⊢;generalize (if okMul a b then numS (a*b) else[])=r at hbo⊢;generalize (if okMul a b then(0:Int) else 4)=E at hbo⊢;have HQ:=hid hq;have HBO:=hid hbo;have HW:=hid hw;clear hq hbo oa ob h hw;go_enter Tryz.func52,Tryz.ntmps52;go_wp21;refine zzM (HQ.out _) λw1 hB1=>?_;go_wp21;refine zzM (HBO.out _ (HW.out.below hB1)) λw3 hb3=>?_;have hB3:=hB1.trans (hb3.mono hB1.size);clear hb3;go_wp21;go_ret2;exact⟨rfl,hB3⟩
theorem zmz (x xr y yr k m z:List UInt8) (is:Bool)
 (R:Hid (qK 170 #[St yr,St xr] (.tuple #[St k,.bool is,.int .i64 0])))
 (M:Hid (((qK 52 #[St y,St k] (.tuple #[St [],.int .i64 4])))\/
   (qK 52 #[St y,St k] (.tuple #[St m,.int .i64 0]))/\
   (qK 53 #[St x,St m] (.tuple #[St z,.int .i64 4]))))
 (w:zA) (HW:Hid (Wd w)):
 qJ 182 #[.agg #[St x,St xr],.agg #[St y,St yr]] w (.tuple #[.agg #[St [],St []],.int .i64 4]):=by
 have hS:=PlsS.start w x xr y yr;obtain⟨c0,c1,c2,c3,c4,c5,f0,f1⟩:=hS.cells;obtain⟨W1,hW1⟩:=zzX (((w.alloc (.cells #[St x,St xr] 158)).alloc (.cells #[St y,St yr] 158)).alloc (.cells #[St [],St []] 158));rw[<-hW1] at hS;have HS:=hid hS;have HW1:=hid hW1;clear hS hW1;go_enter Tryz.func182,Tryz.ntmps182;go_wp21;have h9:=HW1.out;rw[<-h9];clear h9 c0 c1 c2 c3 c4 c5 f0 f1;refine zzM (R.out W1 (HW.out.below HS.out.bel)) λw2 hb2=>?_;have H2:=hid (HS.out.next hb2);clear hb2 HS HW1;obtain⟨c0,c1,c2,c3,c4,c5,f0,f1⟩:=H2.out.cells;go_wp21;rcases M.out with M|⟨M,A⟩
 ·refine zzM (M w2 (HW.out.below H2.out.bel)) λw3 hb3=>?_
  have H3:=hid (H2.out.next hb3);clear hb3 H2 c0 c1 c2 c3 c4 c5 f0 f1 M;obtain⟨c0,c1,c2,c3,c4,c5,f0,f1⟩:=H3.out.cells;have hB4:=H3.out.bel;go_wp21;refine bodyPost_ret (v:=.tuple #[.agg #[St [],St []],.int .i64 4]) (by simp[results,Tryz.results182,go_sem,c4,c5]) rfl ⟨rfl,?_⟩
  repeat(first|exact hB4|refine Below.setCell ?_ (by simp;omega) _)
 ·have AA:=hid A
  refine zzM (M w2 (HW.out.below H2.out.bel)) λw3 hb3=>?_;have H3:=hid (H2.out.next hb3);clear hb3 H2 c0 c1 c2 c3 c4 c5 f0 f1 M A;obtain⟨c0,c1,c2,c3,c4,c5,f0,f1⟩:=H3.out.cells;go_wp21;refine zzM (AA.out w3 (HW.out.below H3.out.bel)) λw4 hb4=>?_;have H4:=hid (H3.out.next hb4);clear hb4 H3 c0 c1 c2 c3 c4 c5 f0 f1;obtain⟨c0,c1,c2,c3,c4,c5,f0,f1⟩:=H4.out.cells;have hB4:=H4.out.bel;go_wp21;refine bodyPost_ret (v:=.tuple #[.agg #[St [],St []],.int .i64 4]) (by simp[results,Tryz.results182,go_sem,c4,c5]) rfl ⟨rfl,?_⟩
  repeat(first|exact hB4|refine Below.setCell ?_ (by simp;omega) _)
theorem ygw (gb:Nat) (l:List (List UInt8×List UInt8)) (x xr y yr z zr:List UInt8) (kk:ByteArray) (j:Nat) (nn E:Int) (o:Bool) (hl:l.length<=5000) (hj:l[j]? =some (y,yr)) (hnn:decide (nn<0)=o)
 (R:Hid (∀(i:Nat) (c:List UInt8×List UInt8),i<j->l[i]? =some c->∃k,qK 170 #[St xr,St c.2] (.tuple #[.string k,.bool false,.int .i64 0])))
 (R1:Hid (qK 170 #[St xr,St yr] (.tuple #[.string kk,.bool true,.int .i64 0])))
 (CM:Hid (qK 30 #[St xr,St yr] (.tuple #[.int .i64 nn,.int .i64 0])))
 (P:Hid (qK 182 #[bif o then .agg #[St x,St xr] else .agg #[St y,St yr],bif o then .agg #[St y,St yr] else .agg #[St x,St xr]] (.tuple #[.agg #[St z,St zr],.int .i64 E])))
 (w:zA) (HW:Hid (Wd w)) (HG:Hid (GatL gb l w)):
 zC zF 119 #[.pointer (some ⟨gb,0,none⟩),.agg #[St x,St xr]] w λe w'=>e=.returned (.int .i64 E)/\zB gb w w'/\GatL gb (l.set j (z,zr)) w':=by
 obtain⟨p,cap,g0,o0,r0⟩:=HG.out.row;have hlt:=zbe g0;obtain⟨W1,hW1⟩:=zzX (w.alloc (.cells #[St x,St xr] 49));have hb1:qL w W1:=by rw[hW1];exact(zM _ w).alloc (zN _) _
 have A1:W1.heap[w.heap.size]? =some (.cells #[St x,St xr] 49 (0,0)):=by rw[hW1];exact zG w _
 have c0:=zai hb1 g0;rw[hW1] at c0;have HW1:=hid hW1.symm;have HB1:=hid hb1;have HA1:=hid A1;have HR0:=hid r0;have HO:=hid o0;have HG0:=hid g0;obtain⟨n,hn⟩:=zzX l.length;have hjn:j<n:=by rw[hn];exact(List.getElem?_eq_some_iff.1 hj).1
 rw[<-hn] at c0 hl HO HG0;have HN:=hid hn;have HJ:=hid hj;clear hW1 hb1 A1 r0 o0 g0 hn hj;go_enter Tryz.func119,Tryz.ntmps119;go_wp21;rw[HW1.out];clear c0 HW1;go_loopw [19] (λi wr=>∃(k:Nat),k<=j/\i=.int .i64 (k:Int)/\Hid (qL w wr)/\Hid (wr.heap[w.heap.size]? =some (.cells #[St x,St xr] 49 (0,0))))
  (λi _=>n-(zL i).toNat)
 case atStart=>exact⟨0,zR _,rfl,HB1,HA1⟩
 case round=>
  obtain⟨k,hk,rfl,hB,hT⟩:=hrel;have hlt:k<n:=by omega
  by_cases hkj:k<j
  ·obtain⟨c,hc⟩:∃c,l[k]? =some c:=⟨_,yB (by rw[<-HN.out];exact hlt)⟩
   obtain⟨g,rfl,c0,c1⟩:=(HR0.out.keep (zac hB.out)) k c hc;obtain⟨q,hR⟩:=R.out k c hkj hc;obtain⟨u,ur⟩:=c;have HRT:=hid hR;clear hR hc;simp only at c0 c1 HRT;obtain⟨v1,hv⟩:=zzX (wr.alloc (.cells #[St u,St ur] 158));have a1:qL wr v1:=by rw[hv];exact(zM _ wr).alloc (zN _) _
   have A1:v1.heap[wr.heap.size]? =some (.cells #[St u,St ur] 158 (0,0)):=by rw[hv];exact zG wr _
   have T1:=zac a1 _ _ _ _ hT.out;have k1:v1.cell? ⟨wr.heap.size,1,none⟩=some (St ur):=by rw[zJ A1];rfl
   have t1:v1.cell? ⟨w.heap.size,1,none⟩=some (St xr):=by rw[zJ T1];rfl
   have E1:=hid (hB.out.trans (a1.mono hB.out.size));have HT1:=hid T1;rw[hv] at k1 t1;have HV:=hid hv.symm;clear hv a1 A1 T1;go_wp21;rw[HV.out];clear k1 t1 HV c0 c1;refine zzM (HRT.out v1 (HW.out.below E1.out)) λw2 hb2=>?_;have hB2:=hid (E1.out.trans (hb2.mono E1.out.size));have hT2:=hid (zac hb2 _ _ _ _ HT1.out);clear hb2 HRT E1 HT1;go_wp21;go_roundw
   case rel=>exact⟨k+1,by omega,by go_num,hB2,hT2⟩
   case measure=>simp[zL];omega
  ·have hkn:k=j:=by omega
   subst hkn;obtain⟨g,rfl,c0,c1⟩:=(HR0.out.keep (zac hB.out)) k (y,yr) HJ.out;simp only at c0 c1;obtain⟨v1,hv⟩:=zzX (wr.alloc (.cells #[St y,St yr] 158));have hvs:wr.heap.size+1=v1.heap.size:=by rw[hv];simp
   have a1:qL wr v1:=by rw[hv];exact(zM _ wr).alloc (zN _) _
   have A1:v1.heap[wr.heap.size]? =some (.cells #[St y,St yr] 158 (0,0)):=by rw[hv];exact zG wr _
   have T1:=zac a1 _ _ _ _ hT.out;have k1:v1.cell? ⟨wr.heap.size,1,none⟩=some (St yr):=by rw[zJ A1];rfl
   have t1:v1.cell? ⟨w.heap.size,1,none⟩=some (St xr):=by rw[zJ T1];rfl
   have E1:=hid (hB.out.trans (a1.mono hB.out.size));have HT1:=hid T1;have HK1:=hid A1;rw[hv] at k1 t1;have HV:=hid hv.symm;clear hv a1 A1 T1;go_wp21;rw[HV.out];clear k1 t1 HV c0 c1;refine zzM (R1.out v1 (HW.out.below E1.out)) λw2 hb2=>?_;have E2:=hid (E1.out.trans (hb2.mono E1.out.size));have HT2:=hid (zac hb2 _ _ _ _ HT1.out);have hlw2:wr.heap.size<w2.heap.size:=zS (by omega) hb2.size;have HK2:=hid (zac hb2 _ _ _ _ HK1.out);clear hb2 R1 E1 HT1 HK1;have t0:w2.cell? ⟨w.heap.size,0,none⟩=some (St x):=by rw[zJ HT2.out];rfl
   have t1:w2.cell? ⟨w.heap.size,1,none⟩=some (St xr):=by rw[zJ HT2.out];rfl
   obtain⟨w3,hw3⟩:=zzX (w2.alloc (.cells #[St x,St xr] 158));have b3:qL w2 w3:=by rw[hw3];exact(zM _ w2).alloc (zN _) _
   have A3:w3.heap[w2.heap.size]? =some (.cells #[St x,St xr] 158 (0,0)):=by rw[hw3];exact zG w2 _
   have E3:=hid (E2.out.trans (b3.mono E2.out.size));have HK3:=hid (zac b3 _ _ _ _ HK2.out);have p1:w3.cell? ⟨wr.heap.size,1,none⟩=some (St yr):=by rw[zJ HK3.out];rfl
   have p2:w3.cell? ⟨w2.heap.size,1,none⟩=some (St xr):=by rw[zJ A3];rfl
   rw[hw3] at p1 p2;have HA3:=hid A3;have HW3:=hid hw3.symm;clear hw3 b3 A3;go_wp21;rw[HW3.out];clear t0 t1 p1 p2 HW3 E2 HK2 HT2;refine zzM (CM.out w3 (HW.out.below E3.out)) λw4 hb4=>?_;have E4:=hid (E3.out.trans (hb4.mono E3.out.size));have HK4:=hid (zac hb4 _ _ _ _ HK3.out);have HA4:=hid (zac hb4 _ _ _ _ HA3.out);clear hb4 E3 HK3 HA3 CM;have hlow:=hB.out.size;have l0:w4.cell? ⟨wr.heap.size,0,none⟩=some (St y):=by rw[zJ HK4.out];rfl
   have l1:w4.cell? ⟨wr.heap.size,1,none⟩=some (St yr):=by rw[zJ HK4.out];rfl
   have p0:w4.cell? ⟨w2.heap.size,0,none⟩=some (St x):=by rw[zJ HA4.out];rfl
   have p1:w4.cell? ⟨w2.heap.size,1,none⟩=some (St xr):=by rw[zJ HA4.out];rfl
   cases o
   case' true=>
    have hab:wr.heap.size<w2.heap.size:=hlw2;have f0:w4.frozen? ⟨wr.heap.size,0,none⟩=false:=Go.Joins.unfrozen_of_block HK4.out 0;have f1:w4.frozen? ⟨wr.heap.size,1,none⟩=false:=Go.Joins.unfrozen_of_block HK4.out 1;have f2:w4.frozen? ⟨w2.heap.size,0,none⟩=false:=Go.Joins.unfrozen_of_block HA4.out 0;have f3:w4.frozen? ⟨w2.heap.size,1,none⟩=false:=Go.Joins.unfrozen_of_block HA4.out 1;obtain⟨v4,hv4⟩:=zzX ((((w4.setCell ⟨wr.heap.size,0,none⟩ (St x)).setCell ⟨wr.heap.size,1,none⟩ (St xr)).setCell ⟨w2.heap.size,0,none⟩ (St y)).setCell ⟨w2.heap.size,1,none⟩ (St yr));have V1:v4.heap[wr.heap.size]? =some (.cells #[St x,St xr] 158 (0,0)):=by
     rw[hv4,yE _ _ _ _ (by show wr.heap.size≠w2.heap.size;omega),yE _ _ _ _ (by show wr.heap.size≠w2.heap.size;omega)];exact zK (i:=1) (zK (i:=0) HK4.out _) _
    have V2:v4.heap[w2.heap.size]? =some (.cells #[St y,St yr] 158 (0,0)):=by
     have hA:((w4.setCell ⟨wr.heap.size,0,none⟩ (St x)).setCell ⟨wr.heap.size,1,none⟩ (St xr)).heap[w2.heap.size]? =some (.cells #[St x,St xr] 158 (0,0)):=by
      rw[yE _ _ _ _ (by show w2.heap.size≠wr.heap.size;omega),yE _ _ _ _ (by show w2.heap.size≠wr.heap.size;omega)];exact HA4.out
     rw[hv4];exact zK (i:=1) (zK (i:=0) hA _) _
    have VB:qL w v4:=by
     rw[hv4];exact(((E4.out.setCell (by show w.heap.size<=wr.heap.size;omega) _).setCell (by show w.heap.size<=wr.heap.size;omega) _).setCell (by show w.heap.size<=w2.heap.size;omega) _).setCell (by show w.heap.size<=w2.heap.size;omega) _
    have q0:v4.cell? ⟨wr.heap.size,0,none⟩=some (St x):=by rw[zJ V1];rfl
    have q1:v4.cell? ⟨wr.heap.size,1,none⟩=some (St xr):=by rw[zJ V1];rfl
    have q2:v4.cell? ⟨w2.heap.size,0,none⟩=some (St y):=by rw[zJ V2];rfl
    have q3:v4.cell? ⟨w2.heap.size,1,none⟩=some (St yr):=by rw[zJ V2];rfl
    rw[hv4] at q0 q1 q2 q3;have u1:(w4.setCell ⟨wr.heap.size,0,none⟩ (St x)).frozen? ⟨wr.heap.size,1,none⟩=false:=by rw[World.frozen?_setCell];exact f1
    have u2:((w4.setCell ⟨wr.heap.size,0,none⟩ (St x)).setCell ⟨wr.heap.size,1,none⟩ (St xr)).frozen? ⟨w2.heap.size,0,none⟩=false:=by rw[World.frozen?_setCell,World.frozen?_setCell];exact f2
    have u3:(((w4.setCell ⟨wr.heap.size,0,none⟩ (St x)).setCell ⟨wr.heap.size,1,none⟩ (St xr)).setCell ⟨w2.heap.size,0,none⟩ (St y)).frozen? ⟨w2.heap.size,1,none⟩=false:=by rw[World.frozen?_setCell,World.frozen?_setCell,World.frozen?_setCell];exact f3
    have HV4:=hid hv4.symm;have HVB:=hid VB;clear hv4 V1 V2 VB;go_wp21;rw[HV4.out];clear l0 l1 p0 p1 f0 f1 f2 f3 q0 q1 q2 q3 u1 u2 u3 HV4 E4 HK4 HA4
   case' false=>
    have HVB:=E4;clear E4 HK4 HA4 hlow hlw2;go_wp21;clear l0 l1 p0 p1
   all_goals
    refine zzM (P.out _ (HW.out.below HVB.out)) λw5 hb5=>?_;have E5:=qT HVB hb5;clear hb5 HVB P;obtain⟨w6,hw6⟩:=zzX (w5.alloc (.cells #[St z,St zr] 158));have b6:qL w5 w6:=by rw[hw6];exact(zM _ w5).alloc (zN _) _
    have A6:w6.heap[w5.heap.size]? =some (.cells #[St z,St zr] 158 (0,0)):=by rw[hw6];exact zG w5 _
    have hB6:=E5.out.trans (b6.mono E5.out.size);have HW6:=hid hw6.symm;clear hw6 b6;go_wp21;rw[HW6.out];clear HW6;obtain⟨g',e',r0,r1⟩:=(HR0.out.keep (zac hB6)) k (y,yr) HJ.out;obtain rfl:g=g':=by cases e';rfl
    have hgs:gb<w.heap.size:=zbe HG0.out;have m0:w6.drew.cell? ⟨gb,0,none⟩=some (.slice (some ⟨g,0,none⟩) n cap):=zai hB6 HG0.out;have m2:w6.drew.cell? ⟨g,k*2,none⟩=some (St y):=r0;have m3:w6.drew.cell? ⟨g,k*2+1,none⟩=some (St yr):=r1;have o6:w6.drew.ownsRow (gb+1) 158 2 (.slice (some ⟨g,0,none⟩) n cap) n (zbj l):=zcj (zac hB6) HO.out;have hgg:gb<g:=(o6.lt g rfl).1;have m4:w6.drew.frozen? ⟨g,k*2,none⟩=false:=z42 o6 _;have m5:w6.drew.frozen? ⟨g,k*2+1,none⟩=false:=z42 o6 _;have m6:w6.drew.cell? ⟨w5.heap.size,0,none⟩=some (St z):=by rw[zJ (show w6.drew.heap[w5.heap.size]? =_ from A6)];rfl
    have m7:w6.drew.cell? ⟨w5.heap.size,1,none⟩=some (St zr):=by rw[zJ (show w6.drew.heap[w5.heap.size]? =_ from A6)];rfl
    have n2:w6.cell? ⟨g,k*2,none⟩=some (St y):=m2;have n3:w6.cell? ⟨g,k*2+1,none⟩=some (St yr):=m3;have n4:w6.frozen? ⟨g,k*2,none⟩=false:=m4;have n5:w6.frozen? ⟨g,k*2+1,none⟩=false:=m5;have HF:=hid ((zac hB6).frozen HG0.out HG.out.fr);have HO6:=hid o6;have HM0:=hid m0;have HB6:=hid hB6;clear R HR0 HB1 HA1 HG r0 r1 e' o6 hT hB;refine zc4 (λ(_:Unit) i=>([.pointer (some ⟨gb,0,none⟩),.pointer (some ⟨gb,0,none⟩),.pointer (some ⟨gb,0,none⟩),.slice (some ⟨g,0,none⟩) n cap,.int .i64 (k:Int),.agg #[St z,St zr],.pointer (some ⟨g,k*2,none⟩)]:List Value).getD i undef) (λ_ f W'=>(f 7=false->W'=w6.drew)/\(f 7=true->W'=((w6.drew.setCell ⟨g,k*2,none⟩ (St z)).setCell ⟨g,k*2+1,none⟩ (St zr)))) (by kernel_rfl) (by kernel_rfl) () ⟨λ_=>rfl,λh=>(by cases h)⟩ λb=>?_;refine qB (.pointer (some ⟨gb,0,none⟩)) (λf W' h=>⟨h.1,h.2⟩) ?_ (hy:=λf W' hf h=>by
     obtain rfl:=h.1 (hf.no (j:=7) hf.self (by kernel_rfl));go_simp)
    refine qB (.pointer (some ⟨gb,0,none⟩)) (λf W' h=>⟨h.1,h.2⟩) ?_ (hy:=λf W' hf h=>by
     obtain rfl:=h.1 (hf.no (j:=7) hf.self (by kernel_rfl));go_simp)
    refine qB (.pointer (some ⟨gb,0,none⟩)) (λf W' h=>⟨h.1,h.2⟩) ?_ (hy:=λf W' hf h=>by
     obtain rfl:=h.1 (hf.no (j:=7) hf.self (by kernel_rfl));go_simp)
    try simp only[zzQ]
    refine qB (.slice (some ⟨g,0,none⟩) n cap) (λf W' h=>⟨h.1,h.2⟩) ?_ (hy:=λf W' hf h=>by
     obtain rfl:=h.1 (hf.no (j:=7) hf.self (by kernel_rfl));go_simp)
    refine qB (.int .i64 (k:Int)) (λf W' h=>⟨h.1,h.2⟩) ?_ (hy:=λf W' hf h=>by
     obtain rfl:=h.1 (hf.no (j:=7) hf.self (by kernel_rfl));go_simp)
    refine qB (.agg #[St z,St zr]) (λf W' h=>⟨h.1,h.2⟩) ?_ (hy:=λf W' hf h=>by
     obtain rfl:=h.1 (hf.no (j:=7) hf.self (by kernel_rfl));go_simp)
    try simp only[zzQ]
    refine qB (.pointer (some ⟨g,k*2,none⟩)) (λf W' h=>⟨h.1,h.2⟩) ?_ (hy:=λf W' hf h=>by
     obtain rfl:=h.1 (hf.no (j:=7) hf.self (by kernel_rfl));go_simp)
    try simp only[zzQ]
    refine zbv undef (by rfl) (by rfl) (λf W' hf h C' hC'=>by
     obtain rfl:=h.1 hf.self;have:=hC' ((w6.drew.setCell ⟨g,k*2,none⟩ (St z)).setCell ⟨g,k*2+1,none⟩ (St zr)) ⟨λk=>(by cases k),λ_=>rfl⟩;go_simp;exact this) ?_
    try simp only[Act.put]
    refine ze1 λf X hf h=>?_;obtain rfl:=h.2 (hf 7 (by decide));have hbel:zB gb w ((w6.drew.setCell ⟨g,k*2,none⟩ (St z)).setCell ⟨g,k*2+1,none⟩ (St zr)):=
     (((HB6.out.mono (by omega)).drew).setCell (by simp;omega) _).setCell (by simp;omega) _
    have hgate:GatL gb (l.set k (z,zr)) ((w6.drew.setCell ⟨g,k*2,none⟩ (St z)).setCell ⟨g,k*2+1,none⟩ (St zr)):=by
     refine⟨⟨_,by rw[zau _ _ _ _ (by omega),zau _ _ _ _ (by omega)];exact HM0.out,?_⟩,?_⟩
     ·rw[List.length_set,<-HN.out];exact z6l HO6.out HN.out (by omega)
     ·rw[World.frozen?_setCell,World.frozen?_setCell];exact HF.out
    have HE:=hid (⟨hbel,hgate⟩:zB gb w ((w6.drew.setCell ⟨g,k*2,none⟩ (St z)).setCell ⟨g,k*2+1,none⟩ (St zr))/\GatL gb (l.set k (z,zr)) ((w6.drew.setCell ⟨g,k*2,none⟩ (St z)).setCell ⟨g,k*2+1,none⟩ (St zr)));clear hbel hgate m0 m2 m3 m4 m5 m6 m7 n2 n3 n4 n5 h hf;go_wp21;go_ret;exact⟨rfl,HE.out⟩
structure VisF (F:Prop) (gb:Nat) (c r:List UInt8) (S S':zA->Prop) (one:Bool) (k n m:List UInt8) (ln:Int):Prop where
 cz:(c==[48])=false
 rz:(r==[48])=false
 n1:(r==[49])=one
 kn:one=true->k=[49]/\n=r
 norm:one=false->∀W:zA,Wd W->Pw W->qJ 96 #[St r] W (.tuple #[St k,St n,.int .i64 0])
 lng:qK 120 #[St n] (.int .i64 ln)
 keep:∀W W':zA,S W->qL W W'->S W'
 rest:(90<ln/\F)\/(ln<=90/\(qK 52 #[St c,St k] (.tuple #[St m,.int .i64 0]))/\
  ∀W:zA,Wd W->S W->zC zF 119 #[.pointer (some ⟨gb,0,none⟩),.agg #[St m,St n]] W λe w'=>∃r:Int,e=.returned (.int .i64 r)/\zB gb W w'/\((r=0/\S' w')\/(r=4/\F)))
theorem ygx (F:Prop) (gb:Nat) (p:Option Addr) (cap n:Nat) (X Y:Nat->List UInt8) (S:Nat->zA->Prop) (hn:n<=5000)
 (V:Hid (∀i,i<n->∃one k n m ln,VisF F gb (X i) (Y i) (S i) (S (i+1)) one k n m ln))
 (w:zA) (hgb:gb<=w.heap.size) (HW:Hid (∀W,zB gb w W->Wd W)) (HP:Hid (∀W,zB gb w W->Pw W)) (h0:S 0 w)
 (HT:Hid (∀i,i<n->∃b off,p=some ⟨b,off,none⟩/\b<gb/\w.cell? ⟨b,off+i*2,none⟩=some (St (X i))/\w.cell? ⟨b,off+i*2+1,none⟩=some (St (Y i)))):
 zC zF 118 #[.slice p n cap,.func (.func 119) #[.pointer (some ⟨gb,0,none⟩)] #[]] w λe w'=>∃r:Int,e=.returned (.int .i64 r)/\zB gb w w'/\((r=0/\S n w')\/(r=4/\F)):=by
 have D0:=hid (zM gb w);have s0:=hid h0;have g0:=hid hgb;clear h0 hgb;go_enter Tryz.func118,Tryz.ntmps118;go_wp21;go_loopw [13] (λi wr=>∃(k:Nat),k<=n/\i=.int .i64 (k:Int)/\Hid (zB gb w wr)/\Hid (gb<=wr.heap.size)/\Hid (S k wr))
  (λi _=>n-(zL i).toNat)
 case atStart=>exact⟨0,zR _,rfl,D0,g0,s0⟩
 case round=>
  obtain⟨k,hk,rfl,D1,g1,s1⟩:=hrel;by_cases hlt:k<n
  ·obtain⟨b,off,rfl,hb,c0,c1⟩:=HT.out k hlt
   obtain⟨one,kk,nr,m,ln,HV⟩:=V.out k hlt;have R1:=hid HV;generalize X k=x at*
   generalize Y k=y at*
   have cz:=HV.cz;have rz:=HV.rz;have n1:=HV.n1;have t0:wr.cell? ⟨b,off+k*2,none⟩=some (St x):=by rw[D1.out.cell (p:=⟨b,off+k*2,none⟩) hb];exact c0
   have t1:wr.cell? ⟨b,off+k*2+1,none⟩=some (St y):=by rw[D1.out.cell (p:=⟨b,off+k*2+1,none⟩) hb];exact c1
   obtain⟨v1,hv⟩:=zzX (wr.alloc (.cells #[St x,St y] 49));have a1:qL wr v1:=by rw[hv];exact(zM _ wr).alloc (zN _) _
   have A1:v1.heap[wr.heap.size]? =some (.cells #[St x,St y] 49 (0,0)):=by rw[hv];exact zG wr _
   have k0:v1.cell? ⟨wr.heap.size,0,none⟩=some (St x):=by rw[zJ A1];rfl
   have k1:v1.cell? ⟨wr.heap.size,1,none⟩=some (St y):=by rw[zJ A1];rfl
   have k0':=k0;have k1':=k1;rw[hv] at k0 k1;have HV1:=hid hv.symm;have E1:=hid a1;have B1:=hid A1;clear hv a1 A1 HV c0 c1 hb;go_wp21;rw[HV1.out];clear t0 t1 k0 k1 HV1
   (refine wp_region_quiet_lit (by kernel_rfl) (by kernel_rfl) (WQ.out ?_);(repeat(first|(apply WQ.read (by rfl);(focus(rintro W ⟨n,rfl⟩;go_simp;try with_reducible rfl));try simp only[zzQ])|(apply WQ.skip (by rfl);try simp only[zzQ])));refine WQ.nil ?_;rintro _ ⟨nq,rfl⟩)
   have E2:=hid (zao E1.out nq);have B2:=hid (show(v1.drewN nq).heap[wr.heap.size]? =_ from B1.out);clear E1 B1;cases one
   case' false=>
    go_wp21;refine zzM (R1.out.norm rfl _ (HW.out _ (D1.out.trans (E2.out.mono g1.out))) (HP.out _ (D1.out.trans (E2.out.mono g1.out)))) λy1 hb1=>?_;have E3:=hid (E2.out.trans (hb1.mono E2.out.size));have B3:=hid (zac hb1 _ _ _ _ B2.out);clear hb1 E2 B2 k0' k1' cz rz n1
   case' true=>
    obtain⟨rfl,rfl⟩:=R1.out.kn rfl;have E3:=E2;have B3:=B2;clear E2 B2
   all_goals
    go_wp21
    try clear k0' k1' cz rz n1
    refine zzM (R1.out.lng _ (HW.out _ (D1.out.trans (E3.out.mono g1.out)))) λy2 hb1=>?_;have E4:=hid (E3.out.trans (hb1.mono E3.out.size));have B4:=hid (zac hb1 _ _ _ _ B3.out);clear hb1 E3 B3;rcases R1.out.rest with⟨hl,hF⟩|⟨hl,hM,hE⟩
    ·have hl9:decide (90<ln)=true:=decide_eq_true hl
     have HF:=hid (⟨D1.out.trans (E4.out.mono g1.out),hF⟩:_/\_);clear hF B4;go_wp21;go_ret;exact⟨4,rfl,HF.out.1,.inr ⟨rfl,HF.out.2⟩⟩
    ·have hl9:decide (90<ln)=false:=decide_eq_false (by omega)
     have HM:=hid hM;have HE:=hid hE;clear hM hE;have k0:y2.cell? ⟨wr.heap.size,0,none⟩=some (St x):=by rw[zJ B4.out];rfl
     go_wp21;refine zzM (HM.out y2 (HW.out _ (D1.out.trans (E4.out.mono g1.out)))) λy3 hb1=>?_;have E5:=hid (E4.out.trans (hb1.mono E4.out.size));clear hb1 E4 B4 k0 HM;go_wp21;refine(HE.out y3 (HW.out _ (D1.out.trans (E5.out.mono g1.out))) (R1.out.keep _ _ s1.out E5.out)).mono ?_;rintro e u1 ⟨r,rfl,hb1,hs⟩;have D2:=hid ((D1.out.trans (E5.out.mono g1.out)).trans hb1);have g2:Hid (gb<=u1.heap.size):=hid (zO g1.out (zO E5.out.size hb1.size));rcases hs with⟨rfl,hs⟩|⟨rfl,hF⟩
     ·have s2:=hid hs
      clear hb1 hs E5 s1 R1 HT HE;go_wp21;go_roundw
      case rel=>exact⟨k+1,by omega,by go_num,D2,g2,s2⟩
      case measure=>simp[zL];omega
     ·have HF:=hid hF
      clear hb1 hF E5 s1 R1 HT HE;go_wp21;go_ret;exact⟨4,rfl,D2.out,.inr ⟨rfl,HF.out⟩⟩
  ·have hkn:k=n:=by omega
   subst hkn;go_wp21;go_ret;exact⟨0,rfl,D1.out,.inl ⟨rfl,s1.out⟩⟩
theorem z0i (F:Prop) (p:Option Addr) (cap n:Nat) (X Y:Nat->List UInt8) (L M:List (List UInt8×List UInt8)) (j0:Nat) (hn:n<=256) (hm:L.length<=5000)
 (CK:Hid (∀i,i<n->qK 36 #[St (X i)] (.int .i64 0)))
 (RK:Hid (∀i,i<n->qK 36 #[St (Y i)] (.int .i64 0)))
 (PF:Hid (∀i,i<n->∀W:zA,zC zF 39 #[St (Y i),.string ⟨#[45]⟩] W λe w'=>e=.returned (.bool false)/\w'=W))
 (w:zA) (HW:Hid (∀W,qL w W->Wd W))
 (HT:Hid (∀i,i<n->∃b off,p=some ⟨b,off,none⟩/\b<w.heap.size/\w.cell? ⟨b,off+i*2,none⟩=some (St (X i))/\w.cell? ⟨b,off+i*2+1,none⟩=some (St (Y i))))
 (VIS:Hid (∀u vg:zA,qL w u->qL u vg->vg.heap.size=u.heap.size+1->GatL u.heap.size [] vg->zC zF 118 #[.slice p n cap,.func (.func 119) #[.pointer (some ⟨u.heap.size,0,none⟩)] #[]] vg λe w'=>∃r:Int,e=.returned (.int .i64 r)/\zB u.heap.size vg w'/\((r=0/\GatL u.heap.size L w')\/(r=4/\F))))
 (LG:Hid (∀(i:Nat) (c:List UInt8×List UInt8),i<j0->L[i]? =some c->(c.1==[48])=false->∃a b:Int,(qK 120 #[St c.1] (.int .i64 a))/\(qK 120 #[St c.2] (.int .i64 b))/\decide (60<a)=false/\decide (40<b)=false))
 (END:Hid ((j0=L.length/\(zin L).length<=16/\∀(B:Nat) (W:zA) (q:Option Addr) (c:Nat),qL w W->w.heap.size<=B->B<=W.heap.size->W.ownsRow B 49 2 (.slice q (zin L).length c) (zin L).length (zbj (zin L))->zC zF 121 #[.slice q (zin L).length c,.func (.func 122) #[] #[]] W λe w'=>(∃u,e=.returned u)/\zB B W w'/\w'.ownsRow B 49 2 (.slice q (zin L).length c) (zin L).length (zbj M))\/∃(bx br:List UInt8) (a0 b0:Int),L[j0]? =some (bx,br)/\(bx==[48])=false/\(60<a0\/(a0<=60/\40<b0))/\(qK 120 #[St bx] (.int .i64 a0))/\qK 120 #[St br] (.int .i64 b0))):
 zC zF 62 #[.slice p n cap] w λe w'=>∃q m c r,e=.returned (.tuple #[.slice q m c,.int .i64 r])/\zB w.heap.size w w'/\((r=0/\j0=L.length/\m=(zin L).length/\w'.ownsRow w.heap.size 49 2 (.slice q m c) m (zbj M))\/(r=4/\(j0<L.length\/F)/\q=none/\m=0/\c=0)):=by
 obtain⟨i0,hi,hz0,hz1,hz2⟩:=info_parts zsc;have D0:=hid (zM w.heap.size w);go_enter Tryz.func62,Tryz.ntmps62;go_wp21;go_loopw [18] (λi wr=>∃(k:Nat),k<=n/\i=.int .i64 (k:Int)/\Hid (qL w wr))
  (λi _=>n-(zL i).toNat)
 case atStart=>exact⟨0,zR _,rfl,D0⟩
 case round=>
  obtain⟨k,hk,rfl,D1⟩:=hrel;by_cases hlt:k<n
  ·obtain⟨b,off,rfl,hb,c0,c1⟩:=HT.out k hlt
   have C1:=hid (CK.out k hlt);have C2:=hid (RK.out k hlt);have C3:=hid (PF.out k hlt);generalize X k=x at*
   generalize Y k=y at*
   have t0:wr.cell? ⟨b,off+k*2,none⟩=some (St x):=by rw[D1.out.cell (p:=⟨b,off+k*2,none⟩) hb];exact c0
   have t1:wr.cell? ⟨b,off+k*2+1,none⟩=some (St y):=by rw[D1.out.cell (p:=⟨b,off+k*2+1,none⟩) hb];exact c1
   obtain⟨v1,hv⟩:=zzX (wr.alloc (.cells #[St x,St y] 49));have a1:qL wr v1:=by rw[hv];exact(zM _ wr).alloc (zN _) _
   have A1:v1.heap[wr.heap.size]? =some (.cells #[St x,St y] 49 (0,0)):=by rw[hv];exact zG wr _
   have k0:v1.cell? ⟨wr.heap.size,0,none⟩=some (St x):=by rw[zJ A1];rfl
   rw[hv] at k0;have HV1:=hid hv.symm;have E1:=hid (D1.out.trans (a1.mono D1.out.size));have B1:=hid A1;clear hv a1 A1 c0 c1 hb;go_wp21;rw[HV1.out];clear t0 t1 k0 HV1;refine zzM (C1.out v1 (HW.out _ E1.out)) λy1 hb1=>?_;have E2:=hid (E1.out.trans (hb1.mono E1.out.size));have B2:=hid (zac hb1 _ _ _ _ B1.out);clear hb1 E1 B1;have k1:y1.cell? ⟨wr.heap.size,1,none⟩=some (St y):=by rw[zJ B2.out];rfl
   go_wp21;refine zzM (C2.out y1 (HW.out _ E2.out)) λy2 hb1=>?_;have E3:=hid (E2.out.trans (hb1.mono E2.out.size));have B3:=hid (zac hb1 _ _ _ _ B2.out);clear hb1 k1 E2 B2;have k1:y2.cell? ⟨wr.heap.size,1,none⟩=some (St y):=by rw[zJ B3.out];rfl
   go_wp21;refine zzM (C3.out y2) λu1 hw1=>?_;have D2:Hid (qL w u1):=hid (by rw[hw1];exact E3.out);clear hw1 k1 E3 B3;go_wp21;go_roundw
   case rel=>exact⟨k+1,by omega,by go_num,D2⟩
   case measure=>simp[zL];omega
  ·have hkn:k=n:=by omega
   subst hkn;go_wp21;have N0:qL wr (wr.alloc (.cells #[.slice none 0 0] 155)):=(zM _ wr).alloc (zN _) _;have NA:=zG wr (.cells #[.slice none 0 0] 155);have NZ:(wr.alloc (.cells #[.slice none 0 0] 155)).heap.size=wr.heap.size+1:=by simp
   generalize wr.alloc (.cells #[.slice none 0 0] 155)=vg at*
   have HV:=hid (VIS.out wr vg D1.out N0 NZ ⟨⟨_,by rw[zJ NA];rfl,World.ownsRow_nil _ _ _ _⟩,by rw[Go.Joins.unfrozen_of_block NA]⟩);have HN0:=hid N0;clear NA NZ N0 VIS HT CK RK PF;refine HV.out.mono ?_;rintro e z ⟨rz,rfl,hz,hg⟩;rcases hg with⟨rfl,hg⟩|⟨rfl,hF⟩
   case' inr=>
    have HF:=hid (⟨D1.out.trans ((HN0.out.trans hz).mono D1.out.size),hF⟩:_/\_);clear hF hz HV;go_wp21;go_ret2;exact⟨none,0,0,4,rfl,HF.out.1,.inr ⟨rfl,.inr HF.out.2,rfl,rfl,rfl⟩⟩
   have DZ:Hid (qL w z):=hid (D1.out.trans ((HN0.out.trans hz).mono D1.out.size));obtain⟨pc,cc,g0, -,r0⟩:=hg.row;have HR:=hid r0;obtain⟨m,hmm⟩:=zzX L.length;have hjm:j0<=m:=by
    rcases END.out with⟨h,_⟩|⟨_,_,_,_,h,_⟩
    ·omega
    ·have:=(List.getElem?_eq_some_iff.1 h).1;omega
   rw[<-hmm] at g0 hm;have HM:=hid hmm;have Z0:=hid (zM z.heap.size z);have ZO:=hid (show z.ownsRow z.heap.size 49 2 (.slice none 0 0) (ziq L 0).length (zbj (ziq L 0)) from World.ownsRow_nil _ _ _ _);clear hmm r0 hg hz HV;go_wp21;clear g0;go_loopw [10,47] (λv i wr=>∃(k:Nat) (q:Option Addr) (c:Nat),k<=j0/\i=.int .i64 (k:Int)/\v=.slice q (ziq L k).length c/\Hid (qL z wr)/\Hid (wr.ownsRow z.heap.size 49 2 (.slice q (ziq L k).length c) (ziq L k).length (zbj (ziq L k))))
    (λ_ i _=>m-(zL i).toNat)
   case atStart=>exact⟨0,none,0,zR _,rfl,rfl,Z0,ZO⟩
   case round=>
    obtain⟨k,q,c,hk,rfl,rfl,E0,O0⟩:=hrel;by_cases hlt:k<j0
    ·have hkm0:k<m:=by omega
     obtain⟨d,hd⟩:∃d,L[k]? =some d:=⟨_,yB (by rw[<-HM.out];exact hkm0)⟩;obtain⟨g,rfl,c0,c1⟩:=(HR.out.keep (zac E0.out)) k d hd;have hks:=z6s hd;have hkl:=z8a L k;rw[<-HM.out] at hkl;have hL:=λh=>LG.out k d hlt hd h;obtain⟨x,y⟩:=d;simp only at c0 c1 hks hL;obtain⟨v1,hv⟩:=zzX (wr.alloc (.cells #[St x,St y] 158));have a1:qL wr v1:=by rw[hv];exact(zM _ wr).alloc (zN _) _
     have A1:v1.heap[wr.heap.size]? =some (.cells #[St x,St y] 158 (0,0)):=by rw[hv];exact zG wr _
     have k0:v1.cell? ⟨wr.heap.size,0,none⟩=some (St x):=by rw[zJ A1];rfl
     rw[hv] at k0;have HV1:=hid hv.symm;have E1:=hid (E0.out.trans (a1.mono E0.out.size));have B1:=hid A1;have O1:=hid (zcj (zac a1) O0.out);have HK:=hid hks;have HL:=hid hL;clear hv a1 A1 O0 hd hks hL;cases hx:(x==[48])
     ·obtain⟨a,b,La,Lb,la,lb⟩:=HL.out hx
      have HLa:=hid La;have HLb:=hid Lb;clear La Lb;go_wp21;rw[HV1.out];clear c0 c1 k0 HV1;refine zzM (HLa.out v1 (HW.out _ (DZ.out.trans (E1.out.mono DZ.out.size)))) λy1 hb1=>?_;have E2:=hid (E1.out.trans (hb1.mono E1.out.size));have B2:=hid (zac hb1 _ _ _ _ B1.out);have O2:=hid (zcj (zac hb1) O1.out);clear hb1 E1 B1 O1;have k1:y1.cell? ⟨wr.heap.size,1,none⟩=some (St y):=by rw[zJ B2.out];rfl
      go_wp21;refine zzM (HLb.out y1 (HW.out _ (DZ.out.trans (E2.out.mono DZ.out.size)))) λy2 hb1=>?_;have E3:=hid (E2.out.trans (hb1.mono E2.out.size));have B3:=hid (zac hb1 _ _ _ _ B2.out);have O3:=hid (zcj (zac hb1) O2.out);clear hb1 k1 E2 B2 O2;have k0:y2.cell? ⟨wr.heap.size,0,none⟩=some (St x):=by rw[zJ B3.out];rfl
      have k1:y2.cell? ⟨wr.heap.size,1,none⟩=some (St y):=by rw[zJ B3.out];rfl
      go_wp2_with (at_builtin;refine wpList_append_own _ rfl _ _ 36 rfl z.heap.size 49 i0 (.agg #[St [],St []]) 2 32 Tryz.underlying36 hi hz0 hz1 hz2 rfl (by decide) _ _ _ rfl (O3.out.alloc _) ⟨y2.heap.size,0,none⟩ 1 1 [St x,St y] rfl rfl (zoq _ _ _ _) (zm4 _ _) (by unfold maxLen;omega) (by omega) (by have:=E3.out.size;simp;omega) (λv' w' hown' hgrow _=>?_));obtain⟨g',c',rfl, -, -⟩:=zye hown' (by omega);have F1:Hid (qL z w'):=hid ((E3.out.alloc E3.out.size _).grown hgrow (by have:=E3.out.size;simp;omega) (λq e=>(O3.out.lt q e).1));have he:ziq L (k+1)=ziq L k++[(x,y)]:=by rw[HK.out,hx];rfl
      have hel:(ziq L (k+1)).length=(ziq L k).length+1:=by rw[he];simp
      have G1:Hid (w'.ownsRow z.heap.size 49 2 (.slice (some ⟨g',0,none⟩) (ziq L (k+1)).length c') (ziq L (k+1)).length (zbj (ziq L (k+1)))):=hid (by rw[hel,he,zjb];exact hown');have HE:=hid hel;clear hgrow hown' k0 k1 E3 O3 B3 he hel HK HL;go_roundw
      case rel=>exact⟨k+1,some ⟨g',0,none⟩,c',by omega,by go_num,by rw[HE.out],F1,G1⟩
      case measure=>simp[zL];omega
     ·have he:ziq L (k+1)=ziq L k:=by rw[HK.out,hx];simp
      have HE:=hid he;clear he HK HL;go_wp21;rw[HV1.out];clear c0 c1 k0 HV1;go_roundw
      case rel=>exact⟨k+1,q,c,by omega,by go_num,by rw[HE.out],E1,by rw[HE.out];exact O1⟩
      case measure=>simp[zL];omega
    ·have hkm:k=j0:=by omega
     subst hkm;clear LG;rcases END.out with⟨hjl,ho,hS⟩|⟨bx,br,a0,b0,hj,hb0,ha0,hLB,hLR⟩
     ·have HX:=hid hjl
      have hkm:k=m:=by rw[HM.out];exact hjl
      subst hkm;clear END hjl hjm hlt;have he:ziq L k=zin L:=by rw[HX.out,z7n]
      rw[he] at O0⊢;have DE:=hid (DZ.out.trans (E0.out.mono DZ.out.size));have hs:=hS z.heap.size wr q c DE.out DZ.out.size E0.out.size O0.out;have HS:=hid hs;clear hs he hS;go_wp21;refine HS.out.mono ?_;rintro e y5 ⟨⟨u,rfl⟩,h1,h2⟩;have FE:=hid (⟨DE.out.trans (h1.mono DZ.out.size),h2.mono DZ.out.size⟩:qL w y5/\y5.ownsRow w.heap.size 49 2 (.slice q (zin L).length c) (zin L).length (zbj M));clear h1 h2;go_wp21;go_ret2;exact⟨q,_,c,0,rfl,FE.out.1,.inl ⟨rfl,HX.out,rfl,FE.out.2⟩⟩
     ·have hkm0:k<m:=by have:=(List.getElem?_eq_some_iff.1 hj).1;rw[HM.out];exact this
      have HKM:=hid (show k<L.length by rw[<-HM.out];exact hkm0);have HJ:=hid hj;have HB0:=hid hb0;have HA0:=hid ha0;have LB:=hid hLB;have LR:=hid hLR;clear END hj hb0 ha0 hLB hLR hlt;obtain⟨g,rfl,c0,c1⟩:=(HR.out.keep (zac E0.out)) k (bx,br) HJ.out;simp only at c0 c1;have hx:=HB0.out;obtain⟨v1,hv⟩:=zzX (wr.alloc (.cells #[St bx,St br] 158));have a1:qL wr v1:=by rw[hv];exact(zM _ wr).alloc (zN _) _
      have A1:v1.heap[wr.heap.size]? =some (.cells #[St bx,St br] 158 (0,0)):=by rw[hv];exact zG wr _
      have k0:v1.cell? ⟨wr.heap.size,0,none⟩=some (St bx):=by rw[zJ A1];rfl
      rw[hv] at k0;have HV1:=hid hv.symm;have E1:=hid (E0.out.trans (a1.mono E0.out.size));have B1:=hid A1;clear hv a1 A1 O0;go_wp21;rw[HV1.out];clear c0 c1 k0 HV1;refine zzM (LB.out v1 (HW.out _ (DZ.out.trans (E1.out.mono DZ.out.size)))) λy1 hb1=>?_;have E2:=hid (DZ.out.trans ((E1.out.trans (hb1.mono E1.out.size)).mono DZ.out.size));have B2:=hid (zac hb1 _ _ _ _ B1.out);clear hb1 E1 B1;have k1:y1.cell? ⟨wr.heap.size,1,none⟩=some (St br):=by rw[zJ B2.out];rfl
      rcases HA0.out with hai|⟨hai,hbi⟩
      ·have ha:decide (60<a0)=true:=decide_eq_true hai
       go_wp21;go_ret2;exact⟨none,0,0,4,rfl,E2.out,.inr ⟨rfl,.inl HKM.out,rfl,rfl,rfl⟩⟩
      ·have ha:decide (60<a0)=false:=decide_eq_false (by omega)
       have hb:decide (40<b0)=true:=decide_eq_true hbi;go_wp21;refine zzM (LR.out y1 (HW.out _ E2.out)) λy2 hb1=>?_;have E3:=hid (E2.out.trans (hb1.mono E2.out.size));clear hb1 E2;go_wp21;go_ret2;exact⟨none,0,0,4,rfl,E3.out,.inr ⟨rfl,.inl HKM.out,rfl,rfl,rfl⟩⟩
structure NrmG (r:Nat):Prop where
 pos:0<r
 lt:r<10^90
 nc:zn7 r=(1,r)
theorem NrmG.sz {r:Nat} (h:NrmG r):sz (r:Rat) 90:=⟨by show((r:Int)).natAbs<_;rw[Int.natAbs_natCast];exact h.lt,by show 1<10^90;exact Nat.one_lt_pow (by omega) (by omega)⟩
theorem z0j {k:Nat} (h0:0<k) (h9:k<=300) {a b:Int} (hb:b≠0) (h1:digs a<=k) (h2:digs b<=k):okQ (Rat.divInt a b):=
 zd0 h0 h9 (zig hb ((za3 _ _ h0).1 h1) ((za3 _ _ h0).1 h2))
theorem okMul.ok {a b:Rat} (h:okMul a b):okQ (a*b):=by
 rw[zf1];exact z0j (k:=300) (by omega) (by omega) (by have:=Nat.mul_pos a.den_pos b.den_pos;omega) h.1 h.2
theorem okAdd.ok {a b:Rat} (h:okAdd a b):okQ (a+b):=by
 rw[zf0];exact z0j (k:=300) (by omega) (by omega) (by have:=Nat.mul_pos a.den_pos b.den_pos;omega) h.2.2.1 h.2.2.2
theorem zlr (r s:Nat) (h:NrmG r) (hs:NrmG s) (ha:z5c (r:Rat) (s:Rat)=false) (W:zA) (hW:Wd W):qJ 170 #[St (zD r),St (zD s)] W (.tuple #[.string ⟨#[]⟩,.bool false,.int .i64 0]):=by
 have hp:(0:Rat)<(r:Rat):=by have:=h.pos;exact_mod_cast this
 have hq:(0:Rat)<(s:Rat):=by have:=hs.pos;exact_mod_cast this
 have:=zvz (r:Rat) (s:Rat) (Rat.le_of_lt hp) hq h.sz hs.sz _ _ (zv0 _) (zv0 _) W hW;unfold z5c at ha;rw[ha,zhe,zhe] at this;exact this
theorem zlz (r s:Nat) (h:NrmG r) (hs:NrmG s) (ha:z5c (r:Rat) (s:Rat)=true) (W:zA) (hW:Wd W):qJ 170 #[St (zD r),St (zD s)] W (.tuple #[St (numS (rt ((r:Rat)/(s:Rat)))),.bool true,.int .i64 0]):=by
 have hp:(0:Rat)<(r:Rat):=by have:=h.pos;exact_mod_cast this
 have hq:(0:Rat)<(s:Rat):=by have:=hs.pos;exact_mod_cast this
 have:=zvz (r:Rat) (s:Rat) (Rat.le_of_lt hp) hq h.sz hs.sz _ _ (zv0 _) (zv0 _) W hW;unfold z5c at ha;rw[ha,if_pos rfl,zhe,zhe] at this;exact this
theorem yfi (r s:Nat) (h:NrmG r) (hs:NrmG s):∃n:Int,(decide (n<0)=decide (r<s))/\qK 30 #[St (zD r),St (zD s)] (.tuple #[.int .i64 n,.int .i64 0]):=by
 refine⟨Geo.cmpR (r:Rat) (s:Rat),?_,λW hW=>?_⟩
 ·have hc:=Geo.zaw (r:Rat) (s:Rat)
  have e:(r<s)↔(r:Rat)<(s:Rat):=by constructor<;>intro h<;>exact_mod_cast h
  rw[decide_eq_decide,e];grind
 ·have:=zgq (r:Rat) (s:Rat) 90 90 (by omega) (by omega) (by omega) h.sz hs.sz W hW
  rw[zhe,zhe] at this;exact this
def okP (c t:Rat×Nat):Prop:=if t.2<c.2 then okMul c.1 (rt ((c.2:Rat)/(t.2:Rat)))/\okAdd t.1 (c.1*rt ((c.2:Rat)/(t.2:Rat))) else okMul t.1 (rt ((t.2:Rat)/(c.2:Rat)))/\okAdd c.1 (t.1*rt ((t.2:Rat)/(c.2:Rat)))
theorem z0k (F:Prop) (x y:Rat) (r s:Nat) (hr:NrmG r) (hs:NrmG s) (ha:z5c (s:Rat) (r:Rat)=true) (ox:okQ x) (oy:okQ y) (hF:(okMul y (rt ((s:Rat)/(r:Rat)))/\okAdd x (y*rt ((s:Rat)/(r:Rat))))\/F):
 ∃(z zr:List UInt8) (E:Int),(qK 182 #[.agg #[St (numS x),St (zD r)],.agg #[St (numS y),St (zD s)]] (.tuple #[.agg #[St z,St zr],.int .i64 E]))/\
  ((E=0/\z=numS (x+y*rt ((s:Rat)/(r:Rat)))/\zr=zD r/\okQ (x+y*rt ((s:Rat)/(r:Rat))))\/(E=4/\F)):=by
 have sk:sz (rt ((s:Rat)/(r:Rat))) 45:=zzs (k:=45) (zvm (n:=s) (d:=r) (k:=90) (by have:=hr.pos;omega) hs.lt hr.lt);have ok:=zd0 (show 0<45 by omega) (by omega) sk;have hR:=λU (hU:Wd U)=>zlz s r hs hr ha U hU;have hM:=λU (hU:Wd U)=>yfg y _ oy ok U hU;by_cases h1:okMul y (rt ((s:Rat)/(r:Rat)))
 ·rw[if_pos h1,if_pos h1] at hM
  have hA:=λU (hU:Wd U)=>yfe x _ ox h1.ok U hU;by_cases h2:okAdd x (y*rt ((s:Rat)/(r:Rat)))
  ·rw[if_pos h2,if_pos h2] at hA
   exact⟨_,_,0,λW hW=>zvt _ _ _ _ _ _ _ true (hid hR) (hid hM) (hid hA) W (hid hW),.inl ⟨rfl,rfl,rfl,h2.ok⟩⟩
  ·rw[if_neg h2,if_neg h2] at hA
   exact⟨[],[],4,λW hW=>zmz _ _ _ _ _ _ _ true (hid hR) (hid (.inr ⟨hM,hA⟩)) W (hid hW),.inr ⟨rfl,hF.resolve_left λh=>h2 h.2⟩⟩
 ·rw[if_neg h1,if_neg h1] at hM
  exact⟨[],[],4,λW hW=>zmz _ _ _ _ _ [] [] true (hid hR) (hid (.inl hM)) W (hid hW),.inr ⟨rfl,hF.resolve_left λh=>h1 h.1⟩⟩
theorem yh2 (F:Prop) (gb:Nat) (l:List (Rat×Nat)) (t:Rat×Nat) (hl:l.length<=5000) (ht:NrmG t.2) (hot:okQ t.1) (hc:∀c∈l,NrmG c.2/\okQ c.1) (hF:∀c∈l,z5c (t.2:Rat) (c.2:Rat)=true->okP c t\/F) (W:zA) (hW:Wd W) (h:GatL gb (l.map strT) W):
 zC zF 119 #[.pointer (some ⟨gb,0,none⟩),.agg #[St (numS t.1),St (zD t.2)]] W λe w'=>∃r:Int,e=.returned (.int .i64 r)/\zB gb W w'/\((r=0/\GatL gb ((gaG l t).map strT) w'/\∀c∈gaG l t,NrmG c.2/\okQ c.1)\/(r=4/\F)):=by
 rcases zm7 t l with⟨h1,h2⟩|⟨j,c,h1,h2,h3,h4⟩
 ·have:=zot gb (l.map strT) (numS t.1) (zD t.2) (by simpa using hl) (hid λi d hd=>by
   rw[List.getElem?_map,Option.map_eq_some_iff] at hd;obtain⟨c,hi,rfl⟩:=hd;have hm:=List.mem_of_getElem? hi;exact⟨_,λV hV=>zlr t.2 c.2 ht (hc c hm).1 (h1 c hm) V hV⟩) W (hid hW) (hid h)
  rw[h2,List.map_append];refine this.mono λe w' ⟨e1,hb,hg⟩=>⟨0,e1,hb,.inl ⟨rfl,hg,λc hcm=>?_⟩⟩;rcases List.mem_append.1 hcm with hcm|hcm
  ·exact hc c hcm
  ·obtain rfl:=List.mem_singleton.1 hcm
   exact⟨ht,hot⟩
 ·have hm:=List.mem_of_getElem? h1
  obtain⟨nc,oc⟩:=hc c hm;have p1:=nc.pos;have p2:=ht.pos;obtain⟨nn,hnn,hcmp⟩:=yfi t.2 c.2 ht nc;have hR:Hid (∀(i:Nat) (d:List UInt8×List UInt8),i<j->(l.map strT)[i]? =some d->∃k,qK 170 #[St (zD t.2),St d.2] (.tuple #[.string k,.bool false,.int .i64 0])):=hid λi d hi hd=>by
   rw[List.getElem?_map,Option.map_eq_some_iff] at hd;obtain⟨x,hx,rfl⟩:=hd;have hmx:=List.mem_of_getElem? hx;exact⟨_,λV hV=>zlr t.2 x.2 ht (hc x hmx).1 (h3 i x hi hx) V hV⟩
  rw[h4];have fin:∀(z zr:List UInt8) (E:Int) (o:Bool),decide (nn<0)=o->
   (qK 182 #[bif o then .agg #[St (numS t.1),St (zD t.2)] else .agg #[St (numS c.1),St (zD c.2)],bif o then .agg #[St (numS c.1),St (zD c.2)] else .agg #[St (numS t.1),St (zD t.2)]] (.tuple #[.agg #[St z,St zr],.int .i64 E]))->
   ((E=0/\(z,zr)=strT (plG c t)/\NrmG (plG c t).2/\okQ (plG c t).1)\/(E=4/\F))->
   zC zF 119 #[.pointer (some ⟨gb,0,none⟩),.agg #[St (numS t.1),St (zD t.2)]] W λe w'=>∃r:Int,e=.returned (.int .i64 r)/\zB gb W w'/\((r=0/\GatL gb ((l.set j (plG c t)).map strT) w'/\∀d∈l.set j (plG c t),NrmG d.2/\okQ d.1)\/(r=4/\F)):=λz zr E o ho hP hE=>by
   refine(ygw gb (l.map strT) (numS t.1) (zD t.2) (numS c.1) (zD c.2) z zr ⟨(numS (rt ((t.2:Rat)/(c.2:Rat)))).toArray⟩ j nn E o (by simpa using hl) (by rw[List.getElem?_map,h1];rfl) ho hR (hid λV hV=>zlz t.2 c.2 ht nc h2 V hV) (hid hcmp) (hid hP) W (hid hW) (hid h)).mono λe w' ⟨e1,hb,hg⟩=>⟨E,e1,hb,?_⟩;rcases hE with⟨rfl,e2,n2,o2⟩|⟨rfl,hf⟩
   ·refine .inl ⟨rfl,by rw[List.map_set,<-e2];exact hg,λd hd=>?_⟩
    rcases List.mem_or_eq_of_mem_set hd with hd|rfl
    ·exact hc d hd
    ·exact⟨n2,o2⟩
   ·exact .inr ⟨rfl,hf⟩
  have hfc:=hF c hm h2;unfold okP at hfc;by_cases hlt:t.2<c.2
  ·rw[if_pos hlt] at hfc
   have ha:z5c (c.2:Rat) (t.2:Rat)=true:=zu5 (by exact_mod_cast p2) (by exact_mod_cast p1) h2;have hz:plG c t=(t.1+c.1*rt ((c.2:Rat)/(t.2:Rat)),t.2):=by unfold plG;rw[if_pos hlt]
   obtain⟨z,zr,E,hP,hE⟩:=z0k F t.1 c.1 t.2 c.2 ht nc ha hot oc hfc;exact fin z zr E true (by rw[hnn];exact decide_eq_true hlt) hP (hE.imp (λ⟨a,b,c',d⟩=>⟨a,by rw[hz,b,c'];rfl,by rw[hz];exact ht,by rw[hz];exact d⟩) id)
  ·rw[if_neg hlt] at hfc
   have hz:plG c t=(c.1+t.1*rt ((t.2:Rat)/(c.2:Rat)),c.2):=by unfold plG;rw[if_neg hlt]
   obtain⟨z,zr,E,hP,hE⟩:=z0k F c.1 t.1 c.2 t.2 nc ht h2 oc hot hfc;exact fin z zr E false (by rw[hnn];exact decide_eq_false hlt) hP (hE.imp (λ⟨a,b,c',d⟩=>⟨a,by rw[hz,b,c'];rfl,by rw[hz];exact nc,by rw[hz];exact d⟩) id)
end
end Go.Proofs.YtfoodcpnnmonhaaGreatDoor
