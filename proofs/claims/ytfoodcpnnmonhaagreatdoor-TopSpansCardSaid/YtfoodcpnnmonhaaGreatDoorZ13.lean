/- Tables of spans: the greatest span that is allowed. -/
import Derived.Test.YtfoodcpnnmonhaaGreatDoorZ12
set_option maxRecDepth 100000
set_option maxHeartbeats 8000000
open Go renaming World → zA, Calls → zC
open Go.RowKit renaming Below → zB, intOf → zL
open Go.Lib renaming decDigits → zD
open Go.Proofs.Tryz renaming prog → zF
open Go.World renaming alloc_heap_new → zG, size_alloc → zH
open Go.Joins renaming cell_of_block → zJ, block_setCell → zK
open Go.RowKit.Below renaming refl → zM, heap_setCell → yE
open Nat renaming le_refl → zN, zero_le → zR
namespace Go.Proofs.YtfoodcpnnmonhaaGreatDoor
section
open Go.RowKit Go.Shelf Lib Str Limb
attribute [local go_sem] Oper.semAt_some
theorem z5u (p:Option Addr) (n cap:Nat) (wd dp sp ld:Int) (w:zA):
 zC zF 54 #[.slice p n cap,.int .i64 wd,.int .i64 dp,.int .i64 sp,.int .i64 ld] w λe w'=>e=.returned (.func (.func 109) #[] #[.pointer (some ⟨w.heap.size,0,none⟩),.pointer (some ⟨w.heap.size+1,0,none⟩),.pointer (some ⟨w.heap.size+2,0,none⟩),.pointer (some ⟨w.heap.size+3,0,none⟩),.pointer (some ⟨w.heap.size+4,0,none⟩)])/\
  ((((w.alloc (.cells #[.slice p n cap] 22)).alloc (.cells #[.int .i64 wd] 3)).alloc (.cells #[.int .i64 dp] 3)).alloc (.cells #[.int .i64 sp] 3)).alloc (.cells #[.int .i64 ld] 3)=w':=by
 go_enter Tryz.func54,Tryz.ntmps54;go_wp21;go_ret;exact⟨rfl,rfl⟩
structure AlwS (w:zA) (B:Nat) (p:Option Addr) (cap n:Nat) (q:Nat->AlR) (wd dp sp ld:Int) (M k:Nat) (W:zA):Prop where
 bel:qL w W
 lo:w.heap.size<=M
 apart:M<B/\∀b off,p=some ⟨b,off,none⟩->b<w.heap.size
 eno:EnoW B p cap n q wd dp sp ld W
 most:∃mm:Int,W.heap[M]? =some (.cells #[.int .i64 mm] 3 (0,0))/\∀i,i<=n->cntE (enoB wd dp sp ld) q i=k->maxE (enoB wd dp sp ld) q i=mm
theorem AlwS.keep {w:zA} {B:Nat} {p:Option Addr} {cap n:Nat} {q:Nat->AlR} {wd dp sp ld:Int} {M k:Nat} {W W':zA} (h:AlwS w B p cap n q wd dp sp ld M k W) (hc:CellsKept W W') (hb:zB w.heap.size W W'):AlwS w B p cap n q wd dp sp ld M k W':=
 ⟨h.bel.trans hb,h.lo,h.apart,⟨⟨hc.cell h.eno.1.1,hc.cell h.eno.1.2.1,hc.cell h.eno.1.2.2.1,hc.cell h.eno.1.2.2.2.1,hc.cell h.eno.1.2.2.2.2⟩,h.eno.2.kept hc⟩,let ⟨mm,h1,h2⟩:=h.most;⟨mm,hc _ _ _ _ h1,h2⟩⟩
theorem AlwS.put {w:zA} {B:Nat} {p:Option Addr} {cap n:Nat} {q:Nat->AlR} {wd dp sp ld:Int} {M k:Nat} {W:zA} (h:AlwS w B p cap n q wd dp sp ld M k W) {mm:Int} (hm:W.heap[M]? =some (.cells #[.int .i64 mm] 3 (0,0))) (hx:∀i,i<=n->cntE (enoB wd dp sp ld) q i=k->maxE (enoB wd dp sp ld) q i=mm)
 {i:Nat} (h1:i<n) (h2:enoB wd dp sp ld (q i)=true) (h3:cntE (enoB wd dp sp ld) q i=k):AlwS w B p cap n q wd dp sp ld M (k+1) (W.setCell ⟨M,0,none⟩ (.int .i64 (max mm (q i).n))):=by
 obtain⟨⟨e0,e1,e2,e3,e4⟩,er⟩:=h.eno;obtain⟨a1,a2⟩:=h.apart;have hl:=h.lo;refine⟨h.bel.setCell (by exact hl) _,hl,⟨a1,a2⟩,⟨⟨?_,?_,?_,?_,?_⟩,λj hj=>?_⟩,max mm (q i).n,zK (i:=0) hm _,λj _ hj=>?_⟩
 ·rw[zau _ _ _ _ (by omega)];exact e0
 ·rw[zau _ _ _ _ (by omega)];exact e1
 ·rw[zau _ _ _ _ (by omega)];exact e2
 ·rw[zau _ _ _ _ (by omega)];exact e3
 ·rw[zau _ _ _ _ (by omega)];exact e4
 ·obtain⟨b,off,eb,r0,r1,r2,r3,r4⟩:=er j hj
  have:=a2 b off eb;refine⟨b,off,eb,?_,?_,?_,?_,?_⟩<;>rw[zau _ _ _ _ (by omega)]<;>assumption
 ·have c:cntE (enoB wd dp sp ld) q (i+1)=k+1:=by
   show cntE (enoB wd dp sp ld) q i+(if enoB wd dp sp ld (q i)=true then 1 else 0)=_;rw[if_pos h2,h3]
  rw[z4s (j:=i+1) (by rw[hj,c])];show(if enoB wd dp sp ld (q i)=true then max (maxE (enoB wd dp sp ld) q i) (q i).n else _)=_;rw[if_pos h2,hx i (by omega) h3]
theorem z7q (w:zA) (p:Option Addr) (cap n:Nat) (q:Nat->AlR) (wd dp sp ld:Int) (hb:∀b off,p=some ⟨b,off,none⟩->b<w.heap.size) (h:RowAl p n q w):
 AlwS w (w.heap.size+1) p cap n q wd dp sp ld w.heap.size 0 ((((((w.alloc (.cells #[.int .i64 0] 3)).alloc (.cells #[.slice p n cap] 22)).alloc (.cells #[.int .i64 wd] 3)).alloc (.cells #[.int .i64 dp] 3)).alloc (.cells #[.int .i64 sp] 3)).alloc (.cells #[.int .i64 ld] 3)):=by
 obtain⟨v1,hv1⟩:=zzX (w.alloc (.cells #[.int .i64 0] 3));obtain⟨b1,A1⟩:=zdn hv1;obtain⟨v2,hv2⟩:=zzX (v1.alloc (.cells #[.slice p n cap] 22));obtain⟨b2,A2⟩:=zdn hv2;obtain⟨v3,hv3⟩:=zzX (v2.alloc (.cells #[.int .i64 wd] 3));obtain⟨b3,A3⟩:=zdn hv3;obtain⟨v4,hv4⟩:=zzX (v3.alloc (.cells #[.int .i64 dp] 3));obtain⟨b4,A4⟩:=zdn hv4;obtain⟨v5,hv5⟩:=zzX (v4.alloc (.cells #[.int .i64 sp] 3));obtain⟨b5,A5⟩:=zdn hv5;obtain⟨v6,hv6⟩:=zzX (v5.alloc (.cells #[.int .i64 ld] 3));obtain⟨b6,A6⟩:=zdn hv6;have s1:v1.heap.size=w.heap.size+1:=by rw[hv1];simp
 have s2:v2.heap.size=w.heap.size+2:=by rw[hv2];simp[s1]
 have s3:v3.heap.size=w.heap.size+3:=by rw[hv3];simp[s2]
 have s4:v4.heap.size=w.heap.size+4:=by rw[hv4];simp[s3]
 have s5:v5.heap.size=w.heap.size+5:=by rw[hv5];simp[s4]
 rw[<-hv1,<-hv2,<-hv3,<-hv4,<-hv5,<-hv6];rw[s1] at A2;rw[s2] at A3;rw[s3] at A4;rw[s4] at A5;rw[s5] at A6;have e56:=b6;have e46:=b5.trans (b6.mono b5.size);have e36:=b4.trans (e46.mono b4.size);have e26:=b3.trans (e36.mono b3.size);have e16:=b2.trans (e26.mono b2.size);have e06:=b1.trans (e16.mono b1.size);have one:∀{W:zA} {A:Nat} {a:Value} {t:TypeId},W.heap[A]? =some (.cells #[a] t (0,0))->W.cell? ⟨A,0,none⟩=some a:=λh=>by rw[zJ h];rfl
 refine⟨e06,zN _,⟨by omega,hb⟩,⟨⟨one (zac e26 _ _ _ _ A2),one (zac e36 _ _ _ _ A3),one (zac e46 _ _ _ _ A4),one (zac e56 _ _ _ _ A5),one A6⟩,h.keep e06⟩,0,zac e16 _ _ _ _ A1,λi _ hi=>?_⟩;exact z4s (j:=0) hi
theorem z5w (p:Option Addr) (cap n:Nat) (q:Nat->AlR) (hn:n<=4096) (wd dp sp ld:Int) (w:zA) (hb:∀b off,p=some ⟨b,off,none⟩->b<w.heap.size) (HR:Hid (RowAl p n q w)):
 qJ 29 #[.slice p n cap,.int .i64 wd,.int .i64 dp,.int .i64 sp,.int .i64 ld] w (.int .i64 (maxE (enoB wd dp sp ld) q n)):=by
 refine(callsIn_wide (n:=3)).1 ?_;refine callsIn_of_wp_marks Tryz.func29 rfl trivial ?_ rfl;simp only[Tryz.ntmps29,List.size_toArray,List.length_cons,List.length_nil,Nat.reduceAdd,Nat.reduceSub,Array.replicate_succ,Array.replicate_zero,List.push_toArray,List.append_toArray,List.nil_append,List.cons_append];gi_wp2_with (refine⟨trivial,?_⟩;gi_at_call 54;refine(callsIn_wide.2 (z5u _ _ _ _ _ _ _ _)).mono ?_;rintro e w' ⟨rfl,rfl⟩);obtain⟨W1,hW1⟩:=zzX ((((((w.alloc (.cells #[.int .i64 0] 3)).alloc (.cells #[.slice p n cap] 22)).alloc (.cells #[.int .i64 wd] 3)).alloc (.cells #[.int .i64 dp] 3)).alloc (.cells #[.int .i64 sp] 3)).alloc (.cells #[.int .i64 ld] 3));rw[<-hW1];have hS1:AlwS w (w.heap.size+1) p cap n q wd dp sp ld w.heap.size 0 W1:=by
  rw[hW1];exact z7q w p cap n q wd dp sp ld hb HR.out
 clear hW1;have hseq:=z7p 2 (by omega) (w.heap.size+1) p cap n q hn wd dp sp ld (λW=>∃k,AlwS w (w.heap.size+1) p cap n q wd dp sp ld w.heap.size k W) (λW ⟨k,h⟩=>h.eno);have HS1:=hid hS1.bel.size
 refine z9z (n:=3) (B:=w.heap.size) rfl (by omega) rfl trivial (enters_of Tryz.func109 (by kernel_rfl) rfl) hseq (λk args h=>by obtain⟨i,_,_,_,rfl⟩:=h;rfl) hS1.bel.size
  (λk W=>AlwS w (w.heap.size+1) p cap n q wd dp sp ld w.heap.size k W) (λc _ W=>False)
  (λk X Y h hc hb=>h.keep hc hb) (λc k X Y h hc hb=>h) (λk W h=>⟨k,h⟩) hS1
  (λk _ a' W=>∃bs i,i<n/\enoB wd dp sp ld (q i)=true/\cntE (enoB wd dp sp ld) q i=k/\w.heap.size<bs/\a'={tmps:= #[.slice p n cap,.int .i64 wd,.int .i64 dp,.int .i64 sp,.int .i64 ld,undef,undef,undef,undef,undef,.int .i64 0,.pointer (some ⟨w.heap.size,0,none⟩),.pointer (some ⟨bs,0,none⟩),.slice p n cap,.int .i64 wd,.int .i64 dp,.int .i64 sp,.int .i64 ld,.func (.func 109) #[] #[.pointer (some ⟨w.heap.size+1,0,none⟩),.pointer (some ⟨w.heap.size+1+1,0,none⟩),.pointer (some ⟨w.heap.size+1+2,0,none⟩),.pointer (some ⟨w.heap.size+1+3,0,none⟩),.pointer (some ⟨w.heap.size+1+4,0,none⟩)],.agg #[.int .i64 (q i).w,.int .i64 (q i).d,.int .i64 (q i).s,.int .i64 (q i).l,.int .i64 (q i).n],undef,undef,undef,undef,undef],defers:=[]}/\W.heap[bs]? =some (.cells #[.int .i64 (q i).w,.int .i64 (q i).d,.int .i64 (q i).s,.int .i64 (q i).l,.int .i64 (q i).n] 55 (0,0)))
  (λk _ a' X Y h hc hb=>let ⟨bs,i,h1,h2,h3,h4,h5,h6⟩:=h;⟨bs,i,h1,h2,h3,h4,h5,hc _ _ _ _ h6⟩) ?assign ?body ?done ?stop
 case assign=>
  rintro lp k args W K hlp hrec hS hk ⟨i,h1,h2,h3,rfl⟩ hK;have HK:=hid hK;clear hK;have HQ:=hid (⟨h1,h2,h3⟩:_/\_/\_);clear h1 h2 h3 hrec hseq hS1;gi_wp2;have hb1:qL W (W.alloc (.cells #[.int .i64 (q i).w,.int .i64 (q i).d,.int .i64 (q i).s,.int .i64 (q i).l,.int .i64 (q i).n] 55)):=(zM _ W).alloc (zN _) _;exact HK.out _ _ ((za0 hb1).from _) (hS.keep (zac hb1) (hb1.mono hS.bel.size)) ⟨W.heap.size,i,HQ.out.1,HQ.out.2.1,HQ.out.2.2,by obtain⟨mm,hm,_⟩:=hS.most;exact(Array.getElem?_eq_some_iff.1 hm).1,rfl,zG W _⟩
 case body=>
  rintro lp k args a' W hlp ⟨r',hr'⟩ hS hk-⟨bs,i,h1,h2,h3,h4,rfl,h6⟩;obtain⟨mm,hm,hmx⟩:=hS.most;have c0:W.cell? ⟨w.heap.size,0,none⟩=some (.int .i64 mm):=by simp[World.cell?,hm]
  have f0:W.frozen? ⟨w.heap.size,0,none⟩=false:=by simp[World.frozen?,hm]
  obtain⟨-, -, -, -,c4⟩:=zff h6;have HQ:=hid (⟨h1,h2,h3⟩:_/\_/\_);have H0:=hid hS;have HM:=hid (⟨hm,hmx⟩:_/\_);clear h1 h2 h3 h6 hS hm hmx hr' hseq hS1;gi_wp2;exact⟨(KeepsOthers.setCell _ _ _).from _,H0.out.put HM.out.1 HM.out.2 HQ.out.1 HQ.out.2.1 HQ.out.2.2⟩
 case done=>
  rintro D W hD hS hK;obtain⟨mm,hm,hmx⟩:=hS.most;have c0:W.cell? ⟨w.heap.size,0,none⟩=some (.int .i64 mm):=by simp[World.cell?,hm]
  have HX:=hid (⟨hS.bel,hK⟩:qL w W/\W.heap[D]? =some (.deferred (some [])));have HE:=hid (hmx n (zN _) rfl);clear hS hK hm hmx hseq hS1;gi_wp2;refine⟨by simp,.inl ⟨_,_,rfl,run_takeDeferred HX.out.2,?_⟩⟩;refine⟨.int .i64 mm,by simp[results,Tryz.f29,go_sem],⟨by rw[HE.out],zby HX.out.1 (by have:=HS1.out;omega) HX.out.2⟩⟩
 case stop=>
  rintro D c k W hD h hK;exact h.elim
theorem z8w (a b c:List UInt8) (w:zA):
 qJ 138 #[.agg #[St a,St b,St c]] w (.agg #[St a,St b,St c]):=by
 go_enter Tryz.func138,Tryz.ntmps138;go_wp21;exact bodyPost_ret (v:=.agg #[St a,St b,St c]) (by simp[results,Tryz.results138,go_sem]) rfl ⟨rfl,((zM _ w).alloc (zN _) _).alloc (by simp) _⟩
theorem z7t (a b c d e f:List UInt8) (w:zA)
 (C0:Hid (∀W:zA,qL w W->qJ 50 #[.agg #[St a,St b,St c]] W (.int .i64 0)))
 (C1:Hid (∀W:zA,qL w W->qJ 50 #[.agg #[St d,St e,St f]] W (.int .i64 0))):
 qJ 75 #[.agg #[St a,St b,St c],.agg #[St d,St e,St f]] w (.int .i64 0):=by
 obtain⟨v1,hv⟩:=zzX ((w.alloc (.cells #[St a,St b,St c] 25)).alloc (.cells #[St d,St e,St f] 25));have b1:qL w v1:=by rw[hv];exact((zM _ w).alloc (zN _) _).alloc (by simp) _
 have A2:v1.heap[w.heap.size+1]? =some (.cells #[St d,St e,St f] 25 (0,0)):=by
  rw[hv];have:=zG (w.alloc (.cells #[St a,St b,St c] 25)) (.cells #[St d,St e,St f] 25);rw[zH] at this;exact this
 have B1:=hid b1;have P1:=hid A2;have HV:=hid hv.symm;have HC:=hid (C0.out v1 b1);clear hv b1 A2 C0;go_enter Tryz.func75,Tryz.ntmps75;go_wp21;have h9:=HV.out;rw[show(w.alloc (.cells #[.string ⟨a.toArray⟩,.string ⟨b.toArray⟩,.string ⟨c.toArray⟩] 25)).alloc (.cells #[.string ⟨d.toArray⟩,.string ⟨e.toArray⟩,.string ⟨f.toArray⟩] 25)=v1 from h9];clear h9 HV;refine zzM HC.out λr1 hb=>?_;have hbb:=B1.out.trans (hb.mono B1.out.size);have B2:=hid hbb;have hp:=zac hb _ _ _ _ P1.out;have k0:r1.cell? ⟨w.heap.size+1,0,none⟩=some (St d):=by rw[zJ hp];rfl
 have k1:r1.cell? ⟨w.heap.size+1,1,none⟩=some (St e):=by rw[zJ hp];rfl
 have k2:r1.cell? ⟨w.heap.size+1,2,none⟩=some (St f):=by rw[zJ hp];rfl
 have HS:=hid (C1.out r1 hbb);clear hb hbb hp B1 P1 HC C1;go_wp21;refine zzM HS.out λr2 hb=>?_;have B3:=hid (B2.out.trans (hb.mono B2.out.size));clear hb;go_wp21;go_ret;exact⟨rfl,B3.out⟩
structure WtS (w:zA) (a0 a1 a2 b0 b1 b2 o0 o1 o2:List UInt8) (Y:Nat) (W:zA):Prop where
 bel:qL w W
 h0:W.heap[w.heap.size]? =some (.cells #[St a0,St a1,St a2] 113 (0,0))
 h1:W.heap[w.heap.size+1]? =some (.cells #[St b0,St b1,St b2] 113 (0,0))
 h2:W.heap[w.heap.size+1+1]? =some (.cells #[St [],St [],St []] 25 (0,0))
 h3:W.heap[w.heap.size+1+1+1]? =some (.cells #[St o0,St o1,St o2] 133 (0,0))
 lo:w.heap.size+1+1+1<Y
 h4:W.heap[Y]? =some (.cells #[St b0,St b1,St b2] 133 (0,0))
section
variable {w W W':zA} {a0 a1 a2 b0 b1 b2 o0 o1 o2:List UInt8} {Y:Nat}
theorem WtS.next (h:WtS w a0 a1 a2 b0 b1 b2 o0 o1 o2 Y W) (hb:qL W W'):WtS w a0 a1 a2 b0 b1 b2 o0 o1 o2 Y W':=
 have hc:=zac hb
 ⟨h.bel.trans (hb.mono h.bel.size),hc _ _ _ _ h.h0,hc _ _ _ _ h.h1,hc _ _ _ _ h.h2,hc _ _ _ _ h.h3,h.lo,hc _ _ _ _ h.h4⟩
theorem zah {W:zA} {A:Nat} {x y z:Value} {t:TypeId} (h:W.heap[A]? =some (.cells #[x,y,z] t (0,0))):W.cell? ⟨A,0,none⟩=some x/\W.cell? ⟨A,1,none⟩=some y/\W.cell? ⟨A,2,none⟩=some z/\W.frozen? ⟨A,0,none⟩=false/\W.frozen? ⟨A,1,none⟩=false/\W.frozen? ⟨A,2,none⟩=false:=
 ⟨by rw[zJ h];rfl,by rw[zJ h];rfl,by rw[zJ h];rfl,Go.Joins.unfrozen_of_block h 0,Go.Joins.unfrozen_of_block h 1,Go.Joins.unfrozen_of_block h 2⟩
theorem WtS.ne (h:WtS w a0 a1 a2 b0 b1 b2 o0 o1 o2 Y W) (i:Nat) (u:Value):qL w (W.setCell ⟨w.heap.size+1+1+1,i,none⟩ u)/\(∀b,b≠w.heap.size+1+1+1->(W.setCell ⟨w.heap.size+1+1+1,i,none⟩ u).heap[b]? =W.heap[b]?):=
 ⟨h.bel.setCell (p:=⟨w.heap.size+1+1+1,i,none⟩) (by show _<=w.heap.size+1+1+1;omega) _,λb hb=>yE _ _ _ _ (by exact hb)⟩
theorem WtS.put0 (h:WtS w a0 a1 a2 b0 b1 b2 o0 o1 o2 Y W) (u:List UInt8):WtS w a0 a1 a2 b0 b1 b2 u o1 o2 Y (W.setCell ⟨w.heap.size+1+1+1,0,none⟩ (St u)):=by
 obtain⟨k1,k2⟩:=h.ne 0 (St u);have:=h.lo;exact⟨k1,(k2 _ (by omega)).trans h.h0,(k2 _ (by omega)).trans h.h1,(k2 _ (by omega)).trans h.h2,zK (i:=0) h.h3 (St u),h.lo,(k2 _ (by omega)).trans h.h4⟩
theorem WtS.put1 (h:WtS w a0 a1 a2 b0 b1 b2 o0 o1 o2 Y W) (u:List UInt8):WtS w a0 a1 a2 b0 b1 b2 o0 u o2 Y (W.setCell ⟨w.heap.size+1+1+1,1,none⟩ (St u)):=by
 obtain⟨k1,k2⟩:=h.ne 1 (St u);have:=h.lo;exact⟨k1,(k2 _ (by omega)).trans h.h0,(k2 _ (by omega)).trans h.h1,(k2 _ (by omega)).trans h.h2,zK (i:=1) h.h3 (St u),h.lo,(k2 _ (by omega)).trans h.h4⟩
theorem WtS.put2 (h:WtS w a0 a1 a2 b0 b1 b2 o0 o1 o2 Y W) (u:List UInt8):WtS w a0 a1 a2 b0 b1 b2 o0 o1 u Y (W.setCell ⟨w.heap.size+1+1+1,2,none⟩ (St u)):=by
 obtain⟨k1,k2⟩:=h.ne 2 (St u);have:=h.lo;exact⟨k1,(k2 _ (by omega)).trans h.h0,(k2 _ (by omega)).trans h.h1,(k2 _ (by omega)).trans h.h2,zK (i:=2) h.h3 (St u),h.lo,(k2 _ (by omega)).trans h.h4⟩
end
theorem zmw (a0 a1 a2 b0 b1 b2 c0 c1 c2:List UInt8) (g:FuncId) (eg:∀args w,(callFunc g args).run zF w=.ok (.enter g args) w) (w:zA)
 (F0:Hid (∀W:zA,qL w W->zC zF g #[St a0,St b0] W λe w'=>e=.returned (.tuple #[St c0,.int .i64 0])/\zB W.heap.size W w'))
 (F1:Hid (∀W:zA,qL w W->zC zF g #[St a1,St b1] W λe w'=>e=.returned (.tuple #[St c1,.int .i64 0])/\zB W.heap.size W w'))
 (F2:Hid (∀W:zA,qL w W->zC zF g #[St a2,St b2] W λe w'=>e=.returned (.tuple #[St c2,.int .i64 0])/\zB W.heap.size W w')):
 qJ 74 #[.agg #[St a0,St a1,St a2],.agg #[St b0,St b1,St b2],.func (.func g) #[] #[]] w (.tuple #[.agg #[St c0,St c1,St c2],.int .i64 0]):=by
 have n0:=λw=>(zet a0 a1 a2 w).1;have n1:=λw=>(zet a0 a1 a2 w).2.1;have n2:=λw=>(zet a0 a1 a2 w).2.2;obtain⟨x1,hx1⟩:=zzX (w.alloc (.cells #[St a0,St a1,St a2] 113));obtain⟨x2,hx2⟩:=zzX (x1.alloc (.cells #[St b0,St b1,St b2] 113));obtain⟨x3,hx3⟩:=zzX (x2.alloc (.cells #[St [],St [],St []] 25));obtain⟨x4,hx4⟩:=zzX (x3.alloc (.cells #[St [],St [],St []] 133));have s1:x1.heap.size=w.heap.size+1:=by rw[hx1];simp
 have s2:x2.heap.size=w.heap.size+1+1:=by rw[hx2,zH,s1]
 have s3:x3.heap.size=w.heap.size+1+1+1:=by rw[hx3,zH,s2]
 have s4:x4.heap.size=w.heap.size+1+1+1+1:=by rw[hx4,zH,s3]
 have q1:qL w x1:=by rw[hx1];exact(zM _ w).alloc (zN _) _
 have q2:qL x1 x2:=by rw[hx2];exact(zM _ x1).alloc (zN _) _
 have q3:qL x2 x3:=by rw[hx3];exact(zM _ x2).alloc (zN _) _
 have q4:qL x3 x4:=by rw[hx4];exact(zM _ x3).alloc (zN _) _
 have f1:x1.heap[w.heap.size]? =some (.cells #[St a0,St a1,St a2] 113 (0,0)):=by rw[hx1];exact zG w _
 have f2:x2.heap[w.heap.size+1]? =some (.cells #[St b0,St b1,St b2] 113 (0,0)):=by rw[hx2,<-s1];exact zG x1 _
 have f3:x3.heap[w.heap.size+1+1]? =some (.cells #[St [],St [],St []] 25 (0,0)):=by rw[hx3,<-s2];exact zG x2 _
 have f4:x4.heap[w.heap.size+1+1+1]? =some (.cells #[St [],St [],St []] 133 (0,0)):=by rw[hx4,<-s3];exact zG x3 _
 have q24:=(q2.trans (q3.mono q2.size)).trans (q4.mono (q2.trans (q3.mono q2.size)).size);have q34:=q3.trans (q4.mono q3.size);have q14:=q1.trans (q24.mono q1.size);have F:=hid (⟨q14,zac q24 _ _ _ _ f1,zac q34 _ _ _ _ f2,zac q4 _ _ _ _ f3,f4,s4⟩:
  qL w x4/\x4.heap[w.heap.size]? =some (.cells #[St a0,St a1,St a2] 113 (0,0))/\x4.heap[w.heap.size+1]? =some (.cells #[St b0,St b1,St b2] 113 (0,0))/\x4.heap[w.heap.size+1+1]? =some (.cells #[St [],St [],St []] 25 (0,0))/\x4.heap[w.heap.size+1+1+1]? =some (.cells #[St [],St [],St []] 133 (0,0))/\x4.heap.size=w.heap.size+1+1+1+1)
 have hall:x4=(((w.alloc (.cells #[St a0,St a1,St a2] 113)).alloc (.cells #[St b0,St b1,St b2] 113)).alloc (.cells #[St [],St [],St []] 25)).alloc (.cells #[St [],St [],St []] 133):=by rw[hx4,hx3,hx2,hx1]
 have HV:=hid hall.symm;have EG:=hid eg;clear hall hx1 hx2 hx3 hx4 s1 s2 s3 s4 q1 q2 q3 q4 f1 f2 f3 f4 q24 q34 q14 eg;clear x1 x2 x3;go_enter Tryz.func74,Tryz.ntmps74;go_wp21;have h9:=HV.out;rw[show(((w.alloc (.cells #[.string ⟨a0.toArray⟩,.string ⟨a1.toArray⟩,.string ⟨a2.toArray⟩] 113)).alloc (.cells #[.string ⟨b0.toArray⟩,.string ⟨b1.toArray⟩,.string ⟨b2.toArray⟩] 113)).alloc (.cells #[.string ⟨#[]⟩,.string ⟨#[]⟩,.string ⟨#[]⟩] 25)).alloc (.cells #[.string ⟨#[]⟩,.string ⟨#[]⟩,.string ⟨#[]⟩] 133)=x4 from h9];clear h9 HV;refine zzM (zln b0 b1 b2 x4) λr0 hb=>?_;obtain⟨y4,hy⟩:=zzX (r0.alloc (.cells #[St b0,St b1,St b2] 133));have by4:qL r0 y4:=by rw[hy];exact(zM _ r0).alloc (zN _) _
 obtain⟨Y,hY⟩:=zzX r0.heap.size;have hYb:y4.heap[Y]? =some (.cells #[St b0,St b1,St b2] 133 (0,0)):=by rw[hy,hY];exact zG r0 _
 have hx:=hb.trans (by4.mono hb.size);have hck:=zac hx;have HS0:Hid (WtS w a0 a1 a2 b0 b1 b2 [] [] [] Y y4):=hid ⟨F.out.1.trans (hx.mono F.out.1.size),hck _ _ _ _ F.out.2.1,hck _ _ _ _ F.out.2.2.1,hck _ _ _ _ F.out.2.2.2.1,hck _ _ _ _ F.out.2.2.2.2.1,by have:=hb.size;have:=F.out.2.2.2.2.2;omega,hYb⟩;have y0:y4.cell? ⟨w.heap.size,0,none⟩=some (St a0):=(zah HS0.out.h0).1;have y1:y4.cell? ⟨w.heap.size,1,none⟩=some (St a1):=(zah HS0.out.h0).2.1;have y2:y4.cell? ⟨w.heap.size,2,none⟩=some (St a2):=(zah HS0.out.h0).2.2.1;have HY:=hid hy.symm;have HYe:=hid hY.symm;clear hb hx hck hy hY by4 hYb F;rw[<-HY.out] at y0 y1 y2;go_wp21;have h9:=HY.out;rw[show r0.alloc (.cells #[.string ⟨b0.toArray⟩,.string ⟨b1.toArray⟩,.string ⟨b2.toArray⟩] 133)=y4 from h9,HYe.out];clear h9 HY HYe y0 y1 y2;refine zzM (zln a0 a1 a2 y4) λt3 hb=>?_;have HP3:=hid (HS0.out.next hb);clear hb HS0;go_wp21;refine wp_loop_rounds 4 ?_;rw[rounds_succ];obtain⟨d0,d1,d2, -, -, -⟩:=zah HP3.out.h4;have heg:=EG.out;have HC:=hid (F0.out t3 HP3.out.bel);go_wp21;clear d0 d1 d2 heg;refine zzM HC.out λr0 hb=>?_;have HR0:=hid (HP3.out.next hb);clear hb HC HP3;obtain⟨d0,d1,d2,z0,z1,z2⟩:=zah HR0.out.h3;obtain⟨t0,ht0⟩:=zzX (r0.setCell ⟨w.heap.size+1+1+1,0,none⟩ (St c0));have hp:=HR0.out.put0 c0;rw[<-ht0] at hp;have HQ0:=hid hp;have HT:=hid ht0.symm;clear hp ht0;go_wp21;have h9:=HT.out;rw[show r0.setCell ⟨w.heap.size+1+1+1,0,none⟩ (.string ⟨c0.toArray⟩)=t0 from h9];clear h9 HT d0 d1 d2 z0 z1 z2 HR0;rw[rounds_succ]
 obtain⟨d0,d1,d2, -, -, -⟩:=zah HQ0.out.h4;have heg:=EG.out;have HC:=hid (F1.out t0 HQ0.out.bel);go_wp21;clear d0 d1 d2 heg;refine zzM HC.out λr1 hb=>?_;have HR1:=hid (HQ0.out.next hb);clear hb HC HQ0;obtain⟨d0,d1,d2,z0,z1,z2⟩:=zah HR1.out.h3;obtain⟨t1,ht1⟩:=zzX (r1.setCell ⟨w.heap.size+1+1+1,1,none⟩ (St c1));have hp:=HR1.out.put1 c1;rw[<-ht1] at hp;have HQ1:=hid hp;have HT:=hid ht1.symm;clear hp ht1;go_wp21;have h9:=HT.out;rw[show r1.setCell ⟨w.heap.size+1+1+1,1,none⟩ (.string ⟨c1.toArray⟩)=t1 from h9];clear h9 HT d0 d1 d2 z0 z1 z2 HR1;rw[rounds_succ];obtain⟨d0,d1,d2, -, -, -⟩:=zah HQ1.out.h4;have heg:=EG.out;have HC:=hid (F2.out t1 HQ1.out.bel);go_wp21;clear d0 d1 d2 heg;refine zzM HC.out λr2 hb=>?_;have HR2:=hid (HQ1.out.next hb);clear hb HC HQ1;obtain⟨d0,d1,d2,z0,z1,z2⟩:=zah HR2.out.h3;obtain⟨t2,ht2⟩:=zzX (r2.setCell ⟨w.heap.size+1+1+1,2,none⟩ (St c2));have hp:=HR2.out.put2 c2;rw[<-ht2] at hp;have HQ2:=hid hp;have HT:=hid ht2.symm;clear hp ht2;go_wp21;have h9:=HT.out;rw[show r2.setCell ⟨w.heap.size+1+1+1,2,none⟩ (.string ⟨c2.toArray⟩)=t2 from h9];clear h9 HT d0 d1 d2 z0 z1 z2 HR2;rw[rounds_succ];obtain⟨d0,d1,d2, -, -, -⟩:=zah HQ2.out.h3;go_wp21;clear d0 d1 d2;refine zzM (z8w c0 c1 c2 t2) λr3 hb=>?_;have hn:=HQ2.out.next hb;obtain⟨d0,d1,d2,z0,z1,z2⟩:=zah hn.h2;have HF:=hid hn;clear hn hb HQ2;go_wp21;have hf:=HF.out.bel
 exact bodyPost_ret (v:=.tuple #[.agg #[St c0,St c1,St c2],.int .i64 0]) (by simp[results,Tryz.results74,go_sem,d0,d1,d2]) rfl ⟨rfl,((hf.setCell (p:=⟨w.heap.size+1+1,0,none⟩) (by show _<=w.heap.size+1+1;omega) _).setCell (p:=⟨w.heap.size+1+1,1,none⟩) (by show _<=w.heap.size+1+1;omega) _).setCell (p:=⟨w.heap.size+1+1,2,none⟩) (by show _<=w.heap.size+1+1;omega) _⟩
theorem zcz {w v1:zA} {a b c d e f:Value} {s t:TypeId} (hv:v1=(w.alloc (.cells #[a,b,c] s)).alloc (.cells #[d,e,f] t)):
 qL w v1/\v1.heap[w.heap.size]? =some (.cells #[a,b,c] s (0,0))/\v1.heap[w.heap.size+1]? =some (.cells #[d,e,f] t (0,0))/\v1.heap.size=w.heap.size+1+1:=by
 refine⟨by rw[hv];exact((zM _ w).alloc (zN _) _).alloc (by simp) _,by rw[hv];exact(Below.heap_alloc _ _ _ (by simp)).trans (zG w _),?_,by rw[hv];simp⟩;rw[hv];have:=zG (w.alloc (.cells #[a,b,c] s)) (.cells #[d,e,f] t);rw[zH] at this;exact this
theorem z8y (a0 a1 a2 b0 b1 b2 c0 c1 c2 s r:List UInt8) (w:zA)
 (WI:Hid (∀W:zA,qL w W->qJ 74 #[.agg #[St a0,St a1,St a2],.agg #[St b0,St b1,St b2],.func (.func 52) #[] #[]] W (.tuple #[.agg #[St c0,St c1,St c2],.int .i64 0])))
 (D1:Hid (∀W:zA,qL w W->qJ 53 #[St c0,St c1] W (.tuple #[St s,.int .i64 0])))
 (D2:Hid (∀W:zA,qL w W->qJ 53 #[St s,St c2] W (.tuple #[St r,.int .i64 0]))):
 qJ 95 #[.agg #[St a0,St a1,St a2],.agg #[St b0,St b1,St b2]] w (.tuple #[St r,.int .i64 0]):=by
 obtain⟨v1,hv⟩:=zzX ((w.alloc (.cells #[St a0,St a1,St a2] 113)).alloc (.cells #[St b0,St b1,St b2] 113));have b1:=(zcz hv).1;have HC:=hid (WI.out v1 b1);have B1:=hid b1;have HV:=hid hv.symm;clear hv b1 WI;go_enter Tryz.func95,Tryz.ntmps95;go_wp21;have h9:=HV.out;rw[show(w.alloc (.cells #[.string ⟨a0.toArray⟩,.string ⟨a1.toArray⟩,.string ⟨a2.toArray⟩] 113)).alloc (.cells #[.string ⟨b0.toArray⟩,.string ⟨b1.toArray⟩,.string ⟨b2.toArray⟩] 113)=v1 from h9];clear h9 HV;refine zzM HC.out λr0 hb=>?_;obtain⟨y4,hy⟩:=zzX (r0.alloc (.cells #[St c0,St c1,St c2] 25));have by4:qL r0 y4:=by rw[hy];exact(zM _ r0).alloc (zN _) _
 obtain⟨Y,hY⟩:=zzX r0.heap.size;have hYb:y4.heap[Y]? =some (.cells #[St c0,St c1,St c2] 25 (0,0)):=by rw[hy,hY];exact zG r0 _
 have hx:=hb.trans (by4.mono hb.size);have hB:=B1.out.trans (hx.mono B1.out.size);have B2:=hid hB;have HD:=hid (D1.out y4 hB);have P2:=hid hYb;obtain⟨d0,d1,d2, -, -, -⟩:=zah hYb;have HY:=hid hy.symm;have HYe:=hid hY.symm;clear hb hx hy hY by4 hYb hB B1 D1 HC;rw[<-HY.out] at d0 d1 d2;go_wp21;have h9:=HY.out;rw[show r0.alloc (.cells #[.string ⟨c0.toArray⟩,.string ⟨c1.toArray⟩,.string ⟨c2.toArray⟩] 25)=y4 from h9]
 try rw[HYe.out]
 clear h9 HY HYe d0 d1 d2;refine zzM HD.out λr1 hb=>?_;have hB:=B2.out.trans (hb.mono B2.out.size);have B3:=hid hB;have HD2:=hid (D2.out r1 hB);obtain⟨d0,d1,d2, -, -, -⟩:=zah (zac hb _ _ _ _ P2.out);clear hb hB HD D2 B2 P2;go_wp21;clear d0 d1 d2;refine zzM HD2.out λr2 hb=>?_;have B4:=hid (B3.out.trans (hb.mono B3.out.size));clear hb HD2 B3;go_wp21;go_ret2;exact⟨rfl,B4.out⟩
theorem zjg {w v1:zA} {a b c d e f x y z:Value} {s t u:TypeId} (hv:v1=((w.alloc (.cells #[a,b,c] s)).alloc (.cells #[d,e,f] t)).alloc (.cells #[x,y,z] u)):
 qL w v1/\v1.heap[w.heap.size]? =some (.cells #[a,b,c] s (0,0))/\v1.heap[w.heap.size+1]? =some (.cells #[d,e,f] t (0,0))/\v1.heap[w.heap.size+1+1]? =some (.cells #[x,y,z] u (0,0))/\v1.heap.size=w.heap.size+1+1+1:=by
 obtain⟨v0,h0⟩:=zzX ((w.alloc (.cells #[a,b,c] s)).alloc (.cells #[d,e,f] t));obtain⟨h1,h2,h3,h4⟩:=zcz h0;rw[<-h0] at hv;have hb:qL v0 v1:=by rw[hv];exact(zM _ v0).alloc (zN _) _
 have hc:=zac hb;exact⟨h1.trans (hb.mono h1.size),hc _ _ _ _ h2,hc _ _ _ _ h3,by rw[hv,<-h4];exact zG v0 _,by rw[hv,zH,h4]⟩
theorem z1k (a0 a1 a2 x c0 c1 c2:List UInt8) (w:zA)
 (CK:Hid (∀W:zA,qL w W->qJ 50 #[.agg #[St a0,St a1,St a2]] W (.int .i64 0)))
 (CX:Hid (∀W:zA,qL w W->qJ 36 #[St x] W (.int .i64 0)))
 (WI:Hid (∀W:zA,qL w W->qJ 74 #[.agg #[St a0,St a1,St a2],.agg #[St x,St x,St x],.func (.func 52) #[] #[]] W (.tuple #[.agg #[St c0,St c1,St c2],.int .i64 0]))):
 qJ 40 #[.agg #[St a0,St a1,St a2],St x] w (.tuple #[.agg #[St c0,St c1,St c2],.int .i64 0]):=by
 obtain⟨v1,hv⟩:=zzX ((w.alloc (.cells #[St a0,St a1,St a2] 25)).alloc (.cells #[St [],St [],St []] 25));obtain⟨b1,p1,p2, -⟩:=zcz hv;have HC:=hid (CK.out v1 b1);have B1:=hid b1;have P1:=hid p1;have P2:=hid p2;have HV:=hid hv.symm;clear hv b1 CK p1 p2;go_enter Tryz.func40,Tryz.ntmps40;go_wp21;have h9:=HV.out;rw[show(w.alloc (.cells #[.string ⟨a0.toArray⟩,.string ⟨a1.toArray⟩,.string ⟨a2.toArray⟩] 25)).alloc (.cells #[.string ⟨#[]⟩,.string ⟨#[]⟩,.string ⟨#[]⟩] 25)=v1 from h9];clear h9 HV;refine zzM HC.out λr0 hb=>?_;have hB:=B1.out.trans (hb.mono B1.out.size);have B2:=hid hB;have HD:=hid (CX.out r0 hB);have P3:=hid (zac hb _ _ _ _ P1.out);have P4:=hid (zac hb _ _ _ _ P2.out);clear hb hB B1 CX HC P1 P2;go_wp21;refine zzM HD.out λr1 hb=>?_;have hB:=B2.out.trans (hb.mono B2.out.size);have B3:=hid hB;have HW:=hid (WI.out r1 hB);obtain⟨d0,d1,d2, -, -, -⟩:=zah (zac hb _ _ _ _ P3.out);have P5:=hid (zac hb _ _ _ _ P4.out);clear hb hB B2 WI HD P3 P4;go_wp21;clear d0 d1 d2;refine zzM HW.out λr2 hb=>?_;have B4:=hid (B3.out.trans (hb.mono B3.out.size));obtain⟨d0,d1,d2,z0,z1,z2⟩:=zah (zac hb _ _ _ _ P5.out);clear hb HW B3 P5;go_wp21;exact bodyPost_ret (v:=.tuple #[.agg #[St c0,St c1,St c2],.int .i64 0]) (by simp[results,Tryz.results40,go_sem,d0,d1,d2]) rfl ⟨rfl,((B4.out.setCell (p:=⟨w.heap.size+1,0,none⟩) (by show _<=w.heap.size+1;omega) _).setCell (p:=⟨w.heap.size+1,1,none⟩) (by show _<=w.heap.size+1;omega) _).setCell (p:=⟨w.heap.size+1,2,none⟩) (by show _<=w.heap.size+1;omega) _⟩
structure Mbr where
 k:Int
 f:Int
 o:Int
 a0:ByteArray
 a1:ByteArray
 a2:ByteArray
 b0:ByteArray
 b1:ByteArray
 b2:ByteArray
 wd:Int
 dp:Int
def Mbr.v (m:Mbr):Value:=.agg #[.int .i64 m.k,.int .i64 m.f,.int .i64 m.o,.string m.a0,.string m.a1,.string m.a2,.string m.b0,.string m.b1,.string m.b2,.int .i64 m.wd,.int .i64 m.dp]
structure MbS (m:Mbr) (b:Nat) (W:zA):Prop where
 h:W.heap[b]? =some (.cells #[.int .i64 m.k,.int .i64 m.f,.int .i64 m.o,.string m.a0,.string m.a1,.string m.a2,.string m.b0,.string m.b1,.string m.b2,.int .i64 m.wd,.int .i64 m.dp] 27 (0,0))
theorem MbS.below {m:Mbr} {b:Nat} {W W':zA} (h:MbS m b W) (hb:qL W W'):MbS m b W':=⟨zac hb _ _ _ _ h.h⟩
theorem MbS.cells {m:Mbr} {b:Nat} {W:zA} (h:MbS m b W):W.cell? ⟨b,0,none⟩=some (.int .i64 m.k)/\W.cell? ⟨b,1,none⟩=some (.int .i64 m.f)/\W.cell? ⟨b,2,none⟩=some (.int .i64 m.o)/\W.cell? ⟨b,3,none⟩=some (.string m.a0)/\W.cell? ⟨b,4,none⟩=some (.string m.a1)/\W.cell? ⟨b,5,none⟩=some (.string m.a2)/\
 W.cell? ⟨b,6,none⟩=some (.string m.b0)/\W.cell? ⟨b,7,none⟩=some (.string m.b1)/\W.cell? ⟨b,8,none⟩=some (.string m.b2)/\W.cell? ⟨b,9,none⟩=some (.int .i64 m.wd)/\W.cell? ⟨b,10,none⟩=some (.int .i64 m.dp):=by
 have c:=λo u (hu:(#[.int .i64 m.k,.int .i64 m.f,.int .i64 m.o,.string m.a0,.string m.a1,.string m.a2,.string m.b0,.string m.b1,.string m.b2,.int .i64 m.wd,.int .i64 m.dp]:Array Value)[o]? =some u)=>(show W.cell? ⟨b,o,none⟩=some u by rw[zJ h.h];exact hu);exact⟨c 0 _ rfl,c 1 _ rfl,c 2 _ rfl,c 3 _ rfl,c 4 _ rfl,c 5 _ rfl,c 6 _ rfl,c 7 _ rfl,c 8 _ rfl,c 9 _ rfl,c 10 _ rfl⟩
theorem zfs (n a b:Int) (h1:a<=n) (h2:n<=b) (w:zA):qJ 134 #[.int .i64 n,.int .i64 a,.int .i64 b] w (.bool false):=by
 have d1:decide (n<a)=false:=decide_eq_false (by omega);have d2:decide (b<n)=false:=decide_eq_false (by omega);have d3:¬n<a:=by omega
 have d4:¬b<n:=by omega
 go_enter Tryz.func134,Tryz.ntmps134;go_wp21;go_ret;exact⟨rfl,zM _ _⟩
theorem zbc {b:Nat} {W:zA} {x y z:Value} {t:TypeId} (h:W.heap[b]? =some (.cells #[x,y,z] t (0,0))):W.cell? ⟨b,0,none⟩=some x/\W.cell? ⟨b,1,none⟩=some y/\W.cell? ⟨b,2,none⟩=some z:=by
 refine⟨?_,?_,?_⟩<;>rw[zJ h]<;>rfl
theorem sixC {b:Nat} {W:zA} {x y z x' y' z':Value} {t:TypeId} (h:W.heap[b]? =some (.cells #[x,y,z,x',y',z'] t (0,0))):W.cell? ⟨b,0,none⟩=some x/\W.cell? ⟨b,1,none⟩=some y/\W.cell? ⟨b,2,none⟩=some z/\W.cell? ⟨b,3,none⟩=some x'/\W.cell? ⟨b,4,none⟩=some y'/\W.cell? ⟨b,5,none⟩=some z':=by
 refine⟨?_,?_,?_,?_,?_,?_⟩<;>rw[zJ h]<;>rfl
def Mbr.eqB (m:Mbr):Bool:=(m.a0.toList==m.b0.toList&&(m.a1.toList==m.b1.toList&&m.a2.toList==m.b2.toList))
theorem z30 (m:Mbr) (hk:1<=m.k/\m.k<=12) (hf:0<=m.f) (ho: -1<=m.o) (hwd:1<=m.wd/\m.wd<=1000) (hdp:1<=m.dp/\m.dp<=1000) (hX:m.eqB=false) (w:zA)
 (V1:Hid (∀W:zA,qL w W->qJ 50 #[.agg #[.string m.a0,.string m.a1,.string m.a2]] W (.int .i64 0)))
 (V2:Hid (∀W:zA,qL w W->qJ 50 #[.agg #[.string m.b0,.string m.b1,.string m.b2]] W (.int .i64 0)))
 (L1:Hid (∀W:zA,qL w W->qJ 135 #[.agg #[.string m.a0,.string m.a1,.string m.a2]] W (.bool false)))
 (L2:Hid (∀W:zA,qL w W->qJ 135 #[.agg #[.string m.b0,.string m.b1,.string m.b2]] W (.bool false))):
 qJ 70 #[m.v] w (.int .i64 0):=by
 have HX:=hid hX;clear hX;have HK:=hid hk;have HWD:=hid hwd;have HDP:=hid hdp;have hf1:¬m.f<0:=by omega
 have ho1:¬m.o< -1:=by omega
 clear hk hwd hdp hf ho;obtain⟨v1,hv⟩:=zzX (w.alloc (.cells #[.int .i64 m.k,.int .i64 m.f,.int .i64 m.o,.string m.a0,.string m.a1,.string m.a2,.string m.b0,.string m.b1,.string m.b2,.int .i64 m.wd,.int .i64 m.dp] 27));have a1:qL w v1:=by rw[hv];exact(zM _ w).alloc (zN _) _
 have m1:MbS m w.heap.size v1:=⟨by rw[hv];exact zG w _⟩;have HV:=hid hv.symm;have B0:=hid a1;have M0:=hid m1;obtain⟨k0,k1,k2,k3,k4,k5,k6,k7,k8,k9,k10⟩:=m1.cells;rw[hv] at k0;clear hv a1 m1 k1 k2 k3 k4 k5 k6 k7 k8 k9 k10;unfold Mbr.v;go_enter Tryz.func70,Tryz.ntmps70;go_wp21;rw[HV.out];clear k0 HV;refine zzM (zfs m.k 1 12 HK.out.1 HK.out.2 v1) λw1 hb=>?_;have B1:=hid (B0.out.trans (hb.mono B0.out.size));have M1:=hid (M0.out.below hb);clear hb B0 M0;obtain⟨k0,k1,k2,k3,k4,k5,k6,k7,k8,k9,k10⟩:=M1.out.cells;go_wp21;clear k0 k1 k2 k3 k4 k5 k6 k7 k8 k9 k10;refine zzM (zfs m.wd 1 1000 HWD.out.1 HWD.out.2 w1) λw2 hb=>?_;have B2:=hid (B1.out.trans (hb.mono B1.out.size));have M2:=hid (M1.out.below hb);clear hb B1 M1;obtain⟨k0,k1,k2,k3,k4,k5,k6,k7,k8,k9,k10⟩:=M2.out.cells;go_wp21;clear k0 k1 k2 k3 k4 k5 k6 k7 k8 k9 k10;refine zzM (zfs m.dp 1 1000 HDP.out.1 HDP.out.2 w2) λw3 hb=>?_;have B3:=hid (B2.out.trans (hb.mono B2.out.size));have M3:=hid (M2.out.below hb);clear hb B2 M2;obtain⟨k0,k1,k2,k3,k4,k5,k6,k7,k8,k9,k10⟩:=M3.out.cells;obtain⟨v3,hv⟩:=zzX (w3.alloc (.cells #[.string m.a0,.string m.a1,.string m.a2,.string m.b0,.string m.b1,.string m.b2] 25));have a3:qL w3 v3:=by rw[hv];exact(zM _ w3).alloc (zN _) _
 have s3:v3.heap[w3.heap.size]? =some (.cells #[.string m.a0,.string m.a1,.string m.a2,.string m.b0,.string m.b1,.string m.b2] 25 (0,0)):=by rw[hv];exact zG w3 _
 have HV:=hid hv.symm;have B4:=hid (B3.out.trans (a3.mono B3.out.size));have M4:=hid (M3.out.below a3);have S4:=hid s3;clear hv a3 s3 B3 M3;go_wp21;rw[HV.out];clear k0 k1 k2 k3 k4 k5 k6 k7 k8 k9 k10 HV;refine wp_loop_rounds 3 ?_;rw[rounds_succ];obtain⟨v4,hv⟩:=zzX (v3.alloc (.cells #[.string m.a0,.string m.a1,.string m.a2] 25));have a4:qL v3 v4:=by rw[hv];exact(zM _ v3).alloc (zN _) _
 obtain⟨t0,t1,t2⟩:=zbc (show v4.heap[v3.heap.size]? =some (.cells #[.string m.a0,.string m.a1,.string m.a2] 25 (0,0)) by rw[hv];exact zG v3 _);obtain⟨s0,s1,s2,s3,s4,s5⟩:=sixC S4.out;have HV:=hid hv.symm;have B5:=hid (B4.out.trans (a4.mono B4.out.size));have M5:=hid (M4.out.below a4);have S5:=hid (zac a4 _ _ _ _ S4.out);rw[hv] at t0 t1 t2;clear hv a4 B4 M4 S4;go_wp21;rw[HV.out];clear t0 t1 t2 s0 s1 s2 s3 s4 s5 HV;refine zzM (V1.out v4 B5.out) λw5 hb=>?_;have B6:=hid (B5.out.trans (hb.mono B5.out.size));have M6:=hid (M5.out.below hb);have S6:=hid (zac hb _ _ _ _ S5.out);clear hb B5 M5 S5 V1;go_wp21;rw[rounds_succ];obtain⟨v6,hv⟩:=zzX (w5.alloc (.cells #[.string m.b0,.string m.b1,.string m.b2] 25));have a6:qL w5 v6:=by rw[hv];exact(zM _ w5).alloc (zN _) _
 obtain⟨t0,t1,t2⟩:=zbc (show v6.heap[w5.heap.size]? =some (.cells #[.string m.b0,.string m.b1,.string m.b2] 25 (0,0)) by rw[hv];exact zG w5 _);obtain⟨s0,s1,s2,s3,s4,s5⟩:=sixC S6.out;have HV:=hid hv.symm;have B7:=hid (B6.out.trans (a6.mono B6.out.size));have M7:=hid (M6.out.below a6);rw[hv] at t0 t1 t2;clear hv a6 B6 M6 S6;go_wp21;rw[HV.out];clear t0 t1 t2 s0 s1 s2 s3 s4 s5 HV;refine zzM (V2.out v6 B7.out) λw7 hb=>?_;have B8:=hid (B7.out.trans (hb.mono B7.out.size));have M8:=hid (M7.out.below hb);clear hb B7 M7 V2;go_wp21;rw[rounds_succ];obtain⟨k0,k1,k2,k3,k4,k5,k6,k7,k8,k9,k10⟩:=M8.out.cells;go_wp21;clear k0 k1 k2 k3 k4 k5 k6 k7 k8 k9 k10;refine zzM (L1.out w7 B8.out) λw8 hb=>?_;have B9:=hid (B8.out.trans (hb.mono B8.out.size));have M9:=hid (M8.out.below hb);clear hb B8 M8 L1;obtain⟨k0,k1,k2,k3,k4,k5,k6,k7,k8,k9,k10⟩:=M9.out.cells;go_wp21;clear k0 k1 k2 k3 k4 k5 k6 k7 k8 k9 k10;refine zzM (L2.out w8 B9.out) λw9 hb=>?_;have B10:=hid (B9.out.trans (hb.mono B9.out.size));have M10:=hid (M9.out.below hb);clear hb B9 M9 L2;obtain⟨k0,k1,k2,k3,k4,k5,k6,k7,k8,k9,k10⟩:=M10.out.cells;have hX1:=HX.out;unfold Mbr.eqB at hX1;go_wp21
 all_goals first
  |(exfalso;(rename_i h1 h2 h3);rw[h1,h2,h3] at hX1;simp at hX1;done)
  |(go_ret;exact⟨rfl,B10.out⟩)
theorem z5y (a0 a1 a2 b0 b1 b2 c0 c1 c2:List UInt8) (w:zA)
 (BO:Hid (∀W:zA,qL w W->qJ 75 #[.agg #[St a0,St a1,St a2],.agg #[St b0,St b1,St b2]] W (.int .i64 0)))
 (WI:Hid (∀W:zA,qL w W->qJ 74 #[.agg #[St a0,St a1,St a2],.agg #[St b0,St b1,St b2],.func (.func 101) #[] #[]] W (.tuple #[.agg #[St c0,St c1,St c2],.int .i64 0]))):
 qJ 51 #[.agg #[St a0,St a1,St a2],.agg #[St b0,St b1,St b2]] w (.tuple #[.agg #[St c0,St c1,St c2],.int .i64 0]):=by
 obtain⟨v1,hv⟩:=zzX (((w.alloc (.cells #[St a0,St a1,St a2] 25)).alloc (.cells #[St b0,St b1,St b2] 25)).alloc (.cells #[St [],St [],St []] 25));obtain⟨b1,p1,p2,p3, -⟩:=zjg hv;have HC:=hid (BO.out v1 b1);have B1:=hid b1;have P1:=hid p1;have P2:=hid p2;have P3:=hid p3;have HV:=hid hv.symm;obtain⟨d0,d1,d2, -, -, -⟩:=zah p1;obtain⟨d3,d4,d5, -, -, -⟩:=zah p2;rw[hv] at d0 d1 d2 d3 d4 d5;clear hv b1 BO p1 p2 p3;go_enter Tryz.func51,Tryz.ntmps51;go_wp21;have h9:=HV.out;rw[show((w.alloc (.cells #[.string ⟨a0.toArray⟩,.string ⟨a1.toArray⟩,.string ⟨a2.toArray⟩] 25)).alloc (.cells #[.string ⟨b0.toArray⟩,.string ⟨b1.toArray⟩,.string ⟨b2.toArray⟩] 25)).alloc (.cells #[.string ⟨#[]⟩,.string ⟨#[]⟩,.string ⟨#[]⟩] 25)=v1 from h9];clear h9 HV d0 d1 d2 d3 d4 d5;refine zzM HC.out λr0 hb=>?_;have hB:=B1.out.trans (hb.mono B1.out.size);have B2:=hid hB;have HD:=hid (WI.out r0 hB);obtain⟨d0,d1,d2, -, -, -⟩:=zah (zac hb _ _ _ _ P1.out);obtain⟨d3,d4,d5, -, -, -⟩:=zah (zac hb _ _ _ _ P2.out);have P4:=hid (zac hb _ _ _ _ P3.out);clear hb hB B1 WI HC P1 P2 P3;go_wp21;clear d0 d1 d2 d3 d4 d5;refine zzM HD.out λr2 hb=>?_;have B4:=hid (B2.out.trans (hb.mono B2.out.size));obtain⟨d0,d1,d2,z0,z1,z2⟩:=zah (zac hb _ _ _ _ P4.out);clear hb HD B2 P4;go_wp21
 exact bodyPost_ret (v:=.tuple #[.agg #[St c0,St c1,St c2],.int .i64 0]) (by simp[results,Tryz.results51,go_sem,d0,d1,d2]) rfl ⟨rfl,((B4.out.setCell (p:=⟨w.heap.size+1+1,0,none⟩) (by show _<=w.heap.size+1+1;omega) _).setCell (p:=⟨w.heap.size+1+1,1,none⟩) (by show _<=w.heap.size+1+1;omega) _).setCell (p:=⟨w.heap.size+1+1,2,none⟩) (by show _<=w.heap.size+1+1;omega) _⟩
theorem z50 (X Y Z:ByteArray) (w:zA):qJ 136 #[.agg #[.string X,.string Y,.string Z]] w (.tuple #[.agg #[.string X,.string Y,.string Z],.int .i64 0]):=by
 obtain⟨v1,hv⟩:=zzX ((w.alloc (.cells #[.string X,.string Y,.string Z] 25)).alloc (.cells #[.string ⟨#[]⟩,.string ⟨#[]⟩,.string ⟨#[]⟩] 25));obtain⟨b1,p1,p2, -⟩:=zcz hv;obtain⟨d0,d1,d2, -, -, -⟩:=zah p1;obtain⟨e0,e1,e2,z0,z1,z2⟩:=zah p2;have B1:=hid b1;have HV:=hid hv;rw[hv] at d0 d1 d2 e0 e1 e2 z0 z1 z2;clear hv b1 p1 p2;go_enter Tryz.func136,Tryz.ntmps136;go_wp21;have hB:=B1.out;rw[HV.out] at hB;refine bodyPost_ret (v:=.tuple #[.agg #[.string X,.string Y,.string Z],.int .i64 0]) (by simp[results,Tryz.results136,go_sem]) rfl ⟨rfl,?_⟩
 first
  |exact((zM _ w).alloc (zN _) _).alloc (by simp) _
  |(repeat(first|exact hB|refine Below.setCell ?_ (by simp) _))
theorem z35 (m:Mbr) (X Y Z:ByteArray) (w:zA)
 (CK:Hid (∀W:zA,qL w W->qJ 70 #[m.v] W (.int .i64 0)))
 (SB:Hid (∀W:zA,qL w W->qJ 51 #[.agg #[.string m.b0,.string m.b1,.string m.b2],.agg #[.string m.a0,.string m.a1,.string m.a2]] W (.tuple #[.agg #[.string X,.string Y,.string Z],.int .i64 0]))):
 qJ 137 #[.agg #[.func (.func 136) #[] #[]],m.v] w (.tuple #[.agg #[.string X,.string Y,.string Z],.int .i64 0]):=by
 obtain⟨x0,hx0⟩:=zzX (w.alloc (.cells #[.func (.func 136) #[] #[]] 175));have s0:x0.heap.size=w.heap.size+1:=by rw[hx0];simp
 have q0:qL w x0:=by rw[hx0];exact(zM _ w).alloc (zN _) _
 have f0:x0.heap[w.heap.size]? =some (.cells #[.func (.func 136) #[] #[]] 175 (0,0)):=by rw[hx0];exact zG w _
 obtain⟨x1,hx1⟩:=zzX (x0.alloc (.cells #[.int .i64 m.k,.int .i64 m.f,.int .i64 m.o,.string m.a0,.string m.a1,.string m.a2,.string m.b0,.string m.b1,.string m.b2,.int .i64 m.wd,.int .i64 m.dp] 27));have s1:x1.heap.size=x0.heap.size+1:=by rw[hx1];simp
 have q1:qL x0 x1:=by rw[hx1];exact(zM _ x0).alloc (zN _) _
 have f1:x1.heap[x0.heap.size]? =some (.cells #[.int .i64 m.k,.int .i64 m.f,.int .i64 m.o,.string m.a0,.string m.a1,.string m.a2,.string m.b0,.string m.b1,.string m.b2,.int .i64 m.wd,.int .i64 m.dp] 27 (0,0)):=by rw[hx1];exact zG x0 _
 obtain⟨x2,hx2⟩:=zzX (x1.alloc (.cells #[.string ⟨#[]⟩,.string ⟨#[]⟩,.string ⟨#[]⟩] 25));have s2:x2.heap.size=x1.heap.size+1:=by rw[hx2];simp
 have q2:qL x1 x2:=by rw[hx2];exact(zM _ x1).alloc (zN _) _
 have f2:x2.heap[x1.heap.size]? =some (.cells #[.string ⟨#[]⟩,.string ⟨#[]⟩,.string ⟨#[]⟩] 25 (0,0)):=by rw[hx2];exact zG x1 _
 obtain⟨x3,hx3⟩:=zzX (x2.alloc (.cells #[.string ⟨#[]⟩,.string ⟨#[]⟩,.string ⟨#[]⟩] 25));have s3:x3.heap.size=x2.heap.size+1:=by rw[hx3];simp
 have q3:qL x2 x3:=by rw[hx3];exact(zM _ x2).alloc (zN _) _
 have f3:x3.heap[x2.heap.size]? =some (.cells #[.string ⟨#[]⟩,.string ⟨#[]⟩,.string ⟨#[]⟩] 25 (0,0)):=by rw[hx3];exact zG x2 _
 have q23:=q2.trans (q3.mono q2.size);have q13:=q1.trans (q23.mono q1.size);have q03:=q0.trans (q13.mono q0.size);have B0:=hid q03;have F0:=hid (zac q13 _ _ _ _ f0);have M0:=hid (⟨zac q23 _ _ _ _ f1⟩:MbS m x0.heap.size x3);have R0:=hid (zac q3 _ _ _ _ f2);have Z0:=hid f3;rw[s0] at M0;rw[s1,s0] at R0;rw[s2,s1,s0] at Z0;have hall:x3=(((w.alloc (.cells #[.func (.func 136) #[] #[]] 175)).alloc (.cells #[.int .i64 m.k,.int .i64 m.f,.int .i64 m.o,.string m.a0,.string m.a1,.string m.a2,.string m.b0,.string m.b1,.string m.b2,.int .i64 m.wd,.int .i64 m.dp] 27)).alloc (.cells #[.string ⟨#[]⟩,.string ⟨#[]⟩,.string ⟨#[]⟩] 25)).alloc (.cells #[.string ⟨#[]⟩,.string ⟨#[]⟩,.string ⟨#[]⟩] 25):=by rw[hx3,hx2,hx1,hx0]
 have HV:=hid hall.symm;obtain⟨k0,k1,k2,k3,k4,k5,k6,k7,k8,k9,k10⟩:=M0.out.cells;rw[hall] at k0 k1 k2 k3 k4 k5 k6 k7 k8 k9 k10;clear hall hx0 hx1 hx2 hx3 s0 s1 s2 s3 q0 q1 q2 q3 f0 f1 f2 f3 q23 q13 q03;unfold Mbr.v at CK⊢;go_enter Tryz.func137,Tryz.ntmps137;go_wp21;rw[HV.out];clear k0 k1 k2 k3 k4 k5 k6 k7 k8 k9 k10 HV;refine zzM (CK.out x3 B0.out) λw1 hb=>?_;have B1:=hid (B0.out.trans (hb.mono B0.out.size));have M1:=hid (M0.out.below hb);have F1:=hid (zac hb _ _ _ _ F0.out);have R1:=hid (zac hb _ _ _ _ R0.out);clear hb B0 M0 F0 R0 Z0 CK;obtain⟨k0,k1,k2,k3,k4,k5,k6,k7,k8,k9,k10⟩:=M1.out.cells;go_wp21;clear k0 k1 k2 k3 k4 k5 k6 k7 k8 k9 k10;refine zzM (SB.out w1 B1.out) λw2 hb=>?_;have B2:=hid (B1.out.trans (hb.mono B1.out.size));have F2:=hid (zac hb _ _ _ _ F1.out);have R2:=hid (zac hb _ _ _ _ R1.out);clear hb B1 M1 F1 R1 SB;obtain⟨v3,hv⟩:=zzX (w2.alloc (.cells #[.string X,.string Y,.string Z] 25));have a3:qL w2 v3:=by rw[hv];exact(zM _ w2).alloc (zN _) _
 obtain⟨t0,t1,t2⟩:=zbc (show v3.heap[w2.heap.size]? =some (.cells #[.string X,.string Y,.string Z] 25 (0,0)) by rw[hv];exact zG w2 _);have g0:v3.cell? ⟨w.heap.size,0,none⟩=some (.func (.func 136) #[] #[]):=by rw[zJ (zac a3 _ _ _ _ F2.out)];rfl
 have HV:=hid hv.symm;have B3:=hid (B2.out.trans (a3.mono B2.out.size));have R3:=hid (zac a3 _ _ _ _ R2.out);rw[hv] at t0 t1 t2 g0;clear hv a3 B2 F2 R2;go_wp21;rw[HV.out];clear t0 t1 t2 g0 HV;refine zzM (z50 X Y Z v3) λw4 hb=>?_;have B4:=hid (B3.out.trans (hb.mono B3.out.size));obtain⟨e0,e1,e2,z0,z1,z2⟩:=zah (zac hb _ _ _ _ R3.out);clear hb B3 R3;go_wp21;have hB:=B4.out;refine bodyPost_ret (v:=.tuple #[.agg #[.string X,.string Y,.string Z],.int .i64 0]) (by simp[results,Tryz.results137,go_sem,e0,e1,e2]) rfl ⟨rfl,?_⟩
 repeat(first|exact hB|refine Below.setCell ?_ (by simp<;>omega) _)
theorem z2k (m:Mbr) (X Y Z:ByteArray) (w:zA)
 (QU:Hid (∀W:zA,qL w W->qJ 137 #[.agg #[.func (.func 136) #[] #[]],m.v] W (.tuple #[.agg #[.string X,.string Y,.string Z],.int .i64 0]))):
 qJ 71 #[m.v] w (.tuple #[.agg #[.string X,.string Y,.string Z],.int .i64 0]):=by
 obtain⟨x0,hx0⟩:=zzX (w.alloc (.cells #[.int .i64 m.k,.int .i64 m.f,.int .i64 m.o,.string m.a0,.string m.a1,.string m.a2,.string m.b0,.string m.b1,.string m.b2,.int .i64 m.wd,.int .i64 m.dp] 27));obtain⟨x1,hx1⟩:=zzX (x0.alloc (.cells #[.string ⟨#[]⟩,.string ⟨#[]⟩,.string ⟨#[]⟩] 25));have s0:x0.heap.size=w.heap.size+1:=by rw[hx0];simp
 have q0:qL w x0:=by rw[hx0];exact(zM _ w).alloc (zN _) _
 have q1:qL x0 x1:=by rw[hx1];exact(zM _ x0).alloc (zN _) _
 have m0:MbS m w.heap.size x0:=⟨by rw[hx0];exact zG w _⟩;have f1:x1.heap[w.heap.size+1]? =some (.cells #[.string ⟨#[]⟩,.string ⟨#[]⟩,.string ⟨#[]⟩] 25 (0,0)):=by rw[hx1,<-s0];exact zG x0 _
 have B0:=hid (q0.trans (q1.mono q0.size));have M0:=hid (m0.below q1);have R0:=hid f1;have hall:x1=(w.alloc (.cells #[.int .i64 m.k,.int .i64 m.f,.int .i64 m.o,.string m.a0,.string m.a1,.string m.a2,.string m.b0,.string m.b1,.string m.b2,.int .i64 m.wd,.int .i64 m.dp] 27)).alloc (.cells #[.string ⟨#[]⟩,.string ⟨#[]⟩,.string ⟨#[]⟩] 25):=by rw[hx1,hx0]
 have HV:=hid hall.symm;obtain⟨k0,k1,k2,k3,k4,k5,k6,k7,k8,k9,k10⟩:=M0.out.cells;rw[hall] at k0 k1 k2 k3 k4 k5 k6 k7 k8 k9 k10;clear hall hx0 hx1 s0 q0 q1 m0 f1;unfold Mbr.v at*
 go_enter Tryz.func71,Tryz.ntmps71;go_wp21;rw[HV.out];clear k0 k1 k2 k3 k4 k5 k6 k7 k8 k9 k10 HV;refine zzM (QU.out x1 B0.out) λw1 hb=>?_;have B9:=hid (B0.out.trans (hb.mono B0.out.size));obtain⟨e0,e1,e2,z0,z1,z2⟩:=zah (zac hb _ _ _ _ R0.out);clear hb B0 M0 R0 QU;go_wp21;have hB:=B9.out;refine bodyPost_ret (v:=.tuple #[.agg #[.string X,.string Y,.string Z],.int .i64 0]) (by simp[results,Tryz.results71,go_sem,e0,e1,e2]) rfl ⟨rfl,?_⟩
 repeat(first|exact hB|refine Below.setCell ?_ (by simp<;>omega) _)
theorem z1n (m:Mbr) (X Y Z:ByteArray) (w:zA)
 (CK:Hid (∀W:zA,qL w W->qJ 70 #[m.v] W (.int .i64 0)))
 (DI:Hid (∀W:zA,qL w W->qJ 71 #[m.v] W (.tuple #[.agg #[.string X,.string Y,.string Z],.int .i64 0]))):
 qJ 35 #[m.v] w (.tuple #[.agg #[.string X,.string Y,.string Z],.int .i64 0]):=by
 obtain⟨x0,hx0⟩:=zzX (w.alloc (.cells #[.int .i64 m.k,.int .i64 m.f,.int .i64 m.o,.string m.a0,.string m.a1,.string m.a2,.string m.b0,.string m.b1,.string m.b2,.int .i64 m.wd,.int .i64 m.dp] 27));obtain⟨x1,hx1⟩:=zzX (x0.alloc (.cells #[.string ⟨#[]⟩,.string ⟨#[]⟩,.string ⟨#[]⟩] 25));have s0:x0.heap.size=w.heap.size+1:=by rw[hx0];simp
 have q0:qL w x0:=by rw[hx0];exact(zM _ w).alloc (zN _) _
 have q1:qL x0 x1:=by rw[hx1];exact(zM _ x0).alloc (zN _) _
 have m0:MbS m w.heap.size x0:=⟨by rw[hx0];exact zG w _⟩;have f1:x1.heap[w.heap.size+1]? =some (.cells #[.string ⟨#[]⟩,.string ⟨#[]⟩,.string ⟨#[]⟩] 25 (0,0)):=by rw[hx1,<-s0];exact zG x0 _
 have B0:=hid (q0.trans (q1.mono q0.size));have M0:=hid (m0.below q1);have R0:=hid f1;have hall:x1=(w.alloc (.cells #[.int .i64 m.k,.int .i64 m.f,.int .i64 m.o,.string m.a0,.string m.a1,.string m.a2,.string m.b0,.string m.b1,.string m.b2,.int .i64 m.wd,.int .i64 m.dp] 27)).alloc (.cells #[.string ⟨#[]⟩,.string ⟨#[]⟩,.string ⟨#[]⟩] 25):=by rw[hx1,hx0]
 have HV:=hid hall.symm;obtain⟨k0,k1,k2,k3,k4,k5,k6,k7,k8,k9,k10⟩:=M0.out.cells;rw[hall] at k0 k1 k2 k3 k4 k5 k6 k7 k8 k9 k10;clear hall hx0 hx1 s0 q0 q1 m0 f1;unfold Mbr.v at*
 go_enter Tryz.func35,Tryz.ntmps35;go_wp21;rw[HV.out];clear k0 k1 k2 k3 k4 k5 k6 k7 k8 k9 k10 HV;refine zzM (CK.out x1 B0.out) λw1 hb=>?_;have B1:=hid (B0.out.trans (hb.mono B0.out.size));have M1:=hid (M0.out.below hb);have R1:=hid (zac hb _ _ _ _ R0.out);clear hb B0 M0 R0 CK;obtain⟨k0,k1,k2,k3,k4,k5,k6,k7,k8,k9,k10⟩:=M1.out.cells;go_wp21;clear k0 k1 k2 k3 k4 k5 k6 k7 k8 k9 k10;refine zzM (DI.out w1 B1.out) λw2 hb=>?_;have B9:=hid (B1.out.trans (hb.mono B1.out.size));obtain⟨e0,e1,e2,z0,z1,z2⟩:=zah (zac hb _ _ _ _ R1.out);clear hb B1 M1 R1 DI;go_wp21;have hB:=B9.out;refine bodyPost_ret (v:=.tuple #[.agg #[.string X,.string Y,.string Z],.int .i64 0]) (by simp[results,Tryz.results35,go_sem,e0,e1,e2]) rfl ⟨rfl,?_⟩
 repeat(first|exact hB|refine Below.setCell ?_ (by simp<;>omega) _)
theorem z52 (X Y Z:ByteArray) (w:zA):qJ 23 #[.agg #[.string X,.string Y,.string Z]] w (.agg #[.string X,.string Y,.string ⟨#[48]⟩]):=by
 obtain⟨v1,hv⟩:=zzX ((w.alloc (.cells #[.string X,.string Y,.string Z] 25)).alloc (.cells #[.string ⟨#[]⟩,.string ⟨#[]⟩,.string ⟨#[]⟩] 25));obtain⟨b1,p1,p2, -⟩:=zcz hv;obtain⟨d0,d1,d2, -, -, -⟩:=zah p1;obtain⟨e0,e1,e2,z0,z1,z2⟩:=zah p2;have B1:=hid b1;have HV:=hid hv;rw[hv] at d0 d1 d2 e0 e1 e2 z0 z1 z2;clear hv b1 p1 p2;go_enter Tryz.func23,Tryz.ntmps23;go_wp21;have hB:=B1.out;rw[HV.out] at hB;refine bodyPost_ret (v:=.agg #[.string X,.string Y,.string ⟨#[48]⟩]) (by simp[results,Tryz.results23,go_sem]) rfl ⟨rfl,?_⟩
 first
  |exact((zM _ w).alloc (zN _) _).alloc (by simp) _
  |(repeat(first|exact hB|refine Below.setCell ?_ (by simp) _))
theorem z38 (m:Mbr) (X Y Z:ByteArray) (Q:Option Addr->Nat->Nat->zA->Prop) (w:zA)
 (DI:Hid (∀W:zA,qL w W->qJ 35 #[m.v] W (.tuple #[.agg #[.string X,.string Y,.string Z],.int .i64 0])))
 (VL:Hid (∀W:zA,qL w W->zC zF 47 #[.agg #[.string X,.string Y,.string ⟨#[48]⟩]] W λe w'=>∃p n c,e=.returned (.tuple #[.slice p n c,.int .i64 0])/\zB W.heap.size W w'/\Q p n c w')):
 zC zF 24 #[.agg #[.func (.func 23) #[] #[]],m.v] w λe w'=>∃p n c,e=.returned (.tuple #[.slice p n c,.int .i64 0])/\zB w.heap.size w w'/\Q p n c w':=by
 obtain⟨x0,hx0⟩:=zzX (w.alloc (.cells #[.func (.func 23) #[] #[]] 65));obtain⟨x1,hx1⟩:=zzX (x0.alloc (.cells #[.int .i64 m.k,.int .i64 m.f,.int .i64 m.o,.string m.a0,.string m.a1,.string m.a2,.string m.b0,.string m.b1,.string m.b2,.int .i64 m.wd,.int .i64 m.dp] 27));have q0:qL w x0:=by rw[hx0];exact(zM _ w).alloc (zN _) _
 have q1:qL x0 x1:=by rw[hx1];exact(zM _ x0).alloc (zN _) _
 have f0:x0.heap[w.heap.size]? =some (.cells #[.func (.func 23) #[] #[]] 65 (0,0)):=by rw[hx0];exact zG w _
 have s0:x0.heap.size=w.heap.size+1:=by rw[hx0];simp
 have m0:MbS m (w.heap.size+1) x1:=⟨by rw[hx1,<-s0];exact zG x0 _⟩;have B0:=hid (q0.trans (q1.mono q0.size));have M0:=hid m0;have F0:=hid (zac q1 _ _ _ _ f0);have hall:x1=(w.alloc (.cells #[.func (.func 23) #[] #[]] 65)).alloc (.cells #[.int .i64 m.k,.int .i64 m.f,.int .i64 m.o,.string m.a0,.string m.a1,.string m.a2,.string m.b0,.string m.b1,.string m.b2,.int .i64 m.wd,.int .i64 m.dp] 27):=by rw[hx1,hx0]
 have HV:=hid hall.symm;obtain⟨k0,k1,k2,k3,k4,k5,k6,k7,k8,k9,k10⟩:=M0.out.cells;rw[hall] at k0 k1 k2 k3 k4 k5 k6 k7 k8 k9 k10;clear hall hx0 hx1 q0 q1 f0 s0 m0;unfold Mbr.v at*
 go_enter Tryz.func24,Tryz.ntmps24;go_wp21;rw[HV.out];clear k0 k1 k2 k3 k4 k5 k6 k7 k8 k9 k10 HV;refine zzM (DI.out x1 B0.out) λw2 hb=>?_;have B2:=hid (B0.out.trans (hb.mono B0.out.size));have F2:=hid (zac hb _ _ _ _ F0.out);clear hb B0 M0 F0 DI;obtain⟨v3,hv⟩:=zzX (w2.alloc (.cells #[.string X,.string Y,.string Z] 25));have a3:qL w2 v3:=by rw[hv];exact(zM _ w2).alloc (zN _) _
 obtain⟨t0,t1,t2⟩:=zbc (show v3.heap[w2.heap.size]? =some (.cells #[.string X,.string Y,.string Z] 25 (0,0)) by rw[hv];exact zG w2 _);have g0:v3.cell? ⟨w.heap.size,0,none⟩=some (.func (.func 23) #[] #[]):=by rw[zJ (zac a3 _ _ _ _ F2.out)];rfl
 have HV:=hid hv.symm;have B3:=hid (B2.out.trans (a3.mono B2.out.size));rw[hv] at t0 t1 t2 g0;clear hv a3 B2 F2;go_wp21;rw[HV.out];clear t0 t1 t2 g0 HV;refine zzM (z52 X Y Z v3) λw4 hb=>?_;have B4:=hid (B3.out.trans (hb.mono B3.out.size));clear hb B3;go_wp21;refine(VL.out w4 B4.out).mono ?_;rintro e w5 ⟨p,n,c,rfl,hb,h0⟩;have B5:=hid (B4.out.trans (hb.mono B4.out.size));have H0:=hid h0;clear hb B4 VL h0;go_wp21;go_ret2;exact⟨_,_,_,rfl,B5.out,H0.out⟩
theorem z1v (m:Mbr) (_ _ _:ByteArray) (Q:Option Addr->Nat->Nat->zA->Prop) (w:zA)
 (OF:Hid (∀W:zA,qL w W->zC zF 24 #[.agg #[.func (.func 23) #[] #[]],m.v] W λe w'=>∃p n c,e=.returned (.tuple #[.slice p n c,.int .i64 0])/\zB W.heap.size W w'/\Q p n c w')):
 zC zF 9 #[m.v] w λe w'=>∃p n c,e=.returned (.tuple #[.slice p n c,.int .i64 0])/\zB w.heap.size w w'/\Q p n c w':=by
 obtain⟨x0,hx0⟩:=zzX (w.alloc (.cells #[.int .i64 m.k,.int .i64 m.f,.int .i64 m.o,.string m.a0,.string m.a1,.string m.a2,.string m.b0,.string m.b1,.string m.b2,.int .i64 m.wd,.int .i64 m.dp] 27));have q0:qL w x0:=by rw[hx0];exact(zM _ w).alloc (zN _) _
 have m0:MbS m w.heap.size x0:=⟨by rw[hx0];exact zG w _⟩;have B0:=hid q0;have HV:=hid hx0.symm;obtain⟨k0,k1,k2,k3,k4,k5,k6,k7,k8,k9,k10⟩:=m0.cells;rw[hx0] at k0 k1 k2 k3 k4 k5 k6 k7 k8 k9 k10;clear hx0 q0 m0;unfold Mbr.v at*
 go_enter Tryz.func9,Tryz.ntmps9;go_wp21;rw[HV.out];clear k0 k1 k2 k3 k4 k5 k6 k7 k8 k9 k10 HV;refine(OF.out x0 B0.out).mono ?_;rintro e w5 ⟨p,n,c,rfl,hb,h0⟩;have B5:=hid (B0.out.trans (hb.mono B0.out.size));have H0:=hid h0;clear hb B0 OF h0;go_wp21;go_ret2;exact⟨_,_,_,rfl,B5.out,H0.out⟩
theorem zmx (p:Option Addr) (cap n:Nat) (q:Nat->AlR) (hn:n<=4096) (hT:TabO n q) (wd dp sp ld:Int) (hs:secB wd dp sp ld=true) (w:zA) (HR:RowAl p n q w):
 qJ 25 #[.slice p n cap,.int .i64 wd,.int .i64 dp,.int .i64 sp,.int .i64 ld] w (.int .i64 0):=by
 have C1:=hid (z3z p cap n q hn (hid hT) w (hid HR));have R1:=λW=>zzz wd dp sp ld W;rw[hs] at R1;have C2:=hid R1;clear R1 hs hT HR hn;go_enter Tryz.func25,Tryz.ntmps25;go_wp21;refine zzM C1.out λw1 hb=>?_;have B1:=hid hb;clear hb;go_wp21;refine zzM (C2.out w1) λw2 hw=>?_;have hw':=hw.symm;subst hw';clear hw;go_wp21;go_ret;exact⟨rfl,B1.out⟩
theorem z7u (p:Option Addr) (cap n:Nat) (wd dp sp ld mx:Int) (w:zA)
 (CK:Hid (∀W:zA,qL w W->qJ 25 #[.slice p n cap,.int .i64 wd,.int .i64 dp,.int .i64 sp,.int .i64 ld] W (.int .i64 0)))
 (AL:Hid (∀W:zA,qL w W->qJ 29 #[.slice p n cap,.int .i64 wd,.int .i64 dp,.int .i64 sp,.int .i64 ld] W (.int .i64 mx))):
 qJ 12 #[.slice p n cap,.int .i64 wd,.int .i64 dp,.int .i64 sp,.int .i64 ld] w (.tuple #[.int .i64 mx,.int .i64 (if mx=0 then 25 else 0)]):=by
 cases h:(mx==0)
 ·rw[if_neg (beq_eq_false_iff_ne.1 h)]
  go_enter Tryz.func12,Tryz.ntmps12;go_wp21;refine zzM (CK.out w (zM _ _)) λw1 hb=>?_;have B1:=hid hb;clear hb;go_wp21;refine zzM (AL.out w1 B1.out) λw2 hb=>?_;have B2:=hid (B1.out.trans (hb.mono B1.out.size));clear hb;go_wp21;go_ret2;exact⟨rfl,B2.out⟩
 ·have h0:=beq_iff_eq.1 h
  clear h;subst h0;rw[if_pos rfl];go_enter Tryz.func12,Tryz.ntmps12;go_wp21;refine zzM (CK.out w (zM _ _)) λw1 hb=>?_;have B1:=hid hb;clear hb;go_wp21;refine zzM (AL.out w1 B1.out) λw2 hb=>?_;have B2:=hid (B1.out.trans (hb.mono B1.out.size));clear hb;go_wp21;go_ret2;exact⟨rfl,B2.out⟩
theorem z39 (m:Mbr) (X Y Z s t r:ByteArray) (w:zA)
 (SB:Hid (∀W:zA,qL w W->qJ 51 #[.agg #[.string m.b0,.string m.b1,.string m.b2],.agg #[.string m.a0,.string m.a1,.string m.a2]] W (.tuple #[.agg #[.string X,.string Y,.string Z],.int .i64 0])))
 (M1:Hid (∀W:zA,qL w W->qJ 52 #[.string X,.string X] W (.tuple #[.string s,.int .i64 0])))
 (M2:Hid (∀W:zA,qL w W->qJ 52 #[.string Y,.string Y] W (.tuple #[.string t,.int .i64 0])))
 (AD:Hid (∀W:zA,qL w W->qJ 53 #[.string s,.string t] W (.tuple #[.string r,.int .i64 0]))):
 qJ 28 #[m.v] w (.tuple #[.string r,.int .i64 0]):=by
 obtain⟨v1,hv⟩:=zzX (w.alloc (.cells #[.int .i64 m.k,.int .i64 m.f,.int .i64 m.o,.string m.a0,.string m.a1,.string m.a2,.string m.b0,.string m.b1,.string m.b2,.int .i64 m.wd,.int .i64 m.dp] 27));obtain⟨b1,A1⟩:=zdn hv;obtain⟨k0,k1,k2,k3,k4,k5,k6,k7,k8,k9,k10⟩:=(MbS.mk A1:MbS m w.heap.size v1).cells;have B0:=hid b1;have HV:=hid hv.symm;rw[hv] at k0 k1 k2 k3 k4 k5 k6 k7 k8 k9 k10;clear hv b1 A1;unfold Mbr.v;go_enter Tryz.func28,Tryz.ntmps28;go_wp21;rw[HV.out];clear k0 k1 k2 k3 k4 k5 k6 k7 k8 k9 k10 HV;refine zzM (SB.out v1 B0.out) λw1 hb=>?_;obtain⟨v2,hv⟩:=zzX (w1.alloc (.cells #[.string X,.string Y,.string Z] 25));obtain⟨b2,A2⟩:=zdn hv;obtain⟨d0,d1,d2⟩:=zbc A2;have B1:=hid (B0.out.trans (hb.mono B0.out.size));have B2:=hid (B1.out.trans (b2.mono B1.out.size));have P2:=hid A2;have HV:=hid hv.symm;rw[hv] at d0 d1 d2;clear hv b2 A2 hb B0 B1 SB;go_wp21;rw[HV.out];clear d0 d1 d2 HV;refine zzM (M1.out v2 B2.out) λw3 hb=>?_;have B3:=hid (B2.out.trans (hb.mono B2.out.size));obtain⟨d0,d1,d2⟩:=zbc (zac hb _ _ _ _ P2.out);clear hb B2 M1 P2;go_wp21;clear d0 d1 d2;refine zzM (M2.out w3 B3.out) λw4 hb=>?_;have B4:=hid (B3.out.trans (hb.mono B3.out.size));clear hb B3 M2;go_wp21;refine zzM (AD.out w4 B4.out) λw5 hb=>?_;have B5:=hid (B4.out.trans (hb.mono B4.out.size));clear hb B4 AD;go_wp21;go_ret2;exact⟨rfl,B5.out⟩
theorem z1z (m:Mbr) (hwd:1<=m.wd/\m.wd<=1000) (hdp:1<=m.dp/\m.dp<=1000) (w:zA)
 (V1:Hid (∀W:zA,qL w W->qJ 50 #[.agg #[.string m.a0,.string m.a1,.string m.a2]] W (.int .i64 0)))
 (V2:Hid (∀W:zA,qL w W->qJ 50 #[.agg #[.string m.b0,.string m.b1,.string m.b2]] W (.int .i64 0))):
 qJ 27 #[m.v] w (.int .i64 0):=by
 obtain⟨v1,hv⟩:=zzX (w.alloc (.cells #[.int .i64 m.k,.int .i64 m.f,.int .i64 m.o,.string m.a0,.string m.a1,.string m.a2,.string m.b0,.string m.b1,.string m.b2,.int .i64 m.wd,.int .i64 m.dp] 27));obtain⟨b1,A1⟩:=zdn hv;have S0:=hid (MbS.mk A1:MbS m w.heap.size v1);obtain⟨k0,k1,k2,k3,k4,k5,k6,k7,k8,k9,k10⟩:=S0.out.cells;have B0:=hid b1;have HV:=hid hv.symm;have W1:=λW=>zbz m.wd 1 1000 W;have W2:=λW=>zbz m.dp 1 1000 W;rw[show inB m.wd 1 1000=true by unfold inB;simp;omega] at W1;rw[show inB m.dp 1 1000=true by unfold inB;simp;omega] at W2;have H1:=hid W1;have H2:=hid W2;rw[hv] at k0 k1 k2 k3 k4 k5 k6 k7 k8 k9 k10;clear hv b1 A1 W1 W2 hwd hdp;unfold Mbr.v;go_enter Tryz.func27,Tryz.ntmps27;go_wp21;rw[HV.out];clear k0 k1 k2 k3 k4 k5 k6 k7 k8 k9 k10;refine zzM (H1.out v1) λw1 hw=>?_;have hw':=hw.symm;subst hw';clear hw;obtain⟨k0,k1,k2,k3,k4,k5,k6,k7,k8,k9,k10⟩:=S0.out.cells;go_wp21;refine zzM (H2.out v1) λw1 hw=>?_;have hw':=hw.symm;subst hw';clear hw;go_wp21;clear k0 k1 k2 k3 k4 k5 k6 k7 k8 k9 k10 HV;refine zzM (V1.out v1 B0.out) λw2 hb=>?_;have B1:=hid (B0.out.trans (hb.mono B0.out.size));have S1:=hid (S0.out.below hb);clear hb B0 S0 V1;obtain⟨k0,k1,k2,k3,k4,k5,k6,k7,k8,k9,k10⟩:=S1.out.cells;go_wp21;clear k0 k1 k2 k3 k4 k5 k6 k7 k8 k9 k10;refine zzM (V2.out w2 B1.out) λw3 hb=>?_;have B2:=hid (B1.out.trans (hb.mono B1.out.size));clear hb B1 V2;go_wp21;go_ret;exact⟨rfl,B2.out⟩
def MemO (R:Bool) (p:Option Addr) (n c:Nat) (W:zA):Prop:=(R=false/\p=none/\n=0/\c=0)\/(R=true/\n=1/\∃g,p=some ⟨g,0,none⟩/\W.cell? ⟨g,0,none⟩=some (.int .i64 0))
theorem z8z:∀u∈[Value.int .i64 0],u.oneCell'=true:=by intro u hu;simp at hu;subst hu;rfl
theorem z2y (m:Mbr) (hk:1<=m.k/\m.k<=5) (p:Option Addr) (cap n:Nat) (sp ld mx mm cc:Int) (s t:ByteArray) (hmx:0<=mx/\mx<=65536) (hmm:mx*mx=mm) (b cap1:Nat) (w:zA) (HM:Hid (MbS m b w))
 (CK:Hid (∀W:zA,qL w W->qJ 25 #[.slice p n cap,.int .i64 1,.int .i64 1,.int .i64 sp,.int .i64 ld] W (.int .i64 0)))
 (CM:Hid (∀W:zA,qL w W->qJ 27 #[m.v] W (.int .i64 0)))
 (SQ:Hid (∀W:zA,qL w W->qJ 28 #[m.v] W (.tuple #[.string s,.int .i64 0])))
 (AL:Hid (∀W:zA,qL w W->qJ 29 #[.slice p n cap,.int .i64 m.wd,.int .i64 m.dp,.int .i64 sp,.int .i64 ld] W (.int .i64 mx)))
 (OF:Hid (∀W:zA,qL w W->qJ 13 #[.int .i64 mm,.int .i64 1] W (.tuple #[.string t,.int .i64 0])))
 (CP:Hid (∀W:zA,qL w W->qJ 30 #[.string s,.string t] W (.tuple #[.int .i64 cc,.int .i64 0]))):
 zC zF 10 #[.slice (some ⟨b,0,none⟩) 1 cap1,.slice p n cap,.int .i64 sp,.int .i64 ld] w λe w'=>∃p' n' c',e=.returned (.tuple #[.slice p' n' c',.int .i64 0])/\zB w.heap.size w w'/\MemO (mx==0||decide (0<cc)) p' n' c' w':=by
 obtain⟨i0,hi,hz0,hz1,hz2⟩:=info_parts zdv;have INF:=hid (⟨hi,hz0,hz1,hz2⟩:_/\_/\_/\_);have hm2:0<=mm/\mm<=65536*65536:=by
  rw[<-hmm];exact⟨Int.mul_nonneg hmx.1 hmx.1,Int.mul_le_mul hmx.2 hmx.2 hmx.1 (by omega)⟩
 have hw1:IntKind.i64.wrap (mx*mx)=mm:=by rw[hmm];exact IntWalk.i64_in _ (by omega)
 have hw2:wrap64 (mx*mx)=mm:=by rw[hmm];unfold wrap64;omega
 have W1:=λW=>zbz m.k 1 5 W;rw[show inB m.k 1 5=true by unfold inB;simp;omega] at W1;have H1:=hid W1;clear hmx hmm hm2 W1 hk hi hz0 hz1 hz2;go_enter Tryz.func10,Tryz.ntmps10;go_wp21;refine zzM (CK.out w (zM _ _)) λw1 hb=>?_;have B1:=hid hb;have S1:=hid (HM.out.below hb);clear hb HM CK;go_wp21;refine wp_loop_rounds 2 ?_;rw[rounds_succ];obtain⟨k0,k1,k2,k3,k4,k5,k6,k7,k8,k9,k10⟩:=S1.out.cells;obtain⟨v2,hv⟩:=zzX (w1.alloc (.cells #[.int .i64 m.k,.int .i64 m.f,.int .i64 m.o,.string m.a0,.string m.a1,.string m.a2,.string m.b0,.string m.b1,.string m.b2,.int .i64 m.wd,.int .i64 m.dp] 27));obtain⟨b2,A2⟩:=zdn hv;have S2:=hid (MbS.mk A2:MbS m w1.heap.size v2);have B2:=hid (B1.out.trans (b2.mono B1.out.size));obtain⟨j0,j1,j2,j3,j4,j5,j6,j7,j8,j9,j10⟩:=S2.out.cells;have HV:=hid hv.symm;rw[hv] at j0 j1 j2 j3 j4 j5 j6 j7 j8 j9 j10;clear hv b2 A2 B1 S1;go_wp21;rw[HV.out];clear k0 k1 k2 k3 k4 k5 k6 k7 k8 k9 k10;refine zzM (H1.out v2) λw2 hw=>?_;have hw':=hw.symm;subst hw';clear hw;rw[HV.out] at j0 j1 j2 j3 j4 j5 j6 j7 j8 j9 j10;clear HV;go_wp21;clear j0 j1 j2 j3 j4 j5 j6 j7 j8 j9 j10;refine zzM (CM.out v2 B2.out) λw3 hb=>?_;have B3:=hid (B2.out.trans (hb.mono B2.out.size));have S3:=hid (S2.out.below hb);clear hb B2 S2 CM;obtain⟨k0,k1,k2,k3,k4,k5,k6,k7,k8,k9,k10⟩:=S3.out.cells;go_wp21;clear k0 k1 k2 k3 k4 k5 k6 k7 k8 k9 k10;refine zzM (SQ.out w3 B3.out) λw4 hb=>?_;have B4:=hid (B3.out.trans (hb.mono B3.out.size));have S4:=hid (S3.out.below hb);clear hb B3 S3 SQ
 obtain⟨k0,k1,k2,k3,k4,k5,k6,k7,k8,k9,k10⟩:=S4.out.cells;go_wp21;clear k0 k1 k2 k3 k4 k5 k6 k7 k8 k9 k10;refine zzM (AL.out w4 B4.out) λw5 hb=>?_;have B5:=hid (B4.out.trans (hb.mono B4.out.size));clear hb B4 S4 AL;go_wp21;refine zzM (OF.out w5 B5.out) λw6 hb=>?_;have B6:=hid (B5.out.trans (hb.mono B5.out.size));clear hb B5 OF;go_wp21;refine zzM (CP.out w6 B6.out) λw7 hb=>?_;have B7:=hid (B6.out.trans (hb.mono B6.out.size));clear hb B6 CP hw1 hw2;cases h0:(mx==0)<;>cases h1:decide (0<cc)
 all_goals first
  |(go_wp21
    rw[rounds_succ];go_wp21;go_ret2;exact⟨_,_,_,rfl,B7.out,.inl ⟨by rw[h0,h1];rfl,rfl,rfl,rfl⟩⟩)
  |(obtain⟨hi,hz0,hz1,hz2⟩:=INF.out
    go_wp2_with (at_builtin;refine wpList_append_own_at _ rfl _ _ 39 rfl w7.heap.size 3 i0 (.int .i64 0) 1 8 Tryz.underlying39 hi hz0 hz1 hz2 rfl (by decide) _ _ _ rfl (World.ownsRow_nil _ _ _ _) ⟨w7.heap.size,0,none⟩ 1 1 [.int .i64 0] rfl rfl (zep _ _ _) z8z (by unfold maxLen;omega) (by omega) (by simp) (λv' w' hown' hgrow _ hob=>?_));obtain⟨g',c',rfl, -,hx⟩:=zye hown' (by omega);have B8:=hid (show qL w w' from((B7.out.alloc B7.out.size _).grown hgrow (by have:=B7.out.size;simp;omega) (λq e=>by cases e)));have X8:=hid (hx 0 (.int .i64 0) rfl);clear hx hgrow hown' hob hi hz0 hz1 hz2;go_wp21;rw[rounds_succ];go_wp21;go_ret2;exact⟨_,_,_,rfl,B8.out,.inr ⟨by rw[h0,h1];rfl,rfl,g',rfl,X8.out⟩⟩)
section
variable {n X0 Y0:Nat} {z:Array Value} {c:Nat->Array Value} {t:TypeId} {w W W':zA} {q:Nat->Nat} {f:Nat->Bool}
end
section
variable {w W W':zA} {x0 x1 x2 y0 y1 y2 o0 o1 o2:List UInt8} {Y1 Y2:Nat}
end
end
section
open Go.RowKit Go.Shelf Lib Str Limb
theorem yaq:∀args w,(callFunc 52 args).run zF w=.ok (.enter 52 args) w:=enters_of Tryz.func52 (by kernel_rfl) rfl
def sz3 (a b c:Rat) (k:Nat):Prop:=sz a k/\sz b k/\sz c k
theorem sz3.mono {a b c:Rat} {i j:Nat} (h:sz3 a b c i) (hij:i<=j):sz3 a b c j:=⟨h.1.mono hij,h.2.1.mono hij,h.2.2.mono hij⟩
theorem zcl (a b c:Rat) (h:sz3 a b c 140) (w:zA) (hw:Wd w):qJ 50 #[.agg #[St (numS a),St (numS b),St (numS c)]] w (.int .i64 0):=
 z3t _ _ _ (hid λV hV=>zfj a (zd0 (by omega) (by omega) h.1) V hV) (hid λV hV=>zfj b (zd0 (by omega) (by omega) h.2.1) V hV) (hid λV hV=>zfj c (zd0 (by omega) (by omega) h.2.2) V hV) w (hid hw)
theorem z4t (a b c d e f:Rat) (h:sz3 a b c 60) (h':sz3 d e f 60) (w:zA) (hw:Wd w):qJ 75 #[.agg #[St (numS a),St (numS b),St (numS c)],.agg #[St (numS d),St (numS e),St (numS f)]] w (.int .i64 0):=
 z7t _ _ _ _ _ _ w (hid λW hW=>zcl a b c (h.mono (by omega)) W (hw.below hW)) (hid λW hW=>zcl d e f (h'.mono (by omega)) W (hw.below hW))
theorem zr6 (a b c d e f:Rat) (h:sz3 a b c 140) (h':sz3 d e f 140) (w:zA) (hw:Wd w):zC zF 74 #[.agg #[St (numS a),St (numS b),St (numS c)],.agg #[St (numS d),St (numS e),St (numS f)],.func (.func 52) #[] #[]] w λe' w'=>e'=.returned (.tuple #[.agg #[St (numS (a*d)),St (numS (b*e)),St (numS (c*f))],.int .i64 0])/\zB w.heap.size w w':=
 zmw _ _ _ _ _ _ _ _ _ _ yaq w (hid λW hW=>zjf a d 140 140 (by omega) (by omega) (by omega) h.1 h'.1 W (hw.below hW)) (hid λW hW=>zjf b e 140 140 (by omega) (by omega) (by omega) h.2.1 h'.2.1 W (hw.below hW)) (hid λW hW=>zjf c f 140 140 (by omega) (by omega) (by omega) h.2.2 h'.2.2 W (hw.below hW))
theorem z7v (a b c x:Rat) (h:sz3 a b c 140) (hx:sz x 140) (w:zA) (hw:Wd w):zC zF 40 #[.agg #[St (numS a),St (numS b),St (numS c)],St (numS x)] w λe' w'=>e'=.returned (.tuple #[.agg #[St (numS (a*x)),St (numS (b*x)),St (numS (c*x))],.int .i64 0])/\zB w.heap.size w w':=
 z1k _ _ _ _ _ _ _ w (hid λW hW=>zcl a b c h W (hw.below hW)) (hid λW hW=>zfj x (zd0 (by omega) (by omega) hx) W (hw.below hW)) (hid λW hW=>zr6 a b c x x x h ⟨hx,hx,hx⟩ W (hw.below hW))
theorem yfh {f:Nat}:∀{i l:Nat} {Y:List (Nat×Nat)},i<=25->0<l->25-i+l<=f->SqY i l Y->
 sqX l Y Y.length∣l/\∀j,i<=j->j<25->¬prN j*prN j∣sqX l Y Y.length:=by
 induction f with
 |zero=>intro i l Y hi hl hf;omega
 |succ f ih=>
  intro i l Y hi hl hf h;by_cases h25:i=25
  ·subst h25
   obtain rfl:=h.done;exact⟨Nat.dvd_refl _,λj h1 h2=>by omega⟩
  ·have hlt:i<25:=by omega
   obtain⟨h2, -⟩:=zw4 i hlt;by_cases hd:prN i*prN i∣l
   ·obtain⟨Y',rfl,h'⟩:=h.take hlt hl hd
    have hpp:4<=prN i*prN i:=Nat.mul_le_mul h2 h2;have hl1:0<l/(prN i*prN i):=Nat.div_pos (Nat.le_of_dvd hl hd) (by omega);have hl2:l/(prN i*prN i)<l:=Nat.div_lt_self hl (by omega);obtain⟨a1,a2⟩:=ih hi hl1 (by omega) h';rw[List.length_cons,zy3];exact⟨Nat.dvd_trans a1 (Nat.div_dvd_of_dvd hd),a2⟩
   ·obtain⟨a1,a2⟩:=ih (i:=i+1) (by omega) hl (by omega) (h.skip hlt hd)
    refine⟨a1,λj h1 h3=>?_⟩;by_cases e:j=i
    ·subst e
     exact λk=>hd (Nat.dvd_trans k a1)
    ·exact a2 j (by omega) h3
theorem zn4 {c l:Nat}:∀(d i:Nat),i+d=25->(∀j,i<=j->j<25->¬prN j*prN j∣l)->zro (prL.drop i) (c,l)=(c,l)
 |0,i,h,_=>by
  obtain rfl:i=25:=by omega
  rfl
 |d+1,i,h,k=>by
  rw[z79 i (by omega)];show zro (prL.drop (i+1)) (zkk (prN i) (c,l))=_;rw[z78 (k i (zN _) (by omega))];exact zn4 d (i+1) (by omega) λj h1 h2=>k j (by omega) h2
theorem zf5 {N:Nat} (hN:0<N):(zn7 N).1*(zn7 N).1*(zn7 N).2=N/\0<(zn7 N).1/\0<(zn7 N).2/\zn7 (zn7 N).2=(1,(zn7 N).2):=by
 obtain⟨Y,hY⟩:=z65 0 N;obtain⟨h1,h2⟩:=SqY.law (f:=25-0+N) (by omega) hN (zN _) hY;obtain⟨-,h4⟩:=yfh (f:=25-0+N) (by omega) hN (zN _) hY;have h3:=h2 1;rw[Nat.one_mul,List.drop_zero] at h3;obtain⟨b1,b2,b3,b4,b5⟩:=zxv hN h1 (zN _);have eN:=h1 _ (zN _);have hn:zn7 N=if isq (sqX N Y Y.length)*isq (sqX N Y Y.length)=sqX N Y Y.length then(sqC Y Y.length*isq (sqX N Y Y.length),1) else(sqC Y Y.length,sqX N Y Y.length):=by
  unfold zn7;rw[h3]
 rw[hn];generalize sqX N Y Y.length=X at*
 generalize sqC Y Y.length=C at*
 by_cases g:isq X*isq X=X
 ·rw[if_pos g]
  dsimp only;have hi:0<isq X:=Nat.pos_of_ne_zero λe=>by rw[e] at g;omega
  refine⟨?_,Nat.mul_pos b3 hi,by omega,by decide+kernel⟩;rw[<-eN]
  conv=>rhs;rw[<-g]
  ac_rfl
 ·rw[if_neg g]
  dsimp only;refine⟨eN,b3,b4,?_⟩;have h5:=zn4 (c:=1) (l:=X) 25 0 rfl λj _ hj=>h4 j (zR _) hj;rw[List.drop_zero] at h5;unfold zn7;rw[h5];dsimp only;rw[if_neg g]
end
section
open Go.RowKit Go.Shelf Lib Str Limb Geo
attribute [local go_sem] Oper.semAt_some
theorem zr8 (g:FuncId) (eg:∀args w,(callFunc g args).run zF w=.ok (.enter g args) w) (p:Option Addr) (cap n:Nat) (l:List (List UInt8)) (hn:n=l.length) (hl:n<=5000) (G:Nat->Prop)
 (F:Hid (∀i,i<n->∀W:zA,Wd W->zC zF g #[St (l[i]?.getD [])] W (BoolP W (G i))))
 (w:zA) (HW:Hid (Wd w)) (HP:Hid (RowSt p l w)):
 zC zF 18 #[.slice p n cap,.func (.func g) #[] #[]] w (IdxP w n G):=by
 have HN:=hid hn;have EG:=hid eg;clear hn eg;go_enter Tryz.func18,Tryz.ntmps18;go_wp2;go_loopw [8] (λi wr=>∃(k:Nat),k<=n/\i=.int .i64 (k:Int)/\Hid (∀i,i<k->G i)/\Hid (qL w wr))
  (λi _=>n-(zL i).toNat)
 case atStart=>exact⟨0,zR _,rfl,λi h=>by omega,zM _ _⟩
 case round=>
  obtain⟨k,hk,rfl,hG,hB⟩:=hrel;by_cases hlt:k<n
  ·obtain⟨b,off,rfl,c0⟩:=(HP.out.keep (zac hB.out)) k (by rw[<-HN.out];exact hlt)
   have HF:=hid (F.out k hlt wr (HW.out.below hB.out));generalize l[k]?.getD []=x at*
   have heg:=EG.out;go_wp21;clear heg;refine HF.out.mono ?_;rintro e w2 ⟨t,rfl,ht,hb2⟩;have hB2:=hid (hB.out.trans (hb2.mono hB.out.size));have HT:=hid ht;clear ht hb2 HF;cases t
   ·go_wp21
    go_roundw
    case rel=>exact⟨k+1,by omega,by go_num,λi hi=>(by
     by_cases e:i=k
     ·subst e;exact HT.out.1 (by trivial)
     ·exact hG.out i (by omega)),hB2⟩
    case measure=>simp[zL];omega
   ·go_wp21
    go_ret;exact IdxP.hit hlt (λh=>by have:=HT.out.2 h;simp at this) hB2.out
  ·have hkn:k=n:=by omega
   have HK:=hid hkn;clear hkn;go_wp21;go_ret;exact IdxP.none (by rw[<-HK.out];exact hG.out) hB.out
theorem zpz (g:FuncId) (p:Option Addr) (cap n:Nat) (G:Nat->Prop) (w:zA)
 (F:Hid (zC zF 18 #[.slice p n cap,.func (.func g) #[] #[]] w (IdxP w n G))):
 zC zF 5 #[.slice p n cap,.func (.func g) #[] #[]] w (BoolP w (∀i,i<n->G i)):=by
 go_enter Tryz.func5,Tryz.ntmps5;go_wp21;refine F.out.mono ?_;rintro e w1 ⟨k,rfl,hk,hB⟩;rcases hk with⟨rfl,h⟩|⟨h0,i,hi,h⟩
 ·have HN:=hid h;clear h
  go_wp21;go_ret;exact BoolP.yes HN.out hB
 ·have HN:=hid (λh'=>h (h' i hi):¬ ∀i,i<n->G i);clear h
  go_wp21;go_ret;exact BoolP.no HN.out hB
theorem z4a (x u v:List UInt8) (t:ByteArray) (ht:t=⟨(trimPrefix u [45]).toArray⟩) (h1:(t.size:Int)<=36) (h2:(v.length:Int)<=36) (w:zA) (HW:Hid (Wd w))
 (PA:Hid (qK 37 #[St x] (.tuple #[St u,St v,.int .i64 0]))):
 qJ 204 #[St x] w (.bool false):=by
 have ht2:∀W,zC zF 38 #[St u,.string ⟨#[45]⟩] W λe w'=>e=.returned (.string t)/\w'=W:=λW=>by
  rw[ht];exact Tryz.strings_TrimPrefix ⟨u.toArray⟩ ⟨#[45]⟩ W
 obtain⟨d,hd⟩:=zzX (⟨v.toArray⟩:ByteArray);have hds:d.size=v.length:=by rw[hd];show v.toArray.size=_;simp
 rw[<-hds] at h2;have HT:=hid ht2;have h3:decide (36<max (t.size:Int) (d.size:Int))=false:=decide_eq_false (by omega);have PA2:Hid (qK 37 #[St x] (.tuple #[St u,.string d,.int .i64 0])):=hid (by rw[hd];exact PA.out);clear ht ht2 hd hds PA h1 h2;go_enter Tryz.func204,Tryz.ntmps204;go_wp21;refine zzM (PA2.out _ HW.out) λw1 hb1=>?_;have B1:=hid hb1;clear hb1;go_wp21;refine zzM (HT.out w1) λw2 hw2=>?_;have B2:Hid (qL w w2):=hid (by rw[hw2];exact B1.out);clear hw2;go_wp21;go_ret;exact⟨rfl,B2.out⟩
theorem z54 (x y z:List UInt8) (w:zA)
 (C:Hid (∀(W:zA) (b:Nat),qL w W->W.heap[b]? =some (.cells #[St x,St y,St z] 23 (0,0))->qJ 5 #[.slice (some ⟨b,0,none⟩) 3 3,.func (.func 204) #[] #[]] W (.bool false))):
 qJ 135 #[.agg #[St x,St y,St z]] w (.bool false):=by
 obtain⟨v1,hv⟩:=zzX ((w.alloc (.cells #[St x,St y,St z] 25)).alloc (.cells #[St x,St y,St z] 23));have n0:=zG w (.cells #[St x,St y,St z] 25);obtain⟨k0,k1,k2⟩:=zbc n0;have b1:qL w v1:=by rw[hv];exact((zM _ w).alloc (zN _) _).alloc (by simp) _
 have A2:v1.heap[w.heap.size+1]? =some (.cells #[St x,St y,St z] 23 (0,0)):=by
  rw[hv];have:=zG (w.alloc (.cells #[St x,St y,St z] 25)) (.cells #[St x,St y,St z] 23);rw[zH] at this;exact this
 have HC:=hid (C.out v1 _ b1 A2);have HV:=hid hv.symm;have B1:=hid b1;clear hv n0 b1 A2 C;go_enter Tryz.func135,Tryz.ntmps135;go_wp21;have h9:=HV.out;rw[show(w.alloc (.cells #[.string ⟨x.toArray⟩,.string ⟨y.toArray⟩,.string ⟨z.toArray⟩] 25)).alloc (.cells #[.string ⟨x.toArray⟩,.string ⟨y.toArray⟩,.string ⟨z.toArray⟩] 23)=v1 from h9];clear h9 HV;refine zzM HC.out λw2 hb=>?_;have B2:=hid (B1.out.trans (hb.mono B1.out.size));clear hb;go_wp21;go_ret;exact⟨rfl,B2.out⟩
theorem z0q (x y z:Rat) (hx:sz x 30) (hy:sz y 30) (hz:sz z 30) (w:zA) (hw:Wd w):
 qJ 135 #[.agg #[St (numS x),St (numS y),St (numS z)]] w (.bool false):=by
 have one:∀q:Rat,sz q 30->qK 204 #[St (numS q)] (.bool false):=λq hq W hW=>by
  have h1:(trimPrefix (itoa q.num) [45]).length<=30:=by
   have:=(zok (k:=30) (by omega) hq).1;unfold digs at this;rw[zbi];exact this
  have h2:(zD q.den).length<=30:=(zaf q.den 30 (by omega)).2 hq.2;exact z4a (numS q) (itoa q.num) (zD q.den) _ rfl (by show(((trimPrefix (itoa q.num) [45]).toArray.size:Nat):Int)<=36;simp;omega) (by omega) W (hid hW) (hid λZ hZ=>zk5 q (zd0 (by omega) (by omega) hq) Z hZ)
 refine z54 (numS x) (numS y) (numS z) w (hid λW b hW hb=>?_);refine(zpz _ _ 3 3 (λ_=>True) W (hid (zr8 204 (enters_of Tryz.func204 (by kernel_rfl) rfl) (some ⟨b,0,none⟩) 3 3 [numS x,numS y,numS z] rfl (by omega) _ (hid λi hi V hV=>?_) W (hid (hw.below hW)) (hid λi hi=>?_)))).mono λe w' ⟨r,h1,h2,h3⟩=>⟨by rw[h1,h2.2 (λ_ _=>trivial)],h3⟩
 ·match i,hi with
  |0,_=>exact(one x hx V hV).mono λe w' ⟨h1,h2⟩=>by rw[h1];exact BoolP.yes trivial h2
  |1,_=>exact(one y hy V hV).mono λe w' ⟨h1,h2⟩=>by rw[h1];exact BoolP.yes trivial h2
  |2,_=>exact(one z hz V hV).mono λe w' ⟨h1,h2⟩=>by rw[h1];exact BoolP.yes trivial h2
 ·refine⟨b,0,rfl,?_⟩
  rw[zJ hb]
  match i,hi with
  |0,_|1,_|2,_=>rfl
theorem z81:∀args w,(callFunc 101 args).run zF w=.ok (.enter 101 args) w:=enters_of Tryz.func101 (by kernel_rfl) rfl
theorem z4u (a b c d e f:Rat) (h:sz3 a b c 60) (h':sz3 d e f 60) (w:zA) (hw:Wd w):zC zF 51 #[.agg #[St (numS a),St (numS b),St (numS c)],.agg #[St (numS d),St (numS e),St (numS f)]] w λe' w'=>e'=.returned (.tuple #[.agg #[St (numS (a-d)),St (numS (b-e)),St (numS (c-f))],.int .i64 0])/\zB w.heap.size w w':=
 z5y _ _ _ _ _ _ _ _ _ w (hid λV hV=>z4t a b c d e f h h' V (hw.below hV))
  (hid λT hT=>zmw _ _ _ _ _ _ _ _ _ _ z81 T (hid λS hS=>ztz a d 60 60 (by omega) (by omega) (by omega) h.1 h'.1 S ((hw.below hT).below hS)) (hid λS hS=>ztz b e 60 60 (by omega) (by omega) (by omega) h.2.1 h'.2.1 S ((hw.below hT).below hS)) (hid λS hS=>ztz c f 60 60 (by omega) (by omega) (by omega) h.2.2 h'.2.2 S ((hw.below hT).below hS)))
theorem z22 (x v:ByteArray)
 (CK:Hid (∀W:zA,Wd W->zC zF 159 #[.slice (some ⟨W.heap.size,0,none⟩) 1 1,.slice (some ⟨W.heap.size+1,0,none⟩) 1 1] ((W.alloc (.cells #[.string x] 23)).alloc (.cells #[.string x] 23)) λe w'=>e=.returned (.int .i64 0)/\zB W.heap.size W w'))
 (O:Hid (qK 160 #[.string x] (.agg #[.string ⟨#[48]⟩,.string v])))
 (w:zA) (HW:Hid (Wd w)):
 qJ 96 #[.string x] w (.tuple #[.string ⟨#[48]⟩,.string ⟨#[49]⟩,.int .i64 0]):=by
 have hck:=CK.out w HW.out;have HCK:=hid hck;clear hck CK;go_enter Tryz.func96,Tryz.ntmps96;go_wp21;refine zzM HCK.out λw1 hb1=>?_;have HB1:=hid hb1;clear hb1 HCK;go_wp21;refine zzM (O.out w1 (HW.out.below HB1.out)) λw2 hb2=>?_;have HB2:=qT HB1 hb2;clear hb2 HB1;obtain⟨w3,hw3⟩:=zzX (w2.alloc (.cells #[.string ⟨#[48]⟩,.string v] 195));have ha:qL w2 w3:=by rw[hw3];exact(zM _ w2).alloc (zN _) _
 have A3:w3.heap[w2.heap.size]? =some (.cells #[.string ⟨#[48]⟩,.string v] 195 (0,0)):=by rw[hw3];exact zG w2 _
 have HB3:=qT HB2 ha;have c0:w3.cell? ⟨w2.heap.size,0,none⟩=some (.string ⟨#[48]⟩):=by rw[zJ A3];rfl
 rw[hw3] at c0;have HW3:=hid hw3;clear hw3 ha A3;go_wp21;rw[<-HW3.out];go_ret3;exact⟨rfl,HB3.out⟩
theorem z4c (w:zA) (hw:Wd w):qJ 96 #[St (numS 0)] w (.tuple #[.string ⟨#[48]⟩,.string ⟨#[49]⟩,.int .i64 0]):=by
 have s0:sz 0 90:=⟨by decide,by decide⟩;have okq:okQ 0:=zd0 (by omega) (by omega) s0;have dq:=zok (k:=90) (by omega) s0;refine z22 ⟨(numS 0).toArray⟩ ⟨(zD (Rat.den 0)).toArray⟩ (hid λW hW=>?_) (hid λW hW=>?_) w (hid hw)
 ·obtain⟨t1,t2⟩:=z0b W 23 _ 0 rfl
  have hal:qL W ((W.alloc (.cells #[St (numS 0)] 23)).alloc (.cells #[St (numS 0)] 23)):=((zM _ W).alloc (zN _) _).alloc (by simp) _
  refine zzM (zji _ _ 1 1 1 1 (λ_=>0) (λ_=>0) (by omega) (by omega) (hid λ_ _ W hW=>zfj 0 okq W hW) (hid λ_ _ W hW=>zio 0 okq W hW) (hid λ_ _=>⟨dq.1,dq.2⟩)
   (hid λ_ _ W=>zma 0 (by decide) W) _ (hid (hW.below hal)) (hid t1) (hid t2)) λw' hb=>?_
  exact⟨rfl,hal.trans (hb.mono hal.size)⟩
 ·have:=zio 0 okq W hW
  rw[show itoa (Rat.num 0)=[48] by decide+kernel] at this;exact this
theorem z55 (X Y Z Q F R:ByteArray) (hF:(F.toList==[48])=false) (w:zA)
 (CK:Hid (∀W:zA,qL w W->qJ 50 #[.agg #[.string X,.string Y,.string Z]] W (.int .i64 0)))
 (DO:Hid (∀W:zA,qL w W->qJ 95 #[.agg #[.string X,.string Y,.string Z],.agg #[.string X,.string Y,.string Z]] W (.tuple #[.string Q,.int .i64 0])))
 (NO:Hid (∀W:zA,qL w W->qJ 96 #[.string Q] W (.tuple #[.string F,.string R,.int .i64 0])))
 (SC:Hid (∀(W:zA) (b:Nat),qL w W->W.cell? ⟨b,0,none⟩=some (.string F)->W.cell? ⟨b,1,none⟩=some (.string R)->qJ 97 #[.slice (some ⟨b,0,none⟩) 1 1] W (.int .i64 0))):
 zC zF 47 #[.agg #[.string X,.string Y,.string Z]] w λe w'=>∃b c,1<=c/\e=.returned (.tuple #[.slice (some ⟨b,0,none⟩) 1 c,.int .i64 0])/\zB w.heap.size w w'/\w'.cell? ⟨b,0,none⟩=some (.string F)/\w'.cell? ⟨b,1,none⟩=some (.string R):=by
 obtain⟨x0,hx0⟩:=zzX (w.alloc (.cells #[.string X,.string Y,.string Z] 25));have q0:qL w x0:=by rw[hx0];exact(zM _ w).alloc (zN _) _
 have f0:x0.heap[w.heap.size]? =some (.cells #[.string X,.string Y,.string Z] 25 (0,0)):=by rw[hx0];exact zG w _
 have B0:=hid q0;have F0:=hid f0;have HV:=hid hx0.symm;obtain⟨k0,k1,k2⟩:=zbc f0;rw[hx0] at k0 k1 k2;clear hx0 q0 f0;go_enter Tryz.func47,Tryz.ntmps47;go_wp21;rw[HV.out];clear k0 k1 k2 HV;refine zzM (CK.out x0 B0.out) λw1 hb=>?_;have B1:=hid (B0.out.trans (hb.mono B0.out.size));obtain⟨k0,k1,k2⟩:=zbc (zac hb _ _ _ _ F0.out);clear hb B0 F0 CK;go_wp21;clear k0 k1 k2;refine zzM (DO.out w1 B1.out) λw2 hb=>?_;have B2:=hid (B1.out.trans (hb.mono B1.out.size));clear hb B1 DO;go_wp21;refine zzM (NO.out w2 B2.out) λw3 hb=>?_;have B3:=hid (B2.out.trans (hb.mono B2.out.size));clear hb B2 NO;obtain⟨v3,hv⟩:=zzX (w3.alloc (.cells #[.string F,.string R] 49));have a3:qL w3 v3:=by rw[hv];exact(zM _ w3).alloc (zN _) _
 have A3:v3.heap[w3.heap.size]? =some (.cells #[.string F,.string R] 49 (0,0)):=by rw[hv];exact zG w3 _
 have t0:v3.cell? ⟨w3.heap.size,0,none⟩=some (.string F):=by rw[zJ A3];rfl
 have t1:v3.cell? ⟨w3.heap.size,1,none⟩=some (.string R):=by rw[zJ A3];rfl
 have HV:=hid hv.symm;have E3:=B3.out.trans (a3.mono B3.out.size);have B4:=hid E3;have HS:=hid (SC.out v3 w3.heap.size E3 t0 t1);have T0:=hid t0;have T1:=hid t1;clear hv a3 A3 t0 t1 E3 B3 SC;go_wp21;rw[HV.out];clear HV;refine zzM HS.out λw4 hb=>?_;have B5:=hid (B4.out.trans (hb.mono B4.out.size));have U0:=hid (zai hb T0.out);have U1:=hid (zai hb T1.out);clear hb B4 HS T0 T1;go_wp21;go_ret2;exact⟨_,_,zN _,rfl,B5.out,U0.out,U1.out⟩
theorem z56 (X Y Z Q:ByteArray) (w:zA)
 (CK:Hid (∀W:zA,qL w W->qJ 50 #[.agg #[.string X,.string Y,.string Z]] W (.int .i64 0)))
 (DO:Hid (∀W:zA,qL w W->qJ 95 #[.agg #[.string X,.string Y,.string Z],.agg #[.string X,.string Y,.string Z]] W (.tuple #[.string Q,.int .i64 0])))
 (NO:Hid (∀W:zA,qL w W->qJ 96 #[.string Q] W (.tuple #[.string ⟨#[48]⟩,.string ⟨#[49]⟩,.int .i64 0]))):
 qJ 47 #[.agg #[.string X,.string Y,.string Z]] w (.tuple #[.slice none 0 0,.int .i64 0]):=by
 obtain⟨x0,hx0⟩:=zzX (w.alloc (.cells #[.string X,.string Y,.string Z] 25));have q0:qL w x0:=by rw[hx0];exact(zM _ w).alloc (zN _) _
 have f0:x0.heap[w.heap.size]? =some (.cells #[.string X,.string Y,.string Z] 25 (0,0)):=by rw[hx0];exact zG w _
 have B0:=hid q0;have F0:=hid f0;have HV:=hid hx0.symm;obtain⟨k0,k1,k2⟩:=zbc f0;rw[hx0] at k0 k1 k2;clear hx0 q0 f0;go_enter Tryz.func47,Tryz.ntmps47;go_wp21;rw[HV.out];clear k0 k1 k2 HV;refine zzM (CK.out x0 B0.out) λw1 hb=>?_;have B1:=hid (B0.out.trans (hb.mono B0.out.size));obtain⟨k0,k1,k2⟩:=zbc (zac hb _ _ _ _ F0.out);clear hb B0 F0 CK;go_wp21;clear k0 k1 k2;refine zzM (DO.out w1 B1.out) λw2 hb=>?_;have B2:=hid (B1.out.trans (hb.mono B1.out.size));clear hb B1 DO;go_wp21;refine zzM (NO.out w2 B2.out) λw3 hb=>?_;have B3:=hid (B2.out.trans (hb.mono B2.out.size));clear hb B2 NO;go_wp21;go_ret2;exact⟨rfl,B3.out⟩
end
section
open Lib Str
theorem yar {q:Rat} (h:0<=q):((q.num.natAbs:Nat):Rat)=q*(q.den:Rat):=by
 have h1:0<=q.num:=Rat.num_nonneg.2 h;have h2:((q.num.natAbs:Nat):Rat)=((q.num:Int):Rat):=by
  have:((q.num.natAbs:Nat):Int)=q.num:=Int.natAbs_of_nonneg h1;exact_mod_cast congrArg (Int.cast (R:=Rat)) this
 have h3:(q.den:Rat)≠0:=by have:=q.den_pos;exact_mod_cast (show q.den≠0 by omega)
 have:=Rat.num_divInt_den q;rw[Rat.divInt_eq_div] at this;rw[h2];rw[show(((q.den:Nat):Int):Rat)=(q.den:Rat) from rfl] at this;generalize ((q.num:Int):Rat)=a at*
 generalize (q.den:Rat)=d at*
 subst this;rw[Rat.div_mul_cancel h3]
end
section
open Go.RowKit Go.Shelf Lib Str Limb Geo
abbrev nB (q:Rat):ByteArray:=⟨(numS q).toArray⟩
structure Mrat where
 k:Int
 f:Int
 o:Int
 a0:Rat
 a1:Rat
 a2:Rat
 b0:Rat
 b1:Rat
 b2:Rat
 wd:Int
 dp:Int
def Mrat.m (x:Mrat):Mbr:=⟨x.k,x.f,x.o,nB x.a0,nB x.a1,nB x.a2,nB x.b0,nB x.b1,nB x.b2,x.wd,x.dp⟩
structure MOk (x:Mrat):Prop where
 k:1<=x.k/\x.k<=12
 f:0<=x.f
 o: -1<=x.o
 wd:1<=x.wd/\x.wd<=1000
 dp:1<=x.dp/\x.dp<=1000
 ne:¬(x.a0=x.b0/\x.a1=x.b1/\x.a2=x.b2)
 s1:sz3 x.a0 x.a1 x.a2 30
 s2:sz3 x.b0 x.b1 x.b2 30
theorem zsd {p q:Rat} (h:((nB p).toList==(nB q).toList)=true):p=q:=by
 have:=beq_iff_eq.1 h;simp only[nB,ByteArray.toList_eq] at this;exact zh0 this
theorem Mrat.eqB {x:Mrat} (h:MOk x):x.m.eqB=false:=by
 refine Bool.eq_false_iff.2 λe=>?_;unfold Mbr.eqB Mrat.m at e;simp only[Bool.and_eq_true] at e;exact h.ne ⟨zsd e.1,zsd e.2.1,zsd e.2.2⟩
theorem z4v (x:Mrat) (h:MOk x) (w:zA) (hw:Wd w):qJ 70 #[x.m.v] w (.int .i64 0):=
 z30 x.m h.k h.f h.o h.wd h.dp (Mrat.eqB h) w (hid λW hW=>zcl x.a0 x.a1 x.a2 (h.s1.mono (by omega)) W (hw.below hW)) (hid λW hW=>zcl x.b0 x.b1 x.b2 (h.s2.mono (by omega)) W (hw.below hW))
  (hid λW hW=>z0q x.a0 x.a1 x.a2 h.s1.1 h.s1.2.1 h.s1.2.2 W (hw.below hW)) (hid λW hW=>z0q x.b0 x.b1 x.b2 h.s2.1 h.s2.2.1 h.s2.2.2 W (hw.below hW))
theorem zrp (x:Mrat) (h:MOk x) (w:zA) (hw:Wd w):qJ 35 #[x.m.v] w (.tuple #[.agg #[St (numS (x.b0-x.a0)),St (numS (x.b1-x.a1)),St (numS (x.b2-x.a2))],.int .i64 0]):=
 z1n x.m _ _ _ w (hid λW hW=>z4v x h W (hw.below hW)) (hid λW hW=>z2k x.m _ _ _ W (hid λV hV=>z35 x.m _ _ _ V (hid λU hU=>z4v x h U (((hw.below hW).below hV).below hU))
  (hid λU hU=>z4u x.b0 x.b1 x.b2 x.a0 x.a1 x.a2 (h.s2.mono (by omega)) (h.s1.mono (by omega)) U (((hw.below hW).below hV).below hU))))
def rtC (q:Rat):Rat:=((zn7 (q.num.natAbs*q.den)).1:Rat)/(q.den:Rat)
def rtR (q:Rat):Nat:=(zn7 (q.num.natAbs*q.den)).2
theorem zef {q:Rat} (h0:0<q):0<rtC q/\0<rtR q/\zn7 (rtR q)=(1,rtR q)/\rtC q*rtC q*((rtR q:Nat):Rat)=q:=by
 obtain⟨-,hn⟩:=z9b h0;have hd:0<q.den:=q.den_pos;obtain⟨e,p1,p2,e2⟩:=zf5 (Nat.mul_pos hn hd);have hd0:((q.den:Nat):Rat)≠0:=by
  have:(0:Rat)<(q.den:Rat):=by exact_mod_cast hd
  grind
 have hq:=yar (Rat.le_of_lt h0);unfold rtC rtR;generalize zn7 (q.num.natAbs*q.den)=x at*
 refine⟨?_,p2,e2,?_⟩
 ·rw[Rat.div_def]
  exact Rat.mul_pos (by exact_mod_cast p1) (Rat.inv_pos.2 (by exact_mod_cast hd))
 have e':((x.1:Nat):Rat)*((x.1:Nat):Rat)*((x.2:Nat):Rat)=((q.num.natAbs:Nat):Rat)*((q.den:Nat):Rat):=by exact_mod_cast e
 have:((x.1:Nat):Rat)/((q.den:Nat):Rat)*(((x.1:Nat):Rat)/((q.den:Nat):Rat))*((x.2:Nat):Rat)=((x.1:Nat):Rat)*((x.1:Nat):Rat)*((x.2:Nat):Rat)/(((q.den:Nat):Rat)*((q.den:Nat):Rat)):=by grind
 rw[this,e',hq];grind
def lenL (q:Rat):List (Rat×Nat):=if q=0 then[] else[(rtC q,rtR q)]
def LenK (q:Rat):Prop:=q=0\/(sz (rtC q) 60/\rtR q<10^40)
theorem SdOk.oneD {c:Rat} {r d:Nat} (h:TrmR c r d):SdOk [(c,r)] d:=
 ⟨by simp,λt ht=>by simp at ht;subst ht;exact h,λi t u h1 h2=>by simp at h2,λi k t u hik h1 h2=>by
   have:=(List.getElem?_eq_some_iff.1 h2).1;have:=(List.getElem?_eq_some_iff.1 h1).1;simp at*;omega⟩
theorem z23 {q:Rat} (h0:0<q) (h:LenK q):TrmR (rtC q) (rtR q) 40:=by
 obtain⟨p1,p2,e2, -⟩:=zef h0;rcases h with h|⟨h1,h2⟩
 ·grind
 ·exact⟨by grind,h1,p2,(zaf _ 40 (by omega)).2 h2,e2⟩
theorem yas {q:Rat} (h0:0<=q) (h:LenK q):SdOk (lenL q) 40:=by
 unfold lenL;by_cases z:q=0
 ·rw[if_pos z]
  exact⟨by simp,λt h=>(by cases h),λi t u h=>(by simp at h),λi k t u _ h=>(by simp at h)⟩
 ·rw[if_neg z]
  exact .oneD (z23 (by grind) h)
def Mrat.q (x:Mrat):Rat:=(x.b0-x.a0)*(x.b0-x.a0)+(x.b1-x.a1)*(x.b1-x.a1)
theorem Mrat.q_nn (x:Mrat):0<=x.q:=by
 unfold Mrat.q;generalize x.b0-x.a0=u;generalize x.b1-x.a1=v;have h:∀r:Rat,0<=r*r:=λr=>by
  rcases(show 0<=r\/0<= -r by grind) with h|h
  ·exact Rat.mul_nonneg h h
  ·have:=Rat.mul_nonneg h h;grind
 have:=h u;have:=h v;grind
theorem z7w {q:Rat} (h:q≠0):((nB q).toList==[48])=false:=by
 refine beq_eq_false_iff_ne.2 λe=>h (zh0 ?_);rw[nm0,<-e];simp only[nB,ByteArray.toList_eq]
theorem zf4 {a:Rat} {r b c:Nat} {W:zA} (hc:1<=c) (c0:W.cell? ⟨b,0,none⟩=some (St (numS a))) (c1:W.cell? ⟨b,1,none⟩=some (St (zD r))):SdL (.slice (some ⟨b,0,none⟩) 1 c) [(a,r)] W:=
 .inr ⟨b,0,c,rfl,hc,zbe c0,λi t ht=>by
  match i,ht with
  |0,ht=>injection ht with ht;subst ht;exact⟨c0,c1⟩⟩
theorem dot3 (x y z q:Rat) (hx:sz x 40) (hy:sz y 40) (hz:sz z 40) (hq:x*x+y*y+z*z=q) (w:zA) (hw:Wd w):qJ 95 #[.agg #[.string (nB x),.string (nB y),.string (nB z)],.agg #[.string (nB x),.string (nB y),.string (nB z)]] w (.tuple #[.string (nB q),.int .i64 0]):=by
 rw[<-hq];have s1:=zca hx hx;have s2:=zca hy hy;have s3:=zca hz hz;have s4:=zk0 s1 s2
 exact z8y (numS x) (numS y) (numS z) (numS x) (numS y) (numS z) (numS (x*x)) (numS (y*y)) (numS (z*z)) (numS (x*x+y*y)) (numS (x*x+y*y+z*z)) w (hid λV hV=>zr6 x y z x y z ⟨hx.mono (by omega),hy.mono (by omega),hz.mono (by omega)⟩ ⟨hx.mono (by omega),hy.mono (by omega),hz.mono (by omega)⟩ V (hw.below hV))
  (hid λV hV=>zje (x*x) (y*y) 80 80 (by omega) (by omega) (by omega) s1 s2 V (hw.below hV))
  (hid λV hV=>zje (x*x+y*y) (z*z) 161 80 (by omega) (by omega) (by omega) s4 s3 V (hw.below hV))
theorem yb7 (x y:Rat) (hx:sz x 40) (hy:sz y 40) (q:Rat) (hq:x*x+y*y=q) (h0:0<=q) (sq:sz q 90) (ok:LenK q) (w:zA) (hw:Hw w):
 zC zF 47 #[.agg #[.string (nB x),.string (nB y),.string ⟨#[48]⟩]] w λe w'=>∃p n c,e=.returned (.tuple #[.slice p n c,.int .i64 0])/\zB w.heap.size w w'/\SdL (.slice p n c) (lenL q) w':=by
 have s0:sz 0 40:=⟨by decide,by decide⟩;have n0:(⟨#[48]⟩:ByteArray)=nB 0:=by unfold nB;rw[nm0]
 have CK:∀U:zA,qL w U->qJ 50 #[.agg #[.string (nB x),.string (nB y),.string (nB 0)]] U (.int .i64 0):=λU hU=>zcl x y 0 ⟨hx.mono (by omega),hy.mono (by omega),s0.mono (by omega)⟩ U (hw.below hU).wd;have DO:∀U:zA,qL w U->qJ 95 #[.agg #[.string (nB x),.string (nB y),.string (nB 0)],.agg #[.string (nB x),.string (nB y),.string (nB 0)]] U (.tuple #[.string (nB q),.int .i64 0]):=λU hU=>
  dot3 x y 0 q hx hy s0 (by grind) U (hw.below hU).wd
 rw[n0];by_cases z:q=0
 ·refine(z56 (nB x) (nB y) (nB 0) (nB q) w (hid CK) (hid DO) (hid λU hU=>by rw[z];exact z4c U (hw.below hU).wd)).mono λe w' ⟨h1,h2⟩=>⟨none,0,0,h1,h2,?_⟩
  unfold lenL;rw[if_pos z];exact SdL.nil w'
 ·have hp:0<q:=by grind
  have ht:=z23 hp ok
  refine(z55 (nB x) (nB y) (nB 0) (nB q) (nB (rtC q)) ⟨(zD (rtR q)).toArray⟩ (z7w (by have:=(zef hp).1;grind)) w (hid CK) (hid DO) (hid λU hU=>z7a q hp sq U (hw.below hU).wd (hw.below hU).pw)
   (hid λU b hU c0 c1=>zbh _ [(rtC q,rtR q)] (.oneD ht) U (hw.below hU).wd (hw.below hU).pw (zf4 (zN _) c0 c1))).mono λe w' ⟨b,c,hc,h1,h2,c0,c1⟩=>⟨_,_,_,h1,h2,?_⟩
  unfold lenL;rw[if_neg z];exact zf4 hc c0 c1
theorem z27 (x:Mrat) (h:MOk x) (sx:sz (x.b0-x.a0) 40) (sy:sz (x.b1-x.a1) 40) (sq:sz x.q 90) (ok:LenK x.q) (w:zA) (hw:Hw w):
 zC zF 9 #[x.m.v] w λe w'=>∃p n c,e=.returned (.tuple #[.slice p n c,.int .i64 0])/\zB w.heap.size w w'/\SdL (.slice p n c) (lenL x.q) w':=
 z1v x.m (nB (x.b0-x.a0)) (nB (x.b1-x.a1)) (nB (x.b2-x.a2)) (λp n c W=>SdL (.slice p n c) (lenL x.q) W) w (hid λW hW=>z38 x.m _ _ (nB (x.b2-x.a2)) _ W (hid λV hV=>zrp x h V ((hw.below hW).below hV).wd)
  (hid λV hV=>yb7 (x.b0-x.a0) (x.b1-x.a1) sx sy x.q rfl x.q_nn sq ok V ((hw.below hW).below hV)))
end
section
open Go.RowKit Go.Shelf Lib Str Limb Geo
attribute [local go_sem] Oper.semAt_some
theorem z57 (a0 a1 a2 b0 b1 b2 c0 c1 c2:List UInt8) (w:zA)
 (BO:Hid (∀W:zA,qL w W->qJ 75 #[.agg #[St a0,St a1,St a2],.agg #[St b0,St b1,St b2]] W (.int .i64 0)))
 (WI:Hid (∀W:zA,qL w W->qJ 74 #[.agg #[St a0,St a1,St a2],.agg #[St b0,St b1,St b2],.func (.func 53) #[] #[]] W (.tuple #[.agg #[St c0,St c1,St c2],.int .i64 0]))):
 qJ 41 #[.agg #[St a0,St a1,St a2],.agg #[St b0,St b1,St b2]] w (.tuple #[.agg #[St c0,St c1,St c2],.int .i64 0]):=by
 obtain⟨v1,hv⟩:=zzX (((w.alloc (.cells #[St a0,St a1,St a2] 25)).alloc (.cells #[St b0,St b1,St b2] 25)).alloc (.cells #[St [],St [],St []] 25));obtain⟨b1,p1,p2,p3, -⟩:=zjg hv;have HC:=hid (BO.out v1 b1);have B1:=hid b1;have P1:=hid p1;have P2:=hid p2;have P3:=hid p3;have HV:=hid hv.symm;obtain⟨d0,d1,d2, -, -, -⟩:=zah p1;obtain⟨d3,d4,d5, -, -, -⟩:=zah p2;rw[hv] at d0 d1 d2 d3 d4 d5;clear hv b1 BO p1 p2 p3;go_enter Tryz.func41,Tryz.ntmps41;go_wp21;have h9:=HV.out;rw[show((w.alloc (.cells #[.string ⟨a0.toArray⟩,.string ⟨a1.toArray⟩,.string ⟨a2.toArray⟩] 25)).alloc (.cells #[.string ⟨b0.toArray⟩,.string ⟨b1.toArray⟩,.string ⟨b2.toArray⟩] 25)).alloc (.cells #[.string ⟨#[]⟩,.string ⟨#[]⟩,.string ⟨#[]⟩] 25)=v1 from h9];clear h9 HV d0 d1 d2 d3 d4 d5;refine zzM HC.out λr0 hb=>?_;have hB:=B1.out.trans (hb.mono B1.out.size);have B2:=hid hB;have HD:=hid (WI.out r0 hB);obtain⟨d0,d1,d2, -, -, -⟩:=zah (zac hb _ _ _ _ P1.out);obtain⟨d3,d4,d5, -, -, -⟩:=zah (zac hb _ _ _ _ P2.out);have P4:=hid (zac hb _ _ _ _ P3.out);clear hb hB B1 WI HC P1 P2 P3;go_wp21;clear d0 d1 d2 d3 d4 d5;refine zzM HD.out λr2 hb=>?_;have B4:=hid (B2.out.trans (hb.mono B2.out.size));obtain⟨d0,d1,d2,z0,z1,z2⟩:=zah (zac hb _ _ _ _ P4.out);clear hb HD B2 P4;go_wp21
 exact bodyPost_ret (v:=.tuple #[.agg #[St c0,St c1,St c2],.int .i64 0]) (by simp[results,Tryz.results41,go_sem,d0,d1,d2]) rfl ⟨rfl,((B4.out.setCell (p:=⟨w.heap.size+1+1,0,none⟩) (by show _<=w.heap.size+1+1;omega) _).setCell (p:=⟨w.heap.size+1+1,1,none⟩) (by show _<=w.heap.size+1+1;omega) _).setCell (p:=⟨w.heap.size+1+1,2,none⟩) (by show _<=w.heap.size+1+1;omega) _⟩
theorem z82:∀args w,(callFunc 53 args).run zF w=.ok (.enter 53 args) w:=enters_of Tryz.func53 (by kernel_rfl) rfl
theorem yat (a b c d e f:Rat) (h:sz3 a b c 60) (h':sz3 d e f 60) (w:zA) (hw:Wd w):zC zF 41 #[.agg #[St (numS a),St (numS b),St (numS c)],.agg #[St (numS d),St (numS e),St (numS f)]] w λe' w'=>e'=.returned (.tuple #[.agg #[St (numS (a+d)),St (numS (b+e)),St (numS (c+f))],.int .i64 0])/\zB w.heap.size w w':=
 z57 _ _ _ _ _ _ _ _ _ w (hid λV hV=>z4t a b c d e f h h' V (hw.below hV))
  (hid λT hT=>zmw _ _ _ _ _ _ _ _ _ _ z82 T (hid λS hS=>zje a d 60 60 (by omega) (by omega) (by omega) h.1 h'.1 S ((hw.below hT).below hS)) (hid λS hS=>zje b e 60 60 (by omega) (by omega) (by omega) h.2.1 h'.2.1 S ((hw.below hT).below hS)) (hid λS hS=>zje c f 60 60 (by omega) (by omega) (by omega) h.2.2 h'.2.2 S ((hw.below hT).below hS)))
theorem put3 {W V:zA} {A:Nat} {a b c x y z:Value} {t:TypeId} (h:W.heap[A]? =some (.cells #[a,b,c] t (0,0))) (hV:V=((W.setCell ⟨A,0,none⟩ x).setCell ⟨A,1,none⟩ y).setCell ⟨A,2,none⟩ z):
 V.heap[A]? =some (.cells #[x,y,z] t (0,0))/\(∀B,B≠A->V.heap[B]? =W.heap[B]?)/\∀w:zA,w.heap.size<=A->qL w W->qL w V:=by
 rw[hV];refine⟨zK (i:=2) (zK (i:=1) (zK (i:=0) h x) y) z,λB hB=>?_,λw hA hb=>?_⟩
 ·exact(yE _ _ _ _ (by exact hB)).trans ((yE _ _ _ _ (by exact hB)).trans (yE _ _ _ _ (by exact hB)))
 ·exact((hb.setCell (p:=⟨A,0,none⟩) (by exact hA) _).setCell (p:=⟨A,1,none⟩) (by exact hA) _).setCell (p:=⟨A,2,none⟩) (by exact hA) _
def AlgO (w:zA) (G:Prop) (U0 U1 U2:ByteArray) (e:Ending) (w':zA):Prop:=∃(t0 t1 t2:ByteArray) (f:Int),e=.returned (.tuple #[.agg #[.string t0,.string t1,.string t2],.int .i64 f])/\zB w.heap.size w w'/\(f=0->G/\t0=U0/\t1=U1/\t2=U2)
theorem zt2 (m:Mbr) (D X Y Z S0 S1 S2 U0 U1 U2 u v tp:ByteArray) (cc:Int) (neg:Bool) (G:Prop) (w:zA)
 (DI:Hid (∀W:zA,qL w W->qJ 35 #[m.v] W (.tuple #[.agg #[.string X,.string Y,.string Z],.int .i64 0])))
 (CK:Hid (∀W:zA,qL w W->zC zF 36 #[.string D] W λe w'=>∃r:Int,e=.returned (.int .i64 r)/\(r=0->G)/\zB W.heap.size W w'))
 (PA:Hid (G->(∀W:zA,qL w W->qJ 37 #[.string D] W (.tuple #[.string u,.string v,.int .i64 0]))))
 (TP:Hid (∀W,zC zF 38 #[.string u,.string ⟨#[45]⟩] W λe w'=>e=.returned (.string tp)/\w'=W))
 (hl:G->(tp.size:Int)<=36/\(v.size:Int)<=36)
 (CM:Hid (G->(∀W:zA,qL w W->qJ 30 #[.string D,.string ⟨#[49]⟩] W (.tuple #[.int .i64 cc,.int .i64 0]))))
 (HP:Hid (∀W,zC zF 39 #[.string D,.string ⟨#[45]⟩] W λe w'=>e=.returned (.bool neg)/\w'=W))
 (SC:Hid (G->cc<=0->neg=false->(∀W:zA,qL w W->qJ 40 #[.agg #[.string X,.string Y,.string Z],.string D] W (.tuple #[.agg #[.string S0,.string S1,.string S2],.int .i64 0]))))
 (AD:Hid (G->cc<=0->neg=false->(∀W:zA,qL w W->qJ 41 #[.agg #[.string m.a0,.string m.a1,.string m.a2],.agg #[.string S0,.string S1,.string S2]] W (.tuple #[.agg #[.string U0,.string U1,.string U2],.int .i64 0])))):
 zC zF 14 #[m.v,.string D] w (AlgO w (G/\cc<=0/\neg=false) U0 U1 U2):=by
 obtain⟨v0,hv0⟩:=zzX (w.alloc (.cells #[.int .i64 m.k,.int .i64 m.f,.int .i64 m.o,.string m.a0,.string m.a1,.string m.a2,.string m.b0,.string m.b1,.string m.b2,.int .i64 m.wd,.int .i64 m.dp] 27));obtain⟨b0,A0⟩:=zdn hv0;obtain⟨v1,hv⟩:=zzX (v0.alloc (.cells #[.string ⟨#[]⟩,.string ⟨#[]⟩,.string ⟨#[]⟩] 25));obtain⟨b1,A1⟩:=zdn hv;have s0:v0.heap.size=w.heap.size+1:=by rw[hv0];simp
 rw[s0] at A1;have S0':=hid (MbS.mk (zac b1 _ _ _ _ A0):MbS m w.heap.size v1);have R0:=hid A1;have B0:=hid (b0.trans (b1.mono b0.size));obtain⟨k0,k1,k2,k3,k4,k5,k6,k7,k8,k9,k10⟩:=S0'.out.cells;rw[hv0] at hv;have HV:=hid hv.symm;rw[hv] at k0 k1 k2 k3 k4 k5 k6 k7 k8 k9 k10;clear hv hv0 b0 b1 A0 A1 s0;unfold Mbr.v;go_enter Tryz.func14,Tryz.ntmps14;go_wp21;rw[HV.out];clear k0 k1 k2 k3 k4 k5 k6 k7 k8 k9 k10 HV;refine zzM (DI.out v1 B0.out) λw1 hb=>?_;obtain⟨v2,hv⟩:=zzX (w1.alloc (.cells #[.string X,.string Y,.string Z] 25));obtain⟨b2,A2⟩:=zdn hv;have hb2:=hb.trans (b2.mono hb.size);have B2:=hid (B0.out.trans (hb2.mono B0.out.size));have S2':=hid (S0'.out.below hb2);have R2:=hid (zac hb2 _ _ _ _ R0.out);have P2:=hid A2;have HS1:=hid (show w.heap.size+1<w1.heap.size by have:=hb.size;have:=(Array.getElem?_eq_some_iff.1 R0.out).1;omega);have HV:=hid hv.symm;clear hv b2 A2 hb hb2 B0 S0' R0 DI;go_wp21;rw[HV.out];clear HV;generalize w1.heap.size=A at*
 refine(CK.out v2 B2.out).mono ?_;rintro e w3 ⟨r,rfl,hg,hb⟩;have HG:=hid hg;clear hg;have B3:=hid (B2.out.trans (hb.mono B2.out.size));have S3:=hid (S2'.out.below hb);have R3:=hid (zac hb _ _ _ _ R2.out);have P3:=hid (zac hb _ _ _ _ P2.out);clear hb B2 S2' R2 P2 CK;cases hr:(r !=0)
 ·have hr0:=HG.out (by simpa using hr)
  obtain⟨hl1,hl2⟩:=hl hr0;have hmx:decide (36<max (tp.size:Int) (v.size:Int))=false:=decide_eq_false (by omega);have HR:=hid hr0;clear hl hl1 hl2 hr0;go_wp21;refine zzM (PA.out HR.out w3 B3.out) λw4 hb=>?_;have B4:=hid (B3.out.trans (hb.mono B3.out.size));have S4:=hid (S3.out.below hb);have R4:=hid (zac hb _ _ _ _ R3.out);have P4:=hid (zac hb _ _ _ _ P3.out);clear hb B3 S3 R3 P3 PA;go_wp21;refine zzM (TP.out w4) λw5 hw=>?_;have hw':=hw.symm;subst hw';clear hw TP;go_wp21;clear hmx;refine zzM (CM.out HR.out w4 B4.out) λw5 hb=>?_;have B5:=hid (B4.out.trans (hb.mono B4.out.size));have S5:=hid (S4.out.below hb);have R5:=hid (zac hb _ _ _ _ R4.out);have P5:=hid (zac hb _ _ _ _ P4.out);clear hb B4 S4 R4 P4 CM;obtain⟨e0,e1,e2,z0,z1,z2⟩:=zah R5.out;cases hc:decide (0<cc)
  ·go_wp21
   refine zzM (HP.out w5) λw6 hw=>?_;have hw':=hw.symm;subst hw';clear hw HP;cases neg
   ·obtain⟨d0,d1,d2, -, -, -⟩:=zah P5.out
    have HC:=hid (show cc<=0 by have:=of_decide_eq_false hc;omega);go_wp21;clear d0 d1 d2 e0 e1 e2 z0 z1 z2 hc;refine zzM (SC.out HR.out HC.out (by trivial) w5 B5.out) λw6 hb=>?_;have B6:=hid (B5.out.trans (hb.mono B5.out.size));have S6:=hid (S5.out.below hb);have R6:=hid (zac hb _ _ _ _ R5.out);have P6:=hid (zac hb _ _ _ _ P5.out);clear hb B5 S5 R5 P5 SC;obtain⟨v7,hv⟩:=zzX (((w6.setCell ⟨A,0,none⟩ (.string S0)).setCell ⟨A,1,none⟩ (.string S1)).setCell ⟨A,2,none⟩ (.string S2));obtain⟨p1,p2,p3⟩:=put3 P6.out hv;have B7:=hid (p3 w (by have:=HS1.out;omega) B6.out);have S7:=hid (MbS.mk (by rw[p2 _ (by have:=HS1.out;omega)];exact S6.out.h):MbS m w.heap.size v7);have R7:=hid ((p2 (w.heap.size+1) (by have:=HS1.out;omega)).trans R6.out);obtain⟨d0,d1,d2, -, -, -⟩:=zah p1;obtain⟨f0,f1,f2,g0,g1,g2⟩:=zah P6.out;obtain⟨k0,k1,k2,k3,k4,k5,k6,k7,k8,k9,k10⟩:=S7.out.cells;have HV:=hid hv.symm;rw[hv] at d0 d1 d2 k0 k1 k2 k3 k4 k5 k6 k7 k8 k9 k10;clear hv p1 p2 p3 B6 S6 R6 P6;go_wp21;rw[HV.out];clear d0 d1 d2 f0 f1 f2 g0 g1 g2 k0 k1 k2 k3 k4 k5 k6 k7 k8 k9 k10 HV;refine zzM (AD.out HR.out HC.out (by trivial) v7 B7.out) λw8 hb=>?_;have B8:=hid (B7.out.trans (hb.mono B7.out.size));obtain⟨e0,e1,e2,z0,z1,z2⟩:=zah (zac hb _ _ _ _ R7.out);clear hb B7 S7 R7 AD;go_wp21;refine bodyPost_ret (v:=.tuple #[.agg #[.string U0,.string U1,.string U2],.int .i64 0]) (by simp[results,Tryz.results14,go_sem,e0,e1,e2]) rfl ⟨U0,U1,U2,0,rfl,?_,λ_=>⟨⟨HR.out,HC.out,by trivial⟩,rfl,rfl,rfl⟩⟩;have hB:=B8.out
    repeat(first|exact hB|refine Below.setCell ?_ (by simp<;>omega) _)
   ·go_wp21
    refine bodyPost_ret (v:=.tuple #[.agg #[.string ⟨#[]⟩,.string ⟨#[]⟩,.string ⟨#[]⟩],.int .i64 2]) (by simp[results,Tryz.results14,go_sem,e0,e1,e2]) rfl ⟨_,_,_,2,rfl,?_,λh=>(by cases h)⟩;have hB:=B5.out
    repeat(first|exact hB|refine Below.setCell ?_ (by simp<;>omega) _)
  ·go_wp21
   refine bodyPost_ret (v:=.tuple #[.agg #[.string ⟨#[]⟩,.string ⟨#[]⟩,.string ⟨#[]⟩],.int .i64 2]) (by simp[results,Tryz.results14,go_sem,e0,e1,e2]) rfl ⟨_,_,_,2,rfl,?_,λh=>(by cases h)⟩;have hB:=B5.out
   repeat(first|exact hB|refine Below.setCell ?_ (by simp<;>omega) _)
 ·obtain⟨e0,e1,e2,z0,z1,z2⟩:=zah R3.out
  clear hl;go_wp21;refine bodyPost_ret (v:=.tuple #[.agg #[.string ⟨#[]⟩,.string ⟨#[]⟩,.string ⟨#[]⟩],.int .i64 r]) (by simp[results,Tryz.results14,go_sem,e0,e1,e2]) rfl ⟨_,_,_,r,rfl,?_,λh=>(by rw[h] at hr;cases hr)⟩;have hB:=B3.out
  repeat(first|exact hB|refine Below.setCell ?_ (by simp<;>omega) _)
end
section
open Go.RowKit Go.Shelf Lib Str Limb
attribute [local go_sem] Oper.semAt_some
theorem zp8 (l:List UInt8) (hl:l.length<=1000000) (w:zA):
 zC zF 177 #[St l] w λe w'=>∃r:Nat,e=.returned (.int .i64 (r:Int))/\(r<=l.length/\((r≠0/\r=l.length)↔zcb l))/\w'=w:=by
 rw[zsa];obtain⟨s,hs⟩:=zzX (⟨l.toArray⟩:ByteArray);obtain⟨b1,b2⟩:=zds l s hs;show zC _ _ #[.string ⟨l.toArray⟩] _ _;rw[<-hs];have hh:∀hb:0<s.size,l.head? =some 48↔(s[0]'hb).toNat=48:=λhb=>by
  have h0:0<l.length:=by omega
  rw[b2 0 h0 hb,List.head?_eq_getElem?,List.getElem?_eq_getElem h0];constructor
  ·intro h;injection h with h;rw[h];rfl
  ·intro h;congr 1;exact UInt8.toNat_inj.1 (by rw[h];rfl)
 obtain⟨Q,hQ⟩:∃Q:Prop,Q=(l.length≠0/\¬(1<l.length/\l.head? =some 48)/\∀k (hk:k<l.length),48<=(l[k]'hk).toNat/\(l[k]'hk).toNat<=57):=⟨_,rfl⟩;rw[<-hQ];have q1:s.size=0->¬Q:=λh=>by rw[hQ];exact λk=>k.1 (by omega)
 have q2:∀hb:0<s.size,1<s.size->(s[0]'hb).toNat=48->¬Q:=λhb h h'=>by rw[hQ];exact λk=>k.2.1 ⟨by omega,(hh hb).2 h'⟩
 have q3:∀k (hb:k<s.size),((s[k]'hb).toNat<48\/57<(s[k]'hb).toNat)->¬Q:=λk hb h=>by
  rw[hQ];intro k';have:=k'.2.2 k (by omega);rw[b2 k (by omega) hb] at h;omega
 have q4:∀hb:0<s.size,¬(1<s.size/\(s[0]'hb).toNat=48)->(∀k (hb:k<s.size),48<=(s[k]'hb).toNat/\(s[k]'hb).toNat<=57)->Q:=λhb h h'=>by
  rw[hQ];exact⟨by omega,λ⟨k1,k2⟩=>h ⟨by omega,(hh hb).1 k2⟩,λk hk=>by have:=h' k (by omega);rwa [b2 k hk (by omega)] at this⟩
 have hsz:s.size<=1000000:=by omega
 rw[<-b1];have Q1:=hid q1;have Q2:=hid q2;have Q3:=hid q3;have Q4:=hid q4;clear q1 q2 q3 q4 hh hQ b1 b2 hs hl;go_enter Tryz.func177,Tryz.ntmps177;go_wp2;go_loop [3] (λi=>∃k:Nat,k<=s.size/\i=.int .i64 k/\Hid (∀j (hb:j<s.size),j<k->48<=(s[j]'hb).toNat/\(s[j]'hb).toNat<=57)) (λi=>s.size-(zL i).toNat)
 case atStart=>exact⟨0,zR _,rfl,λj _ h=>by omega⟩
 case round=>
  obtain⟨k,hk,rfl,hP⟩:=hrel;have hend:(k<s.size->¬Q)->∀b:Bool,(∀hb:0<s.size,1<k->(b=true↔(s[0]'hb).toNat=48))->∀z:Nat,z=(if 1<k/\b=true then 0 else k)->z<=s.size/\((z≠0/\z=s.size)↔Q):=λh1 b hb z hz=>by
   by_cases c:1<k/\b=true
   ·rw[if_pos c] at hz
    subst hz;refine⟨zR _,λh=>absurd rfl h.1,λh=>absurd h (Q2.out (by omega) (by omega) ((hb (by omega) c.1).1 c.2))⟩
   ·rw[if_neg c] at hz
    subst hz;refine⟨hk,λ⟨h2,h3⟩=>Q4.out (by omega) (λ⟨e1,e2⟩=>c ⟨by omega,(hb (by omega) (by omega)).2 e2⟩) (λj hj=>hP.out j hj (by omega)),λh=>?_⟩;by_cases e:z<s.size
    ·exact absurd h (h1 e)
    ·refine⟨λe0=>?_,by omega⟩
     exact Q1.out (by omega) h
  by_cases hgo:∃hlt:k<s.size,48<=(s[k]'hlt).toNat/\(s[k]'hlt).toNat<=57
  ·obtain⟨hlt,d1,d2⟩:=hgo
   have e1:(48:Int)<=(s[k]'hlt).toNat:=by omega
   have e2:((s[k]'hlt).toNat:Int)<=57:=by omega
   have hnext:∀j (hb:j<s.size),j<k+1->48<=(s[j]'hb).toNat/\(s[j]'hb).toNat<=57:=λj hb h=>by
    by_cases e:j=k
    ·subst e;omega
    ·exact hP.out j hb (by omega)
   have HN:=hid hnext;clear hnext d1 d2 hend;go_wp2;go_round
   case rel=>exact⟨k+1,by omega,by go_num,HN⟩
   case measure=>simp[zL];omega
  ·have hstop:k<s.size->¬Q:=λhlt=>Q3.out k hlt (by
    by_cases c:(s[k]'hlt).toNat<48
    ·exact .inl c
    ·refine .inr (Nat.lt_of_not_le λd=>hgo ⟨hlt,Nat.le_of_not_lt c,d⟩))
   have HE:=hid (hend hstop);clear hend hstop;have hz:(∃hlt:k<s.size,(((s[k]'hlt).toNat:Int)<48\/((48:Int)<=(s[k]'hlt).toNat/\(57:Int)<(s[k]'hlt).toNat)))\/k=s.size:=by
    by_cases hlt:k<s.size
    ·refine .inl ⟨hlt,?_⟩
     by_cases c:(s[k]'hlt).toNat<48
     ·exact .inl (by omega)
     ·have d:57<(s[k]'hlt).toNat:=Nat.lt_of_not_le λd=>hgo ⟨hlt,Nat.le_of_not_lt c,d⟩
      exact .inr ⟨by omega,by omega⟩
    ·exact .inr (by omega)
   clear hgo hP;by_cases h1:1<k
   ·have h1':(1:Int)<k:=by omega
    have h0:0<s.size:=by omega
    by_cases h2:(s[0]'h0).toNat=48
    ·have h2':(((s[0]'h0).toNat:Int)==48)=true:=by rw[h2];rfl
     have HR:=hid (HE.out true (λhb _=>⟨λ_=>h2,λ_=>rfl⟩) 0 (by rw[if_pos ⟨h1,rfl⟩]));clear h2 HE;rcases hz with⟨hlt,hz|⟨hz,hz'⟩⟩|hz
     ·go_wp2
      go_ret;exact⟨0,rfl,HR.out,rfl⟩
     ·go_wp2
      go_ret;exact⟨0,rfl,HR.out,rfl⟩
     ·have hz2:¬((k:Int)<s.size):=by omega
      have hz3:=hid hz;clear hz;go_wp2;go_ret;exact⟨0,rfl,HR.out,rfl⟩
    ·have h2':(((s[0]'h0).toNat:Int)==48)=false:=by rw[beq_eq_false_iff_ne];omega
     have HR:=hid (HE.out false (λhb _=>⟨λh=>(by cases h),λh=>absurd h h2⟩) k (by rw[if_neg (by simp)]));clear h2 HE;rcases hz with⟨hlt,hz|⟨hz,hz'⟩⟩|hz
     ·go_wp2
      go_ret;exact⟨k,rfl,HR.out,rfl⟩
     ·go_wp2
      go_ret;exact⟨k,rfl,HR.out,rfl⟩
     ·have hz2:¬((k:Int)<s.size):=by omega
      have hz3:=hid hz;clear hz;go_wp2;go_ret;exact⟨k,rfl,HR.out,rfl⟩
   ·have h1':¬(1:Int)<k:=by omega
    have HR:=hid (HE.out false (λhb h=>absurd h h1) k (by rw[if_neg (by simp)]));clear HE;rcases hz with⟨hlt,hz|⟨hz,hz'⟩⟩|hz
    ·go_wp2
     go_ret;exact⟨k,rfl,HR.out,rfl⟩
    ·go_wp2
     go_ret;exact⟨k,rfl,HR.out,rfl⟩
    ·have hz2:¬((k:Int)<s.size):=by omega
     have hz3:=hid hz;clear hz;go_wp2;go_ret;exact⟨k,rfl,HR.out,rfl⟩
end
end Go.Proofs.YtfoodcpnnmonhaaGreatDoor
