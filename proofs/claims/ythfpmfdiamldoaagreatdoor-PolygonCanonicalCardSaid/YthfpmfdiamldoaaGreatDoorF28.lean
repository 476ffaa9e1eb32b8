/- polygon.Inside. -/
import Derived.Test.YthfpmfdiamldoaaGreatDoorF25
set_option maxRecDepth 100000
set_option maxHeartbeats 8000000
open Go renaming World → zA
open Go.RowKit renaming Below → zB
open Go.Proofs.Tryz renaming prog → zF
open Go.World renaming alloc_heap_new → zG, size_alloc → zH
open Go.Joins renaming cell_of_block → zJ
open Go.RowKit.Below renaming refl → zM
open Nat renaming le_refl → zN
namespace Go.Proofs.YthfpmfdiamldoaaGreatDoor
open Go.RowKit Go.Shelf Lib Str Limb Geo
attribute [local go_sem] Oper.semAt_some
def ze5 (l:List Pt) (q:Pt) (k:Nat):Prop:=
 (cmpR (cor l k).y q.y<=0/\0<cmpR (cor l (k+1)).y q.y/\0<turn (cor l k) (cor l (k+1)) q)\/(cmpR (cor l (k+1)).y q.y<=0/\0<cmpR (cor l k).y q.y/\turn (cor l k) (cor l (k+1)) q<0)
instance (l:List Pt) (q:Pt) (k:Nat):Decidable (ze5 l q k):=by unfold ze5;infer_instance
def insI (l:List Pt) (q:Pt):Nat->Int
 |0=> -1
 |k+1=>if ze5 l q k then-insI l q k else insI l q k
theorem zm6 (l:List Pt) (q:Pt):∀k,insI l q k=1\/insI l q k= -1
 |0=>.inr rfl
 |k+1=>by
  have:=zm6 l q k
  unfold insI
  split<;>omega
def onS (l:List Pt) (q:Pt) (k:Nat):Prop:=meet (cor l k) (cor l (k+1)) q q=1
structure InsS (w:zA) (p:Option Addr) (cap n:Nat) (l:List Pt) (q:Pt) (ib k:Nat) (W:zA):Prop where
 bel:zB w.heap.size w W
 ib1:w.heap.size+2<ib
 q0:W.cell? ⟨w.heap.size,0,none⟩=some (St (numS q.x))
 q1:W.cell? ⟨w.heap.size,1,none⟩=some (St (numS q.y))
 r1:W.cell? ⟨w.heap.size+1,0,none⟩=some (I 0)
 f1:W.frozen? ⟨w.heap.size+1,0,none⟩=false
 r2:W.cell? ⟨w.heap.size+1+1,0,none⟩=some (I 0)
 f2:W.frozen? ⟨w.heap.size+1+1,0,none⟩=false
 ic:W.cell? ⟨ib,0,none⟩=some (.int .i64 (insI l q k))
 fi:W.frozen? ⟨ib,0,none⟩=false
 cbx:W.cell? ⟨ib+1,0,none⟩=some (.slice p n cap)
 pts:∀i,i<n->∃b off,p=some ⟨b,off,none⟩/\b<w.heap.size/\W.cell? ⟨b,off+i*2,none⟩=some (St (ptOf (txt l) i).1)/\W.cell? ⟨b,off+i*2+1,none⟩=some (St (ptOf (txt l) i).2)
theorem InsS.keep {w:zA} {p:Option Addr} {cap n:Nat} {l:List Pt} {q:Pt} {ib k:Nat} {W W':zA} (h:InsS w p cap n l q ib k W) (hc:CellsKept W W') (hb:zB w.heap.size W W'):InsS w p cap n l q ib k W':=
 ⟨h.bel.trans hb,h.ib1,hc.cell h.q0,hc.cell h.q1,hc.cell h.r1,hc.frozen h.r1 h.f1,hc.cell h.r2,hc.frozen h.r2 h.f2,hc.cell h.ic,hc.frozen h.ic h.fi,hc.cell h.cbx,
  λi hi=>let ⟨b,off,e,h0,h1,h2⟩:=h.pts i hi;⟨b,off,e,h0,hc.cell h1,hc.cell h2⟩⟩
theorem InsS.ptsAt {w:zA} {p:Option Addr} {cap n:Nat} {l:List Pt} {q:Pt} {ib k:Nat} {W:zA} (hn:n=l.length) (h:InsS w p cap n l q ib k W):zls (ib+1) p cap (txt l) W:=
 ⟨by rw[za2,<-hn];exact h.cbx,λi hi=>let ⟨b,off,e,_,h1,h2⟩:=h.pts i (by rw[za2] at hi;omega);⟨b,off,e,h1,h2⟩⟩
theorem InsS.put {w:zA} {p:Option Addr} {cap n:Nat} {l:List Pt} {q:Pt} {ib k k':Nat} {W:zA} (h:InsS w p cap n l q ib k W):InsS w p cap n l q ib k' (W.setCell ⟨ib,0,none⟩ (.int .i64 (insI l q k'))):=by
 have hib:=h.ib1
 refine⟨h.bel.setCell (by simp;omega) _,hib,?_,?_,?_,?_,?_,?_,za9 h.ic,?_,?_,λi hi=>?_⟩
 ·rw[zau _ _ _ _ (by omega)];exact h.q0
 ·rw[zau _ _ _ _ (by omega)];exact h.q1
 ·rw[zau _ _ _ _ (by omega)];exact h.r1
 ·rw[World.frozen?_setCell];exact h.f1
 ·rw[zau _ _ _ _ (by omega)];exact h.r2
 ·rw[World.frozen?_setCell];exact h.f2
 ·rw[World.frozen?_setCell];exact h.fi
 ·rw[zau _ _ _ _ (by omega)];exact h.cbx
 ·obtain⟨b,off,e,h0,h1,h2⟩:=h.pts i hi
  exact⟨b,off,e,h0,by rw[zau _ _ _ _ (by omega)];exact h1,by rw[zau _ _ _ _ (by omega)];exact h2⟩
structure InsB (w:zA) (p:Option Addr) (n:Nat) (l:List Pt) (q:Pt) (W:zA):Prop where
 bel:zB w.heap.size w W
 q0:W.cell? ⟨w.heap.size,0,none⟩=some (St (numS q.x))
 q1:W.cell? ⟨w.heap.size,1,none⟩=some (St (numS q.y))
 r1:W.cell? ⟨w.heap.size+1,0,none⟩=some (I 0)
 f1:W.frozen? ⟨w.heap.size+1,0,none⟩=false
 r2:W.cell? ⟨w.heap.size+1+1,0,none⟩=some (I 0)
 f2:W.frozen? ⟨w.heap.size+1+1,0,none⟩=false
 pts:∀i,i<n->∃b off,p=some ⟨b,off,none⟩/\b<w.heap.size/\W.cell? ⟨b,off+i*2,none⟩=some (St (ptOf (txt l) i).1)/\W.cell? ⟨b,off+i*2+1,none⟩=some (St (ptOf (txt l) i).2)
theorem InsB.keep {w:zA} {p:Option Addr} {n:Nat} {l:List Pt} {q:Pt} {W W':zA} (h:InsB w p n l q W) (hb:zB W.heap.size W W'):InsB w p n l q W':=
 have hc:=zac hb
 ⟨h.bel.trans (hb.mono h.bel.size),hc.cell h.q0,hc.cell h.q1,hc.cell h.r1,hc.frozen h.r1 h.f1,hc.cell h.r2,hc.frozen h.r2 h.f2,
  λi hi=>let ⟨b,off,e,h0,h1,h2⟩:=h.pts i hi;⟨b,off,e,h0,hc.cell h1,hc.cell h2⟩⟩
theorem InsB.start (w:zA) (p:Option Addr) (l:List Pt) (q:Pt) (hp:RowPts p l w):
 InsB w p l.length l q (((w.alloc (.cells #[St (numS q.x),St (numS q.y)] 25)).alloc (.cells #[I 0] 3)).alloc (.cells #[I 0] 28)):=by
 have hb:zB w.heap.size w (((w.alloc (.cells #[St (numS q.x),St (numS q.y)] 25)).alloc (.cells #[I 0] 3)).alloc (.cells #[I 0] 28)):=(((zM _ w).alloc (zN _) _).alloc (by simp) _).alloc (by simp;omega) _
 have A0:=(Below.heap_alloc (((w.alloc (.cells #[St (numS q.x),St (numS q.y)] 25)).alloc (.cells #[I 0] 3))) (.cells #[I 0] 28) w.heap.size (by simp;omega)).trans ((Below.heap_alloc (w.alloc (.cells #[St (numS q.x),St (numS q.y)] 25)) (.cells #[I 0] 3) w.heap.size (by simp)).trans (zG w (.cells #[St (numS q.x),St (numS q.y)] 25 (0,0))))
 have b1:=(Boxed.new (w.alloc (.cells #[St (numS q.x),St (numS q.y)] 25)) 3 (I 0)).alloc (.cells #[I 0] 28)
 have b2:=Boxed.new ((w.alloc (.cells #[St (numS q.x),St (numS q.y)] 25)).alloc (.cells #[I 0] 3)) 28 (I 0)
 simp only[zH] at b1 b2
 refine⟨hb,by rw[zJ A0];rfl,by rw[zJ A0];rfl,b1.cell,b1.frozen,b2.cell,b2.frozen,λi hi=>?_⟩
 obtain⟨b,off,e,h1,h2⟩:=hp i hi
 exact⟨b,off,e,zbe h1,zai hb h1,zai hb h2⟩
theorem InsB.row {w:zA} {p:Option Addr} {l:List Pt} {q:Pt} {W:zA} (h:InsB w p l.length l q W):RowPts p l W:=λi hi=>let ⟨b,off,e,_,h1,h2⟩:=h.pts i hi;⟨b,off,e,h1,h2⟩
theorem ztn (p:Option Addr) (cap:Nat) (l:List Pt) (q:Pt) (h3:3<=l.length) (hlen:l.length<=4096)
 (C:Hid (∀W:zA,Wd W->RowPts p l W->qJ 18 #[.slice p l.length cap] W (.int .i64 0)))
 (CP:Hid (qK 31 #[ptV q] (.int .i64 0)))
 (M:Hid (∀k,qK 33 #[segV (cor l k) (cor l (k+1)),segV q q] (.int .i64 (meet (cor l k) (cor l (k+1)) q q))))
 (Y:Hid (∀k,qK 34 #[St (numS (cor l k).y),St (numS q.y)] (.int .i64 (cmpR (cor l k).y q.y))))
 (T:Hid (∀k,qK 35 #[ptV (cor l k),ptV (cor l (k+1)),ptV q] (.int .i64 (turn (cor l k) (cor l (k+1)) q))))
 (w:zA) (HW:Hid (Wd w)) (HP:Hid (RowPts p l w)):
 Calls zF 8 #[.slice p l.length cap,ptV q] w λe w'=>∃r:Int,e=.returned (.tuple #[.int .i64 r,.int .i64 0])/\(((∃k,k<l.length/\onS l q k)/\r=0)\/((∀k,k<l.length->¬onS l q k)/\r=insI l q l.length))/\zB w.heap.size w w':=by
 refine(callsIn_wide (n:=3)).1 ?_
 refine callsIn_of_wp_marks Tryz.func8 rfl trivial ?_ rfl
 simp only[Tryz.ntmps8,List.size_toArray,List.length_cons,List.length_nil,Nat.reduceAdd,Nat.reduceSub,Array.replicate_succ,Array.replicate_zero,List.push_toArray,List.append_toArray,List.nil_append,List.cons_append]
 obtain⟨n,hn⟩:∃n,n=l.length:=⟨_,rfl⟩
 obtain⟨W0,hW0⟩:∃W0,W0=((w.alloc (.cells #[St (numS q.x),St (numS q.y)] 25)).alloc (.cells #[I 0] 3)).alloc (.cells #[I 0] 28):=⟨_,rfl⟩
 have hb0:=InsB.start w p l q HP.out
 rw[<-hW0] at hb0
 have hCk:=C.out W0 (HW.out.below hb0.bel) hb0.row
 rw[<-hn] at h3 hlen hCk hb0⊢
 have HN:=hid hn;clear hn
 have HCk:=hid hCk;clear hCk C
 have HB0:=hid hb0
 have HW0:=hid hW0
 clear hW0 hb0
 unfold ptV
 gi_wp2
 refine⟨trivial,?_⟩
 have h9:((w.alloc (.cells #[St (numS q.x),St (numS q.y)] 25)).alloc (.cells #[.int .i64 0] 3)).alloc (.cells #[.int .i64 0] 28)=W0:=HW0.out.symm
 rw[h9]
 clear h9 HW0
 refine(callsIn_wide.2 HCk.out).mono ?_
 rintro e w1 ⟨rfl,hb1⟩
 have HB1:=hid (HB0.out.keep hb1);clear hb1 HB0 HCk
 have g0:=HB1.out.q0;have g1:=HB1.out.q1
 gi_wp2
 refine⟨trivial,(callsIn_wide.2 (CP.out w1 (HW.out.below HB1.out.bel))).mono ?_⟩
 rintro e w2 ⟨rfl,hb2⟩
 have HB2:=hid (HB1.out.keep hb2);clear hb2 HB1 g0 g1 CP
 gi_wp2_with (refine⟨trivial,?_⟩;gi_at_call 32;refine(callsIn_wide.2 (zfr _ _ _ _ _ rfl)).mono ?_;rintro e w' ⟨rfl,rfl⟩)
 obtain⟨W1,hW1⟩:∃W1,W1=(w2.alloc (.cells #[.int .i64 (-1)] 3)).alloc (.cells #[.slice p n cap] 22):=⟨_,rfl⟩
 rw[<-hW1]
 have hS1:InsS w p cap n l q w2.heap.size 0 W1:=by
  have b1:=(Boxed.new w2 3 (.int .i64 (-1))).alloc (.cells #[.slice p n cap] 22)
  have b2:=Boxed.new (w2.alloc (.cells #[.int .i64 (-1)] 3)) 22 (.slice p n cap)
  rw[zH] at b2
  have hw:zB w2.heap.size w2 ((w2.alloc (.cells #[.int .i64 (-1)] 3)).alloc (.cells #[.slice p n cap] 22)):=((zM _ w2).alloc (zN _) _).alloc (by simp) _
  have h:=HB2.out.keep hw
  rw[hW1]
  exact⟨h.bel,zbe HB2.out.r2,h.q0,h.q1,h.r1,h.f1,h.r2,h.f2,b1.cell,b1.frozen,b2.cell,h.pts⟩
 clear hW1
 have HS1:=hid hS1.bel.size
 have hseq:=zgi 2 (by omega) (w2.heap.size+1) (txt l) (by rw[za2,<-HN.out];omega) (λW=>∃j,InsS w p cap n l q w2.heap.size j W) p cap (λW ⟨j,h⟩=>h.ptsAt HN.out)
 rw[za2,<-HN.out] at hseq
 refine zfq (n:=3) (B:=w.heap.size) rfl (by omega) rfl trivial (enters_of Tryz.func82 (by kernel_rfl) rfl) hseq (λk args h=>by subst h;rfl) hS1.bel.size
  (λj W=>InsS w p cap n l q w2.heap.size j W/\∀i,i<j->¬onS l q i)
  (λc _ W=>c=.ret/\zB w.heap.size w W/\W.cell? ⟨w.heap.size+1,0,none⟩=some (I 0)/\W.cell? ⟨w.heap.size+1+1,0,none⟩=some (I 0)/\∃k,k<n/\onS l q k)
  (λj X Y h hc hb=>⟨h.1.keep hc hb,h.2⟩) (λc j X Y h hc hb=>⟨h.1,h.2.1.trans hb,hc.cell h.2.2.1,hc.cell h.2.2.2.1,h.2.2.2.2⟩) (λj W h=>⟨j,h.1⟩) ⟨hS1,λi h=>by omega⟩
  (λj _ a' W=>∃bs,a'={tmps:= #[Value.slice p n cap,Value.agg #[St (numS q.x),St (numS q.y)],undef,Value.pointer (some {block:=w.heap.size,off:=0}),Value.pointer (some {block:=w.heap.size+1,off:=0}),Value.pointer (some {block:=w.heap.size+1+1,off:=0}),Value.pointer (some {block:=w2.heap.size,off:=0}),undef,.pointer (some ⟨bs,0,none⟩),undef,undef,undef,Value.slice p n cap,Value.int IntKind.i64 0,Value.bool false,Value.bool false,Value.agg #[St (numS q.x),St (numS q.y)],Value.int IntKind.i64 0,Value.bool false,Value.bool false,Value.slice p n cap,Value.func (Fn.func 82) #[] #[Value.pointer (some {block:=w2.heap.size+1,off:=0})],I j,segV (cor l j) (cor l (j+1)),undef,undef,undef,undef,undef,undef,undef,undef,undef,undef,undef,undef,undef,undef,undef,undef,undef,undef,undef,undef,undef,undef,undef,undef,undef,undef,undef,undef,undef,undef,undef,undef,undef,undef,undef,undef,undef,undef,undef,undef,undef,undef,undef,undef,undef,undef,undef,undef,undef,undef,undef,undef,undef,undef,undef,undef,undef,undef,undef],defers:=[]}/\SegAt bs (cor l j) (cor l (j+1)) W)
  (λj _ a' X Y h hc hb=>let ⟨bs,e,h2⟩:=h;⟨bs,e,h2.keep hc⟩) ?assign ?body ?done ?stop
 case assign=>
  rintro lp j args W K hlp hrec ⟨hS,hP⟩ hj rfl hK
  rw[zgj l j (by rw[<-HN.out];exact hj)]
  have HK:=hid hK;clear hK
  unfold segV
  gi_wp2
  have hb1:zB W.heap.size W (W.alloc (.cells #[St (numS (cor l j).x),St (numS (cor l j).y),St (numS (cor l (j+1)).x),St (numS (cor l (j+1)).y)] 63)):=(zM _ W).alloc (zN _) _
  exact HK.out _ _ ((za0 hb1).from _) ⟨hS.keep (zac hb1) (hb1.mono hS.bel.size),hP⟩ ⟨W.heap.size,rfl,SegAt.new W (cor l j) (cor l (j+1)) 63⟩
 case body=>
  rintro lp j args a' W hlp ⟨r',hr'⟩ ⟨hS,hP⟩ hj rfl ⟨bs,rfl,hseg⟩
  have hbl:=hS.bel
  have H0:=hid (⟨hS,hP⟩:InsS w p cap n l q w2.heap.size j W/\∀i,i<j->¬onS l q i)
  have hks:∀W':zA,zB W.heap.size W W'->
   W'.cell? ⟨bs,0,none⟩=some (St (numS (cor l j).x))/\W'.cell? ⟨bs,1,none⟩=some (St (numS (cor l j).y))/\W'.cell? ⟨bs,2,none⟩=some (St (numS (cor l (j+1)).x))/\W'.cell? ⟨bs,3,none⟩=some (St (numS (cor l (j+1)).y))/\
   W'.cell? ⟨w.heap.size,0,none⟩=some (St (numS q.x))/\W'.cell? ⟨w.heap.size,1,none⟩=some (St (numS q.y))/\W'.cell? ⟨w.heap.size+1,0,none⟩=some (I 0)/\W'.frozen? ⟨w.heap.size+1,0,none⟩=false/\
   W'.cell? ⟨w.heap.size+1+1,0,none⟩=some (I 0)/\W'.frozen? ⟨w.heap.size+1+1,0,none⟩=false/\W'.cell? ⟨w2.heap.size,0,none⟩=some (.int .i64 (insI l q j))/\W'.frozen? ⟨w2.heap.size,0,none⟩=false:=λW' hb=>by
   have h1:=hseg.keep (zac hb);have h2:=hS.keep (zac hb) (hb.mono hS.bel.size)
   exact⟨h1.h0,h1.h1,h1.h2,h1.h3,h2.q0,h2.q1,h2.r1,h2.f1,h2.r2,h2.f2,h2.ic,h2.fi⟩
  have KS:=hid hks;clear hks hseg hS hP hseq hS1 hr' HB2
  have hbb:zB W.heap.size W W:=zM _ W
  obtain⟨g0,g1,g2,g3,q0,q1,r1,f1,r2,f2,ic,fi⟩:=KS.out W hbb
  obtain⟨c1,hc1⟩:∃c,c=cmpR (cor l j).y q.y:=⟨_,rfl⟩
  obtain⟨c2,hc2⟩:∃c,c=cmpR (cor l (j+1)).y q.y:=⟨_,rfl⟩
  obtain⟨t,ht⟩:∃c,c=turn (cor l j) (cor l (j+1)) q:=⟨_,rfl⟩
  obtain⟨m,hm⟩:∃c,c=meet (cor l j) (cor l (j+1)) q q:=⟨_,rfl⟩
  obtain⟨z,hz⟩:∃z,z=insI l q j:=⟨_,rfl⟩
  have y1:=Y.out j;have y2:=Y.out (j+1);have t1:=T.out j;have m1:=M.out j
  rw[<-hc1] at y1;rw[<-hc2] at y2;rw[<-ht] at t1;rw[<-hm] at m1
  have hfl:ze5 l q j↔(c1<=0/\0<c2/\0<t)\/(c2<=0/\0<c1/\t<0):=by rw[hc1,hc2,ht];exact Iff.rfl
  have hi1:insI l q (j+1)=if ze5 l q j then-z else z:=by rw[hz];rfl
  have hzz:z=1\/z= -1:=by rw[hz];exact zm6 l q j
  have hon:onS l q j↔m=1:=by rw[hm];exact Iff.rfl
  have hwz:IntKind.i64.wrap (-z)= -z:=IntWalk.i64_in _ (by omega)
  rw[<-hz] at ic KS
  unfold segV ptV at*
  have Y1:=hid y1;have Y2:=hid y2;have T1:=hid t1;have MM:=hid m1
  have HF:=hid hfl;have HI:=hid hi1;have HO:=hid hon
  clear y1 y2 t1 m1 hfl hi1 hon hzz hc1 hc2 ht hm Y T M
  have HZ:=hid hz;clear hz
  generalize numS (cor l j).x=a1 at*
  generalize numS (cor l j).y=a2 at*
  generalize numS (cor l (j+1)).x=a3 at*
  generalize numS (cor l (j+1)).y=a4 at*
  gi_wp2
  all_goals first|exact(zzU ‹_›).elim|skip
  refine⟨trivial,(CallsIn.inRound lp (callsIn_wide.2 (MM.out W (HW.out.below (hbl.trans (hbb.mono hbl.size)))))).mono ?_⟩
  rintro e X1 ⟨rfl,hbn⟩
  have hbx:=hbb.trans (hbn.mono hbb.size)
  clear hbb hbn g0 g1 g2 g3 q0 q1 r1 f1 r2 f2 ic fi
  have hbb:=hbx;clear hbx
  obtain⟨g0,g1,g2,g3,q0,q1,r1,f1,r2,f2,ic,fi⟩:=KS.out X1 hbb
  have hend:∀X:zA,zB W.heap.size W X->m≠1->¬ze5 l q j->KeepsFrom W1.heap.size W X/\InsS w p cap n l q w2.heap.size (j+1) X/\∀i,i<j+1->¬onS l q i:=by
   intro X hb hm hf
   obtain⟨hS,hP⟩:=H0.out
   have h:=hS.keep (zac hb) (hb.mono hS.bel.size)
   refine⟨(za0 hb).from _,⟨h.bel,h.ib1,h.q0,h.q1,h.r1,h.f1,h.r2,h.f2,?_,h.fi,h.cbx,h.pts⟩,λi hi=>?_⟩
   ·rw[HI.out,if_neg hf,HZ.out];exact h.ic
   ·by_cases e:i=j
    ·subst e;rw[HO.out];exact hm
    ·exact hP i (by omega)
  have hflip:∀X:zA,zB W.heap.size W X->m≠1->ze5 l q j->KeepsFrom W1.heap.size W (X.setCell ⟨w2.heap.size,0,none⟩ (.int .i64 (-z)))/\InsS w p cap n l q w2.heap.size (j+1) (X.setCell ⟨w2.heap.size,0,none⟩ (.int .i64 (-z)))/\∀i,i<j+1->¬onS l q i:=by
   intro X hb hm hf
   obtain⟨hS,hP⟩:=H0.out
   have h:=(hS.keep (zac hb) (hb.mono hS.bel.size)).put (k':=j+1)
   rw[HI.out,if_pos hf] at h
   refine⟨((za0 hb).from _).trans ((KeepsOthers.setCell _ _ _).from _),h,λi hi=>?_⟩
   by_cases e:i=j
   ·subst e;rw[HO.out];exact hm
   ·exact hP i (by omega)
  have HEnd:=hid hend;have HFlip:=hid hflip;clear hend hflip
  by_cases hm:m=1
  ·have hmb:(m==1)=true:=by simpa using hm
   have HM:=hid hm;clear hm
   gi_wp2
   obtain⟨hS,hP⟩:=H0.out
   refine⟨((za0 hbb).from _).trans (((KeepsOthers.setCell _ _ _).from _).trans ((KeepsOthers.setCell _ _ _).from _)),rfl,((hbl.trans (hbb.mono hbl.size)).setCell (p:=⟨w.heap.size+1,0,none⟩) (by simp) _).setCell (p:=⟨w.heap.size+1+1,0,none⟩) (by simp;omega) _,?_,?_,j,hj,HO.out.2 HM.out⟩
   ·rw[zau _ _ _ _ (by omega)];exact za9 r1
   ·exact za9 (by rw[zau _ _ _ _ (by omega)];exact r2)
  ·have hmb:(m==1)=false:=by simpa using hm
   have HM:=hid hm;clear hm
   rcases(show(decide (c1<=0)=true/\decide (0<c1)=false)\/(decide (c1<=0)=false/\decide (0<c1)=true) by simp only[decide_eq_true_eq,decide_eq_false_iff_not];omega) with⟨d1,d2⟩|⟨d1,d2⟩<;>
   rcases(show(decide (0<c2)=true/\decide (c2<=0)=false)\/(decide (0<c2)=false/\decide (c2<=0)=true) by simp only[decide_eq_true_eq,decide_eq_false_iff_not];omega) with⟨e1,e2⟩|⟨e1,e2⟩
   ·gi_wp2
    all_goals first|exact(zzU ‹_›).elim|skip
    refine⟨trivial,(CallsIn.inRound lp (callsIn_wide.2 (Y1.out X1 (HW.out.below (hbl.trans (hbb.mono hbl.size)))))).mono ?_⟩
    rintro e X2 ⟨rfl,hbn⟩
    have hbx:=hbb.trans (hbn.mono hbb.size)
    clear hbb hbn g0 g1 g2 g3 q0 q1 r1 f1 r2 f2 ic fi
    have hbb:=hbx;clear hbx
    obtain⟨g0,g1,g2,g3,q0,q1,r1,f1,r2,f2,ic,fi⟩:=KS.out X2 hbb
    gi_wp2
    all_goals first|exact(zzU ‹_›).elim|skip
    refine⟨trivial,(CallsIn.inRound lp (callsIn_wide.2 (Y2.out X2 (HW.out.below (hbl.trans (hbb.mono hbl.size)))))).mono ?_⟩
    rintro e X3 ⟨rfl,hbn⟩
    have hbx:=hbb.trans (hbn.mono hbb.size)
    clear hbb hbn g0 g1 g2 g3 q0 q1 r1 f1 r2 f2 ic fi
    have hbb:=hbx;clear hbx
    obtain⟨g0,g1,g2,g3,q0,q1,r1,f1,r2,f2,ic,fi⟩:=KS.out X3 hbb
    gi_wp2
    all_goals first|exact(zzU ‹_›).elim|skip
    refine⟨trivial,(CallsIn.inRound lp (callsIn_wide.2 (Y2.out X3 (HW.out.below (hbl.trans (hbb.mono hbl.size)))))).mono ?_⟩
    rintro e X4 ⟨rfl,hbn⟩
    have hbx:=hbb.trans (hbn.mono hbb.size)
    clear hbb hbn g0 g1 g2 g3 q0 q1 r1 f1 r2 f2 ic fi
    have hbb:=hbx;clear hbx
    obtain⟨g0,g1,g2,g3,q0,q1,r1,f1,r2,f2,ic,fi⟩:=KS.out X4 hbb
    gi_wp2
    all_goals first|exact(zzU ‹_›).elim|skip
    refine⟨trivial,?_⟩
    gi_wp2
    all_goals first|exact(zzU ‹_›).elim|skip
    refine⟨trivial,(CallsIn.inRound lp (callsIn_wide.2 (T1.out X4 (HW.out.below (hbl.trans (hbb.mono hbl.size)))))).mono ?_⟩
    rintro e X5 ⟨rfl,hbn⟩
    have hbx:=hbb.trans (hbn.mono hbb.size)
    clear hbb hbn g0 g1 g2 g3 q0 q1 r1 f1 r2 f2 ic fi
    have hbb:=hbx;clear hbx
    obtain⟨g0,g1,g2,g3,q0,q1,r1,f1,r2,f2,ic,fi⟩:=KS.out X5 hbb
    rcases(show(decide (0<t)=true/\decide (t<0)=false)\/(decide (0<t)=false/\decide (t<0)=true)\/(decide (0<t)=false/\decide (t<0)=false) by simp only[decide_eq_true_eq,decide_eq_false_iff_not];omega) with⟨t1,t2⟩|⟨t1,t2⟩|⟨t1,t2⟩
    ·have HD:=hid (⟨⟨d1,d2⟩,⟨e1,e2⟩,⟨t1,t2⟩⟩:(_/\_)/\(_/\_)/\(_/\_))
     gi_wp2
     all_goals first|exact(zzU ‹_›).elim|skip
     obtain⟨⟨d1,d2⟩,⟨e1,e2⟩,⟨t1,t2⟩⟩:=HD.out
     simp only[decide_eq_true_eq,decide_eq_false_iff_not] at d1 d2 e1 e2 t1 t2
     exact HFlip.out _ hbb HM.out (by rw[HF.out];omega)
    ·have HD:=hid (⟨⟨d1,d2⟩,⟨e1,e2⟩,⟨t1,t2⟩⟩:(_/\_)/\(_/\_)/\(_/\_))
     gi_wp2
     all_goals first|exact(zzU ‹_›).elim|skip
     obtain⟨⟨d1,d2⟩,⟨e1,e2⟩,⟨t1,t2⟩⟩:=HD.out
     simp only[decide_eq_true_eq,decide_eq_false_iff_not] at d1 d2 e1 e2 t1 t2
     exact HEnd.out _ hbb HM.out (by rw[HF.out];omega)
    ·have HD:=hid (⟨⟨d1,d2⟩,⟨e1,e2⟩,⟨t1,t2⟩⟩:(_/\_)/\(_/\_)/\(_/\_))
     gi_wp2
     all_goals first|exact(zzU ‹_›).elim|skip
     obtain⟨⟨d1,d2⟩,⟨e1,e2⟩,⟨t1,t2⟩⟩:=HD.out
     simp only[decide_eq_true_eq,decide_eq_false_iff_not] at d1 d2 e1 e2 t1 t2
     exact HEnd.out _ hbb HM.out (by rw[HF.out];omega)
   ·gi_wp2
    all_goals first|exact(zzU ‹_›).elim|skip
    refine⟨trivial,(CallsIn.inRound lp (callsIn_wide.2 (Y1.out X1 (HW.out.below (hbl.trans (hbb.mono hbl.size)))))).mono ?_⟩
    rintro e X2 ⟨rfl,hbn⟩
    have hbx:=hbb.trans (hbn.mono hbb.size)
    clear hbb hbn g0 g1 g2 g3 q0 q1 r1 f1 r2 f2 ic fi
    have hbb:=hbx;clear hbx
    obtain⟨g0,g1,g2,g3,q0,q1,r1,f1,r2,f2,ic,fi⟩:=KS.out X2 hbb
    gi_wp2
    all_goals first|exact(zzU ‹_›).elim|skip
    refine⟨trivial,(CallsIn.inRound lp (callsIn_wide.2 (Y2.out X2 (HW.out.below (hbl.trans (hbb.mono hbl.size)))))).mono ?_⟩
    rintro e X3 ⟨rfl,hbn⟩
    have hbx:=hbb.trans (hbn.mono hbb.size)
    clear hbb hbn g0 g1 g2 g3 q0 q1 r1 f1 r2 f2 ic fi
    have hbb:=hbx;clear hbx
    obtain⟨g0,g1,g2,g3,q0,q1,r1,f1,r2,f2,ic,fi⟩:=KS.out X3 hbb
    gi_wp2
    all_goals first|exact(zzU ‹_›).elim|skip
    refine⟨trivial,(CallsIn.inRound lp (callsIn_wide.2 (Y2.out X3 (HW.out.below (hbl.trans (hbb.mono hbl.size)))))).mono ?_⟩
    rintro e X4 ⟨rfl,hbn⟩
    have hbx:=hbb.trans (hbn.mono hbb.size)
    clear hbb hbn g0 g1 g2 g3 q0 q1 r1 f1 r2 f2 ic fi
    have hbb:=hbx;clear hbx
    obtain⟨g0,g1,g2,g3,q0,q1,r1,f1,r2,f2,ic,fi⟩:=KS.out X4 hbb
    gi_wp2
    all_goals first|exact(zzU ‹_›).elim|skip
    refine⟨trivial,(CallsIn.inRound lp (callsIn_wide.2 (Y1.out X4 (HW.out.below (hbl.trans (hbb.mono hbl.size)))))).mono ?_⟩
    rintro e X5 ⟨rfl,hbn⟩
    have hbx:=hbb.trans (hbn.mono hbb.size)
    clear hbb hbn g0 g1 g2 g3 q0 q1 r1 f1 r2 f2 ic fi
    have hbb:=hbx;clear hbx
    obtain⟨g0,g1,g2,g3,q0,q1,r1,f1,r2,f2,ic,fi⟩:=KS.out X5 hbb
    gi_wp2
    all_goals first|exact(zzU ‹_›).elim|skip
    refine⟨trivial,(CallsIn.inRound lp (callsIn_wide.2 (T1.out X5 (HW.out.below (hbl.trans (hbb.mono hbl.size)))))).mono ?_⟩
    rintro e X6 ⟨rfl,hbn⟩
    have hbx:=hbb.trans (hbn.mono hbb.size)
    clear hbb hbn g0 g1 g2 g3 q0 q1 r1 f1 r2 f2 ic fi
    have hbb:=hbx;clear hbx
    obtain⟨g0,g1,g2,g3,q0,q1,r1,f1,r2,f2,ic,fi⟩:=KS.out X6 hbb
    rcases(show(decide (0<t)=true/\decide (t<0)=false)\/(decide (0<t)=false/\decide (t<0)=true)\/(decide (0<t)=false/\decide (t<0)=false) by simp only[decide_eq_true_eq,decide_eq_false_iff_not];omega) with⟨t1,t2⟩|⟨t1,t2⟩|⟨t1,t2⟩
    ·have HD:=hid (⟨⟨d1,d2⟩,⟨e1,e2⟩,⟨t1,t2⟩⟩:(_/\_)/\(_/\_)/\(_/\_))
     gi_wp2
     all_goals first|exact(zzU ‹_›).elim|skip
     obtain⟨⟨d1,d2⟩,⟨e1,e2⟩,⟨t1,t2⟩⟩:=HD.out
     simp only[decide_eq_true_eq,decide_eq_false_iff_not] at d1 d2 e1 e2 t1 t2
     exact HEnd.out _ hbb HM.out (by rw[HF.out];omega)
    ·have HD:=hid (⟨⟨d1,d2⟩,⟨e1,e2⟩,⟨t1,t2⟩⟩:(_/\_)/\(_/\_)/\(_/\_))
     gi_wp2
     all_goals first|exact(zzU ‹_›).elim|skip
     obtain⟨⟨d1,d2⟩,⟨e1,e2⟩,⟨t1,t2⟩⟩:=HD.out
     simp only[decide_eq_true_eq,decide_eq_false_iff_not] at d1 d2 e1 e2 t1 t2
     exact HEnd.out _ hbb HM.out (by rw[HF.out];omega)
    ·have HD:=hid (⟨⟨d1,d2⟩,⟨e1,e2⟩,⟨t1,t2⟩⟩:(_/\_)/\(_/\_)/\(_/\_))
     gi_wp2
     all_goals first|exact(zzU ‹_›).elim|skip
     obtain⟨⟨d1,d2⟩,⟨e1,e2⟩,⟨t1,t2⟩⟩:=HD.out
     simp only[decide_eq_true_eq,decide_eq_false_iff_not] at d1 d2 e1 e2 t1 t2
     exact HEnd.out _ hbb HM.out (by rw[HF.out];omega)
   ·gi_wp2
    all_goals first|exact(zzU ‹_›).elim|skip
    refine⟨trivial,(CallsIn.inRound lp (callsIn_wide.2 (Y1.out X1 (HW.out.below (hbl.trans (hbb.mono hbl.size)))))).mono ?_⟩
    rintro e X2 ⟨rfl,hbn⟩
    have hbx:=hbb.trans (hbn.mono hbb.size)
    clear hbb hbn g0 g1 g2 g3 q0 q1 r1 f1 r2 f2 ic fi
    have hbb:=hbx;clear hbx
    obtain⟨g0,g1,g2,g3,q0,q1,r1,f1,r2,f2,ic,fi⟩:=KS.out X2 hbb
    gi_wp2
    all_goals first|exact(zzU ‹_›).elim|skip
    refine⟨trivial,?_⟩
    gi_wp2
    all_goals first|exact(zzU ‹_›).elim|skip
    refine⟨trivial,(CallsIn.inRound lp (callsIn_wide.2 (Y2.out X2 (HW.out.below (hbl.trans (hbb.mono hbl.size)))))).mono ?_⟩
    rintro e X3 ⟨rfl,hbn⟩
    have hbx:=hbb.trans (hbn.mono hbb.size)
    clear hbb hbn g0 g1 g2 g3 q0 q1 r1 f1 r2 f2 ic fi
    have hbb:=hbx;clear hbx
    obtain⟨g0,g1,g2,g3,q0,q1,r1,f1,r2,f2,ic,fi⟩:=KS.out X3 hbb
    gi_wp2
    all_goals first|exact(zzU ‹_›).elim|skip
    refine⟨trivial,?_⟩
    gi_wp2
    all_goals first|exact(zzU ‹_›).elim|skip
    refine⟨trivial,(CallsIn.inRound lp (callsIn_wide.2 (T1.out X3 (HW.out.below (hbl.trans (hbb.mono hbl.size)))))).mono ?_⟩
    rintro e X4 ⟨rfl,hbn⟩
    have hbx:=hbb.trans (hbn.mono hbb.size)
    clear hbb hbn g0 g1 g2 g3 q0 q1 r1 f1 r2 f2 ic fi
    have hbb:=hbx;clear hbx
    obtain⟨g0,g1,g2,g3,q0,q1,r1,f1,r2,f2,ic,fi⟩:=KS.out X4 hbb
    rcases(show(decide (0<t)=true/\decide (t<0)=false)\/(decide (0<t)=false/\decide (t<0)=true)\/(decide (0<t)=false/\decide (t<0)=false) by simp only[decide_eq_true_eq,decide_eq_false_iff_not];omega) with⟨t1,t2⟩|⟨t1,t2⟩|⟨t1,t2⟩
    ·have HD:=hid (⟨⟨d1,d2⟩,⟨e1,e2⟩,⟨t1,t2⟩⟩:(_/\_)/\(_/\_)/\(_/\_))
     gi_wp2
     all_goals first|exact(zzU ‹_›).elim|skip
     obtain⟨⟨d1,d2⟩,⟨e1,e2⟩,⟨t1,t2⟩⟩:=HD.out
     simp only[decide_eq_true_eq,decide_eq_false_iff_not] at d1 d2 e1 e2 t1 t2
     exact HEnd.out _ hbb HM.out (by rw[HF.out];omega)
    ·have HD:=hid (⟨⟨d1,d2⟩,⟨e1,e2⟩,⟨t1,t2⟩⟩:(_/\_)/\(_/\_)/\(_/\_))
     gi_wp2
     all_goals first|exact(zzU ‹_›).elim|skip
     obtain⟨⟨d1,d2⟩,⟨e1,e2⟩,⟨t1,t2⟩⟩:=HD.out
     simp only[decide_eq_true_eq,decide_eq_false_iff_not] at d1 d2 e1 e2 t1 t2
     exact HEnd.out _ hbb HM.out (by rw[HF.out];omega)
    ·have HD:=hid (⟨⟨d1,d2⟩,⟨e1,e2⟩,⟨t1,t2⟩⟩:(_/\_)/\(_/\_)/\(_/\_))
     gi_wp2
     all_goals first|exact(zzU ‹_›).elim|skip
     obtain⟨⟨d1,d2⟩,⟨e1,e2⟩,⟨t1,t2⟩⟩:=HD.out
     simp only[decide_eq_true_eq,decide_eq_false_iff_not] at d1 d2 e1 e2 t1 t2
     exact HEnd.out _ hbb HM.out (by rw[HF.out];omega)
   ·gi_wp2
    all_goals first|exact(zzU ‹_›).elim|skip
    refine⟨trivial,(CallsIn.inRound lp (callsIn_wide.2 (Y1.out X1 (HW.out.below (hbl.trans (hbb.mono hbl.size)))))).mono ?_⟩
    rintro e X2 ⟨rfl,hbn⟩
    have hbx:=hbb.trans (hbn.mono hbb.size)
    clear hbb hbn g0 g1 g2 g3 q0 q1 r1 f1 r2 f2 ic fi
    have hbb:=hbx;clear hbx
    obtain⟨g0,g1,g2,g3,q0,q1,r1,f1,r2,f2,ic,fi⟩:=KS.out X2 hbb
    gi_wp2
    all_goals first|exact(zzU ‹_›).elim|skip
    refine⟨trivial,?_⟩
    gi_wp2
    all_goals first|exact(zzU ‹_›).elim|skip
    refine⟨trivial,(CallsIn.inRound lp (callsIn_wide.2 (Y2.out X2 (HW.out.below (hbl.trans (hbb.mono hbl.size)))))).mono ?_⟩
    rintro e X3 ⟨rfl,hbn⟩
    have hbx:=hbb.trans (hbn.mono hbb.size)
    clear hbb hbn g0 g1 g2 g3 q0 q1 r1 f1 r2 f2 ic fi
    have hbb:=hbx;clear hbx
    obtain⟨g0,g1,g2,g3,q0,q1,r1,f1,r2,f2,ic,fi⟩:=KS.out X3 hbb
    gi_wp2
    all_goals first|exact(zzU ‹_›).elim|skip
    refine⟨trivial,(CallsIn.inRound lp (callsIn_wide.2 (Y1.out X3 (HW.out.below (hbl.trans (hbb.mono hbl.size)))))).mono ?_⟩
    rintro e X4 ⟨rfl,hbn⟩
    have hbx:=hbb.trans (hbn.mono hbb.size)
    clear hbb hbn g0 g1 g2 g3 q0 q1 r1 f1 r2 f2 ic fi
    have hbb:=hbx;clear hbx
    obtain⟨g0,g1,g2,g3,q0,q1,r1,f1,r2,f2,ic,fi⟩:=KS.out X4 hbb
    gi_wp2
    all_goals first|exact(zzU ‹_›).elim|skip
    refine⟨trivial,(CallsIn.inRound lp (callsIn_wide.2 (T1.out X4 (HW.out.below (hbl.trans (hbb.mono hbl.size)))))).mono ?_⟩
    rintro e X5 ⟨rfl,hbn⟩
    have hbx:=hbb.trans (hbn.mono hbb.size)
    clear hbb hbn g0 g1 g2 g3 q0 q1 r1 f1 r2 f2 ic fi
    have hbb:=hbx;clear hbx
    obtain⟨g0,g1,g2,g3,q0,q1,r1,f1,r2,f2,ic,fi⟩:=KS.out X5 hbb
    rcases(show(decide (0<t)=true/\decide (t<0)=false)\/(decide (0<t)=false/\decide (t<0)=true)\/(decide (0<t)=false/\decide (t<0)=false) by simp only[decide_eq_true_eq,decide_eq_false_iff_not];omega) with⟨t1,t2⟩|⟨t1,t2⟩|⟨t1,t2⟩
    ·have HD:=hid (⟨⟨d1,d2⟩,⟨e1,e2⟩,⟨t1,t2⟩⟩:(_/\_)/\(_/\_)/\(_/\_))
     gi_wp2
     all_goals first|exact(zzU ‹_›).elim|skip
     obtain⟨⟨d1,d2⟩,⟨e1,e2⟩,⟨t1,t2⟩⟩:=HD.out
     simp only[decide_eq_true_eq,decide_eq_false_iff_not] at d1 d2 e1 e2 t1 t2
     exact HEnd.out _ hbb HM.out (by rw[HF.out];omega)
    ·have HD:=hid (⟨⟨d1,d2⟩,⟨e1,e2⟩,⟨t1,t2⟩⟩:(_/\_)/\(_/\_)/\(_/\_))
     gi_wp2
     all_goals first|exact(zzU ‹_›).elim|skip
     obtain⟨⟨d1,d2⟩,⟨e1,e2⟩,⟨t1,t2⟩⟩:=HD.out
     simp only[decide_eq_true_eq,decide_eq_false_iff_not] at d1 d2 e1 e2 t1 t2
     exact HFlip.out _ hbb HM.out (by rw[HF.out];omega)
    ·have HD:=hid (⟨⟨d1,d2⟩,⟨e1,e2⟩,⟨t1,t2⟩⟩:(_/\_)/\(_/\_)/\(_/\_))
     gi_wp2
     all_goals first|exact(zzU ‹_›).elim|skip
     obtain⟨⟨d1,d2⟩,⟨e1,e2⟩,⟨t1,t2⟩⟩:=HD.out
     simp only[decide_eq_true_eq,decide_eq_false_iff_not] at d1 d2 e1 e2 t1 t2
     exact HEnd.out _ hbb HM.out (by rw[HF.out];omega)
 case done=>
  rintro D W hD ⟨hS,hP⟩ hK
  have ic:=hS.ic;have r1:=hS.r1;have f1:=hS.f1;have r2:=hS.r2;have f2:=hS.f2
  obtain⟨z,hz⟩:∃z,z=insI l q n:=⟨_,rfl⟩
  rw[<-hz] at ic
  have HX:=hid (⟨hS.bel,hK,hP⟩:zB w.heap.size w W/\W.heap[D]? =some (.deferred (some []))/\∀i,i<n->¬onS l q i)
  have HZ:=hid hz
  clear hS hP hK hseq hS1 hz Y T M HB2
  gi_wp2
  obtain⟨hbel,hK,hP⟩:=HX.out
  have hK1:=(KeepsOthers.setCell W ⟨w.heap.size+1,0,none⟩ (.int .i64 z)).same D _ hK rfl
  have hK':=(KeepsOthers.setCell (W.setCell ⟨w.heap.size+1,0,none⟩ (.int .i64 z)) ⟨w.heap.size+1+1,0,none⟩ (.int .i64 0)).same D _ hK1 rfl
  refine⟨by simp,.inl ⟨_,_,rfl,run_takeDeferred hK',?_⟩⟩
  have c1:=za9 (u:=.int .i64 z) r1
  have c2:(W.setCell ⟨w.heap.size+1,0,none⟩ (.int .i64 z)).cell? ⟨w.heap.size+1+1,0,none⟩=some (I 0):=by rw[zau _ _ _ _ (by omega)];exact r2
  have c3:=za9 (u:=.int .i64 0) c2
  have c4:((W.setCell ⟨w.heap.size+1,0,none⟩ (.int .i64 z)).setCell ⟨w.heap.size+1+1,0,none⟩ (.int .i64 0)).cell? ⟨w.heap.size+1,0,none⟩=some (.int .i64 z):=by rw[zau _ _ _ _ (by omega)];exact c1
  have e1:=(zbk hK').cell c4
  have e2:=(zbk hK').cell c3
  refine⟨.tuple #[.int .i64 z,.int .i64 0],?_,z,rfl,.inr ⟨λk hk=>hP k hk,HZ.out⟩,zby ((hbel.setCell (p:=⟨w.heap.size+1,0,none⟩) (by simp) _).setCell (p:=⟨w.heap.size+1+1,0,none⟩) (by simp;omega) _) (by have:=HS1.out;omega) hK'⟩
  simp[results,Tryz.f8,go_sem,e1,e2]
 case stop=>
  rintro D c k W hD ⟨rfl,hbel,r1,r2,hon⟩ hK
  have HX:=hid (⟨hbel,hon⟩:zB w.heap.size w W/\∃k,k<n/\onS l q k);clear hbel hon hseq hS1
  gi_wp2
  refine⟨by simp,.inl ⟨_,_,rfl,run_takeDeferred hK,?_⟩⟩
  have e1:=(zbk hK).cell r1
  have e2:=(zbk hK).cell r2
  obtain⟨k',h1,h2⟩:=HX.out.2
  refine⟨.tuple #[.int .i64 0,.int .i64 0],?_,0,rfl,.inl ⟨⟨k',h1,h2⟩,rfl⟩,zby HX.out.1 (by have:=HS1.out;omega) hK⟩
  simp[results,Tryz.f8,go_sem,e1,e2]
theorem zll (p:Option Addr) (cap:Nat) (l:List Pt) (q:Pt) (h3:3<=l.length) (hlen:l.length<=4096) (hz:∀i,szP (cor l i) 36) (hq:szP q 36) (hs:zch l) (hm:zbz l) (w:zA) (hw:Wd w) (hp:RowPts p l w):
 Calls zF 8 #[.slice p l.length cap,ptV q] w λe w'=>∃r:Int,e=.returned (.tuple #[.int .i64 r,.int .i64 0])/\(((∃k,k<l.length/\onS l q k)/\r=0)\/((∀k,k<l.length->¬onS l q k)/\r=insI l q l.length))/\zB w.heap.size w w':=
 ztn p cap l q h3 hlen (hid λW hW hp=>zj5 p cap l h3 hlen hz hs hm W hW hp) (hid λW hW=>zdi q hq W hW)
  (hid λk W hW=>zol _ _ _ _ 36 (by omega) (by omega) (hz _) (hz _) hq hq W hW) (hid λk W hW=>zlr _ _ 36 36 (by omega) (by omega) (by omega) (hz _).2 hq.2 W hW)
  (hid λk W hW=>zjg _ _ _ 36 (by omega) (by omega) (hz _) (hz _) hq W hW) w (hid hw) (hid hp)
def sqS (l:List Pt) (k:Nat):Rat:=((cor l (k+1)).x-(cor l k).x)*((cor l (k+1)).x-(cor l k).x)+((cor l (k+1)).y-(cor l k).y)*((cor l (k+1)).y-(cor l k).y)
def zd2 (l:List Pt):Nat->List Value
 |0=>[]
 |k+1=>zd2 l k++[St [49],St (numS (sqS l k))]
theorem zkj (l:List Pt):∀k,(zd2 l k).length=2*k
 |0=>rfl
 |k+1=>by simp[zd2,zkj l k];omega
theorem zpp (l:List Pt):∀k i,i<k->(zd2 l k)[2*i]? =some (St [49])/\(zd2 l k)[2*i+1]? =some (St (numS (sqS l i)))
 |k+1,i,h=>by
  have hl:=zkj l k
  by_cases e:i=k
  ·subst e
   unfold zd2
   rw[List.getElem?_append_right (by omega),List.getElem?_append_right (by omega),hl]
   simp
  ·have:=zpp l k i (by omega)
   unfold zd2
   rw[List.getElem?_append_left (by omega),List.getElem?_append_left (by omega)]
   exact this
theorem zye {w:zA} {base:Nat} {t:TypeId} {s:Nat} {v:Value} {n:Nat} {xs:List Value} (h:w.ownsRow base t s v n xs) (hn:0<n):
 ∃g c,v=.slice (some ⟨g,0,none⟩) n c/\base<=g/\∀i u,xs[i]? =some u->w.cell? ⟨g,i,none⟩=some u:=by
 rcases h.2 with⟨_,e⟩|⟨g,cp,cur,e,hg1,hg2,_,_,hcs,htk⟩
 ·omega
 ·refine⟨g,cp,e,hg1,λi u hu=>?_⟩
  rw[zJ hg2,<-Array.getElem?_toList]
  rw[<-htk,List.getElem?_take] at hu
  split at hu
  ·exact hu
  ·cases hu
structure PerS (w:zA) (p:Option Addr) (cap n:Nat) (l:List Pt) (bt j:Nat) (W:zA):Prop where
 bel:zB w.heap.size w W
 bt1:w.heap.size+2<=bt
 r1:W.cell? ⟨w.heap.size,0,none⟩=some (.slice none 0 0)
 f1:W.frozen? ⟨w.heap.size,0,none⟩=false
 r2:W.cell? ⟨w.heap.size+1,0,none⟩=some (I 0)
 f2:W.frozen? ⟨w.heap.size+1,0,none⟩=false
 pts:∀i,i<n->∃b off,p=some ⟨b,off,none⟩/\b<w.heap.size/\W.cell? ⟨b,off+i*2,none⟩=some (St (ptOf (txt l) i).1)/\W.cell? ⟨b,off+i*2+1,none⟩=some (St (ptOf (txt l) i).2)
 cbx:W.cell? ⟨bt+1,0,none⟩=some (.slice p n cap)
 box:∃v,W.cell? ⟨bt,0,none⟩=some v/\W.ownsRow (bt+2) 57 2 v j (zd2 l j)
 fr:W.frozen? ⟨bt,0,none⟩=false
theorem PerS.keep {w:zA} {p:Option Addr} {cap n:Nat} {l:List Pt} {bt j:Nat} {W W':zA} (h:PerS w p cap n l bt j W) (hc:CellsKept W W') (hb:zB w.heap.size W W'):PerS w p cap n l bt j W':=
 ⟨h.bel.trans hb,h.bt1,hc.cell h.r1,hc.frozen h.r1 h.f1,hc.cell h.r2,hc.frozen h.r2 h.f2,λi hi=>let ⟨b,off,e,h0,h1,h2⟩:=h.pts i hi;⟨b,off,e,h0,hc.cell h1,hc.cell h2⟩,hc.cell h.cbx,let ⟨v,h1,h2⟩:=h.box;⟨v,hc.cell h1,zcj hc h2⟩,let ⟨_,h1,_⟩:=h.box;hc.frozen h1 h.fr⟩
theorem PerS.ptsAt {w:zA} {p:Option Addr} {cap n:Nat} {l:List Pt} {bt j:Nat} {W:zA} (hn:n=l.length) (h:PerS w p cap n l bt j W):zls (bt+1) p cap (txt l) W:=
 ⟨by rw[za2,<-hn];exact h.cbx,λi hi=>let ⟨b,off,e,_,h1,h2⟩:=h.pts i (by rw[za2] at hi;omega);⟨b,off,e,h1,h2⟩⟩
theorem z0i {w:zA} {p:Option Addr} {cap n:Nat} {l:List Pt} {bt j:Nat} {W Y Z:zA} {v v':Value} (h:PerS w p cap n l bt j W) (hv:W.cell? ⟨bt,0,none⟩=some v) (hown:W.ownsRow (bt+2) 57 2 v j (zd2 l j))
 (hY:zB W.heap.size W Y) (hZ:Y.grownBy Z v.ownBlock) (hz:Z.ownsRow (bt+2) 57 2 v' (j+1) (zd2 l (j+1))) (B:Nat):
 KeepsFrom B W (Z.setCell ⟨bt,0,none⟩ v')/\PerS w p cap n l bt (j+1) (Z.setCell ⟨bt,0,none⟩ v'):=by
 have ck:=zac hY
 have hS:=h.keep ck (hY.mono h.bel.size)
 have ho:=zcj ck hown
 have hlt:∀q,v.ownBlock=some q->bt+2<=q:=λq e=>(ho.lt q e).1
 have hne:∀b,b<bt+2->some b≠v.ownBlock:=λb hb e=>by have:=hlt b e.symm;omega
 have hbt:=h.bt1
 have cz:∀{b o:Nat} {x:Value},b<bt+2->Y.cell? ⟨b,o,none⟩=some x->Z.cell? ⟨b,o,none⟩=some x:=λhb hc=>hZ.cell hc (hne _ hb)
 have hYs:bt<Y.heap.size:=zbe (ck.cell hv)
 refine⟨?_,?_,hbt,?_,?_,?_,?_,λi hi=>?_,?_,⟨v',?_,?_⟩,?_⟩
 ·refine((za0 hY).from B).trans (((KeepsOthers.of_grownBy hZ ?_).from B).trans ((KeepsOthers.setCell _ _ _).from B))
  intro q o e hq
  rcases ho.2 with⟨rfl,_⟩|⟨g,cp,cur,rfl,_,hg,_⟩
  ·simp[Value.ownBlock] at e
  ·simp[Value.ownBlock] at e;subst e;rw[hg] at hq;cases hq;rfl
 ·exact((hS.bel.grown hZ (by have:=zbe hS.cbx;simp at this;omega) (λq e=>by have:=hlt q e;omega))).setCell (by simp;omega) _
 ·rw[zau _ _ _ _ (by omega)];exact cz (by omega) hS.r1
 ·rw[World.frozen?_setCell,World.frozen?_of_block (a:=⟨w.heap.size,0,none⟩) (hZ.block w.heap.size (by omega) (hne _ (by omega)))];exact hS.f1
 ·rw[zau _ _ _ _ (by omega)];exact cz (by omega) hS.r2
 ·rw[World.frozen?_setCell,World.frozen?_of_block (a:=⟨w.heap.size+1,0,none⟩) (hZ.block (w.heap.size+1) (by omega) (hne _ (by omega)))];exact hS.f2
 ·obtain⟨b,off,e,h0,h1,h2⟩:=hS.pts i hi
  exact⟨b,off,e,h0,by rw[zau _ _ _ _ (by omega)];exact cz (by omega) h1,by rw[zau _ _ _ _ (by omega)];exact cz (by omega) h2⟩
 ·rw[zau _ _ _ _ (by omega)];exact cz (by omega) hS.cbx
 ·exact za9 (cz (by omega) (ck.cell hv))
 ·exact ownsRow_setCell_below hz (by simp) _
 ·rw[World.frozen?_setCell,World.frozen?_of_block (a:=⟨bt,0,none⟩) (hZ.block bt hYs (hne bt (by omega)))];exact hS.fr
structure MadeC (w:zA) (Ψ :Option Addr->Nat->Nat->Int->zA->Prop):Prop where
 keep:∀p m c k W W',Ψ p m c k W->(∀b o x,w.heap.size+2<=b->W.cell? ⟨b,o,none⟩=some x->W'.cell? ⟨b,o,none⟩=some x)-> Ψ p m c k W'
theorem z0j (p:Option Addr) (cap:Nat) (l:List Pt) (h3:3<=l.length) (hlen:l.length<=4096) (Ψ :Option Addr->Nat->Nat->Int->zA->Prop)
 (w:zA) (HW:Hid (∀W,zB w.heap.size w W->Wd W/\Pw W)) (HP:Hid (RowPts p l w)) (HM:Hid (MadeC w Ψ))
 (C:Hid (∀W:zA,Wd W->RowPts p l W->qJ 18 #[.slice p l.length cap] W (.int .i64 0)))
 (SX:Hid (∀k,k<l.length->qK 46 #[St (numS (cor l (k+1)).x),St (numS (cor l k).x)] (St (numS ((cor l (k+1)).x-(cor l k).x)))))
 (SY:Hid (∀k,k<l.length->qK 46 #[St (numS (cor l (k+1)).y),St (numS (cor l k).y)] (St (numS ((cor l (k+1)).y-(cor l k).y)))))
 (MX:Hid (∀k,k<l.length->qK 47 #[St (numS ((cor l (k+1)).x-(cor l k).x)),St (numS ((cor l (k+1)).x-(cor l k).x))] (St (numS (((cor l (k+1)).x-(cor l k).x)*((cor l (k+1)).x-(cor l k).x))))))
 (MY:Hid (∀k,k<l.length->qK 47 #[St (numS ((cor l (k+1)).y-(cor l k).y)),St (numS ((cor l (k+1)).y-(cor l k).y))] (St (numS (((cor l (k+1)).y-(cor l k).y)*((cor l (k+1)).y-(cor l k).y))))))
 (AD:Hid (∀k,k<l.length->qK 23 #[St (numS (((cor l (k+1)).x-(cor l k).x)*((cor l (k+1)).x-(cor l k).x))),St (numS (((cor l (k+1)).y-(cor l k).y)*((cor l (k+1)).y-(cor l k).y)))] (.tuple #[St (numS (sqS l k)),.int .i64 0])))
 (MK:Hid (∀g gc (W:zA),zB w.heap.size w W->w.heap.size+2<=W.heap.size->w.heap.size<=g->(∀i,i<l.length->W.cell? ⟨g,2*i,none⟩=some (.string ⟨#[49]⟩)/\W.cell? ⟨g,2*i+1,none⟩=some (St (numS (sqS l i))))->
   Calls zF 79 #[.slice (some ⟨g,0,none⟩) l.length gc] W λe w'=>∃q m c k,e=.returned (.tuple #[.slice q m c,.int .i64 k])/\zB W.heap.size W w'/\ Ψ q m c k w')):
 Calls zF 29 #[.slice p l.length cap] w λe w'=>∃q m c k,e=.returned (.tuple #[.slice q m c,.int .i64 k])/\zB w.heap.size w w'/\ Ψ q m c k w':=by
 obtain⟨i0,hi,hz0,hz1,hz2⟩:=info_parts zsc
 refine(callsIn_wide (n:=3)).1 ?_
 refine callsIn_of_wp_marks Tryz.func29 rfl trivial ?_ rfl
 simp only[Tryz.ntmps29,List.size_toArray,List.length_cons,List.length_nil,Nat.reduceAdd,Nat.reduceSub,Array.replicate_succ,Array.replicate_zero,List.push_toArray,List.append_toArray,List.nil_append,List.cons_append]
 obtain⟨n,hn⟩:∃n,n=l.length:=⟨_,rfl⟩
 obtain⟨w0,hw0⟩:∃w0,w0=(w.alloc (.cells #[.slice none 0 0] 52)).alloc (.cells #[.int .i64 0] 28):=⟨_,rfl⟩
 have b0:zB w.heap.size w w0:=by rw[hw0];exact((zM _ w).alloc (zN _) _).alloc (by simp) _
 have hCk:=C.out w0 (HW.out _ b0).1 (λi hi=>let ⟨b,off,e,h1,h2⟩:=HP.out i hi;⟨b,off,e,zai b0 h1,zai b0 h2⟩)
 rw[<-hn] at h3 hlen hCk⊢
 have hr0:w0.cell? ⟨w.heap.size,0,none⟩=some (.slice none 0 0)/\w0.frozen? ⟨w.heap.size,0,none⟩=false/\w0.cell? ⟨w.heap.size+1,0,none⟩=some (I 0)/\w0.frozen? ⟨w.heap.size+1,0,none⟩=false:=by
  have b1:=(Boxed.new w 52 (.slice none 0 0)).alloc (.cells #[.int .i64 0] 28)
  have b2:=Boxed.new (w.alloc (.cells #[.slice none 0 0] 52)) 28 (.int .i64 0)
  rw[zH] at b2
  rw[hw0]
  exact⟨b1.cell,b1.frozen,b2.cell,b2.frozen⟩
 have HB0:=hid (⟨b0,hr0⟩:_/\_)
 have HW0:=hid hw0
 have HN:=hid hn;clear hn hr0 b0 hw0
 have HCk:=hid hCk;clear hCk C
 gi_wp2
 rw[<-show w0=(w.alloc (.cells #[.slice none 0 0] 52)).alloc (.cells #[.int .i64 0] 28) from HW0.out]
 refine⟨trivial,(callsIn_wide.2 HCk.out).mono ?_⟩
 rintro e w1 ⟨rfl,hb1⟩
 have HB1:=hid (⟨HB0.out.1.trans (hb1.mono HB0.out.1.size),zai hb1 HB0.out.2.1,(zac hb1).frozen HB0.out.2.1 HB0.out.2.2.1,zai hb1 HB0.out.2.2.2.1,(zac hb1).frozen HB0.out.2.2.2.1 HB0.out.2.2.2.2⟩:_/\_/\_/\_/\_)
 clear hb1 HCk HB0 HW0
 gi_wp2_with (refine⟨trivial,?_⟩;gi_at_call 32;refine(callsIn_wide.2 (zfr _ _ _ _ _ rfl)).mono ?_;rintro e w' ⟨rfl,rfl⟩)
 obtain⟨W1,hW1⟩:∃W1,W1=(w1.alloc (.cells #[.slice none 0 0] 51)).alloc (.cells #[.slice p n cap] 22):=⟨_,rfl⟩
 rw[<-hW1]
 have hsz:w.heap.size+2<=w1.heap.size:=by have:=zbe HB1.out.2.2.2.1;simp at this;omega
 have hS1:PerS w p cap n l w1.heap.size 0 W1:=by
  obtain⟨hb,g1,g2,g3,g4⟩:=HB1.out
  have b1:=(Boxed.new w1 51 (.slice none 0 0)).alloc (.cells #[.slice p n cap] 22)
  have b2:=Boxed.new (w1.alloc (.cells #[.slice none 0 0] 51)) 22 (.slice p n cap)
  rw[zH] at b2
  have hw:zB w1.heap.size w1 ((w1.alloc (.cells #[.slice none 0 0] 51)).alloc (.cells #[.slice p n cap] 22)):=((zM _ w1).alloc (zN _) _).alloc (by simp) _
  have ck:=zac hw
  rw[hW1]
  refine⟨hb.trans (hw.mono hb.size),hsz,ck.cell g1,ck.frozen g1 g2,ck.cell g3,ck.frozen g3 g4,λi hi=>?_,b2.cell,⟨_,b1.cell,World.ownsRow_nil _ _ _ _⟩,b1.frozen⟩
  obtain⟨b,off,e,h1,h2⟩:=HP.out i (by rw[<-HN.out];exact hi)
  have hlt:=zbe h1
  exact⟨b,off,e,hlt,zai hw (by rw[hb.cell (p:=⟨b,off+i*2,none⟩) hlt];exact h1),zai hw (by rw[hb.cell (p:=⟨b,off+i*2+1,none⟩) hlt];exact h2)⟩
 have hsz1:W1.heap.size=w1.heap.size+2:=by rw[hW1];simp
 clear hW1
 have HS1:=hid hS1.bel.size
 have HZ:=hid (⟨hsz1,hsz⟩:_/\_)
 clear hsz1 hsz
 have hseq:=zgi 2 (by omega) (w1.heap.size+1) (txt l) (by rw[za2,<-HN.out];omega) (λW=>∃j,PerS w p cap n l w1.heap.size j W) p cap (λW ⟨j,h⟩=>h.ptsAt HN.out)
 rw[za2,<-HN.out] at hseq
 refine zfq (n:=3) (B:=w.heap.size) rfl (by omega) rfl trivial (enters_of Tryz.func82 (by kernel_rfl) rfl) hseq (λk args h=>by subst h;rfl) hS1.bel.size
  (λj W=>PerS w p cap n l w1.heap.size j W) (λc _ W=>False)
  (λj X Y h hc hb=>h.keep hc hb) (λc j X Y h hc hb=>h) (λj W h=>⟨j,h⟩) hS1
  (λj _ a' W=>∃bs,a'={tmps:= #[Value.slice p n cap,undef,.pointer (some ⟨w.heap.size,0,none⟩),.pointer (some ⟨w.heap.size+1,0,none⟩),.pointer (some ⟨w1.heap.size,0,none⟩),undef,.pointer (some ⟨bs,0,none⟩),undef,undef,undef,undef,Value.slice p n cap,.int .i64 0,.bool false,Value.slice p n cap,Value.func (Fn.func 82) #[] #[.pointer (some ⟨w1.heap.size+1,0,none⟩)],I j,segV (cor l j) (cor l (j+1)),undef,undef,undef,undef,undef,undef,undef,undef,undef,undef,undef,undef,undef,undef,undef,undef,undef,undef,undef,undef,undef,undef,undef,undef,undef,undef,undef,undef,undef,undef,undef,undef,undef,undef,undef,undef],defers:=[]}/\SegB bs (cor l j) (cor l (j+1)) W)
  (λj _ a' X Y h hc hb=>let ⟨bs,e,h2⟩:=h;⟨bs,e,hc _ _ _ _ h2⟩) ?assign ?body ?done ?stop
 case assign=>
  rintro lp j args W K hlp hrec hS hj rfl hK
  rw[zgj l j (by rw[<-HN.out];exact hj)]
  have HK:=hid hK;clear hK
  unfold segV
  gi_wp2
  have hb1:zB W.heap.size W (W.alloc (.cells #[St (numS (cor l j).x),St (numS (cor l j).y),St (numS (cor l (j+1)).x),St (numS (cor l (j+1)).y)] 63)):=(zM _ W).alloc (zN _) _
  exact HK.out _ _ ((za0 hb1).from _) (hS.keep (zac hb1) (hb1.mono hS.bel.size)) ⟨W.heap.size,rfl,zG W _⟩
 case body=>
  rintro lp j args a' W hlp ⟨r',hr'⟩ hS hj rfl ⟨bs,rfl,hseg⟩
  have hjl:j<l.length:=by rw[<-HN.out];exact hj
  have sx:=SX.out j hjl;have sy:=SY.out j hjl;have mx:=MX.out j hjl;have my:=MY.out j hjl;have ad:=AD.out j hjl
  obtain⟨v,hv,hown⟩:=hS.box
  obtain⟨vq,vm,vc,rfl⟩:∃q m c,v=.slice q m c:=by
   rcases hown.2 with⟨e,_⟩|⟨g,cp,cur,e,_⟩<;>exact⟨_,_,_,e⟩
  have H0:=hid hS
  have HT:=hid (show zd2 l (j+1)=zd2 l j++[St [49],St (numS (sqS l j))] from rfl)
  have HO:=hid hown
  obtain⟨u1,hu1⟩:∃u,u=numS ((cor l (j+1)).x-(cor l j).x):=⟨_,rfl⟩
  obtain⟨u2,hu2⟩:∃u,u=numS ((cor l (j+1)).y-(cor l j).y):=⟨_,rfl⟩
  obtain⟨u3,hu3⟩:∃u,u=numS (((cor l (j+1)).x-(cor l j).x)*((cor l (j+1)).x-(cor l j).x)):=⟨_,rfl⟩
  obtain⟨u4,hu4⟩:∃u,u=numS (((cor l (j+1)).y-(cor l j).y)*((cor l (j+1)).y-(cor l j).y)):=⟨_,rfl⟩
  obtain⟨u5,hu5⟩:∃u,u=numS (sqS l j):=⟨_,rfl⟩
  rw[<-hu1] at sx mx;rw[<-hu2] at sy my;rw[<-hu3] at mx ad;rw[<-hu4] at my ad;rw[<-hu5] at ad HT
  have Sx:=hid sx;have Sy:=hid sy;have Mx:=hid mx;have My:=hid my;have Ad:=hid ad
  obtain⟨q1,q2,q3,q4⟩:=hseg.at
  clear hseg sx sy mx my ad
  unfold segV
  generalize numS (cor l j).x=x1 at*
  generalize numS (cor l j).y=y1 at*
  generalize numS (cor l (j+1)).x=x2 at*
  generalize numS (cor l (j+1)).y=y2 at*
  have hbl:=H0.out.bel
  have KS:=hid (λ(w':zA) (hb:zB W.heap.size W w')=>(⟨zai hb q1,zai hb q2,zai hb q3,zai hb q4⟩:w'.cell? ⟨bs,0,none⟩=some (St x1)/\w'.cell? ⟨bs,1,none⟩=some (St y1)/\w'.cell? ⟨bs,2,none⟩=some (St x2)/\w'.cell? ⟨bs,3,none⟩=some (St y2)))
  have HV:=hid hv
  have WD:∀W',zB W.heap.size W W'->Wd W':=λW' h=>(HW.out _ (hbl.trans (h.mono hbl.size))).1
  have HWD:=hid WD
  clear q1 q2 q3 q4 hv hown hu1 hu2 hu3 hu4 hu5 hseq hS1 hr' hS SX SY MX MY AD MK WD
  gi_wp2
  refine zrq (λ(b:Unit) i=>([.pointer (some ⟨bs,2,none⟩),.pointer (some ⟨bs,2,none⟩),St x2,.pointer (some ⟨bs,0,none⟩),.pointer (some ⟨bs,0,none⟩),St x1,St u1,.pointer (some ⟨bs,2,none⟩),.pointer (some ⟨bs,3,none⟩),St y2,.pointer (some ⟨bs,0,none⟩),.pointer (some ⟨bs,1,none⟩),St y1,St u2,St u1,St u2]:List Value).getD i undef) (λ_ _ X=>zB W.heap.size W X) (by kernel_rfl) (by kernel_rfl) (by kernel_rfl) () ((zM _ W).drew) λb=>?_
  try simp only[zzQ]
  refine zag (.pointer (some ⟨bs,2,none⟩)) (by rfl) (by rfl) (λf W' h=>h) (λf W' hf h=>by go_simp) ?_
  try simp only[zzQ]
  refine zag (.pointer (some ⟨bs,2,none⟩)) (by rfl) (by rfl) (λf W' h=>h) (λf W' hf h=>by go_simp) ?_
  try simp only[zzQ]
  refine zag (St x2) (by rfl) (by rfl) (λf W' h=>h) (λf W' hf h=>by obtain⟨q0,q1,q2,q3⟩:=KS.out _ h;go_simp) ?_
  try simp only[zzQ]
  refine zag (.pointer (some ⟨bs,0,none⟩)) (by rfl) (by rfl) (λf W' h=>h) (λf W' hf h=>by go_simp) ?_
  try simp only[zzQ]
  refine zag (.pointer (some ⟨bs,0,none⟩)) (by rfl) (by rfl) (λf W' h=>h) (λf W' hf h=>by go_simp) ?_
  try simp only[zzQ]
  refine zag (St x1) (by rfl) (by rfl) (λf W' h=>h) (λf W' hf h=>by obtain⟨q0,q1,q2,q3⟩:=KS.out _ h;go_simp) ?_
  try simp only[zzQ]
  refine zbv (St u1) (by rfl) (by rfl) (λf W' hf h C' hC'=>by
   go_simp
   refine(Sx.out _ (HWD.out _ h)).mono ?_
   rintro e w' ⟨rfl,hb⟩
   exact⟨_,rfl,hC' _ (h.trans (hb.mono h.size))⟩) ?_
  try simp only[zzQ]
  refine zag (.pointer (some ⟨bs,2,none⟩)) (by rfl) (by rfl) (λf W' h=>h) (λf W' hf h=>by go_simp) ?_
  try simp only[zzQ]
  refine zag (.pointer (some ⟨bs,3,none⟩)) (by rfl) (by rfl) (λf W' h=>h) (λf W' hf h=>by go_simp) ?_
  try simp only[zzQ]
  refine zag (St y2) (by rfl) (by rfl) (λf W' h=>h) (λf W' hf h=>by obtain⟨q0,q1,q2,q3⟩:=KS.out _ h;go_simp) ?_
  try simp only[zzQ]
  refine zag (.pointer (some ⟨bs,0,none⟩)) (by rfl) (by rfl) (λf W' h=>h) (λf W' hf h=>by go_simp) ?_
  try simp only[zzQ]
  refine zag (.pointer (some ⟨bs,1,none⟩)) (by rfl) (by rfl) (λf W' h=>h) (λf W' hf h=>by go_simp) ?_
  try simp only[zzQ]
  refine zag (St y1) (by rfl) (by rfl) (λf W' h=>h) (λf W' hf h=>by obtain⟨q0,q1,q2,q3⟩:=KS.out _ h;go_simp) ?_
  try simp only[zzQ]
  refine zbv (St u2) (by rfl) (by rfl) (λf W' hf h C' hC'=>by
   go_simp
   refine(Sy.out _ (HWD.out _ h)).mono ?_
   rintro e w' ⟨rfl,hb⟩
   exact⟨_,rfl,hC' _ (h.trans (hb.mono h.size))⟩) ?_
  try simp only[zzQ]
  refine zag (St u1) (by rfl) (by rfl) (λf W' h=>h) (λf W' hf h=>by go_simp) ?_
  try simp only[zzQ]
  refine zag (St u2) (by rfl) (by rfl) (λf W' h=>h) (λf W' hf h=>by go_simp) ?_
  try simp only[zzQ]
  refine ze1 λf X hf hX=>?_
  gi_wp2
  refine⟨trivial,(CallsIn.inRound lp (callsIn_wide.2 (Mx.out X (HWD.out _ hX)))).mono ?_⟩
  rintro e X2 ⟨rfl,hbn⟩
  have hX2:=hX.trans (hbn.mono hX.size)
  clear hX hbn
  gi_wp2
  refine⟨trivial,(CallsIn.inRound lp (callsIn_wide.2 (My.out X2 (HWD.out _ hX2)))).mono ?_⟩
  rintro e X3 ⟨rfl,hbn⟩
  have hX3:=hX2.trans (hbn.mono hX2.size)
  clear hX2 hbn
  gi_wp2
  refine⟨trivial,(CallsIn.inRound lp (callsIn_wide.2 (Ad.out X3 (HWD.out _ hX3)))).mono ?_⟩
  rintro e X4 ⟨rfl,hbn⟩
  have hX4:=hX3.trans (hbn.mono hX3.size)
  clear hX3 hbn
  have ck:=zac hX4
  have g0:=ck.cell HV.out
  have g1:=ck.frozen HV.out H0.out.fr
  have HO4:=hid (zcj ck HO.out)
  clear ck
  have hbt:=H0.out.bt1
  have hlj:=hj
  have hX5:zB W.heap.size W (X4.alloc (.cells #[St [49],St u5] 57)):=hX4.alloc hX4.size _
  have hbs:w1.heap.size+2<=(X4.alloc (.cells #[St [49],St u5] 57)).heap.size:=by
   have:=zbe H0.out.cbx;have h2:=hX4.size;simp at this;simp;omega
  gi_wp2_with (gi_at_builtin;refine wpListIn_append_own _ rfl _ _ 51 rfl (w1.heap.size+2) 57 i0 (.agg #[St [],St []]) 2 32 Tryz.underlying51 hi hz0 hz1 hz2 rfl (by decide) (.slice vq vm vc) j (zd2 l j) rfl (HO4.out.alloc _) ⟨X4.heap.size,0,none⟩ 1 1 [St [49],St u5] rfl rfl (zoq _ _ _ _) (zm4 _ _) (by unfold maxLen;omega) (by omega) hbs ?_)
  intro v' w' hown' hgrow _
  have hst:=z0i H0.out HV.out HO.out hX5 hgrow (by rw[HT.out];exact hown') W1.heap.size
  have ck:=zac hX5
  have hlt:some w1.heap.size≠(Value.slice vq vm vc).ownBlock:=λe=>by have:=((zcj ck HO.out).lt _ e.symm).1;omega
  have hcell:=hgrow.cell (ck.cell HV.out) hlt
  have hfr:w'.frozen? ⟨w1.heap.size,0,none⟩=false:=by
   rw[World.frozen?_of_block (a:=⟨w1.heap.size,0,none⟩) (hgrow.block _ (zbe (ck.cell HV.out)) hlt)];exact ck.frozen HV.out H0.out.fr
  obtain⟨q,m,c,rfl⟩:∃q m c,v'=.slice q m c:=by
   rcases hown'.2 with⟨e,_⟩|⟨g,cp,cur,e,_⟩<;>exact⟨_,_,_,e⟩
  have HST:=hid hst
  clear hst hown' hgrow ck hlt hX5 hbs hX4 g0 g1
  gi_wp2
  exact HST.out
 case done=>
  rintro D W hD hS hK
  obtain⟨v,hv,hown⟩:=hS.box
  obtain⟨g,gc,rfl,hg,hcs⟩:=zye hown (by omega)
  have hs0:=hS.bel.size
  have hmk:=MK.out g gc W hS.bel (by have:=zbe hS.r2;simp at this;omega) (by have:=hS.bt1;omega) (λi hi=>by
   have:=zpp l n i (by rw[HN.out];exact hi)
   exact⟨hcs _ _ this.1,hcs _ _ this.2⟩)
  rw[<-HN.out] at hmk
  have HMK:=hid hmk
  have HX:=hid (⟨hS.bel,hK,hS.r1,hS.f1,hS.r2,hS.f2⟩:zB w.heap.size w W/\W.heap[D]? =some (.deferred (some []))/\_/\_/\_/\_)
  clear hS hK hown hcs hmk hseq hS1 SX SY MX MY AD MK hs0
  gi_wp2
  refine⟨trivial,(callsIn_wide.2 HMK.out).mono ?_⟩
  rintro e W2 ⟨q,m,c,k,rfl,hb2,hΨ⟩
  have hbl2:=HX.out.1.trans (hb2.mono HX.out.1.size)
  have ck:=zac hb2
  have HX2:=hid (⟨hbl2,(hb2.block _ (Array.getElem?_eq_some_iff.1 HX.out.2.1).1).trans HX.out.2.1,hΨ⟩:zB w.heap.size w W2/\W2.heap[D]? =some (.deferred (some []))/\ Ψ q m c k W2)
  obtain⟨_,_,r1,f1,r2,f2⟩:=HX.out
  have r1:=ck.cell r1
  have f1:=(ck.frozen HX.out.2.2.1 f1)
  have r2:=ck.cell r2
  have f2:=(ck.frozen HX.out.2.2.2.2.1 f2)
  clear hb2 hbl2 HX HMK hΨ ck hv
  gi_wp2
  obtain⟨hbel,hK,hΨ⟩:=HX2.out
  have hK1:=(KeepsOthers.setCell W2 ⟨w.heap.size,0,none⟩ (.slice q m c)).same D _ hK rfl
  have hK':=(KeepsOthers.setCell (W2.setCell ⟨w.heap.size,0,none⟩ (.slice q m c)) ⟨w.heap.size+1,0,none⟩ (.int .i64 k)).same D _ hK1 rfl
  refine⟨by simp,.inl ⟨_,_,rfl,run_takeDeferred hK',?_⟩⟩
  have c1:=za9 (u:=.slice q m c) r1
  have c2:(W2.setCell ⟨w.heap.size,0,none⟩ (.slice q m c)).cell? ⟨w.heap.size+1,0,none⟩=some (I 0):=by rw[zau _ _ _ _ (by omega)];exact r2
  have c3:=za9 (u:=.int .i64 k) c2
  have c4:((W2.setCell ⟨w.heap.size,0,none⟩ (.slice q m c)).setCell ⟨w.heap.size+1,0,none⟩ (.int .i64 k)).cell? ⟨w.heap.size,0,none⟩=some (.slice q m c):=by rw[zau _ _ _ _ (by omega)];exact c1
  have e1:=(zbk hK').cell c4
  have e2:=(zbk hK').cell c3
  refine⟨.tuple #[.slice q m c,.int .i64 k],?_,q,m,c,k,rfl,zby ((hbel.setCell (p:=⟨w.heap.size,0,none⟩) (by simp) _).setCell (p:=⟨w.heap.size+1,0,none⟩) (by simp) _) (by have:=HS1.out;omega) hK',HM.out.keep _ _ _ _ _ _ hΨ λb o x hb hc=>(zbk hK').cell (by rw[zau _ _ _ _ (by omega),zau _ _ _ _ (by omega)];exact hc)⟩
  simp[results,Tryz.f29,go_sem,e1,e2]
 case stop=>
  rintro D c j W hD h hK
  exact h.elim
def tri3:List Pt:=[⟨0,0⟩,⟨4,0⟩,⟨4,3⟩]
theorem zvy (i:Nat):cor tri3 i=⟨0,0⟩\/cor tri3 i=⟨4,0⟩\/cor tri3 i=⟨4,3⟩:=by
 have h:i%3<3:=Nat.mod_lt _ (by omega)
 show tri3[i%3]?.getD ⟨0,0⟩=_\/tri3[i%3]?.getD ⟨0,0⟩=_\/tri3[i%3]?.getD ⟨0,0⟩=_
 generalize i%3=j at h⊢
 match j,h with
 |0,_=>exact .inl rfl
 |1,_=>exact .inr (.inl rfl)
 |2,_=>exact .inr (.inr rfl)
theorem zlv (i:Nat):szP (cor tri3 i) 1:=by
 have z0:sz 0 1:=⟨by decide,by decide⟩
 have z3:sz 3 1:=⟨by decide,by decide⟩
 have z4:sz 4 1:=⟨by decide,by decide⟩
 rcases zvy i with h|h|h<;>rw[h]
 ·exact⟨z0,z0⟩
 ·exact⟨z4,z0⟩
 ·exact⟨z4,z3⟩
theorem zlm (i:Nat):szP (cor tri3 i) 36:=⟨(zlv i).1.mono (by omega),(zlv i).2.mono (by omega)⟩
theorem zyf:turn ⟨0,0⟩ ⟨4,0⟩ ⟨4,3⟩=1:=by decide+kernel
theorem zka:zch tri3:=by
 intro i h
 match i,h with
 |0,_=>show(⟨0,0⟩:Pt)≠⟨4,0⟩;decide
 |1,_=>show(⟨4,0⟩:Pt)≠⟨4,3⟩;decide
 |2,_=>show(⟨4,3⟩:Pt)≠⟨0,0⟩;decide
theorem zi3:zbz tri3:=by
 obtain⟨_,_,_,h1,h2,h3⟩:=(zt8 ⟨0,0⟩ ⟨4,0⟩ ⟨4,3⟩).2 (by rw[zyf];decide)
 intro i k hik hk
 match i,k,hik,hk with
 |0,1,_,_=>exact h1
 |0,2,_,_=>exact h2
 |1,2,_,_=>exact h3
 |i+2,k,h,h2=>exact absurd (show k<3 from h2) (by omega)
theorem z2h:sqS tri3 0=(((4*4:Nat):Int):Rat)/\sqS tri3 1=(((3*3:Nat):Int):Rat)/\sqS tri3 2=(((5*5:Nat):Int):Rat):=by
 refine⟨?_,?_,?_⟩<;>decide+kernel
theorem zyg:psum (zbh tri3) 3/2=6:=by decide+kernel
theorem zsg (k:Nat) (h:k<=3):sz (psum (zbh tri3) k) 2:=by
 match k,h with
 |0,_|1,_|2,_|3,_=>unfold sz;decide+kernel
theorem z0k (k:Nat) (h:k<3):sz (zbh tri3 k) 2:=by
 match k,h with
 |0,_|1,_|2,_=>unfold sz;decide+kernel
def z3i (w:zA) (q:Option Addr) (m _:Nat) (k:Int) (W:zA):Prop:=
 k=0/\∃g,q=some ⟨g,0,none⟩/\m=1/\w.heap.size+2<=g/\W.cell? ⟨g,0,none⟩=some (St [49,50])/\W.cell? ⟨g,1,none⟩=some (.string ⟨#[49]⟩)
theorem z2i (p:Option Addr) (cap:Nat) (w:zA) (HW:Hid (∀W,zB w.heap.size w W->Wd W/\Pw W)) (HP:Hid (RowPts p tri3 w)):
 Calls zF 29 #[.slice p 3 cap] w λe w'=>∃g c,e=.returned (.tuple #[.slice (some ⟨g,0,none⟩) 1 c,.int .i64 0])/\zB w.heap.size w w'/\w.heap.size<=g/\w'.cell? ⟨g,0,none⟩=some (St [49,50])/\w'.cell? ⟨g,1,none⟩=some (.string ⟨#[49]⟩):=by
 have hx:=λi=>(zlv i).1
 have hy:=λi=>(zlv i).2
 refine(z0j p cap tri3 (by decide) (by decide) (z3i w) w HW HP (hid ⟨?_⟩)
  (hid λW hW hp=>zj5 p cap tri3 (by decide) (by decide) zlm zka zi3 W hW hp)
  (hid λk _ W hW=>zgg _ _ 1 1 (by omega) (by omega) (by omega) (hx _) (hx _) W hW)
  (hid λk _ W hW=>zgg _ _ 1 1 (by omega) (by omega) (by omega) (hy _) (hy _) W hW)
  (hid λk _ W hW=>zhm _ _ 3 3 (by omega) (by omega) (by omega) (zb0 (hx _) (hx _)) (zb0 (hx _) (hx _)) W hW)
  (hid λk _ W hW=>zhm _ _ 3 3 (by omega) (by omega) (by omega) (zb0 (hy _) (hy _)) (zb0 (hy _) (hy _)) W hW)
  (hid λk _ W hW=>zje _ _ 6 6 (by omega) (by omega) (by omega) (zca (zb0 (hx _) (hx _)) (zb0 (hx _) (hx _))) (zca (zb0 (hy _) (hy _)) (zb0 (hy _) (hy _))) W hW)
  (hid ?_)).mono ?_
 ·rintro q m c k W W' ⟨h0,g,h1,h2,h3,h4,h5⟩ h
  exact⟨h0,g,h1,h2,h3,h _ _ _ h3 h4,h _ _ _ h3 h5⟩
 ·intro g gc W hb hs hg hc
  obtain⟨q0,q1,q2⟩:=z2h
  have c0:=hc 0 (by decide);have c1:=hc 1 (by decide);have c2:=hc 2 (by decide)
  rw[q0,zc5] at c0;rw[q1,zc5] at c1;rw[q2,zc5] at c2
  refine(z0e g 0 gc W (hid λW' h=>(HW.out W' (hb.trans (h.mono hb.size))).1) (hid λW' h=>(HW.out W' (hb.trans (h.mono hb.size))).2) c0.1 c0.2 c1.1 c1.2 c2.1 c2.2).mono ?_
  rintro e w' ⟨g',c,rfl,hb',hge,d0,d1⟩
  exact⟨_,_,_,_,rfl,hb',rfl,g',rfl,rfl,by omega,d0,d1⟩
 ·rintro e w' ⟨q,m,c,k,rfl,hb,rfl,g,rfl,rfl,hg,d0,d1⟩
  exact⟨g,c,rfl,hb,by omega,d0,d1⟩
theorem z0l (p:Option Addr) (cap:Nat) (w:zA) (hw:Wd w) (hp:RowPts p tri3 w):
 qJ 16 #[.slice p 3 cap] w (.tuple #[St [54],.int .i64 0]):=by
 have h:=zt5 p cap tri3 (by decide) (by decide) zlm zka zi3 (λk hk=>⟨2,2,by omega,by omega,by omega,zsg k (Nat.le_of_lt hk),z0k k hk⟩) 2 (by omega) (by omega) (zsg 3 (by omega)) w hw hp
 have e:numS (psum (zbh tri3) tri3.length/2)=[54]:=by
  show numS (psum (zbh tri3) 3/2)=[54]
  rw[zyg]
  decide+kernel
 rw[e] at h
 exact h
theorem zkb (p:Option Addr) (cap:Nat) (q:Pt) (hq:szP q 36) (v:Int) (hv:((∃k,k<3/\onS tri3 q k)/\v=0)\/((∀k,k<3->¬onS tri3 q k)/\v=insI tri3 q 3)) (w:zA) (hw:Wd w) (hp:RowPts p tri3 w):
 qJ 8 #[.slice p 3 cap,ptV q] w (.tuple #[.int .i64 v,.int .i64 0]):=by
 refine(zll p cap tri3 q (by decide) (by decide) zlm hq zka zi3 w hw hp).mono ?_
 rintro e w' ⟨r,rfl,h,hb⟩
 have:r=v:=by
  rcases h with⟨⟨k,hk,h1⟩,h2⟩|⟨h1,h2⟩<;>rcases hv with⟨⟨k',hk',h3⟩,h4⟩|⟨h3,h4⟩
  ·rw[h2,h4]
  ·exact absurd h1 (h3 k hk)
  ·exact absurd h3 (h1 k' hk')
  ·rw[h2,h4];rfl
 exact⟨by rw[this],hb⟩
theorem in_1:((∃k,k<3/\onS tri3 ⟨2,1⟩ k)/\(1:Int)=0)\/((∀k,k<3->¬onS tri3 ⟨2,1⟩ k)/\(1:Int)=insI tri3 ⟨2,1⟩ 3):=by
 refine .inr ⟨λk hk=>?_,by decide+kernel⟩
 unfold onS
 match k,hk with
 |0,_|1,_|2,_=>decide+kernel
theorem in_0:((∃k,k<3/\onS tri3 ⟨2,mkRat 3 2⟩ k)/\(0:Int)=0)\/((∀k,k<3->¬onS tri3 ⟨2,mkRat 3 2⟩ k)/\(0:Int)=insI tri3 ⟨2,mkRat 3 2⟩ 3):=by
 refine .inl ⟨⟨2,by omega,?_⟩,rfl⟩
 unfold onS
 decide+kernel
theorem in_m:((∃k,k<3/\onS tri3 ⟨1,2⟩ k)/\(-1:Int)=0)\/((∀k,k<3->¬onS tri3 ⟨1,2⟩ k)/\(-1:Int)=insI tri3 ⟨1,2⟩ 3):=by
 refine .inr ⟨λk hk=>?_,by decide+kernel⟩
 unfold onS
 match k,hk with
 |0,_|1,_|2,_=>decide+kernel
end Go.Proofs.YthfpmfdiamldoaaGreatDoor
