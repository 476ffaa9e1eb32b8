/- polygon.Inside. -/
import Derived.Test.YthfpmfdiamldoaaGreatDoorG27
set_option maxRecDepth 100000
set_option maxHeartbeats 8000000
open Go renaming World → zA, Calls → zC
open Go.RowKit renaming Below → zB
open Go.Proofs.Tryz renaming prog → zF
open Go.World renaming alloc_heap_new → zG
open Go.Joins renaming cell_of_block → zJ
open Go.RowKit.Below renaming refl → zM
open Nat renaming le_refl → zN
namespace Go.Proofs.YthfpmfdiamldoaaGreatDoor
section
open Go.RowKit Go.Shelf Lib Str Limb Geo
attribute [local go_sem] Oper.semAt_some
def ze5 (l:List Pt) (q:Pt) (k:Nat):Prop:=
 (cmpR (cor l k).y q.y<=0/\0<cmpR (cor l (k+1)).y q.y/\0<turn (cor l k) (cor l (k+1)) q)\/(cmpR (cor l (k+1)).y q.y<=0/\0<cmpR (cor l k).y q.y/\turn (cor l k) (cor l (k+1)) q<0)
instance (l:List Pt) (q:Pt) (k:Nat):Decidable (ze5 l q k):=by unfold ze5;infer_instance
def insI (l:List Pt) (q:Pt):Nat->Int
 |0=> -1
 |k+1=>if ze5 l q k then-insI l q k else insI l q k
theorem zm6 (l:List Pt) (q:Pt):∀k,insI l q k=1\/insI l q k= -1
 |0=>.inr rfl
 |k+1=>by
  have:=zm6 l q k
  unfold insI
  split<;>omega
def onS (l:List Pt) (q:Pt) (k:Nat):Prop:=meet (cor l k) (cor l (k+1)) q q=1
structure InsS (w:zA) (p:Option Addr) (cap n:Nat) (l:List Pt) (q:Pt) (ib k:Nat) (W:zA):Prop where
 bel:qL w W
 ib1:w.heap.size+2<ib
 q0:W.cell? ⟨w.heap.size,0,none⟩=some (St (numS q.x))
 q1:W.cell? ⟨w.heap.size,1,none⟩=some (St (numS q.y))
 r1:W.cell? ⟨w.heap.size+1,0,none⟩=some (I 0)
 f1:W.frozen? ⟨w.heap.size+1,0,none⟩=false
 r2:W.cell? ⟨w.heap.size+1+1,0,none⟩=some (I 0)
 f2:W.frozen? ⟨w.heap.size+1+1,0,none⟩=false
 ic:W.cell? ⟨ib,0,none⟩=some (.int .i64 (insI l q k))
 fi:W.frozen? ⟨ib,0,none⟩=false
 cbx:W.cell? ⟨ib+1,0,none⟩=some (.slice p n cap)
 pts:∀i,i<n->∃b off,p=some ⟨b,off,none⟩/\b<w.heap.size/\W.cell? ⟨b,off+i*2,none⟩=some (St (ptOf (txt l) i).1)/\W.cell? ⟨b,off+i*2+1,none⟩=some (St (ptOf (txt l) i).2)
theorem InsS.keep {w:zA} {p:Option Addr} {cap n:Nat} {l:List Pt} {q:Pt} {ib k:Nat} {W W':zA} (h:InsS w p cap n l q ib k W) (hc:CellsKept W W') (hb:zB w.heap.size W W'):InsS w p cap n l q ib k W':=
 ⟨h.bel.trans hb,h.ib1,hc.cell h.q0,hc.cell h.q1,hc.cell h.r1,hc.frozen h.r1 h.f1,hc.cell h.r2,hc.frozen h.r2 h.f2,hc.cell h.ic,hc.frozen h.ic h.fi,hc.cell h.cbx,
  λi hi=>let ⟨b,off,e,h0,h1,h2⟩:=h.pts i hi;⟨b,off,e,h0,hc.cell h1,hc.cell h2⟩⟩
theorem InsS.ptsAt {w:zA} {p:Option Addr} {cap n:Nat} {l:List Pt} {q:Pt} {ib k:Nat} {W:zA} (hn:n=l.length) (h:InsS w p cap n l q ib k W):zls (ib+1) p cap (txt l) W:=
 ⟨by rw[za2,<-hn];exact h.cbx,λi hi=>let ⟨b,off,e,_,h1,h2⟩:=h.pts i (by rw[za2] at hi;omega);⟨b,off,e,h1,h2⟩⟩
theorem InsS.put {w:zA} {p:Option Addr} {cap n:Nat} {l:List Pt} {q:Pt} {ib k k':Nat} {W:zA} (h:InsS w p cap n l q ib k W):InsS w p cap n l q ib k' (W.setCell ⟨ib,0,none⟩ (.int .i64 (insI l q k'))):=by
 have hib:=h.ib1
 refine⟨h.bel.setCell (by simp;omega) _,hib,?_,?_,?_,?_,?_,?_,za9 h.ic,?_,?_,λi hi=>?_⟩
 ·rw[zau _ _ _ _ (by omega)];exact h.q0
 ·rw[zau _ _ _ _ (by omega)];exact h.q1
 ·rw[zau _ _ _ _ (by omega)];exact h.r1
 ·rw[World.frozen?_setCell];exact h.f1
 ·rw[zau _ _ _ _ (by omega)];exact h.r2
 ·rw[World.frozen?_setCell];exact h.f2
 ·rw[World.frozen?_setCell];exact h.fi
 ·rw[zau _ _ _ _ (by omega)];exact h.cbx
 ·obtain⟨b,off,e,h0,h1,h2⟩:=h.pts i hi
  exact⟨b,off,e,h0,by rw[zau _ _ _ _ (by omega)];exact h1,by rw[zau _ _ _ _ (by omega)];exact h2⟩
structure InsB (w:zA) (p:Option Addr) (n:Nat) (l:List Pt) (q:Pt) (W:zA):Prop where
 bel:qL w W
 q0:W.cell? ⟨w.heap.size,0,none⟩=some (St (numS q.x))
 q1:W.cell? ⟨w.heap.size,1,none⟩=some (St (numS q.y))
 r1:W.cell? ⟨w.heap.size+1,0,none⟩=some (I 0)
 f1:W.frozen? ⟨w.heap.size+1,0,none⟩=false
 r2:W.cell? ⟨w.heap.size+1+1,0,none⟩=some (I 0)
 f2:W.frozen? ⟨w.heap.size+1+1,0,none⟩=false
 pts:∀i,i<n->∃b off,p=some ⟨b,off,none⟩/\b<w.heap.size/\W.cell? ⟨b,off+i*2,none⟩=some (St (ptOf (txt l) i).1)/\W.cell? ⟨b,off+i*2+1,none⟩=some (St (ptOf (txt l) i).2)
theorem InsB.keep {w:zA} {p:Option Addr} {n:Nat} {l:List Pt} {q:Pt} {W W':zA} (h:InsB w p n l q W) (hb:qL W W'):InsB w p n l q W':=
 have hc:=zac hb
 ⟨h.bel.trans (hb.mono h.bel.size),hc.cell h.q0,hc.cell h.q1,hc.cell h.r1,hc.frozen h.r1 h.f1,hc.cell h.r2,hc.frozen h.r2 h.f2,
  λi hi=>let ⟨b,off,e,h0,h1,h2⟩:=h.pts i hi;⟨b,off,e,h0,hc.cell h1,hc.cell h2⟩⟩
theorem InsB.start (w:zA) (p:Option Addr) (l:List Pt) (q:Pt) (hp:RowPts p l w):
 InsB w p l.length l q (((w.alloc (.cells #[St (numS q.x),St (numS q.y)] 25)).alloc (.cells #[I 0] 3)).alloc (.cells #[I 0] 28)):=by
 have hb:qL w (((w.alloc (.cells #[St (numS q.x),St (numS q.y)] 25)).alloc (.cells #[I 0] 3)).alloc (.cells #[I 0] 28)):=(((zM _ w).alloc (zN _) _).alloc (by simp) _).alloc (by simp;omega) _
 have A0:=(Below.heap_alloc (((w.alloc (.cells #[St (numS q.x),St (numS q.y)] 25)).alloc (.cells #[I 0] 3))) (.cells #[I 0] 28) w.heap.size (by simp;omega)).trans ((Below.heap_alloc (w.alloc (.cells #[St (numS q.x),St (numS q.y)] 25)) (.cells #[I 0] 3) w.heap.size (by simp)).trans (zG w (.cells #[St (numS q.x),St (numS q.y)] 25 (0,0))))
 have b1:=(Boxed.new (w.alloc (.cells #[St (numS q.x),St (numS q.y)] 25)) 3 (I 0)).alloc (.cells #[I 0] 28)
 have b2:=Boxed.new ((w.alloc (.cells #[St (numS q.x),St (numS q.y)] 25)).alloc (.cells #[I 0] 3)) 28 (I 0)
 simp only[World.size_alloc] at b1 b2
 refine⟨hb,by rw[zJ A0];rfl,by rw[zJ A0];rfl,b1.cell,b1.frozen,b2.cell,b2.frozen,λi hi=>?_⟩
 obtain⟨b,off,e,h1,h2⟩:=hp i hi
 exact⟨b,off,e,zbe h1,zai hb h1,zai hb h2⟩
theorem InsB.row {w:zA} {p:Option Addr} {l:List Pt} {q:Pt} {W:zA} (h:InsB w p l.length l q W):RowPts p l W:=λi hi=>let ⟨b,off,e,_,h1,h2⟩:=h.pts i hi;⟨b,off,e,h1,h2⟩
theorem ztn (p:Option Addr) (cap:Nat) (l:List Pt) (q:Pt) (h3:3<=l.length) (hlen:l.length<=4096)
 (C:Hid (∀W:zA,Wd W->RowPts p l W->qJ 18 #[.slice p l.length cap] W (.int .i64 0)))
 (CP:Hid (qK 31 #[ptV q] (.int .i64 0)))
 (M:Hid (∀k,qK 33 #[segV (cor l k) (cor l (k+1)),segV q q] (.int .i64 (meet (cor l k) (cor l (k+1)) q q))))
 (Y:Hid (∀k,qK 34 #[St (numS (cor l k).y),St (numS q.y)] (.int .i64 (cmpR (cor l k).y q.y))))
 (T:Hid (∀k,qK 35 #[ptV (cor l k),ptV (cor l (k+1)),ptV q] (.int .i64 (turn (cor l k) (cor l (k+1)) q))))
 (w:zA) (HW:Hid (Wd w)) (HP:Hid (RowPts p l w)):
 zC zF 8 #[.slice p l.length cap,ptV q] w λe w'=>∃r:Int,e=.returned (.tuple #[.int .i64 r,.int .i64 0])/\(((∃k,k<l.length/\onS l q k)/\r=0)\/((∀k,k<l.length->¬onS l q k)/\r=insI l q l.length))/\zB w.heap.size w w':=by
 refine(callsIn_wide (n:=3)).1 ?_
 refine callsIn_of_wp_marks Tryz.func8 rfl trivial ?_ rfl
 simp only[Tryz.ntmps8,List.size_toArray,List.length_cons,List.length_nil,Nat.reduceAdd,Nat.reduceSub,Array.replicate_succ,Array.replicate_zero,List.push_toArray,List.append_toArray,List.nil_append,List.cons_append]
 obtain⟨n,hn⟩:∃n,n=l.length:=⟨_,rfl⟩
 obtain⟨W0,hW0⟩:∃W0,W0=((w.alloc (.cells #[St (numS q.x),St (numS q.y)] 25)).alloc (.cells #[I 0] 3)).alloc (.cells #[I 0] 28):=⟨_,rfl⟩
 have hb0:=InsB.start w p l q HP.out
 rw[<-hW0] at hb0
 have hCk:=C.out W0 (HW.out.below hb0.bel) hb0.row
 rw[<-hn] at h3 hlen hCk hb0⊢
 have HN:=hid hn;clear hn
 have HCk:=hid hCk;clear hCk C
 have HB0:=hid hb0
 have HW0:=hid hW0
 clear hW0 hb0
 unfold ptV
 gi_wp2
 refine⟨trivial,?_⟩
 have h9:((w.alloc (.cells #[St (numS q.x),St (numS q.y)] 25)).alloc (.cells #[.int .i64 0] 3)).alloc (.cells #[.int .i64 0] 28)=W0:=HW0.out.symm
 rw[h9]
 clear h9 HW0
 refine(callsIn_wide.2 HCk.out).mono ?_
 rintro e w1 ⟨rfl,hb1⟩
 have HB1:=hid (HB0.out.keep hb1);clear hb1 HB0 HCk
 have g0:=HB1.out.q0;have g1:=HB1.out.q1
 gi_wp2
 refine⟨trivial,(callsIn_wide.2 (CP.out w1 (HW.out.below HB1.out.bel))).mono ?_⟩
 rintro e w2 ⟨rfl,hb2⟩
 have HB2:=hid (HB1.out.keep hb2);clear hb2 HB1 g0 g1 CP
 gi_wp2_with (refine⟨trivial,?_⟩;gi_at_call 32;refine(callsIn_wide.2 (zfr _ _ _ _ _ rfl)).mono ?_;rintro e w' ⟨rfl,rfl⟩)
 obtain⟨W1,hW1⟩:∃W1,W1=(w2.alloc (.cells #[.int .i64 (-1)] 3)).alloc (.cells #[.slice p n cap] 22):=⟨_,rfl⟩
 rw[<-hW1]
 have hS1:InsS w p cap n l q w2.heap.size 0 W1:=by
  have b1:=(Boxed.new w2 3 (.int .i64 (-1))).alloc (.cells #[.slice p n cap] 22)
  have b2:=Boxed.new (w2.alloc (.cells #[.int .i64 (-1)] 3)) 22 (.slice p n cap)
  rw[World.size_alloc] at b2
  have hw:qL w2 ((w2.alloc (.cells #[.int .i64 (-1)] 3)).alloc (.cells #[.slice p n cap] 22)):=((zM _ w2).alloc (zN _) _).alloc (by simp) _
  have h:=HB2.out.keep hw
  rw[hW1]
  exact⟨h.bel,zbe HB2.out.r2,h.q0,h.q1,h.r1,h.f1,h.r2,h.f2,b1.cell,b1.frozen,b2.cell,h.pts⟩
 clear hW1
 have HS1:=hid hS1.bel.size
 have hseq:=zgi 2 (by omega) (w2.heap.size+1) (txt l) (by rw[za2,<-HN.out];omega) (λW=>∃j,InsS w p cap n l q w2.heap.size j W) p cap (λW ⟨j,h⟩=>h.ptsAt HN.out)
 rw[za2,<-HN.out] at hseq
 refine zfq (n:=3) (B:=w.heap.size) rfl (by omega) rfl trivial (enters_of Tryz.func82 (by kernel_rfl) rfl) hseq (λk args h=>by subst h;rfl) hS1.bel.size
  (λj W=>InsS w p cap n l q w2.heap.size j W/\∀i,i<j->¬onS l q i)
  (λc _ W=>c=.ret/\zB w.heap.size w W/\W.cell? ⟨w.heap.size+1,0,none⟩=some (I 0)/\W.cell? ⟨w.heap.size+1+1,0,none⟩=some (I 0)/\∃k,k<n/\onS l q k)
  (λj X Y h hc hb=>⟨h.1.keep hc hb,h.2⟩) (λc j X Y h hc hb=>⟨h.1,h.2.1.trans hb,hc.cell h.2.2.1,hc.cell h.2.2.2.1,h.2.2.2.2⟩) (λj W h=>⟨j,h.1⟩) ⟨hS1,λi h=>by omega⟩
  (λj _ a' W=>∃bs,a'={tmps:= #[Value.slice p n cap,Value.agg #[St (numS q.x),St (numS q.y)],undef,Value.pointer (some {block:=w.heap.size,off:=0}),Value.pointer (some {block:=w.heap.size+1,off:=0}),Value.pointer (some {block:=w.heap.size+1+1,off:=0}),Value.pointer (some {block:=w2.heap.size,off:=0}),undef,.pointer (some ⟨bs,0,none⟩),undef,undef,undef,Value.slice p n cap,Value.int IntKind.i64 0,Value.bool false,Value.bool false,Value.agg #[St (numS q.x),St (numS q.y)],Value.int IntKind.i64 0,Value.bool false,Value.bool false,Value.slice p n cap,Value.func (Fn.func 82) #[] #[Value.pointer (some {block:=w2.heap.size+1,off:=0})],I j,segV (cor l j) (cor l (j+1)),undef,undef,undef,undef,undef,undef,undef,undef,undef,undef,undef,undef,undef,undef,undef,undef,undef,undef,undef,undef,undef,undef,undef,undef,undef,undef,undef,undef,undef,undef,undef,undef,undef,undef,undef,undef,undef,undef,undef,undef,undef,undef,undef,undef,undef,undef,undef,undef,undef,undef,undef,undef,undef,undef,undef,undef,undef,undef,undef],defers:=[]}/\SegAt bs (cor l j) (cor l (j+1)) W)
  (λj _ a' X Y h hc hb=>let ⟨bs,e,h2⟩:=h;⟨bs,e,h2.keep hc⟩) ?assign ?body ?done ?stop
 case assign=>
  rintro lp j args W K hlp hrec ⟨hS,hP⟩ hj rfl hK
  rw[zgj l j (by rw[<-HN.out];exact hj)]
  have HK:=hid hK;clear hK
  unfold segV
  gi_wp2
  have hb1:qL W (W.alloc (.cells #[St (numS (cor l j).x),St (numS (cor l j).y),St (numS (cor l (j+1)).x),St (numS (cor l (j+1)).y)] 63)):=(zM _ W).alloc (zN _) _
  exact HK.out _ _ ((za0 hb1).from _) ⟨hS.keep (zac hb1) (hb1.mono hS.bel.size),hP⟩ ⟨W.heap.size,rfl,SegAt.new W (cor l j) (cor l (j+1)) 63⟩
 case body=>
  rintro lp j args a' W hlp ⟨r',hr'⟩ ⟨hS,hP⟩ hj rfl ⟨bs,rfl,hseg⟩
  have hbl:=hS.bel
  have H0:=hid (⟨hS,hP⟩:InsS w p cap n l q w2.heap.size j W/\∀i,i<j->¬onS l q i)
  have hks:∀W':zA,qL W W'->
   W'.cell? ⟨bs,0,none⟩=some (St (numS (cor l j).x))/\W'.cell? ⟨bs,1,none⟩=some (St (numS (cor l j).y))/\W'.cell? ⟨bs,2,none⟩=some (St (numS (cor l (j+1)).x))/\W'.cell? ⟨bs,3,none⟩=some (St (numS (cor l (j+1)).y))/\
   W'.cell? ⟨w.heap.size,0,none⟩=some (St (numS q.x))/\W'.cell? ⟨w.heap.size,1,none⟩=some (St (numS q.y))/\W'.cell? ⟨w.heap.size+1,0,none⟩=some (I 0)/\W'.frozen? ⟨w.heap.size+1,0,none⟩=false/\
   W'.cell? ⟨w.heap.size+1+1,0,none⟩=some (I 0)/\W'.frozen? ⟨w.heap.size+1+1,0,none⟩=false/\W'.cell? ⟨w2.heap.size,0,none⟩=some (.int .i64 (insI l q j))/\W'.frozen? ⟨w2.heap.size,0,none⟩=false:=λW' hb=>by
   have h1:=hseg.keep (zac hb);have h2:=hS.keep (zac hb) (hb.mono hS.bel.size)
   exact⟨h1.h0,h1.h1,h1.h2,h1.h3,h2.q0,h2.q1,h2.r1,h2.f1,h2.r2,h2.f2,h2.ic,h2.fi⟩
  have KS:=hid hks;clear hks hseg hS hP hseq hS1 hr' HB2
  have hbb:qL W W:=zM _ W
  obtain⟨g0,g1,g2,g3,q0,q1,r1,f1,r2,f2,ic,fi⟩:=KS.out W hbb
  obtain⟨c1,hc1⟩:∃c,c=cmpR (cor l j).y q.y:=⟨_,rfl⟩
  obtain⟨c2,hc2⟩:∃c,c=cmpR (cor l (j+1)).y q.y:=⟨_,rfl⟩
  obtain⟨t,ht⟩:∃c,c=turn (cor l j) (cor l (j+1)) q:=⟨_,rfl⟩
  obtain⟨m,hm⟩:∃c,c=meet (cor l j) (cor l (j+1)) q q:=⟨_,rfl⟩
  obtain⟨z,hz⟩:∃z,z=insI l q j:=⟨_,rfl⟩
  have y1:=Y.out j;have y2:=Y.out (j+1);have t1:=T.out j;have m1:=M.out j
  rw[<-hc1] at y1;rw[<-hc2] at y2;rw[<-ht] at t1;rw[<-hm] at m1
  have hfl:ze5 l q j↔(c1<=0/\0<c2/\0<t)\/(c2<=0/\0<c1/\t<0):=by rw[hc1,hc2,ht];exact Iff.rfl
  have hi1:insI l q (j+1)=if ze5 l q j then-z else z:=by rw[hz];rfl
  have hzz:z=1\/z= -1:=by rw[hz];exact zm6 l q j
  have hon:onS l q j↔m=1:=by rw[hm];exact Iff.rfl
  have hwz:IntKind.i64.wrap (-z)= -z:=IntWalk.i64_in _ (by omega)
  rw[<-hz] at ic KS
  unfold segV ptV at*
  have Y1:=hid y1;have Y2:=hid y2;have T1:=hid t1;have MM:=hid m1
  have HF:=hid hfl;have HI:=hid hi1;have HO:=hid hon
  clear y1 y2 t1 m1 hfl hi1 hon hzz hc1 hc2 ht hm Y T M
  have HZ:=hid hz;clear hz
  generalize numS (cor l j).x=a1 at*
  generalize numS (cor l j).y=a2 at*
  generalize numS (cor l (j+1)).x=a3 at*
  generalize numS (cor l (j+1)).y=a4 at*
  gi_wp2
  all_goals first|exact(zzU ‹_›).elim|skip
  refine⟨trivial,(CallsIn.inRound lp (callsIn_wide.2 (MM.out W (HW.out.below (hbl.trans (hbb.mono hbl.size)))))).mono ?_⟩
  rintro e X1 ⟨rfl,hbn⟩
  have hbx:=hbb.trans (hbn.mono hbb.size)
  clear hbb hbn g0 g1 g2 g3 q0 q1 r1 f1 r2 f2 ic fi
  have hbb:=hbx;clear hbx
  obtain⟨g0,g1,g2,g3,q0,q1,r1,f1,r2,f2,ic,fi⟩:=KS.out X1 hbb
  have hend:∀X:zA,qL W X->m≠1->¬ze5 l q j->KeepsFrom W1.heap.size W X/\InsS w p cap n l q w2.heap.size (j+1) X/\∀i,i<j+1->¬onS l q i:=by
   intro X hb hm hf
   obtain⟨hS,hP⟩:=H0.out
   have h:=hS.keep (zac hb) (hb.mono hS.bel.size)
   refine⟨(za0 hb).from _,⟨h.bel,h.ib1,h.q0,h.q1,h.r1,h.f1,h.r2,h.f2,?_,h.fi,h.cbx,h.pts⟩,λi hi=>?_⟩
   ·rw[HI.out,if_neg hf,HZ.out];exact h.ic
   ·by_cases e:i=j
    ·subst e;rw[HO.out];exact hm
    ·exact hP i (by omega)
  have hflip:∀X:zA,qL W X->m≠1->ze5 l q j->KeepsFrom W1.heap.size W (X.setCell ⟨w2.heap.size,0,none⟩ (.int .i64 (-z)))/\InsS w p cap n l q w2.heap.size (j+1) (X.setCell ⟨w2.heap.size,0,none⟩ (.int .i64 (-z)))/\∀i,i<j+1->¬onS l q i:=by
   intro X hb hm hf
   obtain⟨hS,hP⟩:=H0.out
   have h:=(hS.keep (zac hb) (hb.mono hS.bel.size)).put (k':=j+1)
   rw[HI.out,if_pos hf] at h
   refine⟨((za0 hb).from _).trans ((KeepsOthers.setCell _ _ _).from _),h,λi hi=>?_⟩
   by_cases e:i=j
   ·subst e;rw[HO.out];exact hm
   ·exact hP i (by omega)
  have HEnd:=hid hend;have HFlip:=hid hflip;clear hend hflip
  by_cases hm:m=1
  ·have hmb:(m==1)=true:=by simpa using hm
   have HM:=hid hm;clear hm
   gi_wp2
   obtain⟨hS,hP⟩:=H0.out
   refine⟨((za0 hbb).from _).trans (((KeepsOthers.setCell _ _ _).from _).trans ((KeepsOthers.setCell _ _ _).from _)),rfl,((hbl.trans (hbb.mono hbl.size)).setCell (p:=⟨w.heap.size+1,0,none⟩) (by simp) _).setCell (p:=⟨w.heap.size+1+1,0,none⟩) (by simp;omega) _,?_,?_,j,hj,HO.out.2 HM.out⟩
   ·rw[zau _ _ _ _ (by omega)];exact za9 r1
   ·exact za9 (by rw[zau _ _ _ _ (by omega)];exact r2)
  ·have hmb:(m==1)=false:=by simpa using hm
   have HM:=hid hm;clear hm
   rcases(show(decide (c1<=0)=true/\decide (0<c1)=false)\/(decide (c1<=0)=false/\decide (0<c1)=true) by simp only[decide_eq_true_eq,decide_eq_false_iff_not];omega) with⟨d1,d2⟩|⟨d1,d2⟩<;>
   rcases(show(decide (0<c2)=true/\decide (c2<=0)=false)\/(decide (0<c2)=false/\decide (c2<=0)=true) by simp only[decide_eq_true_eq,decide_eq_false_iff_not];omega) with⟨e1,e2⟩|⟨e1,e2⟩
   ·gi_wp2
    all_goals first|exact(zzU ‹_›).elim|skip
    refine⟨trivial,(CallsIn.inRound lp (callsIn_wide.2 (Y1.out X1 (HW.out.below (hbl.trans (hbb.mono hbl.size)))))).mono ?_⟩
    rintro e X2 ⟨rfl,hbn⟩
    have hbx:=hbb.trans (hbn.mono hbb.size)
    clear hbb hbn g0 g1 g2 g3 q0 q1 r1 f1 r2 f2 ic fi
    have hbb:=hbx;clear hbx
    obtain⟨g0,g1,g2,g3,q0,q1,r1,f1,r2,f2,ic,fi⟩:=KS.out X2 hbb
    gi_wp2
    all_goals first|exact(zzU ‹_›).elim|skip
    refine⟨trivial,(CallsIn.inRound lp (callsIn_wide.2 (Y2.out X2 (HW.out.below (hbl.trans (hbb.mono hbl.size)))))).mono ?_⟩
    rintro e X3 ⟨rfl,hbn⟩
    have hbx:=hbb.trans (hbn.mono hbb.size)
    clear hbb hbn g0 g1 g2 g3 q0 q1 r1 f1 r2 f2 ic fi
    have hbb:=hbx;clear hbx
    obtain⟨g0,g1,g2,g3,q0,q1,r1,f1,r2,f2,ic,fi⟩:=KS.out X3 hbb
    gi_wp2
    all_goals first|exact(zzU ‹_›).elim|skip
    refine⟨trivial,(CallsIn.inRound lp (callsIn_wide.2 (Y2.out X3 (HW.out.below (hbl.trans (hbb.mono hbl.size)))))).mono ?_⟩
    rintro e X4 ⟨rfl,hbn⟩
    have hbx:=hbb.trans (hbn.mono hbb.size)
    clear hbb hbn g0 g1 g2 g3 q0 q1 r1 f1 r2 f2 ic fi
    have hbb:=hbx;clear hbx
    obtain⟨g0,g1,g2,g3,q0,q1,r1,f1,r2,f2,ic,fi⟩:=KS.out X4 hbb
    gi_wp2
    all_goals first|exact(zzU ‹_›).elim|skip
    refine⟨trivial,?_⟩
    gi_wp2
    all_goals first|exact(zzU ‹_›).elim|skip
    refine⟨trivial,(CallsIn.inRound lp (callsIn_wide.2 (T1.out X4 (HW.out.below (hbl.trans (hbb.mono hbl.size)))))).mono ?_⟩
    rintro e X5 ⟨rfl,hbn⟩
    have hbx:=hbb.trans (hbn.mono hbb.size)
    clear hbb hbn g0 g1 g2 g3 q0 q1 r1 f1 r2 f2 ic fi
    have hbb:=hbx;clear hbx
    obtain⟨g0,g1,g2,g3,q0,q1,r1,f1,r2,f2,ic,fi⟩:=KS.out X5 hbb
    rcases(show(decide (0<t)=true/\decide (t<0)=false)\/(decide (0<t)=false/\decide (t<0)=true)\/(decide (0<t)=false/\decide (t<0)=false) by simp only[decide_eq_true_eq,decide_eq_false_iff_not];omega) with⟨t1,t2⟩|⟨t1,t2⟩|⟨t1,t2⟩
    ·have HD:=hid (⟨⟨d1,d2⟩,⟨e1,e2⟩,⟨t1,t2⟩⟩:(_/\_)/\(_/\_)/\(_/\_))
     gi_wp2
     all_goals first|exact(zzU ‹_›).elim|skip
     obtain⟨⟨d1,d2⟩,⟨e1,e2⟩,⟨t1,t2⟩⟩:=HD.out
     simp only[decide_eq_true_eq,decide_eq_false_iff_not] at d1 d2 e1 e2 t1 t2
     exact HFlip.out _ hbb HM.out (by rw[HF.out];omega)
    ·have HD:=hid (⟨⟨d1,d2⟩,⟨e1,e2⟩,⟨t1,t2⟩⟩:(_/\_)/\(_/\_)/\(_/\_))
     gi_wp2
     all_goals first|exact(zzU ‹_›).elim|skip
     obtain⟨⟨d1,d2⟩,⟨e1,e2⟩,⟨t1,t2⟩⟩:=HD.out
     simp only[decide_eq_true_eq,decide_eq_false_iff_not] at d1 d2 e1 e2 t1 t2
     exact HEnd.out _ hbb HM.out (by rw[HF.out];omega)
    ·have HD:=hid (⟨⟨d1,d2⟩,⟨e1,e2⟩,⟨t1,t2⟩⟩:(_/\_)/\(_/\_)/\(_/\_))
     gi_wp2
     all_goals first|exact(zzU ‹_›).elim|skip
     obtain⟨⟨d1,d2⟩,⟨e1,e2⟩,⟨t1,t2⟩⟩:=HD.out
     simp only[decide_eq_true_eq,decide_eq_false_iff_not] at d1 d2 e1 e2 t1 t2
     exact HEnd.out _ hbb HM.out (by rw[HF.out];omega)
   ·gi_wp2
    all_goals first|exact(zzU ‹_›).elim|skip
    refine⟨trivial,(CallsIn.inRound lp (callsIn_wide.2 (Y1.out X1 (HW.out.below (hbl.trans (hbb.mono hbl.size)))))).mono ?_⟩
    rintro e X2 ⟨rfl,hbn⟩
    have hbx:=hbb.trans (hbn.mono hbb.size)
    clear hbb hbn g0 g1 g2 g3 q0 q1 r1 f1 r2 f2 ic fi
    have hbb:=hbx;clear hbx
    obtain⟨g0,g1,g2,g3,q0,q1,r1,f1,r2,f2,ic,fi⟩:=KS.out X2 hbb
    gi_wp2
    all_goals first|exact(zzU ‹_›).elim|skip
    refine⟨trivial,(CallsIn.inRound lp (callsIn_wide.2 (Y2.out X2 (HW.out.below (hbl.trans (hbb.mono hbl.size)))))).mono ?_⟩
    rintro e X3 ⟨rfl,hbn⟩
    have hbx:=hbb.trans (hbn.mono hbb.size)
    clear hbb hbn g0 g1 g2 g3 q0 q1 r1 f1 r2 f2 ic fi
    have hbb:=hbx;clear hbx
    obtain⟨g0,g1,g2,g3,q0,q1,r1,f1,r2,f2,ic,fi⟩:=KS.out X3 hbb
    gi_wp2
    all_goals first|exact(zzU ‹_›).elim|skip
    refine⟨trivial,(CallsIn.inRound lp (callsIn_wide.2 (Y2.out X3 (HW.out.below (hbl.trans (hbb.mono hbl.size)))))).mono ?_⟩
    rintro e X4 ⟨rfl,hbn⟩
    have hbx:=hbb.trans (hbn.mono hbb.size)
    clear hbb hbn g0 g1 g2 g3 q0 q1 r1 f1 r2 f2 ic fi
    have hbb:=hbx;clear hbx
    obtain⟨g0,g1,g2,g3,q0,q1,r1,f1,r2,f2,ic,fi⟩:=KS.out X4 hbb
    gi_wp2
    all_goals first|exact(zzU ‹_›).elim|skip
    refine⟨trivial,(CallsIn.inRound lp (callsIn_wide.2 (Y1.out X4 (HW.out.below (hbl.trans (hbb.mono hbl.size)))))).mono ?_⟩
    rintro e X5 ⟨rfl,hbn⟩
    have hbx:=hbb.trans (hbn.mono hbb.size)
    clear hbb hbn g0 g1 g2 g3 q0 q1 r1 f1 r2 f2 ic fi
    have hbb:=hbx;clear hbx
    obtain⟨g0,g1,g2,g3,q0,q1,r1,f1,r2,f2,ic,fi⟩:=KS.out X5 hbb
    gi_wp2
    all_goals first|exact(zzU ‹_›).elim|skip
    refine⟨trivial,(CallsIn.inRound lp (callsIn_wide.2 (T1.out X5 (HW.out.below (hbl.trans (hbb.mono hbl.size)))))).mono ?_⟩
    rintro e X6 ⟨rfl,hbn⟩
    have hbx:=hbb.trans (hbn.mono hbb.size)
    clear hbb hbn g0 g1 g2 g3 q0 q1 r1 f1 r2 f2 ic fi
    have hbb:=hbx;clear hbx
    obtain⟨g0,g1,g2,g3,q0,q1,r1,f1,r2,f2,ic,fi⟩:=KS.out X6 hbb
    rcases(show(decide (0<t)=true/\decide (t<0)=false)\/(decide (0<t)=false/\decide (t<0)=true)\/(decide (0<t)=false/\decide (t<0)=false) by simp only[decide_eq_true_eq,decide_eq_false_iff_not];omega) with⟨t1,t2⟩|⟨t1,t2⟩|⟨t1,t2⟩
    ·have HD:=hid (⟨⟨d1,d2⟩,⟨e1,e2⟩,⟨t1,t2⟩⟩:(_/\_)/\(_/\_)/\(_/\_))
     gi_wp2
     all_goals first|exact(zzU ‹_›).elim|skip
     obtain⟨⟨d1,d2⟩,⟨e1,e2⟩,⟨t1,t2⟩⟩:=HD.out
     simp only[decide_eq_true_eq,decide_eq_false_iff_not] at d1 d2 e1 e2 t1 t2
     exact HEnd.out _ hbb HM.out (by rw[HF.out];omega)
    ·have HD:=hid (⟨⟨d1,d2⟩,⟨e1,e2⟩,⟨t1,t2⟩⟩:(_/\_)/\(_/\_)/\(_/\_))
     gi_wp2
     all_goals first|exact(zzU ‹_›).elim|skip
     obtain⟨⟨d1,d2⟩,⟨e1,e2⟩,⟨t1,t2⟩⟩:=HD.out
     simp only[decide_eq_true_eq,decide_eq_false_iff_not] at d1 d2 e1 e2 t1 t2
     exact HEnd.out _ hbb HM.out (by rw[HF.out];omega)
    ·have HD:=hid (⟨⟨d1,d2⟩,⟨e1,e2⟩,⟨t1,t2⟩⟩:(_/\_)/\(_/\_)/\(_/\_))
     gi_wp2
     all_goals first|exact(zzU ‹_›).elim|skip
     obtain⟨⟨d1,d2⟩,⟨e1,e2⟩,⟨t1,t2⟩⟩:=HD.out
     simp only[decide_eq_true_eq,decide_eq_false_iff_not] at d1 d2 e1 e2 t1 t2
     exact HEnd.out _ hbb HM.out (by rw[HF.out];omega)
   ·gi_wp2
    all_goals first|exact(zzU ‹_›).elim|skip
    refine⟨trivial,(CallsIn.inRound lp (callsIn_wide.2 (Y1.out X1 (HW.out.below (hbl.trans (hbb.mono hbl.size)))))).mono ?_⟩
    rintro e X2 ⟨rfl,hbn⟩
    have hbx:=hbb.trans (hbn.mono hbb.size)
    clear hbb hbn g0 g1 g2 g3 q0 q1 r1 f1 r2 f2 ic fi
    have hbb:=hbx;clear hbx
    obtain⟨g0,g1,g2,g3,q0,q1,r1,f1,r2,f2,ic,fi⟩:=KS.out X2 hbb
    gi_wp2
    all_goals first|exact(zzU ‹_›).elim|skip
    refine⟨trivial,?_⟩
    gi_wp2
    all_goals first|exact(zzU ‹_›).elim|skip
    refine⟨trivial,(CallsIn.inRound lp (callsIn_wide.2 (Y2.out X2 (HW.out.below (hbl.trans (hbb.mono hbl.size)))))).mono ?_⟩
    rintro e X3 ⟨rfl,hbn⟩
    have hbx:=hbb.trans (hbn.mono hbb.size)
    clear hbb hbn g0 g1 g2 g3 q0 q1 r1 f1 r2 f2 ic fi
    have hbb:=hbx;clear hbx
    obtain⟨g0,g1,g2,g3,q0,q1,r1,f1,r2,f2,ic,fi⟩:=KS.out X3 hbb
    gi_wp2
    all_goals first|exact(zzU ‹_›).elim|skip
    refine⟨trivial,?_⟩
    gi_wp2
    all_goals first|exact(zzU ‹_›).elim|skip
    refine⟨trivial,(CallsIn.inRound lp (callsIn_wide.2 (T1.out X3 (HW.out.below (hbl.trans (hbb.mono hbl.size)))))).mono ?_⟩
    rintro e X4 ⟨rfl,hbn⟩
    have hbx:=hbb.trans (hbn.mono hbb.size)
    clear hbb hbn g0 g1 g2 g3 q0 q1 r1 f1 r2 f2 ic fi
    have hbb:=hbx;clear hbx
    obtain⟨g0,g1,g2,g3,q0,q1,r1,f1,r2,f2,ic,fi⟩:=KS.out X4 hbb
    rcases(show(decide (0<t)=true/\decide (t<0)=false)\/(decide (0<t)=false/\decide (t<0)=true)\/(decide (0<t)=false/\decide (t<0)=false) by simp only[decide_eq_true_eq,decide_eq_false_iff_not];omega) with⟨t1,t2⟩|⟨t1,t2⟩|⟨t1,t2⟩
    ·have HD:=hid (⟨⟨d1,d2⟩,⟨e1,e2⟩,⟨t1,t2⟩⟩:(_/\_)/\(_/\_)/\(_/\_))
     gi_wp2
     all_goals first|exact(zzU ‹_›).elim|skip
     obtain⟨⟨d1,d2⟩,⟨e1,e2⟩,⟨t1,t2⟩⟩:=HD.out
     simp only[decide_eq_true_eq,decide_eq_false_iff_not] at d1 d2 e1 e2 t1 t2
     exact HEnd.out _ hbb HM.out (by rw[HF.out];omega)
    ·have HD:=hid (⟨⟨d1,d2⟩,⟨e1,e2⟩,⟨t1,t2⟩⟩:(_/\_)/\(_/\_)/\(_/\_))
     gi_wp2
     all_goals first|exact(zzU ‹_›).elim|skip
     obtain⟨⟨d1,d2⟩,⟨e1,e2⟩,⟨t1,t2⟩⟩:=HD.out
     simp only[decide_eq_true_eq,decide_eq_false_iff_not] at d1 d2 e1 e2 t1 t2
     exact HEnd.out _ hbb HM.out (by rw[HF.out];omega)
    ·have HD:=hid (⟨⟨d1,d2⟩,⟨e1,e2⟩,⟨t1,t2⟩⟩:(_/\_)/\(_/\_)/\(_/\_))
     gi_wp2
     all_goals first|exact(zzU ‹_›).elim|skip
     obtain⟨⟨d1,d2⟩,⟨e1,e2⟩,⟨t1,t2⟩⟩:=HD.out
     simp only[decide_eq_true_eq,decide_eq_false_iff_not] at d1 d2 e1 e2 t1 t2
     exact HEnd.out _ hbb HM.out (by rw[HF.out];omega)
   ·gi_wp2
    all_goals first|exact(zzU ‹_›).elim|skip
    refine⟨trivial,(CallsIn.inRound lp (callsIn_wide.2 (Y1.out X1 (HW.out.below (hbl.trans (hbb.mono hbl.size)))))).mono ?_⟩
    rintro e X2 ⟨rfl,hbn⟩
    have hbx:=hbb.trans (hbn.mono hbb.size)
    clear hbb hbn g0 g1 g2 g3 q0 q1 r1 f1 r2 f2 ic fi
    have hbb:=hbx;clear hbx
    obtain⟨g0,g1,g2,g3,q0,q1,r1,f1,r2,f2,ic,fi⟩:=KS.out X2 hbb
    gi_wp2
    all_goals first|exact(zzU ‹_›).elim|skip
    refine⟨trivial,?_⟩
    gi_wp2
    all_goals first|exact(zzU ‹_›).elim|skip
    refine⟨trivial,(CallsIn.inRound lp (callsIn_wide.2 (Y2.out X2 (HW.out.below (hbl.trans (hbb.mono hbl.size)))))).mono ?_⟩
    rintro e X3 ⟨rfl,hbn⟩
    have hbx:=hbb.trans (hbn.mono hbb.size)
    clear hbb hbn g0 g1 g2 g3 q0 q1 r1 f1 r2 f2 ic fi
    have hbb:=hbx;clear hbx
    obtain⟨g0,g1,g2,g3,q0,q1,r1,f1,r2,f2,ic,fi⟩:=KS.out X3 hbb
    gi_wp2
    all_goals first|exact(zzU ‹_›).elim|skip
    refine⟨trivial,(CallsIn.inRound lp (callsIn_wide.2 (Y1.out X3 (HW.out.below (hbl.trans (hbb.mono hbl.size)))))).mono ?_⟩
    rintro e X4 ⟨rfl,hbn⟩
    have hbx:=hbb.trans (hbn.mono hbb.size)
    clear hbb hbn g0 g1 g2 g3 q0 q1 r1 f1 r2 f2 ic fi
    have hbb:=hbx;clear hbx
    obtain⟨g0,g1,g2,g3,q0,q1,r1,f1,r2,f2,ic,fi⟩:=KS.out X4 hbb
    gi_wp2
    all_goals first|exact(zzU ‹_›).elim|skip
    refine⟨trivial,(CallsIn.inRound lp (callsIn_wide.2 (T1.out X4 (HW.out.below (hbl.trans (hbb.mono hbl.size)))))).mono ?_⟩
    rintro e X5 ⟨rfl,hbn⟩
    have hbx:=hbb.trans (hbn.mono hbb.size)
    clear hbb hbn g0 g1 g2 g3 q0 q1 r1 f1 r2 f2 ic fi
    have hbb:=hbx;clear hbx
    obtain⟨g0,g1,g2,g3,q0,q1,r1,f1,r2,f2,ic,fi⟩:=KS.out X5 hbb
    rcases(show(decide (0<t)=true/\decide (t<0)=false)\/(decide (0<t)=false/\decide (t<0)=true)\/(decide (0<t)=false/\decide (t<0)=false) by simp only[decide_eq_true_eq,decide_eq_false_iff_not];omega) with⟨t1,t2⟩|⟨t1,t2⟩|⟨t1,t2⟩
    ·have HD:=hid (⟨⟨d1,d2⟩,⟨e1,e2⟩,⟨t1,t2⟩⟩:(_/\_)/\(_/\_)/\(_/\_))
     gi_wp2
     all_goals first|exact(zzU ‹_›).elim|skip
     obtain⟨⟨d1,d2⟩,⟨e1,e2⟩,⟨t1,t2⟩⟩:=HD.out
     simp only[decide_eq_true_eq,decide_eq_false_iff_not] at d1 d2 e1 e2 t1 t2
     exact HEnd.out _ hbb HM.out (by rw[HF.out];omega)
    ·have HD:=hid (⟨⟨d1,d2⟩,⟨e1,e2⟩,⟨t1,t2⟩⟩:(_/\_)/\(_/\_)/\(_/\_))
     gi_wp2
     all_goals first|exact(zzU ‹_›).elim|skip
     obtain⟨⟨d1,d2⟩,⟨e1,e2⟩,⟨t1,t2⟩⟩:=HD.out
     simp only[decide_eq_true_eq,decide_eq_false_iff_not] at d1 d2 e1 e2 t1 t2
     exact HFlip.out _ hbb HM.out (by rw[HF.out];omega)
    ·have HD:=hid (⟨⟨d1,d2⟩,⟨e1,e2⟩,⟨t1,t2⟩⟩:(_/\_)/\(_/\_)/\(_/\_))
     gi_wp2
     all_goals first|exact(zzU ‹_›).elim|skip
     obtain⟨⟨d1,d2⟩,⟨e1,e2⟩,⟨t1,t2⟩⟩:=HD.out
     simp only[decide_eq_true_eq,decide_eq_false_iff_not] at d1 d2 e1 e2 t1 t2
     exact HEnd.out _ hbb HM.out (by rw[HF.out];omega)
 case done=>
  rintro D W hD ⟨hS,hP⟩ hK
  have ic:=hS.ic;have r1:=hS.r1;have f1:=hS.f1;have r2:=hS.r2;have f2:=hS.f2
  obtain⟨z,hz⟩:∃z,z=insI l q n:=⟨_,rfl⟩
  rw[<-hz] at ic
  have HX:=hid (⟨hS.bel,hK,hP⟩:qL w W/\W.heap[D]? =some (.deferred (some []))/\∀i,i<n->¬onS l q i)
  have HZ:=hid hz
  clear hS hP hK hseq hS1 hz Y T M HB2
  gi_wp2
  obtain⟨hbel,hK,hP⟩:=HX.out
  have hK1:=(KeepsOthers.setCell W ⟨w.heap.size+1,0,none⟩ (.int .i64 z)).same D _ hK rfl
  have hK':=(KeepsOthers.setCell (W.setCell ⟨w.heap.size+1,0,none⟩ (.int .i64 z)) ⟨w.heap.size+1+1,0,none⟩ (.int .i64 0)).same D _ hK1 rfl
  refine⟨by simp,.inl ⟨_,_,rfl,run_takeDeferred hK',?_⟩⟩
  have c1:=za9 (u:=.int .i64 z) r1
  have c2:(W.setCell ⟨w.heap.size+1,0,none⟩ (.int .i64 z)).cell? ⟨w.heap.size+1+1,0,none⟩=some (I 0):=by rw[zau _ _ _ _ (by omega)];exact r2
  have c3:=za9 (u:=.int .i64 0) c2
  have c4:((W.setCell ⟨w.heap.size+1,0,none⟩ (.int .i64 z)).setCell ⟨w.heap.size+1+1,0,none⟩ (.int .i64 0)).cell? ⟨w.heap.size+1,0,none⟩=some (.int .i64 z):=by rw[zau _ _ _ _ (by omega)];exact c1
  have e1:=(zbk hK').cell c4
  have e2:=(zbk hK').cell c3
  refine⟨.tuple #[.int .i64 z,.int .i64 0],?_,z,rfl,.inr ⟨λk hk=>hP k hk,HZ.out⟩,zby ((hbel.setCell (p:=⟨w.heap.size+1,0,none⟩) (by simp) _).setCell (p:=⟨w.heap.size+1+1,0,none⟩) (by simp;omega) _) (by have:=HS1.out;omega) hK'⟩
  simp[results,Tryz.f8,go_sem,e1,e2]
 case stop=>
  rintro D c k W hD ⟨rfl,hbel,r1,r2,hon⟩ hK
  have HX:=hid (⟨hbel,hon⟩:qL w W/\∃k,k<n/\onS l q k);clear hbel hon hseq hS1
  gi_wp2
  refine⟨by simp,.inl ⟨_,_,rfl,run_takeDeferred hK,?_⟩⟩
  have e1:=(zbk hK).cell r1
  have e2:=(zbk hK).cell r2
  obtain⟨k',h1,h2⟩:=HX.out.2
  refine⟨.tuple #[.int .i64 0,.int .i64 0],?_,0,rfl,.inl ⟨⟨k',h1,h2⟩,rfl⟩,zby HX.out.1 (by have:=HS1.out;omega) hK⟩
  simp[results,Tryz.f8,go_sem,e1,e2]
theorem zll (p:Option Addr) (cap:Nat) (l:List Pt) (q:Pt) (h3:3<=l.length) (hlen:l.length<=4096) (hz:∀i,szP (cor l i) 36) (hq:szP q 36) (hs:zch l) (hm:zbz l) (w:zA) (hw:Wd w) (hp:RowPts p l w):
 zC zF 8 #[.slice p l.length cap,ptV q] w λe w'=>∃r:Int,e=.returned (.tuple #[.int .i64 r,.int .i64 0])/\(((∃k,k<l.length/\onS l q k)/\r=0)\/((∀k,k<l.length->¬onS l q k)/\r=insI l q l.length))/\zB w.heap.size w w':=
 ztn p cap l q h3 hlen (hid λW hW hp=>zj5 p cap l h3 hlen hz hs hm W hW hp) (hid λW hW=>zdi q hq W hW)
  (hid λk W hW=>zol _ _ _ _ 36 (by omega) (by omega) (hz _) (hz _) hq hq W hW) (hid λk W hW=>zlr _ _ 36 36 (by omega) (by omega) (by omega) (hz _).2 hq.2 W hW)
  (hid λk W hW=>zjg _ _ _ 36 (by omega) (by omega) (hz _) (hz _) hq W hW) w (hid hw) (hid hp)
end
section
open Go.RowKit Go.Shelf Lib Str Limb Geo
theorem yc7 (a b q:Pt):meet a b q q=1↔turn a b q=0/\onR a b q:=by
 by_cases h:turn a b q=0
 ·rw[z33 h h (zo6 q a) (zo6 q b),z9y,z9f,zlb h]
  have h1:le (low a b) (maxP (low a b) q)/\le q (maxP (low a b) q):=zt6.1 (zhp _)
  have h2:le (minP (high a b) q) (high a b)/\le (minP (high a b) q) q:=zt7.1 (zhp _)
  constructor
  ·intro e
   have e0:ordP (maxP (low a b) q) (minP (high a b) q)=0:=by omega
   have e1:maxP (low a b) q=minP (high a b) q:=by
    have:=zas (maxP (low a b) q) (minP (high a b) q);grind
   have hz:minP (high a b) q=q:=le_antisymm h2.2 (by rw[<-e1];exact h1.2)
   refine⟨h,?_,?_⟩
   ·rw[e1,hz] at h1;exact h1.1
   ·rw[hz] at h2;exact h2.1
  ·rintro⟨_,k1,k2⟩
   have m1:maxP (low a b) q=q:=le_antisymm (zt6.2 ⟨k1,zhp _⟩) h1.2
   have m2:minP (high a b) q=q:=le_antisymm h2.2 (zt7.2 ⟨k2,zhp _⟩)
   rw[m1,m2,zgw];rfl
 ·constructor
  ·intro e
   exfalso
   unfold meet at e
   have:=znm a b q
   have hp:¬turn a b q*turn a b q<=0:=by
    rcases this with t|t|t
    ·rw[t];decide
    ·exact absurd t h
    ·rw[t];decide
   simp[h,hp] at e
  ·exact λk=>absurd k.1 h
def ztb (a b q:Pt):Bool:=
 if cmpR a.y b.y>0 then decide (cmpR b.y q.y<=0)&&(decide (cmpR q.y a.y<0)&&decide (turn b a q>0))
 else decide (cmpR a.y q.y<=0)&&(decide (cmpR q.y b.y<0)&&decide (turn a b q>0))
theorem z88 (l:List Pt) (q:Pt) (k:Nat):ztb (cor l k) (cor l (k+1)) q=true↔ze5 l q k:=by
 unfold ztb ze5
 generalize cor l k=a
 generalize cor l (k+1)=b
 rw[zda a b q]
 have c1:=zaw a.y b.y
 have c2:=zaw a.y q.y
 have c3:=zaw b.y q.y
 have c4:=zaw q.y a.y
 have c5:=zaw q.y b.y
 generalize turn a b q=t at*
 split<;>simp only[Bool.and_eq_true,decide_eq_true_eq]<;>grind
def zinB (l:List Pt) (q:Pt):Nat->Bool
 |0=>false
 |k+1=>if ztb (cor l k) (cor l (k+1)) q=true then !zinB l q k else zinB l q k
theorem yba (l:List Pt) (q:Pt):∀k,insI l q k=if zinB l q k=true then 1 else-1
 |0=>rfl
 |k+1=>by
  unfold insI zinB
  rw[yba l q k]
  by_cases c:ze5 l q k
  ·rw[if_pos c,if_pos ((z88 l q k).2 c)]
   cases zinB l q k<;>rfl
  ·rw[if_neg c,if_neg (λh=>c ((z88 l q k).1 h))]
end
section
open Go.RowKit Go.Shelf Lib Str Limb Geo
attribute [local go_sem] Oper.semAt_some
theorem z7b (p1 p2:Option Addr) (cap1 cap2 n1 n2:Nat) (x y:List Pt) (hx0:0<x.length) (hx:x.length<=4096) (hy0:0<y.length) (hy:y.length<=4096) (w:zA)
 (C1:Hid (∀W:zA,qL w W->qJ 18 #[.slice p1 n1 cap1] W (.int .i64 0)))
 (C2:Hid (∀W:zA,qL w W->qJ 18 #[.slice p2 n2 cap2] W (.int .i64 0)))
 (K1:Hid (∀W:zA,qL w W->zC zF 41 #[.slice p1 n1 cap1] W λe w'=>∃v,e=.returned v/\w'.ownsRow W.heap.size 25 2 v x.length (z3k x)/\zB W.heap.size W w'))
 (K2:Hid (∀W:zA,qL w W->zC zF 41 #[.slice p2 n2 cap2] W λe w'=>∃v,e=.returned v/\w'.ownsRow W.heap.size 25 2 v y.length (z3k y)/\zB W.heap.size W w')):
 qJ 10 #[.slice p1 n1 cap1,.slice p2 n2 cap2] w (.tuple #[.bool (decide (x=y)),.int .i64 0]):=by
 go_enter Tryz.func10,Tryz.ntmps10
 go_wp2_with fail
 refine(C1.out w (zM _ _)).mono ?_
 rintro e w1 ⟨rfl,hb1⟩
 have HB1:=hid hb1;clear hb1 C1
 go_wp2_with fail
 refine(C2.out w1 HB1.out).mono ?_
 rintro e w2 ⟨rfl,hb2⟩
 have HB2:=qT HB1 hb2;clear hb2 HB1 C2
 go_wp2_with fail
 refine(K1.out w2 HB2.out).mono ?_
 rintro e w3 ⟨v1,rfl,ho1,hb3⟩
 obtain⟨g1,c1,rfl,_,hc1⟩:=z4s ho1 hx0
 have HB3:=qT HB2 hb3;clear hb3 HB2 K1 ho1
 have HC1:=hid hc1;clear hc1
 go_wp2_with fail
 refine(K2.out w3 HB3.out).mono ?_
 rintro e w4 ⟨v2,rfl,ho2,hb4⟩
 obtain⟨g2,c2,rfl,_,hc2⟩:=z4s ho2 hy0
 have HE:=hid (z5s g1 c1 g2 c2 x y hx0 hx hy0 hy w4 (hid λW hb k=>HC1.out W (hb4.trans (hb.mono hb4.size)) k) (hid hc2))
 have HB4:=qT HB3 hb4;clear hb4 HB3 K2 ho2 hc2 HC1 hx0 hx hy0 hy
 generalize x.length=a at*
 generalize y.length=b at*
 go_wp2_with fail
 refine HE.out.mono ?_
 rintro e w5 ⟨rfl,hb5⟩
 have HB5:=qT HB4 hb5;clear hb5 HB4 HE
 generalize ht:decide (x=y)=t at*
 have HT:=hid ht;clear ht
 go_wp2_with fail
 go_ret2
 exact⟨by rw[HT.out];rfl,HB5.out⟩
theorem z6n (p1:Option Addr) (cap1:Nat) (q1:List Pt) (p2:Option Addr) (cap2:Nat) (q2:List Pt) (h1:3<=q1.length) (l1:q1.length<=4096) (z1:∀q∈q1,szP q 36) (y1:z3q q1)
 (h2:3<=q2.length) (l2:q2.length<=4096) (z2:∀q∈q2,szP q 36) (y2:z3q q2) (w:zA) (hw:Wd w) (r1:RowPts p1 q1 w) (r2:RowPts p2 q2 w):
 qJ 10 #[.slice p1 q1.length cap1,.slice p2 q2.length cap2] w (.tuple #[.bool (decide (z3p q1=z3p q2)),.int .i64 0]):=by
 have k1:=z4h _ (List.length_pos_iff.2 (zkl h1 y1))
 have k2:=z4h _ (List.length_pos_iff.2 (zkl h2 y2))
 have m1:=z5f q1;have m2:=z5f q2
 have n1:=List.length_pos_iff.2 (zkl h1 y1);have n2:=List.length_pos_iff.2 (zkl h2 y2)
 have e1:(z3p q1).length=(z3n q1).length:=k1
 have e2:(z3p q2).length=(z3n q2).length:=k2
 exact z7b p1 p2 cap1 cap2 q1.length q2.length (z3p q1) (z3p q2) (by omega) (by omega) (by omega) (by omega) w
  (hid λW hb=>zj5 p1 cap1 q1 h1 l1 (z49 z1 (by omega)) y1.1 y1.2 W (hw.below hb) (r1.keep (zac hb)))
  (hid λW hb=>zj5 p2 cap2 q2 h2 l2 (z49 z2 (by omega)) y2.1 y2.2 W (hw.below hb) (r2.keep (zac hb)))
  (hid λW hb=>z4k p1 cap1 q1 h1 l1 z1 y1 W (hw.below hb) (r1.keep (zac hb)))
  (hid λW hb=>z4k p2 cap2 q2 h2 l2 z2 y2 W (hw.below hb) (r2.keep (zac hb)))
end
section
open Go.RowKit Go.Shelf Lib Str Limb Geo
theorem zm0 {p:Option Addr} {q:List Pt} {W:zA} (h:RowTx p (txt q) W):RowPts p q W:=λi hi=>h i (by rw[za2];exact hi)
def insV (l:List Pt) (q:Pt):Int:=if(List.range l.length).any (λk=>meet (cor l k) (cor l (k+1)) q q==1)=true then 0 else insI l q l.length
theorem yak (l:List Pt) (q:Pt):(List.range l.length).any (λk=>meet (cor l k) (cor l (k+1)) q q==1)=true↔∃k,k<l.length/\onS l q k:=by
 rw[List.any_eq_true]
 constructor
 ·rintro⟨k,h1,h2⟩;exact⟨k,List.mem_range.1 h1,beq_iff_eq.1 h2⟩
 ·rintro⟨k,h1,h2⟩;exact⟨k,List.mem_range.2 h1,beq_iff_eq.2 h2⟩
theorem z9e {l:List Pt} {q:Pt} {r:Int} (h:((∃k,k<l.length/\onS l q k)/\r=0)\/((∀k,k<l.length->¬onS l q k)/\r=insI l q l.length)):r=insV l q:=by
 unfold insV
 rcases h with⟨h,e⟩|⟨h,e⟩
 ·rw[if_pos ((yak l q).2 h),e]
 ·rw[if_neg (λc=>let ⟨k,h1,h2⟩:=(yak l q).1 c;h k h1 h2),e]
theorem yav (p:Option Addr) (cap:Nat) (l:List (List UInt8×List UInt8)) (x y:List UInt8) (hl:l.length<=10) (hs:zsj l) (hx:x.length<=1000) (hy:y.length<=1000):∃r e:Int,
 (∀W:zA,Wd W->RowTx p l W->zC zF 8 #[.slice p l.length cap,.agg #[St x,St y]] W λz w'=>z=.returned (.tuple #[.int .i64 r,.int .i64 e])/\zB W.heap.size W w')/\
 (∀W:zA,Wd W->RowTx p l W->zC zF 9 #[.slice p l.length cap,.agg #[St x,St y]] W λz w'=>z=.returned (.tuple #[.int .i64 r,.int .i64 e])/\zB W.heap.size W w'):=by
 by_cases h:zm7 l/\zlw x y
 ·obtain⟨⟨q,rfl,hz,hP,h3⟩,⟨v,rfl,rfl,hv⟩⟩:=h
  rw[za2] at hl⊢
  have hz36:∀i,szP (cor q i) 36:=zsk (by omega) hz
  refine⟨insV q v,0,λW hW hr=>?_,λW hW hr=>?_⟩
  ·refine(zll p cap q v h3 (by omega) hz36 hv hP.1 hP.2 W hW (zm0 hr)).mono ?_
   rintro e w' ⟨r,rfl,h,hb⟩
   exact⟨by rw[z9e h],hb⟩
  ·obtain⟨b,off,rfl,_⟩:=z4j (zm0 hr) (by omega)
   have hone:∀k,meet (cor q k) (cor q (k+1)) v v=1↔turn (cor q k) (cor q (k+1)) v=0/\onB (cor q k) (cor q (k+1)) v=true:=λk=>by rw[yc7,zoo]
   refine yai b off cap q.length (txt q) ⟨(numS v.x).toArray⟩ ⟨(numS v.y).toArray⟩ (λk=>⟨(numS (cor q k).x).toArray⟩) (λk=>⟨(numS (cor q k).y).toArray⟩)
    (λk=>turn (cor q k) (cor q (k+1)) v) (λk=>turn (cor q (k+1)) (cor q k) v) (λk=>cmpR (cor q k).y (cor q (k+1)).y) (λk=>cmpR (cor q k).y v.y) (λk=>cmpR v.y (cor q k).y)
    (λk=>onB (cor q k) (cor q (k+1)) v) (λk=>ztb (cor q k) (cor q (k+1)) v) (zinB q v) (insV q v)
    (hid λW hW hr=>?_) (hid λW hW=>zx1 v hv W hW)
    ⟨hid λk W hW=>zh8 _ _ _ 36 (by omega) (by omega) (hz36 _) (hz36 _) hv W hW,hid λk W hW=>zh8 _ _ _ 36 (by omega) (by omega) (hz36 _) (hz36 _) hv W hW,
      hid λk W hW=>zjm _ _ _ 36 (by omega) (by omega) (hz36 _) (hz36 _) hv W hW,hid λk W hW=>zjl _ _ 36 36 (by omega) (by omega) (by omega) (hz36 _).2 (hz36 _).2 W hW,
      hid λk W hW=>zjl _ _ 36 36 (by omega) (by omega) (by omega) (hz36 _).2 hv.2 W hW,hid λk W hW=>zjl _ _ 36 36 (by omega) (by omega) (by omega) hv.2 (hz36 _).2 W hW,
      hid λW hr k=>?_,hid ⟨rfl,λk=>rfl⟩,hid λk=>?_,hid ⟨h3,by omega⟩⟩
    (hid λk hk h0 h1=>?_) (hid λhn=>?_) W (hid hW) (hid hr)
   ·refine(zyb _ cap q h3 (by omega) hz36 W hW (zm0 hr)).mono ?_
    rintro e w' ⟨r,rfl,h,hb⟩
    rw[h.2 hP]
    exact⟨rfl,hb⟩
   ·obtain⟨b',off',e,h1,h2⟩:=zhi (zm0 hr) k (by omega)
    obtain⟨rfl,rfl⟩:b=b'/\off=off':=by simpa using e
    exact⟨h1,h2⟩
   ·show ztb _ _ _=_
    unfold ztb
    simp only[gt_iff_lt]
   ·exact(z9e (.inl ⟨⟨k,hk,(hone k).2 ⟨h0,h1⟩⟩,rfl⟩)).symm
   ·have:=z9e (l:=q) (q:=v) (r:=insI q v q.length) (.inr ⟨λk hk h=>hn k hk ((hone k).1 h),rfl⟩)
    rw[<-this,yba]
 ·refine⟨0,1,λW hW hr=>?_,λW hW hr=>?_⟩
  ·exact yaq p cap l.length l x y (zm7 l) (zlw x y) (hid λW hW hr=>zu4 p cap l (by omega) hs W hW hr) (hid λW hW=>zkd x y hx hy W hW) (hid h) W (hid hW) (hid hr)
  ·exact yar p cap l.length l x y (zm7 l) (zlw x y) (hid λW hW hr=>zu7 p cap l (by omega) hs W hW hr) (hid λW hW=>zhq x y hx hy W hW) (hid h) W (hid hW) (hid hr)
theorem z89 {q:List Pt} (h3:3<=q.length) (h10:q.length<=10) (h:z3q q):0<(z3p q).length/\(z3p q).length<=4096:=by
 have k0:=List.length_pos_iff.2 (zkl h3 h)
 have k1:=z4h _ k0
 have k2:=z5f q
 have e:(z3p q).length=(z3n q).length:=k1
 omega
theorem yce (p p':Option Addr) (cap cap':Nat) (l m:List (List UInt8×List UInt8)) (hl:l.length<=10) (hm:m.length<=10) (hs:zsj l) (hs':zsj m):∃(b:Bool) (e:Int),
 (∀W:zA,Wd W->RowTx p l W->RowTx p' m W->zC zF 10 #[.slice p l.length cap,.slice p' m.length cap'] W λz w'=>z=.returned (.tuple #[.bool b,.int .i64 e])/\zB W.heap.size W w')/\
 (∀W:zA,Wd W->RowTx p l W->RowTx p' m W->zC zF 11 #[.slice p l.length cap,.slice p' m.length cap'] W λz w'=>z=.returned (.tuple #[.bool b,.int .i64 e])/\zB W.heap.size W w'):=by
 by_cases h:zm7 l/\zm7 m
 ·obtain⟨⟨q,rfl,hz,hP,h3⟩,⟨r,rfl,hz',hP',h3'⟩⟩:=h
  rw[za2] at hl hm⊢
  rw[za2]
  have k1:=z89 h3 hl hP
  have k2:=z89 h3' hm hP'
  refine⟨decide (z3p q=z3p r),0,λW hW hr hr'=>?_,λW hW hr hr'=>?_⟩
  ·exact z6n p cap q p' cap' r h3 (by omega) hz hP h3' (by omega) hz' hP' W hW (zm0 hr) (zm0 hr')
  ·exact ybn p p' cap cap' q.length r.length (z3p q) (z3p r) k1.1 k1.2 k2.1 k2.2 W
    (hid λV hb=>(zyb p cap q h3 (by omega) (zsk (by omega) hz) V (hW.below hb) (zm0 (hr.keep (zac hb)))).mono λe w' ⟨r,h1,h,hb⟩=>⟨by rw[h1,h.2 hP],hb⟩)
    (hid λV hb=>(zyb p' cap' r h3' (by omega) (zsk (by omega) hz') V (hW.below hb) (zm0 (hr'.keep (zac hb)))).mono λe w' ⟨r,h1,h,hb⟩=>⟨by rw[h1,h.2 hP'],hb⟩)
    (hid λV hb=>z9t p cap q h3 (by omega) hz hP V (hW.below hb) (zm0 (hr.keep (zac hb))))
    (hid λV hb=>z9t p' cap' r h3' (by omega) hz' hP' V (hW.below hb) (zm0 (hr'.keep (zac hb))))
 ·refine⟨false,1,λW hW hr hr'=>?_,λW hW hr hr'=>?_⟩
  ·exact ycb p p' cap cap' l.length m.length l m (zm7 l) (zm7 m) (hid λW hW hr=>zu4 p cap l (by omega) hs W hW hr) (hid λW hW hr=>zu4 p' cap' m (by omega) hs' W hW hr) (hid h) W (hid hW) (hid hr) (hid hr')
  ·exact ycc p p' cap cap' l.length m.length l m (zm7 l) (zm7 m) (hid λW hW hr=>zu7 p cap l (by omega) hs W hW hr) (hid λW hW hr=>zu7 p' cap' m (by omega) hs' W hW hr) (hid h) W (hid hW) (hid hr) (hid hr')
theorem z9v (x1 y1 x2 y2 x3 y3 x4 y4:List UInt8) (h1:x1.length<=1000/\y1.length<=1000) (h2:x2.length<=1000/\y2.length<=1000) (h3:x3.length<=1000/\y3.length<=1000) (h4:x4.length<=1000/\y4.length<=1000):∃k e:Int,
 (∀W:zA,Wd W->zC zF 12 #[.agg #[St x1,St y1],.agg #[St x2,St y2],.agg #[St x3,St y3],.agg #[St x4,St y4]] W λz w'=>z=.returned (.tuple #[.int .i64 k,.int .i64 e])/\zB W.heap.size W w')/\
 (∀W:zA,Wd W->zC zF 13 #[.agg #[St x1,St y1],.agg #[St x2,St y2],.agg #[St x3,St y3],.agg #[St x4,St y4]] W λz w'=>z=.returned (.tuple #[.int .i64 k,.int .i64 e])/\zB W.heap.size W w'):=by
 by_cases h:zlw x1 y1/\zlw x2 y2/\zlw x3 y3/\zlw x4 y4
 ·have hg:=h
  obtain⟨⟨a,rfl,rfl,ha⟩,⟨b,rfl,rfl,hb⟩,⟨c,rfl,rfl,hc⟩,⟨d,rfl,rfl,hd⟩⟩:=h
  refine⟨meet a b c d,0,λW hW=>z0s a b c d ha hb hc hd W hW,λW hW=>?_⟩
  exact zs6 _ _ _ _ _ _ _ _ _ _ _ _ _ 0 (hid λW hW=>zhq _ _ h1.1 h1.2 W hW) (hid λW hW=>zhq _ _ h2.1 h2.2 W hW) (hid λW hW=>zhq _ _ h3.1 h3.2 W hW) (hid λW hW=>zhq _ _ h4.1 h4.2 W hW)
   (hid λ_=>⟨rfl,λW hW=>z2g a b c d 36 (by omega) (by omega) ha hb hc hd W hW⟩) (hid λhn=>absurd hg hn) W (hid hW)
 ·refine⟨0,1,λW hW=>?_,λW hW=>?_⟩
  ·exact yah _ _ _ _ _ _ _ _ _ _ _ _ (hid λW hW=>zkd _ _ h1.1 h1.2 W hW) (hid λW hW=>zkd _ _ h2.1 h2.2 W hW) (hid λW hW=>zkd _ _ h3.1 h3.2 W hW) (hid λW hW=>zkd _ _ h4.1 h4.2 W hW) (hid h) W (hid hW)
  ·exact zs6 _ _ _ _ _ _ _ _ _ _ _ _ 0 1 (hid λW hW=>zhq _ _ h1.1 h1.2 W hW) (hid λW hW=>zhq _ _ h2.1 h2.2 W hW) (hid λW hW=>zhq _ _ h3.1 h3.2 W hW) (hid λW hW=>zhq _ _ h4.1 h4.2 W hW)
    (hid λhn=>absurd hn h) (hid λ_=>⟨rfl,rfl⟩) W (hid hW)
theorem RowTx.four4 (W:zA) (t:TypeId) (x1 y1 x2 y2 x3 y3 x4 y4:List UInt8):
 RowTx (some ⟨W.heap.size,0,none⟩) [(x1,y1),(x2,y2),(x3,y3),(x4,y4)] (W.alloc (.cells #[St x1,St y1,St x2,St y2,St x3,St y3,St x4,St y4] t)):=by
 have A:=zG W (.cells #[St x1,St y1,St x2,St y2,St x3,St y3,St x4,St y4] t)
 intro i hi
 refine⟨_,_,rfl,?_⟩
 match i,hi with
 |0,_|1,_|2,_|3,_=>exact⟨by rw[zJ A];rfl,by rw[zJ A];rfl⟩
theorem z9a {l:List (List UInt8×List UInt8)} {n:Nat} (hn:l.length=n) (h:∀j,j<n->(ptOf l j).1.length<=700/\(ptOf l j).2.length<=700):zsj l:=by
 intro x hx
 obtain⟨i,hi,rfl⟩:=List.getElem_of_mem hx
 have:=h i (by omega)
 unfold ptOf at this
 rw[List.getElem?_eq_getElem hi] at this
 simp only[Option.getD_some] at this
 omega
theorem ybq (W:zA) (x1 y1 x2 y2 x3 y3 x4 y4:List UInt8):
 zC zF 6 #[.slice (some ⟨W.heap.size,0,none⟩) 4 4] (W.alloc (.cells #[St x1,St y1,St x2,St y2,St x3,St y3,St x4,St y4] 25)) (GreP W (4<=10/\∀j,j<4->(ptOf [(x1,y1),(x2,y2),(x3,y3),(x4,y4)] j).1.length<=700/\(ptOf [(x1,y1),(x2,y2),(x3,y3),(x4,y4)] j).2.length<=700)):=by
 have hal:qL W (W.alloc (.cells #[St x1,St y1,St x2,St y2,St x3,St y3,St x4,St y4] 25)):=(zM _ W).alloc (zN _) _
 refine(zvv (some ⟨W.heap.size,0,none⟩) 4 4 [(x1,y1),(x2,y2),(x3,y3),(x4,y4)] (hid (by decide)) _ (hid rfl) (hid (RowTx.four4 W _ _ _ _ _ _ _ _ _))).mono ?_
 rintro e w' ⟨b,rfl,h,hb⟩
 exact⟨b,rfl,h,hal.trans (hb.mono hal.size)⟩
theorem ybr (p:Option Addr) (cap:Nat) (l:List (List UInt8×List UInt8)) (p':Option Addr) (cap':Nat) (m:List (List UInt8×List UInt8)) (x1 y1 x2 y2 x3 y3 x4 y4:List UInt8) (hll:l.length<=maxLen) (hml:m.length<=maxLen)
 (w:zA) (AW:Hid (∀W:zA,qL w W->qJ 7 #[] W (.bool true))) (hw:Wd w) (hp:RowTx p l w) (hp':RowTx p' m w):
 qJ 3 #[.slice p l.length cap,.slice p' m.length cap',.agg #[St x1,St y1],.agg #[St x2,St y2],.agg #[St x3,St y3],.agg #[St x4,St y4]] w (.bool true):=by
 refine yau p p' cap cap' l.length m.length l m x1 y1 x2 y2 x3 y3 x4 y4 _ _ _ (hid λW hr=>zvv p cap l.length l (hid hll) W (hid rfl) (hid hr)) (hid λW hr=>zvv p' cap' m.length m (hid hml) W (hid rfl) (hid hr))
  (hid λW=>ybq W x1 y1 x2 y2 x3 y3 x4 y4) w (hid hw) (hid hp) (hid hp') AW (hid ?_)
 rintro⟨g1,g2⟩ ⟨g3,g4⟩ ⟨_,g6⟩
 have s1:=g6 0 (by omega);have s2:=g6 1 (by omega);have s3:=g6 2 (by omega);have s4:=g6 3 (by omega)
 have up:∀a b:List UInt8,a.length<=700/\b.length<=700->a.length<=1000/\b.length<=1000:=λa b h=>by omega
 have sl:=z9a rfl g2;have sm:=z9a rfl g4
 obtain⟨x,e,I1,I2⟩:=yav p cap l x1 y1 g1 sl (up _ _ s1).1 (up _ _ s1).2
 obtain⟨is,g,S1,S2⟩:=yce p p' cap cap' l m g1 g3 sl sm
 obtain⟨k,i,M1,M2⟩:=z9v x1 y1 x2 y2 x3 y3 x4 y4 (up _ _ s1) (up _ _ s2) (up _ _ s3) (up _ _ s4)
 exact⟨x,e,g,k,i,is,hid I1,hid I2,hid S1,hid S2,hid M1,hid M2⟩
end
end Go.Proofs.YthfpmfdiamldoaaGreatDoor
