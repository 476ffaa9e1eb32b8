/- polygon.Perimeter. -/
import Derived.Test.YthfpmfdiamldoaaGreatDoorG28
import Derived.LaidByTextLater
set_option maxRecDepth 100000
set_option maxHeartbeats 8000000
open Go renaming World → zA
open Go.Proofs.Tryz renaming prog → zF
open Go.World renaming alloc_heap_new → zG
open Go.Joins renaming cell_of_block → zJ
open Go.RowKit.Below renaming refl → zM
open Nat renaming le_refl → zN
open List renaming getElem?_eq_getElem → yB
namespace Go.Proofs.YthfpmfdiamldoaaGreatDoor
section
open Go.RowKit Go.Shelf Lib Str Limb Geo
attribute [local go_sem] Oper.semAt_some
def sqS (l:List Pt) (k:Nat):Rat:=((cor l (k+1)).x-(cor l k).x)*((cor l (k+1)).x-(cor l k).x)+((cor l (k+1)).y-(cor l k).y)*((cor l (k+1)).y-(cor l k).y)
def zd2 (l:List Pt):Nat->List Value
 |0=>[]
 |k+1=>zd2 l k++[St [49],St (numS (sqS l k))]
theorem zkj (l:List Pt):∀k,(zd2 l k).length=2*k
 |0=>rfl
 |k+1=>by simp[zd2,zkj l k];omega
theorem zpp (l:List Pt):∀k i,i<k->(zd2 l k)[2*i]? =some (St [49])/\(zd2 l k)[2*i+1]? =some (St (numS (sqS l i)))
 |k+1,i,h=>by
  have hl:=zkj l k
  by_cases e:i=k
  ·subst e
   unfold zd2
   rw[List.getElem?_append_right (by omega),List.getElem?_append_right (by omega),hl]
   simp
  ·have:=zpp l k i (by omega)
   unfold zd2
   rw[List.getElem?_append_left (by omega),List.getElem?_append_left (by omega)]
   exact this
theorem zye {w:zA} {base:Nat} {t:TypeId} {s:Nat} {v:Value} {n:Nat} {xs:List Value} (h:w.ownsRow base t s v n xs) (hn:0<n):
 ∃g c,v=.slice (some ⟨g,0,none⟩) n c/\base<=g/\∀i u,xs[i]? =some u->w.cell? ⟨g,i,none⟩=some u:=by
 rcases h.2 with⟨_,e⟩|⟨g,cp,cur,e,hg1,hg2,_,_,hcs,htk⟩
 ·omega
 ·refine⟨g,cp,e,hg1,λi u hu=>?_⟩
  rw[zJ hg2,<-Array.getElem?_toList]
  rw[<-htk,List.getElem?_take] at hu
  split at hu
  ·exact hu
  ·cases hu
structure PerS (w:zA) (p:Option Addr) (cap n:Nat) (l:List Pt) (bt j:Nat) (W:zA):Prop where
 bel:qL w W
 bt1:w.heap.size+2<=bt
 r1:W.cell? ⟨w.heap.size,0,none⟩=some (.slice none 0 0)
 f1:W.frozen? ⟨w.heap.size,0,none⟩=false
 r2:W.cell? ⟨w.heap.size+1,0,none⟩=some (I 0)
 f2:W.frozen? ⟨w.heap.size+1,0,none⟩=false
 pts:∀i,i<n->∃b off,p=some ⟨b,off,none⟩/\b<w.heap.size/\W.cell? ⟨b,off+i*2,none⟩=some (St (ptOf (txt l) i).1)/\W.cell? ⟨b,off+i*2+1,none⟩=some (St (ptOf (txt l) i).2)
 cbx:W.cell? ⟨bt+1,0,none⟩=some (.slice p n cap)
 box:∃v,W.cell? ⟨bt,0,none⟩=some v/\W.ownsRow (bt+2) 57 2 v j (zd2 l j)
 fr:W.frozen? ⟨bt,0,none⟩=false
theorem PerS.keep {w:zA} {p:Option Addr} {cap n:Nat} {l:List Pt} {bt j:Nat} {W W':zA} (h:PerS w p cap n l bt j W) (hc:CellsKept W W') (hb:Below w.heap.size W W'):PerS w p cap n l bt j W':=
 ⟨h.bel.trans hb,h.bt1,hc.cell h.r1,hc.frozen h.r1 h.f1,hc.cell h.r2,hc.frozen h.r2 h.f2,λi hi=>let ⟨b,off,e,h0,h1,h2⟩:=h.pts i hi;⟨b,off,e,h0,hc.cell h1,hc.cell h2⟩,hc.cell h.cbx,let ⟨v,h1,h2⟩:=h.box;⟨v,hc.cell h1,zcj hc h2⟩,let ⟨_,h1,_⟩:=h.box;hc.frozen h1 h.fr⟩
theorem PerS.ptsAt {w:zA} {p:Option Addr} {cap n:Nat} {l:List Pt} {bt j:Nat} {W:zA} (hn:n=l.length) (h:PerS w p cap n l bt j W):zls (bt+1) p cap (txt l) W:=
 ⟨by rw[za2,<-hn];exact h.cbx,λi hi=>let ⟨b,off,e,_,h1,h2⟩:=h.pts i (by rw[za2] at hi;omega);⟨b,off,e,h1,h2⟩⟩
theorem z0i {w:zA} {p:Option Addr} {cap n:Nat} {l:List Pt} {bt j:Nat} {W Y Z:zA} {v v':Value} (h:PerS w p cap n l bt j W) (hv:W.cell? ⟨bt,0,none⟩=some v) (hown:W.ownsRow (bt+2) 57 2 v j (zd2 l j))
 (hY:qL W Y) (hZ:Y.grownBy Z v.ownBlock) (hz:Z.ownsRow (bt+2) 57 2 v' (j+1) (zd2 l (j+1))) (B:Nat):
 KeepsFrom B W (Z.setCell ⟨bt,0,none⟩ v')/\PerS w p cap n l bt (j+1) (Z.setCell ⟨bt,0,none⟩ v'):=by
 have ck:=zac hY
 have hS:=h.keep ck (hY.mono h.bel.size)
 have ho:=zcj ck hown
 have hlt:∀q,v.ownBlock=some q->bt+2<=q:=λq e=>(ho.lt q e).1
 have hne:∀b,b<bt+2->some b≠v.ownBlock:=λb hb e=>by have:=hlt b e.symm;omega
 have hbt:=h.bt1
 have cz:∀{b o:Nat} {x:Value},b<bt+2->Y.cell? ⟨b,o,none⟩=some x->Z.cell? ⟨b,o,none⟩=some x:=λhb hc=>hZ.cell hc (hne _ hb)
 have hYs:bt<Y.heap.size:=zbe (ck.cell hv)
 refine⟨?_,?_,hbt,?_,?_,?_,?_,λi hi=>?_,?_,⟨v',?_,?_⟩,?_⟩
 ·refine((za0 hY).from B).trans (((KeepsOthers.of_grownBy hZ ?_).from B).trans ((KeepsOthers.setCell _ _ _).from B))
  intro q o e hq
  rcases ho.2 with⟨rfl,_⟩|⟨g,cp,cur,rfl,_,hg,_⟩
  ·simp[Value.ownBlock] at e
  ·simp[Value.ownBlock] at e;subst e;rw[hg] at hq;cases hq;rfl
 ·exact((hS.bel.grown hZ (by have:=zbe hS.cbx;simp at this;omega) (λq e=>by have:=hlt q e;omega))).setCell (by simp;omega) _
 ·rw[zau _ _ _ _ (by omega)];exact cz (by omega) hS.r1
 ·rw[World.frozen?_setCell,World.frozen?_of_block (a:=⟨w.heap.size,0,none⟩) (hZ.block w.heap.size (by omega) (hne _ (by omega)))];exact hS.f1
 ·rw[zau _ _ _ _ (by omega)];exact cz (by omega) hS.r2
 ·rw[World.frozen?_setCell,World.frozen?_of_block (a:=⟨w.heap.size+1,0,none⟩) (hZ.block (w.heap.size+1) (by omega) (hne _ (by omega)))];exact hS.f2
 ·obtain⟨b,off,e,h0,h1,h2⟩:=hS.pts i hi
  exact⟨b,off,e,h0,by rw[zau _ _ _ _ (by omega)];exact cz (by omega) h1,by rw[zau _ _ _ _ (by omega)];exact cz (by omega) h2⟩
 ·rw[zau _ _ _ _ (by omega)];exact cz (by omega) hS.cbx
 ·exact za9 (cz (by omega) (ck.cell hv))
 ·exact ownsRow_setCell_below hz (by simp) _
 ·rw[World.frozen?_setCell,World.frozen?_of_block (a:=⟨bt,0,none⟩) (hZ.block bt hYs (hne bt (by omega)))];exact hS.fr
structure MadeC (w:zA) (Ψ :Option Addr->Nat->Nat->Int->zA->Prop):Prop where
 keep:∀p m c k W W',Ψ p m c k W->(∀b o x,w.heap.size+2<=b->W.cell? ⟨b,o,none⟩=some x->W'.cell? ⟨b,o,none⟩=some x)-> Ψ p m c k W'
theorem z0j (p:Option Addr) (cap:Nat) (l:List Pt) (h3:3<=l.length) (hlen:l.length<=4096) (Ψ :Option Addr->Nat->Nat->Int->zA->Prop)
 (w:zA) (HW:Hid (∀W,qL w W->Wd W/\Pw W)) (HP:Hid (RowPts p l w)) (HM:Hid (MadeC w Ψ))
 (C:Hid (∀W:zA,Wd W->RowPts p l W->qJ 18 #[.slice p l.length cap] W (.int .i64 0)))
 (SX:Hid (∀k,k<l.length->qK 46 #[St (numS (cor l (k+1)).x),St (numS (cor l k).x)] (St (numS ((cor l (k+1)).x-(cor l k).x)))))
 (SY:Hid (∀k,k<l.length->qK 46 #[St (numS (cor l (k+1)).y),St (numS (cor l k).y)] (St (numS ((cor l (k+1)).y-(cor l k).y)))))
 (MX:Hid (∀k,k<l.length->qK 47 #[St (numS ((cor l (k+1)).x-(cor l k).x)),St (numS ((cor l (k+1)).x-(cor l k).x))] (St (numS (((cor l (k+1)).x-(cor l k).x)*((cor l (k+1)).x-(cor l k).x))))))
 (MY:Hid (∀k,k<l.length->qK 47 #[St (numS ((cor l (k+1)).y-(cor l k).y)),St (numS ((cor l (k+1)).y-(cor l k).y))] (St (numS (((cor l (k+1)).y-(cor l k).y)*((cor l (k+1)).y-(cor l k).y))))))
 (AD:Hid (∀k,k<l.length->qK 23 #[St (numS (((cor l (k+1)).x-(cor l k).x)*((cor l (k+1)).x-(cor l k).x))),St (numS (((cor l (k+1)).y-(cor l k).y)*((cor l (k+1)).y-(cor l k).y)))] (.tuple #[St (numS (sqS l k)),.int .i64 0])))
 (MK:Hid (∀g gc (W:zA),qL w W->w.heap.size+2<=W.heap.size->w.heap.size<=g->(∀i,i<l.length->W.cell? ⟨g,2*i,none⟩=some (.string ⟨#[49]⟩)/\W.cell? ⟨g,2*i+1,none⟩=some (St (numS (sqS l i))))->
   Calls zF 79 #[.slice (some ⟨g,0,none⟩) l.length gc] W λe w'=>∃q m c k,e=.returned (.tuple #[.slice q m c,.int .i64 k])/\Below W.heap.size W w'/\ Ψ q m c k w')):
 Calls zF 29 #[.slice p l.length cap] w λe w'=>∃q m c k,e=.returned (.tuple #[.slice q m c,.int .i64 k])/\Below w.heap.size w w'/\ Ψ q m c k w':=by
 obtain⟨i0,hi,hz0,hz1,hz2⟩:=info_parts zsc
 refine(callsIn_wide (n:=3)).1 ?_
 refine callsIn_of_wp_marks Tryz.func29 rfl trivial ?_ rfl
 simp only[Tryz.ntmps29,List.size_toArray,List.length_cons,List.length_nil,Nat.reduceAdd,Nat.reduceSub,Array.replicate_succ,Array.replicate_zero,List.push_toArray,List.append_toArray,List.nil_append,List.cons_append]
 obtain⟨n,hn⟩:∃n,n=l.length:=⟨_,rfl⟩
 obtain⟨w0,hw0⟩:∃w0,w0=(w.alloc (.cells #[.slice none 0 0] 52)).alloc (.cells #[.int .i64 0] 28):=⟨_,rfl⟩
 have b0:qL w w0:=by rw[hw0];exact((zM _ w).alloc (zN _) _).alloc (by simp) _
 have hCk:=C.out w0 (HW.out _ b0).1 (λi hi=>let ⟨b,off,e,h1,h2⟩:=HP.out i hi;⟨b,off,e,zai b0 h1,zai b0 h2⟩)
 rw[<-hn] at h3 hlen hCk⊢
 have hr0:w0.cell? ⟨w.heap.size,0,none⟩=some (.slice none 0 0)/\w0.frozen? ⟨w.heap.size,0,none⟩=false/\w0.cell? ⟨w.heap.size+1,0,none⟩=some (I 0)/\w0.frozen? ⟨w.heap.size+1,0,none⟩=false:=by
  have b1:=(Boxed.new w 52 (.slice none 0 0)).alloc (.cells #[.int .i64 0] 28)
  have b2:=Boxed.new (w.alloc (.cells #[.slice none 0 0] 52)) 28 (.int .i64 0)
  rw[World.size_alloc] at b2
  rw[hw0]
  exact⟨b1.cell,b1.frozen,b2.cell,b2.frozen⟩
 have HB0:=hid (⟨b0,hr0⟩:_/\_)
 have HW0:=hid hw0
 have HN:=hid hn;clear hn hr0 b0 hw0
 have HCk:=hid hCk;clear hCk C
 gi_wp2
 rw[<-show w0=(w.alloc (.cells #[.slice none 0 0] 52)).alloc (.cells #[.int .i64 0] 28) from HW0.out]
 refine⟨trivial,(callsIn_wide.2 HCk.out).mono ?_⟩
 rintro e w1 ⟨rfl,hb1⟩
 have HB1:=hid (⟨HB0.out.1.trans (hb1.mono HB0.out.1.size),zai hb1 HB0.out.2.1,(zac hb1).frozen HB0.out.2.1 HB0.out.2.2.1,zai hb1 HB0.out.2.2.2.1,(zac hb1).frozen HB0.out.2.2.2.1 HB0.out.2.2.2.2⟩:_/\_/\_/\_/\_)
 clear hb1 HCk HB0 HW0
 gi_wp2_with (refine⟨trivial,?_⟩;gi_at_call 32;refine(callsIn_wide.2 (zfr _ _ _ _ _ rfl)).mono ?_;rintro e w' ⟨rfl,rfl⟩)
 obtain⟨W1,hW1⟩:∃W1,W1=(w1.alloc (.cells #[.slice none 0 0] 51)).alloc (.cells #[.slice p n cap] 22):=⟨_,rfl⟩
 rw[<-hW1]
 have hsz:w.heap.size+2<=w1.heap.size:=by have:=zbe HB1.out.2.2.2.1;simp at this;omega
 have hS1:PerS w p cap n l w1.heap.size 0 W1:=by
  obtain⟨hb,g1,g2,g3,g4⟩:=HB1.out
  have b1:=(Boxed.new w1 51 (.slice none 0 0)).alloc (.cells #[.slice p n cap] 22)
  have b2:=Boxed.new (w1.alloc (.cells #[.slice none 0 0] 51)) 22 (.slice p n cap)
  rw[World.size_alloc] at b2
  have hw:qL w1 ((w1.alloc (.cells #[.slice none 0 0] 51)).alloc (.cells #[.slice p n cap] 22)):=((zM _ w1).alloc (zN _) _).alloc (by simp) _
  have ck:=zac hw
  rw[hW1]
  refine⟨hb.trans (hw.mono hb.size),hsz,ck.cell g1,ck.frozen g1 g2,ck.cell g3,ck.frozen g3 g4,λi hi=>?_,b2.cell,⟨_,b1.cell,World.ownsRow_nil _ _ _ _⟩,b1.frozen⟩
  obtain⟨b,off,e,h1,h2⟩:=HP.out i (by rw[<-HN.out];exact hi)
  have hlt:=zbe h1
  exact⟨b,off,e,hlt,zai hw (by rw[hb.cell (p:=⟨b,off+i*2,none⟩) hlt];exact h1),zai hw (by rw[hb.cell (p:=⟨b,off+i*2+1,none⟩) hlt];exact h2)⟩
 have hsz1:W1.heap.size=w1.heap.size+2:=by rw[hW1];simp
 clear hW1
 have HS1:=hid hS1.bel.size
 have HZ:=hid (⟨hsz1,hsz⟩:_/\_)
 clear hsz1 hsz
 have hseq:=zgi 2 (by omega) (w1.heap.size+1) (txt l) (by rw[za2,<-HN.out];omega) (λW=>∃j,PerS w p cap n l w1.heap.size j W) p cap (λW ⟨j,h⟩=>h.ptsAt HN.out)
 rw[za2,<-HN.out] at hseq
 refine zfq (n:=3) (B:=w.heap.size) rfl (by omega) rfl trivial (enters_of Tryz.func82 (by kernel_rfl) rfl) hseq (λk args h=>by subst h;rfl) hS1.bel.size
  (λj W=>PerS w p cap n l w1.heap.size j W) (λc _ W=>False)
  (λj X Y h hc hb=>h.keep hc hb) (λc j X Y h hc hb=>h) (λj W h=>⟨j,h⟩) hS1
  (λj _ a' W=>∃bs,a'={tmps:= #[Value.slice p n cap,undef,.pointer (some ⟨w.heap.size,0,none⟩),.pointer (some ⟨w.heap.size+1,0,none⟩),.pointer (some ⟨w1.heap.size,0,none⟩),undef,.pointer (some ⟨bs,0,none⟩),undef,undef,undef,undef,Value.slice p n cap,.int .i64 0,.bool false,Value.slice p n cap,Value.func (Fn.func 82) #[] #[.pointer (some ⟨w1.heap.size+1,0,none⟩)],I j,segV (cor l j) (cor l (j+1)),undef,undef,undef,undef,undef,undef,undef,undef,undef,undef,undef,undef,undef,undef,undef,undef,undef,undef,undef,undef,undef,undef,undef,undef,undef,undef,undef,undef,undef,undef,undef,undef,undef,undef,undef,undef],defers:=[]}/\SegB bs (cor l j) (cor l (j+1)) W)
  (λj _ a' X Y h hc hb=>let ⟨bs,e,h2⟩:=h;⟨bs,e,hc _ _ _ _ h2⟩) ?assign ?body ?done ?stop
 case assign=>
  rintro lp j args W K hlp hrec hS hj rfl hK
  rw[zgj l j (by rw[<-HN.out];exact hj)]
  have HK:=hid hK;clear hK
  unfold segV
  gi_wp2
  have hb1:qL W (W.alloc (.cells #[St (numS (cor l j).x),St (numS (cor l j).y),St (numS (cor l (j+1)).x),St (numS (cor l (j+1)).y)] 63)):=(zM _ W).alloc (zN _) _
  exact HK.out _ _ ((za0 hb1).from _) (hS.keep (zac hb1) (hb1.mono hS.bel.size)) ⟨W.heap.size,rfl,zG W _⟩
 case body=>
  rintro lp j args a' W hlp ⟨r',hr'⟩ hS hj rfl ⟨bs,rfl,hseg⟩
  have hjl:j<l.length:=by rw[<-HN.out];exact hj
  have sx:=SX.out j hjl;have sy:=SY.out j hjl;have mx:=MX.out j hjl;have my:=MY.out j hjl;have ad:=AD.out j hjl
  obtain⟨v,hv,hown⟩:=hS.box
  obtain⟨vq,vm,vc,rfl⟩:∃q m c,v=.slice q m c:=by
   rcases hown.2 with⟨e,_⟩|⟨g,cp,cur,e,_⟩<;>exact⟨_,_,_,e⟩
  have H0:=hid hS
  have HT:=hid (show zd2 l (j+1)=zd2 l j++[St [49],St (numS (sqS l j))] from rfl)
  have HO:=hid hown
  obtain⟨u1,hu1⟩:∃u,u=numS ((cor l (j+1)).x-(cor l j).x):=⟨_,rfl⟩
  obtain⟨u2,hu2⟩:∃u,u=numS ((cor l (j+1)).y-(cor l j).y):=⟨_,rfl⟩
  obtain⟨u3,hu3⟩:∃u,u=numS (((cor l (j+1)).x-(cor l j).x)*((cor l (j+1)).x-(cor l j).x)):=⟨_,rfl⟩
  obtain⟨u4,hu4⟩:∃u,u=numS (((cor l (j+1)).y-(cor l j).y)*((cor l (j+1)).y-(cor l j).y)):=⟨_,rfl⟩
  obtain⟨u5,hu5⟩:∃u,u=numS (sqS l j):=⟨_,rfl⟩
  rw[<-hu1] at sx mx;rw[<-hu2] at sy my;rw[<-hu3] at mx ad;rw[<-hu4] at my ad;rw[<-hu5] at ad HT
  have Sx:=hid sx;have Sy:=hid sy;have Mx:=hid mx;have My:=hid my;have Ad:=hid ad
  obtain⟨q1,q2,q3,q4⟩:=hseg.at
  clear hseg sx sy mx my ad
  unfold segV
  generalize numS (cor l j).x=x1 at*
  generalize numS (cor l j).y=y1 at*
  generalize numS (cor l (j+1)).x=x2 at*
  generalize numS (cor l (j+1)).y=y2 at*
  have hbl:=H0.out.bel
  have KS:=hid (λ(w':zA) (hb:qL W w')=>(⟨zai hb q1,zai hb q2,zai hb q3,zai hb q4⟩:w'.cell? ⟨bs,0,none⟩=some (St x1)/\w'.cell? ⟨bs,1,none⟩=some (St y1)/\w'.cell? ⟨bs,2,none⟩=some (St x2)/\w'.cell? ⟨bs,3,none⟩=some (St y2)))
  have HV:=hid hv
  have WD:∀W',qL W W'->Wd W':=λW' h=>(HW.out _ (hbl.trans (h.mono hbl.size))).1
  have HWD:=hid WD
  clear q1 q2 q3 q4 hv hown hu1 hu2 hu3 hu4 hu5 hseq hS1 hr' hS SX SY MX MY AD MK WD
  gi_wp2
  refine zrq (λ(b:Unit) i=>([.pointer (some ⟨bs,2,none⟩),.pointer (some ⟨bs,2,none⟩),St x2,.pointer (some ⟨bs,0,none⟩),.pointer (some ⟨bs,0,none⟩),St x1,St u1,.pointer (some ⟨bs,2,none⟩),.pointer (some ⟨bs,3,none⟩),St y2,.pointer (some ⟨bs,0,none⟩),.pointer (some ⟨bs,1,none⟩),St y1,St u2,St u1,St u2]:List Value).getD i undef) (λ_ _ X=>qL W X) (by kernel_rfl) (by kernel_rfl) (by kernel_rfl) () ((zM _ W).drew) λb=>?_
  try simp only[zzQ]
  refine qB (.pointer (some ⟨bs,2,none⟩)) (λf W' h=>h) ?_
  simp only[zzQ]
  refine qB (.pointer (some ⟨bs,2,none⟩)) (λf W' h=>h) ?_
  simp only[zzQ]
  refine qB (St x2) (λf W' h=>h) ?_ (hy:=λf W' hf h=>by obtain⟨q0,q1,q2,q3⟩:=KS.out _ h;go_simp)
  simp only[zzQ]
  refine qB (.pointer (some ⟨bs,0,none⟩)) (λf W' h=>h) ?_
  simp only[zzQ]
  refine qB (.pointer (some ⟨bs,0,none⟩)) (λf W' h=>h) ?_
  simp only[zzQ]
  refine qB (St x1) (λf W' h=>h) ?_ (hy:=λf W' hf h=>by obtain⟨q0,q1,q2,q3⟩:=KS.out _ h;go_simp)
  simp only[zzQ]
  refine zbv (St u1) (by rfl) (by rfl) (λf W' hf h C' hC'=>by
   go_simp
   refine(Sx.out _ (HWD.out _ h)).mono ?_
   rintro e w' ⟨rfl,hb⟩
   exact⟨_,rfl,hC' _ (h.trans (hb.mono h.size))⟩) ?_
  try simp only[zzQ]
  refine qB (.pointer (some ⟨bs,2,none⟩)) (λf W' h=>h) ?_
  simp only[zzQ]
  refine qB (.pointer (some ⟨bs,3,none⟩)) (λf W' h=>h) ?_
  simp only[zzQ]
  refine qB (St y2) (λf W' h=>h) ?_ (hy:=λf W' hf h=>by obtain⟨q0,q1,q2,q3⟩:=KS.out _ h;go_simp)
  simp only[zzQ]
  refine qB (.pointer (some ⟨bs,0,none⟩)) (λf W' h=>h) ?_
  simp only[zzQ]
  refine qB (.pointer (some ⟨bs,1,none⟩)) (λf W' h=>h) ?_
  simp only[zzQ]
  refine qB (St y1) (λf W' h=>h) ?_ (hy:=λf W' hf h=>by obtain⟨q0,q1,q2,q3⟩:=KS.out _ h;go_simp)
  simp only[zzQ]
  refine zbv (St u2) (by rfl) (by rfl) (λf W' hf h C' hC'=>by
   go_simp
   refine(Sy.out _ (HWD.out _ h)).mono ?_
   rintro e w' ⟨rfl,hb⟩
   exact⟨_,rfl,hC' _ (h.trans (hb.mono h.size))⟩) ?_
  try simp only[zzQ]
  refine qB (St u1) (λf W' h=>h) ?_
  simp only[zzQ]
  refine qB (St u2) (λf W' h=>h) ?_
  simp only[zzQ]
  refine ze1 λf X hf hX=>?_
  gi_wp2
  refine⟨trivial,(CallsIn.inRound lp (callsIn_wide.2 (Mx.out X (HWD.out _ hX)))).mono ?_⟩
  rintro e X2 ⟨rfl,hbn⟩
  have hX2:=hX.trans (hbn.mono hX.size)
  clear hX hbn
  gi_wp2
  refine⟨trivial,(CallsIn.inRound lp (callsIn_wide.2 (My.out X2 (HWD.out _ hX2)))).mono ?_⟩
  rintro e X3 ⟨rfl,hbn⟩
  have hX3:=hX2.trans (hbn.mono hX2.size)
  clear hX2 hbn
  gi_wp2
  refine⟨trivial,(CallsIn.inRound lp (callsIn_wide.2 (Ad.out X3 (HWD.out _ hX3)))).mono ?_⟩
  rintro e X4 ⟨rfl,hbn⟩
  have hX4:=hX3.trans (hbn.mono hX3.size)
  clear hX3 hbn
  have ck:=zac hX4
  have g0:=ck.cell HV.out
  have g1:=ck.frozen HV.out H0.out.fr
  have HO4:=hid (zcj ck HO.out)
  clear ck
  have hbt:=H0.out.bt1
  have hlj:=hj
  have hX5:qL W (X4.alloc (.cells #[St [49],St u5] 57)):=hX4.alloc hX4.size _
  have hbs:w1.heap.size+2<=(X4.alloc (.cells #[St [49],St u5] 57)).heap.size:=by
   have:=zbe H0.out.cbx;have h2:=hX4.size;simp at this;simp;omega
  gi_wp2_with (gi_at_builtin;refine wpListIn_append_own _ rfl _ _ 51 rfl (w1.heap.size+2) 57 i0 (.agg #[St [],St []]) 2 32 Tryz.underlying51 hi hz0 hz1 hz2 rfl (by decide) (.slice vq vm vc) j (zd2 l j) rfl (HO4.out.alloc _) ⟨X4.heap.size,0,none⟩ 1 1 [St [49],St u5] rfl rfl (zoq _ _ _ _) (zm4 _ _) (by unfold maxLen;omega) (by omega) hbs ?_)
  intro v' w' hown' hgrow _
  have hst:=z0i H0.out HV.out HO.out hX5 hgrow (by rw[HT.out];exact hown') W1.heap.size
  have ck:=zac hX5
  have hlt:some w1.heap.size≠(Value.slice vq vm vc).ownBlock:=λe=>by have:=((zcj ck HO.out).lt _ e.symm).1;omega
  have hcell:=hgrow.cell (ck.cell HV.out) hlt
  have hfr:w'.frozen? ⟨w1.heap.size,0,none⟩=false:=by
   rw[World.frozen?_of_block (a:=⟨w1.heap.size,0,none⟩) (hgrow.block _ (zbe (ck.cell HV.out)) hlt)];exact ck.frozen HV.out H0.out.fr
  obtain⟨q,m,c,rfl⟩:∃q m c,v'=.slice q m c:=by
   rcases hown'.2 with⟨e,_⟩|⟨g,cp,cur,e,_⟩<;>exact⟨_,_,_,e⟩
  have HST:=hid hst
  clear hst hown' hgrow ck hlt hX5 hbs hX4 g0 g1
  gi_wp2
  exact HST.out
 case done=>
  rintro D W hD hS hK
  obtain⟨v,hv,hown⟩:=hS.box
  obtain⟨g,gc,rfl,hg,hcs⟩:=zye hown (by omega)
  have hs0:=hS.bel.size
  have hmk:=MK.out g gc W hS.bel (by have:=zbe hS.r2;simp at this;omega) (by have:=hS.bt1;omega) (λi hi=>by
   have:=zpp l n i (by rw[HN.out];exact hi)
   exact⟨hcs _ _ this.1,hcs _ _ this.2⟩)
  rw[<-HN.out] at hmk
  have HMK:=hid hmk
  have HX:=hid (⟨hS.bel,hK,hS.r1,hS.f1,hS.r2,hS.f2⟩:qL w W/\W.heap[D]? =some (.deferred (some []))/\_/\_/\_/\_)
  clear hS hK hown hcs hmk hseq hS1 SX SY MX MY AD MK hs0
  gi_wp2
  refine⟨trivial,(callsIn_wide.2 HMK.out).mono ?_⟩
  rintro e W2 ⟨q,m,c,k,rfl,hb2,hΨ⟩
  have hbl2:=HX.out.1.trans (hb2.mono HX.out.1.size)
  have ck:=zac hb2
  have HX2:=hid (⟨hbl2,(hb2.block _ (Array.getElem?_eq_some_iff.1 HX.out.2.1).1).trans HX.out.2.1,hΨ⟩:qL w W2/\W2.heap[D]? =some (.deferred (some []))/\ Ψ q m c k W2)
  obtain⟨_,_,r1,f1,r2,f2⟩:=HX.out
  have r1:=ck.cell r1
  have f1:=(ck.frozen HX.out.2.2.1 f1)
  have r2:=ck.cell r2
  have f2:=(ck.frozen HX.out.2.2.2.2.1 f2)
  clear hb2 hbl2 HX HMK hΨ ck hv
  gi_wp2
  obtain⟨hbel,hK,hΨ⟩:=HX2.out
  have hK1:=(KeepsOthers.setCell W2 ⟨w.heap.size,0,none⟩ (.slice q m c)).same D _ hK rfl
  have hK':=(KeepsOthers.setCell (W2.setCell ⟨w.heap.size,0,none⟩ (.slice q m c)) ⟨w.heap.size+1,0,none⟩ (.int .i64 k)).same D _ hK1 rfl
  refine⟨by simp,.inl ⟨_,_,rfl,run_takeDeferred hK',?_⟩⟩
  have c1:=za9 (u:=.slice q m c) r1
  have c2:(W2.setCell ⟨w.heap.size,0,none⟩ (.slice q m c)).cell? ⟨w.heap.size+1,0,none⟩=some (I 0):=by rw[zau _ _ _ _ (by omega)];exact r2
  have c3:=za9 (u:=.int .i64 k) c2
  have c4:((W2.setCell ⟨w.heap.size,0,none⟩ (.slice q m c)).setCell ⟨w.heap.size+1,0,none⟩ (.int .i64 k)).cell? ⟨w.heap.size,0,none⟩=some (.slice q m c):=by rw[zau _ _ _ _ (by omega)];exact c1
  have e1:=(zbk hK').cell c4
  have e2:=(zbk hK').cell c3
  refine⟨.tuple #[.slice q m c,.int .i64 k],?_,q,m,c,k,rfl,zby ((hbel.setCell (p:=⟨w.heap.size,0,none⟩) (by simp) _).setCell (p:=⟨w.heap.size+1,0,none⟩) (by simp) _) (by have:=HS1.out;omega) hK',HM.out.keep _ _ _ _ _ _ hΨ λb o x hb hc=>(zbk hK').cell (by rw[zau _ _ _ _ (by omega),zau _ _ _ _ (by omega)];exact hc)⟩
  simp[results,Tryz.f29,go_sem,e1,e2]
 case stop=>
  rintro D c j W hD h hK
  exact h.elim
def tri3:List Pt:=[⟨0,0⟩,⟨4,0⟩,⟨4,3⟩]
theorem zvy (i:Nat):cor tri3 i=⟨0,0⟩\/cor tri3 i=⟨4,0⟩\/cor tri3 i=⟨4,3⟩:=by
 have h:i%3<3:=Nat.mod_lt _ (by omega)
 show tri3[i%3]?.getD ⟨0,0⟩=_\/tri3[i%3]?.getD ⟨0,0⟩=_\/tri3[i%3]?.getD ⟨0,0⟩=_
 generalize i%3=j at h⊢
 match j,h with
 |0,_=>exact .inl rfl
 |1,_=>exact .inr (.inl rfl)
 |2,_=>exact .inr (.inr rfl)
theorem zlv (i:Nat):szP (cor tri3 i) 1:=by
 have z0:sz 0 1:=⟨by decide,by decide⟩
 have z3:sz 3 1:=⟨by decide,by decide⟩
 have z4:sz 4 1:=⟨by decide,by decide⟩
 rcases zvy i with h|h|h<;>rw[h]
 ·exact⟨z0,z0⟩
 ·exact⟨z4,z0⟩
 ·exact⟨z4,z3⟩
theorem zlm (i:Nat):szP (cor tri3 i) 36:=⟨(zlv i).1.mono (by omega),(zlv i).2.mono (by omega)⟩
theorem zyf:turn ⟨0,0⟩ ⟨4,0⟩ ⟨4,3⟩=1:=by decide+kernel
theorem zka:zch tri3:=by
 intro i h
 match i,h with
 |0,_=>show(⟨0,0⟩:Pt)≠⟨4,0⟩;decide
 |1,_=>show(⟨4,0⟩:Pt)≠⟨4,3⟩;decide
 |2,_=>show(⟨4,3⟩:Pt)≠⟨0,0⟩;decide
theorem zi3:zbz tri3:=by
 obtain⟨_,_,_,h1,h2,h3⟩:=(zt8 ⟨0,0⟩ ⟨4,0⟩ ⟨4,3⟩).2 (by rw[zyf];decide)
 intro i k hik hk
 match i,k,hik,hk with
 |0,1,_,_=>exact h1
 |0,2,_,_=>exact h2
 |1,2,_,_=>exact h3
 |i+2,k,h,h2=>exact absurd (show k<3 from h2) (by omega)
theorem z2h:sqS tri3 0=(((4*4:Nat):Int):Rat)/\sqS tri3 1=(((3*3:Nat):Int):Rat)/\sqS tri3 2=(((5*5:Nat):Int):Rat):=by
 refine⟨?_,?_,?_⟩<;>decide+kernel
theorem zyg:psum (zbh tri3) 3/2=6:=by decide+kernel
theorem zsg (k:Nat) (h:k<=3):sz (psum (zbh tri3) k) 2:=by
 match k,h with
 |0,_|1,_|2,_|3,_=>unfold sz;decide+kernel
theorem z0k (k:Nat) (h:k<3):sz (zbh tri3 k) 2:=by
 match k,h with
 |0,_|1,_|2,_=>unfold sz;decide+kernel
def z3i (w:zA) (q:Option Addr) (m _:Nat) (k:Int) (W:zA):Prop:=
 k=0/\∃g,q=some ⟨g,0,none⟩/\m=1/\w.heap.size+2<=g/\W.cell? ⟨g,0,none⟩=some (St [49,50])/\W.cell? ⟨g,1,none⟩=some (.string ⟨#[49]⟩)
theorem z2i (p:Option Addr) (cap:Nat) (w:zA) (HW:Hid (∀W,qL w W->Wd W/\Pw W)) (HP:Hid (RowPts p tri3 w)):
 Calls zF 29 #[.slice p 3 cap] w λe w'=>∃g c,e=.returned (.tuple #[.slice (some ⟨g,0,none⟩) 1 c,.int .i64 0])/\Below w.heap.size w w'/\w.heap.size<=g/\w'.cell? ⟨g,0,none⟩=some (St [49,50])/\w'.cell? ⟨g,1,none⟩=some (.string ⟨#[49]⟩):=by
 have hx:=λi=>(zlv i).1
 have hy:=λi=>(zlv i).2
 refine(z0j p cap tri3 (by decide) (by decide) (z3i w) w HW HP (hid ⟨?_⟩)
  (hid λW hW hp=>zj5 p cap tri3 (by decide) (by decide) zlm zka zi3 W hW hp)
  (hid λk _ W hW=>zgg _ _ 1 1 (by omega) (by omega) (by omega) (hx _) (hx _) W hW)
  (hid λk _ W hW=>zgg _ _ 1 1 (by omega) (by omega) (by omega) (hy _) (hy _) W hW)
  (hid λk _ W hW=>zhm _ _ 3 3 (by omega) (by omega) (by omega) (zb0 (hx _) (hx _)) (zb0 (hx _) (hx _)) W hW)
  (hid λk _ W hW=>zhm _ _ 3 3 (by omega) (by omega) (by omega) (zb0 (hy _) (hy _)) (zb0 (hy _) (hy _)) W hW)
  (hid λk _ W hW=>zje _ _ 6 6 (by omega) (by omega) (by omega) (zca (zb0 (hx _) (hx _)) (zb0 (hx _) (hx _))) (zca (zb0 (hy _) (hy _)) (zb0 (hy _) (hy _))) W hW)
  (hid ?_)).mono ?_
 ·rintro q m c k W W' ⟨h0,g,h1,h2,h3,h4,h5⟩ h
  exact⟨h0,g,h1,h2,h3,h _ _ _ h3 h4,h _ _ _ h3 h5⟩
 ·intro g gc W hb hs hg hc
  obtain⟨q0,q1,q2⟩:=z2h
  have c0:=hc 0 (by decide);have c1:=hc 1 (by decide);have c2:=hc 2 (by decide)
  rw[q0,zc5] at c0;rw[q1,zc5] at c1;rw[q2,zc5] at c2
  refine(z0e g 0 gc W (hid λW' h=>(HW.out W' (hb.trans (h.mono hb.size))).1) (hid λW' h=>(HW.out W' (hb.trans (h.mono hb.size))).2) c0.1 c0.2 c1.1 c1.2 c2.1 c2.2).mono ?_
  rintro e w' ⟨g',c,rfl,hb',hge,d0,d1⟩
  exact⟨_,_,_,_,rfl,hb',rfl,g',rfl,rfl,by omega,d0,d1⟩
 ·rintro e w' ⟨q,m,c,k,rfl,hb,rfl,g,rfl,rfl,hg,d0,d1⟩
  exact⟨g,c,rfl,hb,by omega,d0,d1⟩
theorem z0l (p:Option Addr) (cap:Nat) (w:zA) (hw:Wd w) (hp:RowPts p tri3 w):
 qJ 16 #[.slice p 3 cap] w (.tuple #[St [54],.int .i64 0]):=by
 have h:=zt5 p cap tri3 (by decide) (by decide) zlm zka zi3 (λk hk=>⟨2,2,by omega,by omega,by omega,zsg k (Nat.le_of_lt hk),z0k k hk⟩) 2 (by omega) (by omega) (zsg 3 (by omega)) w hw hp
 have e:numS (psum (zbh tri3) tri3.length/2)=[54]:=by
  show numS (psum (zbh tri3) 3/2)=[54]
  rw[zyg]
  decide+kernel
 rw[e] at h
 exact h
theorem zkb (p:Option Addr) (cap:Nat) (q:Pt) (hq:szP q 36) (v:Int) (hv:((∃k,k<3/\onS tri3 q k)/\v=0)\/((∀k,k<3->¬onS tri3 q k)/\v=insI tri3 q 3)) (w:zA) (hw:Wd w) (hp:RowPts p tri3 w):
 qJ 8 #[.slice p 3 cap,ptV q] w (.tuple #[.int .i64 v,.int .i64 0]):=by
 refine(zll p cap tri3 q (by decide) (by decide) zlm hq zka zi3 w hw hp).mono ?_
 rintro e w' ⟨r,rfl,h,hb⟩
 have:r=v:=by
  rcases h with⟨⟨k,hk,h1⟩,h2⟩|⟨h1,h2⟩<;>rcases hv with⟨⟨k',hk',h3⟩,h4⟩|⟨h3,h4⟩
  ·rw[h2,h4]
  ·exact absurd h1 (h3 k hk)
  ·exact absurd h3 (h1 k' hk')
  ·rw[h2,h4];rfl
 exact⟨by rw[this],hb⟩
theorem in_1:((∃k,k<3/\onS tri3 ⟨2,1⟩ k)/\(1:Int)=0)\/((∀k,k<3->¬onS tri3 ⟨2,1⟩ k)/\(1:Int)=insI tri3 ⟨2,1⟩ 3):=by
 refine .inr ⟨λk hk=>?_,by decide+kernel⟩
 unfold onS
 match k,hk with
 |0,_|1,_|2,_=>decide+kernel
theorem in_0:((∃k,k<3/\onS tri3 ⟨2,mkRat 3 2⟩ k)/\(0:Int)=0)\/((∀k,k<3->¬onS tri3 ⟨2,mkRat 3 2⟩ k)/\(0:Int)=insI tri3 ⟨2,mkRat 3 2⟩ 3):=by
 refine .inl ⟨⟨2,by omega,?_⟩,rfl⟩
 unfold onS
 decide+kernel
theorem in_m:((∃k,k<3/\onS tri3 ⟨1,2⟩ k)/\(-1:Int)=0)\/((∀k,k<3->¬onS tri3 ⟨1,2⟩ k)/\(-1:Int)=insI tri3 ⟨1,2⟩ 3):=by
 refine .inr ⟨λk hk=>?_,by decide+kernel⟩
 unfold onS
 match k,hk with
 |0,_|1,_|2,_=>decide+kernel
theorem z2j (g c h d:Nat) (w:zA) (g0:w.cell? ⟨g,0,none⟩=some (St [49,50])) (g1:w.cell? ⟨g,1,none⟩=some (.string ⟨#[49]⟩)) (h0:w.cell? ⟨h,0,none⟩=some (.string ⟨#[49,50]⟩)) (h1:w.cell? ⟨h,1,none⟩=some (.string ⟨#[49]⟩)):
 qJ 30 #[.slice (some ⟨g,0,none⟩) 1 c,.slice (some ⟨h,0,none⟩) 1 d] w (.bool true):=by
 go_enter Tryz.func30,Tryz.ntmps30
 go_wp2_with fail
 refine wp_loop_rounds 2 ?_
 rw[rounds_succ]
 go_wp2_with fail
 go_quiet (fail)
 go_wp2_with fail
 rw[rounds_succ]
 go_wp2_with fail
 go_ret
 exact⟨rfl,(zM _ w).trans ⟨rfl,rfl,rfl,zN _,λ_ _=>rfl⟩⟩
theorem zkc:numS 0=[48]/\numS 1=[49]/\numS 2=[50]/\numS 3=[51]/\numS 4=[52]/\numS (mkRat 3 2)=[51,47,50]:=by
 refine⟨?_,?_,?_,?_,?_,?_⟩<;>decide+kernel
theorem z0m (W:zA) (t:TypeId):RowPts (some ⟨W.heap.size,0,none⟩) tri3 (W.alloc (.cells #[.string ⟨#[48]⟩,.string ⟨#[48]⟩,.string ⟨#[52]⟩,.string ⟨#[48]⟩,.string ⟨#[52]⟩,.string ⟨#[51]⟩] t)):=by
 have A:=zG W (.cells #[.string ⟨#[48]⟩,.string ⟨#[48]⟩,.string ⟨#[52]⟩,.string ⟨#[48]⟩,.string ⟨#[52]⟩,.string ⟨#[51]⟩] t)
 obtain⟨n0,n1,n2,n3,n4,_⟩:=zkc
 intro i hi
 refine⟨_,_,rfl,?_⟩
 match i,hi with
 |0,_=>exact⟨by show _=some (St (numS 0));rw[n0,zJ A];rfl,by show _=some (St (numS 0));rw[n0,zJ A];rfl⟩
 |1,_=>exact⟨by show _=some (St (numS 4));rw[n4,zJ A];rfl,by show _=some (St (numS 0));rw[n0,zJ A];rfl⟩
 |2,_=>exact⟨by show _=some (St (numS 4));rw[n4,zJ A];rfl,by show _=some (St (numS 3));rw[n3,zJ A];rfl⟩
theorem ptsz (a b:Rat) (ha:sz a 2) (hb:sz b 2):szP ⟨a,b⟩ 36:=⟨ha.mono (by omega),hb.mono (by omega)⟩
theorem z0n (p:Option Addr) (cap:Nat) (w:zA) (hw:Wd w) (hp:RowPts p tri3 w):
 qJ 8 #[.slice p 3 cap,.agg #[.string ⟨#[50]⟩,.string ⟨#[49]⟩]] w (.tuple #[.int .i64 1,.int .i64 0]):=by
 have h:=zkb p cap ⟨2,1⟩ (ptsz _ _ (by unfold sz;decide+kernel) (by unfold sz;decide+kernel)) 1 in_1 w hw hp
 unfold ptV at h
 rw[show numS (⟨2,1⟩:Pt).x=[50] from zkc.2.2.1,show numS (⟨2,1⟩:Pt).y=[49] from zkc.2.1] at h
 exact h
theorem z0o (p:Option Addr) (cap:Nat) (w:zA) (hw:Wd w) (hp:RowPts p tri3 w):
 qJ 8 #[.slice p 3 cap,.agg #[.string ⟨#[50]⟩,.string ⟨#[51,47,50]⟩]] w (.tuple #[.int .i64 0,.int .i64 0]):=by
 have h:=zkb p cap ⟨2,mkRat 3 2⟩ (ptsz _ _ (by unfold sz;decide+kernel) (by unfold sz;decide+kernel)) 0 in_0 w hw hp
 unfold ptV at h
 rw[show numS (⟨2,mkRat 3 2⟩:Pt).x=[50] from zkc.2.2.1,show numS (⟨2,mkRat 3 2⟩:Pt).y=[51,47,50] from zkc.2.2.2.2.2] at h
 exact h
theorem z0p (p:Option Addr) (cap:Nat) (w:zA) (hw:Wd w) (hp:RowPts p tri3 w):
 qJ 8 #[.slice p 3 cap,.agg #[.string ⟨#[49]⟩,.string ⟨#[50]⟩]] w (.tuple #[.int .i64 (-1),.int .i64 0]):=by
 have h:=zkb p cap ⟨1,2⟩ (ptsz _ _ (by unfold sz;decide+kernel) (by unfold sz;decide+kernel)) (-1) in_m w hw hp
 unfold ptV at h
 rw[show numS (⟨1,2⟩:Pt).x=[49] from zkc.2.1,show numS (⟨1,2⟩:Pt).y=[50] from zkc.2.2.1] at h
 exact h
theorem zsh (w:zA) (HW:Hid (∀W,qL w W->Wd W/\Pw W)):
 qJ 7 #[] w (.bool true):=by
 obtain⟨w1,hw1⟩:∃w1,w1=w.alloc (.cells #[.string ⟨#[48]⟩,.string ⟨#[48]⟩,.string ⟨#[52]⟩,.string ⟨#[48]⟩,.string ⟨#[52]⟩,.string ⟨#[51]⟩] 25):=⟨_,rfl⟩
 have b1:qL w w1:=by rw[hw1];exact(zM _ w).alloc (zN _) _
 have r1:RowPts (some ⟨w.heap.size,0,none⟩) tri3 w1:=by rw[hw1];exact z0m w _
 have H1:=hid (⟨b1,r1⟩:_/\_)
 have HW1:=hid hw1;clear hw1 b1 r1
 go_enter Tryz.func7,Tryz.ntmps7
 go_wp2_with fail
 rw[<-HW1.out]
 refine(z0l _ 3 w1 (HW.out _ H1.out.1).1 H1.out.2).mono ?_
 rintro e w2 ⟨rfl,hb⟩
 have H2:=hid (⟨H1.out.1.trans (hb.mono H1.out.1.size),H1.out.2.keep (zac hb)⟩:qL w w2/\RowPts (some ⟨w.heap.size,0,none⟩) tri3 w2)
 clear hb H1 HW1
 go_wp2_with fail
 refine(z2i _ 3 w2 (hid λW h=>HW.out W (H2.out.1.trans (h.mono H2.out.1.size))) (hid H2.out.2)).mono ?_
 rintro e w3 ⟨g,c,rfl,hb,hg,g0,g1⟩
 have H3:=hid (⟨H2.out.1.trans (hb.mono H2.out.1.size),H2.out.2.keep (zac hb),g0,g1⟩:qL w w3/\RowPts (some ⟨w.heap.size,0,none⟩) tri3 w3/\w3.cell? ⟨g,0,none⟩=some (St [49,50])/\w3.cell? ⟨g,1,none⟩=some (.string ⟨#[49]⟩))
 clear hb H2 g0 g1 hg
 go_wp2_with fail
 refine(z0n _ 3 w3 (HW.out _ H3.out.1).1 H3.out.2.1).mono ?_
 rintro e w4 ⟨rfl,hb⟩
 have H4:=hid (⟨H3.out.1.trans (hb.mono H3.out.1.size),H3.out.2.1.keep (zac hb),zai hb H3.out.2.2.1,zai hb H3.out.2.2.2⟩:qL w w4/\RowPts (some ⟨w.heap.size,0,none⟩) tri3 w4/\w4.cell? ⟨g,0,none⟩=some (St [49,50])/\w4.cell? ⟨g,1,none⟩=some (.string ⟨#[49]⟩))
 clear hb H3
 go_wp2_with fail
 refine(z0o _ 3 w4 (HW.out _ H4.out.1).1 H4.out.2.1).mono ?_
 rintro e w5 ⟨rfl,hb⟩
 have H5:=hid (⟨H4.out.1.trans (hb.mono H4.out.1.size),H4.out.2.1.keep (zac hb),zai hb H4.out.2.2.1,zai hb H4.out.2.2.2⟩:qL w w5/\RowPts (some ⟨w.heap.size,0,none⟩) tri3 w5/\w5.cell? ⟨g,0,none⟩=some (St [49,50])/\w5.cell? ⟨g,1,none⟩=some (.string ⟨#[49]⟩))
 clear hb H4
 go_wp2_with fail
 refine(z0p _ 3 w5 (HW.out _ H5.out.1).1 H5.out.2.1).mono ?_
 rintro e w6 ⟨rfl,hb⟩
 have H6:=hid (⟨H5.out.1.trans (hb.mono H5.out.1.size),zai hb H5.out.2.2.1,zai hb H5.out.2.2.2⟩:qL w w6/\w6.cell? ⟨g,0,none⟩=some (St [49,50])/\w6.cell? ⟨g,1,none⟩=some (.string ⟨#[49]⟩))
 clear hb H5
 obtain⟨w7,hw7⟩:∃w7,w7=w6.alloc (.cells #[.string ⟨#[49,50]⟩,.string ⟨#[49]⟩] 57):=⟨_,rfl⟩
 have b7:qL w6 w7:=by rw[hw7];exact(zM _ w6).alloc (zN _) _
 have A7:w7.heap[w6.heap.size]? =some (.cells #[.string ⟨#[49,50]⟩,.string ⟨#[49]⟩] 57 (0,0)):=by rw[hw7];exact zG w6 _
 have S:=hid (z2j g c w6.heap.size 1 w7 (zai b7 H6.out.2.1) (zai b7 H6.out.2.2) (by rw[zJ A7];rfl) (by rw[zJ A7];rfl))
 have B7:=hid (H6.out.1.trans (b7.mono H6.out.1.size))
 have HW7:=hid hw7;clear hw7 b7 A7 H6
 go_wp2_with fail
 rw[<-HW7.out]
 refine S.out.mono ?_
 rintro e w8 ⟨rfl,hb8⟩
 have B8:=hid (B7.out.trans (hb8.mono B7.out.size));clear hb8
 go_wp2_with fail
 go_ret
 exact⟨rfl,B8.out⟩
end
section
open Go.RowKit Go.Shelf Lib Str Limb
open Go.ChangeShapes Go.WideShapes Go.ChangeAt
theorem za5 {α:Type} (P:Nat->α->Prop):∀n,(∀i,i<n->∃x,P i x)->∃l:List α,l.length=n/\∀i (h:i<l.length),P i l[i]
 |0,_=>⟨[],rfl,λi h=>by simp at h⟩
 |n+1,h=>by
  obtain⟨l,hl,hP⟩:=za5 P n (λi hi=>h i (by omega))
  obtain⟨x,hx⟩:=h n (by omega)
  refine⟨l++[x],by simp[hl],λi hi=>?_⟩
  by_cases e:i<l.length
  ·rw[List.getElem_append_left e];exact hP i e
  ·have:i=n:=by simp at hi;omega
   subst this
   rw[List.getElem_append_right (by omega)]
   simpa using hx
theorem zce {H:Type} {enc:TypeId×Value->H} {W:zA} {base:Nat} {sp:Nat->Bool} {held:Bool} {v:Value} {d:DataW H} {ps:List MemPlace} {r:Reach} {b0:Nat}
 (hval:Value.okWide zF W r b0 22 v) (hd:DataW.Trod enc zF W base sp held 22 v d ps):∃(p:Option Addr) (cap:Nat) (l:List (List UInt8×List UInt8)),v=.slice p l.length cap/\RowTx p l W/\l.length<=maxLen:=by
 obtain⟨p,len,cap,rfl⟩:=okWide_slice Tryz.underlying22 hval
 obtain⟨fuel,hf⟩:=hd
 rcases DataW.trod_slice Tryz.underlying22 hf with⟨hcs,hx⟩|⟨a,len',cap',elems,rest,n,_,hcs,hx,hb,hl,hm,hlen,hel,_,_⟩
 ·simp[Value.cells] at hcs
  obtain⟨rfl,rfl,rfl⟩:=hcs
  exact⟨none,0,[],rfl,λi hi=>by simp at hi,Nat.zero_le _⟩
 simp[Value.cells] at hcs
 obtain⟨rfl,rfl,rfl⟩:=hcs
 rw[show Tryz.prog.cellsOf 25=2 by kernel_rfl] at hel
 have each:∀i,i<len->∃x:List UInt8×List UInt8,W.cell? (a.add (i*2))=some (St x.1)/\W.cell? ((a.add (i*2)).add 1)=some (St x.2):=by
  intro i hi
  have h1:=hel i hi
  rw[yB (by omega),Option.bind_eq_some_iff] at h1
  obtain⟨cs,hcs,htr⟩:=h1
  obtain⟨_,hcl,hce⟩:=World.cells?_some hcs
  obtain⟨y0,y1,n',_,_,h0,h1⟩:=trod_struct2 Tryz.underlying25 htr
  obtain⟨s0,e0,_,_⟩:=DataW.trod_string Tryz.underlying23 h0
  obtain⟨s1,e1,_,_⟩:=DataW.trod_string Tryz.underlying23 h1
  rw[show Tryz.prog.cellsOf 23=1 by kernel_rfl] at e0 e1
  match cs,hcl with
  |[c0,c1],_=>
   have k0:c0=.string s0:=by simpa using e0
   have k1:c1=.string s1:=by simpa using e1
   subst k0;subst k1
   have g0:=hce 0 (by omega);have g1:=hce 1 (by omega)
   refine⟨(s0.data.toList,s1.data.toList),?_,?_⟩
   ·simpa [St,Addr.add] using g0
   ·simpa [St,Addr.add] using g1
 obtain⟨l,hll,hP⟩:=za5 _ len each
 subst hll
 refine⟨some a,cap,l,rfl,λi hi=>?_,Nat.le_trans hl hm⟩
 obtain⟨h0,h1⟩:=hP i hi
 obtain⟨b,off,spot⟩:=a
 have hspot:spot=none:=by simpa [Addr.add] using World.cell?_spot (hP 0 (by omega)).1
 subst hspot
 have ap:∀k,(⟨b,off,none⟩:Addr).add k=⟨b,off+k,none⟩:=λk=>by unfold Addr.add;split<;>simp_all
 have ap1:∀k,(⟨b,off+k,none⟩:Addr).add 1=⟨b,off+k+1,none⟩:=λk=>by unfold Addr.add;simp
 rw[ap] at h0 h1
 rw[ap1] at h1
 have ep:ptOf l i=l[i]:=by unfold ptOf;rw[yB hi];rfl
 rw[ep]
 exact⟨b,off,rfl,h0,h1⟩
theorem zvw (os:Os) (started:os.Started) (H:Type) (enc:TypeId×Value->H):
 ReturnsInHanded {} Tryz.checked os 3 .any (λw args=>(Rows.polygonPlacesSpec.pre enc zF Tryz.f3 [] false w args/\laidMetH zF Rows.polygonPlacesRow.laid w)/\sizedMet enc zF Tryz.f3 (OpenSpec.ofChange Rows.polygonPlacesSpec) false w args)
  (Rows.polygonPlacesSpec.post enc zF Tryz.f3 false true false false):=by
 refine zf9 (C:=Tryz.checked) (X:=λw _=>laidMetH zF Rows.polygonPlacesRow.laid w) (λ_ _ _ hh h=>h.of_heap hh) zrj started (by kernel_rfl) Tryz.func3
  (ChangeSpec.witness_shaped (enc:=enc) (C:=Tryz.checked) (os:=os) (X:=λw _=>laidMetH zF Rows.polygonPlacesRow.laid w) false (World.laidAll zF os Rows.polygonPlacesRow.laid)
    #[.slice none 0 0,.slice none 0 0,.agg #[.string ⟨#[]⟩,.string ⟨#[]⟩],.agg #[.string ⟨#[]⟩,.string ⟨#[]⟩],.agg #[.string ⟨#[]⟩,.string ⟨#[]⟩],.agg #[.string ⟨#[]⟩,.string ⟨#[]⟩]] 8 (World.laidAll_os _ _ _)
    (World.shaped_of_ZipB (by kernel_rfl) (by kernel_rfl)) (by kernel_rfl) (by kernel_rfl) (by kernel_rfl)
    (by rw[MakeChecks.laidMetH_plain _ _ _ (by kernel_rfl)];exact laidMet_laidAll _ (by kernel_rfl) (by kernel_rfl))) ?_
 intro W args ds gs before base hval0 hW hL hsh
 have hval:∀(j:Nat) t v,Tryz.f3.params[j]? =some t->args[j]? =some v->Value.okWide zF W .any base t v:=hval0
 have hW':=hW
 obtain⟨p,q,hA0,hV,rfl,_,_⟩:=hW
 have hA:DataW.TrodAll enc zF W 0 (λ_=>true) true Tryz.f3.params.toList args.toList ds p:=hA0
 rw[Tryz.params3] at hA hval
 obtain⟨v0,vs0,d0,ds0,p0,q0,e0,rfl,rfl,h0,hA⟩:=trodAll_cons hA
 obtain⟨v1,vs1,d1,ds1,p1,q1,rfl,rfl,rfl,h1,hA⟩:=trodAll_cons hA
 obtain⟨v2,vs2,d2,ds2,p2,q2,rfl,rfl,rfl,h2,hA⟩:=trodAll_cons hA
 obtain⟨v3,vs3,d3,ds3,p3,q3,rfl,rfl,rfl,h3,hA⟩:=trodAll_cons hA
 obtain⟨v4,vs4,d4,ds4,p4,q4,rfl,rfl,rfl,h4,hA⟩:=trodAll_cons hA
 obtain⟨v5,vs5,d5,ds5,p5,q5,rfl,rfl,rfl,h5,hA⟩:=trodAll_cons hA
 obtain⟨rfl,rfl,rfl⟩:=trodAll_nil hA
 obtain rfl:args= #[v0,v1,v2,v3,v4,v5]:=by cases args;simp_all
 obtain⟨rfl,rfl⟩:=trodVars_none hV
 have hlt:∀x∈p0++(p1++(p2++(p3++(p4++p5)))),x.block<W.heap.size:=λx hx=>by
  have:=hW'.lt x (by simpa using hx)
  simpa using this
 have k0:=h0
 have k1:=h1
 obtain⟨p,cap,l,rfl,hr,hcap⟩:=zce (hval 0 22 v0 rfl rfl) h0
 obtain⟨p',cap',m,rfl,hr',hcap'⟩:=zce (hval 1 22 v1 rfl rfl) h1
 obtain⟨x2,y2,rfl,rfl⟩:=zpo (hval 2 25 v2 rfl rfl) h2
 obtain⟨x3,y3,rfl,rfl⟩:=zpo (hval 3 25 v3 rfl rfl) h3
 obtain⟨x4,y4,rfl,rfl⟩:=zpo (hval 4 25 v4 rfl rfl) h4
 obtain⟨x5,y5,rfl,rfl⟩:=zpo (hval 5 25 v5 rfl rfl) h5
 simp only[List.append_nil] at hW' hlt
 have hM:laidMet zF Rows.polygonPlacesRow.laid W:=by rw[<-MakeChecks.laidMetH_plain _ _ _ (by kernel_rfl)];exact hL
 have hwd:Wd W:=z0v hM (.tail _ (.tail _ (.head _))) hsh
 have hpw:Pw W:=z0w hM (.tail _ (.tail _ (.tail _ (.tail _ (.tail _ (.tail _ (.head _)))))))
 refine(ybr p cap l p' cap' m x2 y2 x3 y3 x4 y4 x5 y5 hcap hcap' W (hid λX hX=>zsh X (hid λY hY=>⟨hwd.below (hX.trans (hY.mono hX.size)),hpw.below (hX.trans (hY.mono hX.size))⟩)) hwd hr hr').mono λe W' ⟨he,hb⟩=>?_
 subst he
 have t0:=Below.trod zgh (by kernel_rfl) (of_decide_eq_true (by kernel_rfl)) k0 hb (λx hx=>hlt x (List.mem_append_left _ hx))
 have t1:=Below.trod zgh (by kernel_rfl) (of_decide_eq_true (by kernel_rfl)) k1 hb (λx hx=>hlt x (List.mem_append_right _ hx))
 have t2:=Below.trod zgh (by kernel_rfl) (of_decide_eq_true (by kernel_rfl)) h2 hb (λx hx=>by cases hx)
 have t3:=Below.trod zgh (by kernel_rfl) (of_decide_eq_true (by kernel_rfl)) h3 hb (λx hx=>by cases hx)
 have t4:=Below.trod zgh (by kernel_rfl) (of_decide_eq_true (by kernel_rfl)) h4 hb (λx hx=>by cases hx)
 have t5:=Below.trod zgh (by kernel_rfl) (of_decide_eq_true (by kernel_rfl)) h5 hb (λx hx=>by cases hx)
 exact⟨_,rfl,_,_,_,[],_,[],hW',trodAll_mk1 (shut_bool Tryz.underlying4 _),⟨_,_,t0,⟨_,_,t1,trodAll_mk4 t2 t3 t4 t5,rfl⟩,rfl⟩,rfl,hb.frame _,λh=>by cases h⟩
theorem zuh:mapsRowed zF=true:=by kernel_rfl
theorem zxu:namedTie zF Rows.polygonPlacesRow.named Rows.polygonPlacesSpec.vars=true:=by kernel_rfl
theorem zpn:(Rows.polygonPlacesRow.inPlace==Tryz.prog.inPlace 3)=true:=by kernel_rfl
theorem zxv:(Rows.polygonPlacesRow.unfollowed==Tryz.prog.unfollowed 3)=true:=by kernel_rfl
theorem zxw:(Rows.polygonPlacesRow.recurses==Tryz.prog.recurses 3)=true:=by kernel_rfl
theorem zqn:(Rows.polygonPlacesRow.named==Tryz.prog.varsNamed 3)=true:=by kernel_rfl
theorem ztq:Tryz.prog.stopsHeard=true:=by kernel_rfl
theorem zug:Tryz.prog.mayEnter=true:=by kernel_rfl
theorem zpi:(Rows.polygonPlacesRow.lifted==Tryz.prog.liftsFinal)=true:=by kernel_rfl
theorem zwv:(Tryz.prog.make==some Rows.polygonPlacesRow.make)=true:=by kernel_rfl
theorem zxs:(Rows.polygonPlacesRow.plainKeys==Tryz.prog.plainKeys)=true:=by kernel_rfl
theorem zxt:Tryz.pinned.checked.prog.funcNamed Rows.polygonPlacesRow.func=some 3:=by kernel_rfl
theorem zxx:joinedFacts zF 3 Tryz.f3 Rows.polygonPlacesSpec Rows.polygonPlacesRow=true:=by
 unfold joinedFacts
 simp only[Bool.and_eq_true]
 repeat' apply And.intro
 all_goals first|with_reducible exact zgh|with_reducible exact zuh|with_reducible exact zxu|with_reducible exact zpn|with_reducible exact zxv|with_reducible exact zxw|with_reducible exact zqn|with_reducible exact ztq|with_reducible exact zug|with_reducible exact zpi|with_reducible exact zwv|with_reducible exact zxs|kernel_rfl
theorem zzq:Rows.PolygonPlacesSaid:=
 OpenClaim.holds_of_wide 3 Tryz.f3 rfl rfl rfl rfl rfl rfl rfl ⟨rfl,rfl,rfl,rfl,rfl⟩ rfl rfl rfl rfl rfl zxt Tryz.func3 zxx
  (of_decide_eq_true (by kernel_rfl)) (by unfold Func.isWrapper;first|(rw[if_pos (by decide+kernel)];kernel_rfl)|(rw[if_neg (by decide+kernel)];exact⟨rfl,rfl⟩))
  (λos started H enc _=>zvw os started H enc)
end
end Go.Proofs.YthfpmfdiamldoaaGreatDoor
