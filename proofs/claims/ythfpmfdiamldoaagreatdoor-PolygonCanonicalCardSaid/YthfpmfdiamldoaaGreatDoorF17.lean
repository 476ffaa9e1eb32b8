/- The canonical polygon: plain law. -/
import Derived.Test.YthfpmfdiamldoaaGreatDoorF16
import Derived.Deep.Quiet
set_option maxRecDepth 100000
set_option maxHeartbeats 8000000
open Go renaming World → zA
open Go.RowKit renaming Below → zB, intOf → zL
open Go.Proofs.Tryz renaming prog → zF
open Go.IntWalk renaming i64_in → zI
open Go.RowKit.Below renaming refl → zM
open Nat renaming le_refl → zN, zero_le → zR, le_of_lt → zT, mul_comm → yP
open List renaming length_map → zV, getElem_mem → zY
namespace Go.Proofs.YthfpmfdiamldoaaGreatDoor
section
open Go.RowKit Go.Shelf Lib Str Limb Geo
theorem yci (P:Pt) {d:List Pt} (h:0<d.length):cor (P::d.reverse) d.length=cor (P::d) 1/\cor (P::d.reverse) 1=cor (P::d) d.length:=by
 have l1:(P::d.reverse).length=d.length+1:=by simp
 have l2:(P::d).length=d.length+1:=by simp
 obtain⟨n,hn⟩:∃n,d.length=n+1:=⟨d.length-1,by omega⟩
 constructor
 ·rw[z3r (by omega),z3r (by omega)]
  simp[hn]
 ·rw[z3r (by omega),z3r (by omega)]
  simp[hn]
structure CanP (q c:List Pt):Prop where
 poly:z3q c
 len:3<=c.length
 le_len:c.length<=q.length
 own:z3p c=c
 flat:znv c
 least:∀j,j<c.length->le (cor c 0) (cor c j)
 mem:∀p∈c,p∈q
 pos:0<=zbj c
 area:zbj c=zbj q\/zbj c= -zbj q
theorem yam {q:List Pt} (h3:3<=q.length) (h:z3q q):CanP q (z3p q):=by
 obtain⟨i1,i2,i3,i4⟩:=z94 q.length q (zN _) h3 h
 have hn:=z4t h3 h
 have hsub:=z5m q
 have hown:z3p (z3n q)=z3p q:=by
  show z31 (z3n (z3n q))=z31 (z3n q)
  rw[z9l i4]
 obtain⟨a,P,b,ho,hP⟩:=z4q (z3n q) (zkl h3 h)
 have hc:z3p q=canC P (b++a):=by
  show z31 (z3n q)=_
  rw[ho] at hn hP⊢
  exact z3x hn hP
 rw[ho] at i1 i2 i3 i4 hown hsub hP
 have hlen:(P::(b++a)).length=(a++P::b).length:=by simp;omega
 have r1:z3q (P::(b++a)):=z4e a (P::b) i2 i1
 have r3:zbj (P::(b++a))=zbj q:=by rw[<-i3];exact zro a (P::b)
 have r4:znv (P::(b++a)):=zui (s:=a) (t:=P::b) (by omega) i4
 have r5:z3p (P::(b++a))=z3p q:=by rw[<-hown];exact z4m a (P::b) i2 i1
 have rm:∀p∈P::(b++a),p∈a++P::b:=λp hp=>by
  simp at hp⊢
  rcases hp with hp|hp|hp<;>simp[hp]
 generalize hd:b++a=d at*
 have hd2:2<=d.length:=by simp at hlen;simp at i2;omega
 have hq:(a++P::b).length<=q.length:=hsub.length_le
 have l0:cor (P::d) 0=P:=rfl
 have n0:turn (cor (P::d) d.length) P (cor (P::d) 1)≠0:=by
  have:=r4 0
  rw[show 0+(P::d).length-1=d.length by simp,l0] at this
  exact this
 by_cases ht:turn (cor (P::d) d.length) P (cor (P::d) 1)<0
 ·have hcc:z3p q=P::d.reverse:=by rw[hc];unfold canC;rw[if_pos ht]
  have hl2:(P::d.reverse).length=(P::d).length:=by simp
  have v1:z3q ((P::d).reverse):=z7r (by omega) r1
  have v1':z3q (d.reverse++[P]):=by rw[<-List.reverse_cons];exact v1
  have v3:3<=(d.reverse++[P]).length:=by simp;omega
  have w1:z3q (P::d.reverse):=z4e d.reverse [P] v3 v1'
  have w4:znv (P::d.reverse):=zui (s:=d.reverse) (t:=[P]) (by omega) (by rw[<-List.reverse_cons];exact ybd (by simp) r4)
  have wa:zbj (P::d.reverse)= -zbj q:=by
   have:=zro d.reverse [P]
   rw[<-List.reverse_cons,ych (by simp),r3] at this
   exact this
  have w5:z3p (P::d.reverse)=z3p q:=by
   have:=z4m d.reverse [P] v3 v1'
   rw[<-List.reverse_cons,z68 (by omega) r1,r5] at this
   exact this
  obtain⟨e1,e2⟩:=yci P (d:=d) (by omega)
  have wm:∀p∈P::d.reverse,p∈a++P::b:=λp hp=>rm p (by simp at hp⊢;exact hp)
  have wl:∀j,j<(P::d.reverse).length->le (cor (P::d.reverse) 0) (cor (P::d.reverse) j):=λj hj=>by
   show le P _
   rw[z3r hj]
   exact hP _ (wm _ (zY _))
  rw[hcc]
  refine⟨w1,by omega,by omega,by rw[w5,hcc],w4,wl,λp hp=>hsub.subset (wm p hp),?_,.inr wa⟩
  refine z91 (by omega) w1 (λj _ hj=>wl j hj) ?_
  show 0<turn (cor (P::d.reverse) ((P::d.reverse).length-1)) P (cor (P::d.reverse) 1)
  rw[show(P::d.reverse).length-1=d.length by simp,e1,e2,z43]
  omega
 ·have hcc:z3p q=P::d:=by rw[hc];unfold canC;rw[if_neg ht]
  have wl:∀j,j<(P::d).length->le (cor (P::d) 0) (cor (P::d) j):=λj hj=>by
   show le P _
   rw[z3r hj]
   exact hP _ (rm _ (zY _))
  rw[hcc]
  refine⟨r1,by omega,by omega,by rw[r5,hcc],r4,wl,λp hp=>hsub.subset (rm p hp),?_,.inl r3⟩
  refine z91 (by omega) r1 (λj _ hj=>wl j hj) ?_
  show 0<turn (cor (P::d) ((P::d).length-1)) P (cor (P::d) 1)
  rw[show(P::d).length-1=d.length by simp]
  have:=znm (cor (P::d) d.length) P (cor (P::d) 1)
  omega
end
section
open Go.RowKit Go.Shelf Lib Str Limb Geo
attribute [local go_sem] Oper.semAt_some
theorem z1w:(Tryz.prog.info? 23).map (λi=>(i.zero,i.size,i.bytes))=some (some (St []),1,16):=by kernel_rfl
theorem zcj {W W':zA} (h:CellsKept W W') {B:Nat} {e:TypeId} {s:Nat} {v:Value} {n:Nat} {xs:List Value} (ho:W.ownsRow B e s v n xs):W'.ownsRow B e s v n xs:=by
 obtain⟨hl,ho⟩:=ho
 refine⟨hl,?_⟩
 rcases ho with ho|⟨g,cap,cur,e,hb,hg,hr⟩
 ·exact .inl ho
 ·exact .inr ⟨g,cap,cur,e,hb,h _ _ _ _ hg,hr⟩
theorem zmb {P:Program} (C':Value->zA->Prop) {o:Oper} {a:Act} (w:zA) (s x:Operand) (t:TypeId)
 (ho:o.op=.call {callee:=.builtin .append,args:= #[s,x],argTypes:= #[t,t]})
 (base:Nat) (e:TypeId) (i:TypeInfo) (z:Value) (size bytes:Nat) (ht:P.underlying t=some (.slice e)) (hi:P.info? e=some i) (hz:i.zero=some z)
 (hsize:i.size=size) (hby:i.bytes=bytes) (hzs:z.cells.size=size) (hsz:0<size)
 (v:Value) (n:Nat) (xs:List Value) (hs:a.eval s=v) (hown:w.ownsRow base e size v n xs)
 (ad:Addr) (m c:Nat) (news:List Value) (hx:a.eval x=.slice (some ad) m c) (hl:news.length=m*size) (hnews:∀j u,news[j]? =some u->w.cell? (ad.add j)=some u) (h1:∀u∈news,u.oneCell'=true)
 (h63:n+m<=maxLen) (hbytes:(n+m)*bytes<=140737488355328) (hbase:base<=w.heap.size)
 (h:∀v' w',w'.ownsRow base e size v' (n+m) (xs++news)->w.grownBy w' v.ownBlock->C' v' w'):zfp P C' ((execOp a.eval o).run P w):=by
 obtain⟨v',w',hr,h2,h3,h4⟩:=run_append_own (P:=P) w base t o.type e i z size bytes ht hi hz hsize hby hzs hsz v n xs hown ad m c news hl hnews h1 h63 hbytes hbase
 unfold execOp
 simp only[ho,resolve,invoke,builtin,Sem.run_bind,Sem.run_pure,Result.andThen_ok,List.map_toArray,List.map_cons,List.map_nil,hs,hx,hr]
 exact h v' w' h2 h3
def SegB (b:Nat) (x y:Pt) (W:zA):Prop:=W.heap[b]? =some (.cells #[St (numS x.x),St (numS x.y),St (numS y.x),St (numS y.y)] 63 (0,0))
theorem SegB.at {b:Nat} {x y:Pt} {W:zA} (h:SegB b x y W):SegAt b x y W:=by
 constructor<;>(rw[Go.Joins.cell_of_block h];rfl)
def zbh (l:List Pt) (k:Nat):Rat:=(cor l k).x*(cor l (k+1)).y-(cor l (k+1)).x*(cor l k).y
def zf4 (l:List Pt) (k:Nat):List Value:=(List.range k).map λi=>St (numS (zbh l i))
theorem zta (l:List Pt) (k:Nat):zf4 l (k+1)=zf4 l k++[St (numS (zbh l k))]:=by simp[zf4,List.range_succ]
structure AreaS (w:zA) (p:Option Addr) (cap n:Nat) (l:List Pt) (bt j:Nat) (W:zA):Prop where
 bel:zB w.heap.size w W
 bt1:w.heap.size<=bt
 pts:∀i,i<n->∃b off,p=some ⟨b,off,none⟩/\b<w.heap.size/\W.cell? ⟨b,off+i*2,none⟩=some (St (ptOf (txt l) i).1)/\W.cell? ⟨b,off+i*2+1,none⟩=some (St (ptOf (txt l) i).2)
 cbx:W.cell? ⟨bt+1,0,none⟩=some (.slice p n cap)
 box:∃v,W.cell? ⟨bt,0,none⟩=some v/\W.ownsRow (bt+2) 23 1 v j (zf4 l j)
 fr:W.frozen? ⟨bt,0,none⟩=false
theorem AreaS.keep {w:zA} {p:Option Addr} {cap n:Nat} {l:List Pt} {bt j:Nat} {W W':zA} (h:AreaS w p cap n l bt j W) (hc:CellsKept W W') (hb:zB w.heap.size W W'):AreaS w p cap n l bt j W':=
 ⟨h.bel.trans hb,h.bt1,λi hi=>let ⟨b,off,e,h0,h1,h2⟩:=h.pts i hi;⟨b,off,e,h0,hc.cell h1,hc.cell h2⟩,hc.cell h.cbx,let ⟨v,h1,h2⟩:=h.box;⟨v,hc.cell h1,zcj hc h2⟩,let ⟨_,h1,_⟩:=h.box;hc.frozen h1 h.fr⟩
theorem AreaS.ptsAt {w:zA} {p:Option Addr} {cap n:Nat} {l:List Pt} {bt j:Nat} {W:zA} (hn:n=l.length) (h:AreaS w p cap n l bt j W):zls (bt+1) p cap (txt l) W:=
 ⟨by rw[za2,<-hn];exact h.cbx,λi hi=>let ⟨b,off,e,_,h1,h2⟩:=h.pts i (by rw[za2] at hi;omega);⟨b,off,e,h1,h2⟩⟩
theorem zo9 {w:zA} {p:Option Addr} {cap n:Nat} {l:List Pt} {bt j:Nat} {W Y Z:zA} {v v':Value} (h:AreaS w p cap n l bt j W) (hv:W.cell? ⟨bt,0,none⟩=some v) (hown:W.ownsRow (bt+2) 23 1 v j (zf4 l j))
 (hY:zB W.heap.size W Y) (hZ:Y.grownBy Z v.ownBlock) (hz:Z.ownsRow (bt+2) 23 1 v' (j+1) (zf4 l (j+1))) (B:Nat):
 KeepsFrom B W (Z.setCell ⟨bt,0,none⟩ v')/\AreaS w p cap n l bt (j+1) (Z.setCell ⟨bt,0,none⟩ v'):=by
 have ck:=zac hY
 have hS:=h.keep ck (hY.mono h.bel.size)
 have ho:=zcj ck hown
 have hlt:∀q,v.ownBlock=some q->bt+2<=q:=λq e=>(ho.lt q e).1
 have hne:∀b,b<bt+2->some b≠v.ownBlock:=λb hb e=>by have:=hlt b e.symm;omega
 have hbt:=h.bt1
 have cz:∀{b o:Nat} {x:Value},b<bt+2->Y.cell? ⟨b,o,none⟩=some x->Z.cell? ⟨b,o,none⟩=some x:=λhb hc=>hZ.cell hc (hne _ hb)
 have hYs:bt<Y.heap.size:=zbe (ck.cell hv)
 refine⟨?_,?_,hbt,λi hi=>?_,?_,⟨v',?_,?_⟩,?_⟩
 ·refine((za0 hY).from B).trans (((KeepsOthers.of_grownBy hZ ?_).from B).trans ((KeepsOthers.setCell _ _ _).from B))
  intro q o e hq
  rcases ho.2 with⟨rfl,_⟩|⟨g,cp,cur,rfl,_,hg,_⟩
  ·simp[Value.ownBlock] at e
  ·simp[Value.ownBlock] at e;subst e;rw[hg] at hq;cases hq;rfl
 ·exact((hS.bel.grown hZ (by have:=zbe hS.cbx;simp at this;omega) (λq e=>by have:=hlt q e;omega))).setCell (by simpa using hbt) _
 ·obtain⟨b,off,e,h0,h1,h2⟩:=hS.pts i hi
  exact⟨b,off,e,h0,by rw[zau _ _ _ _ (by omega)];exact cz (by omega) h1,by rw[zau _ _ _ _ (by omega)];exact cz (by omega) h2⟩
 ·rw[zau _ _ _ _ (by omega)];exact cz (by omega) hS.cbx
 ·exact za9 (cz (by omega) (ck.cell hv))
 ·exact ownsRow_setCell_below hz (by simp) _
 ·rw[World.frozen?_setCell,World.frozen?_of_block (a:=⟨bt,0,none⟩) (hZ.block bt hYs (hne bt (by omega)))];exact hS.fr
structure AppS (W:zA) (v:Value) (u:List UInt8) (bt j:Nat) (xs:List Value) (b:Nat×Value) (f:Nat->Bool) (X:zA):Prop where
 pre:f 17=false->zB W.heap.size W X
 new:f 17=false->f 16=true->X.cell? ⟨b.1,0,none⟩=some (St u)
 post:f 17=true->∃Y Z,zB W.heap.size W Y/\Y.grownBy Z v.ownBlock/\Z.ownsRow (bt+2) 23 1 b.2 (j+1) (xs++[St u])/\X=if f 18=true then Z.setCell ⟨bt,0,none⟩ b.2 else Z
theorem AppS.congr {W:zA} {v:Value} {u:List UInt8} {bt j:Nat} {xs:List Value} {b:Nat×Value} {f g:Nat->Bool} {X:zA} (h:AppS W v u bt j xs b f X) (e16:g 16=f 16) (e17:g 17=f 17) (e18:g 18=f 18):AppS W v u bt j xs b g X:=
 ⟨by rw[e17];exact h.pre,by rw[e16,e17];exact h.new,by rw[e17,e18];exact h.post⟩
theorem zw7 (p:Option Addr) (cap:Nat) (l:List Pt) (h3:3<=l.length) (hlen:l.length<=4096) (r:Rat)
 (C:Hid (∀W:zA,Wd W->RowPts p l W->qJ 18 #[.slice p l.length cap] W (.int .i64 0)))
 (M1:Hid (∀k,k<l.length->qK 47 #[St (numS (cor l k).x),St (numS (cor l (k+1)).y)] (St (numS ((cor l k).x*(cor l (k+1)).y)))))
 (M2:Hid (∀k,k<l.length->qK 47 #[St (numS (cor l (k+1)).x),St (numS (cor l k).y)] (St (numS ((cor l (k+1)).x*(cor l k).y)))))
 (SB:Hid (∀k,k<l.length->qK 46 #[St (numS ((cor l k).x*(cor l (k+1)).y)),St (numS ((cor l (k+1)).x*(cor l k).y))] (St (numS (zbh l k)))))
 (SM:Hid (∀p cap,∀W:zA,Wd W->RowNums p l.length (zbh l) W->qJ 48 #[.slice p l.length cap] W (.tuple #[St (numS (psum (zbh l) l.length)),.int .i64 0])))
 (DV:Hid (qK 25 #[St (numS (psum (zbh l) l.length)),.string ⟨#[50]⟩] (.tuple #[St (numS r),.int .i64 0])))
 (w:zA) (HW:Hid (Wd w)) (HP:Hid (RowPts p l w)):
 qJ 16 #[.slice p l.length cap] w (.tuple #[St (numS r),.int .i64 0]):=by
 obtain⟨i0,hi,hz0,hz1,hz2⟩:=info_parts z1w
 refine(callsIn_wide (n:=3)).1 ?_
 refine callsIn_of_wp_marks Tryz.func16 rfl trivial ?_ rfl
 simp only[Tryz.ntmps16,List.size_toArray,List.length_cons,List.length_nil,Nat.reduceAdd,Nat.reduceSub,Array.replicate_succ,Array.replicate_zero,List.push_toArray,List.append_toArray,List.nil_append,List.cons_append]
 obtain⟨n,hn⟩:∃n,n=l.length:=⟨_,rfl⟩
 have hCk:=C.out w HW.out HP.out
 rw[<-hn] at h3 hlen hCk⊢
 have HN:=hid hn;clear hn
 have HCk:=hid hCk;clear hCk C
 gi_wp2
 refine⟨trivial,(callsIn_wide.2 HCk.out).mono ?_⟩
 rintro e w1 ⟨rfl,hb1⟩
 have HB1:=hid hb1;clear hb1 HCk
 gi_wp2_with (refine⟨trivial,?_⟩;gi_at_call 32;refine(callsIn_wide.2 (zfr _ _ _ _ _ rfl)).mono ?_;rintro e w' ⟨rfl,rfl⟩)
 obtain⟨W1,hW1⟩:∃W1,W1=(w1.alloc (.cells #[.slice none 0 0] 72)).alloc (.cells #[.slice p n cap] 22):=⟨_,rfl⟩
 rw[<-hW1]
 have hS1:AreaS w p cap n l w1.heap.size 0 W1:=by
  have hb:=HB1.out
  have b1:=(Boxed.new w1 72 (.slice none 0 0)).alloc (.cells #[.slice p n cap] 22)
  have b2:=Boxed.new (w1.alloc (.cells #[.slice none 0 0] 72)) 22 (.slice p n cap)
  rw[World.size_alloc] at b2
  have hw:zB w1.heap.size w1 ((w1.alloc (.cells #[.slice none 0 0] 72)).alloc (.cells #[.slice p n cap] 22)):=((zM _ w1).alloc (zN _) _).alloc (by simp) _
  rw[hW1]
  refine⟨hb.trans (hw.mono hb.size),hb.size,λi hi=>?_,b2.cell,⟨_,b1.cell,World.ownsRow_nil _ _ _ _⟩,b1.frozen⟩
  obtain⟨b,off,e,h1,h2⟩:=HP.out i (by rw[<-HN.out];exact hi)
  exact⟨b,off,e,zbe h1,zai hw (zai hb h1),zai hw (zai hb h2)⟩
 have hsz1:W1.heap.size=w1.heap.size+2:=by rw[hW1];simp
 clear hW1
 have HS1:=hid hS1.bel.size
 have HZ:=hid hsz1
 have hw1:w.heap.size<=w1.heap.size:=HB1.out.size
 have hseq:=zgi 2 (by omega) (w1.heap.size+1) (txt l) (by rw[za2,<-HN.out];omega) (λW=>∃j,AreaS w p cap n l w1.heap.size j W) p cap (λW ⟨j,h⟩=>h.ptsAt HN.out)
 rw[za2,<-HN.out] at hseq
 refine zfq (n:=3) (B:=w.heap.size) rfl (by omega) rfl trivial (enters_of Tryz.func82 (by kernel_rfl) rfl) hseq (λk args h=>by subst h;rfl) hS1.bel.size
  (λj W=>AreaS w p cap n l w1.heap.size j W) (λc _ W=>False)
  (λj X Y h hc hb=>h.keep hc hb) (λc j X Y h hc hb=>h) (λj W h=>⟨j,h⟩) hS1
  (λj _ a' W=>∃bs,a'={tmps:= #[Value.slice p n cap,undef,.string ⟨#[]⟩,.int .i64 0,.pointer (some ⟨w1.heap.size,0,none⟩),undef,.pointer (some ⟨bs,0,none⟩),undef,undef,Value.slice p n cap,.int .i64 0,.bool false,Value.slice p n cap,Value.func (Fn.func 82) #[] #[.pointer (some ⟨w1.heap.size+1,0,none⟩)],I j,segV (cor l j) (cor l (j+1)),undef,undef,undef,undef,undef,undef,undef,undef,undef,undef,undef,undef,undef,undef,undef,undef,undef,undef,undef,undef,undef,undef,undef,undef,undef,undef,undef,undef,undef,undef],defers:=[]}/\SegB bs (cor l j) (cor l (j+1)) W)
  (λj _ a' X Y h hc hb=>let ⟨bs,e,h2⟩:=h;⟨bs,e,hc _ _ _ _ h2⟩) ?assign ?body ?done ?stop
 case assign=>
  rintro lp j args W K hlp hrec hS hj rfl hK
  rw[zgj l j (by rw[<-HN.out];exact hj)]
  have HK:=hid hK;clear hK
  unfold segV
  gi_wp2
  have hb1:zB W.heap.size W (W.alloc (.cells #[St (numS (cor l j).x),St (numS (cor l j).y),St (numS (cor l (j+1)).x),St (numS (cor l (j+1)).y)] 63)):=(zM _ W).alloc (zN _) _
  exact HK.out _ _ ((za0 hb1).from _) (hS.keep (zac hb1) (hb1.mono hS.bel.size)) ⟨W.heap.size,rfl,World.alloc_heap_new W _⟩
 case body=>
  rintro lp j args a' W hlp ⟨r',hr'⟩ hS hj rfl ⟨bs,rfl,hseg⟩
  have hjl:j<l.length:=by rw[<-HN.out];exact hj
  have m1:=hid (M1.out j hjl);have m2:=hid (M2.out j hjl);have sb:=hid (SB.out j hjl)
  obtain⟨v,hv,hown⟩:=hS.box
  have H0:=hid hS
  have HT:=hid (zta l j)
  have HO:=hid hown
  obtain⟨u1,hu1⟩:∃u,u=numS ((cor l j).x*(cor l (j+1)).y):=⟨_,rfl⟩
  obtain⟨u2,hu2⟩:∃u,u=numS ((cor l (j+1)).x*(cor l j).y):=⟨_,rfl⟩
  obtain⟨u3,hu3⟩:∃u,u=numS (zbh l j):=⟨_,rfl⟩
  rw[<-hu1] at m1 sb;rw[<-hu2] at m2 sb;rw[<-hu3] at sb HT
  obtain⟨q1,q2,q3,q4⟩:=hseg.at
  clear hseg
  unfold segV
  generalize numS (cor l j).x=x1 at*
  generalize numS (cor l j).y=y1 at*
  generalize numS (cor l (j+1)).x=x2 at*
  generalize numS (cor l (j+1)).y=y2 at*
  have HQ:=hid (⟨hv,q1,q2,q3,q4⟩:W.cell? ⟨w1.heap.size,0,none⟩=some v/\W.cell? ⟨bs,0,none⟩=some (St x1)/\W.cell? ⟨bs,1,none⟩=some (St y1)/\W.cell? ⟨bs,2,none⟩=some (St x2)/\W.cell? ⟨bs,3,none⟩=some (St y2))
  clear q1 q2 q3 q4 hv hown hu1 hu2 hu3 hseq hS1 hr' hS M1 M2 SB SM DV
  gi_wp2
  have hbl:=H0.out.bel
  have hks:∀w':zA,zB W.heap.size W w'->w'.cell? ⟨w1.heap.size,0,none⟩=some v/\w'.cell? ⟨bs,0,none⟩=some (St x1)/\w'.cell? ⟨bs,1,none⟩=some (St y1)/\w'.cell? ⟨bs,2,none⟩=some (St x2)/\w'.cell? ⟨bs,3,none⟩=some (St y2):=λw' hb=>
   ⟨zai hb HQ.out.1,zai hb HQ.out.2.1,zai hb HQ.out.2.2.1,zai hb HQ.out.2.2.2.1,zai hb HQ.out.2.2.2.2⟩
  have KS:=hid hks;clear hks
  have HV:=hid HQ.out.1
  refine zrq (λ(b:Nat×Value) i=>([v,.pointer (some ⟨bs,0,none⟩),.pointer (some ⟨bs,0,none⟩),St x1,.pointer (some ⟨bs,2,none⟩),.pointer (some ⟨bs,3,none⟩),St y2,St u1,.pointer (some ⟨bs,2,none⟩),.pointer (some ⟨bs,2,none⟩),St x2,.pointer (some ⟨bs,0,none⟩),.pointer (some ⟨bs,1,none⟩),St y1,St u2,St u3,.slice (some ⟨b.1,0,none⟩) 1 1,b.2]:List Value).getD i undef) (AppS W v u3 w1.heap.size j (zf4 l j)) (by kernel_rfl) (by kernel_rfl) (by kernel_rfl) (0,v) ⟨λ_=>(zM _ W).drew,λ_ h=>(by cases h),λh=>(by cases h)⟩ λb=>?_
  refine zag (v) (by rfl) (by rfl) (λf W' h=>h.congr rfl rfl rfl) (λf W' hf h=>by have g:=KS.out _ (h.pre (hf.no (j:=17) hf.self (by kernel_rfl)));obtain⟨q0,q1,q2,q3,q4⟩:=g;go_simp) ?_
  try simp only[zzQ]
  refine zag (.pointer (some ⟨bs,0,none⟩)) (by rfl) (by rfl) (λf W' h=>h.congr rfl rfl rfl) (λf W' hf h=>by go_simp) ?_
  try simp only[zzQ]
  refine zag (.pointer (some ⟨bs,0,none⟩)) (by rfl) (by rfl) (λf W' h=>h.congr rfl rfl rfl) (λf W' hf h=>by go_simp) ?_
  try simp only[zzQ]
  refine zag (St x1) (by rfl) (by rfl) (λf W' h=>h.congr rfl rfl rfl) (λf W' hf h=>by have g:=KS.out _ (h.pre (hf.no (j:=17) (hf.no (j:=16) (hf.no (j:=15) (hf.no (j:=7) hf.self (by kernel_rfl)) (by kernel_rfl)) (by kernel_rfl)) (by kernel_rfl)));obtain⟨q0,q1,q2,q3,q4⟩:=g;go_simp) ?_
  try simp only[zzQ]
  refine zag (.pointer (some ⟨bs,2,none⟩)) (by rfl) (by rfl) (λf W' h=>h.congr rfl rfl rfl) (λf W' hf h=>by go_simp) ?_
  try simp only[zzQ]
  refine zag (.pointer (some ⟨bs,3,none⟩)) (by rfl) (by rfl) (λf W' h=>h.congr rfl rfl rfl) (λf W' hf h=>by go_simp) ?_
  try simp only[zzQ]
  refine zag (St y2) (by rfl) (by rfl) (λf W' h=>h.congr rfl rfl rfl) (λf W' hf h=>by have g:=KS.out _ (h.pre (hf.no (j:=17) (hf.no (j:=16) (hf.no (j:=15) (hf.no (j:=7) hf.self (by kernel_rfl)) (by kernel_rfl)) (by kernel_rfl)) (by kernel_rfl)));obtain⟨q0,q1,q2,q3,q4⟩:=g;go_simp) ?_
  try simp only[zzQ]
  refine zbv (St u1) (by rfl) (by rfl) (λf W' hf h C' hC'=>by
   have h17:=(hf.no (j:=17) (hf.no (j:=16) (hf.no (j:=15) hf.self (by kernel_rfl)) (by kernel_rfl)) (by kernel_rfl))
   have h16:=(hf.no (j:=16) (hf.no (j:=15) hf.self (by kernel_rfl)) (by kernel_rfl))
   have hp:=h.pre h17
   go_simp
   refine(m1.out _ (HW.out.below (hbl.trans (hp.mono hbl.size)))).mono ?_
   rintro e w' ⟨rfl,hb⟩
   exact⟨_,rfl,hC' _ ⟨λ_=>hp.trans (hb.mono hp.size),λ_ k=>(by have k':f 16=true:=k;rw[h16] at k';cases k'),λk=>(by have k':f 17=true:=k;rw[h17] at k';cases k')⟩⟩) ?_
  try simp only[zzQ]
  refine zag (.pointer (some ⟨bs,2,none⟩)) (by rfl) (by rfl) (λf W' h=>h.congr rfl rfl rfl) (λf W' hf h=>by go_simp) ?_
  try simp only[zzQ]
  refine zag (.pointer (some ⟨bs,2,none⟩)) (by rfl) (by rfl) (λf W' h=>h.congr rfl rfl rfl) (λf W' hf h=>by go_simp) ?_
  try simp only[zzQ]
  refine zag (St x2) (by rfl) (by rfl) (λf W' h=>h.congr rfl rfl rfl) (λf W' hf h=>by have g:=KS.out _ (h.pre (hf.no (j:=17) (hf.no (j:=16) (hf.no (j:=15) (hf.no (j:=14) hf.self (by kernel_rfl)) (by kernel_rfl)) (by kernel_rfl)) (by kernel_rfl)));obtain⟨q0,q1,q2,q3,q4⟩:=g;go_simp) ?_
  try simp only[zzQ]
  refine zag (.pointer (some ⟨bs,0,none⟩)) (by rfl) (by rfl) (λf W' h=>h.congr rfl rfl rfl) (λf W' hf h=>by go_simp) ?_
  try simp only[zzQ]
  refine zag (.pointer (some ⟨bs,1,none⟩)) (by rfl) (by rfl) (λf W' h=>h.congr rfl rfl rfl) (λf W' hf h=>by go_simp) ?_
  try simp only[zzQ]
  refine zag (St y1) (by rfl) (by rfl) (λf W' h=>h.congr rfl rfl rfl) (λf W' hf h=>by have g:=KS.out _ (h.pre (hf.no (j:=17) (hf.no (j:=16) (hf.no (j:=15) (hf.no (j:=14) hf.self (by kernel_rfl)) (by kernel_rfl)) (by kernel_rfl)) (by kernel_rfl)));obtain⟨q0,q1,q2,q3,q4⟩:=g;go_simp) ?_
  try simp only[zzQ]
  refine zbv (St u2) (by rfl) (by rfl) (λf W' hf h C' hC'=>by
   have h17:=(hf.no (j:=17) (hf.no (j:=16) (hf.no (j:=15) hf.self (by kernel_rfl)) (by kernel_rfl)) (by kernel_rfl))
   have h16:=(hf.no (j:=16) (hf.no (j:=15) hf.self (by kernel_rfl)) (by kernel_rfl))
   have hp:=h.pre h17
   go_simp
   refine(m2.out _ (HW.out.below (hbl.trans (hp.mono hbl.size)))).mono ?_
   rintro e w' ⟨rfl,hb⟩
   exact⟨_,rfl,hC' _ ⟨λ_=>hp.trans (hb.mono hp.size),λ_ k=>(by have k':f 16=true:=k;rw[h16] at k';cases k'),λk=>(by have k':f 17=true:=k;rw[h17] at k';cases k')⟩⟩) ?_
  try simp only[zzQ]
  refine zbv (St u3) (by rfl) (by rfl) (λf W' hf h C' hC'=>by
   have h17:=(hf.no (j:=17) (hf.no (j:=16) hf.self (by kernel_rfl)) (by kernel_rfl))
   have h16:=(hf.no (j:=16) hf.self (by kernel_rfl))
   have hp:=h.pre h17
   go_simp
   refine(sb.out _ (HW.out.below (hbl.trans (hp.mono hbl.size)))).mono ?_
   rintro e w' ⟨rfl,hb⟩
   exact⟨_,rfl,hC' _ ⟨λ_=>hp.trans (hb.mono hp.size),λ_ k=>(by have k':f 16=true:=k;rw[h16] at k';cases k'),λk=>(by have k':f 17=true:=k;rw[h17] at k';cases k')⟩⟩) ?_
  try simp only[zzQ]
  refine zdc (.slice (some ⟨b.1,0,none⟩) 1 1) (by rfl) (by rfl) (λf W' hf h C' hC'=>by
   have h17:=(hf.no (j:=17) hf.self (by kernel_rfl))
   have hp:=h.pre h17
   have ha:zB W'.heap.size W' (W'.alloc (.cells #[St u3] 23)):=(zM _ W').alloc (zN _) _
   have:=hC' (W'.heap.size,b.2) (W'.alloc (.cells #[St u3] 23)) (λi hi=>?_) ⟨λ_=>hp.trans (ha.mono hp.size),λ_ _=>(Boxed.new W' 23 (St u3)).cell,λk=>(by have k':f 17=true:=k;rw[h17] at k';cases k')⟩
   ·go_simp
    exact this
   ·match i,hi with
    |0,_|1,_|2,_|3,_|4,_|5,_|6,_|7,_|8,_|9,_|10,_|11,_|12,_|13,_|14,_|15,_|17,_=>rfl
    |16,hi=>rw[hf.self] at hi;cases hi
    |_+18,_=>rfl) ?_
  try simp only[zzQ]
  refine zdc b.2 (by rfl) (by rfl) (λf W' hf h C' hC'=>by
   have h17:=hf.self
   have h18:=(hf.no (j:=18) hf.self (by kernel_rfl))
   have h16:=hf.done 16 (by kernel_rfl)
   have hp:=h.pre h17
   have hn:=h.new h17 h16
   have hc:=zac hp
   refine zmb _ W' _ _ 72 rfl (w1.heap.size+2) 23 i0 (St []) 1 16 Tryz.underlying72 hi hz0 hz1 hz2 rfl (by decide) v j (zf4 l j) rfl (zcj hc HO.out) ⟨b.1,0,none⟩ 1 1 [St u3] rfl rfl (λi u hu=>?_) (λu hu=>by simp at hu;subst hu;rfl) (by unfold maxLen;omega) (by omega) (by have:=zbe (hc.cell H0.out.cbx);simp at this;omega) (λv' w' hown' hgrow=>?_)
   ·match i,hu with
    |0,hu=>simp at hu;subst hu;exact hn
    |_+1,hu=>simp at hu
   ·refine hC' (b.1,v') w' (λi hi=>?_) ⟨λk=>?_,λk=>?_,λ_=>⟨W',w',hp,hgrow,hown',?_⟩⟩
    ·match i,hi with
     |0,_|1,_|2,_|3,_|4,_|5,_|6,_|7,_|8,_|9,_|10,_|11,_|12,_|13,_|14,_|15,_|16,_=>rfl
     |17,hi=>rw[hf.self] at hi;cases hi
     |_+18,_=>rfl
    ·cases k
    ·cases k
    ·show w'=if f 18=true then _ else w'
     rw[h18];rfl) ?_
  try simp only[zzQ]
  refine zbv undef (by rfl) (by rfl) (λf W' hf h C' hC'=>by
   have h17:=hf.done 17 (by kernel_rfl)
   have h18:=hf.self
   obtain⟨Y,Z,hY,hZ,hz,rfl⟩:=h.post h17
   rw[h18,if_neg (by simp)] at*
   have hst:=zo9 H0.out HV.out HO.out hY hZ (by rw[HT.out];exact hz) 0
   have ck:=zac hY
   have hlt:some w1.heap.size≠v.ownBlock:=λe=>by have:=((zcj ck HO.out).lt _ e.symm).1;omega
   have hcell:=hZ.cell (ck.cell HV.out) hlt
   have hfr:Z.frozen? ⟨w1.heap.size,0,none⟩=false:=by
    rw[World.frozen?_of_block (a:=⟨w1.heap.size,0,none⟩) (hZ.block _ (zbe (ck.cell HV.out)) hlt)];exact ck.frozen HV.out H0.out.fr
   have:=hC' (Z.setCell ⟨w1.heap.size,0,none⟩ b.2) ⟨λk=>(by have k':f 17=false:=k;rw[h17] at k';cases k'),λk=>(by have k':f 17=false:=k;rw[h17] at k';cases k'),λ_=>⟨Y,Z,hY,hZ,hz,rfl⟩⟩
   obtain⟨q,m,c,e2⟩:∃q m c,b.2=.slice q m c:=by
    rcases hz.2 with⟨e,_⟩|⟨g,cp,cur,e,_⟩<;>exact⟨_,_,_,e⟩
   rw[e2] at this
   clear hst
   go_simp
   exact this) ?_
  try simp only[Act.put]
  refine ze1 λf X hf h=>?_
  obtain⟨Y,Z,hY,hZ,hz,rfl⟩:=h.post (hf 17 (by decide))
  rw[if_pos (hf 18 (by decide))]
  have hst:=zo9 H0.out HV.out HO.out hY hZ (by rw[HT.out];exact hz) W1.heap.size
  exact hst
 case done=>
  rintro D W hD hS hK
  obtain⟨v,hv,hown⟩:=hS.box
  obtain⟨q,c,rfl⟩:∃q c,v=.slice q n c:=by
   rcases hown.2 with⟨_,e⟩|⟨g,cp,cur,e,_⟩
   ·omega
   ·exact⟨_,_,e⟩
  have hrow:RowNums q l.length (zbh l) W:=by
   intro i hi
   obtain⟨q',cap',e,_,hc⟩:=Sl.of_own hown
   have e1:=(Value.slice.inj e).1
   subst e1
   exact hc i _ (by unfold zf4;rw[List.getElem?_map,List.getElem?_range (by rw[HN.out];exact hi)];rfl)
  have hwd:=HW.out.below hS.bel
  have hsm:=SM.out q c W hwd hrow
  rw[<-HN.out] at hsm
  have HSM:=hid hsm
  have HX:=hid (⟨hS.bel,hK⟩:zB w.heap.size w W/\W.heap[D]? =some (.deferred (some [])))
  have hdv:=DV.out;rw[<-HN.out] at hdv
  have HDV:=hid hdv
  clear hS hK hown hrow hwd hsm hdv hseq hS1 M1 M2 SB SM DV
  gi_wp2
  refine⟨trivial,(callsIn_wide.2 HSM.out).mono ?_⟩
  rintro e W2 ⟨rfl,hb2⟩
  have hbl2:=HX.out.1.trans (hb2.mono HX.out.1.size)
  have HX2:=hid (⟨hbl2,(hb2.block _ (Array.getElem?_eq_some_iff.1 HX.out.2).1).trans HX.out.2⟩:zB w.heap.size w W2/\W2.heap[D]? =some (.deferred (some [])))
  clear hb2 hbl2 HX HSM
  gi_wp2
  refine⟨trivial,(callsIn_wide.2 (HDV.out W2 (HW.out.below HX2.out.1))).mono ?_⟩
  rintro e W3 ⟨rfl,hb3⟩
  have hbl3:=HX2.out.1.trans (hb3.mono HX2.out.1.size)
  have HX3:=hid (⟨hbl3,(hb3.block _ (Array.getElem?_eq_some_iff.1 HX2.out.2).1).trans HX2.out.2⟩:zB w.heap.size w W3/\W3.heap[D]? =some (.deferred (some [])))
  clear hb3 hbl3 HX2
  gi_wp2
  refine⟨by simp,.inl ⟨_,_,rfl,run_takeDeferred HX3.out.2,?_⟩⟩
  refine⟨.tuple #[St (numS r),.int .i64 0],by simp[results,Tryz.f16,go_sem],⟨rfl,zby HX3.out.1 (by have:=HS1.out;omega) HX3.out.2⟩⟩
 case stop=>
  rintro D c j W hD h hK
  exact h.elim
theorem zzk:numS 2=[50]:=by
 have:numS ((2:Int):Rat)=[50]:=by rw[zha];show itoa ((2:Nat):Int)=_;rw[Str.zad,zae (by omega)];rfl
 exact this
theorem zw8:sz 2 1:=⟨by decide,by decide⟩
theorem zt5 (p:Option Addr) (cap:Nat) (l:List Pt) (h3:3<=l.length) (hlen:l.length<=4096) (hz:∀i,szP (cor l i) 36) (hs:zch l) (hm:zbz l)
 (ht:∀k,k<l.length->∃i j,0<i/\0<j/\i+j<300/\sz (psum (zbh l) k) i/\sz (zbh l k) j) (m:Nat) (hm0:0<m) (hm1:m+1<=300) (hmz:sz (psum (zbh l) l.length) m)
 (w:zA) (hw:Wd w) (hp:RowPts p l w):
 qJ 16 #[.slice p l.length cap] w (.tuple #[St (numS (psum (zbh l) l.length/2)),.int .i64 0]):=by
 refine zw7 p cap l h3 hlen _ (hid λW hW hp=>zj5 p cap l h3 hlen hz hs hm W hW hp)
  (hid λk _ W hW=>zhm _ _ 36 36 (by omega) (by omega) (by omega) (hz _).1 (hz _).2 W hW) (hid λk _ W hW=>zhm _ _ 36 36 (by omega) (by omega) (by omega) (hz _).1 (hz _).2 W hW)
  (hid λk _ W hW=>zgg _ _ 72 72 (by omega) (by omega) (by omega) (zca (hz _).1 (hz _).2) (zca (hz _).1 (hz _).2) W hW)
  (hid λp cap W hW hp=>z23 p cap l.length (zbh l) hlen ht W hW hp) (hid λW hW=>?_) w (hid hw) (hid hp)
 have:=zoj (psum (zbh l) l.length) 2 (by decide) m 1 hm0 (by omega) hm1 hmz zw8 W hW
 rwa [zzk] at this
end
section
open Go.RowKit Go.Shelf Lib Str Limb Geo
def zos (p:Nat->Nat):Nat->Nat
 |0=>1
 |k+1=>zos p k*p k
theorem zxa {p:Nat->Nat} {i:Nat}:∀{n:Nat},i<n->∃c,zos p n=p i*c
 |0,h=>absurd h (by omega)
 |n+1,h=>by
  by_cases e:i=n
  ·subst e;exact⟨zos p i,yP _ _⟩
  ·obtain⟨c,hc⟩:=zxa (p:=p) (i:=i) (n:=n) (by omega)
   exact⟨c*p n,by show zos p n*p n=_;rw[hc,Nat.mul_assoc]⟩
theorem z9n {p:Nat->Nat} {i j:Nat} (hij:i≠j):∀{n:Nat},i<n->j<n->∃c,zos p n=p i*p j*c
 |0,h,_=>absurd h (by omega)
 |n+1,hi,hj=>by
  by_cases e:i=n
  ·subst e
   obtain⟨c,hc⟩:=zxa (p:=p) (i:=j) (n:=i) (by omega)
   exact⟨c,by show zos p i*p i=_;rw[hc,yP,Nat.mul_assoc]⟩
  ·by_cases e2:j=n
   ·subst e2
    obtain⟨c,hc⟩:=zxa (p:=p) (i:=i) (n:=j) (by omega)
    exact⟨c,by show zos p j*p j=_;rw[hc,Nat.mul_assoc,Nat.mul_assoc,yP c]⟩
   ·obtain⟨c,hc⟩:=z9n hij (n:=n) (by omega) (by omega)
    exact⟨c*p n,by show zos p n*p n=_;rw[hc,Nat.mul_assoc]⟩
theorem z95 {p:Nat->Nat} {b:Nat} (hb:0<b):∀{n:Nat},(∀k,k<n->p k<b)->zos p n<=b^n
 |0,_=>by show 1<=1;omega
 |n+1,h=>by
  have ih:=z95 hb (n:=n) λk hk=>h k (by omega)
  have:=h n (by omega)
  show zos p n*p n<=_
  rw[Nat.pow_succ]
  exact Nat.mul_le_mul ih (by omega)
theorem z9o {p:Nat->Nat}:∀{n:Nat},(∀k,k<n->0<p k)->0<zos p n
 |0,_=>by show 0<1;omega
 |n+1,h=>Nat.mul_pos (z9o (n:=n) λk hk=>h k (by omega)) (h n (by omega))
def szC (p:Pt):Prop:=szP p 12/\p.x.den<10^10/\p.y.den<10^10
def allD (l:List Pt):Nat:=zos (λj=>(cor l j).x.den*(cor l j).y.den) l.length
theorem ycj (l:List Pt):0<allD l:=z9o λ_ _=>Nat.mul_pos (Rat.den_pos _) (Rat.den_pos _)
theorem yc4 {l:List Pt} (h0:0<l.length) (h:l.length<=10) (hz:∀p∈l,szC p):allD l<=10^200:=by
 have h1:allD l<=(10^20)^l.length:=z95 (by decide) λk hk=>by
  have hp:=hz (cor l k) (by rw[z3r hk];exact zY _)
  have:=Nat.mul_le_mul (zT hp.2.1) (zT hp.2.2)
  have e:(10:Nat)^10*10^10=10^20:=by decide
  have l1:=hp.2.1
  have l2:(cor l k).x.den*(cor l k).y.den<10^10*10^10:=Nat.lt_of_le_of_lt (Nat.mul_le_mul (zT hp.2.1) (zN _)) (Nat.mul_lt_mul_of_pos_left hp.2.2 (by decide))
  rw[e] at l2;exact l2
 refine Nat.le_trans h1 ?_
 rw[<-Nat.pow_mul]
 exact Nat.pow_le_pow_right (by decide) (by omega)
theorem z0r {a b c:Int} {A B C:Nat} (ha:a.natAbs<=A) (hb:b.natAbs<=B) (hc:c.natAbs<=C):(a*b*c).natAbs<=A*B*C:=by
 rw[Int.natAbs_mul,Int.natAbs_mul]
 exact Nat.mul_le_mul (Nat.mul_le_mul ha hb) hc
theorem zzn (q:Rat):q*(q.den:Rat)=(q.num:Rat):=by
 have h:=Rat.num_divInt_den q
 have hne:((q.den:Int):Rat)≠0:=by
  intro k
  have:(q.den:Int)=0:=Rat.intCast_inj.1 (k.trans (by simp))
  have:=q.den_nz;omega
 rw[Rat.divInt_eq_div] at h
 have:=Rat.div_mul_cancel (a:=(q.num:Rat)) hne
 rw[h,Rat.intCast_natCast] at this
 exact this
theorem yck {l:List Pt} (h3:3<=l.length) (hz:∀p∈l,szC p) {k:Nat} (hk:k<l.length):∃z:Int,zbh l k*(allD l:Rat)=(z:Rat)/\z.natAbs<=2*10^24*allD l:=by
 obtain⟨j,hj,hjk,ej⟩:∃j,j<l.length/\k≠j/\cor l (k+1)=cor l j:=by
  by_cases c:k+1=l.length
  ·exact⟨0,by omega,by omega,by rw[c];exact zrg l⟩
  ·exact⟨k+1,by omega,by omega,rfl⟩
 obtain⟨c,hc⟩:=z9n (p:=λj=>(cor l j).x.den*(cor l j).y.den) hjk hk hj
 have hD:allD l=(cor l k).x.den*(cor l k).y.den*((cor l j).x.den*(cor l j).y.den)*c:=hc
 have hp:=hz (cor l k) (by rw[z3r hk];exact zY _)
 have hq:=hz (cor l j) (by rw[z3r hj];exact zY _)
 unfold zbh
 rw[ej]
 generalize cor l k=p at*
 generalize cor l j=q at*
 have e1:=zzn p.x;have e2:=zzn p.y;have e3:=zzn q.x;have e4:=zzn q.y
 refine⟨p.x.num*q.y.num*((p.y.den*q.x.den*c:Nat):Int)-q.x.num*p.y.num*((p.x.den*q.y.den*c:Nat):Int),?_,?_⟩
 ·have eD:(allD l:Rat)=(p.x.den:Rat)*p.y.den*(q.x.den*q.y.den)*c:=by rw[hD];simp[Rat.natCast_mul]
  rw[eD,Rat.intCast_sub,Rat.intCast_mul,Rat.intCast_mul,Rat.intCast_mul,Rat.intCast_mul,<-e1,<-e2,<-e3,<-e4]
  have f1:(((p.y.den*q.x.den*c:Nat):Int):Rat)=(p.y.den:Rat)*q.x.den*c:=by rw[Rat.intCast_natCast];simp[Rat.natCast_mul]
  have f2:(((p.x.den*q.y.den*c:Nat):Int):Rat)=(p.x.den:Rat)*q.y.den*c:=by rw[Rat.intCast_natCast];simp[Rat.natCast_mul]
  rw[f1,f2]
  grind
 ·have b1:p.y.den*q.x.den*c<=allD l:=by
   rw[hD]
   have:p.x.den*p.y.den*(q.x.den*q.y.den)*c=(p.y.den*q.x.den*c)*(p.x.den*q.y.den):=by simp only[yP,Nat.mul_left_comm]
   rw[this];exact Nat.le_mul_of_pos_right _ (Nat.mul_pos (Rat.den_pos _) (Rat.den_pos _))
  have b2:p.x.den*q.y.den*c<=allD l:=by
   rw[hD]
   have:p.x.den*p.y.den*(q.x.den*q.y.den)*c=(p.x.den*q.y.den*c)*(p.y.den*q.x.den):=by simp only[yP,Nat.mul_left_comm]
   rw[this];exact Nat.le_mul_of_pos_right _ (Nat.mul_pos (Rat.den_pos _) (Rat.den_pos _))
  have a1:=z0r (zT hp.1.1.1) (zT hq.1.2.1) (c:=((p.y.den*q.x.den*c:Nat):Int)) (C:=allD l) (by rw[Int.natAbs_natCast];exact b1)
  have a2:=z0r (zT hq.1.1.1) (zT hp.1.2.1) (c:=((p.x.den*q.y.den*c:Nat):Int)) (C:=allD l) (by rw[Int.natAbs_natCast];exact b2)
  have e24:(10:Nat)^12*10^12=10^24:=by decide
  rw[e24] at a1 a2
  have:=Int.natAbs_sub_le (p.x.num*q.y.num*((p.y.den*q.x.den*c:Nat):Int)) (q.x.num*p.y.num*((p.x.den*q.y.den*c:Nat):Int))
  rw[Nat.mul_assoc 2]
  omega
theorem z96 {l:List Pt} (h3:3<=l.length) (hz:∀p∈l,szC p):∀{k:Nat},k<=l.length->∃z:Int,psum (zbh l) k*(allD l:Rat)=(z:Rat)/\z.natAbs<=k*(2*10^24*allD l)
 |0,_=>⟨0,by show(0:Rat)*_=_;simp,by simp⟩
 |k+1,hk=>by
  obtain⟨z,e,b⟩:=z96 h3 hz (k:=k) (by omega)
  obtain⟨y,e',b'⟩:=yck h3 hz (k:=k) (by omega)
  refine⟨z+y,?_,?_⟩
  ·show(psum (zbh l) k+zbh l k)*(allD l:Rat)=_
   rw[Rat.add_mul,e,e',Rat.intCast_add]
  ·have:=Int.natAbs_add_le z y
   rw[Nat.succ_mul];omega
theorem ya6 {l:List Pt} (h3:3<=l.length) (h10:l.length<=10) (hz:∀p∈l,szC p) {k:Nat} (hk:k<=l.length):sz (psum (zbh l) k) 226:=by
 obtain⟨z,e,b⟩:=z96 h3 hz hk
 have hD:=ycj l
 have hD2:=yc4 (by omega) h10 hz
 have hne:((allD l:Nat):Rat)≠0:=by
  intro k
  have:(allD l:Nat)=0:=by exact_mod_cast k
  omega
 have e2:psum (zbh l) k=Rat.divInt z (allD l:Int):=by
  rw[Rat.divInt_eq_div,<-e,Rat.intCast_natCast]
  rw[Rat.mul_div_cancel hne]
 rw[e2]
 refine zig (by omega) ?_ ?_
 ·have:k*(2*10^24*allD l)<=10*(2*10^24*10^200):=Nat.mul_le_mul (by omega) (Nat.mul_le_mul (zN _) hD2)
  have e3:10*(2*10^24*10^200)<10^226:=by decide+kernel
  omega
 ·rw[Int.natAbs_natCast]
  exact Nat.lt_of_le_of_lt hD2 (by decide+kernel)
end
section
open Go.RowKit Lib Str Limb
theorem zeb (p:Option Addr) (n cap:Nat) (l:List Nat) (w:zA) (h:Sl w (.slice p n cap) (l.map I)) (hl:l.length<=3000):
 Calls zF 199 #[.slice p n cap] w λe w'=>e=.returned (.slice p (zat l).length cap)/\w=w':=by
 rcases h.cases with⟨h0,p',cap',e⟩|⟨h0,b,off,cap',e,hcap,hb,hc⟩
 ·have:l=[]:=by simpa using h0
  subst this
  simp only[Value.slice.injEq] at e
  obtain⟨rfl,rfl,rfl⟩:=e
  go_enter Tryz.func199,Tryz.ntmps199
  go_wp2
  go_loop [3] (λs=>s=.int .i64 0) (λ_=>0)
  case atStart=>rfl
  case round=>
   subst hrel
   go_wp2
   go_ret
   exact⟨rfl,rfl⟩
 ·rw[zV] at hcap e
  simp only[Value.slice.injEq] at e
  obtain⟨rfl,rfl,rfl⟩:=e
  have HC:=hid hc;clear hc h
  go_enter Tryz.func199,Tryz.ntmps199
  go_wp2
  go_loop [3] (λs=>∃k:Nat,k<=l.length/\s=.int .i64 k/\Hid (zat (l.take k)=zat l)) (λs=>(zL s).toNat)
  case atStart=>exact⟨l.length,zN _,rfl,by show zat (l.take l.length)=_;rw[List.take_length]⟩
  case round=>
   obtain⟨k,hk,rfl,ht⟩:=hrel
   rcases Nat.eq_zero_or_pos k with rfl|hp
   ·have e:(zat l).length=0:=by rw[<-ht.out];simp[zou]
    have E:=hid e;clear e
    go_wp2
    go_ret
    exact⟨by rw[E.out];rfl,rfl⟩
   ·obtain⟨m,rfl⟩:∃m,k=m+1:=⟨k-1,by omega⟩
    have hm:m<l.length:=by omega
    have hx:l[m]? =some l[m]:=by simp[hm]
    have hcell:=HC.out m (I l[m]) (by simp[hm])
    have hsn:zat (l.take (m+1))=zat (l.take m++[l[m]]):=by rw[List.take_succ_eq_append_getElem hm]
    by_cases hz:l[m]=0
    ·rw[hz] at hcell hsn
     have HS:Hid (zat (l.take m)=zat l):=by rw[<-ht.out,hsn,zew];rfl
     clear hsn hx hz ht
     go_wp2
     go_round
     case rel=>exact⟨m,by omega,by go_num,HS⟩
     case measure=>simp[zL]
    ·have HS:Hid ((zat l).length=m+1):=by
      rw[<-ht.out,hsn,zhs _ hz];show(l.take m++[l[m]]).length=m+1
      simp;omega
     have hz':(((l[m]:Nat):Int)==0)=false:=by rw[beq_eq_false_iff_ne];omega
     clear hsn hx ht
     go_wp2
     go_ret
     exact⟨by rw[HS.out];rfl,rfl⟩
theorem zgz (v:Value) (l:List Nat) (i:Nat) (w:zA) (h:Sl w v (l.map I)) (hl:l.length<=3000):
 Calls zF 201 #[v,I i] w λe w'=>e=.returned (I (l[i]?.getD 0))/\w=w':=by
 by_cases hi:i<l.length
 ·rcases h.cases with⟨h0,p,cap,rfl⟩|⟨h0,b,off,cap,rfl,hcap,hb,hc⟩
  ·have:l=[]:=by simpa using h0
   subst this;simp at hi
  ·have hcell:=hc i (I (l[i]?.getD 0)) (by simp[hi])
   clear hc h
   rw[zV]
   generalize l[i]?.getD 0=x at*
   go_enter Tryz.func201,Tryz.ntmps201
   go_wp2
   go_ret
   exact⟨rfl,rfl⟩
 ·have:l[i]?.getD 0=0:=by rw[List.getElem?_eq_none (by omega)];rfl
  rw[this]
  obtain⟨p,cap,rfl,hcap,_⟩:=h
  rw[zV]
  go_enter Tryz.func201,Tryz.ntmps201
  go_wp2
  go_ret
  exact⟨rfl,rfl⟩
def B6:Nat:=1000000
theorem zh4 {w:zA} {base k:Nat} {p:Option Addr} {n c:Nat} {o:List Nat} (h:w.ownsRow base 3 1 (.slice p n c) k (o.map I)) (hk:o.length=k):
 w.ownsRow base 3 1 (.slice p (zat o).length c) (zat o).length ((zat o).map I):=zeq (v:=.slice p n c) h hk
theorem zg0 {w:zA} {base:Nat} {t:TypeId} {s:Nat} {v:Value} {n:Nat} {xs:List Value} (h:w.ownsRow base t s v n xs):∃p m c,v=.slice p m c:=by
 rcases h.2 with⟨e,_⟩|⟨g,cp,cur,e,_⟩<;>exact⟨_,_,_,e⟩
theorem z3h (c:Nat) (h:c<=1):(0+0+c)/B6=0:=by unfold B6;omega
theorem zxb (va vb:Value) (a b:List Nat) (w:zA) (ha:Sl w va (a.map I)) (hb:Sl w vb (b.map I)) (sa:zal B6 a) (sb:zal B6 b) (la:a.length<=1000) (lb:b.length<=1000):
 Calls zF 254 #[va,vb] w (zht w (zaa B6 (valL B6 a+valL B6 b))):=by
 rw[<-zov (B:=B6) (by decide) sa sb]
 obtain⟨i0,hi,hz0,hz1,hz2⟩:=info_parts zdv
 have ha':=ha;have hb':=hb
 obtain⟨pa,ca,rfl,hca,hcella⟩:=ha
 obtain⟨pb,cb,rfl,hcb,hcellb⟩:=hb
 have HA:=hid ha';clear ha' hcella hca
 have HB:=hid hb';clear hb' hcellb hcb
 have SA:=hid sa;clear sa
 have SB:=hid sb;clear sb
 simp only[zV] at*
 obtain⟨M,hM⟩:∃M,M=max a.length b.length:=⟨_,rfl⟩
 rw[<-hM]
 have hM2:M<=1000:=by omega
 have hMa:∀k:Nat,(k<M↔(k<a.length\/k<b.length)):=λk=>by omega
 have HM:=hid hMa
 clear hM hMa
 go_enter Tryz.func254,Tryz.ntmps254
 go_wp2
 go_loopw [5,6,7] (λv c i wr=>∃k:Nat,k<=M+1/\i=.int .i64 k/\c=I (zaq (za6 B6) a b k).2/\wr.ownsRow w.heap.size 3 1 v k ((zaq (za6 B6) a b k).1.map I)/\zB w.heap.size w wr/\(k=M+1->(zaq (za6 B6) a b k).2=0))
  (λ_ _ i _=>M+1-(zL i).toNat)
 case atStart=>exact⟨0,zR _,rfl,rfl,World.ownsRow_made w #[] 0 (zN _) (by unfold maxLen;omega) rfl,(zM _ w).alloc (zN _) _,λh=>by omega⟩
 case round=>
  obtain⟨k,hk,rfl,rfl,hown,hB,hend⟩:=hrel
  obtain⟨p1,p2,p3⟩:=zna (B:=B6) (by decide) SA.out SB.out k
  by_cases hlt:k<a.length\/k<b.length\/0<(zaq (za6 B6) a b k).2
  ·have hkM:k<M+1:=by
    rcases hlt with h|h|h
    ·have:=(HM.out k).2 (.inl h);omega
    ·have:=(HM.out k).2 (.inr h);omega
    ·rcases Nat.lt_or_ge k (M+1) with h'|h'
     ·exact h'
     ·rw[hend (by omega)] at h;omega
   have hx:=zaj SA.out (by decide) k
   have hy:=zaj SB.out (by decide) k
   have hst:zaq (za6 B6) a b (k+1)=((zaq (za6 B6) a b k).1++[(za6 B6 (a[k]?.getD 0) (b[k]?.getD 0) (zaq (za6 B6) a b k).2).1],(za6 B6 (a[k]?.getD 0) (b[k]?.getD 0) (zaq (za6 B6) a b k).2).2):=rfl
   have hz:k=M->(zaq (za6 B6) a b (k+1)).2=0:=λe=>by
    have ha0:a[k]?.getD 0=0:=by rw[List.getElem?_eq_none (by have:=HM.out k;omega)];rfl
    have hb0:b[k]?.getD 0=0:=by rw[List.getElem?_eq_none (by have:=HM.out k;omega)];rfl
    rw[hst,ha0,hb0]
    exact z3h _ p2
   have HST:=hid hst;clear hst p1 p3 hend
   have HZ:=hid hz;clear hz
   generalize (zaq (za6 B6) a b k).1=o at*
   generalize (zaq (za6 B6) a b k).2=c at*
   have hx':a[k]?.getD 0<1000000:=hx
   have hy':b[k]?.getD 0<1000000:=hy
   clear hx hy
   have E1:∀x y:Nat,(Value.int .i64 (((x:Int)+y+c)%1000000))=I (za6 B6 x y c).1:=λx y=>by simp[I,za6,B6]
   have hE1:=hid E1;clear E1
   have HOWN:=hid hown;clear hown
   have LA:=hid λ(W:zA) (h:zB w.heap.size w W)=>zgz _ a k W (HA.out.below h) (by omega)
   have LB:=hid λ(W:zA) (h:zB w.heap.size w W)=>zgz _ b k W (HB.out.below h) (by omega)
   generalize a[k]?.getD 0=x at*
   generalize b[k]?.getD 0=y at*
   have h3:k<a.length\/(¬k<a.length/\k<b.length)\/(¬k<a.length/\¬k<b.length/\0<c):=by omega
   clear hlt
   rcases h3 with h1|⟨h1,h2⟩|⟨h1,h2,h4⟩<;>(
    go_wp2_with fail
    refine(LA.out wr hB).mono ?_
    rintro e w1 ⟨rfl,rfl⟩
    go_wp2_with fail
    refine(LB.out wr hB).mono ?_
    rintro e w1 ⟨rfl,rfl⟩
    go_wp2_with (at_builtin;refine wpList_append_own _ rfl _ _ 107 rfl w.heap.size 3 i0 (.int .i64 0) 1 8 Tryz.underlying107 hi hz0 hz1 hz2 rfl (by decide) _ _ _ rfl (HOWN.out.alloc _) ⟨wr.heap.size,0,none⟩ 1 1 [.int .i64 (((x:Int)+y+c)%1000000)] rfl rfl (zep _ _ _) (zfn _) (by unfold maxLen;omega) (by omega) (by have:=hB.size;simp;omega) ?_)
    intro v' w1 hown' hgrow _
    have hB1:zB w.heap.size w w1:=(hB.alloc hB.size _).grown hgrow (by have:=hB.size;simp;omega) (λq e=>(HOWN.out.lt q e).1)
    rw[hE1.out] at hown'
    clear hgrow hB HOWN
    go_wp2
    go_roundw
    case rel=>exact⟨k+1,by omega,by go_num,by rw[HST.out];simp[I,za6,B6],by rw[HST.out];simpa using hown',hB1,λe=>HZ.out (by omega)⟩
    case measure=>simp[zL];omega)
  ·have h1:¬k<a.length:=λh=>hlt (.inl h)
   have h2:¬k<b.length:=λh=>hlt (.inr (.inl h))
   have h3:(zaq (za6 B6) a b k).2=0:=by have:=λh=>hlt (.inr (.inr h));omega
   have hl:(zaq (za6 B6) a b k).1.length=k:=zdk _ _ _ _
   have hres:zat (zaq (za6 B6) a b k).1=zat (zaq (za6 B6) a b (M+1)).1:=by
    have hkM:M<=k:=by have:=HM.out k;omega
    rcases Nat.lt_or_ge k (M+1) with h|h
    ·obtain rfl:k=M:=by omega
     show _=zat ((zaq (za6 B6) a b k).1++[(za6 B6 (a[k]?.getD 0) (b[k]?.getD 0) (zaq (za6 B6) a b k).2).1])
     rw[List.getElem?_eq_none (by omega),List.getElem?_eq_none (by omega),h3]
     exact(zew _).symm
    ·obtain rfl:k=M+1:=by omega
     rfl
   have HR:=hid hres;clear hres
   obtain⟨o,ho⟩:∃o,o=(zaq (za6 B6) a b k).1:=⟨_,rfl⟩
   rw[<-ho] at hown hl
   have HO:=hid ho;clear ho
   have HL:=hid hl;clear hl p1 p2 p3 hend hlt
   rw[h3] at*
   obtain⟨vp,vm,vc,rfl⟩:=zg0 hown
   have HOWN:=hid hown;clear hown
   go_wp2_with fail
   refine(zeb _ _ _ o wr (Sl.of_own HOWN.out) (by rw[HL.out];omega)).mono ?_
   rintro e w1 ⟨rfl,rfl⟩
   go_wp2_with fail
   go_ret
   have hown':=zh4 HOWN.out HL.out
   rw[<-HO.out] at HR
   rw[HR.out] at hown'
   exact⟨_,rfl,by rw[HR.out];exact hown',hB⟩
end
section
theorem zzD {B:Nat} {a w:zA} (h:RowKit.Below B a w) (n:Nat):RowKit.Below B a (w.drewN n):=⟨h.os,h.tape,h.output,h.size,h.block⟩
open Go.RowKit Lib Str Limb
def zua (w:zA) (l:List Nat) (e:Ending) (w':zA):Prop:=
 ∃g c,e=.returned (.slice (some ⟨g,0,none⟩) l.length c)/\w'.ownsRow w.heap.size 3 1 (.slice (some ⟨g,0,none⟩) l.length c) l.length (l.map I)/\zB w.heap.size w w'
theorem zrr {w:zA} {base:Nat} {t:TypeId} {s:Nat} {v:Value} {n:Nat} {xs:List Value} (h:w.ownsRow base t s v n xs) (hne:v≠ .slice none 0 0):∃g c,v=.slice (some ⟨g,0,none⟩) n c:=by
 rcases h.2 with⟨e,_⟩|⟨g,cp,cur,e,_⟩
 ·exact absurd e hne
 ·exact⟨_,_,e⟩
theorem zix (va vb:Value) (a b:List Nat) (w:zA) (ha:Sl w va (a.map I)) (hb:Sl w vb (b.map I)) (sa:zal B6 a) (sb:zal B6 b) (la:a.length<=1000) (hba:b.length<=a.length) (hle:valL B6 b<=valL B6 a):
 Calls zF 202 #[va,vb] w (zua w (zaa B6 (valL B6 a-valL B6 b))):=by
 rw[<-znb (B:=B6) (by decide) sa sb hle a.length (zN _) hba]
 obtain⟨i0,hi,hz0,hz1,hz2⟩:=info_parts zdv
 have ha':=ha;have hb':=hb
 obtain⟨pa,ca,rfl,hca,hcella⟩:=ha
 obtain⟨pb,cb,rfl,hcb,hcellb⟩:=hb
 have HA:=hid ha';clear ha' hcella hca
 have HB:=hid hb';clear hb' hcellb hcb hle
 have SA:=hid sa;clear sa
 have SB:=hid sb;clear sb
 simp only[zV] at*
 go_enter Tryz.func202,Tryz.ntmps202
 go_wp2
 go_loopw [5,6,7] (λv c i wr=>∃k:Nat,k<=a.length/\i=.int .i64 k/\c=I (zaq (za1 B6) a b k).2/\wr.ownsRow w.heap.size 3 1 v k ((zaq (za1 B6) a b k).1.map I)/\zB w.heap.size w wr/\v≠ .slice none 0 0)
  (λ_ _ i _=>a.length-(zL i).toNat)
 case atStart=>exact⟨0,zR _,rfl,rfl,World.ownsRow_made w #[] 0 (zN _) (by unfold maxLen;omega) rfl,(zM _ w).alloc (zN _) _,λh=>by cases h⟩
 case round=>
  obtain⟨k,hk,rfl,rfl,hown,hB,hne⟩:=hrel
  have HNE:=hid hne;clear hne
  obtain⟨p1,p2,p3⟩:=zlo (B:=B6) (by decide) SA.out SB.out k
  by_cases hlt:k<a.length
  ·obtain⟨ba,offa,rfl,hba',hcapa,hcx⟩:=(HA.out.below hB).at hlt
   have hx:=zaj SA.out (by decide) k
   have hy:=zaj SB.out (by decide) k
   have hst:zaq (za1 B6) a b (k+1)=((zaq (za1 B6) a b k).1++[(za1 B6 (a[k]?.getD 0) (b[k]?.getD 0) (zaq (za1 B6) a b k).2).1],(za1 B6 (a[k]?.getD 0) (b[k]?.getD 0) (zaq (za1 B6) a b k).2).2):=rfl
   have HST:=hid hst;clear hst p1 p3
   generalize (zaq (za1 B6) a b k).1=o at*
   generalize (zaq (za1 B6) a b k).2=c at*
   have hx':a[k]?.getD 0<1000000:=hx
   have hy':b[k]?.getD 0<1000000:=hy
   clear hx hy
   have HOWN:=hid hown;clear hown
   have LB:=hid λ(W:zA) (h:zB w.heap.size w W)=>zgz _ b k W (HB.out.below h) (by omega)
   generalize a[k]?.getD 0=x at*
   generalize b[k]?.getD 0=y at*
   have e1:IntKind.i64.wrap ((x:Int)-y)=(x:Int)-y:=zI _ (by omega)
   have e2:IntKind.i64.wrap ((x:Int)-y-c)=(x:Int)-y-c:=zI _ (by omega)
   have fin:∀(v':Value) (w1:zA) (z:Int) (W:zA),zB w.heap.size w W->W.ownsRow w.heap.size 3 1 v' (k+1) (o.map I++[.int .i64 z])->True:=λ_ _ _ _ _ _=>trivial
   clear fin
   by_cases hge:y+c<=x
   ·have hE:Hid (Value.int .i64 ((x:Int)-y-c)=I (za1 B6 x y c).1/\(za1 B6 x y c).2=0):=hid (by
     have e:za1 B6 x y c=(x-y-c,0):=by unfold za1;rw[if_pos hge]
     rw[e];exact⟨by show Value.int .i64 _=Value.int .i64 _;congr 1;omega,rfl⟩)
    have hn:¬(x:Int)-y-c<0:=by omega
    go_wp2
    go_quiet ((go_at_call 201;exact Calls.quiet_of_same (zi5 (LB.out _ (hB.trans (zzD (zM _ _) _))))))
    clear e1 e2
    have hB2:zB w.heap.size w (wr.drewN nq):=zzD hB _
    have HOWN2:=hid (show(wr.drewN nq).ownsRow w.heap.size 3 1 _ k (o.map I) from HOWN.out)
    clear HOWN hcx hB hba'
    go_wp2_with (at_builtin;refine wpList_append_own _ rfl _ _ 107 rfl w.heap.size 3 i0 (.int .i64 0) 1 8 Tryz.underlying107 hi hz0 hz1 hz2 rfl (by decide) _ _ _ rfl (HOWN2.out.alloc _) ⟨wr.heap.size,0,none⟩ 1 1 [.int .i64 ((x:Int)-y-c)] rfl rfl (zep _ _ _) (zfn _) (by unfold maxLen;omega) (by omega) (by have:=hB2.size;simp at this⊢;omega) ?_)
    intro v' w1 hown' hgrow hnn
    have HNN:=hid (show v'≠ .slice none 0 0 from hnn);clear hnn
    have hB1:zB w.heap.size w w1:=(hB2.alloc hB2.size _).grown hgrow (by have:=hB2.size;simp at this⊢;omega) (λq e=>(HOWN2.out.lt q e).1)
    rw[hE.out.1] at hown'
    clear hgrow hB2 HOWN2
    go_wp2
    go_roundw
    case rel=>exact⟨k+1,by omega,by go_num,by rw[HST.out,hE.out.2];rfl,by rw[HST.out];simpa using hown',hB1,HNN.out⟩
    case measure=>simp[zL];omega
   ·have hE:Hid (Value.int .i64 ((x:Int)-y-c+1000000)=I (za1 B6 x y c).1/\(za1 B6 x y c).2=1):=hid (by
     have e:za1 B6 x y c=(x+B6-y-c,1):=by unfold za1;rw[if_neg hge]
     rw[e];exact⟨by show Value.int .i64 _=Value.int .i64 _;congr 1;unfold B6;omega,rfl⟩)
    have hn:(x:Int)-y-c<0:=by omega
    have e3:IntKind.i64.wrap ((x:Int)-y-c+1000000)=(x:Int)-y-c+1000000:=zI _ (by omega)
    go_wp2
    go_quiet ((go_at_call 201;exact Calls.quiet_of_same (zi5 (LB.out _ (hB.trans (zzD (zM _ _) _))))))
    clear e1 e2
    have hB2:zB w.heap.size w (wr.drewN nq):=zzD hB _
    have HOWN2:=hid (show(wr.drewN nq).ownsRow w.heap.size 3 1 _ k (o.map I) from HOWN.out)
    clear HOWN hcx hB hba'
    go_wp2_with (at_builtin;refine wpList_append_own _ rfl _ _ 107 rfl w.heap.size 3 i0 (.int .i64 0) 1 8 Tryz.underlying107 hi hz0 hz1 hz2 rfl (by decide) _ _ _ rfl (HOWN2.out.alloc _) ⟨wr.heap.size,0,none⟩ 1 1 [.int .i64 ((x:Int)-y-c+1000000)] rfl rfl (zep _ _ _) (zfn _) (by unfold maxLen;omega) (by omega) (by have:=hB2.size;simp at this⊢;omega) ?_)
    intro v' w1 hown' hgrow hnn
    have HNN:=hid (show v'≠ .slice none 0 0 from hnn);clear hnn
    have hB1:zB w.heap.size w w1:=(hB2.alloc hB2.size _).grown hgrow (by have:=hB2.size;simp at this⊢;omega) (λq e=>(HOWN2.out.lt q e).1)
    rw[hE.out.1] at hown'
    clear hgrow hB2 HOWN2 e3
    go_wp2
    go_roundw
    case rel=>exact⟨k+1,by omega,by go_num,by rw[HST.out,hE.out.2];rfl,by rw[HST.out];simpa using hown',hB1,HNN.out⟩
    case measure=>simp[zL];omega
  ·obtain rfl:k=a.length:=by omega
   have hl:(zaq (za1 B6) a b a.length).1.length=a.length:=zdk _ _ _ _
   obtain⟨o,ho⟩:∃o,o=(zaq (za1 B6) a b a.length).1:=⟨_,rfl⟩
   rw[<-ho] at hown hl
   have HO:=hid ho
   have HL:=hid hl;clear hl p1 p2 p3
   obtain⟨vg,vc,rfl⟩:=zrr hown HNE.out
   have HOWN:=hid hown;clear hown ho
   go_wp2_with fail
   refine(zeb _ _ _ o wr (Sl.of_own HOWN.out) (by rw[HL.out];omega)).mono ?_
   rintro e w1 ⟨rfl,rfl⟩
   go_wp2_with fail
   go_ret
   rw[<-HO.out]
   exact⟨_,_,rfl,zh4 HOWN.out HL.out,hB⟩
theorem znw (va vb:Value) (a b:List Nat) (w:zA) (ha:Sl w va (a.map I)) (hb:Sl w vb (b.map I)) (sa:zal B6 a) (sb:zal B6 b) (la:a.length<=1000) (hba:b.length<=a.length) (hle:valL B6 b<=valL B6 a):
 Calls zF 202 #[va,vb] w (zht w (zaa B6 (valL B6 a-valL B6 b))):=
 (zix va vb a b w ha hb sa sb la hba hle).mono λ_ _ ⟨_,_,h1,h2,h3⟩=>⟨_,h1,h2,h3⟩
theorem zxc (m n:Nat) (hl:(zaa B6 m).length=(zaa B6 n).length) (k:Nat) (hk:k<(zaa B6 m).length) (h:∀i,k<i->i<(zaa B6 m).length->(zaa B6 m)[i]?.getD 0=(zaa B6 n)[i]?.getD 0):
 ((zaa B6 m)[k]?.getD 0<(zaa B6 n)[k]?.getD 0->m<n)/\((zaa B6 n)[k]?.getD 0<(zaa B6 m)[k]?.getD 0->n<m):=by
 have hB:2<=B6:=by decide
 have sa:=zak hB m
 have sb:=zak hB n
 have hd:=ztr hl k h
 constructor
 ·intro hlt
  have:=zem sa sb hl k hk hd hlt
  rwa [zam hB,zam hB] at this
 ·intro hgt
  have:=zem sb sa hl.symm k (by omega) hd.symm hgt
  rwa [zam hB,zam hB] at this
theorem z27 (m n:Nat) (hl:(zaa B6 m).length=(zaa B6 n).length) (h:∀i,i<(zaa B6 m).length->(zaa B6 m)[i]?.getD 0=(zaa B6 n)[i]?.getD 0):m=n:=by
 have hB:2<=B6:=by decide
 rw[<-zam hB m,zoa hl h,zam hB]
def ordN (m n:Nat):Int:=if m<n then-1 else if m=n then 0 else 1
theorem zlc (va vb:Value) (m n:Nat) (w:zA) (ha:Sl w va ((zaa B6 m).map I)) (hb:Sl w vb ((zaa B6 n).map I)) (la:(zaa B6 m).length<=1000) (_:(zaa B6 n).length<=1000):
 qJ 204 #[va,vb] w (.int .i64 (ordN m n)):=by
 have ha':=ha;have hb':=hb
 obtain⟨pa,ca,rfl,hca,hcella⟩:=ha
 obtain⟨pb,cb,rfl,hcb,hcellb⟩:=hb
 have HA:=hid ha';clear ha' hcella hca
 have HB:=hid hb';clear hb' hcellb hcb
 simp only[zV] at*
 have hlt':=zc2 (B:=B6) (by decide) (m:=m) (n:=n)
 have hgt':=zc2 (B:=B6) (by decide) (m:=n) (n:=m)
 have SA:=hid (zak (B:=B6) (by decide) m)
 have SB:=hid (zak (B:=B6) (by decide) n)
 by_cases hl:(zaa B6 m).length=(zaa B6 n).length
 ·have CP:=hid (zxc m n hl)
  have CE:=hid (z27 m n hl)
  rw[<-hl]
  clear hlt' hgt'
  have HL:=hid hl;clear hl
  generalize zaa B6 m=a at*
  generalize zaa B6 n=b at*
  go_enter Tryz.func204,Tryz.ntmps204
  go_wp2
  go_loopw [5] (λi wr=>∃k:Nat,k<=a.length/\i=.int .i64 ((k:Int)-1)/\(∀j,k<=j->j<a.length->a[j]?.getD 0=b[j]?.getD 0)/\zB w.heap.size w wr)
   (λi _=>(zL i+1).toNat)
  case atStart=>exact⟨a.length,zN _,rfl,λj h1 h2=>by omega,zM _ _⟩
  case round=>
   obtain⟨k,hk,rfl,hsame,hB⟩:=hrel
   rcases Nat.eq_zero_or_pos k with rfl|hp
   ·obtain rfl:m=n:=CE.out λi hi=>hsame i (zR _) hi
    clear hsame
    go_wp2
    go_ret
    exact⟨by unfold ordN;simp,hB⟩
   ·obtain⟨i,rfl⟩:∃i,k=i+1:=⟨k-1,by omega⟩
    have hi1:((i+1:Nat):Int)-1=(i:Int):=by omega
    rw[hi1]
    have hia:i<a.length:=by omega
    have hib:i<b.length:=by have:=HL.out;omega
    obtain⟨ba,offa,rfl,hba,hcapa,hcx⟩:=(HA.out.below hB).at hia
    obtain⟨bb,offb,rfl,hbb,hcapb,hcy⟩:=(HB.out.below hB).at hib
    have hcp:=CP.out i hia (λj h1 h2=>hsame j h1 h2)
    have hsn:a[i]?.getD 0=b[i]?.getD 0->∀j,i<=j->j<a.length->a[j]?.getD 0=b[j]?.getD 0:=λe j h1 h2=>by
     rcases Nat.lt_or_ge i j with h|h
     ·exact hsame j h h2
     ·obtain rfl:j=i:=by omega
      exact e
    have HS:=hid hsn;clear hsn hsame hi1
    have hx:=zaj SA.out (by decide) i
    have hy:=zaj SB.out (by decide) i
    have hx':a[i]?.getD 0<1000000:=hx
    have hy':b[i]?.getD 0<1000000:=hy
    clear hx hy
    have HLb:(a.length:Int)=b.length:=by have:=HL.out;omega
    have HB2:=hid hB
    generalize a[i]?.getD 0=x at*
    generalize b[i]?.getD 0=y at*
    rcases Nat.lt_trichotomy x y with hc|hc|hc
    ·have ho:ordN m n= -1:=by unfold ordN;rw[if_pos (hcp.1 hc)]
     have HO:=hid ho
     clear hcp HS ho
     go_wp2
     go_quiet (fail)
     go_wp2
     go_ret
     exact⟨by rw[HO.out];rfl,zzD HB2.out _⟩
    ·have HS':=hid (HS.out hc)
     subst hc
     clear hcp HS
     go_wp2
     go_quiet (fail)
     go_wp2
     go_quiet (fail)
     go_wp2
     go_roundw
     case rel=>exact⟨i,by omega,rfl,HS'.out,zzD HB2.out _⟩
     case measure=>simp[zL]
    ·have ho:ordN m n=1:=by unfold ordN;have:=hcp.2 hc;rw[if_neg (by omega),if_neg (by omega)]
     have hc2:¬x<y:=by omega
     have HO:=hid ho
     clear hcp HS ho
     go_wp2
     go_quiet (fail)
     go_wp2
     go_quiet (fail)
     go_wp2
     go_ret
     exact⟨by rw[HO.out];rfl,zzD (zzD HB2.out _) _⟩
 ·have hl':¬(((zaa B6 m).length:Int)=(zaa B6 n).length):=by omega
  rcases Nat.lt_or_gt_of_ne hl with h|h
  ·have ho:ordN m n= -1:=by unfold ordN;rw[if_pos (hlt' h)]
   rw[ho]
   clear ho hlt' hgt' hl
   generalize (zaa B6 m).length=x at*
   generalize (zaa B6 n).length=y at*
   go_enter Tryz.func204,Tryz.ntmps204
   go_wp2
   go_ret
   exact⟨rfl,zM _ _⟩
  ·have ho:ordN m n=1:=by unfold ordN;have:=hgt' h;rw[if_neg (by omega),if_neg (by omega)]
   rw[ho]
   have h2:¬(zaa B6 m).length<(zaa B6 n).length:=by omega
   clear ho hlt' hgt' hl
   generalize (zaa B6 m).length=x at*
   generalize (zaa B6 n).length=y at*
   go_enter Tryz.func204,Tryz.ntmps204
   go_wp2
   go_ret
   exact⟨rfl,zM _ _⟩
end
end Go.Proofs.YthfpmfdiamldoaaGreatDoor
