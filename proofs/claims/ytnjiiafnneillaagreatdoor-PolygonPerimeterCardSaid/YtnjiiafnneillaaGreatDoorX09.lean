/- polygon.Area. -/
import Derived.Test.YtnjiiafnneillaaGreatDoorX08
import Derived.Maps.AppendAt
set_option maxRecDepth 100000
set_option maxHeartbeats 8000000
open Go renaming World → zA, Calls → zC
open Go.RowKit renaming Below → zB, intOf → zL
open Go.Lib renaming decDigits → zD
open Go.Proofs.Tryz renaming prog → zF
open Go.World renaming alloc_heap_new → zG
open Go.IntWalk renaming i64_in → zI
open Go.Joins renaming cell_of_block → zJ
open Go.RowKit.Below renaming refl → zM
open Nat renaming le_refl → zN, zero_le → zR, lt_of_lt_of_le → zS, pow_le_pow_right → yF
open List renaming getElem_mem → zY, getElem?_eq_getElem → yB
namespace Go.Proofs.YtnjiiafnneillaaGreatDoor
open Go.RowKit Go.Shelf Lib Str Limb Geo
attribute [local go_sem] Oper.semAt_some
theorem ygo:(Tryz.prog.info? 30).map (λi=>(i.zero,i.size,i.bytes))=some (some (St []),1,16):=by kernel_rfl
theorem zcj {W W':zA} (h:CellsKept W W') {B:Nat} {e:TypeId} {s:Nat} {v:Value} {n:Nat} {xs:List Value} (ho:W.ownsRow B e s v n xs):W'.ownsRow B e s v n xs:=by
 obtain⟨hl,ho⟩:=ho;refine⟨hl,?_⟩;rcases ho with ho|⟨g,cap,cur,e,hb,hg,hr⟩
 ·exact .inl ho
 ·exact .inr ⟨g,cap,cur,e,hb,h _ _ _ _ hg,hr⟩
theorem zmb {P:Program} (C':Value->zA->Prop) {o:Oper} {a:Act} (w:zA) (s x:Operand) (t:TypeId)
 (ho:o.op=.call {callee:=.builtin .append,args:= #[s,x],argTypes:= #[t,t]})
 (base:Nat) (e:TypeId) (i:TypeInfo) (z:Value) (size bytes:Nat) (ht:P.underlying t=some (.slice e)) (hi:P.info? e=some i) (hz:i.zero=some z)
 (hsize:i.size=size) (hby:i.bytes=bytes) (hzs:z.cells.size=size) (hsz:0<size)
 (v:Value) (n:Nat) (xs:List Value) (hs:a.eval s=v) (hown:w.ownsRow base e size v n xs)
 (ad:Addr) (m c:Nat) (news:List Value) (hx:a.eval x=.slice (some ad) m c) (hl:news.length=m*size) (hnews:∀j u,news[j]? =some u->w.cell? (ad.add j)=some u) (h1:∀u∈news,u.oneCell'=true)
 (h63:n+m<=maxLen) (hbytes:(n+m)*bytes<=140737488355328) (hbase:base<=w.heap.size)
 (h:∀v' w',w'.ownsRow base e size v' (n+m) (xs++news)->w.grownBy w' v.ownBlock->C' v' w'):zfp P C' ((execOp a.eval o).run P w):=by
 obtain⟨v',w',hr,h2,h3,h4⟩:=run_append_own (P:=P) w base t o.type e i z size bytes ht hi hz hsize hby hzs hsz v n xs hown ad m c news hl hnews h1 h63 hbytes hbase;unfold execOp;simp only[ho,resolve,invoke,builtin,Sem.run_bind,Sem.run_pure,Result.andThen_ok,List.map_toArray,List.map_cons,List.map_nil,hs,hx,hr];exact h v' w' h2 h3
def SegB (b:Nat) (x y:Pt) (W:zA):Prop:=W.heap[b]? =some (.cells #[St (numS x.x),St (numS x.y),St (numS y.x),St (numS y.y)] 64 (0,0))
theorem SegB.at {b:Nat} {x y:Pt} {W:zA} (h:SegB b x y W):SegAt b x y W:=by
 constructor<;>(rw[zJ h];rfl)
def zdr (l:List Pt) (k:Nat):Rat:=(cor l k).x*(cor l (k+1)).y-(cor l (k+1)).x*(cor l k).y
def zgg (l:List Pt) (k:Nat):List Value:=(List.range k).map λi=>St (numS (zdr l i))
theorem zsh (l:List Pt) (k:Nat):zgg l (k+1)=zgg l k++[St (numS (zdr l k))]:=by simp[zgg,List.range_succ]
structure AreaS (w:zA) (p:Option Addr) (cap n:Nat) (l:List Pt) (bt j:Nat) (W:zA):Prop where
 bel:qL w W
 bt1:w.heap.size<=bt
 pts:∀i,i<n->∃b off,p=some ⟨b,off,none⟩/\b<w.heap.size/\W.cell? ⟨b,off+i*2,none⟩=some (St (ptOf (txt l) i).1)/\W.cell? ⟨b,off+i*2+1,none⟩=some (St (ptOf (txt l) i).2)
 cbx:W.cell? ⟨bt+1,0,none⟩=some (.slice p n cap)
 box:∃v,W.cell? ⟨bt,0,none⟩=some v/\W.ownsRow (bt+2) 30 1 v j (zgg l j)
 fr:W.frozen? ⟨bt,0,none⟩=false
theorem AreaS.keep {w:zA} {p:Option Addr} {cap n:Nat} {l:List Pt} {bt j:Nat} {W W':zA} (h:AreaS w p cap n l bt j W) (hc:CellsKept W W') (hb:zB w.heap.size W W'):AreaS w p cap n l bt j W':=
 ⟨h.bel.trans hb,h.bt1,λi hi=>let ⟨b,off,e,h0,h1,h2⟩:=h.pts i hi;⟨b,off,e,h0,hc.cell h1,hc.cell h2⟩,hc.cell h.cbx,let ⟨v,h1,h2⟩:=h.box;⟨v,hc.cell h1,zcj hc h2⟩,let ⟨_,h1,_⟩:=h.box;hc.frozen h1 h.fr⟩
theorem AreaS.ptsAt {w:zA} {p:Option Addr} {cap n:Nat} {l:List Pt} {bt j:Nat} {W:zA} (hn:n=l.length) (h:AreaS w p cap n l bt j W):zmh (bt+1) p cap (txt l) W:=
 ⟨by rw[zce,<-hn];exact h.cbx,λi hi=>let ⟨b,off,e,_,h1,h2⟩:=h.pts i (by rw[zce] at hi;omega);⟨b,off,e,h1,h2⟩⟩
theorem zpc {w:zA} {p:Option Addr} {cap n:Nat} {l:List Pt} {bt j:Nat} {W Y Z:zA} {v v':Value} (h:AreaS w p cap n l bt j W) (hv:W.cell? ⟨bt,0,none⟩=some v) (hown:W.ownsRow (bt+2) 30 1 v j (zgg l j))
 (hY:qL W Y) (hZ:Y.grownBy Z v.ownBlock) (hz:Z.ownsRow (bt+2) 30 1 v' (j+1) (zgg l (j+1))) (B:Nat):
 KeepsFrom B W (Z.setCell ⟨bt,0,none⟩ v')/\AreaS w p cap n l bt (j+1) (Z.setCell ⟨bt,0,none⟩ v'):=by
 have ck:=zac hY;have hS:=h.keep ck (hY.mono h.bel.size);have ho:=zcj ck hown;have hlt:∀q,v.ownBlock=some q->bt+2<=q:=λq e=>(ho.lt q e).1;have hne:∀b,b<bt+2->some b≠v.ownBlock:=λb hb e=>by have:=hlt b e.symm;omega
 have hbt:=h.bt1;have cz:∀{b o:Nat} {x:Value},b<bt+2->Y.cell? ⟨b,o,none⟩=some x->Z.cell? ⟨b,o,none⟩=some x:=λhb hc=>hZ.cell hc (hne _ hb);have hYs:bt<Y.heap.size:=zbe (ck.cell hv);refine⟨?_,?_,hbt,λi hi=>?_,?_,⟨v',?_,?_⟩,?_⟩
 ·refine((za0 hY).from B).trans (((KeepsOthers.of_grownBy hZ ?_).from B).trans ((KeepsOthers.setCell _ _ _).from B))
  intro q o e hq;rcases ho.2 with⟨rfl,_⟩|⟨g,cp,cur,rfl,_,hg,_⟩
  ·simp[Value.ownBlock] at e
  ·simp[Value.ownBlock] at e;subst e;rw[hg] at hq;cases hq;rfl
 ·exact((hS.bel.grown hZ (by have:=zbe hS.cbx;simp at this;omega) (λq e=>by have:=hlt q e;omega))).setCell (by simpa using hbt) _
 ·obtain⟨b,off,e,h0,h1,h2⟩:=hS.pts i hi
  exact⟨b,off,e,h0,by rw[zau _ _ _ _ (by omega)];exact cz (by omega) h1,by rw[zau _ _ _ _ (by omega)];exact cz (by omega) h2⟩
 ·rw[zau _ _ _ _ (by omega)];exact cz (by omega) hS.cbx
 ·exact za9 (cz (by omega) (ck.cell hv))
 ·exact ownsRow_setCell_below hz (by simp) _
 ·rw[World.frozen?_setCell,World.frozen?_of_block (a:=⟨bt,0,none⟩) (hZ.block bt hYs (hne bt (by omega)))];exact hS.fr
structure AppS (W:zA) (v:Value) (u:List UInt8) (bt j:Nat) (xs:List Value) (b:Nat×Value) (f:Nat->Bool) (X:zA):Prop where
 pre:f 17=false->qL W X
 new:f 17=false->f 16=true->X.cell? ⟨b.1,0,none⟩=some (St u)
 post:f 17=true->∃Y Z,qL W Y/\Y.grownBy Z v.ownBlock/\Z.ownsRow (bt+2) 30 1 b.2 (j+1) (xs++[St u])/\X=if f 18=true then Z.setCell ⟨bt,0,none⟩ b.2 else Z
theorem AppS.congr {W:zA} {v:Value} {u:List UInt8} {bt j:Nat} {xs:List Value} {b:Nat×Value} {f g:Nat->Bool} {X:zA} (h:AppS W v u bt j xs b f X) (e16:g 16=f 16) (e17:g 17=f 17) (e18:g 18=f 18):AppS W v u bt j xs b g X:=
 ⟨by rw[e17];exact h.pre,by rw[e16,e17];exact h.new,by rw[e17,e18];exact h.post⟩
theorem zzu (p:Option Addr) (cap:Nat) (l:List Pt) (h3:3<=l.length) (hlen:l.length<=4096) (r:Rat)
 (C:Hid (∀W:zA,Wd W->RowPts p l W->qJ 30 #[.slice p l.length cap] W (.int .i64 0)))
 (M1:Hid (∀k,k<l.length->qK 33 #[St (numS (cor l k).x),St (numS (cor l (k+1)).y)] (St (numS ((cor l k).x*(cor l (k+1)).y)))))
 (M2:Hid (∀k,k<l.length->qK 33 #[St (numS (cor l (k+1)).x),St (numS (cor l k).y)] (St (numS ((cor l (k+1)).x*(cor l k).y)))))
 (SB:Hid (∀k,k<l.length->qK 32 #[St (numS ((cor l k).x*(cor l (k+1)).y)),St (numS ((cor l (k+1)).x*(cor l k).y))] (St (numS (zdr l k)))))
 (SM:Hid (∀p cap,∀W:zA,Wd W->RowNums p l.length (zdr l) W->qJ 92 #[.slice p l.length cap] W (.tuple #[St (numS (psum (zdr l) l.length)),.int .i64 0])))
 (DV:Hid (qK 93 #[St (numS (psum (zdr l) l.length)),.string ⟨#[50]⟩] (.tuple #[St (numS r),.int .i64 0])))
 (w:zA) (HW:Hid (Wd w)) (HP:Hid (RowPts p l w)):
 qJ 27 #[.slice p l.length cap] w (.tuple #[St (numS r),.int .i64 0]):=by
 obtain⟨i0,hi,hz0,hz1,hz2⟩:=info_parts ygo;refine(callsIn_wide (n:=3)).1 ?_;refine callsIn_of_wp_marks Tryz.func27 rfl trivial ?_ rfl;simp only[Tryz.ntmps27,List.size_toArray,List.length_cons,List.length_nil,Nat.reduceAdd,Nat.reduceSub,Array.replicate_succ,Array.replicate_zero,List.push_toArray,List.append_toArray,List.nil_append,List.cons_append];obtain⟨n,hn⟩:=zzX l.length;have hCk:=C.out w HW.out HP.out;rw[<-hn] at h3 hlen hCk⊢;have HN:=hid hn;clear hn;have HCk:=hid hCk;clear hCk C;gi_wp2;refine⟨trivial,(callsIn_wide.2 HCk.out).mono ?_⟩;rintro e w1 ⟨rfl,hb1⟩;have HB1:=hid hb1;clear hb1 HCk;gi_wp2_with (refine⟨trivial,?_⟩;gi_at_call 31;refine(callsIn_wide.2 (zf8 _ _ _ _ _ rfl)).mono ?_;rintro e w' ⟨rfl,rfl⟩);obtain⟨W1,hW1⟩:=zzX ((w1.alloc (.cells #[.slice none 0 0] 120)).alloc (.cells #[.slice p n cap] 22));rw[<-hW1];have hS1:AreaS w p cap n l w1.heap.size 0 W1:=by
  have hb:=HB1.out;have b1:=(Boxed.new w1 120 (.slice none 0 0)).alloc (.cells #[.slice p n cap] 22);have b2:=Boxed.new (w1.alloc (.cells #[.slice none 0 0] 120)) 22 (.slice p n cap);rw[World.size_alloc] at b2;have hw:qL w1 ((w1.alloc (.cells #[.slice none 0 0] 120)).alloc (.cells #[.slice p n cap] 22)):=((zM _ w1).alloc (zN _) _).alloc (by simp) _;rw[hW1];refine⟨hb.trans (hw.mono hb.size),hb.size,λi hi=>?_,b2.cell,⟨_,b1.cell,World.ownsRow_nil _ _ _ _⟩,b1.frozen⟩;obtain⟨b,off,e,h1,h2⟩:=HP.out i (by rw[<-HN.out];exact hi);exact⟨b,off,e,zbe h1,zai hw (zai hb h1),zai hw (zai hb h2)⟩
 have hsz1:W1.heap.size=w1.heap.size+2:=by rw[hW1];simp
 clear hW1;have HS1:=hid hS1.bel.size;have HZ:=hid hsz1;have hw1:w.heap.size<=w1.heap.size:=HB1.out.size;have hseq:=zgo 2 (by omega) (w1.heap.size+1) (txt l) (by rw[zce,<-HN.out];omega) (λW=>∃j,AreaS w p cap n l w1.heap.size j W) p cap (λW ⟨j,h⟩=>h.ptsAt HN.out);rw[zce,<-HN.out] at hseq
 refine z9z (n:=3) (B:=w.heap.size) rfl (by omega) rfl trivial (enters_of Tryz.func99 (by kernel_rfl) rfl) hseq (λk args h=>by subst h;rfl) hS1.bel.size
  (λj W=>AreaS w p cap n l w1.heap.size j W) (λc _ W=>False)
  (λj X Y h hc hb=>h.keep hc hb) (λc j X Y h hc hb=>h) (λj W h=>⟨j,h⟩) hS1
  (λj _ a' W=>∃bs,a'={tmps:= #[Value.slice p n cap,undef,.string ⟨#[]⟩,.int .i64 0,.pointer (some ⟨w1.heap.size,0,none⟩),undef,.pointer (some ⟨bs,0,none⟩),undef,undef,Value.slice p n cap,.int .i64 0,.bool false,Value.slice p n cap,Value.func (Fn.func 99) #[] #[.pointer (some ⟨w1.heap.size+1,0,none⟩)],I j,segV (cor l j) (cor l (j+1)),undef,undef,undef,undef,undef,undef,undef,undef,undef,undef,undef,undef,undef,undef,undef,undef,undef,undef,undef,undef,undef,undef,undef,undef,undef,undef,undef,undef,undef,undef],defers:=[]}/\SegB bs (cor l j) (cor l (j+1)) W)
  (λj _ a' X Y h hc hb=>let ⟨bs,e,h2⟩:=h;⟨bs,e,hc _ _ _ _ h2⟩) ?assign ?body ?done ?stop
 case assign=>
  rintro lp j args W K hlp hrec hS hj rfl hK;rw[zgr l j (by rw[<-HN.out];exact hj)];have HK:=hid hK;clear hK;unfold segV;gi_wp2;have hb1:qL W (W.alloc (.cells #[St (numS (cor l j).x),St (numS (cor l j).y),St (numS (cor l (j+1)).x),St (numS (cor l (j+1)).y)] 64)):=(zM _ W).alloc (zN _) _;exact HK.out _ _ ((za0 hb1).from _) (hS.keep (zac hb1) (hb1.mono hS.bel.size)) ⟨W.heap.size,rfl,zG W _⟩
 case body=>
  rintro lp j args a' W hlp ⟨r',hr'⟩ hS hj rfl ⟨bs,rfl,hseg⟩;have hjl:j<l.length:=by rw[<-HN.out];exact hj
  have m1:=hid (M1.out j hjl);have m2:=hid (M2.out j hjl);have sb:=hid (SB.out j hjl);obtain⟨v,hv,hown⟩:=hS.box;have H0:=hid hS;have HT:=hid (zsh l j);have HO:=hid hown;obtain⟨u1,hu1⟩:=zzX (numS ((cor l j).x*(cor l (j+1)).y));obtain⟨u2,hu2⟩:=zzX (numS ((cor l (j+1)).x*(cor l j).y));obtain⟨u3,hu3⟩:=zzX (numS (zdr l j));rw[<-hu1] at m1 sb;rw[<-hu2] at m2 sb;rw[<-hu3] at sb HT;obtain⟨q1,q2,q3,q4⟩:=hseg.at
  clear hseg;unfold segV;generalize numS (cor l j).x=x1 at*
  generalize numS (cor l j).y=y1 at*
  generalize numS (cor l (j+1)).x=x2 at*
  generalize numS (cor l (j+1)).y=y2 at*
  have HQ:=hid (⟨hv,q1,q2,q3,q4⟩:W.cell? ⟨w1.heap.size,0,none⟩=some v/\W.cell? ⟨bs,0,none⟩=some (St x1)/\W.cell? ⟨bs,1,none⟩=some (St y1)/\W.cell? ⟨bs,2,none⟩=some (St x2)/\W.cell? ⟨bs,3,none⟩=some (St y2));clear q1 q2 q3 q4 hv hown hu1 hu2 hu3 hseq hS1 hr' hS M1 M2 SB SM DV;gi_wp2;have hbl:=H0.out.bel;have hks:∀w':zA,qL W w'->w'.cell? ⟨w1.heap.size,0,none⟩=some v/\w'.cell? ⟨bs,0,none⟩=some (St x1)/\w'.cell? ⟨bs,1,none⟩=some (St y1)/\w'.cell? ⟨bs,2,none⟩=some (St x2)/\w'.cell? ⟨bs,3,none⟩=some (St y2):=λw' hb=>
   ⟨zai hb HQ.out.1,zai hb HQ.out.2.1,zai hb HQ.out.2.2.1,zai hb HQ.out.2.2.2.1,zai hb HQ.out.2.2.2.2⟩
  have KS:=hid hks;clear hks;have HV:=hid HQ.out.1;refine zjk (λ(b:Nat×Value) i=>([v,.pointer (some ⟨bs,0,none⟩),.pointer (some ⟨bs,0,none⟩),St x1,.pointer (some ⟨bs,2,none⟩),.pointer (some ⟨bs,3,none⟩),St y2,St u1,.pointer (some ⟨bs,2,none⟩),.pointer (some ⟨bs,2,none⟩),St x2,.pointer (some ⟨bs,0,none⟩),.pointer (some ⟨bs,1,none⟩),St y1,St u2,St u3,.slice (some ⟨b.1,0,none⟩) 1 1,b.2]:List Value).getD i undef) (AppS W v u3 w1.heap.size j (zgg l j)) (by kernel_rfl) (by kernel_rfl) (by kernel_rfl) (0,v) ⟨λ_=>(zM _ W).drew,λ_ h=>(by cases h),λh=>(by cases h)⟩ λb=>?_;refine qB (v) (λf W' h=>h.congr rfl rfl rfl) ?_ (hy:=λf W' hf h=>by have g:=KS.out _ (h.pre (hf.no (j:=17) hf.self (by kernel_rfl)));obtain⟨q0,q1,q2,q3,q4⟩:=g;go_simp);refine qB (.pointer (some ⟨bs,0,none⟩)) (λf W' h=>h.congr rfl rfl rfl) ?_;refine qB (.pointer (some ⟨bs,0,none⟩)) (λf W' h=>h.congr rfl rfl rfl) ?_;simp only[zzQ];refine qB (St x1) (λf W' h=>h.congr rfl rfl rfl) ?_ (hy:=λf W' hf h=>by have g:=KS.out _ (h.pre (hf.no (j:=17) (hf.no (j:=16) (hf.no (j:=15) (hf.no (j:=7) hf.self (by kernel_rfl)) (by kernel_rfl)) (by kernel_rfl)) (by kernel_rfl)));obtain⟨q0,q1,q2,q3,q4⟩:=g;go_simp);refine qB (.pointer (some ⟨bs,2,none⟩)) (λf W' h=>h.congr rfl rfl rfl) ?_;refine qB (.pointer (some ⟨bs,3,none⟩)) (λf W' h=>h.congr rfl rfl rfl) ?_;simp only[zzQ]
  refine qB (St y2) (λf W' h=>h.congr rfl rfl rfl) ?_ (hy:=λf W' hf h=>by have g:=KS.out _ (h.pre (hf.no (j:=17) (hf.no (j:=16) (hf.no (j:=15) (hf.no (j:=7) hf.self (by kernel_rfl)) (by kernel_rfl)) (by kernel_rfl)) (by kernel_rfl)));obtain⟨q0,q1,q2,q3,q4⟩:=g;go_simp);simp only[zzQ]
  refine zbv (St u1) (by rfl) (by rfl) (λf W' hf h C' hC'=>by
   have h17:=(hf.no (j:=17) (hf.no (j:=16) (hf.no (j:=15) hf.self (by kernel_rfl)) (by kernel_rfl)) (by kernel_rfl));have h16:=(hf.no (j:=16) (hf.no (j:=15) hf.self (by kernel_rfl)) (by kernel_rfl));have hp:=h.pre h17;go_simp;refine zzM (m1.out _ (HW.out.below (hbl.trans (hp.mono hbl.size)))) λw' hb=>?_;exact⟨_,rfl,hC' _ ⟨λ_=>hp.trans (hb.mono hp.size),λ_ k=>(by have k':f 16=true:=k;rw[h16] at k';cases k'),λk=>(by have k':f 17=true:=k;rw[h17] at k';cases k')⟩⟩) ?_
  refine qB (.pointer (some ⟨bs,2,none⟩)) (λf W' h=>h.congr rfl rfl rfl) ?_;refine qB (.pointer (some ⟨bs,2,none⟩)) (λf W' h=>h.congr rfl rfl rfl) ?_;simp only[zzQ];refine qB (St x2) (λf W' h=>h.congr rfl rfl rfl) ?_ (hy:=λf W' hf h=>by have g:=KS.out _ (h.pre (hf.no (j:=17) (hf.no (j:=16) (hf.no (j:=15) (hf.no (j:=14) hf.self (by kernel_rfl)) (by kernel_rfl)) (by kernel_rfl)) (by kernel_rfl)));obtain⟨q0,q1,q2,q3,q4⟩:=g;go_simp);refine qB (.pointer (some ⟨bs,0,none⟩)) (λf W' h=>h.congr rfl rfl rfl) ?_;refine qB (.pointer (some ⟨bs,1,none⟩)) (λf W' h=>h.congr rfl rfl rfl) ?_;simp only[zzQ];refine qB (St y1) (λf W' h=>h.congr rfl rfl rfl) ?_ (hy:=λf W' hf h=>by have g:=KS.out _ (h.pre (hf.no (j:=17) (hf.no (j:=16) (hf.no (j:=15) (hf.no (j:=14) hf.self (by kernel_rfl)) (by kernel_rfl)) (by kernel_rfl)) (by kernel_rfl)));obtain⟨q0,q1,q2,q3,q4⟩:=g;go_simp);simp only[zzQ]
  refine zbv (St u2) (by rfl) (by rfl) (λf W' hf h C' hC'=>by
   have h17:=(hf.no (j:=17) (hf.no (j:=16) (hf.no (j:=15) hf.self (by kernel_rfl)) (by kernel_rfl)) (by kernel_rfl));have h16:=(hf.no (j:=16) (hf.no (j:=15) hf.self (by kernel_rfl)) (by kernel_rfl));have hp:=h.pre h17;go_simp;refine zzM (m2.out _ (HW.out.below (hbl.trans (hp.mono hbl.size)))) λw' hb=>?_;exact⟨_,rfl,hC' _ ⟨λ_=>hp.trans (hb.mono hp.size),λ_ k=>(by have k':f 16=true:=k;rw[h16] at k';cases k'),λk=>(by have k':f 17=true:=k;rw[h17] at k';cases k')⟩⟩) ?_
  try simp only[zzQ]
  refine zbv (St u3) (by rfl) (by rfl) (λf W' hf h C' hC'=>by
   have h17:=(hf.no (j:=17) (hf.no (j:=16) hf.self (by kernel_rfl)) (by kernel_rfl));have h16:=(hf.no (j:=16) hf.self (by kernel_rfl));have hp:=h.pre h17;go_simp;refine zzM (sb.out _ (HW.out.below (hbl.trans (hp.mono hbl.size)))) λw' hb=>?_;exact⟨_,rfl,hC' _ ⟨λ_=>hp.trans (hb.mono hp.size),λ_ k=>(by have k':f 16=true:=k;rw[h16] at k';cases k'),λk=>(by have k':f 17=true:=k;rw[h17] at k';cases k')⟩⟩) ?_
  try simp only[zzQ]
  refine zdc (.slice (some ⟨b.1,0,none⟩) 1 1) (by rfl) (by rfl) (λf W' hf h C' hC'=>by
   have h17:=(hf.no (j:=17) hf.self (by kernel_rfl));have hp:=h.pre h17;have ha:qL W' (W'.alloc (.cells #[St u3] 30)):=(zM _ W').alloc (zN _) _;have:=hC' (W'.heap.size,b.2) (W'.alloc (.cells #[St u3] 30)) (λi hi=>?_) ⟨λ_=>hp.trans (ha.mono hp.size),λ_ _=>(Boxed.new W' 30 (St u3)).cell,λk=>(by have k':f 17=true:=k;rw[h17] at k';cases k')⟩
   ·go_simp
    exact this
   ·match i,hi with
    |0,_|1,_|2,_|3,_|4,_|5,_|6,_|7,_|8,_|9,_|10,_|11,_|12,_|13,_|14,_|15,_|17,_=>rfl
    |16,hi=>rw[hf.self] at hi;cases hi
    |_+18,_=>rfl) ?_
  try simp only[zzQ]
  refine zdc b.2 (by rfl) (by rfl) (λf W' hf h C' hC'=>by
   have h17:=hf.self;have h18:=(hf.no (j:=18) hf.self (by kernel_rfl));have h16:=hf.done 16 (by kernel_rfl);have hp:=h.pre h17;have hn:=h.new h17 h16;have hc:=zac hp;refine zmb _ W' _ _ 120 rfl (w1.heap.size+2) 30 i0 (St []) 1 16 Tryz.underlying120 hi hz0 hz1 hz2 rfl (by decide) v j (zgg l j) rfl (zcj hc HO.out) ⟨b.1,0,none⟩ 1 1 [St u3] rfl rfl (λi u hu=>?_) (λu hu=>by simp at hu;subst hu;rfl) (by unfold maxLen;omega) (by omega) (by have:=zbe (hc.cell H0.out.cbx);simp at this;omega) (λv' w' hown' hgrow=>?_)
   ·match i,hu with
    |0,hu=>simp at hu;subst hu;exact hn
    |_+1,hu=>simp at hu
   ·refine hC' (b.1,v') w' (λi hi=>?_) ⟨λk=>?_,λk=>?_,λ_=>⟨W',w',hp,hgrow,hown',?_⟩⟩
    ·match i,hi with
     |0,_|1,_|2,_|3,_|4,_|5,_|6,_|7,_|8,_|9,_|10,_|11,_|12,_|13,_|14,_|15,_|16,_=>rfl
     |17,hi=>rw[hf.self] at hi;cases hi
     |_+18,_=>rfl
    ·cases k
    ·cases k
    ·show w'=if f 18=true then _ else w'
     rw[h18];rfl) ?_
  try simp only[zzQ]
  refine zbv undef (by rfl) (by rfl) (λf W' hf h C' hC'=>by
   have h17:=hf.done 17 (by kernel_rfl);have h18:=hf.self;obtain⟨Y,Z,hY,hZ,hz,rfl⟩:=h.post h17;rw[h18,if_neg (by simp)] at*
   have hst:=zpc H0.out HV.out HO.out hY hZ (by rw[HT.out];exact hz) 0;have ck:=zac hY;have hlt:some w1.heap.size≠v.ownBlock:=λe=>by have:=((zcj ck HO.out).lt _ e.symm).1;omega
   have hcell:=hZ.cell (ck.cell HV.out) hlt;have hfr:Z.frozen? ⟨w1.heap.size,0,none⟩=false:=by
    rw[World.frozen?_of_block (a:=⟨w1.heap.size,0,none⟩) (hZ.block _ (zbe (ck.cell HV.out)) hlt)];exact ck.frozen HV.out H0.out.fr
   have:=hC' (Z.setCell ⟨w1.heap.size,0,none⟩ b.2) ⟨λk=>(by have k':f 17=false:=k;rw[h17] at k';cases k'),λk=>(by have k':f 17=false:=k;rw[h17] at k';cases k'),λ_=>⟨Y,Z,hY,hZ,hz,rfl⟩⟩;obtain⟨q,m,c,e2⟩:∃q m c,b.2=.slice q m c:=by
    rcases hz.2 with⟨e,_⟩|⟨g,cp,cur,e,_⟩<;>exact⟨_,_,_,e⟩
   rw[e2] at this;clear hst;go_simp;exact this) ?_
  try simp only[Act.put]
  refine ze1 λf X hf h=>?_;obtain⟨Y,Z,hY,hZ,hz,rfl⟩:=h.post (hf 17 (by decide));rw[if_pos (hf 18 (by decide))];have hst:=zpc H0.out HV.out HO.out hY hZ (by rw[HT.out];exact hz) W1.heap.size;exact hst
 case done=>
  rintro D W hD hS hK;obtain⟨v,hv,hown⟩:=hS.box;obtain⟨q,c,rfl⟩:∃q c,v=.slice q n c:=by
   rcases hown.2 with⟨_,e⟩|⟨g,cp,cur,e,_⟩
   ·omega
   ·exact⟨_,_,e⟩
  have hrow:RowNums q l.length (zdr l) W:=by
   intro i hi;obtain⟨q',cap',e,_,hc⟩:=Sl.of_own hown;have e1:=(Value.slice.inj e).1;subst e1;exact hc i _ (by unfold zgg;rw[List.getElem?_map,List.getElem?_range (by rw[HN.out];exact hi)];rfl)
  have hwd:=HW.out.below hS.bel;have hsm:=SM.out q c W hwd hrow;rw[<-HN.out] at hsm;have HSM:=hid hsm;have HX:=hid (⟨hS.bel,hK⟩:qL w W/\W.heap[D]? =some (.deferred (some [])));have hdv:=DV.out;rw[<-HN.out] at hdv;have HDV:=hid hdv;clear hS hK hown hrow hwd hsm hdv hseq hS1 M1 M2 SB SM DV;gi_wp2;refine⟨trivial,(callsIn_wide.2 HSM.out).mono ?_⟩;rintro e W2 ⟨rfl,hb2⟩;have hbl2:=HX.out.1.trans (hb2.mono HX.out.1.size);have HX2:=hid (⟨hbl2,(hb2.block _ (Array.getElem?_eq_some_iff.1 HX.out.2).1).trans HX.out.2⟩:qL w W2/\W2.heap[D]? =some (.deferred (some [])));clear hb2 hbl2 HX HSM;gi_wp2;refine⟨trivial,(callsIn_wide.2 (HDV.out W2 (HW.out.below HX2.out.1))).mono ?_⟩;rintro e W3 ⟨rfl,hb3⟩;have hbl3:=HX2.out.1.trans (hb3.mono HX2.out.1.size);have HX3:=hid (⟨hbl3,(hb3.block _ (Array.getElem?_eq_some_iff.1 HX2.out.2).1).trans HX2.out.2⟩:qL w W3/\W3.heap[D]? =some (.deferred (some [])));clear hb3 hbl3 HX2;gi_wp2;refine⟨by simp,.inl ⟨_,_,rfl,run_takeDeferred HX3.out.2,?_⟩⟩;refine⟨.tuple #[St (numS r),.int .i64 0],by simp[results,Tryz.f27,go_sem],⟨rfl,zby HX3.out.1 (by have:=HS1.out;omega) HX3.out.2⟩⟩
 case stop=>
  rintro D c j W hD h hK;exact h.elim
theorem ye6:numS 2=[50]:=by
 have:numS ((2:Int):Rat)=[50]:=by rw[zha];show itoa ((2:Nat):Int)=_;rw[Str.zad,zae (by omega)];rfl
 exact this
theorem yhi:sz 2 1:=⟨by decide,by decide⟩
theorem ygp (p:Option Addr) (cap:Nat) (l:List Pt) (h3:3<=l.length) (hlen:l.length<=4096) (hz:∀i,szP (cor l i) 36) (hs:zc9 l) (hm:zc8 l)
 (ht:∀k,k<l.length->∃i j,0<i/\0<j/\i+j<300/\sz (psum (zdr l) k) i/\sz (zdr l k) j) (m:Nat) (hm0:0<m) (hm1:m+1<=300) (hmz:sz (psum (zdr l) l.length) m)
 (w:zA) (hw:Wd w) (hp:RowPts p l w):
 qJ 27 #[.slice p l.length cap] w (.tuple #[St (numS (psum (zdr l) l.length/2)),.int .i64 0]):=by
 refine zzu p cap l h3 hlen _ (hid λW hW hp=>zlc p cap l h3 hlen hz hs hm W hW hp)
  (hid λk _ W hW=>zh3 _ _ 36 36 (by omega) (by omega) (by omega) (hz _).1 (hz _).2 W hW) (hid λk _ W hW=>zh3 _ _ 36 36 (by omega) (by omega) (by omega) (hz _).1 (hz _).2 W hW)
  (hid λk _ W hW=>zgk _ _ 72 72 (by omega) (by omega) (by omega) (zca (hz _).1 (hz _).2) (zca (hz _).1 (hz _).2) W hW)
  (hid λp cap W hW hp=>yhh p cap l.length (zdr l) hlen ht W hW hp) (hid λW hW=>?_) w (hid hw) (hid hp)
 have:=zoj (psum (zdr l) l.length) 2 (by decide) m 1 hm0 (by omega) hm1 hmz yhi W hW;rwa [ye6] at this
end Go.Proofs.YtnjiiafnneillaaGreatDoor
namespace Go.Proofs.YtnjiiafnneillaaGreatDoor
open Go.RowKit Go.Shelf Lib Str Limb
attribute [local go_sem] Oper.semAt_some
theorem zx5:(Tryz.prog.info? 87).map (λi=>(i.zero,i.size,i.bytes))=some (some (.agg #[St [],St []]),2,32):=by kernel_rfl
end Go.Proofs.YtnjiiafnneillaaGreatDoor
namespace Go.Proofs.YtnjiiafnneillaaGreatDoor
open Go.RowKit Go.Shelf Lib Str Limb
end Go.Proofs.YtnjiiafnneillaaGreatDoor
namespace Go.Proofs.YtnjiiafnneillaaGreatDoor
open Go.RowKit Go.Shelf Lib Str Limb
attribute [local go_sem] Oper.semAt_some
structure BxT (w:zA) (x y:ByteArray) (W:zA):Prop where
 bel:qL w W
 bx:W.heap[w.heap.size]? =some (.cells #[.string x,.string y] 37 (0,0))
section
variable {w W W':zA} {x y:ByteArray}
theorem BxT.next (h:BxT w x y W) (hb:qL W W'):BxT w x y W':=
 ⟨h.bel.trans (hb.mono h.bel.size),(hb.block _ (Array.getElem?_eq_some_iff.1 h.bx).1).trans h.bx⟩
theorem BxT.cx (h:BxT w x y W):W.cell? ⟨w.heap.size,0,none⟩=some (.string x)/\W.cell? ⟨w.heap.size,1,none⟩=some (.string y):=by have:=h.bx;simp[World.cell?,this]
theorem BxT.start (w:zA) (x y:ByteArray):BxT w x y (w.alloc (.cells #[.string x,.string y] 37)):=⟨(zM _ w).alloc (zN _) _,zG _ _⟩
end
theorem z6v (x y:ByteArray) (a b:Int) (hx0:(x.toList==[48])=false) (ha:¬60<a) (hb:¬40<b)
 (C1:Hid (qK 45 #[.string x] (.int .i64 0)))
 (C2:Hid (qK 45 #[.string y] (.int .i64 0)))
 (L1:Hid (qK 49 #[.string x] (.int .i64 a)))
 (L2:Hid (qK 49 #[.string y] (.int .i64 b)))
 (YY:Hid ((y.toList==[49])=true\/((y.toList==[49])=false/\(y.toList==[48])=false/\
   (qK 46 #[.string y,.string ⟨#[45]⟩] (.bool false))/\
   (qK 209 #[.string y,.string ⟨#[47]⟩] (.bool false))/\
   (∀W:zA,Wd W->Pw W->qJ 113 #[.string y] W (.tuple #[.string ⟨#[49]⟩,.string y,.int .i64 0])))))
 (w:zA) (HW:Hid (Wd w)) (HP:Hid (Pw w)):
 qJ 132 #[.agg #[.string x,.string y]] w (.int .i64 0):=by
 obtain⟨W0,hW0⟩:=zzX (w.alloc (.cells #[.string x,.string y] 37));have K0:=hid (show BxT w x y W0 by rw[hW0];exact BxT.start w x y);obtain⟨c0,c1⟩:=K0.out.cx;rw[hW0] at c0 c1;have H9:=hid hW0.symm;clear hW0;go_enter Tryz.func132,Tryz.ntmps132;go_wp21;rw[H9.out];clear c0 c1 H9;refine zzM (C1.out W0 (HW.out.below K0.out.bel)) λw1 hb1=>?_;have K1:=hid (K0.out.next hb1);clear hb1 K0 C1;obtain⟨c0,c1⟩:=K1.out.cx;go_wp21;clear c0 c1;refine zzM (C2.out w1 (HW.out.below K1.out.bel)) λw2 hb2=>?_;have K2:=hid (K1.out.next hb2);clear hb2 K1 C2;obtain⟨c0,c1⟩:=K2.out.cx;go_wp21;clear c0 c1;refine zzM (L1.out w2 (HW.out.below K2.out.bel)) λw3 hb3=>?_;have K3:=hid (K2.out.next hb3);clear hb3 K2 L1;obtain⟨c0,c1⟩:=K3.out.cx;go_wp21;clear c0 c1;refine zzM (L2.out w3 (HW.out.below K3.out.bel)) λw4 hb4=>?_;have K4:=hid (K3.out.next hb4);clear hb4 K3 L2;obtain⟨c0,c1⟩:=K4.out.cx;rcases YY.out with h1|⟨h1,h0,HPX,CT,NM⟩
 ·clear YY
  go_wp21;go_ret;exact⟨rfl,K4.out.bel⟩
 ·have HPX:=hid HPX;have CT:=hid CT;have NM:=hid NM
  clear YY;go_wp21;clear c0 c1;refine zzM (HPX.out w4 (HW.out.below K4.out.bel)) λw5 hb5=>?_;have K5:=hid (K4.out.next hb5);clear hb5 K4 HPX;obtain⟨c0,c1⟩:=K5.out.cx;go_wp21;clear c0 c1;refine zzM (CT.out w5 (HW.out.below K5.out.bel)) λw6 hb6=>?_;have K6:=hid (K5.out.next hb6);clear hb6 K5 CT;obtain⟨c0,c1⟩:=K6.out.cx;go_wp21;clear c0 c1;refine zzM (NM.out w6 (HW.out.below K6.out.bel) (HP.out.below K6.out.bel)) λw7 hb7=>?_;have K7:=hid (K6.out.next hb7);clear hb7 K6 NM;obtain⟨c0,c1⟩:=K7.out.cx;go_wp21;go_ret;exact⟨rfl,K7.out.bel⟩
theorem zxf (a b:Nat) (ha:a<1000000000000000000) (hb:b<1000000000000000000) (w:zA):
 zC zF 162 #[I a,I b] w λe w'=>∃nd,e=.returned (I (Nat.gcd a b))/\w'=w.drewN nd:=by
 obtain⟨g,hg⟩:=zzX (Nat.gcd a b);rw[<-hg];have HG:=hid hg;clear hg;go_enter Tryz.func162,Tryz.ntmps162;go_wp2;go_loopw [0,1] (λx y wr=>∃m n:Nat,x=I m/\y=I n/\Hid (Nat.gcd m n=g)/\m<1000000000000000000/\n<1000000000000000000/\∃nd,wr=w.drewN nd)
  (λ_ y _=>(zL y).toNat)
 case atStart=>exact⟨a,b,rfl,rfl,HG.out.symm,ha,hb,0,rfl⟩
 case round=>
  clear ha hb;obtain⟨m,n,rfl,rfl,hgm,m1,n1,nd,rfl⟩:=hrel;by_cases h0:n=0
  ·subst h0
   have hm:m=g:=by have:=hgm.out;rw[Nat.gcd_zero_right] at this;exact this
   have HM:=hid hm;clear hm;go_wp2;go_ret;exact⟨nd,by rw[HM.out];rfl,rfl⟩
  ·have hn0:((n:Int) !=0)=true:=by simp;omega
   obtain⟨t,ht⟩:=zzX (m%n);have ht1:t<n:=by rw[ht];exact Nat.mod_lt _ (by omega)
   have hgt:=zh1 m n;rw[<-ht] at hgt;have hwr:IntKind.i64.wrap ((m:Int).tmod n)=(t:Int):=by
    rw[Int.tmod_eq_emod_of_nonneg (by omega),<-Int.natCast_emod,<-ht];exact zI _ (by omega)
   have hwe:((m:Int).tmod n)=(t:Int):=by rw[Int.tmod_eq_emod_of_nonneg (by omega),<-Int.natCast_emod,<-ht]
   have HGT:=hid hgt;have HW:=hid hwe;clear hgt ht hwe;go_wp2
   (refine wp_region_quiet_lit (by kernel_rfl) (by kernel_rfl) (WQ.out ?_);(repeat(first|(apply WQ.read (by rfl);(focus(rintro W ⟨n,rfl⟩;go_simp;try with_reducible rfl));try simp only[zzQ])|(apply WQ.skip (by rfl);try simp only[zzQ])));refine WQ.nil ?_;rintro _ ⟨nq,rfl⟩)
   go_wp2;go_roundw
   case rel=>exact⟨n,t,rfl,by first|rfl|(rw[HW.out])|(show Value.int .i64 _=Value.int .i64 _;congr 1;have:=HW.out;rw[<-this,Int.tmod_eq_emod_of_nonneg (by omega)]),HGT.out.trans hgm.out,n1,by omega,_,World.drewN_drewN _ _ _⟩
   case measure=>first|(show((m:Int).tmod n).toNat<(n:Int).toNat;rw[HW.out];omega)|(simp[zL];omega)
theorem zds (l:List UInt8) (s:ByteArray) (hs:s=⟨l.toArray⟩):s.size=l.length/\∀k (hk:k<l.length) (hb:k<s.size),s[k]'hb=l[k]'hk:=by
 subst hs;exact⟨by show l.toArray.size=_;simp,λk hk hb=>rfl⟩
theorem zsa (l:List UInt8):zcb l↔l.length≠0/\¬(1<l.length/\l.head? =some 48)/\∀k (hk:k<l.length),48<=(l[k]'hk).toNat/\(l[k]'hk).toNat<=57:=by
 constructor
 ·rintro⟨h1,h2,h3⟩
  exact⟨λh=>h1 (List.length_eq_zero_iff.1 h),λ⟨h4,h5⟩=>by have:=h3 h5;omega,λk hk=>h2 _ (zY hk)⟩
 ·rintro⟨h1,h2,h3⟩
  refine⟨λh=>h1 (by rw[h];rfl),λc hc=>?_,λh=>?_⟩
  ·obtain⟨k,hk,rfl⟩:=List.getElem_of_mem hc
   exact h3 k hk
  ·exact Nat.le_antisymm (Nat.le_of_not_lt λh4=>h2 ⟨h4,h⟩) (by omega)
theorem zsg (l:List UInt8) (hl:l.length<=1000000) (w:zA):
 zC zF 161 #[St l] w λe w'=>∃b,e=.returned (.bool b)/\(b=true↔zcb l)/\w'=w:=by
 rw[zsa];obtain⟨s,hs⟩:=zzX (⟨l.toArray⟩:ByteArray);obtain⟨b1,b2⟩:=zds l s hs;show zC _ _ #[.string ⟨l.toArray⟩] _ _;rw[<-hs];have hh:∀hb:0<s.size,l.head? =some 48↔(s[0]'hb).toNat=48:=λhb=>by
  have h0:0<l.length:=by omega
  rw[b2 0 h0 hb,List.head?_eq_getElem?,yB h0];constructor
  ·intro h;injection h with h;rw[h];rfl
  ·intro h;congr 1;exact UInt8.toNat_inj.1 (by rw[h];rfl)
 obtain⟨Q,hQ⟩:∃Q:Prop,Q=(l.length≠0/\¬(1<l.length/\l.head? =some 48)/\∀k (hk:k<l.length),48<=(l[k]'hk).toNat/\(l[k]'hk).toNat<=57):=⟨_,rfl⟩;rw[<-hQ];have q1:s.size=0->¬Q:=λh=>by rw[hQ];exact λk=>k.1 (by omega)
 have q2:∀hb:0<s.size,1<s.size->(s[0]'hb).toNat=48->¬Q:=λhb h h'=>by rw[hQ];exact λk=>k.2.1 ⟨by omega,(hh hb).2 h'⟩
 have q3:∀k (hb:k<s.size),((s[k]'hb).toNat<48\/57<(s[k]'hb).toNat)->¬Q:=λk hb h=>by
  rw[hQ];intro k';have:=k'.2.2 k (by omega);rw[b2 k (by omega) hb] at h;omega
 have q4:∀hb:0<s.size,¬(1<s.size/\(s[0]'hb).toNat=48)->(∀k (hb:k<s.size),48<=(s[k]'hb).toNat/\(s[k]'hb).toNat<=57)->Q:=λhb h h'=>by
  rw[hQ];exact⟨by omega,λ⟨k1,k2⟩=>h ⟨by omega,(hh hb).1 k2⟩,λk hk=>by have:=h' k (by omega);rwa [b2 k hk (by omega)] at this⟩
 have hsz:s.size<=1000000:=by omega
 have Q1:=hid q1;have Q2:=hid q2;have Q3:=hid q3;have Q4:=hid q4;clear q1 q2 q3 q4 hh hQ b1 b2 hs hl;go_enter Tryz.func161,Tryz.ntmps161;by_cases h0:s.size=0
 ·have h0':((s.size:Int)==0)=true:=by simpa using h0
  go_wp2;go_ret;exact⟨false,rfl,⟨λh=>by simp at h,λh=>absurd h (Q1.out h0)⟩,rfl⟩
 ·have h0':((s.size:Int)==0)=false:=by simpa using h0
  have h00:0<s.size:=by omega
  by_cases h1:1<s.size
  ·have h1':(1:Int)<s.size:=by omega
   by_cases h2:(s[0]'h00).toNat=48
   ·have h2':(((s[0]'h00).toNat:Int)==48)=true:=by rw[h2];rfl
    have HN:=hid (Q2.out h00 h1 h2);clear h2;go_wp2;go_ret;exact⟨false,rfl,⟨λh=>by simp at h,λh=>absurd h HN.out⟩,rfl⟩
   ·have h2':(((s[0]'h00).toNat:Int)==48)=false:=by rw[beq_eq_false_iff_ne];omega
    have HN:=hid h2;clear h2;go_wp2;go_loop [3] (λi=>∃k:Nat,k<=s.size/\i=.int .i64 k/\Hid (∀j (hb:j<s.size),j<k->48<=(s[j]'hb).toNat/\(s[j]'hb).toNat<=57)) (λi=>s.size-(zL i).toNat)
    case atStart=>exact⟨0,zR _,rfl,λj _ h=>by omega⟩
    case round=>
     obtain⟨k,hk,rfl,hP⟩:=hrel;by_cases hlt:k<s.size
     ·by_cases d1:(s[k]'hlt).toNat<48
      ·have e1:(((s[k]'hlt).toNat:Int))<48:=by omega
       have HN:=hid (Q3.out k hlt (.inl d1));clear d1;go_wp2;go_ret
       first|exact .inl ⟨rfl,HN.out,rfl⟩|exact⟨false,rfl,⟨λh=>by simp at h,λh=>absurd h HN.out⟩,rfl⟩
      ·by_cases d2:57<(s[k]'hlt).toNat
       ·have e1:(48:Int)<=(s[k]'hlt).toNat:=by omega
        have e2:(57:Int)<(s[k]'hlt).toNat:=by omega
        have HN:=hid (Q3.out k hlt (.inr d2));clear d1 d2;go_wp2;go_ret
        first|exact .inl ⟨rfl,HN.out,rfl⟩|exact⟨false,rfl,⟨λh=>by simp at h,λh=>absurd h HN.out⟩,rfl⟩
       ·have e1:(48:Int)<=(s[k]'hlt).toNat:=by omega
        have e2:((s[k]'hlt).toNat:Int)<=57:=by omega
        have hnext:∀j (hb:j<s.size),j<k+1->48<=(s[j]'hb).toNat/\(s[j]'hb).toNat<=57:=λj hb h=>by
         by_cases e:j=k
         ·subst e;omega
         ·exact hP.out j hb (by omega)
        have HN:=hid hnext;clear hnext d1 d2;go_wp2;go_round
        case rel=>exact⟨k+1,by omega,by go_num,HN⟩
        case measure=>simp[zL];omega
     ·have hq:=Q4.out h00 (λh=>HN.out h.2) (λj hb=>hP.out j hb (by omega))
      have HQ:=hid hq;clear hq;go_wp2;go_ret
      first|exact .inr ⟨rfl,HQ.out,rfl⟩|exact⟨true,rfl,⟨λ_=>HQ.out,λ_=>rfl⟩,rfl⟩
  ·have h1':¬(1:Int)<s.size:=by omega
   go_wp2;go_loop [3] (λi=>∃k:Nat,k<=s.size/\i=.int .i64 k/\Hid (∀j (hb:j<s.size),j<k->48<=(s[j]'hb).toNat/\(s[j]'hb).toNat<=57)) (λi=>s.size-(zL i).toNat)
   case atStart=>exact⟨0,zR _,rfl,λj _ h=>by omega⟩
   case round=>
    obtain⟨k,hk,rfl,hP⟩:=hrel;by_cases hlt:k<s.size
    ·by_cases d1:(s[k]'hlt).toNat<48
     ·have e1:(((s[k]'hlt).toNat:Int))<48:=by omega
      have HN:=hid (Q3.out k hlt (.inl d1));clear d1;go_wp2;go_ret
      first|exact .inl ⟨rfl,HN.out,rfl⟩|exact⟨false,rfl,⟨λh=>by simp at h,λh=>absurd h HN.out⟩,rfl⟩
     ·by_cases d2:57<(s[k]'hlt).toNat
      ·have e1:(48:Int)<=(s[k]'hlt).toNat:=by omega
       have e2:(57:Int)<(s[k]'hlt).toNat:=by omega
       have HN:=hid (Q3.out k hlt (.inr d2));clear d1 d2;go_wp2;go_ret
       first|exact .inl ⟨rfl,HN.out,rfl⟩|exact⟨false,rfl,⟨λh=>by simp at h,λh=>absurd h HN.out⟩,rfl⟩
      ·have e1:(48:Int)<=(s[k]'hlt).toNat:=by omega
       have e2:((s[k]'hlt).toNat:Int)<=57:=by omega
       have hnext:∀j (hb:j<s.size),j<k+1->48<=(s[j]'hb).toNat/\(s[j]'hb).toNat<=57:=λj hb h=>by
        by_cases e:j=k
        ·subst e;omega
        ·exact hP.out j hb (by omega)
       have HN:=hid hnext;clear hnext d1 d2;go_wp2;go_round
       case rel=>exact⟨k+1,by omega,by go_num,HN⟩
       case measure=>simp[zL];omega
    ·have hq:=Q4.out h00 (λh=>h1 h.1) (λj hb=>hP.out j hb (by omega))
     have HQ:=hid hq;clear hq;go_wp2;go_ret
     first|exact .inr ⟨rfl,HQ.out,rfl⟩|exact⟨true,rfl,⟨λ_=>HQ.out,λ_=>rfl⟩,rfl⟩
theorem zlj (l:List UInt8) (hd:∀c∈l,48<=c.toNat/\c.toNat<=57) (hl:l.length<=9) (w:zA):
 zC zF 163 #[St l] w λe w'=>e=.returned (I (val l))/\w'=w:=by
 obtain⟨s,hs⟩:=zzX (⟨l.toArray⟩:ByteArray);obtain⟨b1,b2⟩:=zds l s hs;have hvt:=λk hk=>ziu (l:=l) hd (k:=k) hk;have hst:∀k (hb:k<s.size),48<=(s[k]'hb).toNat/\(s[k]'hb).toNat<=57/\val (l.take (k+1))=10*val (l.take k)+((s[k]'hb).toNat-48):=λk hb=>by
  have hk:k<l.length:=by omega
  rw[b2 k hk hb,List.take_succ_eq_append_getElem hk,zde];exact⟨(hd _ (zY hk)).1,(hd _ (zY hk)).2,rfl⟩
 have hfull:val (l.take s.size)=val l:=by rw[b1,List.take_length]
 show zC _ _ #[.string ⟨l.toArray⟩] _ _;rw[<-hs];have hs9:s.size<=9:=by omega
 generalize hvf:(λk=>val (l.take k))=vf at*
 have hvt':∀k,k<=9->vf k<1000000000:=by rw[<-hvf];exact hvt
 have hst':∀k (hb:k<s.size),48<=(s[k]'hb).toNat/\(s[k]'hb).toNat<=57/\vf (k+1)=10*vf k+((s[k]'hb).toNat-48):=by rw[<-hvf];exact hst
 have hfull':vf s.size=val l:=by rw[<-hvf];exact hfull
 have hv0:vf 0=0:=by rw[<-hvf];rfl
 generalize val l=vl at*
 have VT:=hid hvt';have ST:=hid hst';have HF:=hid hfull';have V0:=hid hv0;clear hvt' hst' hfull' hv0 hvt hst hfull hvf b1 b2 hs hd hl;go_enter Tryz.func163,Tryz.ntmps163;go_wp2;go_loop [3,4] (λa i=>∃k:Nat,k<=s.size/\i=.int .i64 k/\a=.int .i64 (vf k:Nat)) (λ_ i=>s.size-(zL i).toNat)
 case atStart=>exact⟨0,zR _,rfl,by rw[V0.out];rfl⟩
 case round=>
  obtain⟨k,hk,rfl,rfl⟩:=hrel;by_cases hlt:k<s.size
  ·obtain⟨c1,c2,c3⟩:=ST.out k hlt
   have hv:=VT.out k (by omega);generalize vf k=v at*
   have C3:=hid c3;clear c3;have d1:(48:Int)<=(s[k].toNat:Int):=by omega
   have d2:(s[k].toNat:Int)<=57:=by omega
   go_wp2;go_round
   case rel=>exact⟨k+1,by omega,by go_num,by rw[C3.out];show Value.int .i64 _=Value.int .i64 _;congr 1;omega⟩
   case measure=>simp[zL];omega
  ·have hk':k=s.size:=by omega
   have HK:=hid hk';clear hk';go_wp2;go_ret;exact⟨by rw[HK.out,HF.out];rfl,rfl⟩
theorem zi1 (l:List UInt8) (k:Nat):((⟨l.toArray⟩:ByteArray).extract 0 k)=⟨(l.take k).toArray⟩:=by
 apply ByteArray.ext;rw[ByteArray.data_extract];simp
theorem zel (l:List UInt8) (k:Nat):((⟨l.toArray⟩:ByteArray).extract k (⟨l.toArray⟩:ByteArray).size)=⟨(l.drop k).toArray⟩:=by
 have:(⟨l.toArray⟩:ByteArray).size=l.length:=by show l.toArray.size=_;simp
 rw[this];apply ByteArray.ext;rw[ByteArray.data_extract];simp[List.take_of_length_le]
theorem zjy (b:List UInt8) (k:Nat) (hk:k<b.length) (h1:∀j (hj:j<b.length),j<k->b[j]'hj≠47) (h2:b[k]'hk=47):
 b.takeWhile (· !=47)=b.take k/\(b.dropWhile (· !=47)).tail=b.drop (k+1)/\(47:UInt8)∈b:=by
 have e:b=b.take k++47::b.drop (k+1):=by
  rw[<-h2,List.getElem_cons_drop,List.take_append_drop]
 have hn:(47:UInt8)∉b.take k:=by
  intro h;obtain⟨j,hj,e⟩:=List.getElem_of_mem h;rw[List.getElem_take] at e;simp at hj;exact h1 j (by omega) (by omega) e
 obtain⟨t1,t2⟩:=zs9 (b:=b.drop (k+1)) hn;refine⟨?_,?_,by rw[e];simp⟩
 ·conv=>lhs;rw[e]
  exact t1
 ·conv=>lhs;rw[e]
  rw[t2];rfl
theorem zpm (b:List UInt8) (h1:∀j (hj:j<b.length),b[j]'hj≠47):b.takeWhile (· !=47)=b/\(b.dropWhile (· !=47)).tail=[]/\(47:UInt8)∉b:=by
 have hn:(47:UInt8)∉b:=λh=>by
  obtain⟨j,hj,e⟩:=List.getElem_of_mem h;exact h1 j hj e
 refine⟨zgl hn,?_,hn⟩;have:b.dropWhile (· !=47)=[]:=by
  have h2:=List.takeWhile_append_dropWhile (p:=(· !=(47:UInt8))) (l:=b);rw[zgl hn] at h2;exact List.append_right_eq_self.1 h2
 rw[this];rfl
def zc6 (m:Bool) (b:List UInt8):Value:=.tuple #[.bool m,St (b.takeWhile (· !=47)),St ((b.dropWhile (· !=47)).tail),.bool (decide ((47:UInt8)∈b))]
theorem zpq (b:List UInt8) (hm:b.head? ≠some 45) (hl:b.length<=1000000) (w:zA):
 qJ 160 #[St b] w (zc6 false b):=by
 obtain⟨t,ht⟩:=zzX (⟨b.toArray⟩:ByteArray);obtain⟨b1,b2⟩:=zds b t ht;have kf:∀k (hk:k<t.size),(t[k]'hk).toNat=47->(∀j (hb:j<t.size),j<k->(t[j]'hb).toNat≠47)->zc6 false b=.tuple #[.bool false,.string (t.extract 0 k),.string (t.extract (k+1) t.size),.bool true]:=λk hk h1 h2=>by
  have hk':k<b.length:=by omega
  obtain⟨e1,e2,e3⟩:=zjy b k hk' (λj hj hjk he=>h2 j (by omega) hjk (by rw[b2 j hj (by omega),he];rfl)) (UInt8.toNat_inj.1 (by rw[<-b2 k hk' hk,h1];rfl));unfold zc6;rw[e1,e2,decide_eq_true e3,ht,zi1,zel]
 have kn:(∀j (hb:j<t.size),(t[j]'hb).toNat≠47)->zc6 false b=.tuple #[.bool false,.string t,.string ⟨#[]⟩,.bool false]:=λh2=>by
  obtain⟨e1,e2,e3⟩:=zpm b (λj hj he=>h2 j (by omega) (by rw[b2 j hj (by omega),he];rfl));unfold zc6;rw[e1,e2,decide_eq_false e3,ht]
 have KF:=hid kf;have KN:=hid kn;clear kf kn;have h0:t.size=0\/0<t.size/\∀hb:0<t.size,(((t[0]'hb).toNat:Int)==45)=false:=by
  by_cases h:t.size=0
  ·exact .inl h
  ·refine .inr ⟨by omega,λhb=>?_⟩
   rw[beq_eq_false_iff_ne];intro h';have hb0:0<b.length:=by omega
   refine hm ?_;rw[List.head?_eq_getElem?,yB hb0];congr 1;rw[b2 0 hb0 hb] at h';exact UInt8.toNat_inj.1 (by have:(45:UInt8).toNat=45:=rfl;omega)
 have hsz:t.size<=1000000:=by omega
 show zC _ _ #[.string ⟨b.toArray⟩] _ _;rw[<-ht];clear b1 b2 ht hl hm;generalize zc6 false b=v at*
 go_enter Tryz.func160,Tryz.ntmps160;rcases h0 with h0|⟨h0,h1⟩
 ·have h0':¬(0:Int)<t.size:=by omega
  have h9:=KN.out λj hb=>by omega
  have HN:=hid h9;clear h9;go_wp2;refine wp_loop_rounds 1 ?_;rw[rounds_succ];go_wp2;refine bodyPost_ret (v:=.tuple #[.bool false,.string t,.string ⟨#[]⟩,.bool false]) (by simp[results,Tryz.results160,go_sem]) rfl ⟨by rw[HN.out],zM _ _⟩
 ·have h1':=h1 h0
  have h0':(0:Int)<t.size:=by omega
  clear h1;go_wp2;go_loop [8] (λi=>∃k:Nat,k<=t.size/\i=.int .i64 k/\Hid (∀j (hb:j<t.size),j<k->(t[j]'hb).toNat≠47)) (λi=>t.size-(zL i).toNat)
  case atStart=>exact⟨0,zR _,rfl,λj _ h=>by omega⟩
  case round=>
   clear h1';obtain⟨k,hk,rfl,hP⟩:=hrel;by_cases hlt:k<t.size
   ·by_cases d1:(t[k]'hlt).toNat=47
    ·have e1:(((t[k]'hlt).toNat:Int)==47)=true:=by rw[d1];rfl
     have h9:=KF.out k hlt d1 hP.out;have HN:=hid h9;clear d1 h9;have hki:(k:Int)<=t.size:=by omega
     have hki1:(k:Int)+1<=t.size:=by omega
     have hk0:(0:Int)<=(k:Int)+1:=by omega
     have hwk:IntKind.i64.wrap ((k:Int)+1)=(k:Int)+1:=zI _ ⟨by omega,by omega⟩;go_wp2
     (refine wp_region_quiet_lit (by kernel_rfl) (by kernel_rfl) (WQ.out ?_);(repeat(first|(apply WQ.read (by rfl);(focus(rintro W ⟨n,rfl⟩;go_simp;try with_reducible rfl));try simp only[zzQ])|(apply WQ.skip (by rfl);try simp only[zzQ])));refine WQ.nil ?_;rintro _ ⟨nq,rfl⟩)
     go_wp2;refine bodyPost_ret (v:=.tuple #[.bool false,.string (t.extract 0 k),.string (t.extract (k+1) t.size),.bool true]) (by simp[results,Tryz.results160,go_sem]) rfl ⟨by rw[HN.out],zao (zM _ _) _⟩
    ·have e1:(((t[k]'hlt).toNat:Int)==47)=false:=by rw[beq_eq_false_iff_ne];omega
     have hnext:∀j (hb:j<t.size),j<k+1->(t[j]'hb).toNat≠47:=λj hb h=>by
      by_cases e:j=k
      ·subst e;exact d1
      ·exact hP.out j hb (by omega)
     have HN:=hid hnext;clear hnext d1;go_wp2;go_round
     case rel=>exact⟨k+1,by omega,by go_num,HN⟩
     case measure=>simp[zL];omega
   ·have h9:=KN.out λj hb=>hP.out j hb (by omega)
    have HN:=hid h9;clear h9;go_wp2;refine bodyPost_ret (v:=.tuple #[.bool false,.string t,.string ⟨#[]⟩,.bool false]) (by simp[results,Tryz.results160,go_sem]) rfl ⟨by rw[HN.out],zM _ _⟩
theorem zqd (b:List UInt8) (hl:b.length<=1000000) (w:zA):
 qJ 160 #[St (45::b)] w (zc6 true b):=by
 obtain⟨t,ht⟩:=zzX (⟨b.toArray⟩:ByteArray);obtain⟨b1,b2⟩:=zds b t ht;have kf:∀k (hk:k<t.size),(t[k]'hk).toNat=47->(∀j (hb:j<t.size),j<k->(t[j]'hb).toNat≠47)->zc6 true b=.tuple #[.bool true,.string (t.extract 0 k),.string (t.extract (k+1) t.size),.bool true]:=λk hk h1 h2=>by
  have hk':k<b.length:=by omega
  obtain⟨e1,e2,e3⟩:=zjy b k hk' (λj hj hjk he=>h2 j (by omega) hjk (by rw[b2 j hj (by omega),he];rfl)) (UInt8.toNat_inj.1 (by rw[<-b2 k hk' hk,h1];rfl));unfold zc6;rw[e1,e2,decide_eq_true e3,ht,zi1,zel]
 have kn:(∀j (hb:j<t.size),(t[j]'hb).toNat≠47)->zc6 true b=.tuple #[.bool true,.string t,.string ⟨#[]⟩,.bool false]:=λh2=>by
  obtain⟨e1,e2,e3⟩:=zpm b (λj hj he=>h2 j (by omega) (by rw[b2 j hj (by omega),he];rfl));unfold zc6;rw[e1,e2,decide_eq_false e3,ht]
 have KF:=hid kf;have KN:=hid kn;clear kf kn;obtain⟨s,hs⟩:=zzX (⟨((45:UInt8)::b).toArray⟩:ByteArray);obtain⟨s1,s2,s3,s4,s5⟩:=zgu b s hs;have h45:=s4 s2;have hsl:(1:Int)<=s.size:=by omega
 have hs0:(0:Int)<s.size:=by omega
 rw[<-ht] at s5;have hsz:t.size<=1000000:=by omega
 show zC _ _ #[.string ⟨((45:UInt8)::b).toArray⟩] _ _;rw[<-hs];clear b1 b2 ht hl s1 s3 s4 hs;generalize zc6 true b=v at*
 go_enter Tryz.func160,Tryz.ntmps160;go_wp2;go_loop [8] (λi=>∃k:Nat,k<=t.size/\i=.int .i64 k/\Hid (∀j (hb:j<t.size),j<k->(t[j]'hb).toNat≠47)) (λi=>t.size-(zL i).toNat)
 case atStart=>exact⟨0,zR _,rfl,λj _ h=>by omega⟩
 case round=>
  clear h45 hsl hs0 s5;obtain⟨k,hk,rfl,hP⟩:=hrel;by_cases hlt:k<t.size
  ·by_cases d1:(t[k]'hlt).toNat=47
   ·have e1:(((t[k]'hlt).toNat:Int)==47)=true:=by rw[d1];rfl
    have h9:=KF.out k hlt d1 hP.out;have HN:=hid h9;clear d1 h9;have hki:(k:Int)<=t.size:=by omega
    have hki1:(k:Int)+1<=t.size:=by omega
    have hk0:(0:Int)<=(k:Int)+1:=by omega
    have hwk:IntKind.i64.wrap ((k:Int)+1)=(k:Int)+1:=zI _ ⟨by omega,by omega⟩;go_wp2
    (refine wp_region_quiet_lit (by kernel_rfl) (by kernel_rfl) (WQ.out ?_);(repeat(first|(apply WQ.read (by rfl);(focus(rintro W ⟨n,rfl⟩;go_simp;try with_reducible rfl));try simp only[zzQ])|(apply WQ.skip (by rfl);try simp only[zzQ])));refine WQ.nil ?_;rintro _ ⟨nq,rfl⟩)
    go_wp2;refine bodyPost_ret (v:=.tuple #[.bool true,.string (t.extract 0 k),.string (t.extract (k+1) t.size),.bool true]) (by simp[results,Tryz.results160,go_sem]) rfl ⟨by rw[HN.out],zao (zM _ _) _⟩
   ·have e1:(((t[k]'hlt).toNat:Int)==47)=false:=by rw[beq_eq_false_iff_ne];omega
    have hnext:∀j (hb:j<t.size),j<k+1->(t[j]'hb).toNat≠47:=λj hb h=>by
     by_cases e:j=k
     ·subst e;exact d1
     ·exact hP.out j hb (by omega)
    have HN:=hid hnext;clear hnext d1;go_wp2;go_round
    case rel=>exact⟨k+1,by omega,by go_num,HN⟩
    case measure=>simp[zL];omega
  ·have h9:=KN.out λj hb=>hP.out j hb (by omega)
   have HN:=hid h9;clear h9;go_wp2;refine bodyPost_ret (v:=.tuple #[.bool true,.string t,.string ⟨#[]⟩,.bool false]) (by simp[results,Tryz.results160,go_sem]) rfl ⟨by rw[HN.out],zM _ _⟩
theorem zlq (l:List UInt8) (hl:l.length<=1000000) (w:zA):
 qJ 160 #[St l] w (.tuple #[.bool (decide (l.head? =some 45)),St (upS l),St (dnS l),.bool (decide ((47:UInt8)∈bare l))]):=by
 rcases zgm l with⟨h1,h2⟩|⟨h1,h2⟩
 ·rw[decide_eq_true h1]
  have:=zqd (bare l) (by have:=congrArg List.length h2;simp at this;omega) w;rw[<-h2] at this;exact this
 ·rw[decide_eq_false h1]
  have:=zpq (bare l) (by rw[<-h2];exact h1) (by rw[<-h2];exact hl) w;rw[<-h2] at this;unfold upS dnS;rw[<-h2];exact this
theorem zsj (n:Nat) (hl:(zD n).length<=300) (w:zA):
 zC zF 270 #[St (zD n)] w λe w'=>e=.returned (.int .i64 0)/\w'=w:=by
 obtain⟨s,hs⟩:=zzX (⟨(zD n++[]).toArray⟩:ByteArray);obtain⟨b1,b2, -⟩:=zii (zd7 n) s hs;have hzero:(zD n).length<=1\/∀hb:0<s.size,(s[0]'hb).toNat≠48:=zjz n [] s hs;have hb2:∀k (hb:k<s.size),48<=(s[k]'hb).toNat/\(s[k]'hb).toNat<=57:=λk hb=>⟨(b2 k (by simp at b1;omega) hb).1,(b2 k (by simp at b1;omega) hb).2.1⟩;have hpos:1<=(zD n).length:=by have:=zbn (n:Int);unfold digs at this;simpa using this
 rw[List.append_nil] at hs;have hlen:(zD n).length=s.size:=by rw[b1];simp
 show zC _ _ #[.string ⟨(zD n).toArray⟩] _ _;rw[hlen] at hl hzero hpos;rw[<-hs];have B2:=hid hb2;clear b1 b2 hb2 hs hlen;have h0:0<s.size:=by omega
 have h0':(0:Int)<s.size:=by omega
 have hz:((0:Int)==s.size)=false:=by rw[beq_eq_false_iff_ne];omega
 have h45:(((s[0]'h0).toNat:Int)==45)=false:=by rw[beq_eq_false_iff_ne];have:=(B2.out 0 h0).1;omega
 have hf:(((s[0]'h0).toNat:Int)==48)=true/\¬(1:Int)<s.size\/(((s[0]'h0).toNat:Int)==48)=false:=by
  by_cases h:(s[0]'h0).toNat=48
  ·left
   refine⟨by rw[h];rfl,?_⟩;rcases hzero with h1|h1
   ·omega
   ·exact absurd h (h1 h0)
  ·right;rw[beq_eq_false_iff_ne];omega
 have hwl:IntKind.i64.wrap ((s.size:Int)-0)=(s.size:Int):=by rw[Int.sub_zero];exact zI _ ⟨by omega,by omega⟩
 have hwl2:IntKind.i64.wrap (s.size:Int)=(s.size:Int):=zI _ ⟨by omega,by omega⟩;have h300:¬(300:Int)<s.size:=by omega
 clear hzero;go_enter Tryz.func270,Tryz.ntmps270;rcases hf with⟨f1,f2⟩|f1
 all_goals (
 go_wp2;go_loop [4] (λi=>∃k:Nat,k<=s.size/\i=.int .i64 k) (λi=>s.size-(zL i).toNat)
 case atStart=>exact⟨0,zR _,rfl⟩
 case round=>
  obtain⟨k,hk,rfl⟩:=hrel;by_cases hlt:k<s.size
  ·obtain⟨c1,c2⟩:=B2.out k hlt
   have d1:(48:Int)<=(s[k].toNat:Int):=by omega
   have d2:(s[k].toNat:Int)<=57:=by omega
   go_wp2;go_round
   case rel=>exact⟨k+1,by omega,by go_num⟩
   case measure=>simp[zL];omega
  ·go_wp2
   go_ret
   first|exact⟨rfl,rfl⟩|exact rfl|trivial)
theorem zxs (m n:Nat) (hm:(zD m).length<=300) (hn:(zD n).length<=300) (w:zA):
 zC zF 225 #[St (zD m),St (zD n)] w λe w'=>e=.returned (.int .i64 0)/\w'=w:=by
 have c1:=zsj m hm w;have c2:=zsj n hn w;generalize zD m=x at*
 generalize zD n=y at*
 have C1:=hid c1;have C2:=hid c2;clear c1 c2 hm hn;go_enter Tryz.func225,Tryz.ntmps225;go_wp21;refine C1.out.mono ?_;rintro e w' ⟨rfl,rfl⟩;go_wp21;refine C2.out.mono ?_;rintro e w'' ⟨rfl,rfl⟩;go_wp21;go_ret;exact⟨rfl,rfl⟩
theorem zhb {l:List UInt8} (h:∀c∈l,48<=c.toNat/\c.toNat<=57) {k:Nat} (hk:k<=17):val (l.take k)<100000000000000000:=by
 have h1:=zjc (l.take k) (λc hc=>h c (List.mem_of_mem_take hc));have h2:(10:Nat)^(l.take k).length<=10^17:=yF (by omega) (by simp;omega);exact zS h1 h2
theorem zsk (n:Nat) (hl:(zD n).length<=17) (w:zA):
 zC zF 271 #[St (zD n)] w λe w'=>e=.returned (.tuple #[I n,.bool true])/\w'=w:=by
 obtain⟨l,hll⟩:=zzX (zD n);have hd:=zan n;have hvn:=zb2 n;have hpos:1<=(zD n).length:=by have:=zbn (n:Int);unfold digs at this;simpa using this
 rw[<-hll] at hd hvn hl hpos⊢;obtain⟨s,hs⟩:=zzX (⟨l.toArray⟩:ByteArray);obtain⟨b1,b2⟩:=zds l s hs;have hvt:=λk hk=>zhb (l:=l) hd (k:=k) hk;have hst:∀k (hb:k<s.size),48<=(s[k]'hb).toNat/\(s[k]'hb).toNat<=57/\val (l.take (k+1))=10*val (l.take k)+((s[k]'hb).toNat-48):=λk hb=>by
  have hk:k<l.length:=by omega
  rw[b2 k hk hb,List.take_succ_eq_append_getElem hk,zde];exact⟨(hd _ (zY hk)).1,(hd _ (zY hk)).2,rfl⟩
 have hfull:val (l.take s.size)=n:=by rw[b1,List.take_length];exact hvn
 show zC _ _ #[.string ⟨l.toArray⟩] _ _;rw[<-hs];have hs17:s.size<=17:=by omega
 have hs0:0<s.size:=by omega
 generalize hvf:(λk=>val (l.take k))=vf at*
 have hvt':∀k,k<=17->vf k<100000000000000000:=by rw[<-hvf];exact hvt
 have hst':∀k (hb:k<s.size),48<=(s[k]'hb).toNat/\(s[k]'hb).toNat<=57/\vf (k+1)=10*vf k+((s[k]'hb).toNat-48):=by rw[<-hvf];exact hst
 have hfull':vf s.size=n:=by rw[<-hvf];exact hfull
 have hv0:vf 0=0:=by rw[<-hvf];rfl
 have VT:=hid hvt';have ST:=hid hst';have HF:=hid hfull';have V0:=hid hv0;have h45:(((s[0]'hs0).toNat:Int)==45)=false:=by rw[beq_eq_false_iff_ne];have:=(hst' 0 hs0).1;omega
 clear hvt' hst' hfull' hv0 hvt hst hfull hvf b1 b2 hs hd hl hll hvn hpos;go_enter Tryz.func271,Tryz.ntmps271;go_wp2;go_loop [4,5] (λa i=>∃k:Nat,k<=s.size/\i=.int .i64 k/\a=.int .i64 (vf k:Nat)) (λ_ i=>s.size-(zL i).toNat)
 case atStart=>exact⟨0,zR _,rfl,by rw[V0.out];rfl⟩
 case round=>
  obtain⟨k,hk,rfl,rfl⟩:=hrel;by_cases hlt:k<s.size
  ·obtain⟨c1,c2,c3⟩:=ST.out k hlt
   have hv:=VT.out k (by omega);generalize vf k=v at*
   have C3:=hid c3;clear c3;have d1:(48:Int)<=(s[k].toNat:Int):=by omega
   have d2:(s[k].toNat:Int)<=57:=by omega
   have d3:((s[k].toNat:Int) !=45)=true:=by simp;omega
   go_wp2;go_round
   case rel=>exact⟨k+1,by omega,by go_num,by rw[C3.out];show Value.int .i64 _=Value.int .i64 _;congr 1;omega⟩
   case measure=>simp[zL];omega
  ·have hk':k=s.size:=by omega
   have HK:=hid hk';clear hk';go_wp2;go_ret2;exact⟨by rw[HK.out,HF.out];rfl,rfl⟩
theorem zzv (m n:Nat) (hm:(zD m).length<=17) (hn:(zD n).length<=17) (w:zA):
 zC zF 226 #[St (zD m),St (zD n)] w λe w'=>e=.returned (.tuple #[I m,I n,.bool true])/\w'=w:=by
 have c1:=zsk m hm w;have c2:=zsk n hn w;generalize zD m=x at*
 generalize zD n=y at*
 have C1:=hid c1;have C2:=hid c2;clear c1 c2 hm hn;go_enter Tryz.func226,Tryz.ntmps226;go_wp21;refine C1.out.mono ?_;rintro e w' ⟨rfl,rfl⟩;go_wp21;refine C2.out.mono ?_;rintro e w'' ⟨rfl,rfl⟩;go_wp21;go_ret3;exact⟨rfl,rfl⟩
theorem z0d (x y:Nat) (hx:(zD x).length<=17) (hy:(zD y).length<=17) (w:zA) (hw:Wd w):
 qJ 164 #[St (zD x),St (zD y)] w (.tuple #[St (zD (Nat.gcd x y)),.int .i64 0]):=by
 have x3:=(zaf x 17 (by omega)).1 hx;have y3:=(zaf y 17 (by omega)).1 hy;have x2:(x:Int)<1000000000000000000:=by omega
 have y2:(y:Int)<1000000000000000000:=by omega
 clear x3 y3;have x1: -1000000000000000000<(x:Int):=by omega
 have y1: -1000000000000000000<(y:Int):=by omega
 have hb:=λW=>zxs x y (by omega) (by omega) W;have hs:=λW=>zzv x y hx hy W;have HB:=hid hb;clear hb;have HS:=hid hs;clear hs hx hy;have HW:=hid hw;clear hw;obtain⟨g,hg⟩:=zzX (Nat.gcd x y);rw[<-hg];have hg2:g=Int.gcd (x:Int) (y:Int):=by rw[hg];rfl
 have HG:=hid hg2;clear hg hg2;have hB2:qL w w:=zM _ w;rw[<-Str.zad g];generalize zD x=sx at*
 generalize zD y=sy at*
 go_enter Tryz.func164,Tryz.ntmps164;go_wp21;refine zzM (HB.out w) λw1 hw1=>?_;have hw2:=hw1.symm;subst hw2;go_wp21;refine zzM (HS.out _) λw2 hw1=>?_;have hw2:=hw1.symm;subst hw2;go_wp21;go_loopw [7,8] (λa b wr=>∃m n:Int,a=.int .i64 m/\b=.int .i64 n/\Hid (Int.gcd m n=g)/\(-1000000000000000000<m/\m<1000000000000000000)/\(-1000000000000000000<n/\n<1000000000000000000)/\Hid (qL w wr))
  (λ_ b _=>(zL b).natAbs)
 case atStart=>exact⟨x,y,rfl,rfl,HG.out.symm,⟨x1,x2⟩,⟨y1,y2⟩,hB2⟩
 case round=>
  clear x1 x2 y1 y2 hB2;obtain⟨m,n,rfl,rfl,hgm,⟨m1,m2⟩,⟨n1,n2⟩,hBr⟩:=hrel;by_cases h0:n=0
  ·subst h0
   have hgm':Int.gcd m 0=g:=hgm.out;rw[Int.gcd_zero_right] at hgm';have hmx:max m (-m)=(g:Int):=by omega
   have HM:=hid hgm';clear hgm hgm';have hg1:(g:Int)<=1000000000000000000:=by omega
   have hneg:IntKind.i64.wrap (-m)= -m:=zI _ (by omega);go_wp21;refine zzM (zb3 (g:Int) (by omega) (by omega) wr (HW.out.below hBr.out)) λw3 hb3=>?_;have hB3:=hBr.out.trans (hb3.mono hBr.out.size);clear hb3;go_wp21;go_ret2;exact⟨rfl,hB3⟩
  ·have hn0:(n !=0)=true:=by simpa using h0
   have ht1:(m.tmod n).natAbs<n.natAbs:=by rw[Int.natAbs_tmod];exact Nat.mod_lt _ (by omega)
   obtain⟨t,ht⟩:=zzX (m.tmod n);have hgt:=zmt m n;rw[<-ht] at ht1 hgt;have hwr:IntKind.i64.wrap (m.tmod n)=t:=by rw[<-ht];exact zI _ (by omega)
   have HGT:=hid hgt;have HT:=hid ht;clear hgt ht hwr;go_wp2
   (refine wp_region_quiet_lit (by kernel_rfl) (by kernel_rfl) (WQ.out ?_);(repeat(first|(apply WQ.read (by rfl);(focus(rintro W ⟨n,rfl⟩;go_simp;try with_reducible rfl));try simp only[zzQ])|(apply WQ.skip (by rfl);try simp only[zzQ])));refine WQ.nil ?_;rintro _ ⟨nq,rfl⟩)
   go_wp2;go_roundw
   case rel=>exact⟨n,t,rfl,by rw[HT.out],HGT.out.trans hgm.out,⟨n1,n2⟩,by omega,zao hBr.out _⟩
   case measure=>show(m.tmod n).natAbs<n.natAbs;rw[<-HT.out];exact ht1
theorem zuh (l:List UInt8):okS l↔zcb (upS l)/\¬(l.head? =some 45/\upS l=[48])/\((47:UInt8)∉bare l\/(zcb (dnS l)/\dnS l≠[48]/\dnS l≠[49]/\Nat.gcd (val (upS l)) (val (dnS l))=1)):=by
 unfold okS hasS;constructor
 ·rintro⟨h1,h2,h3⟩
  refine⟨h1,h2,?_⟩;by_cases h:(47:UInt8)∈bare l
  ·exact .inr (h3 h)
  ·exact .inl h
 ·rintro⟨h1,h2,h3⟩
  refine⟨h1,h2,λh=>?_⟩;rcases h3 with h3|h3
  ·exact absurd h h3
  ·exact h3
theorem zeb (l:List UInt8) (s:ByteArray) (hs:s=⟨l.toArray⟩) (k:List UInt8):(s.toList==k)=decide (l=k):=by
 rw[hs,ByteArray.toList_eq];by_cases h:l=k
 ·subst h;simp
 ·rw[decide_eq_false h];simpa using h
theorem zsl (x u v:ByteArray) (m sl b1 b2 z1 z2 z3:Bool) (g:Nat) (Q:Prop) (hu:u.size<=300) (hv:v.size<=300)
 (HQ:Hid (Q↔b1=true/\¬(m=true/\z3=true)/\(sl=false\/(b2=true/\z1=false/\z2=false/\g=1))))
 (e1:(v.toList==[48])=z1) (e2:(v.toList==[49])=z2) (e3:(u.toList==[48])=z3)
 (SP:Hid (∀W:zA,qJ 160 #[.string x] W (.tuple #[.bool m,.string u,.string v,.bool sl])))
 (D1:Hid (∀W:zA,zC zF 161 #[.string u] W λe w'=>e=.returned (.bool b1)/\w'=W))
 (D2:Hid (∀W:zA,zC zF 161 #[.string v] W λe w'=>e=.returned (.bool b2)/\w'=W))
 (SG:Hid (b1=true->b2=true->u.size<=9->v.size<=9->∃n d:Nat,(∀W:zA,zC zF 163 #[.string u] W λe w'=>e=.returned (I n)/\w'=W)/\(∀W:zA,zC zF 163 #[.string v] W λe w'=>e=.returned (I d)/\w'=W)/\
   ∀W:zA,qJ 162 #[I n,I d] W (I g)))
 (BG:Hid (b1=true->b2=true->∃t:ByteArray,(t.toList==[49])=decide (g=1)/\qK 164 #[.string u,.string v] (.tuple #[.string t,.int .i64 0])))
 (w:zA) (HW:Hid (Wd w)):
 zC zF 86 #[.string x] w λe w'=>∃r:Int,e=.returned (.int .i64 r)/\(r=0↔Q)/\zB w.heap.size w w':=by
 have u300:¬(300:Int)<u.size:=by omega
 have v300:¬(300:Int)<v.size:=by omega
 go_enter Tryz.func86,Tryz.ntmps86;go_wp21;refine zzM (SP.out w) λw1 hB=>?_;go_wp21;refine zzM (D1.out w1) λw2 hw=>?_;have hw2:=hw.symm;subst hw2;clear hw;cases b1
 ·have HN:=hid (by rw[HQ.out];simp:¬Q)
  go_wp21
  all_goals first|exact(zzU ‹_›).elim|skip
  go_ret;exact⟨11,rfl,⟨λh=>by simp at h,λh=>absurd h HN.out⟩,hB⟩
 ·cases sl
  ·cases m
   ·have HN:=hid (by rw[HQ.out];simp:Q)
    go_wp21
    all_goals first|exact(zzU ‹_›).elim|skip
    go_ret;exact⟨0,rfl,⟨λ_=>HN.out,λ_=>rfl⟩,hB⟩
   ·cases z3
    ·have HN:=hid (by rw[HQ.out];simp:Q)
     go_wp21
     all_goals first|exact(zzU ‹_›).elim|skip
     go_ret;exact⟨0,rfl,⟨λ_=>HN.out,λ_=>rfl⟩,hB⟩
    ·have HN:=hid (by rw[HQ.out];simp:¬Q)
     go_wp21
     all_goals first|exact(zzU ‹_›).elim|skip
     go_ret;exact⟨11,rfl,⟨λh=>by simp at h,λh=>absurd h HN.out⟩,hB⟩
  ·go_wp21
   all_goals first|exact(zzU ‹_›).elim|skip
   refine zzM (D2.out _) λw2 hw=>?_;have hw2:=hw.symm;subst hw2;clear hw;cases b2
   ·have HN:=hid (by rw[HQ.out];simp:¬Q)
    go_wp21
    all_goals first|exact(zzU ‹_›).elim|skip
    go_ret;exact⟨11,rfl,⟨λh=>by simp at h,λh=>absurd h HN.out⟩,hB⟩
   ·cases z1
    ·cases z2
     ·cases m
      ·by_cases h9:u.size<=9
       ·by_cases k9:v.size<=9
        ·have hu9:(u.size:Int)<=9:=by omega
         have hv9:(v.size:Int)<=9:=by omega
         obtain⟨n,d,s1,s2,s3⟩:=SG.out (by simp) (by simp) (by omega) (by omega);have S1:=hid s1;have S2:=hid s2;have S3:=hid s3;clear s1 s2 s3;go_wp21
         all_goals first|exact(zzU ‹_›).elim|skip
         refine zzM (S1.out _) λw2 hw=>?_;have hw2:=hw.symm;subst hw2;clear hw;go_wp21;refine zzM (S2.out _) λw2 hw=>?_;have hw2:=hw.symm;subst hw2;clear hw;go_wp21;refine zzM (S3.out _) λw2 hb2=>?_;have hB:=hB.trans (hb2.mono hB.size);clear hb2;by_cases hg:g=1
         ·have HN:=hid (by rw[HQ.out];simp[hg]:Q)
          have hgb:((g:Int) !=1)=false:=by subst hg;rfl
          clear hg;go_wp21;go_ret;exact⟨0,rfl,⟨λ_=>HN.out,λ_=>rfl⟩,hB⟩
         ·have HN:=hid (by rw[HQ.out];simp[hg]:¬Q)
          have hgb:((g:Int) !=1)=true:=by simp;omega
          clear hg;go_wp21;go_ret;exact⟨11,rfl,⟨λh=>by simp at h,λh=>absurd h HN.out⟩,hB⟩
        ·have hu9:(u.size:Int)<=9:=by omega
         have hv9:¬(v.size:Int)<=9:=by omega
         obtain⟨t,t1,t2⟩:=BG.out (by simp) (by simp);have T2:=hid (t2 w1 (HW.out.below hB));clear t2;go_wp21
         all_goals first|exact(zzU ‹_›).elim|skip
         refine zzM T2.out λw2 hb2=>?_;have hB:=hB.trans (hb2.mono hB.size);clear hb2 T2;by_cases hg:g=1
         ·have HN:=hid (by rw[HQ.out];simp[hg]:Q)
          rw[decide_eq_true hg] at t1;clear hg;go_wp21;go_ret;exact⟨0,rfl,⟨λ_=>HN.out,λ_=>rfl⟩,hB⟩
         ·have HN:=hid (by rw[HQ.out];simp[hg]:¬Q)
          rw[decide_eq_false hg] at t1;clear hg;go_wp21;go_ret;exact⟨11,rfl,⟨λh=>by simp at h,λh=>absurd h HN.out⟩,hB⟩
       ·have hu9:¬(u.size:Int)<=9:=by omega
        obtain⟨t,t1,t2⟩:=BG.out (by simp) (by simp);have T2:=hid (t2 w1 (HW.out.below hB));clear t2;go_wp21
        all_goals first|exact(zzU ‹_›).elim|skip
        refine zzM T2.out λw2 hb2=>?_;have hB:=hB.trans (hb2.mono hB.size);clear hb2 T2;by_cases hg:g=1
        ·have HN:=hid (by rw[HQ.out];simp[hg]:Q)
         rw[decide_eq_true hg] at t1;clear hg;go_wp21;go_ret;exact⟨0,rfl,⟨λ_=>HN.out,λ_=>rfl⟩,hB⟩
        ·have HN:=hid (by rw[HQ.out];simp[hg]:¬Q)
         rw[decide_eq_false hg] at t1;clear hg;go_wp21;go_ret;exact⟨11,rfl,⟨λh=>by simp at h,λh=>absurd h HN.out⟩,hB⟩
      ·cases z3
       ·by_cases h9:u.size<=9
        ·by_cases k9:v.size<=9
         ·have hu9:(u.size:Int)<=9:=by omega
          have hv9:(v.size:Int)<=9:=by omega
          obtain⟨n,d,s1,s2,s3⟩:=SG.out (by simp) (by simp) (by omega) (by omega);have S1:=hid s1;have S2:=hid s2;have S3:=hid s3;clear s1 s2 s3;go_wp21
          all_goals first|exact(zzU ‹_›).elim|skip
          refine zzM (S1.out _) λw2 hw=>?_;have hw2:=hw.symm;subst hw2;clear hw;go_wp21;refine zzM (S2.out _) λw2 hw=>?_;have hw2:=hw.symm;subst hw2;clear hw;go_wp21;refine zzM (S3.out _) λw2 hb2=>?_;have hB:=hB.trans (hb2.mono hB.size);clear hb2;by_cases hg:g=1
          ·have HN:=hid (by rw[HQ.out];simp[hg]:Q)
           have hgb:((g:Int) !=1)=false:=by subst hg;rfl
           clear hg;go_wp21;go_ret;exact⟨0,rfl,⟨λ_=>HN.out,λ_=>rfl⟩,hB⟩
          ·have HN:=hid (by rw[HQ.out];simp[hg]:¬Q)
           have hgb:((g:Int) !=1)=true:=by simp;omega
           clear hg;go_wp21;go_ret;exact⟨11,rfl,⟨λh=>by simp at h,λh=>absurd h HN.out⟩,hB⟩
         ·have hu9:(u.size:Int)<=9:=by omega
          have hv9:¬(v.size:Int)<=9:=by omega
          obtain⟨t,t1,t2⟩:=BG.out (by simp) (by simp);have T2:=hid (t2 w1 (HW.out.below hB));clear t2;go_wp21
          all_goals first|exact(zzU ‹_›).elim|skip
          refine zzM T2.out λw2 hb2=>?_;have hB:=hB.trans (hb2.mono hB.size);clear hb2 T2;by_cases hg:g=1
          ·have HN:=hid (by rw[HQ.out];simp[hg]:Q)
           rw[decide_eq_true hg] at t1;clear hg;go_wp21;go_ret;exact⟨0,rfl,⟨λ_=>HN.out,λ_=>rfl⟩,hB⟩
          ·have HN:=hid (by rw[HQ.out];simp[hg]:¬Q)
           rw[decide_eq_false hg] at t1;clear hg;go_wp21;go_ret;exact⟨11,rfl,⟨λh=>by simp at h,λh=>absurd h HN.out⟩,hB⟩
        ·have hu9:¬(u.size:Int)<=9:=by omega
         obtain⟨t,t1,t2⟩:=BG.out (by simp) (by simp);have T2:=hid (t2 w1 (HW.out.below hB));clear t2;go_wp21
         all_goals first|exact(zzU ‹_›).elim|skip
         refine zzM T2.out λw2 hb2=>?_;have hB:=hB.trans (hb2.mono hB.size);clear hb2 T2;by_cases hg:g=1
         ·have HN:=hid (by rw[HQ.out];simp[hg]:Q)
          rw[decide_eq_true hg] at t1;clear hg;go_wp21;go_ret;exact⟨0,rfl,⟨λ_=>HN.out,λ_=>rfl⟩,hB⟩
         ·have HN:=hid (by rw[HQ.out];simp[hg]:¬Q)
          rw[decide_eq_false hg] at t1;clear hg;go_wp21;go_ret;exact⟨11,rfl,⟨λh=>by simp at h,λh=>absurd h HN.out⟩,hB⟩
       ·have HN:=hid (by rw[HQ.out];simp:¬Q)
        go_wp21
        all_goals first|exact(zzU ‹_›).elim|skip
        go_ret;exact⟨11,rfl,⟨λh=>by simp at h,λh=>absurd h HN.out⟩,hB⟩
     ·have HN:=hid (by rw[HQ.out];simp:¬Q)
      go_wp21
      all_goals first|exact(zzU ‹_›).elim|skip
      go_ret;exact⟨11,rfl,⟨λh=>by simp at h,λh=>absurd h HN.out⟩,hB⟩
    ·have HN:=hid (by rw[HQ.out];simp:¬Q)
     go_wp21
     all_goals first|exact(zzU ‹_›).elim|skip
     go_ret;exact⟨11,rfl,⟨λh=>by simp at h,λh=>absurd h HN.out⟩,hB⟩
theorem zta (g:Nat):zD g=[49]↔g=1:=by
 have e:zD 1=[49]:=by rw[zae (by omega)];rfl
 constructor
 ·intro h;exact zfk (h.trans e.symm)
 ·rintro rfl;exact e
theorem zxt (l:List UInt8) (hu:(upS l).length<=17) (hv:(dnS l).length<=17) (hl:l.length<=1000) (w:zA) (hw:Wd w):
 zC zF 86 #[St l] w λe w'=>∃r:Int,e=.returned (.int .i64 r)/\(r=0↔okS l)/\zB w.heap.size w w':=by
 classical
 have sz:∀k:List UInt8,(⟨k.toArray⟩:ByteArray).size=k.length:=λk=>by show k.toArray.size=_;simp
 have hd:∀k:List UInt8,k.length<=17->∀W,zC zF 161 #[.string ⟨k.toArray⟩] W (λe w'=>e=.returned (.bool (decide (zcb k)))/\w'=W):=λk hk W=>by
  refine(zsg k (by omega) W).mono ?_;rintro e w' ⟨b,rfl,h,rfl⟩;refine⟨?_,rfl⟩;congr 2;cases b
  ·rw[eq_comm,decide_eq_false_iff_not];intro h';exact absurd (h.2 h') (by simp)
  ·rw[eq_comm,decide_eq_true_iff];exact h.1 rfl
 refine zsl ⟨l.toArray⟩ ⟨(upS l).toArray⟩ ⟨(dnS l).toArray⟩ (decide (l.head? =some 45)) (decide ((47:UInt8)∈bare l)) (decide (zcb (upS l))) (decide (zcb (dnS l))) (decide (dnS l=[48])) (decide (dnS l=[49])) (decide (upS l=[48]))
  (Nat.gcd (val (upS l)) (val (dnS l))) (okS l) (by rw[sz];omega) (by rw[sz];omega) (hid ?_) (zeb _ _ rfl _) (zeb _ _ rfl _) (zeb _ _ rfl _)
  (hid λW=>zlq l (by omega) W) (hid λW=>hd _ hu W) (hid λW=>hd _ hv W) (hid λh1 h2 h3 h4=>?_) (hid λh1 h2=>?_) w (hid hw)
 ·rw[zuh]
  simp only[decide_eq_true_eq,decide_eq_false_iff_not,ne_eq]
 ·rw[sz] at h3 h4
  have n1:zcb (upS l):=of_decide_eq_true h1;have n2:zcb (dnS l):=of_decide_eq_true h2;refine⟨val (upS l),val (dnS l),λW=>zlj _ n1.2.1 h3 W,λW=>zlj _ n2.2.1 h4 W,λW=>?_⟩;have b1:=zS (zjc _ n1.2.1) (yF (by omega) h3:10^(upS l).length<=10^9);have b2:=zS (zjc _ n2.2.1) (yF (by omega) h4:10^(dnS l).length<=10^9);refine(zxf _ _ (by omega) (by omega) W).mono ?_;rintro e w' ⟨nd,rfl,rfl⟩;exact⟨rfl,zao (zM _ _) _⟩
 ·have n1:zcb (upS l):=of_decide_eq_true h1
  have n2:zcb (dnS l):=of_decide_eq_true h2;refine⟨⟨(zD (Nat.gcd (val (upS l)) (val (dnS l)))).toArray⟩,?_,λW hW=>?_⟩
  ·rw[zeb _ _ rfl]
   exact decide_eq_decide.2 (zta _)
  ·have:=z0d (val (upS l)) (val (dnS l)) (by rw[zdd n1];exact hu) (by rw[zdd n2];exact hv) W hW
   rwa [zdd n1,zdd n2] at this
end Go.Proofs.YtnjiiafnneillaaGreatDoor
namespace Go.Proofs.YtnjiiafnneillaaGreatDoor
open Go.RowKit Go.Shelf Lib Str Limb Geo
attribute [local go_sem] Oper.semAt_some
def zny (x:List UInt8×List UInt8):Prop:=x.1.length<=12/\x.2.length<=12/\okS x.1/\okS x.2
def BoolP (w:zA) (G:Prop) (e:Ending) (w':zA):Prop:=∃b:Bool,e=.returned (.bool b)/\(b=false↔G)/\zB w.heap.size w w'
theorem BoolP.no {w w':zA} {G:Prop} (h:¬G) (hb:qL w w'):BoolP w G (.returned (.bool true)) w':=⟨true,rfl,⟨λk=>by simp at k,λk=>absurd k h⟩,hb⟩
theorem BoolP.yes {w w':zA} {G:Prop} (h:G) (hb:qL w w'):BoolP w G (.returned (.bool false)) w':=⟨false,rfl,⟨λ_=>h,λ_=>rfl⟩,hb⟩
theorem yge (l:List UInt8):(upS l).length<=l.length/\(dnS l).length<=l.length:=by
 have hb:(bare l).length<=l.length:=by
  rcases zgm l with⟨_,h⟩|⟨_,h⟩
  ·have:=congrArg List.length h;simp at this;omega
  ·rw[<-h];exact zN _
 constructor
 ·exact Nat.le_trans (List.takeWhile_sublist _).length_le hb
 ·unfold dnS
  have:=(List.dropWhile_sublist (p:=(· !=(47:UInt8))) (l:=bare l)).length_le;simp;omega
theorem zlw (l:List UInt8) (h:l.length<=12) (w:zA) (hw:Wd w):
 zC zF 86 #[St l] w λe w'=>∃r:Int,e=.returned (.int .i64 r)/\(r=0↔okS l)/\zB w.heap.size w w':=
 zxt l (by have:=(yge l).1;omega) (by have:=(yge l).2;omega) (by omega) w hw
theorem zs3 (x y:ByteArray) (Q1 Q2:Prop)
 (C1:Hid (x.size<=12->∀W:zA,Wd W->zC zF 86 #[.string x] W λe w'=>∃r:Int,e=.returned (.int .i64 r)/\(r=0↔Q1)/\zB W.heap.size W w'))
 (C2:Hid (y.size<=12->∀W:zA,Wd W->zC zF 86 #[.string y] W λe w'=>∃r:Int,e=.returned (.int .i64 r)/\(r=0↔Q2)/\zB W.heap.size W w'))
 (w:zA) (HW:Hid (Wd w)):
 zC zF 89 #[.agg #[.string x,.string y]] w (BoolP w (x.size<=12/\y.size<=12/\Q1/\Q2)):=by
 obtain⟨W1,hW1⟩:=zzX (w.alloc (.cells #[.string x,.string y] 32));have hb1:qL w W1:=by rw[hW1];exact(zM _ w).alloc (zN _) _
 have A:W1.heap[w.heap.size]? =some (.cells #[.string x,.string y] 32 (0,0)):=by rw[hW1];exact zG w _
 have a0:W1.cell? ⟨w.heap.size,0,none⟩=some (.string x):=by rw[zJ A];rfl
 have a1:W1.cell? ⟨w.heap.size,1,none⟩=some (.string y):=by rw[zJ A];rfl
 have i0:=a0;have i1:=a1;rw[hW1] at i0 i1;have HB:=hid hb1;have HW1:=hid hW1;have HA:=hid (⟨a0,a1⟩:W1.cell? ⟨w.heap.size,0,none⟩=some (.string x)/\W1.cell? ⟨w.heap.size,1,none⟩=some (.string y));clear hb1 A hW1 a0 a1;by_cases h1:(12:Int)<x.size
 ·have HN:=hid (λh=>by omega:¬(x.size<=12/\y.size<=12/\Q1/\Q2))
  go_enter Tryz.func89,Tryz.ntmps89;go_wp21;go_ret;exact BoolP.no HN.out (by rw[<-HW1.out];exact HB.out)
 ·by_cases h2:(12:Int)<y.size
  ·have HN:=hid (λh=>by omega:¬(x.size<=12/\y.size<=12/\Q1/\Q2))
   go_enter Tryz.func89,Tryz.ntmps89;go_wp21;go_ret;exact BoolP.no HN.out (by rw[<-HW1.out];exact HB.out)
  ·have c1:=C1.out (by omega) W1 (HW.out.below HB.out)
   have H1:=hid c1;clear c1;have C3:=hid (C2.out (by omega));have hq:(x.size<=12/\y.size<=12/\Q1/\Q2)↔Q1/\Q2:=⟨λh=>h.2.2,λh=>⟨by omega,by omega,h⟩⟩;rw[hq];clear hq;go_enter Tryz.func89,Tryz.ntmps89;go_wp21;rw[<-HW1.out];refine H1.out.mono ?_;rintro e w2 ⟨r,rfl,hr,hb2⟩;have HR:=hid hr;have hB2:=HB.out.trans (hb2.mono HB.out.size);have g0:=(zac hb2).cell HA.out.1;have g1:=(zac hb2).cell HA.out.2;clear hr hb2 i0 i1;by_cases h0:r=0
   ·have hrb:(r !=0)=false:=by subst h0;rfl
    have HR0:=hid (HR.out.1 h0);clear h0;go_wp21;refine(C3.out w2 (HW.out.below hB2)).mono ?_;rintro e w3 ⟨r3,rfl,hr3,hb3⟩;have hB3:=hB2.trans (hb3.mono hB2.size);by_cases h3:r3=0
    ·have hrb3:(r3 !=0)=false:=by subst h3;rfl
     have HR3:=hid (hr3.1 h3);clear h3 hr3 hb3;go_wp21;go_ret;exact BoolP.yes ⟨HR0.out,HR3.out⟩ hB3
    ·have hrb3:(r3 !=0)=true:=by simpa using h3
     have HR3:=hid (λh=>h3 (hr3.2 h):¬Q2);clear h3 hr3 hb3;go_wp21;go_ret;exact BoolP.no (λh=>HR3.out h.2) hB3
   ·have hrb:(r !=0)=true:=by simpa using h0
    have HR0:=hid (λh=>h0 (HR.out.2 h):¬Q1);clear h0;go_wp21;go_ret;exact BoolP.no (λh=>HR0.out h.1) hB2
theorem z0e (x:List UInt8×List UInt8) (w:zA) (hw:Wd w):
 zC zF 89 #[.agg #[St x.1,St x.2]] w (BoolP w (zny x)):=by
 have sz:∀k:List UInt8,(⟨k.toArray⟩:ByteArray).size=k.length:=λk=>by show k.toArray.size=_;simp
 have:=zs3 ⟨x.1.toArray⟩ ⟨x.2.toArray⟩ (okS x.1) (okS x.2) (hid λh W hW=>zlw x.1 (by rw[sz] at h;exact h) W hW) (hid λh W hW=>zlw x.2 (by rw[sz] at h;exact h) W hW) w (hid hw);rw[sz,sz] at this;exact this
def RowTx (p:Option Addr) (l:List (List UInt8×List UInt8)) (W:zA):Prop:=
 ∀i,i<l.length->∃b off,p=some ⟨b,off,none⟩/\W.cell? ⟨b,off+i*2,none⟩=some (St (ptOf l i).1)/\W.cell? ⟨b,off+i*2+1,none⟩=some (St (ptOf l i).2)
theorem RowTx.keep {p:Option Addr} {l:List (List UInt8×List UInt8)} {W W':zA} (h:RowTx p l W) (hc:CellsKept W W'):RowTx p l W':=λi hi=>let ⟨b,off,e,h1,h2⟩:=h i hi;⟨b,off,e,hc.cell h1,hc.cell h2⟩
def IdxP (w:zA) (n:Nat) (G:Nat->Prop) (e:Ending) (w':zA):Prop:=∃k:Int,e=.returned (.int .i64 k)/\((k= -1/\∀i,i<n->G i)\/(0<=k/\∃i,i<n/\¬G i))/\zB w.heap.size w w'
theorem IdxP.hit {w w':zA} {n:Nat} {G:Nat->Prop} {k:Nat} (hk:k<n) (h:¬G k) (hb:qL w w'):IdxP w n G (.returned (.int .i64 (k:Int))) w':=⟨k,rfl,.inr ⟨by omega,k,hk,h⟩,hb⟩
theorem IdxP.none {w w':zA} {n:Nat} {G:Nat->Prop} (h:∀i,i<n->G i) (hb:qL w w'):IdxP w n G (.returned (.int .i64 (-1))) w':=⟨-1,rfl,.inl ⟨rfl,h⟩,hb⟩
theorem zxu (p:Option Addr) (cap n:Nat) (l:List (List UInt8×List UInt8)) (hn:n=l.length) (hl:n<=5000) (G:Nat->Prop)
 (F:Hid (∀i,i<n->∀W:zA,Wd W->zC zF 89 #[.agg #[St (ptOf l i).1,St (ptOf l i).2]] W (BoolP W (G i))))
 (w:zA) (HW:Hid (Wd w)) (HP:Hid (RowTx p l w)):
 zC zF 170 #[.slice p n cap,.func (.func 89) #[] #[]] w (IdxP w n G):=by
 have HN:=hid hn;clear hn;go_enter Tryz.func170,Tryz.ntmps170;go_wp2;go_loopw [8] (λi wr=>∃(k:Nat),k<=n/\i=.int .i64 (k:Int)/\Hid (∀i,i<k->G i)/\Hid (qL w wr))
  (λi _=>n-(zL i).toNat)
 case atStart=>exact⟨0,zR _,rfl,λi h=>by omega,zM _ _⟩
 case round=>
  obtain⟨k,hk,rfl,hG,hB⟩:=hrel;by_cases hlt:k<n
  ·obtain⟨b,off,rfl,c0,c1⟩:=(HP.out.keep (zac hB.out)) k (by rw[<-HN.out];exact hlt)
   have HF:=hid (F.out k hlt wr (HW.out.below hB.out));generalize (ptOf l k).1=x at*
   generalize (ptOf l k).2=y at*
   go_wp21;refine HF.out.mono ?_;rintro e w2 ⟨t,rfl,ht,hb2⟩;have hB2:=hid (hB.out.trans (hb2.mono hB.out.size));have HT:=hid ht;clear ht hb2 HF;cases t
   ·go_wp21
    go_roundw
    case rel=>exact⟨k+1,by omega,by go_num,λi hi=>(by
     by_cases e:i=k
     ·subst e;exact HT.out.1 (by trivial)
     ·exact hG.out i (by omega)),hB2⟩
    case measure=>simp[zL];omega
   ·go_wp21
    go_ret;exact IdxP.hit hlt (λh=>by have:=HT.out.2 h;simp at this) hB2.out
  ·have hkn:k=n:=by omega
   have HK:=hid hkn;clear hkn;go_wp21;go_ret;exact IdxP.none (by rw[<-HK.out];exact hG.out) hB.out
theorem zp4 (p:Option Addr) (cap n:Nat) (G:Nat->Prop) (w:zA)
 (F:Hid (zC zF 170 #[.slice p n cap,.func (.func 89) #[] #[]] w (IdxP w n G))):
 zC zF 88 #[.slice p n cap,.func (.func 89) #[] #[]] w (BoolP w (∀i,i<n->G i)):=by
 go_enter Tryz.func88,Tryz.ntmps88;go_wp21;refine F.out.mono ?_;rintro e w1 ⟨k,rfl,hk,hB⟩;rcases hk with⟨rfl,h⟩|⟨h0,i,hi,h⟩
 ·have HN:=hid h;clear h
  go_wp21;go_ret;exact BoolP.yes HN.out hB
 ·have HN:=hid (λh'=>h (h' i hi):¬ ∀i,i<n->G i);clear h
  go_wp21;go_ret;exact BoolP.no HN.out hB
def YesP (w:zA) (G:Prop) (e:Ending) (w':zA):Prop:=∃b:Bool,e=.returned (.bool b)/\(b=true↔G)/\zB w.heap.size w w'
theorem YesP.no {w w':zA} {G:Prop} (h:¬G) (hb:qL w w'):YesP w G (.returned (.bool false)) w':=⟨false,rfl,⟨λk=>by simp at k,λk=>absurd k h⟩,hb⟩
theorem YesP.yes {w w':zA} {G:Prop} (h:G) (hb:qL w w'):YesP w G (.returned (.bool true)) w':=⟨true,rfl,⟨λ_=>h,λ_=>rfl⟩,hb⟩
theorem zxw (p:Option Addr) (cap n:Nat) (G:Prop) (w:zA)
 (F:Hid (zC zF 88 #[.slice p n cap,.func (.func 89) #[] #[]] w (BoolP w G))):
 zC zF 25 #[.slice p n cap] w (YesP w G):=by
 go_enter Tryz.func25,Tryz.ntmps25;go_wp21;refine F.out.mono ?_;rintro e w1 ⟨b,rfl,hb,hB⟩;have HN:=hid hb;clear hb;cases b
 ·go_wp21
  go_ret;exact YesP.yes (HN.out.1 (by trivial)) hB
 ·go_wp21
  go_ret;exact YesP.no (λh=>by have:=HN.out.2 h;simp at this) hB
theorem zq7 (p:Option Addr) (cap:Nat) (l:List (List UInt8×List UInt8)) (hl:l.length<=5000) (w:zA) (hw:Wd w) (hp:RowTx p l w):
 zC zF 25 #[.slice p l.length cap] w (YesP w (∀i,i<l.length->zny (ptOf l i))):=
 zxw p cap l.length _ w (hid (zp4 p cap l.length _ w (hid (zxu p cap l.length l rfl hl (λi=>zny (ptOf l i)) (hid λi _ W hW=>z0e (ptOf l i) W hW) w (hid hw) (hid hp)))))
end Go.Proofs.YtnjiiafnneillaaGreatDoor
namespace Go.Proofs.YtnjiiafnneillaaGreatDoor.Geo
theorem ye7 {a b:Rat} (ha:0<a) (hb:0<b):0<a*b:=Rat.mul_pos ha hb
theorem ye8 {a b:Rat} (ha:0<a) (hb:b<0):a*b<0:=by
 have:=Rat.mul_pos ha (show 0< -b by grind);grind
theorem z0f {a b:Rat} (ha:a<0) (hb:0<b):a*b<0:=by
 have:=Rat.mul_pos (show 0< -a by grind) hb;grind
theorem ygq {a b:Rat} (ha:a<0) (hb:b<0):0<a*b:=by
 have:=Rat.mul_pos (show 0< -a by grind) (show 0< -b by grind);grind
theorem zeg (a b:Rat):cmpR a b=cmpR (a-b) 0:=zm1 _ _ _ _ (by grind)
theorem zrb (a b:Rat):cmpR (a*b) 0=cmpR a 0*cmpR b 0:=by
 rcases zaw a 0 with⟨h1,e1⟩|⟨h1,e1⟩|⟨h1,e1⟩<;>rcases zaw b 0 with⟨h2,e2⟩|⟨h2,e2⟩|⟨h2,e2⟩<;>rw[e1,e2]
 ·have:=ygq h1 h2;have:=zaw (a*b) 0;grind
 ·subst h2;rw[Rat.mul_zero,zf7];rfl
 ·have:=z0f h1 h2;have:=zaw (a*b) 0;grind
 ·subst h1;rw[Rat.zero_mul,zf7];rfl
 ·subst h1;rw[Rat.zero_mul,zf7];rfl
 ·subst h1;rw[Rat.zero_mul,zf7];rfl
 ·have:=ye8 h1 h2;have:=zaw (a*b) 0;grind
 ·subst h2;rw[Rat.mul_zero,zf7];rfl
 ·have:=ye7 h1 h2;have:=zaw (a*b) 0;grind
theorem zda (a:Rat):cmpR a 0= -1\/cmpR a 0=0\/cmpR a 0=1:=by have:=zaw a 0;grind
def onR (a b p:Pt):Prop:=cmpR p.x a.x*cmpR p.x b.x<=0/\cmpR p.y a.y*cmpR p.y b.y<=0
instance (a b p:Pt):Decidable (onR a b p):=by unfold onR;infer_instance
def cr (a b c:Pt):Rat:=(b.x-a.x)*(c.y-a.y)-(b.y-a.y)*(c.x-a.x)
theorem zj9 (a b c:Pt):turn a b c=cmpR (cr a b c) 0:=zeg _ _
theorem zjl {a b c:Pt}:turn a b c=0↔cr a b c=0:=by rw[zj9,zhi]
theorem ygf {u v R S:Int} (hu:u= -1\/u=0\/u=1) (hv:v= -1\/v=0\/v=1) (hR:R= -1\/R=0\/R=1) (hS:S= -1\/S=0\/S=1) (h:u*S=v*R) (hRS:R≠0\/S≠0) (hle:R*S<=0):u*v<=0:=by
 rcases hu with rfl|rfl|rfl<;>rcases hv with rfl|rfl|rfl<;>rcases hR with rfl|rfl|rfl<;>rcases hS with rfl|rfl|rfl<;>omega
theorem ygg {u v R S:Int} (hu:u= -1\/u=0\/u=1) (hv:v= -1\/v=0\/v=1) (hR:R= -1\/R=0\/R=1) (hS:S= -1\/S=0\/S=1) (h:u*S=v*R) (hle:u*v<=0) (h0:0<R*S):u=0/\v=0:=by
 rcases hu with rfl|rfl|rfl<;>rcases hv with rfl|rfl|rfl<;>rcases hR with rfl|rfl|rfl<;>rcases hS with rfl|rfl|rfl<;>omega
theorem zmv {a b c d:Pt} (h0:turn a b c=0) (hq:turn c d a≠0\/turn c d b≠0) (h:turn c d a*turn c d b<=0):onR a b c:=by
 rw[zjl] at h0;rw[zj9,zj9] at h hq;have e1:(c.x-a.x)*cr c d b=(c.x-b.x)*cr c d a:=by unfold cr at*;grind
 have e2:(c.y-a.y)*cr c d b=(c.y-b.y)*cr c d a:=by unfold cr at*;grind
 have f1:=congrArg (cmpR · 0) e1;have f2:=congrArg (cmpR · 0) e2;simp only[zrb] at f1 f2;unfold onR;rw[zeg c.x,zeg c.x,zeg c.y,zeg c.y];exact⟨ygf (zda _) (zda _) (zda _) (zda _) f1 hq h,ygf (zda _) (zda _) (zda _) (zda _) f2 hq h⟩
theorem zhf {a b c d:Pt} (h0:turn a b c=0) (h:onR a b c):turn c d a*turn c d b<=0:=by
 rw[zjl] at h0;rw[zj9,zj9];have e1:(c.x-a.x)*cr c d b=(c.x-b.x)*cr c d a:=by unfold cr at*;grind
 have e2:(c.y-a.y)*cr c d b=(c.y-b.y)*cr c d a:=by unfold cr at*;grind
 have f1:=congrArg (cmpR · 0) e1;have f2:=congrArg (cmpR · 0) e2;simp only[zrb] at f1 f2;unfold onR at h;rw[zeg c.x,zeg c.x,zeg c.y,zeg c.y] at h;rcases Int.lt_or_le 0 (cmpR (cr c d a) 0*cmpR (cr c d b) 0) with hp|hp
 ·obtain⟨g1,g2⟩:=ygg (zda _) (zda _) (zda _) (zda _) f1 h.1 hp
  obtain⟨g3,g4⟩:=ygg (zda _) (zda _) (zda _) (zda _) f2 h.2 hp;rw[zhi] at g1 g2 g3 g4;have:cr c d a=0:=by unfold cr;grind
  rw[this,zf7] at hp;omega
 ·exact hp
theorem zrc {a b c d:Pt} (h0:turn a b c=0) (h:turn a b d≠0):turn c d a≠0\/turn c d b≠0:=by
 rcases Int.decEq (turn c d a) 0 with h1|h1
 ·exact .inl h1
 ·refine .inr λh2=>h ?_
  rw[zjl] at*
  unfold cr at*
  grind
def uniq (P:Pt->Bool):List Pt->List Pt->List Pt
 |acc,[]=>acc
 |acc,x::r=>uniq P (if P x&&!acc.contains x then acc++[x] else acc) r
theorem zly (P:Pt->Bool):∀(l acc:List Pt),acc.Nodup->(uniq P acc l).Nodup/\∀y,y∈uniq P acc l↔y∈acc\/(y∈l/\P y=true)
 |[],acc,h=>⟨h,λy=>by simp[uniq]⟩
 |x::r,acc,h=>by
  rw[uniq];by_cases hp:(P x&&!acc.contains x)=true
  ·rw[if_pos hp]
   simp only[Bool.and_eq_true,Bool.not_eq_true',List.contains_eq_mem,decide_eq_false_iff_not] at hp;obtain⟨h1,h2⟩:=zly P r (acc++[x]) (by rw[List.nodup_append];exact⟨h,by simp,λa ha b hb=>by simp at hb;subst hb;exact λe=>hp.2 (e▸ha)⟩);refine⟨h1,λy=>?_⟩;rw[h2];simp only[List.mem_append,List.mem_cons,List.not_mem_nil,or_false];constructor
   ·rintro((h|rfl)|h)
    ·exact .inl h
    ·exact .inr ⟨.inl rfl,hp.1⟩
    ·exact .inr ⟨.inr h.1,h.2⟩
   ·rintro(h|⟨rfl|h,k⟩)
    ·exact .inl (.inl h)
    ·exact .inl (.inr rfl)
    ·exact .inr ⟨h,k⟩
  ·rw[if_neg hp]
   obtain⟨h1,h2⟩:=zly P r acc h;refine⟨h1,λy=>?_⟩;rw[h2];simp only[List.mem_cons];constructor
   ·rintro(h|h)
    ·exact .inl h
    ·exact .inr ⟨.inr h.1,h.2⟩
   ·rintro(h|⟨rfl|h,k⟩)
    ·exact .inl h
    ·refine .inl ?_
     simp only[Bool.and_eq_true,Bool.not_eq_true',List.contains_eq_mem,decide_eq_false_iff_not,not_and,Decidable.not_not] at hp;exact hp k
    ·exact .inr ⟨h,k⟩
def zn2 (a b c d:Pt):Int:=
 if turn a b c=0/\turn a b d=0/\turn c d a=0/\turn c d b=0 then
  min 2 ((uniq (λx=>decide (onR a b x)&&decide (onR c d x)&&decide (turn a b x=0)&&decide (turn c d x=0)) [] [a,b,c,d]).length:Int)
 else if turn a b c*turn a b d<=0/\turn c d a*turn c d b<=0/\(turn a b c≠0\/onR a b c)/\(turn a b d≠0\/onR a b d) then 1
 else if turn a b c=0/\onR a b c\/turn a b d=0/\onR a b d\/turn c d a=0/\onR c d a\/turn c d b=0/\onR c d b then 1
 else 0
def le (p q:Pt):Prop:=ordP p q<=0
theorem zpd {a b x:Pt} (h:turn a b x=0):onR a b x↔le (low a b) x/\le x (high a b):=by
 rw[zjl] at h;have e1:(b.x-a.x)*(x.y-a.y)=(b.y-a.y)*(x.x-a.x):=by unfold cr at h;grind
 have e2:(b.x-a.x)*(x.y-b.y)=(b.y-a.y)*(x.x-b.x):=by unfold cr at h;grind
 have f1:=congrArg (cmpR · 0) e1;have f2:=congrArg (cmpR · 0) e2;simp only[zrb,<-zeg] at f1 f2;unfold onR le low high;have k1:=zaw x.x a.x;have k2:=zaw x.x b.x;have k3:=zaw x.y a.y;have k4:=zaw x.y b.y;have s1:=zfr a.x x.x;have s2:=zfr b.x x.x;have s3:=zfr a.y x.y;have s4:=zfr b.y x.y;have s5:=zfr a.x b.x;have s6:=zfr a.y b.y;unfold ordP;rcases zaw a.x b.x with⟨p1,p2⟩|⟨p1,p2⟩|⟨p1,p2⟩<;>rcases zaw a.y b.y with⟨q1,q2⟩|⟨q1,q2⟩|⟨q1,q2⟩<;>clear e1 e2 h
 all_goals
  rw[p2] at s5;rw[q2] at s6;rw[s5,s6] at f1 f2;simp[p2,q2];rcases k1 with⟨k1,l1⟩|⟨k1,l1⟩|⟨k1,l1⟩<;>rcases k2 with⟨k2,l2⟩|⟨k2,l2⟩|⟨k2,l2⟩<;>simp only[l1,l2] at s1 s2 f1 f2⊢ <;>first|(exfalso;grind;done)|grind
theorem le_trans {p q r:Pt} (h:le p q) (k:le q r):le p r:=by unfold le at*;have:=zas p q;have:=zas q r;have:=zas p r;grind
theorem le_antisymm {p q:Pt} (h:le p q) (k:le q p):p=q:=by unfold le at*;have:=zas p q;have:=zas q p;grind
theorem zmi (p:Pt):le p p:=by unfold le;rw[zhm];exact Int.le_refl _
theorem le_total (p q:Pt):le p q\/le q p:=by unfold le;have:=zas p q;have:=zas q p;grind
def maxP (p q:Pt):Pt:=if ordP q p>0 then q else p
def minP (p q:Pt):Pt:=if ordP q p<0 then q else p
theorem ygr {p q x:Pt}:le (maxP p q) x↔le p x/\le q x:=by
 unfold maxP le;have:=zas p q;have:=zas q p;have:=zas p x;have:=zas q x;grind
theorem ygs {p q x:Pt}:le x (minP p q)↔le x p/\le x q:=by
 unfold minP le;have:=zas p q;have:=zas q p;have:=zas x p;have:=zas x q;grind
theorem ygt {l:List Pt} {x y:Pt} (hx:x∈l) (hy:y∈l) (hne:x≠y):2<=l.length:=by
 match l,hx,hy with
 |[z],hx,hy=>simp at hx hy;exact absurd (hx.trans hy.symm) hne
 |_::_::_,_,_=>simp
theorem ygu {l:List Pt} {x:Pt} (hx:x∈l) (hd:l.Nodup) (h:∀y∈l,y=x):l.length=1:=by
 match l,hx with
 |[z],_=>rfl
 |z::y::r,_=>
  have h1:=h z (by simp);have h2:=h y (by simp);subst h1;subst h2;simp at hd
theorem zqb {a b c d:Pt} (h1:turn a b c=0) (h2:turn a b d=0) (h3:turn c d a=0) (h4:turn c d b=0):
 min 2 ((uniq (λx=>decide (onR a b x)&&decide (onR c d x)&&decide (turn a b x=0)&&decide (turn c d x=0)) [] [a,b,c,d]).length:Int)=1-ordP (maxP (low a b) (low c d)) (minP (high a b) (high c d)):=by
 obtain⟨hn,hm⟩:=zly (λx=>decide (onR a b x)&&decide (onR c d x)&&decide (turn a b x=0)&&decide (turn c d x=0)) [a,b,c,d] [] (by simp);generalize hL:uniq _ [] [a,b,c,d]=L at*
 have hz:∀y∈[a,b,c,d],turn a b y=0/\turn c d y=0:=by
  intro y hy;simp at hy;rcases hy with rfl|rfl|rfl|rfl
  ·exact⟨ze3 _ _,h3⟩
  ·exact⟨zec _ _,h4⟩
  ·exact⟨h1,ze3 _ _⟩
  ·exact⟨h2,zec _ _⟩
 have hm':∀y,y∈L↔y∈[a,b,c,d]/\le (maxP (low a b) (low c d)) y/\le y (minP (high a b) (high c d)):=by
  intro y;rw[hm y];simp only[List.not_mem_nil,false_or];refine and_congr_right λhy=>?_;obtain⟨z1,z2⟩:=hz y hy;simp only[Bool.and_eq_true,decide_eq_true_eq,z1,z2,and_true,zpd z1,zpd z2,ygr,ygs];constructor
  ·rintro⟨⟨a1,a2⟩,a3,a4⟩;exact⟨⟨a1,a3⟩,a2,a4⟩
  ·rintro⟨⟨a1,a3⟩,a2,a4⟩;exact⟨⟨a1,a2⟩,a3,a4⟩
 have hf:maxP (low a b) (low c d)∈[a,b,c,d]:=by
  have l1:low a b=a\/low a b=b:=by unfold low;split<;>simp
  have l2:low c d=c\/low c d=d:=by unfold low;split<;>simp
  have l3:maxP (low a b) (low c d)=low a b\/maxP (low a b) (low c d)=low c d:=by unfold maxP;split<;>simp
  rcases l3 with l3|l3<;>rw[l3]<;>rcases l1 with l1|l1<;>rcases l2 with l2|l2<;>simp[l1,l2]
 have ht:minP (high a b) (high c d)∈[a,b,c,d]:=by
  have l1:high a b=a\/high a b=b:=by unfold high;split<;>simp
  have l2:high c d=c\/high c d=d:=by unfold high;split<;>simp
  have l3:minP (high a b) (high c d)=high a b\/minP (high a b) (high c d)=high c d:=by unfold minP;split<;>simp
  rcases l3 with l3|l3<;>rw[l3]<;>rcases l1 with l1|l1<;>rcases l2 with l2|l2<;>simp[l1,l2]
 generalize maxP (low a b) (low c d)=f at*
 generalize minP (high a b) (high c d)=t at*
 have ho:=zas f t;have hle:le f t↔ordP f t<=0:=Iff.rfl;rcases ho with⟨_,ho⟩|⟨e,ho⟩|⟨_,ho⟩
 ·have hlt:le f t:=by rw[hle,ho];decide
  have hne:f≠t:=λe=>by rw[e,zhm] at ho;cases ho
  have:=ygt ((hm' f).2 ⟨hf,zmi _,hlt⟩) ((hm' t).2 ⟨ht,hlt,zmi _⟩) hne;rw[ho];omega
 ·subst e
  have:=ygu ((hm' f).2 ⟨hf,zmi _,zmi _⟩) hn (λy hy=>le_antisymm ((hm' y).1 hy).2.2 ((hm' y).1 hy).2.1);rw[ho];omega
 ·have:L=[]:=by
   cases L with
   |nil=>rfl
   |cons y r=>
    have:=(hm' y).1 (by simp);have:=hle.1 (le_trans this.2.1 this.2.2);omega
  rw[this,ho];rfl
theorem zmy (a b c d:Pt):zn2 a b c d=meet a b c d:=by
 unfold zn2 meet;by_cases h0:turn a b c=0/\turn a b d=0/\turn c d a=0/\turn c d b=0
 ·obtain⟨h1,h2,h3,h4⟩:=h0
  rw[if_pos ⟨h1,h2,h3,h4⟩,if_neg (by omega),zqb h1 h2 h3 h4];rfl
 ·have h0':turn a b c≠0\/turn a b d≠0\/turn c d a≠0\/turn c d b≠0:=by omega
  rw[if_neg h0,if_pos h0'];by_cases hc:turn a b c*turn a b d<=0/\turn c d a*turn c d b<=0
  ·rw[if_pos hc,if_pos]
   refine⟨hc.1,hc.2,?_,?_⟩
   ·rcases Int.decEq (turn a b c) 0 with h|h
    ·exact .inl h
    ·refine .inr (zmv h ?_ hc.2)
     rcases Int.decEq (turn a b d) 0 with h'|h'
     ·exact zrc h h'
     ·omega
   ·rcases Int.decEq (turn a b d) 0 with h|h
    ·exact .inl h
    ·refine .inr (zmv (c:=d) (d:=c) h ?_ ?_)
     ·rcases Int.decEq (turn a b c) 0 with h'|h'
      ·exact zrc h h'
      ·rw[ze2 c d a,ze2 c d b];omega
     ·rw[ze2 c d a,ze2 c d b,Int.neg_mul_neg];exact hc.2
  ·rw[if_neg hc,if_neg (λh=>hc ⟨h.1,h.2.1⟩),if_neg]
   rintro(⟨h,k⟩|⟨h,k⟩|⟨h,k⟩|⟨h,k⟩)
   ·exact hc ⟨by rw[h,Int.zero_mul];exact Int.le_refl _,zhf h k⟩
   ·have:=zhf (d:=c) h k
    rw[ze2 c d a,ze2 c d b,Int.neg_mul_neg] at this;exact hc ⟨by rw[h,Int.mul_zero];exact Int.le_refl _,this⟩
   ·exact hc ⟨zhf h k,by rw[h,Int.zero_mul];exact Int.le_refl _⟩
   ·have:=zhf (d:=a) h k
    rw[ze2 a b c,ze2 a b d,Int.neg_mul_neg] at this;exact hc ⟨this,by rw[h,Int.mul_zero];exact Int.le_refl _⟩
end Go.Proofs.YtnjiiafnneillaaGreatDoor.Geo
namespace Go.Proofs.YtnjiiafnneillaaGreatDoor.Geo
theorem ziz {a b c:Pt} (h:turn a b c≠0):meet a b b c=1:=by
 unfold meet;rw[if_pos (.inr (.inl h)),if_pos];rw[zec,ze3];simp
theorem ye9 {a b c:Pt} (h:turn a b c=0) (h1:a≠b) (h2:b≠c) (h3:c≠a) (k1:meet a b b c=1) (k2:meet b c c a=1) (_:meet a b c a=1):False:=by
 have t1:turn b c a=0:=by rw[zla];exact h
 have t2:turn c a b=0:=by rw[zla];exact t1
 unfold meet at k1 k2;rw[if_neg (by simp[zec,ze3,h,t1])] at k1;rw[if_neg (by simp[zec,ze3,t1,t2])] at k2;have o1:=zas a b;have o2:=zas b c;have o3:=zas c a;have p1:=zas b a;have p2:=zas c b;have p3:=zas a c;have s1:=zhm a;have s2:=zhm b;have s3:=zhm c;have u1:∀{p q:Pt},p≠q->ordP p q≠0:=λ{p q} h e=>by have:=zas p q;grind
 have v1:=u1 h1;have v2:=u1 h2;have v3:=u1 h3;unfold low high at k1 k2;rcases o1 with⟨x1,o1⟩|⟨x1,o1⟩|⟨x1,o1⟩
 ·have q1:ordP b a=1:=by grind
  rcases o2 with⟨x2,o2⟩|⟨x2,o2⟩|⟨x2,o2⟩
  ·have q2:ordP c b=1:=by grind
   have q3:ordP a c= -1:=by grind
   have q4:ordP c a=1:=by grind
   first|(simp[o1,o2,q1,q2,s2] at k1;done)|(simp[o1,o2,q4,s3] at k2;done)
  ·exact absurd o2 v2
  ·have q2:ordP c b= -1:=by grind
   rcases o3 with⟨x3,o3⟩|⟨x3,o3⟩|⟨x3,o3⟩
   ·have q3:ordP a c=1:=by grind
    first|(simp[o1,o2,o3,s2] at k1;done)|(simp[o1,o2,q1,q2,q3,o3,s1,s2,s3] at k2;done)
   ·exact absurd o3 v3
   ·have q3:ordP a c= -1:=by grind
    first|(simp[o1,o2,q2,o3,s2] at k1;done)|(simp[o1,o2,q1,q2,q3,o3,s1,s2,s3] at k2;done)
 ·exact absurd o1 v1
 ·have q1:ordP b a= -1:=by grind
  rcases o2 with⟨x2,o2⟩|⟨x2,o2⟩|⟨x2,o2⟩
  ·have q2:ordP c b=1:=by grind
   rcases o3 with⟨x3,o3⟩|⟨x3,o3⟩|⟨x3,o3⟩
   ·have q3:ordP a c=1:=by grind
    first|(simp[o1,o2,o3,s2] at k1;done)|(simp[o1,o2,q1,q2,q3,o3,s1,s2,s3] at k2;done)
   ·exact absurd o3 v3
   ·have q3:ordP a c= -1:=by grind
    first|(simp[o1,o2,q1,o3,s2] at k1;done)|(simp[o1,o2,q1,q2,q3,o3,s1,s2,s3] at k2;done)
  ·exact absurd o2 v2
  ·have q2:ordP c b= -1:=by grind
   have q3:ordP a c=1:=by grind
   have q4:ordP c a= -1:=by grind
   first|(simp[o1,o2,q1,q2,s2] at k1;done)|(simp[o1,o2,q2,q4,s3] at k2;done)
theorem ygv (a b c:Pt):(a≠b/\b≠c/\c≠a/\meet a b b c=1/\meet a b c a=1/\meet b c c a=1)↔turn a b c≠0:=by
 constructor
 ·rintro⟨h1,h2,h3,k1,k2,k3⟩ h
  exact ye9 h h1 h2 h3 k1 k3 k2
 ·intro h
  have t1:turn b c a≠0:=by rw[zla];exact h
  have t2:turn c a b≠0:=by rw[zla];exact t1
  refine⟨λe=>h (by subst e;exact zzi _ _),λe=>h (by subst e;exact zec _ _),λe=>h (by subst e;exact ze3 _ _),ziz h,?_,ziz t1⟩;rw[zzk];exact ziz t2
end Go.Proofs.YtnjiiafnneillaaGreatDoor.Geo
namespace Go.Proofs.YtnjiiafnneillaaGreatDoor.Geo
end Go.Proofs.YtnjiiafnneillaaGreatDoor.Geo
namespace Go.Proofs.YtnjiiafnneillaaGreatDoor
open Go.RowKit Go.Shelf Lib Str Limb Geo
theorem yhj {l:List Pt} {k:Nat} (h:k<l.length):cor l k=l[k]:=by
 unfold cor;rw[Nat.mod_eq_of_lt h,yB h];rfl
def yh1 (l:List Pt):Prop:=zc9 l/\zc8 l
end Go.Proofs.YtnjiiafnneillaaGreatDoor
namespace Go.Proofs.YtnjiiafnneillaaGreatDoor
open Go.RowKit Go.Shelf Lib Str Limb Geo
attribute [local go_sem] Oper.semAt_some
end Go.Proofs.YtnjiiafnneillaaGreatDoor
namespace Go.Proofs.YtnjiiafnneillaaGreatDoor
open Go.RowKit Go.Shelf Lib Str Limb
attribute [local go_sem] Oper.semAt_some
abbrev BolQ (w:zA) (b:Bool) (e:Ending) (w':zA):Prop:=e=.returned (.bool b)/\zB w.heap.size w w'
theorem z6w (x y r:ByteArray) (is:Bool) (A:Nat) (xx:ByteArray)
 (RT:Hid (qK 114 #[.string xx,.string y] (.tuple #[.string r,.bool is,.int .i64 0])))
 (w:zA) (HW:Hid (Wd w)) (HA:Hid (w.cell? ⟨A,1,none⟩=some (.string xx))):
 zC zF 133 #[.agg #[.string x,.string y],.pointer (some ⟨A,0,none⟩)] w (BolQ w is):=by
 obtain⟨W0,hW0⟩:=zzX (w.alloc (.cells #[.string x,.string y] 37));have K0:=hid (show BxT w x y W0 by rw[hW0];exact BxT.start w x y);obtain⟨c0,c1⟩:=K0.out.cx;have a1:=(zac (show qL w W0 from K0.out.bel)).cell HA.out;rw[hW0] at c0 c1 a1;have H9:=hid hW0.symm;clear hW0;go_enter Tryz.func133,Tryz.ntmps133;go_wp21;rw[H9.out];clear c0 c1 a1 H9;refine zzM (RT.out W0 (HW.out.below K0.out.bel)) λw1 hb1=>?_;have K1:=hid (K0.out.next hb1);clear hb1 K0 RT;cases is
 ·go_wp21
  all_goals
   go_ret;exact⟨rfl,K1.out.bel⟩
 ·go_wp21
  all_goals
   go_ret;exact⟨rfl,K1.out.bel⟩
def RowTm (p:Option Addr) (n:Nat) (X Y:Nat->ByteArray) (W:zA):Prop:=∀i,i<n->∃b off,p=some ⟨b,off,none⟩/\W.cell? ⟨b,off+i*2,none⟩=some (.string (X i))/\W.cell? ⟨b,off+i*2+1,none⟩=some (.string (Y i))
theorem RowTm.keep {p:Option Addr} {n:Nat} {X Y:Nat->ByteArray} {W W':zA} (h:RowTm p n X Y W) (hc:CellsKept W W'):RowTm p n X Y W':=λi hi=>let ⟨b,off,e,h1,h2⟩:=h i hi;⟨b,off,e,hc.cell h1,hc.cell h2⟩
theorem z7r (p:Option Addr) (cap n:Nat) (X Y:Nat->ByteArray) (hl:n<=5000) (A:Nat) (C:zA->Prop) (hC:∀W W',C W->qL W W'->C W')
 (F:Hid (∀i,i<n->∀W:zA,Wd W->C W->zC zF 133 #[.agg #[.string (X i),.string (Y i)],.pointer (some ⟨A,0,none⟩)] W (BolQ W false)))
 (w:zA) (HW:Hid (Wd w)) (HC:Hid (C w)) (HP:Hid (RowTm p n X Y w)):
 qJ 125 #[.slice p n cap,.func (.func 133) #[] #[.pointer (some ⟨A,0,none⟩)]] w (.int .i64 (-1)):=by
 have HCC:=hid hC;clear hC;go_enter Tryz.func125,Tryz.ntmps125;go_wp2;go_loopw [8] (λi wr=>∃(k:Nat),k<=n/\i=.int .i64 (k:Int)/\Hid (qL w wr))
  (λi _=>n-(zL i).toNat)
 case atStart=>exact⟨0,zR _,rfl,zM _ _⟩
 case round=>
  obtain⟨k,hk,rfl,hB⟩:=hrel;by_cases hlt:k<n
  ·obtain⟨b,off,rfl,c0,c1⟩:=(HP.out.keep (zac hB.out)) k hlt
   have HF:=hid (F.out k hlt wr (HW.out.below hB.out) (HCC.out _ _ HC.out hB.out));generalize X k=x at*
   generalize Y k=y at*
   go_wp21;refine zzM HF.out λw2 hb2=>?_;have hB2:=hid (hB.out.trans (hb2.mono hB.out.size));clear hb2 HF;go_wp21;go_roundw
   case rel=>exact⟨k+1,by omega,by go_num,hB2⟩
   case measure=>simp[zL];omega
  ·have hkn:k=n:=by omega
   go_wp21;go_ret;exact⟨rfl,hB.out⟩
theorem z7s (p:Option Addr) (cap n A:Nat) (w:zA)
 (F:Hid (qJ 125 #[.slice p n cap,.func (.func 133) #[] #[.pointer (some ⟨A,0,none⟩)]] w (.int .i64 (-1)))):
 zC zF 56 #[.slice p n cap,.func (.func 133) #[] #[.pointer (some ⟨A,0,none⟩)]] w (BolQ w false):=by
 go_enter Tryz.func56,Tryz.ntmps56;go_wp21;refine zzM F.out λw1 hB=>?_;go_wp21;go_ret;exact⟨rfl,hB⟩
structure BxA (w:zA) (A:Nat) (x y:ByteArray) (W:zA):Prop where
 bel:qL w W
 bx:W.heap[A]? =some (.cells #[.string x,.string y] 37 (0,0))
section
variable {w W W':zA} {A:Nat} {x y:ByteArray}
theorem BxA.next (h:BxA w A x y W) (hb:qL W W'):BxA w A x y W':=
 ⟨h.bel.trans (hb.mono h.bel.size),(hb.block _ (Array.getElem?_eq_some_iff.1 h.bx).1).trans h.bx⟩
theorem BxA.cx (h:BxA w A x y W):W.cell? ⟨A,0,none⟩=some (.string x)/\W.cell? ⟨A,1,none⟩=some (.string y):=by have:=h.bx;simp[World.cell?,this]
end
theorem z2l (p:Option Addr) (cap n:Nat) (X Y:Nat->ByteArray) (hn:n<=16) (hcap:n<=cap)
 (RG:Hid (∀i,i<n->∀W:zA,Wd W->Pw W->qJ 132 #[.agg #[.string (X i),.string (Y i)]] W (.int .i64 0)))
 (CM:Hid (∀i,i+1<n->qK 18 #[.string (Y i),.string (Y (i+1))] (.tuple #[.int .i64 (-1),.int .i64 0])))
 (CT:Hid (∀k A,k<n->∀W:zA,Wd W->RowTm p n X Y W->W.cell? ⟨A,1,none⟩=some (.string (Y k))->zC zF 56 #[.slice p k cap,.func (.func 133) #[] #[.pointer (some ⟨A,0,none⟩)]] W (BolQ W false)))
 (w:zA) (HW:Hid (Wd w)) (HQ:Hid (Pw w)) (HP:Hid (RowTm p n X Y w)):
 qJ 64 #[.slice p n cap] w (.int .i64 0):=by
 have hn16:decide ((16:Int)<(n:Int))=false:=decide_eq_false (by omega);go_enter Tryz.func64,Tryz.ntmps64;go_wp21;clear hn16;go_loopw [13] (λi wr=>∃(k:Nat),k<=n/\i=.int .i64 (k:Int)/\Hid (qL w wr))
  (λi _=>n-(zL i).toNat)
 case atStart=>exact⟨0,zR _,rfl,zM _ _⟩
 case round=>
  obtain⟨k,hk,rfl,hB⟩:=hrel;by_cases hlt:k<n
  ·have HR:=hid λW (h:qL w W)=>HP.out.keep (zac h)
   obtain⟨b,off,hp,c0,c1⟩:=HR.out wr hB.out k hlt;subst hp;have HRG:=hid (RG.out k hlt);have HCT:=hid λA W hW hr hc=>CT.out k A hlt W hW hr hc;have HY:=hid (show ∀j,j+1=k->(qK 18 #[.string (Y j),.string (Y k)] (.tuple #[.int .i64 (-1),.int .i64 0])) from λj hj=>by subst hj;exact CM.out j hlt);obtain⟨j,hj⟩:=zzX (k-1);have HJ:=hid hj;obtain⟨x,hx⟩:=zzX (X k);obtain⟨y,hy⟩:=zzX (Y k);rw[<-hx,<-hy] at HRG;rw[<-hy] at HCT HY;rw[<-hx] at c0;rw[<-hy] at c1;clear hj hx hy;have HS:Hid (BxA w wr.heap.size x y (wr.alloc (.cells #[.string x,.string y] 37))):=hid (by
    have hal:qL wr (wr.alloc (.cells #[.string x,.string y] 37)):=(zM _ wr).alloc (zN _) _;exact⟨hB.out.trans (hal.mono hB.out.size),zG _ _⟩)
   obtain⟨g0,g1⟩:=HS.out.cx;go_wp21;clear hB c0 c1 g0 g1;obtain⟨W1,hW1⟩:=zzX (wr.alloc (.cells #[.string x,.string y] 37));rw[<-hW1] at HS⊢;clear hW1;generalize wr.heap.size=A at*
   refine zzM (HRG.out W1 (HW.out.below HS.out.bel) (HQ.out.below HS.out.bel)) λw2 hb2=>?_;have HS2:=hid (HS.out.next hb2);clear hb2 HS HRG;by_cases hk0:k=0
   ·have hkb:((k:Int)==0)=true:=by rw[hk0];rfl
    clear hk0;go_wp21;go_roundw
    case rel=>exact⟨k+1,by omega,by go_num,hid HS2.out.bel⟩
    case measure=>simp[zL];omega
   ·have hkb:((k:Int)==0)=false:=beq_eq_false_iff_ne.2 (by omega)
    have hjk:j+1=k:=by have:=HJ.out;omega
    have HCM:=hid (HY.out j hjk);have hw1:IntKind.i64.wrap ((k:Int)-1)=(j:Int):=by rw[zI _ ⟨by omega,by omega⟩];omega
    have hjn:j<n:=by omega
    have hkc:(k:Int)<=(cap:Int):=by omega
    have HRj:=hid (λW h=>(by
     obtain⟨b',off',e,d0,d1⟩:=HR.out W h j hjn;obtain⟨rfl,rfl⟩:b=b'/\off=off':=by simpa using e
     exact d1):∀W,qL w W->W.cell? ⟨b,off+j*2+1,none⟩=some (.string (Y j)))
    generalize Y j=yj at*
    clear HY hjk hk0;go_wp21;refine zbl (λ_ W=>BxA w A x y W) (by kernel_rfl) (by kernel_rfl) (HS2.out.next (zM _ _).drew) ?_;refine qR (.slice (some ⟨b,off,none⟩) n cap) ?_;refine qR (.int .i64 (k:Int)) ?_;refine qR (.int .i64 (j:Int)) ?_;simp only[zzQ];refine qR (.pointer (some ⟨b,off+j*2,none⟩)) ?_;refine qR (.pointer (some ⟨b,off+j*2+1,none⟩)) ?_;refine qR (.string yj) ?_ (hy:=λf W' hf h=>by have c0:=HRj.out _ h.bel;go_simp);simp only[zzQ];refine qR (.pointer (some ⟨A,1,none⟩)) ?_;refine qR (.string y) ?_ (hy:=λf W' hf h=>by obtain⟨c0,c1⟩:=h.cx;go_simp);simp only[zzQ]
    refine zar (.tuple #[.int .i64 (-1),.int .i64 0]) (by rfl) (λf W' hf h C' hC'=>by
     go_simp;refine zzM (HCM.out _ (HW.out.below h.bel)) λw' hb=>?_;exact⟨rfl,hC' _ (h.next hb)⟩) ?_
    refine qR (.tuple #[.int .i64 (-1),.int .i64 0]) ?_;refine qR (.int .i64 (-1)) ?_;simp only[zzQ];refine qR (.int .i64 0) ?_;refine qR (.int .i64 (-1)) ?_;refine qR (.int .i64 0) ?_;simp only[zzQ];refine zck λf W5 hf h5=>?_;have HS5:=hid h5;clear hf h5 HS2 HCM HRj;have HCC:=hid (HCT.out A W5 (HW.out.below HS5.out.bel) (HR.out _ HS5.out.bel) HS5.out.cx.2);clear HCT;go_wp21;refine zzM HCC.out λw6 hb6=>?_;have HS6:=hid (HS5.out.next hb6);clear hb6 HS5 HCC;go_wp21;go_roundw
    case rel=>exact⟨k+1,by omega,by go_num,hid HS6.out.bel⟩
    case measure=>simp[zL];omega
  ·have hkn:k=n:=by omega
   go_wp21;go_ret;exact⟨rfl,hB.out⟩
end Go.Proofs.YtnjiiafnneillaaGreatDoor
namespace Go.Proofs.YtnjiiafnneillaaGreatDoor
open Go.RowKit Go.Shelf
attribute [local go_sem] Oper.semAt_some
def ybu (F:Fence) (n:Nat) (P:Program) (gf:Nat) (lb:Array Value) (T:Nat->zA->zA) (Rd:Nat->zA->Prop) (R:Nat->Array Value->Prop) (len:Nat):Prop:=
 ∀(l:Nat) (J:Nat->zA->Prop) (Jx:zA->Prop) (W:zA),(∀k W1,J k W1->Rd k W1)->(∀k W1 W2,J k W1->qL W1 W2->J k W2)->
  (∀k args W1,J k W1->k<len->R k args->YieldAt F (n-1) P l args (T k W1) λe W'=>(e=.returned (.bool true)/\J (k+1) W')\/(e=.returned (.bool false)/\Jx W'))->
  J 0 W->CallsIn F n P gf (#[.func (.yield l) #[] #[]]++lb) W λe W'=>(∃v,e=.returned v)/\(J len W'\/Jx W')
theorem z95 {F:Fence} {n:Nat} {P:Program} {g:Operand} {ps:Array Tmp} {assign body:Code} {Q:Exit->Act->zA->Prop} {a:Act} {w:zA}
 (hro:F.round=none) (h1:1<=n) {gf:Nat} {lb:Array Value} (hg:a.eval g=.func (.func gf) #[] lb) (hFg:F.fn gf) (eg:∀args w,(callFunc gf args).run P w=.ok (.enter gf args) w)
 {T:Nat->zA->zA} {Rd:Nat->zA->Prop} {R:Nat->Array Value->Prop} {len:Nat} (hseq:ybu F (n-1) P gf lb T Rd R len) (hps:∀k args,R k args->args.size=ps.size)
 {B:Nat} (hB:B<=w.heap.size) (I:Nat->zA->Prop) (Ix:Code->Nat->zA->Prop) (hI:∀k W W',I k W->CellsKept W W'->zB B W W'->I k W') (hIx:∀c k W W',Ix c k W->CellsKept W W'->zB B W W'->Ix c k W')
 (hRd:∀k W,I k W->Rd k W) (h0:I 0 w) (I':Nat->zA->Prop) (hI':∀k W W',I' k W->CellsKept W W'->zB B W W'->I' k W') (hT:∀k W b,w.heap.size<=b->(T k W).heap[b]? =W.heap[b]?) (hTI:∀k W,I k W->I' k (T k W)) (a₁:Nat->Array Value->Act)
 (hassign:∀(l k:Nat) (args:Array Value) (W:zA) (K:Act->zA->Prop),R k args->K (a₁ k args) W->
   assign.wpIn (F.inRound l) (n-1-1) P (Exit.then K (λ_ _ _=>False)) {tmps:=(ps.zip args).foldl (λt (p,v)=>t.setIfInBounds p v) a.tmps,defers:=[]} W)
 (hbody:∀(l k:Nat) (args:Array Value) (W:zA),w.heap.size<=l->(∃r,W.heap[l]? =some (.loop r))->I' k W->k<len->R k args->body.wpIn (F.inRound l) (n-1-1) P (zja w.heap.size I Ix k W) (a₁ k args) W)
 (hdone:∀(D:Nat) (W:zA),w.heap.size<=D->I len W->W.heap[D]? =some (.deferred (some []))->Q .normal {a with defers:={target:=.collected D,args:= #[]}::a.defers} W)
 (hstop:∀(D:Nat) (c:Code) (k:Nat) (W:zA),w.heap.size<=D->Ix c k W->W.heap[D]? =some (.deferred (some []))->c.wpIn F n P Q {a with defers:={target:=.collected D,args:= #[]}::a.defers} W):
 (Code.rangeFunc g ps assign body).wpIn F n P Q a w:=by
 refine wpIn_rangeFunc λfn hfn=>?_;rw[hro];obtain⟨z,hz⟩:=zzX w.heap.size;let rec':LoopState->Option Code->Obj:=λst pe=>.loop {state:=st,pending:=pe,fn,tmps:=a.tmps,params:=ps,assign,body,defers:=z};have hnc:∀st pe,(rec' st pe).isCells=false:=λ_ _=>rfl;have hbk:∀st,((w.alloc (.deferred (some []))).alloc (rec' st none)).heap[z+1]? =some (rec' st none)/\((w.alloc (.deferred (some []))).alloc (rec' st none)).heap[z]? =some (.deferred (some [])):=λst=>by
  subst hz;refine⟨?_,?_⟩
  ·have:=zG (w.alloc (.deferred (some []))) (rec' st none);rwa [World.size_alloc] at this
  ·exact(Below.heap_alloc _ _ _ (by simp)).trans (zG w _)
 have hstart:qL w ((w.alloc (.deferred (some []))).alloc (rec' .ready none)):=((zM _ w).alloc (zN _) _).alloc (by simp) _;let bk:LoopState->Option Code->zA->Prop:=λst pe W=>W.heap[z+1]? =some (rec' st pe)/\W.heap[z]? =some (.deferred (some []));have hturn:∀st pe st' pe' W,bk st pe W->bk st' pe' (W.putObj (z+1) (rec' st' pe')):=λst pe st' pe' W h=>
  ⟨World.putObj_heap_same (Array.getElem?_eq_some_iff.1 h.1).1,(World.putObj_heap_other (by omega)).trans h.2⟩
 refine⟨z+1,[{target:=.collected z,args:= #[]}],(w.alloc (.deferred (some []))).alloc (rec' .ready none),{target:=.fn (.func gf) lb,args:= #[.func (.yield (z+1)) #[] #[]]},(w.alloc (.deferred (some []))).alloc (rec' .ready none),gf,
  #[.func (.yield (z+1)) #[] #[]]++lb,(w.alloc (.deferred (some []))).alloc (rec' .ready none),?_,?_,?_,?_,λ_=>h1,?_⟩
 ·subst hz;exact run_enterLoop_outer _ _ _ _ _
 ·simp only[resolve,hg]
  simp[go_sem]
 ·intro f' hf';simp[Target.leads] at hf';subst hf';exact hFg
 ·simp[invoke,go_sem,eg]
 refine(hseq (z+1) (λk W=>I k W/\bk .ready none W) (λW=>∃c k,Ix c k W/\bk .done (some c) W) _ (λk W1 h=>hRd k W1 h.1) (λk W1 W2 h hb=>?_) ?_ ?_).mono ?_
 ·exact⟨hI k W1 W2 h.1 (zac hb) (hb.mono (by have:=(Array.getElem?_eq_some_iff.1 h.2.2).1;omega)),
   (hb.block _ (Array.getElem?_eq_some_iff.1 h.2.1).1).trans h.2.1,(hb.block _ (Array.getElem?_eq_some_iff.1 h.2.2).1).trans h.2.2⟩
 ·rintro k args W0 ⟨hi0,hbW0⟩ hk hR
  have hi:=hTI k W0 hi0;have hbW:bk .ready none (T k W0):=⟨(hT k W0 _ (by omega)).trans hbW0.1,(hT k W0 _ (by omega)).trans hbW0.2⟩;generalize T k W0=W at hi hbW⊢;clear hi0 hbW0;have hy:=run_yield (P:=P) (args:=args) hbW.1 (hps k args hR);refine⟨fn,_,assign,body,hy,roundIn_of_wpIn hfn (hassign _ k args W _ hR ?_)⟩;refine⟨_,run_beginRound hbW.1 rfl,?_⟩;have hb2:bk .busy none (W.putObj (z+1) (rec' .busy none)):=hturn _ _ _ _ _ hbW;have hi2:=hI' k _ _ hi (zcw (rec' .busy none) hbW.1 rfl) (zcx (B:=B) (rec' .busy none) hbW.1 (by omega));refine wpIn_mono (hbody _ k args _ (by omega) ⟨_,hb2.1⟩ hi2 hk hR) ?_;have fin:∀(jump:Option Code) (W3:zA),KeepsFrom w.heap.size (W.putObj (z+1) (rec' .busy none)) W3->
   (Instr.endRound (z+1) jump).run P W3=.ok (.bool jump.isNone) (W3.putObj (z+1) (rec' (if jump.isNone then .ready else .done) jump))/\
   CellsKept W3 (W3.putObj (z+1) (rec' (if jump.isNone then .ready else .done) jump))/\zB B W3 (W3.putObj (z+1) (rec' (if jump.isNone then .ready else .done) jump))/\
   bk (if jump.isNone then .ready else .done) jump (W3.putObj (z+1) (rec' (if jump.isNone then .ready else .done) jump)):=λjump W3 hk3=>by
   have hb3:bk .busy none W3:=⟨hk3.same _ _ (by omega) hb2.1 rfl,hk3.same _ _ (by omega) hb2.2 rfl⟩;exact⟨run_endRound jump hb3.1,zcw _ hb3.1 rfl,zcx _ hb3.1 (by omega),hturn _ _ _ _ _ hb3⟩
  rintro e a3 W3 hp
  cases e with
  |normal=>
   obtain⟨hk3,hi3⟩:=hp;obtain⟨hr,hc,hbl,hb4⟩:=fin none W3 hk3;exact⟨_,_,hr,.inl ⟨rfl,hI _ _ _ hi3 hc hbl,hb4⟩⟩
  |ret=>
   obtain⟨hk3,hi3⟩:=hp;obtain⟨hr,hc,hbl,hb4⟩:=fin (some .ret) W3 hk3;exact⟨_,_,hr,.inr ⟨rfl,_,_,hIx _ _ _ _ hi3 hc hbl,hb4⟩⟩
  |exit id=>
   obtain⟨hk3,hi3⟩:=hp;obtain⟨hr,hc,hbl,hb4⟩:=fin (some (.exit id)) W3 hk3;exact⟨_,_,hr,.inr ⟨rfl,_,_,hIx _ _ _ _ hi3 hc hbl,hb4⟩⟩
  |goto t=>
   obtain⟨hk3,hi3⟩:=hp;obtain⟨hr,hc,hbl,hb4⟩:=fin (some (.goto t)) W3 hk3;exact⟨_,_,hr,.inr ⟨rfl,_,_,hIx _ _ _ _ hi3 hc hbl,hb4⟩⟩
  |panic ch=>exact hp.elim
  |outgrown=>exact hp.elim
 ·exact⟨hI 0 _ _ h0 (zac hstart) (hstart.mono hB),hbk .ready⟩
 ·rintro e W2 ⟨⟨v,rfl⟩,(⟨hi,hb4⟩|⟨c,k,hi,hb4⟩)⟩
  ·exact⟨none,_,run_endLoop hb4.1 (by simp),hdone z _ (by omega) (hI _ _ _ hi (zcw _ hb4.1 rfl) (zcx _ hb4.1 (by omega))) ((World.putObj_heap_other (by omega)).trans hb4.2)⟩
  ·exact⟨some c,_,run_endLoop hb4.1 (by simp),hstop z c k _ (by omega) (hIx _ _ _ _ hi (zcw _ hb4.1 rfl) (zcx _ hb4.1 (by omega))) ((World.putObj_heap_other (by omega)).trans hb4.2)⟩
end Go.Proofs.YtnjiiafnneillaaGreatDoor
