/- polygon.Area. -/
import Derived.Test.YtbjomkfgicffhaaGreatDoorQ15
import Derived.Test.YtbjomkfgicffhaaGreatDoorQ14
import Derived.Test.YtbjomkfgicffhaaGreatDoorQ11
import Derived.Test.YtbjomkfgicffhaaGreatDoorQ12
import Derived.Test.YtbjomkfgicffhaaGreatDoorQ02
import Derived.Deep.Quiet
set_option maxRecDepth 100000
set_option maxHeartbeats 8000000
namespace Go.Proofs.YtbjomkfgicffhaaGreatDoor
open Go.RowKit Go.Shelf Lib Str Limb Geo
attribute [local go_sem] Oper.semAt_some
theorem z1w:(Tryz.prog.info? 22).map (λi=>(i.zero,i.size,i.bytes))=some (some (St []),1,16):=by kernel_rfl
theorem zcj {W W':World} (h:CellsKept W W') {B:Nat} {e:TypeId} {s:Nat} {v:Value} {n:Nat} {xs:List Value} (ho:W.ownsRow B e s v n xs):W'.ownsRow B e s v n xs:=by
 obtain⟨hl,ho⟩:=ho
 refine⟨hl,?_⟩
 rcases ho with ho|⟨g,cap,cur,e,hb,hg,hr⟩
 ·exact .inl ho
 ·exact .inr ⟨g,cap,cur,e,hb,h _ _ _ _ hg,hr⟩
theorem zmb {P:Program} (C':Value->World->Prop) {o:Oper} {a:Act} (w:World) (s x:Operand) (t:TypeId)
 (ho:o.op=.call {callee:=.builtin .append,args:= #[s,x],argTypes:= #[t,t]})
 (base:Nat) (e:TypeId) (i:TypeInfo) (z:Value) (size bytes:Nat) (ht:P.underlying t=some (.slice e)) (hi:P.info? e=some i) (hz:i.zero=some z)
 (hsize:i.size=size) (hby:i.bytes=bytes) (hzs:z.cells.size=size) (hsz:0<size)
 (v:Value) (n:Nat) (xs:List Value) (hs:a.eval s=v) (hown:w.ownsRow base e size v n xs)
 (ad:Addr) (m c:Nat) (news:List Value) (hx:a.eval x=.slice (some ad) m c) (hl:news.length=m*size) (hnews:∀j u,news[j]? =some u->w.cell? (ad.add j)=some u) (h1:∀u∈news,u.oneCell'=true)
 (h63:n+m<=maxLen) (hbytes:(n+m)*bytes<=140737488355328) (hbase:base<=w.heap.size)
 (h:∀v' w',w'.ownsRow base e size v' (n+m) (xs++news)->w.grownBy w' v.ownBlock->C' v' w'):zfp P C' ((execOp a.eval o).run P w):=by
 obtain⟨v',w',hr,h2,h3,h4⟩:=run_append_own (P:=P) w base t o.type e i z size bytes ht hi hz hsize hby hzs hsz v n xs hown ad m c news hl hnews h1 h63 hbytes hbase
 unfold execOp
 simp only[ho,resolve,invoke,builtin,Sem.run_bind,Sem.run_pure,Result.andThen_ok,List.map_toArray,List.map_cons,List.map_nil,hs,hx,hr]
 exact h v' w' h2 h3
def SegB (b:Nat) (x y:Pt) (W:World):Prop:=W.heap[b]? =some (.cells #[St (numS x.x),St (numS x.y),St (numS y.x),St (numS y.y)] 71 (0,0))
theorem SegB.at {b:Nat} {x y:Pt} {W:World} (h:SegB b x y W):SegAt b x y W:=by
 constructor<;>(rw[Go.Joins.cell_of_block h];rfl)
def zbh (l:List Pt) (k:Nat):Rat:=(cor l k).x*(cor l (k+1)).y-(cor l (k+1)).x*(cor l k).y
def zf4 (l:List Pt) (k:Nat):List Value:=(List.range k).map λi=>St (numS (zbh l i))
theorem zta (l:List Pt) (k:Nat):zf4 l (k+1)=zf4 l k++[St (numS (zbh l k))]:=by simp[zf4,List.range_succ]
structure AreaS (w:World) (p:Option Addr) (cap n:Nat) (l:List Pt) (bt j:Nat) (W:World):Prop where
 bel:Below w.heap.size w W
 bt1:w.heap.size<=bt
 pts:∀i,i<n->∃b off,p=some ⟨b,off,none⟩/\b<w.heap.size/\W.cell? ⟨b,off+i*2,none⟩=some (St (ptOf (txt l) i).1)/\W.cell? ⟨b,off+i*2+1,none⟩=some (St (ptOf (txt l) i).2)
 cbx:W.cell? ⟨bt+1,0,none⟩=some (.slice p n cap)
 box:∃v,W.cell? ⟨bt,0,none⟩=some v/\W.ownsRow (bt+2) 22 1 v j (zf4 l j)
 fr:W.frozen? ⟨bt,0,none⟩=false
theorem AreaS.keep {w:World} {p:Option Addr} {cap n:Nat} {l:List Pt} {bt j:Nat} {W W':World} (h:AreaS w p cap n l bt j W) (hc:CellsKept W W') (hb:Below w.heap.size W W'):AreaS w p cap n l bt j W':=
 ⟨h.bel.trans hb,h.bt1,λi hi=>let ⟨b,off,e,h0,h1,h2⟩:=h.pts i hi;⟨b,off,e,h0,hc.cell h1,hc.cell h2⟩,hc.cell h.cbx,let ⟨v,h1,h2⟩:=h.box;⟨v,hc.cell h1,zcj hc h2⟩,let ⟨_,h1,_⟩:=h.box;hc.frozen h1 h.fr⟩
theorem AreaS.ptsAt {w:World} {p:Option Addr} {cap n:Nat} {l:List Pt} {bt j:Nat} {W:World} (hn:n=l.length) (h:AreaS w p cap n l bt j W):zls (bt+1) p cap (txt l) W:=
 ⟨by rw[za2,<-hn];exact h.cbx,λi hi=>let ⟨b,off,e,_,h1,h2⟩:=h.pts i (by rw[za2] at hi;omega);⟨b,off,e,h1,h2⟩⟩
theorem zo9 {w:World} {p:Option Addr} {cap n:Nat} {l:List Pt} {bt j:Nat} {W Y Z:World} {v v':Value} (h:AreaS w p cap n l bt j W) (hv:W.cell? ⟨bt,0,none⟩=some v) (hown:W.ownsRow (bt+2) 22 1 v j (zf4 l j))
 (hY:Below W.heap.size W Y) (hZ:Y.grownBy Z v.ownBlock) (hz:Z.ownsRow (bt+2) 22 1 v' (j+1) (zf4 l (j+1))) (B:Nat):
 KeepsFrom B W (Z.setCell ⟨bt,0,none⟩ v')/\AreaS w p cap n l bt (j+1) (Z.setCell ⟨bt,0,none⟩ v'):=by
 have ck:=zac hY
 have hS:=h.keep ck (hY.mono h.bel.size)
 have ho:=zcj ck hown
 have hlt:∀q,v.ownBlock=some q->bt+2<=q:=λq e=>(ho.lt q e).1
 have hne:∀b,b<bt+2->some b≠v.ownBlock:=λb hb e=>by have:=hlt b e.symm;omega
 have hbt:=h.bt1
 have cz:∀{b o:Nat} {x:Value},b<bt+2->Y.cell? ⟨b,o,none⟩=some x->Z.cell? ⟨b,o,none⟩=some x:=λhb hc=>hZ.cell hc (hne _ hb)
 have hYs:bt<Y.heap.size:=zbe (ck.cell hv)
 refine⟨?_,?_,hbt,λi hi=>?_,?_,⟨v',?_,?_⟩,?_⟩
 ·refine((za0 hY).from B).trans (((KeepsOthers.of_grownBy hZ ?_).from B).trans ((KeepsOthers.setCell _ _ _).from B))
  intro q o e hq
  rcases ho.2 with⟨rfl,_⟩|⟨g,cp,cur,rfl,_,hg,_⟩
  ·simp[Value.ownBlock] at e
  ·simp[Value.ownBlock] at e;subst e;rw[hg] at hq;cases hq;rfl
 ·exact((hS.bel.grown hZ (by have:=zbe hS.cbx;simp at this;omega) (λq e=>by have:=hlt q e;omega))).setCell (by simpa using hbt) _
 ·obtain⟨b,off,e,h0,h1,h2⟩:=hS.pts i hi
  exact⟨b,off,e,h0,by rw[zau _ _ _ _ (by omega)];exact cz (by omega) h1,by rw[zau _ _ _ _ (by omega)];exact cz (by omega) h2⟩
 ·rw[zau _ _ _ _ (by omega)];exact cz (by omega) hS.cbx
 ·exact za9 (cz (by omega) (ck.cell hv))
 ·exact ownsRow_setCell_below hz (by simp) _
 ·rw[World.frozen?_setCell,World.frozen?_of_block (a:=⟨bt,0,none⟩) (hZ.block bt hYs (hne bt (by omega)))];exact hS.fr
structure AppS (W:World) (v:Value) (u:List UInt8) (bt j:Nat) (xs:List Value) (b:Nat×Value) (f:Nat->Bool) (X:World):Prop where
 pre:f 17=false->Below W.heap.size W X
 new:f 17=false->f 16=true->X.cell? ⟨b.1,0,none⟩=some (St u)
 post:f 17=true->∃Y Z,Below W.heap.size W Y/\Y.grownBy Z v.ownBlock/\Z.ownsRow (bt+2) 22 1 b.2 (j+1) (xs++[St u])/\X=if f 18=true then Z.setCell ⟨bt,0,none⟩ b.2 else Z
theorem AppS.congr {W:World} {v:Value} {u:List UInt8} {bt j:Nat} {xs:List Value} {b:Nat×Value} {f g:Nat->Bool} {X:World} (h:AppS W v u bt j xs b f X) (e16:g 16=f 16) (e17:g 17=f 17) (e18:g 18=f 18):AppS W v u bt j xs b g X:=
 ⟨by rw[e17];exact h.pre,by rw[e16,e17];exact h.new,by rw[e17,e18];exact h.post⟩
theorem zw7 (p:Option Addr) (cap:Nat) (l:List Pt) (h3:3<=l.length) (hlen:l.length<=4096) (r:Rat)
 (C:Hid (∀W:World,Wd W->RowPts p l W->Calls Tryz.prog 33 #[.slice p l.length cap] W λe w'=>e=.returned (.int .i64 0)/\Below W.heap.size W w'))
 (M1:Hid (∀k,k<l.length->∀W:World,Wd W->Calls Tryz.prog 36 #[St (numS (cor l k).x),St (numS (cor l (k+1)).y)] W λe w'=>e=.returned (St (numS ((cor l k).x*(cor l (k+1)).y)))/\Below W.heap.size W w'))
 (M2:Hid (∀k,k<l.length->∀W:World,Wd W->Calls Tryz.prog 36 #[St (numS (cor l (k+1)).x),St (numS (cor l k).y)] W λe w'=>e=.returned (St (numS ((cor l (k+1)).x*(cor l k).y)))/\Below W.heap.size W w'))
 (SB:Hid (∀k,k<l.length->∀W:World,Wd W->Calls Tryz.prog 35 #[St (numS ((cor l k).x*(cor l (k+1)).y)),St (numS ((cor l (k+1)).x*(cor l k).y))] W λe w'=>e=.returned (St (numS (zbh l k)))/\Below W.heap.size W w'))
 (SM:Hid (∀p cap,∀W:World,Wd W->RowNums p l.length (zbh l) W->Calls Tryz.prog 37 #[.slice p l.length cap] W λe w'=>e=.returned (.tuple #[St (numS (psum (zbh l) l.length)),.int .i64 0])/\Below W.heap.size W w'))
 (DV:Hid (∀W:World,Wd W->Calls Tryz.prog 38 #[St (numS (psum (zbh l) l.length)),.string ⟨#[50]⟩] W λe w'=>e=.returned (.tuple #[St (numS r),.int .i64 0])/\Below W.heap.size W w'))
 (w:World) (HW:Hid (Wd w)) (HP:Hid (RowPts p l w)):
 Calls Tryz.prog 12 #[.slice p l.length cap] w λe w'=>e=.returned (.tuple #[St (numS r),.int .i64 0])/\Below w.heap.size w w':=by
 obtain⟨i0,hi,hz0,hz1,hz2⟩:=info_parts z1w
 refine(callsIn_wide (n:=3)).1 ?_
 refine callsIn_of_wp_marks Tryz.func12 rfl trivial ?_ rfl
 simp only[Tryz.ntmps12,List.size_toArray,List.length_cons,List.length_nil,Nat.reduceAdd,Nat.reduceSub,Array.replicate_succ,Array.replicate_zero,List.push_toArray,List.append_toArray,List.nil_append,List.cons_append]
 obtain⟨n,hn⟩:∃n,n=l.length:=⟨_,rfl⟩
 have hCk:=C.out w HW.out HP.out
 rw[<-hn] at h3 hlen hCk⊢
 have HN:=hid hn;clear hn
 have HCk:=hid hCk;clear hCk C
 gi_wp2
 refine⟨trivial,(callsIn_wide.2 HCk.out).mono ?_⟩
 rintro e w1 ⟨rfl,hb1⟩
 have HB1:=hid hb1;clear hb1 HCk
 gi_wp2_with (refine⟨trivial,?_⟩;gi_at_call 34;refine(callsIn_wide.2 (zfr _ _ _ _ _ rfl)).mono ?_;rintro e w' ⟨rfl,rfl⟩)
 obtain⟨W1,hW1⟩:∃W1,W1=(w1.alloc (.cells #[.slice none 0 0] 66)).alloc (.cells #[.slice p n cap] 26):=⟨_,rfl⟩
 rw[<-hW1]
 have hS1:AreaS w p cap n l w1.heap.size 0 W1:=by
  have hb:=HB1.out
  have b1:=(Boxed.new w1 66 (.slice none 0 0)).alloc (.cells #[.slice p n cap] 26)
  have b2:=Boxed.new (w1.alloc (.cells #[.slice none 0 0] 66)) 26 (.slice p n cap)
  rw[World.size_alloc] at b2
  have hw:Below w1.heap.size w1 ((w1.alloc (.cells #[.slice none 0 0] 66)).alloc (.cells #[.slice p n cap] 26)):=((Below.refl _ w1).alloc (Nat.le_refl _) _).alloc (by simp) _
  rw[hW1]
  refine⟨hb.trans (hw.mono hb.size),hb.size,λi hi=>?_,b2.cell,⟨_,b1.cell,World.ownsRow_nil _ _ _ _⟩,b1.frozen⟩
  obtain⟨b,off,e,h1,h2⟩:=HP.out i (by rw[<-HN.out];exact hi)
  exact⟨b,off,e,zbe h1,zai hw (zai hb h1),zai hw (zai hb h2)⟩
 have hsz1:W1.heap.size=w1.heap.size+2:=by rw[hW1];simp
 clear hW1
 have HS1:=hid hS1.bel.size
 have HZ:=hid hsz1
 have hw1:w.heap.size<=w1.heap.size:=HB1.out.size
 have hseq:=zgi 2 (by omega) (w1.heap.size+1) (txt l) (by rw[za2,<-HN.out];omega) (λW=>∃j,AreaS w p cap n l w1.heap.size j W) p cap (λW ⟨j,h⟩=>h.ptsAt HN.out)
 rw[za2,<-HN.out] at hseq
 refine zfq (n:=3) (B:=w.heap.size) rfl (by omega) rfl trivial (enters_of Tryz.func69 (by kernel_rfl) rfl) hseq (λk args h=>by subst h;rfl) hS1.bel.size
  (λj W=>AreaS w p cap n l w1.heap.size j W) (λc _ W=>False)
  (λj X Y h hc hb=>h.keep hc hb) (λc j X Y h hc hb=>h) (λj W h=>⟨j,h⟩) hS1
  (λj _ a' W=>∃bs,a'={tmps:= #[Value.slice p n cap,undef,.string ⟨#[]⟩,.int .i64 0,.pointer (some ⟨w1.heap.size,0,none⟩),undef,.pointer (some ⟨bs,0,none⟩),undef,undef,Value.slice p n cap,.int .i64 0,.bool false,Value.slice p n cap,Value.func (Fn.func 69) #[] #[.pointer (some ⟨w1.heap.size+1,0,none⟩)],I j,segV (cor l j) (cor l (j+1)),undef,undef,undef,undef,undef,undef,undef,undef,undef,undef,undef,undef,undef,undef,undef,undef,undef,undef,undef,undef,undef,undef,undef,undef,undef,undef,undef,undef,undef,undef],defers:=[]}/\SegB bs (cor l j) (cor l (j+1)) W)
  (λj _ a' X Y h hc hb=>let ⟨bs,e,h2⟩:=h;⟨bs,e,hc _ _ _ _ h2⟩) ?assign ?body ?done ?stop
 case assign=>
  rintro lp j args W K hlp hrec hS hj rfl hK
  rw[zgj l j (by rw[<-HN.out];exact hj)]
  have HK:=hid hK;clear hK
  unfold segV
  gi_wp2
  have hb1:Below W.heap.size W (W.alloc (.cells #[St (numS (cor l j).x),St (numS (cor l j).y),St (numS (cor l (j+1)).x),St (numS (cor l (j+1)).y)] 71)):=(Below.refl _ W).alloc (Nat.le_refl _) _
  exact HK.out _ _ ((za0 hb1).from _) (hS.keep (zac hb1) (hb1.mono hS.bel.size)) ⟨W.heap.size,rfl,World.alloc_heap_new W _⟩
 case body=>
  rintro lp j args a' W hlp ⟨r',hr'⟩ hS hj rfl ⟨bs,rfl,hseg⟩
  have hjl:j<l.length:=by rw[<-HN.out];exact hj
  have m1:=hid (M1.out j hjl);have m2:=hid (M2.out j hjl);have sb:=hid (SB.out j hjl)
  obtain⟨v,hv,hown⟩:=hS.box
  have H0:=hid hS
  have HT:=hid (zta l j)
  have HO:=hid hown
  obtain⟨u1,hu1⟩:∃u,u=numS ((cor l j).x*(cor l (j+1)).y):=⟨_,rfl⟩
  obtain⟨u2,hu2⟩:∃u,u=numS ((cor l (j+1)).x*(cor l j).y):=⟨_,rfl⟩
  obtain⟨u3,hu3⟩:∃u,u=numS (zbh l j):=⟨_,rfl⟩
  rw[<-hu1] at m1 sb;rw[<-hu2] at m2 sb;rw[<-hu3] at sb HT
  obtain⟨q1,q2,q3,q4⟩:=hseg.at
  clear hseg
  unfold segV
  generalize numS (cor l j).x=x1 at*
  generalize numS (cor l j).y=y1 at*
  generalize numS (cor l (j+1)).x=x2 at*
  generalize numS (cor l (j+1)).y=y2 at*
  have HQ:=hid (⟨hv,q1,q2,q3,q4⟩:W.cell? ⟨w1.heap.size,0,none⟩=some v/\W.cell? ⟨bs,0,none⟩=some (St x1)/\W.cell? ⟨bs,1,none⟩=some (St y1)/\W.cell? ⟨bs,2,none⟩=some (St x2)/\W.cell? ⟨bs,3,none⟩=some (St y2))
  clear q1 q2 q3 q4 hv hown hu1 hu2 hu3 hseq hS1 hr' hS M1 M2 SB SM DV
  gi_wp2
  have hbl:=H0.out.bel
  have hks:∀w':World,Below W.heap.size W w'->w'.cell? ⟨w1.heap.size,0,none⟩=some v/\w'.cell? ⟨bs,0,none⟩=some (St x1)/\w'.cell? ⟨bs,1,none⟩=some (St y1)/\w'.cell? ⟨bs,2,none⟩=some (St x2)/\w'.cell? ⟨bs,3,none⟩=some (St y2):=λw' hb=>
   ⟨zai hb HQ.out.1,zai hb HQ.out.2.1,zai hb HQ.out.2.2.1,zai hb HQ.out.2.2.2.1,zai hb HQ.out.2.2.2.2⟩
  have KS:=hid hks;clear hks
  have HV:=hid HQ.out.1
  refine zin (λ(b:Nat×Value) i=>([v,.pointer (some ⟨bs,0,none⟩),.pointer (some ⟨bs,0,none⟩),St x1,.pointer (some ⟨bs,2,none⟩),.pointer (some ⟨bs,3,none⟩),St y2,St u1,.pointer (some ⟨bs,2,none⟩),.pointer (some ⟨bs,2,none⟩),St x2,.pointer (some ⟨bs,0,none⟩),.pointer (some ⟨bs,1,none⟩),St y1,St u2,St u3,.slice (some ⟨b.1,0,none⟩) 1 1,b.2]:List Value).getD i undef) (AppS W v u3 w1.heap.size j (zf4 l j)) (by kernel_rfl) (by kernel_rfl) (by kernel_rfl) (0,v) ⟨λ_=>(Below.refl _ W).drew,λ_ h=>(by cases h),λh=>(by cases h)⟩ λb=>?_
  refine zag (v) (by rfl) (by rfl) (λf W' h=>h.congr rfl rfl rfl) (λf W' hf h=>by have g:=KS.out _ (h.pre (hf.no (j:=17) hf.self (by kernel_rfl)));obtain⟨q0,q1,q2,q3,q4⟩:=g;go_simp) ?_
  try simp only[Act.put,zzA,zzB,zzC]
  refine zag (.pointer (some ⟨bs,0,none⟩)) (by rfl) (by rfl) (λf W' h=>h.congr rfl rfl rfl) (λf W' hf h=>by go_simp) ?_
  try simp only[Act.put,zzA,zzB,zzC]
  refine zag (.pointer (some ⟨bs,0,none⟩)) (by rfl) (by rfl) (λf W' h=>h.congr rfl rfl rfl) (λf W' hf h=>by go_simp) ?_
  try simp only[Act.put,zzA,zzB,zzC]
  refine zag (St x1) (by rfl) (by rfl) (λf W' h=>h.congr rfl rfl rfl) (λf W' hf h=>by have g:=KS.out _ (h.pre (hf.no (j:=17) (hf.no (j:=16) (hf.no (j:=15) (hf.no (j:=7) hf.self (by kernel_rfl)) (by kernel_rfl)) (by kernel_rfl)) (by kernel_rfl)));obtain⟨q0,q1,q2,q3,q4⟩:=g;go_simp) ?_
  try simp only[Act.put,zzA,zzB,zzC]
  refine zag (.pointer (some ⟨bs,2,none⟩)) (by rfl) (by rfl) (λf W' h=>h.congr rfl rfl rfl) (λf W' hf h=>by go_simp) ?_
  try simp only[Act.put,zzA,zzB,zzC]
  refine zag (.pointer (some ⟨bs,3,none⟩)) (by rfl) (by rfl) (λf W' h=>h.congr rfl rfl rfl) (λf W' hf h=>by go_simp) ?_
  try simp only[Act.put,zzA,zzB,zzC]
  refine zag (St y2) (by rfl) (by rfl) (λf W' h=>h.congr rfl rfl rfl) (λf W' hf h=>by have g:=KS.out _ (h.pre (hf.no (j:=17) (hf.no (j:=16) (hf.no (j:=15) (hf.no (j:=7) hf.self (by kernel_rfl)) (by kernel_rfl)) (by kernel_rfl)) (by kernel_rfl)));obtain⟨q0,q1,q2,q3,q4⟩:=g;go_simp) ?_
  try simp only[Act.put,zzA,zzB,zzC]
  refine zbv (St u1) (by rfl) (by rfl) (λf W' hf h C' hC'=>by
   have h17:=(hf.no (j:=17) (hf.no (j:=16) (hf.no (j:=15) hf.self (by kernel_rfl)) (by kernel_rfl)) (by kernel_rfl))
   have h16:=(hf.no (j:=16) (hf.no (j:=15) hf.self (by kernel_rfl)) (by kernel_rfl))
   have hp:=h.pre h17
   go_simp
   refine(m1.out _ (HW.out.below (hbl.trans (hp.mono hbl.size)))).mono ?_
   rintro e w' ⟨rfl,hb⟩
   exact⟨_,rfl,hC' _ ⟨λ_=>hp.trans (hb.mono hp.size),λ_ k=>(by have k':f 16=true:=k;rw[h16] at k';cases k'),λk=>(by have k':f 17=true:=k;rw[h17] at k';cases k')⟩⟩) ?_
  try simp only[Act.put,zzA,zzB,zzC]
  refine zag (.pointer (some ⟨bs,2,none⟩)) (by rfl) (by rfl) (λf W' h=>h.congr rfl rfl rfl) (λf W' hf h=>by go_simp) ?_
  try simp only[Act.put,zzA,zzB,zzC]
  refine zag (.pointer (some ⟨bs,2,none⟩)) (by rfl) (by rfl) (λf W' h=>h.congr rfl rfl rfl) (λf W' hf h=>by go_simp) ?_
  try simp only[Act.put,zzA,zzB,zzC]
  refine zag (St x2) (by rfl) (by rfl) (λf W' h=>h.congr rfl rfl rfl) (λf W' hf h=>by have g:=KS.out _ (h.pre (hf.no (j:=17) (hf.no (j:=16) (hf.no (j:=15) (hf.no (j:=14) hf.self (by kernel_rfl)) (by kernel_rfl)) (by kernel_rfl)) (by kernel_rfl)));obtain⟨q0,q1,q2,q3,q4⟩:=g;go_simp) ?_
  try simp only[Act.put,zzA,zzB,zzC]
  refine zag (.pointer (some ⟨bs,0,none⟩)) (by rfl) (by rfl) (λf W' h=>h.congr rfl rfl rfl) (λf W' hf h=>by go_simp) ?_
  try simp only[Act.put,zzA,zzB,zzC]
  refine zag (.pointer (some ⟨bs,1,none⟩)) (by rfl) (by rfl) (λf W' h=>h.congr rfl rfl rfl) (λf W' hf h=>by go_simp) ?_
  try simp only[Act.put,zzA,zzB,zzC]
  refine zag (St y1) (by rfl) (by rfl) (λf W' h=>h.congr rfl rfl rfl) (λf W' hf h=>by have g:=KS.out _ (h.pre (hf.no (j:=17) (hf.no (j:=16) (hf.no (j:=15) (hf.no (j:=14) hf.self (by kernel_rfl)) (by kernel_rfl)) (by kernel_rfl)) (by kernel_rfl)));obtain⟨q0,q1,q2,q3,q4⟩:=g;go_simp) ?_
  try simp only[Act.put,zzA,zzB,zzC]
  refine zbv (St u2) (by rfl) (by rfl) (λf W' hf h C' hC'=>by
   have h17:=(hf.no (j:=17) (hf.no (j:=16) (hf.no (j:=15) hf.self (by kernel_rfl)) (by kernel_rfl)) (by kernel_rfl))
   have h16:=(hf.no (j:=16) (hf.no (j:=15) hf.self (by kernel_rfl)) (by kernel_rfl))
   have hp:=h.pre h17
   go_simp
   refine(m2.out _ (HW.out.below (hbl.trans (hp.mono hbl.size)))).mono ?_
   rintro e w' ⟨rfl,hb⟩
   exact⟨_,rfl,hC' _ ⟨λ_=>hp.trans (hb.mono hp.size),λ_ k=>(by have k':f 16=true:=k;rw[h16] at k';cases k'),λk=>(by have k':f 17=true:=k;rw[h17] at k';cases k')⟩⟩) ?_
  try simp only[Act.put,zzA,zzB,zzC]
  refine zbv (St u3) (by rfl) (by rfl) (λf W' hf h C' hC'=>by
   have h17:=(hf.no (j:=17) (hf.no (j:=16) hf.self (by kernel_rfl)) (by kernel_rfl))
   have h16:=(hf.no (j:=16) hf.self (by kernel_rfl))
   have hp:=h.pre h17
   go_simp
   refine(sb.out _ (HW.out.below (hbl.trans (hp.mono hbl.size)))).mono ?_
   rintro e w' ⟨rfl,hb⟩
   exact⟨_,rfl,hC' _ ⟨λ_=>hp.trans (hb.mono hp.size),λ_ k=>(by have k':f 16=true:=k;rw[h16] at k';cases k'),λk=>(by have k':f 17=true:=k;rw[h17] at k';cases k')⟩⟩) ?_
  try simp only[Act.put,zzA,zzB,zzC]
  refine zdc (.slice (some ⟨b.1,0,none⟩) 1 1) (by rfl) (by rfl) (λf W' hf h C' hC'=>by
   have h17:=(hf.no (j:=17) hf.self (by kernel_rfl))
   have hp:=h.pre h17
   have ha:Below W'.heap.size W' (W'.alloc (.cells #[St u3] 22)):=(Below.refl _ W').alloc (Nat.le_refl _) _
   have:=hC' (W'.heap.size,b.2) (W'.alloc (.cells #[St u3] 22)) (λi hi=>?_) ⟨λ_=>hp.trans (ha.mono hp.size),λ_ _=>(Boxed.new W' 22 (St u3)).cell,λk=>(by have k':f 17=true:=k;rw[h17] at k';cases k')⟩
   ·go_simp
    exact this
   ·match i,hi with
    |0,_|1,_|2,_|3,_|4,_|5,_|6,_|7,_|8,_|9,_|10,_|11,_|12,_|13,_|14,_|15,_|17,_=>rfl
    |16,hi=>rw[hf.self] at hi;cases hi
    |_+18,_=>rfl) ?_
  try simp only[Act.put,zzA,zzB,zzC]
  refine zdc b.2 (by rfl) (by rfl) (λf W' hf h C' hC'=>by
   have h17:=hf.self
   have h18:=(hf.no (j:=18) hf.self (by kernel_rfl))
   have h16:=hf.done 16 (by kernel_rfl)
   have hp:=h.pre h17
   have hn:=h.new h17 h16
   have hc:=zac hp
   refine zmb _ W' _ _ 66 rfl (w1.heap.size+2) 22 i0 (St []) 1 16 Tryz.underlying66 hi hz0 hz1 hz2 rfl (by decide) v j (zf4 l j) rfl (zcj hc HO.out) ⟨b.1,0,none⟩ 1 1 [St u3] rfl rfl (λi u hu=>?_) (λu hu=>by simp at hu;subst hu;rfl) (by unfold maxLen;omega) (by omega) (by have:=zbe (hc.cell H0.out.cbx);simp at this;omega) (λv' w' hown' hgrow=>?_)
   ·match i,hu with
    |0,hu=>simp at hu;subst hu;exact hn
    |_+1,hu=>simp at hu
   ·refine hC' (b.1,v') w' (λi hi=>?_) ⟨λk=>?_,λk=>?_,λ_=>⟨W',w',hp,hgrow,hown',?_⟩⟩
    ·match i,hi with
     |0,_|1,_|2,_|3,_|4,_|5,_|6,_|7,_|8,_|9,_|10,_|11,_|12,_|13,_|14,_|15,_|16,_=>rfl
     |17,hi=>rw[hf.self] at hi;cases hi
     |_+18,_=>rfl
    ·cases k
    ·cases k
    ·show w'=if f 18=true then _ else w'
     rw[h18];rfl) ?_
  try simp only[Act.put,zzA,zzB,zzC]
  refine zbv undef (by rfl) (by rfl) (λf W' hf h C' hC'=>by
   have h17:=hf.done 17 (by kernel_rfl)
   have h18:=hf.self
   obtain⟨Y,Z,hY,hZ,hz,rfl⟩:=h.post h17
   rw[h18,if_neg (by simp)] at*
   have hst:=zo9 H0.out HV.out HO.out hY hZ (by rw[HT.out];exact hz) 0
   have ck:=zac hY
   have hlt:some w1.heap.size≠v.ownBlock:=λe=>by have:=((zcj ck HO.out).lt _ e.symm).1;omega
   have hcell:=hZ.cell (ck.cell HV.out) hlt
   have hfr:Z.frozen? ⟨w1.heap.size,0,none⟩=false:=by
    rw[World.frozen?_of_block (a:=⟨w1.heap.size,0,none⟩) (hZ.block _ (zbe (ck.cell HV.out)) hlt)];exact ck.frozen HV.out H0.out.fr
   have:=hC' (Z.setCell ⟨w1.heap.size,0,none⟩ b.2) ⟨λk=>(by have k':f 17=false:=k;rw[h17] at k';cases k'),λk=>(by have k':f 17=false:=k;rw[h17] at k';cases k'),λ_=>⟨Y,Z,hY,hZ,hz,rfl⟩⟩
   obtain⟨q,m,c,e2⟩:∃q m c,b.2=.slice q m c:=by
    rcases hz.2 with⟨e,_⟩|⟨g,cp,cur,e,_⟩<;>exact⟨_,_,_,e⟩
   rw[e2] at this
   clear hst
   go_simp
   exact this) ?_
  try simp only[Act.put]
  refine ze1 λf X hf h=>?_
  obtain⟨Y,Z,hY,hZ,hz,rfl⟩:=h.post (hf 17 (by decide))
  rw[if_pos (hf 18 (by decide))]
  have hst:=zo9 H0.out HV.out HO.out hY hZ (by rw[HT.out];exact hz) W1.heap.size
  exact hst
 case done=>
  rintro D W hD hS hK
  obtain⟨v,hv,hown⟩:=hS.box
  obtain⟨q,c,rfl⟩:∃q c,v=.slice q n c:=by
   rcases hown.2 with⟨_,e⟩|⟨g,cp,cur,e,_⟩
   ·omega
   ·exact⟨_,_,e⟩
  have hrow:RowNums q l.length (zbh l) W:=by
   intro i hi
   obtain⟨q',cap',e,_,hc⟩:=Sl.of_own hown
   have e1:=(Value.slice.inj e).1
   subst e1
   exact hc i _ (by unfold zf4;rw[List.getElem?_map,List.getElem?_range (by rw[HN.out];exact hi)];rfl)
  have hwd:=HW.out.below hS.bel
  have hsm:=SM.out q c W hwd hrow
  rw[<-HN.out] at hsm
  have HSM:=hid hsm
  have HX:=hid (⟨hS.bel,hK⟩:Below w.heap.size w W/\W.heap[D]? =some (.deferred (some [])))
  have hdv:=DV.out;rw[<-HN.out] at hdv
  have HDV:=hid hdv
  clear hS hK hown hrow hwd hsm hdv hseq hS1 M1 M2 SB SM DV
  gi_wp2
  refine⟨trivial,(callsIn_wide.2 HSM.out).mono ?_⟩
  rintro e W2 ⟨rfl,hb2⟩
  have hbl2:=HX.out.1.trans (hb2.mono HX.out.1.size)
  have HX2:=hid (⟨hbl2,(hb2.block _ (Array.getElem?_eq_some_iff.1 HX.out.2).1).trans HX.out.2⟩:Below w.heap.size w W2/\W2.heap[D]? =some (.deferred (some [])))
  clear hb2 hbl2 HX HSM
  gi_wp2
  refine⟨trivial,(callsIn_wide.2 (HDV.out W2 (HW.out.below HX2.out.1))).mono ?_⟩
  rintro e W3 ⟨rfl,hb3⟩
  have hbl3:=HX2.out.1.trans (hb3.mono HX2.out.1.size)
  have HX3:=hid (⟨hbl3,(hb3.block _ (Array.getElem?_eq_some_iff.1 HX2.out.2).1).trans HX2.out.2⟩:Below w.heap.size w W3/\W3.heap[D]? =some (.deferred (some [])))
  clear hb3 hbl3 HX2
  gi_wp2
  refine⟨by simp,.inl ⟨_,_,rfl,run_takeDeferred HX3.out.2,?_⟩⟩
  refine⟨.tuple #[St (numS r),.int .i64 0],by simp[results,Tryz.f12,go_sem],⟨rfl,zby HX3.out.1 (by have:=HS1.out;omega) HX3.out.2⟩⟩
 case stop=>
  rintro D c j W hD h hK
  exact h.elim
theorem zzk:numS 2=[50]:=by
 have:numS ((2:Int):Rat)=[50]:=by rw[zha];show itoa ((2:Nat):Int)=_;rw[Str.zad,zae (by omega)];rfl
 exact this
theorem zw8:sz 2 1:=⟨by decide,by decide⟩
theorem zt5 (p:Option Addr) (cap:Nat) (l:List Pt) (h3:3<=l.length) (hlen:l.length<=4096) (hz:∀i,szP (cor l i) 36) (hs:zch l) (hm:zbz l)
 (ht:∀k,k<l.length->∃i j,0<i/\0<j/\i+j<300/\sz (psum (zbh l) k) i/\sz (zbh l k) j) (m:Nat) (hm0:0<m) (hm1:m+1<=300) (hmz:sz (psum (zbh l) l.length) m)
 (w:World) (hw:Wd w) (hp:RowPts p l w):
 Calls Tryz.prog 12 #[.slice p l.length cap] w λe w'=>e=.returned (.tuple #[St (numS (psum (zbh l) l.length/2)),.int .i64 0])/\Below w.heap.size w w':=by
 refine zw7 p cap l h3 hlen _ (hid λW hW hp=>zj5 p cap l h3 hlen hz hs hm W hW hp)
  (hid λk _ W hW=>zhm _ _ 36 36 (by omega) (by omega) (by omega) (hz _).1 (hz _).2 W hW) (hid λk _ W hW=>zhm _ _ 36 36 (by omega) (by omega) (by omega) (hz _).1 (hz _).2 W hW)
  (hid λk _ W hW=>zgg _ _ 72 72 (by omega) (by omega) (by omega) (zca (hz _).1 (hz _).2) (zca (hz _).1 (hz _).2) W hW)
  (hid λp cap W hW hp=>z23 p cap l.length (zbh l) hlen ht W hW hp) (hid λW hW=>?_) w (hid hw) (hid hp)
 have:=zoj (psum (zbh l) l.length) 2 (by decide) m 1 hm0 (by omega) hm1 hmz zw8 W hW
 rwa [zzk] at this
end Go.Proofs.YtbjomkfgicffhaaGreatDoor
namespace Go.Proofs.YtbjomkfgicffhaaGreatDoor.Geo
theorem zmz {a b:Rat} (ha:0<a) (hb:0<b):0<a*b:=Rat.mul_pos ha hb
theorem zzl {a b:Rat} (ha:0<a) (hb:b<0):a*b<0:=by
 have:=Rat.mul_pos ha (show 0< -b by grind);grind
theorem zw9 {a b:Rat} (ha:a<0) (hb:0<b):a*b<0:=by
 have:=Rat.mul_pos (show 0< -a by grind) hb;grind
theorem z1x {a b:Rat} (ha:a<0) (hb:b<0):0<a*b:=by
 have:=Rat.mul_pos (show 0< -a by grind) (show 0< -b by grind);grind
theorem zdq (a b:Rat):cmpR a b=cmpR (a-b) 0:=zmx _ _ _ _ (by grind)
theorem zrl (a b:Rat):cmpR (a*b) 0=cmpR a 0*cmpR b 0:=by
 rcases zaw a 0 with⟨h1,e1⟩|⟨h1,e1⟩|⟨h1,e1⟩<;>rcases zaw b 0 with⟨h2,e2⟩|⟨h2,e2⟩|⟨h2,e2⟩<;>rw[e1,e2]
 ·have:=z1x h1 h2;have:=zaw (a*b) 0;grind
 ·subst h2;rw[Rat.mul_zero,zeu];rfl
 ·have:=zw9 h1 h2;have:=zaw (a*b) 0;grind
 ·subst h1;rw[Rat.zero_mul,zeu];rfl
 ·subst h1;rw[Rat.zero_mul,zeu];rfl
 ·subst h1;rw[Rat.zero_mul,zeu];rfl
 ·have:=zzl h1 h2;have:=zaw (a*b) 0;grind
 ·subst h2;rw[Rat.mul_zero,zeu];rfl
 ·have:=zmz h1 h2;have:=zaw (a*b) 0;grind
theorem zcl (a:Rat):cmpR a 0= -1\/cmpR a 0=0\/cmpR a 0=1:=by have:=zaw a 0;grind
def onR (a b p:Pt):Prop:=cmpR p.x a.x*cmpR p.x b.x<=0/\cmpR p.y a.y*cmpR p.y b.y<=0
instance (a b p:Pt):Decidable (onR a b p):=by unfold onR;infer_instance
def cr (a b c:Pt):Rat:=(b.x-a.x)*(c.y-a.y)-(b.y-a.y)*(c.x-a.x)
theorem zgk (a b c:Pt):turn a b c=cmpR (cr a b c) 0:=zdq _ _
theorem zgy {a b c:Pt}:turn a b c=0↔cr a b c=0:=by rw[zgk,zgv]
theorem z0x {u v R S:Int} (hu:u= -1\/u=0\/u=1) (hv:v= -1\/v=0\/v=1) (hR:R= -1\/R=0\/R=1) (hS:S= -1\/S=0\/S=1) (h:u*S=v*R) (hRS:R≠0\/S≠0) (hle:R*S<=0):u*v<=0:=by
 rcases hu with rfl|rfl|rfl<;>rcases hv with rfl|rfl|rfl<;>rcases hR with rfl|rfl|rfl<;>rcases hS with rfl|rfl|rfl<;>omega
theorem z0y {u v R S:Int} (hu:u= -1\/u=0\/u=1) (hv:v= -1\/v=0\/v=1) (hR:R= -1\/R=0\/R=1) (hS:S= -1\/S=0\/S=1) (h:u*S=v*R) (hle:u*v<=0) (h0:0<R*S):u=0/\v=0:=by
 rcases hu with rfl|rfl|rfl<;>rcases hv with rfl|rfl|rfl<;>rcases hR with rfl|rfl|rfl<;>rcases hS with rfl|rfl|rfl<;>omega
theorem zmc {a b c d:Pt} (h0:turn a b c=0) (hq:turn c d a≠0\/turn c d b≠0) (h:turn c d a*turn c d b<=0):onR a b c:=by
 rw[zgy] at h0
 rw[zgk,zgk] at h hq
 have e1:(c.x-a.x)*cr c d b=(c.x-b.x)*cr c d a:=by unfold cr at*;grind
 have e2:(c.y-a.y)*cr c d b=(c.y-b.y)*cr c d a:=by unfold cr at*;grind
 have f1:=congrArg (cmpR · 0) e1
 have f2:=congrArg (cmpR · 0) e2
 simp only[zrl] at f1 f2
 unfold onR
 rw[zdq c.x,zdq c.x,zdq c.y,zdq c.y]
 exact⟨z0x (zcl _) (zcl _) (zcl _) (zcl _) f1 hq h,z0x (zcl _) (zcl _) (zcl _) (zcl _) f2 hq h⟩
theorem zgr {a b c d:Pt} (h0:turn a b c=0) (h:onR a b c):turn c d a*turn c d b<=0:=by
 rw[zgy] at h0
 rw[zgk,zgk]
 have e1:(c.x-a.x)*cr c d b=(c.x-b.x)*cr c d a:=by unfold cr at*;grind
 have e2:(c.y-a.y)*cr c d b=(c.y-b.y)*cr c d a:=by unfold cr at*;grind
 have f1:=congrArg (cmpR · 0) e1
 have f2:=congrArg (cmpR · 0) e2
 simp only[zrl] at f1 f2
 unfold onR at h
 rw[zdq c.x,zdq c.x,zdq c.y,zdq c.y] at h
 rcases Int.lt_or_le 0 (cmpR (cr c d a) 0*cmpR (cr c d b) 0) with hp|hp
 ·obtain⟨g1,g2⟩:=z0y (zcl _) (zcl _) (zcl _) (zcl _) f1 h.1 hp
  obtain⟨g3,g4⟩:=z0y (zcl _) (zcl _) (zcl _) (zcl _) f2 h.2 hp
  rw[zgv] at g1 g2 g3 g4
  have:cr c d a=0:=by unfold cr;grind
  rw[this,zeu] at hp
  omega
 ·exact hp
theorem zrm {a b c d:Pt} (h0:turn a b c=0) (h:turn a b d≠0):turn c d a≠0\/turn c d b≠0:=by
 rcases Int.decEq (turn c d a) 0 with h1|h1
 ·exact .inl h1
 ·refine .inr λh2=>h ?_
  rw[zgy] at*
  unfold cr at*
  grind
def uniq (P:Pt->Bool):List Pt->List Pt->List Pt
 |acc,[]=>acc
 |acc,x::r=>uniq P (if P x&&!acc.contains x then acc++[x] else acc) r
theorem zla (P:Pt->Bool):∀(l acc:List Pt),acc.Nodup->(uniq P acc l).Nodup/\∀y,y∈uniq P acc l↔y∈acc\/(y∈l/\P y=true)
 |[],acc,h=>⟨h,λy=>by simp[uniq]⟩
 |x::r,acc,h=>by
  rw[uniq]
  by_cases hp:(P x&&!acc.contains x)=true
  ·rw[if_pos hp]
   simp only[Bool.and_eq_true,Bool.not_eq_true',List.contains_eq_mem,decide_eq_false_iff_not] at hp
   obtain⟨h1,h2⟩:=zla P r (acc++[x]) (by rw[List.nodup_append];exact⟨h,by simp,λa ha b hb=>by simp at hb;subst hb;exact λe=>hp.2 (e▸ha)⟩)
   refine⟨h1,λy=>?_⟩
   rw[h2]
   simp only[List.mem_append,List.mem_cons,List.not_mem_nil,or_false]
   constructor
   ·rintro((h|rfl)|h)
    ·exact .inl h
    ·exact .inr ⟨.inl rfl,hp.1⟩
    ·exact .inr ⟨.inr h.1,h.2⟩
   ·rintro(h|⟨rfl|h,k⟩)
    ·exact .inl (.inl h)
    ·exact .inl (.inr rfl)
    ·exact .inr ⟨h,k⟩
  ·rw[if_neg hp]
   obtain⟨h1,h2⟩:=zla P r acc h
   refine⟨h1,λy=>?_⟩
   rw[h2]
   simp only[List.mem_cons]
   constructor
   ·rintro(h|h)
    ·exact .inl h
    ·exact .inr ⟨.inr h.1,h.2⟩
   ·rintro(h|⟨rfl|h,k⟩)
    ·exact .inl h
    ·refine .inl ?_
     simp only[Bool.and_eq_true,Bool.not_eq_true',List.contains_eq_mem,decide_eq_false_iff_not,not_and,Decidable.not_not] at hp
     exact hp k
    ·exact .inr ⟨h,k⟩
def znt (a b c d:Pt):Int:=
 if turn a b c=0/\turn a b d=0/\turn c d a=0/\turn c d b=0 then
  min 2 ((uniq (λx=>decide (onR a b x)&&decide (onR c d x)&&decide (turn a b x=0)&&decide (turn c d x=0)) [] [a,b,c,d]).length:Int)
 else if turn a b c*turn a b d<=0/\turn c d a*turn c d b<=0/\(turn a b c≠0\/onR a b c)/\(turn a b d≠0\/onR a b d) then 1
 else if turn a b c=0/\onR a b c\/turn a b d=0/\onR a b d\/turn c d a=0/\onR c d a\/turn c d b=0/\onR c d b then 1
 else 0
def le (p q:Pt):Prop:=ordP p q<=0
theorem zlb {a b x:Pt} (h:turn a b x=0):onR a b x↔le (low a b) x/\le x (high a b):=by
 rw[zgy] at h
 have e1:(b.x-a.x)*(x.y-a.y)=(b.y-a.y)*(x.x-a.x):=by unfold cr at h;grind
 have e2:(b.x-a.x)*(x.y-b.y)=(b.y-a.y)*(x.x-b.x):=by unfold cr at h;grind
 have f1:=congrArg (cmpR · 0) e1
 have f2:=congrArg (cmpR · 0) e2
 simp only[zrl,<-zdq] at f1 f2
 unfold onR le low high
 have k1:=zaw x.x a.x;have k2:=zaw x.x b.x;have k3:=zaw x.y a.y;have k4:=zaw x.y b.y
 have s1:=zet a.x x.x;have s2:=zet b.x x.x;have s3:=zet a.y x.y;have s4:=zet b.y x.y
 have s5:=zet a.x b.x;have s6:=zet a.y b.y
 unfold ordP
 rcases zaw a.x b.x with⟨p1,p2⟩|⟨p1,p2⟩|⟨p1,p2⟩<;>rcases zaw a.y b.y with⟨q1,q2⟩|⟨q1,q2⟩|⟨q1,q2⟩<;>clear e1 e2 h
 all_goals
  rw[p2] at s5
  rw[q2] at s6
  rw[s5,s6] at f1 f2
  simp[p2,q2]
  rcases k1 with⟨k1,l1⟩|⟨k1,l1⟩|⟨k1,l1⟩<;>rcases k2 with⟨k2,l2⟩|⟨k2,l2⟩|⟨k2,l2⟩<;>simp only[l1,l2] at s1 s2 f1 f2⊢ <;>first|(exfalso;grind;done)|grind
theorem le_trans {p q r:Pt} (h:le p q) (k:le q r):le p r:=by unfold le at*;have:=zas p q;have:=zas q r;have:=zas p r;grind
theorem le_antisymm {p q:Pt} (h:le p q) (k:le q p):p=q:=by unfold le at*;have:=zas p q;have:=zas q p;grind
theorem zhp (p:Pt):le p p:=by unfold le;rw[zgw];exact Int.le_refl _
def maxP (p q:Pt):Pt:=if ordP q p>0 then q else p
def minP (p q:Pt):Pt:=if ordP q p<0 then q else p
theorem zt6 {p q x:Pt}:le (maxP p q) x↔le p x/\le q x:=by
 unfold maxP le;have:=zas p q;have:=zas q p;have:=zas p x;have:=zas q x;grind
theorem zt7 {p q x:Pt}:le x (minP p q)↔le x p/\le x q:=by
 unfold minP le;have:=zas p q;have:=zas q p;have:=zas x p;have:=zas x q;grind
theorem z1y {l:List Pt} {x y:Pt} (hx:x∈l) (hy:y∈l) (hne:x≠y):2<=l.length:=by
 match l,hx,hy with
 |[z],hx,hy=>simp at hx hy;exact absurd (hx.trans hy.symm) hne
 |_::_::_,_,_=>simp
theorem z1z {l:List Pt} {x:Pt} (hx:x∈l) (hd:l.Nodup) (h:∀y∈l,y=x):l.length=1:=by
 match l,hx with
 |[z],_=>rfl
 |z::y::r,_=>
  have h1:=h z (by simp)
  have h2:=h y (by simp)
  subst h1;subst h2
  simp at hd
theorem zp8 {a b c d:Pt} (h1:turn a b c=0) (h2:turn a b d=0) (h3:turn c d a=0) (h4:turn c d b=0):
 min 2 ((uniq (λx=>decide (onR a b x)&&decide (onR c d x)&&decide (turn a b x=0)&&decide (turn c d x=0)) [] [a,b,c,d]).length:Int)=1-ordP (maxP (low a b) (low c d)) (minP (high a b) (high c d)):=by
 obtain⟨hn,hm⟩:=zla (λx=>decide (onR a b x)&&decide (onR c d x)&&decide (turn a b x=0)&&decide (turn c d x=0)) [a,b,c,d] [] (by simp)
 generalize hL:uniq _ [] [a,b,c,d]=L at*
 have hz:∀y∈[a,b,c,d],turn a b y=0/\turn c d y=0:=by
  intro y hy
  simp at hy
  rcases hy with rfl|rfl|rfl|rfl
  ·exact⟨zcz _ _,h3⟩
  ·exact⟨zc8 _ _,h4⟩
  ·exact⟨h1,zcz _ _⟩
  ·exact⟨h2,zc8 _ _⟩
 have hm':∀y,y∈L↔y∈[a,b,c,d]/\le (maxP (low a b) (low c d)) y/\le y (minP (high a b) (high c d)):=by
  intro y
  rw[hm y]
  simp only[List.not_mem_nil,false_or]
  refine and_congr_right λhy=>?_
  obtain⟨z1,z2⟩:=hz y hy
  simp only[Bool.and_eq_true,decide_eq_true_eq,z1,z2,and_true,zlb z1,zlb z2,zt6,zt7]
  constructor
  ·rintro⟨⟨a1,a2⟩,a3,a4⟩;exact⟨⟨a1,a3⟩,a2,a4⟩
  ·rintro⟨⟨a1,a3⟩,a2,a4⟩;exact⟨⟨a1,a2⟩,a3,a4⟩
 have hf:maxP (low a b) (low c d)∈[a,b,c,d]:=by
  have l1:low a b=a\/low a b=b:=by unfold low;split<;>simp
  have l2:low c d=c\/low c d=d:=by unfold low;split<;>simp
  have l3:maxP (low a b) (low c d)=low a b\/maxP (low a b) (low c d)=low c d:=by unfold maxP;split<;>simp
  rcases l3 with l3|l3<;>rw[l3]<;>rcases l1 with l1|l1<;>rcases l2 with l2|l2<;>simp[l1,l2]
 have ht:minP (high a b) (high c d)∈[a,b,c,d]:=by
  have l1:high a b=a\/high a b=b:=by unfold high;split<;>simp
  have l2:high c d=c\/high c d=d:=by unfold high;split<;>simp
  have l3:minP (high a b) (high c d)=high a b\/minP (high a b) (high c d)=high c d:=by unfold minP;split<;>simp
  rcases l3 with l3|l3<;>rw[l3]<;>rcases l1 with l1|l1<;>rcases l2 with l2|l2<;>simp[l1,l2]
 generalize maxP (low a b) (low c d)=f at*
 generalize minP (high a b) (high c d)=t at*
 have ho:=zas f t
 have hle:le f t↔ordP f t<=0:=Iff.rfl
 rcases ho with⟨_,ho⟩|⟨e,ho⟩|⟨_,ho⟩
 ·have hlt:le f t:=by rw[hle,ho];decide
  have hne:f≠t:=λe=>by rw[e,zgw] at ho;cases ho
  have:=z1y ((hm' f).2 ⟨hf,zhp _,hlt⟩) ((hm' t).2 ⟨ht,hlt,zhp _⟩) hne
  rw[ho];omega
 ·subst e
  have:=z1z ((hm' f).2 ⟨hf,zhp _,zhp _⟩) hn (λy hy=>le_antisymm ((hm' y).1 hy).2.2 ((hm' y).1 hy).2.1)
  rw[ho];omega
 ·have:L=[]:=by
   cases L with
   |nil=>rfl
   |cons y r=>
    have:=(hm' y).1 (by simp)
    have:=hle.1 (le_trans this.2.1 this.2.2)
    omega
  rw[this,ho];rfl
theorem zmd (a b c d:Pt):znt a b c d=meet a b c d:=by
 unfold znt meet
 by_cases h0:turn a b c=0/\turn a b d=0/\turn c d a=0/\turn c d b=0
 ·obtain⟨h1,h2,h3,h4⟩:=h0
  rw[if_pos ⟨h1,h2,h3,h4⟩,if_neg (by omega),zp8 h1 h2 h3 h4]
  rfl
 ·have h0':turn a b c≠0\/turn a b d≠0\/turn c d a≠0\/turn c d b≠0:=by omega
  rw[if_neg h0,if_pos h0']
  by_cases hc:turn a b c*turn a b d<=0/\turn c d a*turn c d b<=0
  ·rw[if_pos hc,if_pos]
   refine⟨hc.1,hc.2,?_,?_⟩
   ·rcases Int.decEq (turn a b c) 0 with h|h
    ·exact .inl h
    ·refine .inr (zmc h ?_ hc.2)
     rcases Int.decEq (turn a b d) 0 with h'|h'
     ·exact zrm h h'
     ·omega
   ·rcases Int.decEq (turn a b d) 0 with h|h
    ·exact .inl h
    ·refine .inr (zmc (c:=d) (d:=c) h ?_ ?_)
     ·rcases Int.decEq (turn a b c) 0 with h'|h'
      ·exact zrm h h'
      ·rw[zda c d a,zda c d b];omega
     ·rw[zda c d a,zda c d b,Int.neg_mul_neg];exact hc.2
  ·rw[if_neg hc,if_neg (λh=>hc ⟨h.1,h.2.1⟩),if_neg]
   rintro(⟨h,k⟩|⟨h,k⟩|⟨h,k⟩|⟨h,k⟩)
   ·exact hc ⟨by rw[h,Int.zero_mul];exact Int.le_refl _,zgr h k⟩
   ·have:=zgr (d:=c) h k
    rw[zda c d a,zda c d b,Int.neg_mul_neg] at this
    exact hc ⟨by rw[h,Int.mul_zero];exact Int.le_refl _,this⟩
   ·exact hc ⟨zgr h k,by rw[h,Int.zero_mul];exact Int.le_refl _⟩
   ·have:=zgr (d:=a) h k
    rw[zda a b c,zda a b d,Int.neg_mul_neg] at this
    exact hc ⟨this,by rw[h,Int.mul_zero];exact Int.le_refl _⟩
end Go.Proofs.YtbjomkfgicffhaaGreatDoor.Geo
namespace Go.Proofs.YtbjomkfgicffhaaGreatDoor.Geo
theorem zh3 {a b c:Pt} (h:turn a b c≠0):meet a b b c=1:=by
 unfold meet
 rw[if_pos (.inr (.inl h)),if_pos]
 rw[zc8,zcz];simp
theorem zzm {a b c:Pt} (h:turn a b c=0) (h1:a≠b) (h2:b≠c) (h3:c≠a) (k1:meet a b b c=1) (k2:meet b c c a=1) (_:meet a b c a=1):False:=by
 have t1:turn b c a=0:=by rw[zj3];exact h
 have t2:turn c a b=0:=by rw[zj3];exact t1
 unfold meet at k1 k2
 rw[if_neg (by simp[zc8,zcz,h,t1])] at k1
 rw[if_neg (by simp[zc8,zcz,t1,t2])] at k2
 have o1:=zas a b;have o2:=zas b c;have o3:=zas c a
 have p1:=zas b a;have p2:=zas c b;have p3:=zas a c
 have s1:=zgw a;have s2:=zgw b;have s3:=zgw c
 have u1:∀{p q:Pt},p≠q->ordP p q≠0:=λ{p q} h e=>by have:=zas p q;grind
 have v1:=u1 h1;have v2:=u1 h2;have v3:=u1 h3
 unfold low high at k1 k2
 rcases o1 with⟨x1,o1⟩|⟨x1,o1⟩|⟨x1,o1⟩
 ·have q1:ordP b a=1:=by grind
  rcases o2 with⟨x2,o2⟩|⟨x2,o2⟩|⟨x2,o2⟩
  ·have q2:ordP c b=1:=by grind
   have q3:ordP a c= -1:=by grind
   have q4:ordP c a=1:=by grind
   first|(simp[o1,o2,q1,q2,s2] at k1;done)|(simp[o1,o2,q4,s3] at k2;done)
  ·exact absurd o2 v2
  ·have q2:ordP c b= -1:=by grind
   rcases o3 with⟨x3,o3⟩|⟨x3,o3⟩|⟨x3,o3⟩
   ·have q3:ordP a c=1:=by grind
    first|(simp[o1,o2,o3,s2] at k1;done)|(simp[o1,o2,q1,q2,q3,o3,s1,s2,s3] at k2;done)
   ·exact absurd o3 v3
   ·have q3:ordP a c= -1:=by grind
    first|(simp[o1,o2,q2,o3,s2] at k1;done)|(simp[o1,o2,q1,q2,q3,o3,s1,s2,s3] at k2;done)
 ·exact absurd o1 v1
 ·have q1:ordP b a= -1:=by grind
  rcases o2 with⟨x2,o2⟩|⟨x2,o2⟩|⟨x2,o2⟩
  ·have q2:ordP c b=1:=by grind
   rcases o3 with⟨x3,o3⟩|⟨x3,o3⟩|⟨x3,o3⟩
   ·have q3:ordP a c=1:=by grind
    first|(simp[o1,o2,o3,s2] at k1;done)|(simp[o1,o2,q1,q2,q3,o3,s1,s2,s3] at k2;done)
   ·exact absurd o3 v3
   ·have q3:ordP a c= -1:=by grind
    first|(simp[o1,o2,q1,o3,s2] at k1;done)|(simp[o1,o2,q1,q2,q3,o3,s1,s2,s3] at k2;done)
  ·exact absurd o2 v2
  ·have q2:ordP c b= -1:=by grind
   have q3:ordP a c=1:=by grind
   have q4:ordP c a= -1:=by grind
   first|(simp[o1,o2,q1,q2,s2] at k1;done)|(simp[o1,o2,q2,q4,s3] at k2;done)
theorem zt8 (a b c:Pt):(a≠b/\b≠c/\c≠a/\meet a b b c=1/\meet a b c a=1/\meet b c c a=1)↔turn a b c≠0:=by
 constructor
 ·rintro⟨h1,h2,h3,k1,k2,k3⟩ h
  exact zzm h h1 h2 h3 k1 k3 k2
 ·intro h
  have t1:turn b c a≠0:=by rw[zj3];exact h
  have t2:turn c a b≠0:=by rw[zj3];exact t1
  refine⟨λe=>h (by subst e;exact zo6 _ _),λe=>h (by subst e;exact zc8 _ _),λe=>h (by subst e;exact zcz _ _),zh3 h,?_,zh3 t1⟩
  rw[zo7];exact zh3 t2
def zb7 (a b c:Pt):Rat:=(a.x*b.y-b.x*a.y)+(b.x*c.y-c.x*b.y)+(c.x*a.y-a.x*c.y)
theorem zrn (a b c:Pt):zb7 a b c=cr a b c:=by unfold zb7 cr;grind
def ze2 (a b:Pt) (t:Rat):Pt:=⟨a.x+(b.x-a.x)*t,a.y+(b.y-a.y)*t⟩
theorem zpa (a b c:Pt) (t:Rat):zb7 a (ze2 a b t) c=zb7 a b c*t:=by unfold zb7 ze2;grind
theorem znu (a b c:Pt) (t:Rat):zb7 (ze2 a b t) b c=zb7 a b c*(1-t):=by unfold zb7 ze2;grind
theorem zpb (a b c:Pt):turn a b c≠0↔zb7 a b c≠0:=by rw[zrn];exact not_congr zgy
theorem z10 {a b c:Pt} {t:Rat} (h:turn a b c≠0) (h0:t≠0) (h1:t≠1):turn a (ze2 a b t) c≠0/\turn (ze2 a b t) b c≠0:=by
 rw[zpb] at*
 rw[zpb]
 rw[zpa,znu]
 constructor
 ·intro e;rcases Rat.mul_eq_zero.1 e with e|e
  ·exact h e
  ·exact h0 e
 ·intro e;rcases Rat.mul_eq_zero.1 e with e|e
  ·exact h e
  ·exact h1 (by grind)
end Go.Proofs.YtbjomkfgicffhaaGreatDoor.Geo
namespace Go.Proofs.YtbjomkfgicffhaaGreatDoor
open Go.RowKit Lib Str Limb
theorem zeb (p:Option Addr) (n cap:Nat) (l:List Nat) (w:World) (h:Sl w (.slice p n cap) (l.map I)) (hl:l.length<=3000):
 Calls Tryz.prog 151 #[.slice p n cap] w λe w'=>e=.returned (.slice p (zat l).length cap)/\w=w':=by
 rcases h.cases with⟨h0,p',cap',e⟩|⟨h0,b,off,cap',e,hcap,hb,hc⟩
 ·have:l=[]:=by simpa using h0
  subst this
  simp only[Value.slice.injEq] at e
  obtain⟨rfl,rfl,rfl⟩:=e
  go_enter Tryz.func151,Tryz.ntmps151
  go_wp2
  go_loop [3] (λs=>s=.int .i64 0) (λ_=>0)
  case atStart=>rfl
  case round=>
   subst hrel
   go_wp2
   go_ret
   exact⟨rfl,rfl⟩
 ·rw[List.length_map] at hcap e
  simp only[Value.slice.injEq] at e
  obtain⟨rfl,rfl,rfl⟩:=e
  have HC:=hid hc;clear hc h
  go_enter Tryz.func151,Tryz.ntmps151
  go_wp2
  go_loop [3] (λs=>∃k:Nat,k<=l.length/\s=.int .i64 k/\Hid (zat (l.take k)=zat l)) (λs=>(RowKit.intOf s).toNat)
  case atStart=>exact⟨l.length,Nat.le_refl _,rfl,by show zat (l.take l.length)=_;rw[List.take_length]⟩
  case round=>
   obtain⟨k,hk,rfl,ht⟩:=hrel
   rcases Nat.eq_zero_or_pos k with rfl|hp
   ·have e:(zat l).length=0:=by rw[<-ht.out];simp[zou]
    have E:=hid e;clear e
    go_wp2
    go_ret
    exact⟨by rw[E.out];rfl,rfl⟩
   ·obtain⟨m,rfl⟩:∃m,k=m+1:=⟨k-1,by omega⟩
    have hm:m<l.length:=by omega
    have hx:l[m]? =some l[m]:=by simp[hm]
    have hcell:=HC.out m (I l[m]) (by simp[hm])
    have hsn:zat (l.take (m+1))=zat (l.take m++[l[m]]):=by rw[List.take_succ_eq_append_getElem hm]
    by_cases hz:l[m]=0
    ·rw[hz] at hcell hsn
     have HS:Hid (zat (l.take m)=zat l):=by rw[<-ht.out,hsn,zew];rfl
     clear hsn hx hz ht
     go_wp2
     go_round
     case rel=>exact⟨m,by omega,by go_num,HS⟩
     case measure=>simp[RowKit.intOf]
    ·have HS:Hid ((zat l).length=m+1):=by
      rw[<-ht.out,hsn,zhs _ hz];show(l.take m++[l[m]]).length=m+1
      simp;omega
     have hz':(((l[m]:Nat):Int)==0)=false:=by rw[beq_eq_false_iff_ne];omega
     clear hsn hx ht
     go_wp2
     go_ret
     exact⟨by rw[HS.out];rfl,rfl⟩
theorem zgz (v:Value) (l:List Nat) (i:Nat) (w:World) (h:Sl w v (l.map I)) (hl:l.length<=3000):
 Calls Tryz.prog 153 #[v,I i] w λe w'=>e=.returned (I (l[i]?.getD 0))/\w=w':=by
 by_cases hi:i<l.length
 ·rcases h.cases with⟨h0,p,cap,rfl⟩|⟨h0,b,off,cap,rfl,hcap,hb,hc⟩
  ·have:l=[]:=by simpa using h0
   subst this;simp at hi
  ·have hcell:=hc i (I (l[i]?.getD 0)) (by simp[hi])
   clear hc h
   rw[List.length_map]
   generalize l[i]?.getD 0=x at*
   go_enter Tryz.func153,Tryz.ntmps153
   go_wp2
   go_ret
   exact⟨rfl,rfl⟩
 ·have:l[i]?.getD 0=0:=by rw[List.getElem?_eq_none (by omega)];rfl
  rw[this]
  obtain⟨p,cap,rfl,hcap,_⟩:=h
  rw[List.length_map]
  go_enter Tryz.func153,Tryz.ntmps153
  go_wp2
  go_ret
  exact⟨rfl,rfl⟩
def B6:Nat:=1000000
theorem zh4 {w:World} {base k:Nat} {p:Option Addr} {n c:Nat} {o:List Nat} (h:w.ownsRow base 3 1 (.slice p n c) k (o.map I)) (hk:o.length=k):
 w.ownsRow base 3 1 (.slice p (zat o).length c) (zat o).length ((zat o).map I):=zeq (v:=.slice p n c) h hk
theorem zg0 {w:World} {base:Nat} {t:TypeId} {s:Nat} {v:Value} {n:Nat} {xs:List Value} (h:w.ownsRow base t s v n xs):∃p m c,v=.slice p m c:=by
 rcases h.2 with⟨e,_⟩|⟨g,cp,cur,e,_⟩<;>exact⟨_,_,_,e⟩
theorem z3h (c:Nat) (h:c<=1):(0+0+c)/B6=0:=by unfold B6;omega
theorem zxb (va vb:Value) (a b:List Nat) (w:World) (ha:Sl w va (a.map I)) (hb:Sl w vb (b.map I)) (sa:zal B6 a) (sb:zal B6 b) (la:a.length<=1000) (lb:b.length<=1000):
 Calls Tryz.prog 256 #[va,vb] w (zht w (zaa B6 (valL B6 a+valL B6 b))):=by
 rw[<-zov (B:=B6) (by decide) sa sb]
 obtain⟨i0,hi,hz0,hz1,hz2⟩:=info_parts zdv
 have ha':=ha;have hb':=hb
 obtain⟨pa,ca,rfl,hca,hcella⟩:=ha
 obtain⟨pb,cb,rfl,hcb,hcellb⟩:=hb
 have HA:=hid ha';clear ha' hcella hca
 have HB:=hid hb';clear hb' hcellb hcb
 have SA:=hid sa;clear sa
 have SB:=hid sb;clear sb
 simp only[List.length_map] at*
 obtain⟨M,hM⟩:∃M,M=max a.length b.length:=⟨_,rfl⟩
 rw[<-hM]
 have hM2:M<=1000:=by omega
 have hMa:∀k:Nat,(k<M↔(k<a.length\/k<b.length)):=λk=>by omega
 have HM:=hid hMa
 clear hM hMa
 go_enter Tryz.func256,Tryz.ntmps256
 go_wp2
 go_loopw [5,6,7] (λv c i wr=>∃k:Nat,k<=M+1/\i=.int .i64 k/\c=I (zaq (za6 B6) a b k).2/\wr.ownsRow w.heap.size 3 1 v k ((zaq (za6 B6) a b k).1.map I)/\Below w.heap.size w wr/\(k=M+1->(zaq (za6 B6) a b k).2=0))
  (λ_ _ i _=>M+1-(RowKit.intOf i).toNat)
 case atStart=>exact⟨0,Nat.zero_le _,rfl,rfl,World.ownsRow_made w #[] 0 (Nat.le_refl _) (by unfold maxLen;omega) rfl,(Below.refl _ w).alloc (Nat.le_refl _) _,λh=>by omega⟩
 case round=>
  obtain⟨k,hk,rfl,rfl,hown,hB,hend⟩:=hrel
  obtain⟨p1,p2,p3⟩:=zna (B:=B6) (by decide) SA.out SB.out k
  by_cases hlt:k<a.length\/k<b.length\/0<(zaq (za6 B6) a b k).2
  ·have hkM:k<M+1:=by
    rcases hlt with h|h|h
    ·have:=(HM.out k).2 (.inl h);omega
    ·have:=(HM.out k).2 (.inr h);omega
    ·rcases Nat.lt_or_ge k (M+1) with h'|h'
     ·exact h'
     ·rw[hend (by omega)] at h;omega
   have hx:=zaj SA.out (by decide) k
   have hy:=zaj SB.out (by decide) k
   have hst:zaq (za6 B6) a b (k+1)=((zaq (za6 B6) a b k).1++[(za6 B6 (a[k]?.getD 0) (b[k]?.getD 0) (zaq (za6 B6) a b k).2).1],(za6 B6 (a[k]?.getD 0) (b[k]?.getD 0) (zaq (za6 B6) a b k).2).2):=rfl
   have hz:k=M->(zaq (za6 B6) a b (k+1)).2=0:=λe=>by
    have ha0:a[k]?.getD 0=0:=by rw[List.getElem?_eq_none (by have:=HM.out k;omega)];rfl
    have hb0:b[k]?.getD 0=0:=by rw[List.getElem?_eq_none (by have:=HM.out k;omega)];rfl
    rw[hst,ha0,hb0]
    exact z3h _ p2
   have HST:=hid hst;clear hst p1 p3 hend
   have HZ:=hid hz;clear hz
   generalize (zaq (za6 B6) a b k).1=o at*
   generalize (zaq (za6 B6) a b k).2=c at*
   have hx':a[k]?.getD 0<1000000:=hx
   have hy':b[k]?.getD 0<1000000:=hy
   clear hx hy
   have E1:∀x y:Nat,(Value.int .i64 (((x:Int)+y+c)%1000000))=I (za6 B6 x y c).1:=λx y=>by simp[I,za6,B6]
   have hE1:=hid E1;clear E1
   have HOWN:=hid hown;clear hown
   have LA:=hid λ(W:World) (h:Below w.heap.size w W)=>zgz _ a k W (HA.out.below h) (by omega)
   have LB:=hid λ(W:World) (h:Below w.heap.size w W)=>zgz _ b k W (HB.out.below h) (by omega)
   generalize a[k]?.getD 0=x at*
   generalize b[k]?.getD 0=y at*
   have h3:k<a.length\/(¬k<a.length/\k<b.length)\/(¬k<a.length/\¬k<b.length/\0<c):=by omega
   clear hlt
   rcases h3 with h1|⟨h1,h2⟩|⟨h1,h2,h4⟩<;>(
    go_wp2_with fail
    refine(LA.out wr hB).mono ?_
    rintro e w1 ⟨rfl,rfl⟩
    go_wp2_with fail
    refine(LB.out wr hB).mono ?_
    rintro e w1 ⟨rfl,rfl⟩
    go_wp2_with (at_builtin;refine wpList_append_own _ rfl _ _ 99 rfl w.heap.size 3 i0 (.int .i64 0) 1 8 Tryz.underlying99 hi hz0 hz1 hz2 rfl (by decide) _ _ _ rfl (HOWN.out.alloc _) ⟨wr.heap.size,0,none⟩ 1 1 [.int .i64 (((x:Int)+y+c)%1000000)] rfl rfl (zep _ _ _) (zfn _) (by unfold maxLen;omega) (by omega) (by have:=hB.size;simp;omega) ?_)
    intro v' w1 hown' hgrow _
    have hB1:Below w.heap.size w w1:=(hB.alloc hB.size _).grown hgrow (by have:=hB.size;simp;omega) (λq e=>(HOWN.out.lt q e).1)
    rw[hE1.out] at hown'
    clear hgrow hB HOWN
    go_wp2
    go_roundw
    case rel=>exact⟨k+1,by omega,by go_num,by rw[HST.out];simp[I,za6,B6],by rw[HST.out];simpa using hown',hB1,λe=>HZ.out (by omega)⟩
    case measure=>simp[RowKit.intOf];omega)
  ·have h1:¬k<a.length:=λh=>hlt (.inl h)
   have h2:¬k<b.length:=λh=>hlt (.inr (.inl h))
   have h3:(zaq (za6 B6) a b k).2=0:=by have:=λh=>hlt (.inr (.inr h));omega
   have hl:(zaq (za6 B6) a b k).1.length=k:=zdk _ _ _ _
   have hres:zat (zaq (za6 B6) a b k).1=zat (zaq (za6 B6) a b (M+1)).1:=by
    have hkM:M<=k:=by have:=HM.out k;omega
    rcases Nat.lt_or_ge k (M+1) with h|h
    ·obtain rfl:k=M:=by omega
     show _=zat ((zaq (za6 B6) a b k).1++[(za6 B6 (a[k]?.getD 0) (b[k]?.getD 0) (zaq (za6 B6) a b k).2).1])
     rw[List.getElem?_eq_none (by omega),List.getElem?_eq_none (by omega),h3]
     exact(zew _).symm
    ·obtain rfl:k=M+1:=by omega
     rfl
   have HR:=hid hres;clear hres
   obtain⟨o,ho⟩:∃o,o=(zaq (za6 B6) a b k).1:=⟨_,rfl⟩
   rw[<-ho] at hown hl
   have HO:=hid ho;clear ho
   have HL:=hid hl;clear hl p1 p2 p3 hend hlt
   rw[h3] at*
   obtain⟨vp,vm,vc,rfl⟩:=zg0 hown
   have HOWN:=hid hown;clear hown
   go_wp2_with fail
   refine(zeb _ _ _ o wr (Sl.of_own HOWN.out) (by rw[HL.out];omega)).mono ?_
   rintro e w1 ⟨rfl,rfl⟩
   go_wp2_with fail
   go_ret
   have hown':=zh4 HOWN.out HL.out
   rw[<-HO.out] at HR
   rw[HR.out] at hown'
   exact⟨_,rfl,by rw[HR.out];exact hown',hB⟩
end Go.Proofs.YtbjomkfgicffhaaGreatDoor
namespace Go.Proofs.YtbjomkfgicffhaaGreatDoor
theorem zzD {B:Nat} {a w:World} (h:RowKit.Below B a w) (n:Nat):RowKit.Below B a (w.drewN n):=⟨h.os,h.tape,h.output,h.size,h.block⟩
open Go.RowKit Lib Str Limb
def zua (w:World) (l:List Nat) (e:Ending) (w':World):Prop:=
 ∃g c,e=.returned (.slice (some ⟨g,0,none⟩) l.length c)/\w'.ownsRow w.heap.size 3 1 (.slice (some ⟨g,0,none⟩) l.length c) l.length (l.map I)/\Below w.heap.size w w'
theorem zrr {w:World} {base:Nat} {t:TypeId} {s:Nat} {v:Value} {n:Nat} {xs:List Value} (h:w.ownsRow base t s v n xs) (hne:v≠ .slice none 0 0):∃g c,v=.slice (some ⟨g,0,none⟩) n c:=by
 rcases h.2 with⟨e,_⟩|⟨g,cp,cur,e,_⟩
 ·exact absurd e hne
 ·exact⟨_,_,e⟩
theorem zix (va vb:Value) (a b:List Nat) (w:World) (ha:Sl w va (a.map I)) (hb:Sl w vb (b.map I)) (sa:zal B6 a) (sb:zal B6 b) (la:a.length<=1000) (hba:b.length<=a.length) (hle:valL B6 b<=valL B6 a):
 Calls Tryz.prog 154 #[va,vb] w (zua w (zaa B6 (valL B6 a-valL B6 b))):=by
 rw[<-znb (B:=B6) (by decide) sa sb hle a.length (Nat.le_refl _) hba]
 obtain⟨i0,hi,hz0,hz1,hz2⟩:=info_parts zdv
 have ha':=ha;have hb':=hb
 obtain⟨pa,ca,rfl,hca,hcella⟩:=ha
 obtain⟨pb,cb,rfl,hcb,hcellb⟩:=hb
 have HA:=hid ha';clear ha' hcella hca
 have HB:=hid hb';clear hb' hcellb hcb hle
 have SA:=hid sa;clear sa
 have SB:=hid sb;clear sb
 simp only[List.length_map] at*
 go_enter Tryz.func154,Tryz.ntmps154
 go_wp2
 go_loopw [5,6,7] (λv c i wr=>∃k:Nat,k<=a.length/\i=.int .i64 k/\c=I (zaq (za1 B6) a b k).2/\wr.ownsRow w.heap.size 3 1 v k ((zaq (za1 B6) a b k).1.map I)/\Below w.heap.size w wr/\v≠ .slice none 0 0)
  (λ_ _ i _=>a.length-(RowKit.intOf i).toNat)
 case atStart=>exact⟨0,Nat.zero_le _,rfl,rfl,World.ownsRow_made w #[] 0 (Nat.le_refl _) (by unfold maxLen;omega) rfl,(Below.refl _ w).alloc (Nat.le_refl _) _,λh=>by cases h⟩
 case round=>
  obtain⟨k,hk,rfl,rfl,hown,hB,hne⟩:=hrel
  have HNE:=hid hne;clear hne
  obtain⟨p1,p2,p3⟩:=zlo (B:=B6) (by decide) SA.out SB.out k
  by_cases hlt:k<a.length
  ·obtain⟨ba,offa,rfl,hba',hcapa,hcx⟩:=(HA.out.below hB).at hlt
   have hx:=zaj SA.out (by decide) k
   have hy:=zaj SB.out (by decide) k
   have hst:zaq (za1 B6) a b (k+1)=((zaq (za1 B6) a b k).1++[(za1 B6 (a[k]?.getD 0) (b[k]?.getD 0) (zaq (za1 B6) a b k).2).1],(za1 B6 (a[k]?.getD 0) (b[k]?.getD 0) (zaq (za1 B6) a b k).2).2):=rfl
   have HST:=hid hst;clear hst p1 p3
   generalize (zaq (za1 B6) a b k).1=o at*
   generalize (zaq (za1 B6) a b k).2=c at*
   have hx':a[k]?.getD 0<1000000:=hx
   have hy':b[k]?.getD 0<1000000:=hy
   clear hx hy
   have HOWN:=hid hown;clear hown
   have LB:=hid λ(W:World) (h:Below w.heap.size w W)=>zgz _ b k W (HB.out.below h) (by omega)
   generalize a[k]?.getD 0=x at*
   generalize b[k]?.getD 0=y at*
   have e1:IntKind.i64.wrap ((x:Int)-y)=(x:Int)-y:=IntWalk.i64_in _ (by omega)
   have e2:IntKind.i64.wrap ((x:Int)-y-c)=(x:Int)-y-c:=IntWalk.i64_in _ (by omega)
   have fin:∀(v':Value) (w1:World) (z:Int) (W:World),Below w.heap.size w W->W.ownsRow w.heap.size 3 1 v' (k+1) (o.map I++[.int .i64 z])->True:=λ_ _ _ _ _ _=>trivial
   clear fin
   by_cases hge:y+c<=x
   ·have hE:Hid (Value.int .i64 ((x:Int)-y-c)=I (za1 B6 x y c).1/\(za1 B6 x y c).2=0):=hid (by
     have e:za1 B6 x y c=(x-y-c,0):=by unfold za1;rw[if_pos hge]
     rw[e];exact⟨by show Value.int .i64 _=Value.int .i64 _;congr 1;omega,rfl⟩)
    have hn:¬(x:Int)-y-c<0:=by omega
    go_wp2
    go_quiet ((go_at_call 153;exact Calls.quiet_of_same (zi5 (LB.out _ (hB.trans (zzD (Below.refl _ _) _))))))
    clear e1 e2
    have hB2:Below w.heap.size w (wr.drewN nq):=zzD hB _
    have HOWN2:=hid (show(wr.drewN nq).ownsRow w.heap.size 3 1 _ k (o.map I) from HOWN.out)
    clear HOWN hcx hB hba'
    go_wp2_with (at_builtin;refine wpList_append_own _ rfl _ _ 99 rfl w.heap.size 3 i0 (.int .i64 0) 1 8 Tryz.underlying99 hi hz0 hz1 hz2 rfl (by decide) _ _ _ rfl (HOWN2.out.alloc _) ⟨wr.heap.size,0,none⟩ 1 1 [.int .i64 ((x:Int)-y-c)] rfl rfl (zep _ _ _) (zfn _) (by unfold maxLen;omega) (by omega) (by have:=hB2.size;simp at this⊢;omega) ?_)
    intro v' w1 hown' hgrow hnn
    have HNN:=hid (show v'≠ .slice none 0 0 from hnn);clear hnn
    have hB1:Below w.heap.size w w1:=(hB2.alloc hB2.size _).grown hgrow (by have:=hB2.size;simp at this⊢;omega) (λq e=>(HOWN2.out.lt q e).1)
    rw[hE.out.1] at hown'
    clear hgrow hB2 HOWN2
    go_wp2
    go_roundw
    case rel=>exact⟨k+1,by omega,by go_num,by rw[HST.out,hE.out.2];rfl,by rw[HST.out];simpa using hown',hB1,HNN.out⟩
    case measure=>simp[RowKit.intOf];omega
   ·have hE:Hid (Value.int .i64 ((x:Int)-y-c+1000000)=I (za1 B6 x y c).1/\(za1 B6 x y c).2=1):=hid (by
     have e:za1 B6 x y c=(x+B6-y-c,1):=by unfold za1;rw[if_neg hge]
     rw[e];exact⟨by show Value.int .i64 _=Value.int .i64 _;congr 1;unfold B6;omega,rfl⟩)
    have hn:(x:Int)-y-c<0:=by omega
    have e3:IntKind.i64.wrap ((x:Int)-y-c+1000000)=(x:Int)-y-c+1000000:=IntWalk.i64_in _ (by omega)
    go_wp2
    go_quiet ((go_at_call 153;exact Calls.quiet_of_same (zi5 (LB.out _ (hB.trans (zzD (Below.refl _ _) _))))))
    clear e1 e2
    have hB2:Below w.heap.size w (wr.drewN nq):=zzD hB _
    have HOWN2:=hid (show(wr.drewN nq).ownsRow w.heap.size 3 1 _ k (o.map I) from HOWN.out)
    clear HOWN hcx hB hba'
    go_wp2_with (at_builtin;refine wpList_append_own _ rfl _ _ 99 rfl w.heap.size 3 i0 (.int .i64 0) 1 8 Tryz.underlying99 hi hz0 hz1 hz2 rfl (by decide) _ _ _ rfl (HOWN2.out.alloc _) ⟨wr.heap.size,0,none⟩ 1 1 [.int .i64 ((x:Int)-y-c+1000000)] rfl rfl (zep _ _ _) (zfn _) (by unfold maxLen;omega) (by omega) (by have:=hB2.size;simp at this⊢;omega) ?_)
    intro v' w1 hown' hgrow hnn
    have HNN:=hid (show v'≠ .slice none 0 0 from hnn);clear hnn
    have hB1:Below w.heap.size w w1:=(hB2.alloc hB2.size _).grown hgrow (by have:=hB2.size;simp at this⊢;omega) (λq e=>(HOWN2.out.lt q e).1)
    rw[hE.out.1] at hown'
    clear hgrow hB2 HOWN2 e3
    go_wp2
    go_roundw
    case rel=>exact⟨k+1,by omega,by go_num,by rw[HST.out,hE.out.2];rfl,by rw[HST.out];simpa using hown',hB1,HNN.out⟩
    case measure=>simp[RowKit.intOf];omega
  ·obtain rfl:k=a.length:=by omega
   have hl:(zaq (za1 B6) a b a.length).1.length=a.length:=zdk _ _ _ _
   obtain⟨o,ho⟩:∃o,o=(zaq (za1 B6) a b a.length).1:=⟨_,rfl⟩
   rw[<-ho] at hown hl
   have HO:=hid ho
   have HL:=hid hl;clear hl p1 p2 p3
   obtain⟨vg,vc,rfl⟩:=zrr hown HNE.out
   have HOWN:=hid hown;clear hown ho
   go_wp2_with fail
   refine(zeb _ _ _ o wr (Sl.of_own HOWN.out) (by rw[HL.out];omega)).mono ?_
   rintro e w1 ⟨rfl,rfl⟩
   go_wp2_with fail
   go_ret
   rw[<-HO.out]
   exact⟨_,_,rfl,zh4 HOWN.out HL.out,hB⟩
theorem znw (va vb:Value) (a b:List Nat) (w:World) (ha:Sl w va (a.map I)) (hb:Sl w vb (b.map I)) (sa:zal B6 a) (sb:zal B6 b) (la:a.length<=1000) (hba:b.length<=a.length) (hle:valL B6 b<=valL B6 a):
 Calls Tryz.prog 154 #[va,vb] w (zht w (zaa B6 (valL B6 a-valL B6 b))):=
 (zix va vb a b w ha hb sa sb la hba hle).mono λ_ _ ⟨_,_,h1,h2,h3⟩=>⟨_,h1,h2,h3⟩
theorem zxc (m n:Nat) (hl:(zaa B6 m).length=(zaa B6 n).length) (k:Nat) (hk:k<(zaa B6 m).length) (h:∀i,k<i->i<(zaa B6 m).length->(zaa B6 m)[i]?.getD 0=(zaa B6 n)[i]?.getD 0):
 ((zaa B6 m)[k]?.getD 0<(zaa B6 n)[k]?.getD 0->m<n)/\((zaa B6 n)[k]?.getD 0<(zaa B6 m)[k]?.getD 0->n<m):=by
 have hB:2<=B6:=by decide
 have sa:=zak hB m
 have sb:=zak hB n
 have hd:=ztr hl k h
 constructor
 ·intro hlt
  have:=zem sa sb hl k hk hd hlt
  rwa [zam hB,zam hB] at this
 ·intro hgt
  have:=zem sb sa hl.symm k (by omega) hd.symm hgt
  rwa [zam hB,zam hB] at this
theorem z27 (m n:Nat) (hl:(zaa B6 m).length=(zaa B6 n).length) (h:∀i,i<(zaa B6 m).length->(zaa B6 m)[i]?.getD 0=(zaa B6 n)[i]?.getD 0):m=n:=by
 have hB:2<=B6:=by decide
 rw[<-zam hB m,zoa hl h,zam hB]
def ordN (m n:Nat):Int:=if m<n then-1 else if m=n then 0 else 1
theorem zlc (va vb:Value) (m n:Nat) (w:World) (ha:Sl w va ((zaa B6 m).map I)) (hb:Sl w vb ((zaa B6 n).map I)) (la:(zaa B6 m).length<=1000) (_:(zaa B6 n).length<=1000):
 Calls Tryz.prog 156 #[va,vb] w λe w'=>e=.returned (.int .i64 (ordN m n))/\Below w.heap.size w w':=by
 have ha':=ha;have hb':=hb
 obtain⟨pa,ca,rfl,hca,hcella⟩:=ha
 obtain⟨pb,cb,rfl,hcb,hcellb⟩:=hb
 have HA:=hid ha';clear ha' hcella hca
 have HB:=hid hb';clear hb' hcellb hcb
 simp only[List.length_map] at*
 have hlt':=zc2 (B:=B6) (by decide) (m:=m) (n:=n)
 have hgt':=zc2 (B:=B6) (by decide) (m:=n) (n:=m)
 have SA:=hid (zak (B:=B6) (by decide) m)
 have SB:=hid (zak (B:=B6) (by decide) n)
 by_cases hl:(zaa B6 m).length=(zaa B6 n).length
 ·have CP:=hid (zxc m n hl)
  have CE:=hid (z27 m n hl)
  rw[<-hl]
  clear hlt' hgt'
  have HL:=hid hl;clear hl
  generalize zaa B6 m=a at*
  generalize zaa B6 n=b at*
  go_enter Tryz.func156,Tryz.ntmps156
  go_wp2
  go_loopw [5] (λi wr=>∃k:Nat,k<=a.length/\i=.int .i64 ((k:Int)-1)/\(∀j,k<=j->j<a.length->a[j]?.getD 0=b[j]?.getD 0)/\Below w.heap.size w wr)
   (λi _=>(RowKit.intOf i+1).toNat)
  case atStart=>exact⟨a.length,Nat.le_refl _,rfl,λj h1 h2=>by omega,Below.refl _ _⟩
  case round=>
   obtain⟨k,hk,rfl,hsame,hB⟩:=hrel
   rcases Nat.eq_zero_or_pos k with rfl|hp
   ·obtain rfl:m=n:=CE.out λi hi=>hsame i (Nat.zero_le _) hi
    clear hsame
    go_wp2
    go_ret
    exact⟨by unfold ordN;simp,hB⟩
   ·obtain⟨i,rfl⟩:∃i,k=i+1:=⟨k-1,by omega⟩
    have hi1:((i+1:Nat):Int)-1=(i:Int):=by omega
    rw[hi1]
    have hia:i<a.length:=by omega
    have hib:i<b.length:=by have:=HL.out;omega
    obtain⟨ba,offa,rfl,hba,hcapa,hcx⟩:=(HA.out.below hB).at hia
    obtain⟨bb,offb,rfl,hbb,hcapb,hcy⟩:=(HB.out.below hB).at hib
    have hcp:=CP.out i hia (λj h1 h2=>hsame j h1 h2)
    have hsn:a[i]?.getD 0=b[i]?.getD 0->∀j,i<=j->j<a.length->a[j]?.getD 0=b[j]?.getD 0:=λe j h1 h2=>by
     rcases Nat.lt_or_ge i j with h|h
     ·exact hsame j h h2
     ·obtain rfl:j=i:=by omega
      exact e
    have HS:=hid hsn;clear hsn hsame hi1
    have hx:=zaj SA.out (by decide) i
    have hy:=zaj SB.out (by decide) i
    have hx':a[i]?.getD 0<1000000:=hx
    have hy':b[i]?.getD 0<1000000:=hy
    clear hx hy
    have HLb:(a.length:Int)=b.length:=by have:=HL.out;omega
    have HB2:=hid hB
    generalize a[i]?.getD 0=x at*
    generalize b[i]?.getD 0=y at*
    rcases Nat.lt_trichotomy x y with hc|hc|hc
    ·have ho:ordN m n= -1:=by unfold ordN;rw[if_pos (hcp.1 hc)]
     have HO:=hid ho
     clear hcp HS ho
     go_wp2
     go_quiet (fail)
     go_wp2
     go_ret
     exact⟨by rw[HO.out];rfl,zzD HB2.out _⟩
    ·have HS':=hid (HS.out hc)
     subst hc
     clear hcp HS
     go_wp2
     go_quiet (fail)
     go_wp2
     go_quiet (fail)
     go_wp2
     go_roundw
     case rel=>exact⟨i,by omega,rfl,HS'.out,zzD HB2.out _⟩
     case measure=>simp[RowKit.intOf]
    ·have ho:ordN m n=1:=by unfold ordN;have:=hcp.2 hc;rw[if_neg (by omega),if_neg (by omega)]
     have hc2:¬x<y:=by omega
     have HO:=hid ho
     clear hcp HS ho
     go_wp2
     go_quiet (fail)
     go_wp2
     go_quiet (fail)
     go_wp2
     go_ret
     exact⟨by rw[HO.out];rfl,zzD (zzD HB2.out _) _⟩
 ·have hl':¬(((zaa B6 m).length:Int)=(zaa B6 n).length):=by omega
  rcases Nat.lt_or_gt_of_ne hl with h|h
  ·have ho:ordN m n= -1:=by unfold ordN;rw[if_pos (hlt' h)]
   rw[ho]
   clear ho hlt' hgt' hl
   generalize (zaa B6 m).length=x at*
   generalize (zaa B6 n).length=y at*
   go_enter Tryz.func156,Tryz.ntmps156
   go_wp2
   go_ret
   exact⟨rfl,Below.refl _ _⟩
  ·have ho:ordN m n=1:=by unfold ordN;have:=hgt' h;rw[if_neg (by omega),if_neg (by omega)]
   rw[ho]
   have h2:¬(zaa B6 m).length<(zaa B6 n).length:=by omega
   clear ho hlt' hgt' hl
   generalize (zaa B6 m).length=x at*
   generalize (zaa B6 n).length=y at*
   go_enter Tryz.func156,Tryz.ntmps156
   go_wp2
   go_ret
   exact⟨rfl,Below.refl _ _⟩
end Go.Proofs.YtbjomkfgicffhaaGreatDoor
