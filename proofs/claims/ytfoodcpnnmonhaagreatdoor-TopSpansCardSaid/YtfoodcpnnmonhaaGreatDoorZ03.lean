/- integer.compare, divideShort. -/
import Derived.Test.YtfoodcpnnmonhaaGreatDoorZ02
set_option maxRecDepth 100000
set_option maxHeartbeats 8000000
open Go renaming World → zA
open Go.RowKit renaming Below → zB, intOf → zL
open Go.Proofs.Tryz renaming prog → zF
open Go.World renaming alloc_heap_new → zG, size_alloc → zH
open Go.IntWalk renaming i64_in → zI
open Go.RowKit.Below renaming refl → zM, heap_setCell → yE
open Nat renaming le_refl → zN, le_trans → zO, mod_lt → zP, mod_eq_of_lt → zQ, zero_le → zR, pow_succ → yO, mul_comm → yP
open List renaming length_map → zV, size_toArray → zZ, length_cons → yA, nil_append → yI, cons_append → yM
namespace Go.Proofs.YtfoodcpnnmonhaaGreatDoor
open Go.RowKit Go.Shelf Limb
attribute [local go_sem] Oper.semAt_some
theorem CellsKept.rd {W W':zA} (h:CellsKept W W') {Bs:Nat} {v:Value} {l:List Nat} (hs:RdSl Bs v l W):RdSl Bs v l W':=⟨h.cell hs.1,h.sl hs.2⟩
def z2o (a b:List Nat) (c:Int):Prop:=
 (c=0/\∀i,i<a.length->a[i]?.getD 0=b[i]?.getD 0)\/
   ∃k,k<a.length/\(∀i,k<i->i<a.length->a[i]?.getD 0=b[i]?.getD 0)/\a[k]?.getD 0≠b[k]?.getD 0/\c=(a[k]?.getD 0:Nat)-(b[k]?.getD 0:Nat)
def zqv (w:zA) (P:Int->Prop) (e:Ending) (w':zA):Prop:=∃c:Int,e=.returned (.int .i64 c)/\P c/\zB w.heap.size w w'
theorem zyq (va vb:Value) (a b:List Nat) (w:zA) (ha:Sl w va (a.map I)) (hb:Sl w vb (b.map I)) (hl:a.length=b.length) (la:a.length<=1000) (sa:zal B9 a) (sb:zal B9 b):
 Calls zF 181 #[va,vb] w (zqv w (z2o a b)):=by
 have ha':=ha;have hb':=hb;obtain⟨pa,ca,rfl,hca,hcella⟩:=ha;obtain⟨pb,cb,rfl,hcb,hcellb⟩:=hb;simp only[zV] at*
 have HA:=Lib.hid ha';clear ha' hcella hca;have HB:=Lib.hid hb';clear hb' hcellb hcb;have SA:=Lib.hid sa;clear sa;have SB:=Lib.hid sb;clear sb;rw[<-hl] at HB;rw[<-hl];have HL:=Lib.hid hl;clear hl;refine(callsIn_wide (n:=3)).1 ?_;refine callsIn_of_wp_marks Tryz.func181 rfl trivial ?_ rfl;simp only[Tryz.ntmps181,zZ,yA,List.length_nil,Nat.reduceAdd,Nat.reduceSub,Array.replicate_succ,Array.replicate_zero,List.push_toArray,List.append_toArray,yI,yM];gi_wp2_with (refine⟨trivial,?_⟩;gi_at_call 199;refine(callsIn_wide.2 (zhu _ _ _ _ _ rfl)).mono ?_;rintro e w' ⟨rfl,rfl⟩);have hB:qL w (((w.alloc (.cells #[.slice pb a.length cb] 39)).alloc (.cells #[.int .i64 0] 3)).alloc (.cells #[.slice pa a.length ca] 39)):=
  (((zM _ w).alloc (zN _) _).alloc (by simp) _).alloc (by simp;omega) _
 have bB:=Boxed.new w 39 (.slice pb a.length cb);have bR:=Boxed.new (w.alloc (.cells #[.slice pb a.length cb] 39)) 3 (.int .i64 0);have bA:=Boxed.new ((w.alloc (.cells #[.slice pb a.length cb] 39)).alloc (.cells #[.int .i64 0] 3)) 39 (.slice pa a.length ca);have bB2:=(bB.alloc (.cells #[.int .i64 0] 3)).alloc (.cells #[.slice pa a.length ca] 39);have bR2:=bR.alloc (.cells #[.slice pa a.length ca] 39);simp only[zH] at bR bA bR2;clear bB bR;generalize ((w.alloc (.cells #[.slice pb a.length cb] 39)).alloc (.cells #[.int .i64 0] 3)).alloc (.cells #[.slice pa a.length ca] 39)=W0 at*
 have hz:w.heap.size+1+1<W0.heap.size:=bA.lt
 refine znd w hB (w.heap.size+1+1) a.length ca pa (λi x=>x=((a[i]?.getD 0:Nat):Int)) (RdSl (w.heap.size+1+1) (.slice pa a.length ca) a) (by omega) (λW h=>h.read)
  (λW h=>⟨by rw[h.cell (by simpa using hz)];exact bA.cell,(HA.out.below hB).below h⟩) (λW W' k h=>k.rd h) rfl rfl
  (λpre W=>(∀x∈pre,a[x.1.1]?.getD 0=b[x.1.1]?.getD 0)/\W.cell? ⟨w.heap.size,0,none⟩=some (.slice pb a.length cb)/\Sl W (.slice pb a.length cb) (b.map I)/\W.cell? ⟨w.heap.size+1,0,none⟩=some (.int .i64 0)/\W.frozen? ⟨w.heap.size+1,0,none⟩=false)
  (λc pre W=>c=.ret/\∃ini last,pre=ini++[last]/\(∀x∈ini,a[x.1.1]?.getD 0=b[x.1.1]?.getD 0)/\a[last.1.1]?.getD 0≠b[last.1.1]?.getD 0/\W.cell? ⟨w.heap.size+1,0,none⟩=some (.int .i64 ((a[last.1.1]?.getD 0:Nat)-(b[last.1.1]?.getD 0:Nat))))
  (λs W W' k h=>⟨h.1,k.cell h.2.1,k.sl h.2.2.1,k.cell h.2.2.2.1,k.frozen h.2.2.2.1 h.2.2.2.2⟩)
  (λc s W W' k h=>⟨h.1,by obtain⟨_,ini,last,h1,h2,h3,h4⟩:=h;exact⟨ini,last,h1,h2,h3,k.cell h4⟩⟩)
  ⟨by simp,bB2.cell,HB.out.below hB,bR2.cell,bR2.frozen⟩
  (λx=>{tmps:= #[Value.slice pa a.length ca,Value.slice pb a.length cb,undef,Value.pointer (some {block:=w.heap.size,off:=0}),Value.pointer (some {block:=w.heap.size+1,off:=0}),.int .i64 (x.1.1:Int),.int .i64 x.1.2,Value.slice pa a.length ca,
     Value.int IntKind.i64 ↑a.length,Value.slice pb a.length cb,Value.int IntKind.i64 ↑a.length,Value.bool false,undef,undef,undef,undef,undef,Value.slice pa a.length ca,
     Value.func (Fn.func 259) #[] #[Value.pointer (some {block:=w.heap.size+1+1,off:=0})],.int .i64 (x.1.1:Int),.int .i64 x.1.2,undef,undef,undef,undef,undef,undef,undef,undef,undef,undef,undef,undef],defers:=[]}) ?assign ?body ?done ?stop
 case assign=>
  intro l x W K hK;gi_wp2;exact hK
 case body=>
  rintro l pre x W ⟨hp,hcb,hsb,hcr,hfr⟩ hBW _;have hi:=x.2.1;have hx:=x.2.2;obtain⟨i,hxi⟩:∃i,x.1.1=i:=⟨_,rfl⟩;obtain⟨xv,hxv⟩:∃v,x.1.2=v:=⟨_,rfl⟩;simp only[hxi,hxv] at hi hx⊢;have HXI:=Lib.hid hxi;clear hxi;clear hxv;have hHL:=HL.out;have hsb':Sl W (.slice pb b.length cb) (b.map I):=by rw[<-hHL];exact hsb
  obtain⟨bb,offb,rfl,hbb,hcapb,hcellb⟩:=hsb'.at (i:=i) (by omega);have HSB:=Lib.hid hsb;clear hsb hsb';have hxa:=zaj SA.out (by decide) i;have hxb:=zaj SB.out (by decide) i;have hxa':xv<1000000000:=by rw[hx];exact Int.ofNat_lt.2 hxa
  have hxa0:0<=xv:=by rw[hx];omega
  have hxb':b[i]?.getD 0<1000000000:=hxb;have HX:=Lib.hid hx;clear hx hxa hxb hHL;have HP:=Lib.hid hp;clear hp;by_cases he:xv=(b[i]?.getD 0:Nat)
  ·have he':(xv !=((b[i]?.getD 0:Nat):Int))=false:=by rw[he];simp
   have HE:=Lib.hid he;clear he;gi_wp2;exact⟨KeepsFrom.refl _ _,λh=>h,⟨λy hy=>(List.mem_append.1 hy).elim (HP.out y) (λe=>by simp at e;subst e;have h1:=HX.out;have h2:=HE.out;rw[HXI.out];omega),hcb,HSB.out,hcr,hfr⟩,hBW⟩
  ·have he':(xv !=((b[i]?.getD 0:Nat):Int))=true:=by simpa using he
   have HE:=Lib.hid he;clear he;gi_wp2;refine⟨(KeepsOthers.setCell _ _ _).from _,⟨rfl,pre,x,rfl,HP.out,?_,?_⟩,hBW.setCell (p:=⟨w.heap.size+1,0,none⟩) (by simp) _⟩
   ·have h1:=HX.out;have h2:=HE.out;rw[HXI.out];omega
   ·rw[HXI.out,<-HX.out];exact World.cell?_setCell_same' _ _ _ (by rw[hcr];rfl)
 case done=>
  rintro D ys W hD hys ⟨hp,hcb,hsb,hcr,hfr⟩ hBW hK;have HYS:=Lib.hid hys;clear hys;have HP:=Lib.hid hp;clear hp;gi_wp2;have hK':=(KeepsOthers.setCell W ⟨w.heap.size+1,0,none⟩ (.int .i64 0)).same D _ hK rfl;refine⟨by simp,.inl ⟨_,_,rfl,run_takeDeferred hK',?_⟩⟩;have hc5:=(zbk hK').cell (World.cell?_setCell_same' W ⟨w.heap.size+1,0,none⟩ (.int .i64 0) (by rw[hcr];rfl));refine⟨.int .i64 0,?_,0,rfl,.inl ⟨rfl,λi hi=>?_⟩,zby (hBW.setCell (p:=⟨w.heap.size+1,0,none⟩) (by simp) _) (by omega) hK'⟩
  ·simp[results,Tryz.f181,go_sem,hc5]
  ·have:=zqt hi
   rw[<-HYS.out] at this;obtain⟨x,hx,hxi⟩:=List.mem_map.1 this;have:=HP.out x hx;rwa [hxi] at this
 case stop=>
  rintro D c pre W hD ⟨k,hk,hpre⟩ ⟨rfl,ini,last,e1,e2,e3,hcr⟩ hBW hK;gi_wp2;refine⟨by simp,.inl ⟨_,_,rfl,run_takeDeferred hK,?_⟩⟩;have hc5:=(zbk hK).cell hcr;rw[e1,List.map_append] at hpre;obtain⟨k',rfl⟩:∃k',k=k'+1:=by
   cases k with
   |zero=>simp[upto] at hpre
   |succ k'=>exact⟨k',rfl⟩
  rw[zia] at hpre;obtain⟨h1,h2⟩:=List.append_inj' hpre rfl;have h2:last.1.1=a.length-1-k':=by simpa using h2
  refine⟨_,by simp[results,Tryz.f181,go_sem,hc5],_,rfl,.inr ⟨last.1.1,last.2.1,λi hi hia=>?_,e3,rfl⟩,zby hBW (by omega) hK⟩;have:i∈upto (λk=>a.length-1-k) k':=by
   simp only[upto,List.mem_map,List.mem_range];exact⟨a.length-1-i,by omega,by omega⟩
  rw[<-h1] at this;obtain⟨x,hx,hxi⟩:=List.mem_map.1 this;have:=e2 x hx;rwa [hxi] at this
theorem zyr (va vb:Value) (a b:List Nat) (w:zA) (ha:Sl w va (a.map I)) (hb:Sl w vb (b.map I)) (hl:a.length≠b.length) (la:a.length<=1000) (lb:b.length<=1000):
 Calls zF 181 #[va,vb] w (zqv w (λc=>c=(a.length:Int)-b.length)):=by
 obtain⟨pa,ca,rfl,hca,hcella⟩:=ha;obtain⟨pb,cb,rfl,hcb,hcellb⟩:=hb;simp only[zV] at*
 clear hcella hcellb;have hne:((a.length:Int) !=b.length)=true:=by simp;omega
 refine(callsIn_wide (n:=3)).1 ?_;refine callsIn_of_wp_marks Tryz.func181 rfl trivial ?_ rfl;simp only[Tryz.ntmps181,zZ,yA,List.length_nil,Nat.reduceAdd,Nat.reduceSub,Array.replicate_succ,Array.replicate_zero,List.push_toArray,List.append_toArray,yI,yM];gi_wp2;refine⟨.int .i64 ((a.length:Int)-b.length),?_,_,rfl,rfl,?_⟩
 ·simp[results,Tryz.f181,go_sem]
 ·exact((zM _ w).alloc (zN _) _).alloc (by simp) _
theorem zi9 (va vb:Value) (m n:Nat) (w:zA) (ha:Sl w va ((zaa B9 m).map I)) (hb:Sl w vb ((zaa B9 n).map I)) (la:(zaa B9 m).length<=1000) (lb:(zaa B9 n).length<=1000):
 Calls zF 181 #[va,vb] w (zqv w (λc=>(c<0↔m<n)/\(c=0↔m=n))):=by
 have hB:2<=B9:=by decide
 have sa:=zak hB m;have sb:=zak hB n;by_cases hl:(zaa B9 m).length=(zaa B9 n).length
 ·refine(zyq va vb _ _ w ha hb hl la sa sb).mono ?_
  rintro e w' ⟨c,rfl,hc,hB'⟩;refine⟨c,rfl,?_,hB'⟩;rcases hc with⟨rfl,h⟩|⟨k,hk,h,hne,rfl⟩
  ·have he:=zoa hl h
   have:m=n:=by rw[<-zam hB m,he,zam hB]
   subst this;simp
  ·have hd:=ztr hl k h
   rcases Nat.lt_or_gt_of_ne hne with hlt|hgt
   ·have:=zem sa sb hl k hk hd hlt
    rw[zam hB,zam hB] at this;constructor<;>constructor<;>intro<;>omega
   ·have:=zem sb sa hl.symm k (by omega) hd.symm hgt
    rw[zam hB,zam hB] at this;constructor<;>constructor<;>intro<;>omega
 ·refine(zyr va vb _ _ w ha hb hl la lb).mono ?_
  rintro e w' ⟨c,rfl,rfl,hB'⟩;refine⟨_,rfl,?_,hB'⟩;rcases Nat.lt_or_gt_of_ne hl with hlt|hgt
  ·have:=zc2 hB hlt
   constructor<;>constructor<;>intro<;>omega
  ·have:=zc2 hB hgt
   constructor<;>constructor<;>intro<;>omega
def zei (d n:Nat) {V:Nat->Int->Prop} (pre:List (At n V)):List Nat×Nat:=
 pre.foldl (λs x=>zdl B9 d s x.1.1 x.1.2.toNat) (List.replicate n 0,0)
theorem zkq (d n:Nat) {V:Nat->Int->Prop} (pre:List (At n V)) (x:At n V):zei d n (pre++[x])=zdl B9 d (zei d n pre) x.1.1 x.1.2.toNat:=by simp[zei]
theorem Row.other {w:zA} {g cap:Nat} {l:List Nat} (h:Row w g cap l) {p:Addr} (hne:g≠p.block) (u:Value):Row (w.setCell p u) g cap l:=by
 obtain⟨cur,hg,hr⟩:=h;exact⟨cur,by rw[yE _ _ _ _ hne];exact hg,hr⟩
theorem Row.alloc {w:zA} {g cap:Nat} {l:List Nat} (h:Row w g cap l) (o:Obj):Row (w.alloc o) g cap l:=
 h.below ((zM w.heap.size w).alloc (zN _) o) h.lt
theorem zuo (d n:Nat) (hd:0<d) {V:Nat->Int->Prop} (pre:List (At n V)):(zei d n pre).2<d/\(zei d n pre).1.length=n:=by
 unfold zei;suffices h:∀(l:List (At n V)) (s:List Nat×Nat),s.2<d->s.1.length=n->(l.foldl (λs x=>zdl B9 d s x.1.1 x.1.2.toNat) s).2<d/\(l.foldl (λs x=>zdl B9 d s x.1.1 x.1.2.toNat) s).1.length=n from h pre _ hd (by simp);intro l
 induction l with
 |nil=>exact λs h1 h2=>⟨h1,h2⟩
 |cons x r ih=>intro s h1 h2;exact ih _ (zP _ hd) (by simpa [zdl] using h2)
theorem zg2 (W:zA) (base n:Nat) (_:base<=W.heap.size) (hn:n<=3000):
 ∃w',(Instr.makeSlice 39 (.int .i64 (n:Int)) (.int .i64 (n:Int))).run zF W=.ok (.slice (some ⟨W.heap.size,0,none⟩) n n) w'/\Row w' W.heap.size n (List.replicate n 0)/\zB W.heap.size W w':=by
 obtain⟨i0,hi,hz0,hz1,hz2⟩:=info_parts zdv;obtain⟨w',h1,h2,h3⟩:=run_make_full (P:=zF) W W.heap.size 39 3 i0 (.int .i64 0) 1 Tryz.underlying39 hi hz0 hz1 .i64 .i64 n (by rw[hz2];omega) (by unfold maxLen;omega) (zN _);rw[show(Value.int .i64 0).cells= #[.int .i64 0] from rfl,Nat.mul_one,toList_madeCells_one,<-show(List.replicate n 0).map I=List.replicate n (.int .i64 0) by simp] at h2;have hr:=(Row.of_own h2).1;exact⟨w',h1,hr,(zM _ _).grown h3 (zN _) (λ_ e=>by cases e)⟩
theorem zkr (d:Nat) (a:List Nat):∀(k:Nat) (pre:List (At a.length λi x=>x=((a[i]?.getD 0:Nat):Int))),pre.map (·.1.1)=upto (λk=>a.length-1-k) k->zei d a.length pre=za8 B9 d a k
 |0,pre,h=>by
  have:pre=[]:=by simpa [upto] using h
  subst this;rfl
 |k+1,pre,h=>by
  rw[zia] at h;obtain⟨ini,l2,rfl,h1,h2⟩:=List.map_eq_append_iff.1 h;obtain⟨x,rfl⟩:∃x,l2=[x]:=by
   cases l2 with
   |nil=>simp at h2
   |cons x t=>
    cases t with
    |cons y t=>simp at h2
    |nil=>exact⟨x,rfl⟩
  ·rw[zkq,zkr d a k ini h1]
   have hi:x.1.1=a.length-1-k:=by simpa using h2
   have hv:=x.2.2;rw[hi] at hv;rw[hi,hv];rfl
theorem zwc {s R n d i r:Nat} {q:List Nat} {va:Value} {a:List Nat} (w W:zA) (hs:s=w.heap.size) (hBW:qL w W) (hcd:W.cell? ⟨s,0,none⟩=some (I d))
 (hcq:W.cell? ⟨s+1,0,none⟩=some (.slice (some ⟨s+1+1,0,none⟩) n n)) (hfq:W.frozen? ⟨s+1,0,none⟩=false) (hcr:W.cell? ⟨R,0,none⟩=some (I r)) (hfr:W.frozen? ⟨R,0,none⟩=false)
 (hrow:Row W (s+1+1) n q) (hca:W.cell? ⟨R+1,0,none⟩=some va) (hA:∀W',qL w W'->Sl W' va (a.map I)) (hz1:s+1+1<R) (_:s<=R) (Y Z B:Nat) (st:List Nat×Nat) (hst:st=(q.set i Y,Z)):
 KeepsFrom B W ((W.setCell ⟨s+1+1,i,none⟩ (I Y)).setCell ⟨R,0,none⟩ (I Z)).drew/\
 (RdSl (R+1) va a W->RdSl (R+1) va a ((W.setCell ⟨s+1+1,i,none⟩ (I Y)).setCell ⟨R,0,none⟩ (I Z)).drew)/\
 (((W.setCell ⟨s+1+1,i,none⟩ (I Y)).setCell ⟨R,0,none⟩ (I Z)).drew.cell? ⟨s,0,none⟩=some (I d)/\
   (((W.setCell ⟨s+1+1,i,none⟩ (I Y)).setCell ⟨R,0,none⟩ (I Z)).drew.cell? ⟨s+1,0,none⟩=some (.slice (some ⟨s+1+1,0,none⟩) n n)/\((W.setCell ⟨s+1+1,i,none⟩ (I Y)).setCell ⟨R,0,none⟩ (I Z)).drew.frozen? ⟨s+1,0,none⟩=false)/\
   Row ((W.setCell ⟨s+1+1,i,none⟩ (I Y)).setCell ⟨R,0,none⟩ (I Z)).drew (s+1+1) n st.1/\
   (((W.setCell ⟨s+1+1,i,none⟩ (I Y)).setCell ⟨R,0,none⟩ (I Z)).drew.cell? ⟨R,0,none⟩=some (I st.2)/\((W.setCell ⟨s+1+1,i,none⟩ (I Y)).setCell ⟨R,0,none⟩ (I Z)).drew.frozen? ⟨R,0,none⟩=false)/\
   RdSl (R+1) va a ((W.setCell ⟨s+1+1,i,none⟩ (I Y)).setCell ⟨R,0,none⟩ (I Z)).drew)/\
 qL w ((W.setCell ⟨s+1+1,i,none⟩ (I Y)).setCell ⟨R,0,none⟩ (I Z)).drew:=by
 subst hst;have hBf:qL w ((W.setCell ⟨s+1+1,i,none⟩ (I Y)).setCell ⟨R,0,none⟩ (I Z)).drew:=
  ((hBW.setCell (p:=⟨s+1+1,i,none⟩) (by show _<=s+1+1;omega) _).setCell (p:=⟨R,0,none⟩) (by show _<=R;omega) _).drew
 have hcf:∀b o v,b≠s+1+1->b≠R->W.cell? ⟨b,o,none⟩=some v->((W.setCell ⟨s+1+1,i,none⟩ (I Y)).setCell ⟨R,0,none⟩ (I Z)).drew.cell? ⟨b,o,none⟩=some v:=
  λb o v h1 h2 h=>(Go.cell_drew_own _ _).trans ((zau _ _ _ _ h2).trans ((zau _ _ _ _ h1).trans h))
 have hrd:=hcf (R+1) 0 _ (by omega) (by omega) hca;have h1:=(Row.set (w:=W) hrow i Y).other (p:=⟨R,0,none⟩) (by show s+1+1≠R;omega) (I Z);refine⟨((KeepsOthers.setCell W ⟨s+1+1,i,none⟩ _).trans ((KeepsOthers.setCell _ ⟨R,0,none⟩ _).trans (KeepsOthers.drew _))).from _,λ_=>⟨hrd,hA _ hBf⟩,
  ⟨hcf _ _ _ (by omega) (by omega) hcd,⟨hcf _ _ _ (by omega) (by omega) hcq,?_⟩,h1.below (Below.drew (zM ((W.setCell ⟨s+1+1,i,none⟩ (I Y)).setCell ⟨R,0,none⟩ (I Z)).heap.size _)) h1.lt,⟨?_,?_⟩,hrd,hA _ hBf⟩,hBf⟩
 ·rw[Go.frozen_drew_own,World.frozen?_setCell,World.frozen?_setCell];exact hfq
 ·exact(Go.cell_drew_own _ _).trans (za9 ((zau _ _ _ _ (by omega)).trans hcr))
 ·rw[Go.frozen_drew_own,World.frozen?_setCell,World.frozen?_setCell];exact hfr
theorem Sl.trim {w:zA} {p:Option Addr} {cap:Nat} {l:List Nat} (h:Sl w (.slice p l.length cap) (l.map I)):Sl w (.slice p (zat l).length cap) ((zat l).map I):=by
 have:=h.take (k:=(zat l).length) (by simpa using zkn l);rw[<-List.map_take,<-zjo] at this;exact this
theorem zwd {r:Nat} (hr:r<B9):zat [r]=zaa B9 r:=by
 rw[zbu (B:=B9) (by decide) (by intro x hx;simp at hx;omega)];simp[valL]
structure ShortC (w:zA) (D z R n:Nat) (q:List Nat) (r:Nat) (vq vt:Value) (f:Nat->Bool) (W:zA):Prop where
 below:qL w W
 q0:f 5=false->W.cell? ⟨w.heap.size+1,0,none⟩=some vq
 q1:f 5=true->W.cell? ⟨w.heap.size+1,0,none⟩=some vt
 fz:W.frozen? ⟨w.heap.size+1,0,none⟩=false
 rr:W.cell? ⟨R,0,none⟩=some (I r)
 row:Row W (w.heap.size+1+1) n q
 r0:f 3=false->W.heap.size=z
 r1:f 3=true->Row W z 1 [r]
 dk:W.heap[D]? =some (.deferred (some []))
theorem ShortC.set {w:zA} {D z R n:Nat} {q:List Nat} {r:Nat} {vq vt:Value} {f:Nat->Bool} {W:zA} (h:ShortC w D z R n q r vq vt f W) (k:Nat) (h3:k≠3) (h5:k≠5):ShortC w D z R n q r vq vt (λj=>if k=j then true else f j) W:=
 ⟨h.below,by rw[if_neg h5];exact h.q0,by rw[if_neg h5];exact h.q1,h.fz,h.rr,h.row,by rw[if_neg h3];exact h.r0,by rw[if_neg h3];exact h.r1,h.dk⟩
theorem ShortC.fresh {w:zA} {D z R n:Nat} {q:List Nat} {r:Nat} {vq vt:Value} {f:Nat->Bool} {W:zA} (h:ShortC w D z R n q r vq vt f W) (h3:f 3=false) (_:R<W.heap.size):
 ShortC w D z R n q r vq vt (λj=>if 3=j then true else f j) (W.alloc (.cells #[I r] 3)):=
 have e:=h.r0 h3
 ⟨h.below.alloc h.below.size _,λh5=>zob (h.q0 (by simpa using h5)) _,λh5=>zob (h.q1 (by simpa using h5)) _,by
   cases h5:f 5 with
   |false=>exact zow (h.q0 h5) _ h.fz
   |true=>exact zow (h.q1 h5) _ h.fz,zob h.rr _,h.row.alloc _,λh=>by simp at h,λ_=>by
   rw[<-e];exact⟨#[I r],by show(W.heap.push _)[W.heap.size]? =_;simp,zN _,by decide,rfl,rfl⟩,by show(W.heap.push _)[D]? =_;have:=(Array.getElem?_eq_some_iff.1 h.dk).1;rw[Array.getElem?_push_lt this,<-Array.getElem?_eq_getElem this];exact h.dk⟩
theorem ShortC.stored {w:zA} {D z R n:Nat} {q:List Nat} {r:Nat} {vq vt:Value} {f:Nat->Bool} {W:zA} (h:ShortC w D z R n q r vq vt f W) (h5:f 5=false) (hR:w.heap.size+1+1<R) (hz:w.heap.size+1<z) (hD:w.heap.size+1<D):
 ShortC w D z R n q r vq vt (λj=>if 5=j then true else f j) (W.setCell ⟨w.heap.size+1,0,none⟩ vt):=
 ⟨h.below.setCell (by simp) _,λh=>by simp at h,λ_=>za9 (h.q0 h5),by rw[World.frozen?_setCell];exact h.fz,(zau _ _ _ _ (by omega)).trans h.rr,h.row.other (by show w.heap.size+1+1≠w.heap.size+1;omega) _,
   λh3=>by rw[World.size_setCell];exact h.r0 (by simpa using h3),λh3=>(h.r1 (by simpa using h3)).other (by show z≠w.heap.size+1;omega) _,by simp only[World.setCell,Array.getElem?_modify];rw[if_neg (by show ¬w.heap.size+1=D;omega)];exact h.dk⟩
theorem zoy (va:Value) (a:List Nat) (d:Nat) (w:zA) (ha:Sl w va (a.map I)) (la:a.length<=1000) (sa:zal B9 a) (hd0:0<d) (hd:d<B9):
 Calls zF 198 #[va,I d] w (λe w'=>∃v1 v2,e=.returned (.tuple #[v1,v2])/\Sl w' v1 ((zaa B9 (valL B9 a/d)).map I)/\Sl w' v2 ((zaa B9 (valL B9 a%d)).map I)/\zB w.heap.size w w'):=by
 have ha':=ha;obtain⟨pa,ca,rfl,hca,hcella⟩:=ha;simp only[zV] at*
 have HA:=Lib.hid ha';clear ha' hcella hca;have SA:=Lib.hid sa;clear sa;obtain⟨W1,hmk,hrow,hbw⟩:=zg2 ((w.alloc (.cells #[.int .i64 (d:Int)] 3)).alloc (.cells #[.slice none 0 0] 39)) w.heap.size a.length (by simp;omega) (by omega);have bD:Boxed W1 w.heap.size 3 (I d):=(hbw.block _ (by simp;omega)).trans ((Boxed.new w 3 (I d)).alloc (.cells #[.slice none 0 0] 39));have bQ:Boxed W1 (w.heap.size+1) 39 (.slice none 0 0):=(hbw.block _ (by simp)).trans (by have:=Boxed.new (w.alloc (.cells #[.int .i64 (d:Int)] 3)) 39 (.slice none 0 0);rw[zH] at this;exact this);have hB1:qL w W1:=(((zM _ w).alloc (zN _) _).alloc (by simp) _).trans (hbw.mono (by simp;omega));clear hbw;simp only[zH] at hrow hmk;have hcq:=bQ.cell;have hfq:=bQ.frozen;refine(callsIn_wide (n:=3)).1 ?_;refine callsIn_of_wp_marks Tryz.func198 rfl trivial ?_ rfl;simp only[Tryz.ntmps198,zZ,yA,List.length_nil,Nat.reduceAdd,Nat.reduceSub,Array.replicate_succ,Array.replicate_zero,List.push_toArray,List.append_toArray,yI,yM];gi_wp2_with (refine⟨trivial,?_⟩;gi_at_call 199;refine(callsIn_wide.2 (zhu _ _ _ _ _ rfl)).mono ?_;rintro e w' ⟨rfl,rfl⟩);have bQ2:Boxed (W1.setCell ⟨w.heap.size+1,0,none⟩ (.slice (some ⟨w.heap.size+1+1,0,none⟩) a.length a.length)) (w.heap.size+1) 39 (.slice (some ⟨w.heap.size+1+1,0,none⟩) a.length a.length):=by
  unfold Boxed at*
  simp[World.setCell,Array.getElem?_modify,bQ]
 have bD2:=bD.other (B':=w.heap.size+1) (by omega) (.slice (some ⟨w.heap.size+1+1,0,none⟩) a.length a.length);have hrow2:=hrow.other (p:=⟨w.heap.size+1,0,none⟩) (by show w.heap.size+1+1≠w.heap.size+1;omega) (.slice (some ⟨w.heap.size+1+1,0,none⟩) a.length a.length);have hB2:=hB1.setCell (p:=⟨w.heap.size+1,0,none⟩) (by simp) (.slice (some ⟨w.heap.size+1+1,0,none⟩) a.length a.length);have hz1:w.heap.size+1+1<W1.heap.size:=hrow.lt;have hzz:(W1.setCell ⟨w.heap.size+1,0,none⟩ (.slice (some ⟨w.heap.size+1+1,0,none⟩) a.length a.length)).heap.size=W1.heap.size:=by simp[World.setCell]
 rw[<-hzz];rw[<-hzz] at hz1;clear hzz hrow hcq hfq bQ bD hmk hB1;generalize W1.setCell ⟨w.heap.size+1,0,none⟩ (.slice (some ⟨w.heap.size+1+1,0,none⟩) a.length a.length)=W2 at*
 clear W1;have bR:=(Boxed.new W2 3 (.int .i64 0)).alloc (.cells #[.slice pa a.length ca] 39);have bA:=Boxed.new (W2.alloc (.cells #[.int .i64 0] 3)) 39 (.slice pa a.length ca);rw[zH] at bA;have bQ3:=(bQ2.alloc (.cells #[.int .i64 0] 3)).alloc (.cells #[.slice pa a.length ca] 39);have bD3:=(bD2.alloc (.cells #[.int .i64 0] 3)).alloc (.cells #[.slice pa a.length ca] 39);have hrow3:=(hrow2.alloc (.cells #[.int .i64 0] 3)).alloc (.cells #[.slice pa a.length ca] 39);have hB3:=(hB2.alloc hB2.size (.cells #[.int .i64 0] 3)).alloc (by have:=hB2.size;simp;omega) (.cells #[.slice pa a.length ca] 39);have hsz2:=hB2.size;clear bQ2 bD2 hrow2 hB2;obtain⟨R,hR⟩:=zzX W2.heap.size;rw[<-hR] at bR bA hz1 hsz2⊢;clear hR;generalize (W2.alloc (.cells #[.int .i64 0] 3)).alloc (.cells #[.slice pa a.length ca] 39)=W3 at*
 clear W2;have hz3:=bA.lt
 refine znd w hB3 (R+1) a.length ca pa (λi x=>x=((a[i]?.getD 0:Nat):Int)) (RdSl (R+1) (.slice pa a.length ca) a) (by omega) (λW h=>h.read)
  (λW h=>⟨by rw[h.cell (by simpa using hz3)];exact bA.cell,(HA.out.below hB3).below h⟩) (λW W' k h=>k.rd h) rfl rfl
  (λpre W=>W.cell? ⟨w.heap.size,0,none⟩=some (I d)/\(W.cell? ⟨w.heap.size+1,0,none⟩=some (.slice (some ⟨w.heap.size+1+1,0,none⟩) a.length a.length)/\W.frozen? ⟨w.heap.size+1,0,none⟩=false)/\
    Row W (w.heap.size+1+1) a.length (zei d a.length pre).1/\(W.cell? ⟨R,0,none⟩=some (I (zei d a.length pre).2)/\W.frozen? ⟨R,0,none⟩=false)/\RdSl (R+1) (.slice pa a.length ca) a W)
  (λc pre W=>False)
  (λs W W' k h=>⟨k.cell h.1,⟨k.cell h.2.1.1,k.frozen h.2.1.1 h.2.1.2⟩,k.row h.2.2.1,⟨k.cell h.2.2.2.1.1,k.frozen h.2.2.2.1.1 h.2.2.2.1.2⟩,k.rd h.2.2.2.2⟩)
  (λc s W W' k h=>h)
  ⟨bD3.cell,⟨bQ3.cell,bQ3.frozen⟩,hrow3,⟨bR.cell,bR.frozen⟩,bA.cell,HA.out.below hB3⟩
  (λx=>{tmps:= #[Value.slice pa a.length ca,I d,undef,Value.pointer (some {block:=w.heap.size,off:=0}),
     Value.pointer (some {block:=w.heap.size+1,off:=0}),Value.slice none 0 0,
     Value.pointer (some {block:=R,off:=0}),.int .i64 (x.1.1:Int),.int .i64 x.1.2,Value.slice pa a.length ca,
     Value.int IntKind.i64 ↑a.length,
     Value.slice (some {block:=w.heap.size+1+1,off:=0}) a.length a.length,Value.slice pa a.length ca,
     Value.func (Fn.func 259) #[] #[Value.pointer (some {block:=R+1,off:=0})],.int .i64 (x.1.1:Int),.int .i64 x.1.2,
     undef,undef,undef,undef,undef,undef,undef,undef,undef,undef,undef,undef,undef,undef,undef,
     undef,undef,undef],defers:=[]}) ?assign ?body ?done ?stop
 case assign=>
  intro l x W K hK;gi_wp2;exact hK
 case body=>
  rintro l pre x W ⟨hcd,⟨hcq,hfq⟩,hrow,⟨hcr,hfr⟩,hrd⟩ hBW _;have hi:=x.2.1;have hx:=x.2.2;obtain⟨i,hxi⟩:∃i,x.1.1=i:=⟨_,rfl⟩;obtain⟨xv,hxv⟩:∃v,x.1.2=v:=⟨_,rfl⟩;have hst:=zkq d a.length pre x;have hlt:=zuo d a.length hd0 pre;simp only[hxi,hxv] at hi hx hst⊢;clear hxi hxv;generalize zei d a.length pre=st at*
  obtain⟨q,r⟩:=st;dsimp only at hrow hcr hlt hst;obtain⟨hr,hq⟩:=hlt;have hcell:=hrow.cell (getD_some (show i<q.length by omega));have hfz:=hrow.frozen i;have HROW:=Lib.hid hrow;clear hrow;have hxa:=zaj SA.out (by decide) i;subst hx;generalize a[i]?.getD 0=xn at*
  rw[Int.toNat_natCast] at hst;have HST:=Lib.hid hst;clear hst;have hd':d<1000000000:=hd;have hx':xn<1000000000:=hxa;have HQ:=Lib.hid hq;clear hq hxa;generalize q[i]?.getD 0=z at*
  have HRD:=Lib.hid hrd;clear hrd;have hnn:(0:Int)<=(xn:Int)+(r:Int)*1000000000:=by omega
  have hnn2:(xn:Int)+(r:Int)*1000000000<=1000000000000000000:=by omega
  have hd1:¬d=0:=by omega
  have e0:(xn:Int)+(r:Int)*1000000000=((xn+r*1000000000:Nat):Int):=by simp
  have q0:(xn+r*1000000000)/d<=1000000000:=by
   apply Nat.div_le_of_le_mul;have:(r+1)*1000000000<=d*1000000000:=Nat.mul_le_mul_right _ hr;omega
  have q1:(xn+r*1000000000)%d<d:=zP _ hd0;have e1:IntKind.i64.wrap (((xn:Int)+(r:Int)*1000000000).tdiv (d:Int))=(((xn+r*1000000000)/d:Nat):Int):=by
   rw[e0,Int.tdiv_eq_ediv_of_nonneg (by omega),<-Int.natCast_ediv];generalize (xn+r*1000000000)/d=Y at*
   exact zI _ (by omega)
  have e2:IntKind.i64.wrap (((xn:Int)+(r:Int)*1000000000).tmod (d:Int))=(((xn+r*1000000000)%d:Nat):Int):=by
   rw[e0,Int.tmod_eq_emod_of_nonneg (by omega),<-Int.natCast_emod];generalize (xn+r*1000000000)%d=Y at*
   exact zI _ (by omega)
  have E1:=Lib.hid e1;clear e1;have E2:=Lib.hid e2;clear e2;clear e0;gi_wp2;have e1:=E1.out;have e2:=E2.out;refine zmp 9 (λW=>W.cell? ⟨w.heap.size,0,none⟩=some (I d)/\W.cell? ⟨w.heap.size+1,0,none⟩=some (.slice (some ⟨w.heap.size+1+1,0,none⟩) a.length a.length)) (by kernel_rfl) (by kernel_rfl) ⟨hcd,hcq⟩ ?_;simp only[List.take_succ_cons,List.take_zero,List.drop_succ_cons,List.drop_zero]
  repeat(apply zer (by rfl);(focus(rintro W ⟨h1,h2⟩;go_simp;try with_reducible rfl));try simp only[zzQ])
  refine ze6 ?_;refine zbt (by rfl) λK hK=>?_;go_simp;refine hK _ _ ⟨(zau _ _ _ _ (by omega)).trans hcd,(zau _ _ _ _ (by omega)).trans hcq⟩ ?_;clear hK K
  try simp only[zzQ]
  refine zbt (by rfl) λK hK=>?_;go_simp;refine hK _ _ ⟨(zau _ _ _ _ (by omega)).trans ((zau _ _ _ _ (by omega)).trans hcd),(zau _ _ _ _ (by omega)).trans ((zau _ _ _ _ (by omega)).trans hcq)⟩ ?_;clear hK K;refine ze7 ⟨rfl,?_⟩
  try simp only[zzQ]
  clear e1 e2;gi_wp2;have v1:Value.int .i64 (((xn:Int)+(r:Int)*1000000000)/(d:Int))=I ((xn+r*B9)/d):=by simp[I,B9]
  have v2:Value.int .i64 (((xn:Int)+(r:Int)*1000000000).tmod (d:Int))=I ((xn+r*B9)%d):=by rw[Int.tmod_eq_emod_of_nonneg hnn];simp[I,B9]
  rw[v1,v2];clear v1 v2 hnn hnn2 q0 q1 hd' hx' hd1 E1 E2;exact zwc (q:=q) w W rfl hBW hcd hcq hfq hcr hfr HROW.out HRD.out.1 (λW' h=>HA.out.below h) hz1 hsz2 _ _ _ _ (HST.out.trans rfl)
 case done=>
  rintro D ys W hD hys ⟨hcd,⟨hcq,hfq⟩,hrow,⟨hcr,hfr⟩,hrd⟩ hBW hK;clear hrd;rw[zkr d a _ _ hys] at hrow hcr;obtain⟨e1,e2⟩:=zjq (B:=B9) (by decide) hd0 SA.out;obtain⟨t1,t2,t3, -⟩:=zeo (B:=B9) hd0 SA.out a.length (zN _);generalize za8 B9 d a a.length=st at*
  obtain⟨q,r⟩:=st;dsimp only at*
  have hr9:r<B9:=by omega
  have hsl:=hrow.sl;rw[t1] at hsl;have E1:=Lib.hid e1;clear e1;have E2:=Lib.hid e2;clear e2;have T1:=Lib.hid t1;clear t1;have T2:=Lib.hid t2;clear t2;have HYS:=Lib.hid hys;clear hys;have HROW:=Lib.hid hrow;clear hrow;have HK:=Lib.hid hK;clear hK;gi_wp2;refine wpIn_wide.2 ?_;have hslA:∀W',qL W W'->Sl W' (.slice (some ⟨w.heap.size+1+1,0,none⟩) a.length a.length) (q.map I):=λW' h=>hsl.below h;have hrA:∀(W':zA) (o:Nat),o=W'.heap.size->Sl (W'.alloc (.cells #[I r] 3)) (.slice (some ⟨o,0,none⟩) 1 1) ([r].map I):=λW' o ho=>ho▸Sl.mk (b:=W'.heap.size) (off:=0) (cap:=1) (xs:=[I r]) (zN _) (λi x hx=>by
   match i,hx with
   |0,hx=>simp at hx;subst hx;simp)
  have HA1:=Lib.hid hslA;clear hslA;have HA2:=Lib.hid hrA;clear hrA hsl;have l1:w.heap.size+1<W.heap.size:=zbe hcq;have l2:R<W.heap.size:=zbe hcr;have hinit:ShortC w D W.heap.size R a.length q r (.slice (some ⟨w.heap.size+1+1,0,none⟩) a.length a.length) (.slice (some ⟨w.heap.size+1+1,0,none⟩) (zat q).length a.length) (λ_=>false) W.drew:=
   ⟨hBW.drew,λ_=>hcq,(λh=>by cases h),hfq,hcr,HROW.out,λ_=>rfl,(λh=>by cases h),HK.out⟩
  refine zbl (ShortC w D W.heap.size R a.length q r (.slice (some ⟨w.heap.size+1+1,0,none⟩) a.length a.length) (.slice (some ⟨w.heap.size+1+1,0,none⟩) (zat q).length a.length)) (by kernel_rfl) (by kernel_rfl) hinit ?_;clear hinit;refine zab (v:=.slice (some ⟨w.heap.size+1+1,0,none⟩) a.length a.length) (by rfl) (λf W' h=>h.set 0 (by decide) (by decide)) (λf W' hf h=>by have:=h.q0 (hf.no (k:=1) (hf.no (k:=0) hf.self (by kernel_rfl)) (by kernel_rfl));go_simp) ?_
  try simp only[zzQ]
  refine zar (.slice (some ⟨w.heap.size+1+1,0,none⟩) (zat q).length a.length) (by rfl) (λf W' hf h C' hC'=>by
   go_simp;refine Calls.mono (zi6 _ _ _ q _ (by have:=h.row.sl;rw[T1.out] at this;exact this) (by rw[T1.out];omega)) ?_;rintro e w' ⟨rfl,rfl⟩;exact⟨rfl,hC' _ (h.set 1 (by decide) (by decide))⟩) ?_
  try simp only[zzQ]
  refine zab (v:=I r) (by rfl) (λf W' h=>h.set 2 (by decide) (by decide)) (λf W' hf h=>by have:=h.rr;go_simp) ?_
  try simp only[zzQ]
  refine zar (.slice (some ⟨W.heap.size,0,none⟩) 1 1) (by rfl) (λf W' hf h C' hC'=>by
   have hz:=h.r0 hf.self;have hz':=hC';go_simp;exact⟨rfl,hC' _ (h.fresh hf.self (zbe h.rr))⟩) ?_
  try simp only[zzQ]
  refine zar (.slice (some ⟨W.heap.size,0,none⟩) (zat [r]).length 1) (by rfl) (λf W' hf h C' hC'=>by
   have hr:=h.r1 (hf.done 3 (by kernel_rfl));go_simp;refine Calls.mono (zi6 _ _ _ [r] _ hr.sl (by simp)) ?_;rintro e w' ⟨rfl,rfl⟩;exact⟨rfl,hC' _ (h.set 4 (by decide) (by decide))⟩) ?_
  try simp only[zzQ]
  refine zar undef (by rfl) (λf W' hf h C' hC'=>by
   have hq:=h.q0 hf.self;have hz:=h.fz;go_simp;exact⟨rfl,hC' _ (h.stored hf.self hz1 l1 (by omega))⟩) ?_
  try simp only[Act.put]
  refine zab (v:=.slice (some ⟨W.heap.size,0,none⟩) (zat [r]).length 1) (by rfl) (λf W' h=>h.set 6 (by decide) (by decide)) (λf W' hf h=>by go_simp) ?_
  try simp only[zzQ]
  refine zck λf W' hf h=>?_;have hq:=h.q1 (hf 5 (by decide));have hrr:=h.r1 (hf 3 (by decide));clear hf;have hrow':=h.row;have hbel:=h.below;have hdk:=h.dk;clear h;gi_wp2;have e1:=E1.out;have e2:=E2.out;have e3:=T1.out;refine⟨by simp,.inl ⟨_,_,rfl,run_takeDeferred hdk,?_⟩⟩;have hc:=(zbk hdk).cell hq;refine⟨.tuple #[.slice (some ⟨w.heap.size+1+1,0,none⟩) (zat q).length a.length,.slice (some ⟨W.heap.size,0,none⟩) (zat [r]).length 1],?_,_,_,rfl,(zbk hdk).sl ?_,(zbk hdk).sl ?_,zby hbel (by omega) hdk⟩
  ·simp[results,Tryz.f198,go_sem,hc]
  ·rw[<-e1];exact Sl.trim hrow'.sl
  ·rw[<-e2,<-zwd hr9];exact Sl.trim hrr.sl
 case stop=>
  rintro D c pre W hD _ h;exact h.elim
end Go.Proofs.YtfoodcpnnmonhaaGreatDoor
namespace Go.Proofs.YtfoodcpnnmonhaaGreatDoor.Limb
def zba (B q:Nat) (v:List Nat) (j:Nat) (u:List Nat):Nat->List Nat×Nat
 |0=>(u,0)
 |k+1=>let r:=zba B q v j u k;let x:=r.1[j+k]?.getD 0;let y:=r.2+q*v[k]?.getD 0;let c:=(y-x+(B-1))/B;(r.1.set (j+k) (x+c*B-y),c)
theorem zej {B:Nat} (hB:2<=B) {q:Nat} {v:List Nat} (hv:zal B v) (j:Nat) {u:List Nat} (hu:zal B u):∀k,j+k<=u.length->
 (zba B q v j u k).1.length=u.length/\zal B (zba B q v j u k).1/\(zba B q v j u k).2<=q/\
   valL B (zba B q v j u k).1+B^j*(q*valL B (v.take k))=valL B u+B^(j+k)*(zba B q v j u k).2
 |0,_=>⟨rfl,hu,by simp[zba],by simp[zba,valL]⟩
 |k+1,hk=>by
  obtain⟨h1,h2,h3,h4⟩:=zej hB hv j hu k (by omega);have hy:=zaj hv (by omega) k;simp only[zba];rw[zbo];generalize zba B q v j u k=r at*
  obtain⟨l,c⟩:=r;simp only at*
  have hz:=zaj h2 (by omega) (j+k);have hs:=λw=>zgc B l (j+k) w (by omega);generalize v[k]?.getD 0=y at*
  generalize l[j+k]?.getD 0=z at*
  have hqy:q*y+q<=q*B:=by rw[<-Nat.mul_succ];exact Nat.mul_le_mul_left _ hy
  have hc:(c+q*y-z+(B-1))/B<=q:=by
   apply Nat.le_of_lt_succ;apply Nat.div_lt_of_lt_mul;rw[yP B,Nat.succ_mul];omega
  have e1:=Nat.div_add_mod (c+q*y-z+(B-1)) B;have e2:=zP (c+q*y-z+(B-1)) (show 0<B by omega);rw[yP] at e1;generalize (c+q*y-z+(B-1))/B=C at*
  generalize (c+q*y-z+(B-1))%B=M at*
  have hlt:z+C*B-(c+q*y)<B/\c+q*y<=z+C*B:=by
   rcases Nat.lt_or_ge z (c+q*y) with h|h
   ·omega
   ·have:C=0:=by
     rcases Nat.eq_zero_or_pos C with h0|h0
     ·exact h0
     ·have:1*B<=C*B:=Nat.mul_le_mul_right _ h0
      omega
    subst this;omega
  obtain⟨d,hd⟩:∃d,d=z+C*B-(c+q*y):=⟨_,rfl⟩;rw[<-hd] at hlt⊢;have hd2:d+(c+q*y)=z+C*B:=by omega
  refine⟨by simp[h1],zfm h2 _ hlt.1,hc,?_⟩;have hs':=hs d;have e3:B^(j+k)*d+B^(j+k)*c+B^(j+k)*(q*y)=B^(j+k)*z+B^(j+k)*(C*B):=by
   rw[<-Nat.mul_add,<-Nat.mul_add,<-Nat.mul_add,<-hd2,Nat.add_assoc]
  have e4:B^j*(q*(valL B (v.take k)+B^k*y))=B^j*(q*valL B (v.take k))+B^(j+k)*(q*y):=by
   rw[Nat.mul_add,Nat.mul_add,Nat.pow_add,Nat.mul_assoc (B^j) (B^k),<-Nat.mul_assoc q,yP q (B^k),Nat.mul_assoc]
  have e5:B^(j+(k+1))*C=B^(j+k)*(C*B):=by
   rw[show j+(k+1)=j+k+1 by omega,yO,Nat.mul_assoc,yP B C]
  rw[e4,e5];omega
theorem zfy {B q:Nat} {v:List Nat} {j:Nat} {u:List Nat} (i:Nat):∀k,(i<j\/j+k<=i)->(zba B q v j u k).1[i]? =u[i]?
 |0,_=>rfl
 |k+1,h=>by
  simp only[zba];rw[List.getElem?_set_ne (by omega)];exact zfy i k (by omega)
theorem zl3 {B q:Nat} {v:List Nat} {j:Nat} {u:List Nat} (i:Nat):∀k,(i<j\/j+k<=i)->(zay B q v j u k).1[i]? =u[i]?
 |0,_=>rfl
 |k+1,h=>by
  simp only[zay];rw[List.getElem?_set_ne (by omega)];exact zl3 i k (by omega)
theorem zks {B:Nat} (hB:2<=B) {x:Nat} {b:List Nat} (hb:zal B b) (i:Nat) {out:List Nat} (ho:zal B out):∀k,i+k<=out.length->
 (zay B x b i out k).1.length=out.length/\zal B (zay B x b i out k).1/\(zay B x b i out k).2<=x/\
   valL B (zay B x b i out k).1+B^(i+k)*(zay B x b i out k).2=valL B out+B^i*(x*valL B (b.take k))
 |0,_=>⟨rfl,ho,by simp[zay],by simp[zay,valL]⟩
 |k+1,hk=>by
  obtain⟨h1,h2,h3,h4⟩:=zks hB (x:=x) hb i ho k (by omega);have hy:=zaj hb (by omega) k;simp only[zay];rw[zbo];generalize zay B x b i out k=r at*
  obtain⟨l,c⟩:=r;simp only at*
  have hz:=zaj h2 (by omega) (i+k);have hs:=λv=>zgc B l (i+k) v (by omega);generalize b[k]?.getD 0=y at*
  generalize l[i+k]?.getD 0=z at*
  have hxy:x*y+x<=x*B:=by rw[<-Nat.mul_succ];exact Nat.mul_le_mul_left _ hy
  refine⟨by simp[h1],zfm h2 _ (zP _ (by omega)),Nat.le_of_lt_succ (Nat.div_lt_of_lt_mul (by rw[yP B,Nat.succ_mul];omega)),?_⟩;have e:=Nat.mod_add_div (z+x*y+c) B;have hs':=hs ((z+x*y+c)%B);generalize (z+x*y+c)%B=m at*
  generalize (z+x*y+c)/B=q at*
  have e2:B^(i+k)*m+B^(i+k)*B*q=B^(i+k)*z+B^(i+k)*(x*y)+B^(i+k)*c:=by
   rw[<-Nat.mul_add,<-Nat.mul_add,<-e,Nat.mul_add,Nat.mul_assoc]
  rw[show i+(k+1)=i+k+1 by omega,yO];have e3:B^i*(x*(valL B (b.take k)+B^k*y))=B^i*(x*valL B (b.take k))+B^(i+k)*(x*y):=by
   rw[Nat.mul_add,Nat.mul_add,Nat.pow_add,Nat.mul_assoc (B^i) (B^k),<-Nat.mul_assoc x,yP x (B^k),Nat.mul_assoc]
  rw[e3];omega
theorem zqw {B:Nat}:∀{a b:List Nat},zal B a->zal B b->a.length=b.length->valL B a=valL B b->a=b
 |[],[],_,_,_,_=>rfl
 |[],_::_,_,_,h,_=>by cases h
 |_::_,[],_,_,h,_=>by cases h
 |x::a,y::b,ha,hb,hl,hv=>by
  have hx:x<B:=ha x (by simp);have hy:y<B:=hb y (by simp);simp only[valL] at hv;have h1:x=y:=by
   have:=congrArg (· %B) hv;simpa [Nat.add_mul_mod_self_left,zQ hx,zQ hy] using this
  subst h1;have h2:valL B a=valL B b:=Nat.eq_of_mul_eq_mul_left (show 0<B by omega) (by omega);rw[zqw (λz hz=>ha z (by simp[hz])) (λz hz=>hb z (by simp[hz])) (by simpa using hl) h2]
theorem zqx {B:Nat} {l:List Nat} (h:zal B l) {p:Nat} (hp:p<=l.length):valL B l%B^p=valL B (l.take p):=by
 have e:=zc7 B l p;have hl:(l.take p).length=p:=by simp;omega
 have hlt:=zb6 (zcu h p);rw[hl] at e hlt;rw[e,Nat.add_mul_mod_self_left,zQ hlt]
theorem zps {a b:List Nat} (p:Nat) (h1:a.take p=b.take p) (h2:∀i,p<=i->a[i]? =b[i]?):a=b:=by
 apply List.ext_getElem?;intro i;rcases Nat.lt_or_ge i p with h|h
 ·have:=congrArg (·[i]?) h1
  simpa [List.getElem?_take,h] using this
 ·exact h2 i h
theorem zwe {B:Nat} (hB:2<=B) {q:Nat} {v:List Nat} (hv:zal B v) {j:Nat} {u:List Nat} (hu:zal B u) (k:Nat) (hk:j+k<=u.length):
 (zay B q v j (zba B q v j u k).1 k).1=u:=by
 obtain⟨t1,t2,t3,t4⟩:=zej hB (q:=q) hv j hu k hk;obtain⟨r1,r2,r3,r4⟩:=zks hB (x:=q) hv j t2 k (by omega);have hkeep:∀i,j+k<=i->(zay B q v j (zba B q v j u k).1 k).1[i]? =u[i]? :=λi hi=>by
  rw[zl3 i k (.inr hi),zfy i k (.inr hi)]
 generalize (zba B q v j u k)=t at*
 generalize (zay B q v j t.1 k)=r at*
 refine zps (j+k) ?_ hkeep;refine zqw (zcu r2 _) (zcu hu _) (by simp;omega) ?_;rw[<-zqx r2 (by omega),<-zqx hu hk];have e:valL B r.1+B^(j+k)*r.2=valL B u+B^(j+k)*t.2:=by omega
 have:=congrArg (· %B^(j+k)) e;simpa [Nat.add_mul_mod_self_left] using this
theorem zdb (l:List Nat) (k:Nat) (B:Nat) (h:k<l.length):valL B (l.drop k)=l[k]?.getD 0+B*valL B (l.drop (k+1)):=by
 rw[zdu l k B h];simp[h]
theorem zwf {B:Nat} (hB:2<=B) {u v:List Nat} (hv:zal B v) {j:Nat} (hj:j+v.length+1<=u.length) (hD:valL B (u.drop j)<B*valL B v):
 valL B (u.drop (j+(v.length+1)))=0:=by
 have e:=zc7 B (u.drop j) (v.length+1);have hl:((u.drop j).take (v.length+1)).length=v.length+1:=by simp;omega
 rw[hl,List.drop_drop] at e;have hV:=zb6 hv;rcases Nat.eq_zero_or_pos (valL B (u.drop (j+(v.length+1)))) with h|h
 ·exact h
 ·have h1:B^(v.length+1)*1<=B^(v.length+1)*valL B (u.drop (j+(v.length+1))):=Nat.mul_le_mul_left _ h
  have h2:B*valL B v+B<=B^(v.length+1):=by
   rw[yO,yP _ B,<-Nat.mul_succ];exact Nat.mul_le_mul_left _ hV
  omega
theorem zoz {B:Nat} (hB:2<=B) {q:Nat} {u v:List Nat} (hu:zal B u) (hv:zal B v) {j:Nat} (hj:j+v.length+1<=u.length) (hD:valL B (u.drop j)<B*valL B v):
 ((zba B q v j u (v.length+1)).2=0->valL B ((zba B q v j u (v.length+1)).1.drop j)+q*valL B v=valL B (u.drop j)/\
   valL B (zba B q v j u (v.length+1)).1+B^j*(q*valL B v)=valL B u)/\
 ((zba B q v j u (v.length+1)).2≠0->valL B (u.drop j)<q*valL B v):=by
 have hw:=zwf hB hv hj hD;obtain⟨t1,t2,t3,t4⟩:=zej hB (q:=q) hv j hu (v.length+1) (by omega);rw[List.take_of_length_le (show v.length<=v.length+1 by omega)] at t4;have hk1:(zba B q v j u (v.length+1)).1.take j=u.take j:=by
  apply List.ext_getElem?;intro i;rw[List.getElem?_take,List.getElem?_take];split
  ·exact zfy i _ (.inl (by assumption))
  ·rfl
 have hk2:(zba B q v j u (v.length+1)).1.drop (j+(v.length+1))=u.drop (j+(v.length+1)):=by
  apply List.ext_getElem?;intro i;rw[List.getElem?_drop,List.getElem?_drop];exact zfy _ _ (.inr (by omega))
 generalize zba B q v j u (v.length+1)=t at*
 have e1:=zc7 B t.1 j;have e2:=zc7 B u j;have l1:(u.take j).length=j:=by simp;omega
 rw[hk1,l1] at e1;rw[l1] at e2;have e3:=zc7 B (t.1.drop j) (v.length+1);have l2:((t.1.drop j).take (v.length+1)).length=v.length+1:=by simp;omega
 have hlt:=zb6 (zcu (zg5 t2 j) (v.length+1));rw[l2] at hlt;rw[List.drop_drop,hk2,hw,Nat.mul_zero,Nat.add_zero] at e3;rw[<-e3] at hlt;have hB0:0<B^j:=Nat.pow_pos (by omega);have key:valL B (t.1.drop j)+q*valL B v=valL B (u.drop j)+B^(v.length+1)*t.2:=by
  apply Nat.eq_of_mul_eq_mul_left hB0;rw[Nat.mul_add,Nat.mul_add,<-Nat.mul_assoc (B^j) (B^(v.length+1)),<-Nat.pow_add];omega
 constructor
 ·intro h0
  rw[h0,Nat.mul_zero,Nat.add_zero] at key t4;exact⟨key,t4⟩
 ·intro h0
  have:B^(v.length+1)*1<=B^(v.length+1)*t.2:=Nat.mul_le_mul_left _ (by omega);omega
theorem zne {B:Nat} (hB:2<=B) {u v:List Nat} (hu:zal B u) (hv:zal B v) {j n:Nat} (hn:v.length=n+2) (hj:j+v.length+1<=u.length) (hD:valL B (u.drop j)<B*valL B v):
 (∃low,low<B^n/\valL B (u.drop j)=low+B^n*(u[j+n]?.getD 0+B*(u[j+n+1]?.getD 0+B*u[j+n+2]?.getD 0)))/\
 (∃low,low<B^n/\valL B v=low+B^n*(v[n]?.getD 0+B*v[n+1]?.getD 0)):=by
 have hw:=zwf hB hv hj hD;constructor
 ·refine⟨valL B ((u.drop j).take n),?_,?_⟩
  ·have:=zb6 (zcu (zg5 hu j) n)
   rw[show((u.drop j).take n).length=n by simp;omega] at this;exact this
  ·have e:=zc7 B (u.drop j) n
   rw[show((u.drop j).take n).length=n by simp;omega,List.drop_drop,zdb u (j+n) B (by omega),zdb u (j+n+1) B (by omega),zdb u (j+n+1+1) B (by omega),show j+n+1+1+1=j+(v.length+1) by omega,hw] at e;simpa using e
 ·refine⟨valL B (v.take n),?_,?_⟩
  ·have:=zb6 (zcu hv n)
   rw[show(v.take n).length=n by simp;omega] at this;exact this
  ·have e:=zc7 B v n
   rw[show(v.take n).length=n by simp;omega,zdb v n B (by omega),zdb v (n+1) B (by omega),List.drop_eq_nil_of_le (by omega)] at e;simpa [valL] using e
theorem zys {B:Nat} (hB:2<=B) {u v:List Nat} (hu:zal B u) (hv:zal B v) {j n:Nat} (hn:v.length=n+2) (hj:j+v.length+1<=u.length) (hD:valL B (u.drop j)<B*valL B v) (h0:0<v[n+1]?.getD 0):
 valL B (u.drop j)/valL B v<=(u[j+n+2]?.getD 0*B+u[j+n+1]?.getD 0)/v[n+1]?.getD 0/\(u[j+n+2]?.getD 0*B+u[j+n+1]?.getD 0)/v[n+1]?.getD 0<2*B:=by
 obtain⟨⟨lu,h1,e1⟩,⟨lv,h2,e2⟩⟩:=zne hB hu hv hn hj hD;have s0:=zaj hu (by omega) (j+n);have s1:=zaj hu (by omega) (j+n+1);have s2:=zaj hv (by omega) n;generalize u[j+n]?.getD 0=x0 at*
 generalize u[j+n+1]?.getD 0=x1 at*
 generalize u[j+n+2]?.getD 0=x2 at*
 generalize v[n]?.getD 0=y0 at*
 generalize v[n+1]?.getD 0=y1 at*
 generalize valL B (u.drop j)=D at*
 generalize valL B v=V at*
 have hP:0<B^n:=Nat.pow_pos (by omega);generalize B^n=P at*
 have hle:x2<=y1:=by
  rcases Nat.lt_or_ge y1 x2 with h|h
  ·have a1:P*(B*(B*(y1+1)))<=P*(B*(B*x2)):=Nat.mul_le_mul_left _ (Nat.mul_le_mul_left _ (Nat.mul_le_mul_left _ h))
   have a2:lv+P*(y0+B*y1)+1<=P*(B*(y1+1)):=by
    have a3:P*(y0+1)<=P*B:=Nat.mul_le_mul_left _ s2;rw[Nat.mul_succ] at a3;rw[Nat.mul_add,Nat.mul_succ,Nat.mul_add];omega
   have a4:=Nat.mul_le_mul_left B a2;have a5:P*(x0+B*(x1+B*x2))=P*x0+P*(B*x1)+P*(B*(B*x2)):=by rw[Nat.mul_add B,<-Nat.add_assoc,Nat.mul_add,Nat.mul_add]
   have a6:B*(P*(B*(y1+1)))=P*(B*(B*(y1+1))):=Nat.mul_left_comm _ _ _;rw[Nat.mul_succ,<-e2,a6] at a4;omega
  ·exact h
 constructor
 ·rw[Nat.le_div_iff_mul_le h0]
  have hq:D/V*V<=D:=Nat.div_mul_le_self _ _;generalize D/V=q at*
  rcases Nat.lt_or_ge (x2*B+x1) (q*y1) with h|h
  ·have a1:P*B*(x2*B+x1+1)<=P*B*(q*y1):=Nat.mul_le_mul_left _ h
   have a2:P*B*(q*y1)<=q*V:=by
    rw[e2,Nat.mul_add q,Nat.mul_add P,Nat.mul_add q];have:P*B*(q*y1)=q*(P*(B*y1)):=by
     rw[Nat.mul_left_comm,Nat.mul_assoc]
    omega
   have a3:D<P*B*(x2*B+x1+1):=by
    have a4:P*(x0+1)<=P*B:=Nat.mul_le_mul_left _ s0;rw[Nat.mul_succ] at a4;have a5:P*(x0+B*(x1+B*x2))=P*x0+P*B*(x2*B+x1):=by
     rw[Nat.mul_add,Nat.mul_assoc,Nat.add_comm x1,yP B x2]
    rw[Nat.mul_succ];omega
   omega
  ·exact h
 ·apply Nat.div_lt_of_lt_mul
  have a1:x2*B<=y1*B:=Nat.mul_le_mul_right _ hle;have a2:1*B<=y1*B:=Nat.mul_le_mul_right _ h0;have:y1*(2*B)=y1*B+y1*B:=by rw[Nat.mul_left_comm,Nat.two_mul]
  omega
theorem z03 {B:Nat} (hB:2<=B) {u v:List Nat} (hu:zal B u) (hv:zal B v) {j n q r:Nat} (hn:v.length=n+2) (hj:j+v.length+1<=u.length) (hD:valL B (u.drop j)<B*valL B v)
 (hqr:q*v[n+1]?.getD 0+r=u[j+n+2]?.getD 0*B+u[j+n+1]?.getD 0) (h:B<=q\/r*B+u[j+n]?.getD 0<q*v[n]?.getD 0):valL B (u.drop j)/valL B v<q:=by
 have hV:0<valL B v:=by
  rcases Nat.eq_zero_or_pos (valL B v) with h|h
  ·rw[h] at hD;simp at hD
  ·exact h
 rw[Nat.div_lt_iff_lt_mul hV];rcases h with h|h
 ·exact Nat.lt_of_lt_of_le hD (Nat.mul_le_mul_right _ h)
 ·obtain⟨⟨lu,h1,e1⟩,⟨lv,h2,e2⟩⟩:=zne hB hu hv hn hj hD
  generalize u[j+n]?.getD 0=x0 at*
  generalize u[j+n+1]?.getD 0=x1 at*
  generalize u[j+n+2]?.getD 0=x2 at*
  generalize v[n]?.getD 0=y0 at*
  generalize v[n+1]?.getD 0=y1 at*
  generalize valL B (u.drop j)=D at*
  generalize valL B v=V at*
  generalize B^n=P at*
  have a1:P*(r*B+x0+1)<=P*(q*y0):=Nat.mul_le_mul_left _ h;rw[Nat.mul_succ] at a1;have a2:q*V=q*lv+P*(q*y0)+P*(B*(q*y1)):=by
   rw[e2,Nat.mul_add q,Nat.mul_add P,Nat.mul_add q,Nat.mul_left_comm q P,Nat.mul_left_comm q P,Nat.mul_left_comm q B,Nat.add_assoc]
  have a3:P*(B*(q*y1))+P*(r*B)=P*(B*(x2*B+x1)):=by
   rw[<-hqr,Nat.mul_add B,Nat.mul_add P,yP r B]
  have a4:D=lu+P*x0+P*(B*(x2*B+x1)):=by
   rw[e1,Nat.mul_add P,Nat.add_comm x1,yP B x2,Nat.add_assoc]
  rw[Nat.mul_add] at a1;omega
structure DivAt (B:Nat) (u0 v:List Nat) (m:Nat) (j:Nat) (u Q:List Nat):Prop where
 ul:u.length=u0.length
 us:zal B u
 ql:Q.length=m
 qs:zal B Q
 val:valL B u+valL B v*valL B Q=valL B u0
 high:valL B (u.drop j)<valL B v
 zero:∀i,i<j->Q[i]?.getD 0=0
theorem DivAt.below {B:Nat} (hB:2<=B) {u0 v:List Nat} {m j:Nat} {u Q:List Nat} (h:DivAt B u0 v m (j+1) u Q) (hj:j<u.length):valL B (u.drop j)<B*valL B v:=by
 have s0:=zaj h.us (by omega) j;rw[zdb u j B hj];have:=Nat.mul_le_mul_left B h.high;rw[Nat.mul_succ] at this;omega
theorem DivAt.step {B:Nat} (hB:2<=B) {u0 v:List Nat} {m j q:Nat} {u Q:List Nat} (h:DivAt B u0 v m (j+1) u Q) (hv:zal B v) (hjm:j<m) (hj:j+v.length+1<=u.length)
 (hq:valL B (u.drop j)/valL B v<=q) (hc:(zba B q v j u (v.length+1)).2=0):DivAt B u0 v m j (zba B q v j u (v.length+1)).1 (Q.set j q)/\q<B:=by
 have hD:=h.below hB (by omega);have hV:0<valL B v:=Nat.lt_of_le_of_lt (zR _) h.high;obtain⟨e1,e2⟩:=(zoz hB (q:=q) h.us hv hj hD).1 hc;obtain⟨t1,t2,t3,t4⟩:=zej hB (q:=q) hv j h.us (v.length+1) (by omega);have hqe:valL B (u.drop j)/valL B v=q:=by
  refine Nat.le_antisymm hq ?_;rw[Nat.le_div_iff_mul_le hV];omega
 have hqB:q<B:=by rw[<-hqe];exact Nat.div_lt_of_lt_mul (by rw[yP];exact hD)
 refine⟨⟨by rw[t1,h.ul],t2,by simp[h.ql],zfm h.qs _ hqB,?_,?_,λi hi=>by rw[List.getElem?_set_ne (by omega)];exact h.zero i (by omega)⟩,hqB⟩
 ·have e3:=zgc B Q j q (by rw[h.ql];exact hjm)
  rw[h.zero j (by omega),Nat.mul_zero,Nat.add_zero] at e3;rw[e3,Nat.mul_add,<-h.val,<-e2,Nat.mul_left_comm (valL B v),yP (valL B v) q];omega
 ·have:=Nat.div_add_mod (valL B (u.drop j)) (valL B v)
  have hm:=zP (valL B (u.drop j)) hV;rw[hqe,yP] at this;omega
theorem DivAt.out {B:Nat} {u0 v:List Nat} {m:Nat} {u Q:List Nat} (h:DivAt B u0 v m 0 u Q):valL B Q=valL B u0/valL B v/\valL B u=valL B u0%valL B v:=by
 have hh:=h.high;rw[List.drop_zero] at hh;have:=h.val;rw[Nat.add_comm] at this;constructor
 ·rw[<-this,Nat.mul_add_div (by omega),Nat.div_eq_of_lt hh,Nat.add_zero]
 ·rw[<-this,Nat.mul_add_mod,zQ hh]
end Go.Proofs.YtfoodcpnnmonhaaGreatDoor.Limb
namespace Go.Proofs.YtfoodcpnnmonhaaGreatDoor
open Go.RowKit Lib Str Limb
structure Only (g:Nat) (a w:zA):Prop where
 os:w.os=a.os
 tape:w.tape=a.tape
 output:w.output=a.output
 size:a.heap.size<=w.heap.size
 block:∀k,k<a.heap.size->k≠g->w.heap[k]? =a.heap[k]?
theorem Only.refl (g:Nat) (w:zA):Only g w w:=⟨rfl,rfl,rfl,zN _,λ_ _ _=>rfl⟩
theorem Only.trans {g:Nat} {a b c:zA} (h:Only g a b) (k:Only g b c):Only g a c:=
 ⟨k.os.trans h.os,k.tape.trans h.tape,k.output.trans h.output,zO h.size k.size,λi hi hne=>(k.block i (Nat.lt_of_lt_of_le hi h.size) hne).trans (h.block i hi hne)⟩
theorem Only.drewN {g:Nat} {a w:zA} (h:Only g a w) (n:Nat):Only g a (w.drewN n):=⟨h.os,h.tape,h.output,h.size,h.block⟩
theorem Only.setCell {g o:Nat} {a w:zA} (h:Only g a w) (u:Value):Only g a (w.setCell ⟨g,o,none⟩ u):=
 h.trans ⟨rfl,rfl,rfl,by simp[World.setCell],λk _ hne=>yE _ _ _ _ hne⟩
theorem Only.below {g B:Nat} {a b w:zA} (h:zB B a b) (hB:B<=a.heap.size) (hg:B<=g) (k:Only g b w):zB B a w:=
 ⟨k.os.trans h.os,k.tape.trans h.tape,k.output.trans h.output,zO h.size k.size,λi hi=>(k.block i (by have:=h.size;omega) (by omega)).trans (h.block i hi)⟩
theorem Only.row {g g' cap:Nat} {a w:zA} {l:List Nat} (h:Only g a w) (hr:Row a g' cap l) (hne:g'≠g):Row w g' cap l:=by
 obtain⟨cur,h1,h2⟩:=hr;exact⟨cur,(h.block g' (Array.getElem?_eq_some_iff.1 h1).1 hne).trans h1,h2⟩
theorem zyt (z c q y:Nat) (n:Int) (hn:n=(z:Int)-c-(q:Int)*y) (h:n<0):
 (-n+1000000000-1)/1000000000=(((c+q*y-z+(B9-1))/B9:Nat):Int)/\Value.int .i64 (n+(-n+1000000000-1)/1000000000*1000000000)=I (z+(c+q*y-z+(B9-1))/B9*B9-(c+q*y)):=by
 rw[<-Int.natCast_mul] at hn;generalize q*y=P at*
 have e:(-n+1000000000-1)/1000000000=(((c+P-z+(B9-1))/B9:Nat):Int):=by
  unfold B9;omega
 refine⟨e,?_⟩;rw[e];unfold I B9;congr 1;omega
theorem zyu (z c q y:Nat) (n:Int) (hn:n=(z:Int)-c-(q:Int)*y) (h:¬n<0):
 (c+q*y-z+(B9-1))/B9=0/\Value.int .i64 n=I (z+(c+q*y-z+(B9-1))/B9*B9-(c+q*y)):=by
 rw[<-Int.natCast_mul] at hn;generalize q*y=P at*
 have e:(c+P-z+(B9-1))/B9=0:=by
  unfold B9;omega
 refine⟨e,?_⟩;rw[e];unfold I;congr 1;omega
theorem zsp (g cap:Nat) (u v:List Nat) (vb:Value) (j q:Nat) (w:zA) (hrow:Row w g cap u) (hvb:∀W,Only g w W->Sl W vb (v.map I)) (su:zal B9 u) (sv:zal B9 v)
 (hj:j+v.length+1<=u.length) (lu:u.length<=2500) (lv:v.length<=1000) (hq:q<=2*B9):
 Calls zF 202 #[.slice (some ⟨g,0,none⟩) u.length cap,vb,I j,I q] w λe w'=>e=.returned (.slice (some ⟨g,0,none⟩) u.length cap)/\Row w' g cap (zay B9 q v j u (v.length+1)).1/\Only g w w':=by
 obtain⟨pb,cb,rfl,hcb, -⟩:=hvb w (Only.refl g w);simp only[zV] at*
 have HV:=hid hvb;clear hvb hcb;have SU:=hid su;clear su;have SV:=hid sv;clear sv;obtain⟨N,hN⟩:=zzX u.length;rw[<-hN] at hj lu⊢;have HN:=hid hN;clear hN;go_enter Tryz.func202,Tryz.ntmps202;go_wp2;go_loopw [9,15] (λc i wr=>∃k:Nat,k<=v.length+1/\i=.int .i64 k/\c=I (zay B9 q v j u k).2/\Row wr g cap (zay B9 q v j u k).1/\Only g w wr)
  (λ_ i _=>v.length+1-(zL i).toNat)
 case atStart=>exact⟨0,zR _,rfl,rfl,hrow,Only.refl _ _⟩
 case round=>
  clear hrow;obtain⟨k,hkk,rfl,rfl,hrow,hO⟩:=hrel;by_cases hlk:k<v.length+1
  ·obtain⟨r1,r2,r3, -⟩:=zks (B:=B9) (by decide) (x:=q) SV.out j SU.out k (by rw[<-HN.out];omega)
   have hys:=zaj SV.out (by decide) k;have hst:zay B9 q v j u (k+1)=((zay B9 q v j u k).1.set (j+k) (((zay B9 q v j u k).1[j+k]?.getD 0+q*v[k]?.getD 0+(zay B9 q v j u k).2)%B9),((zay B9 q v j u k).1[j+k]?.getD 0+q*v[k]?.getD 0+(zay B9 q v j u k).2)/B9):=rfl;have HST2:=hid hst;clear hst;generalize zay B9 q v j u k=r at*
   obtain⟨l,c⟩:=r;dsimp only at*
   have hlen:j+k<l.length:=by rw[r1,<-HN.out];omega
   have hcell:=hrow.cell (getD_some hlen);have hfz:=hrow.frozen (j+k);have hzs:=zaj r2 (by decide) (j+k);have hq':q<=2000000000:=hq;have hc':c<=2000000000:=zO r3 hq;have hz':l[j+k]?.getD 0<1000000000:=hzs;have hy':v[k]?.getD 0<1000000000:=hys;have hb2:j+k<N:=by omega
   have hiN:(0:Int)<=(j:Int)+k:=by omega
   have hiN2:(j:Int)+k<N:=by omega
   have hyq:=λW=>zfh (.slice pb v.length cb) v k W;have HYQ:=hid hyq;clear hyq;have HROW:=hid hrow;have HQ:=hid hq;clear r1 r2 r3 hzs hys hrow hlen hq;generalize hzz:l[j+k]?.getD 0=z at*
   have HZZ:=hid hzz;clear hzz;have hp0:(0:Int)<=(q:Int)*(v[k]?.getD 0:Nat):=by rw[<-Int.natCast_mul];omega
   have hp1:(q:Int)*(v[k]?.getD 0:Nat)<=1999999998000000000:=by
    have:=Nat.mul_le_mul hq' (show v[k]?.getD 0<=999999999 by omega);rw[<-Int.natCast_mul];omega
   generalize hyy:v[k]?.getD 0=y at*
   have HYY:=hid hyy;clear hyy;have e1:IntKind.i64.wrap ((q:Int)*y)=(q:Int)*y:=zI _ (by omega);have e2:IntKind.i64.wrap ((z:Int)+(q:Int)*y)=(z:Int)+(q:Int)*y:=zI _ (by omega);have e3:IntKind.i64.wrap ((z:Int)+(q:Int)*y+c)=(z:Int)+(q:Int)*y+c:=zI _ (by omega);have e4:IntKind.i64.wrap ((j:Int)+k)=(j:Int)+k:=zI _ (by omega);have e5:((j:Int)+k).toNat=j+k:=by omega
   have E1:=hid e1;have E2:=hid e2;have E3:=hid e3;have E4:=hid e4;have E5:=hid e5;clear e1 e2 e3 e4 e5;go_wp2;have e1:=E1.out;have e2:=E2.out;have e3:=E3.out;have e4:=E4.out;have e5:=E5.out;go_quiet ((go_at_call 203;exact Calls.quiet_of_same (zi5 (HYQ.out _ (HV.out _ (hO.drewN _)) (by omega)))));clear e1 e2 e3 e4 e5;go_wp2;go_roundw
   case rel=>
    refine⟨k+1,by omega,by go_num,?_,?_,?_⟩
    ·rw[HST2.out];simp[B9]
    ·rw[HST2.out]
     have:=Row.set (w:=wr.drewN nq) (show Row (wr.drewN nq) g cap l from HROW.out) (j+k) ((z+q*y+c)%B9);have e:I ((z+q*y+c)%B9)=.int .i64 (((z:Int)+q*y+c)%1000000000):=by simp[I,B9]
     rw[e] at this;exact this
    ·exact(hO.drewN _).setCell _
   case measure=>simp[zL];omega
  ·obtain rfl:k=v.length+1:=by omega
   have HROW:=hid hrow;clear hrow;go_wp2;go_ret;exact⟨rfl,HROW.out,hO⟩
theorem zyv (g cap:Nat) (u v:List Nat) (vb:Value) (j q:Nat) (w:zA) (hrow:Row w g cap u) (hvb:∀W,Only g w W->Sl W vb (v.map I)) (su:zal B9 u) (sv:zal B9 v)
 (hj:j+v.length+1<=u.length) (lu:u.length<=2500) (lv:v.length<=1000) (hq:q<=2*B9):
 Calls zF 201 #[.slice (some ⟨g,0,none⟩) u.length cap,vb,I j,I q] w λe w'=>e=.returned (.bool (decide (0<(zba B9 q v j u (v.length+1)).2)))/\Row w' g cap (zba B9 q v j u (v.length+1)).1/\Only g w w':=by
 obtain⟨pb,cb,rfl,hcb, -⟩:=hvb w (Only.refl g w);simp only[zV] at*
 have HV:=hid hvb;clear hvb hcb;have SU:=hid su;clear su;have SV:=hid sv;clear sv;obtain⟨N,hN⟩:=zzX u.length;rw[<-hN] at hj lu⊢;have HN:=hid hN;clear hN;go_enter Tryz.func201,Tryz.ntmps201;go_wp2;go_loopw [9,15] (λc i wr=>∃k:Nat,k<=v.length+1/\i=.int .i64 k/\c=I (zba B9 q v j u k).2/\Row wr g cap (zba B9 q v j u k).1/\Only g w wr)
  (λ_ i _=>v.length+1-(zL i).toNat)
 case atStart=>exact⟨0,zR _,rfl,rfl,hrow,Only.refl _ _⟩
 case round=>
  clear hrow;obtain⟨k,hkk,rfl,rfl,hrow,hO⟩:=hrel;by_cases hlk:k<v.length+1
  ·obtain⟨r1,r2,r3, -⟩:=zej (B:=B9) (by decide) (q:=q) SV.out j SU.out k (by rw[<-HN.out];omega)
   have hys:=zaj SV.out (by decide) k;have hst:zba B9 q v j u (k+1)=((zba B9 q v j u k).1.set (j+k) ((zba B9 q v j u k).1[j+k]?.getD 0+((zba B9 q v j u k).2+q*v[k]?.getD 0-(zba B9 q v j u k).1[j+k]?.getD 0+(B9-1))/B9*B9-((zba B9 q v j u k).2+q*v[k]?.getD 0)),((zba B9 q v j u k).2+q*v[k]?.getD 0-(zba B9 q v j u k).1[j+k]?.getD 0+(B9-1))/B9):=rfl;have HST2:=hid hst;clear hst;generalize zba B9 q v j u k=r at*
   obtain⟨l,c⟩:=r;dsimp only at*
   have hlen:j+k<l.length:=by rw[r1,<-HN.out];omega
   have hcell:=hrow.cell (getD_some hlen);have hfz:=hrow.frozen (j+k);have hzs:=zaj r2 (by decide) (j+k);have hq':q<=2000000000:=hq;have hc':c<=2000000000:=zO r3 hq;have hz':l[j+k]?.getD 0<1000000000:=hzs;have hy':v[k]?.getD 0<1000000000:=hys;have hb2:j+k<N:=by omega
   have hiN:(0:Int)<=(j:Int)+k:=by omega
   have hiN2:(j:Int)+k<N:=by omega
   have hyq:=λW=>zfh (.slice pb v.length cb) v k W;have HYQ:=hid hyq;clear hyq;have HROW:=hid hrow;have HQ:=hid hq;clear r1 r2 r3 hzs hys hrow hlen hq;generalize hzz:l[j+k]?.getD 0=z at*
   have HZZ:=hid hzz;clear hzz;have hp0:(0:Int)<=(q:Int)*(v[k]?.getD 0:Nat):=by rw[<-Int.natCast_mul];omega
   have hp1:(q:Int)*(v[k]?.getD 0:Nat)<=1999999998000000000:=by
    have:=Nat.mul_le_mul hq' (show v[k]?.getD 0<=999999999 by omega);rw[<-Int.natCast_mul];omega
   generalize hyy:v[k]?.getD 0=y at*
   have HYY:=hid hyy;clear hyy;have e1:IntKind.i64.wrap ((q:Int)*y)=(q:Int)*y:=zI _ (by omega);have e2:IntKind.i64.wrap ((z:Int)-c)=(z:Int)-c:=zI _ (by omega);have e3:IntKind.i64.wrap ((z:Int)-c-(q:Int)*y)=(z:Int)-c-(q:Int)*y:=zI _ (by omega);have e4:IntKind.i64.wrap ((j:Int)+k)=(j:Int)+k:=zI _ (by omega);have e5:((j:Int)+k).toNat=j+k:=by omega
   have E1:=hid e1;have E2:=hid e2;have E3:=hid e3;have E4:=hid e4;have E5:=hid e5;clear e1 e2 e3 e4 e5;go_wp2;have e1:=E1.out;have e2:=E2.out;have e3:=E3.out;have e4:=E4.out;have e5:=E5.out;go_quiet ((go_at_call 203;exact Calls.quiet_of_same (zi5 (HYQ.out _ (HV.out _ (hO.drewN _)) (by omega)))));clear e1 e2 e3 e4 e5 E1 E2 E3;obtain⟨n,hn⟩:=zzX ((z:Int)-c-(q:Int)*y:Int);rw[<-hn];have hn1:n<1000000000:=by omega
   have hn2: -3000000000000000000<n:=by omega
   have HN4:=hid hn;clear hn hp0 hp1;have e4:=E4.out;have e5:=E5.out;by_cases hneg:n<0
   ·go_wp2
    go_roundw
    case rel=>
     obtain⟨f1,f2⟩:=zyt z c q y n HN4.out hneg;refine⟨k+1,by omega,by go_num,?_,?_,?_⟩
     ·rw[HST2.out,f1]
     ·rw[HST2.out,f2]
      exact Row.set (w:=wr.drewN nq) (show Row (wr.drewN nq) g cap l from HROW.out) (j+k) (z+(c+q*y-z+(B9-1))/B9*B9-(c+q*y))
     ·exact(hO.drewN _).setCell _
    case measure=>simp[zL];omega
   ·go_wp2
    go_roundw
    case rel=>
     obtain⟨f1,f2⟩:=zyu z c q y n HN4.out hneg;refine⟨k+1,by omega,by go_num,?_,?_,?_⟩
     ·rw[HST2.out,f1];rfl
     ·rw[HST2.out,f2]
      exact Row.set (w:=wr.drewN nq) (show Row (wr.drewN nq) g cap l from HROW.out) (j+k) (z+(c+q*y-z+(B9-1))/B9*B9-(c+q*y))
     ·exact(hO.drewN _).setCell _
    case measure=>simp[zL];omega
  ·obtain rfl:k=v.length+1:=by omega
   have HROW:=hid hrow;clear hrow;go_wp2;go_ret;exact⟨by simp,HROW.out,hO⟩
theorem zup {P:Program} {ops:Array Oper} {C:zA->Prop} {Q:Act->Prop} {a:Act} {o:Oper} {rest:List Oper} {v:Value} (hw:Region.wanted o (yielded ops a.tmps)=true)
 (hy:∀w,C w->(execOp a.eval o).run P w=.ok (.value v) w) (h:wpQuiet P ops C Q rest (a.put o.dst v)):wpQuiet P ops C Q (o::rest) a:=by
 simp only[wpQuiet,hw,if_true];exact⟨v,λw hC=>by unfold Oper.quietAt;rw[hy w hC];exact⟨rfl,rfl⟩,h⟩
theorem zuq {P:Program} {ops:Array Oper} {C:zA->Prop} {Q:Act->Prop} {a:Act} {o:Oper} {rest:List Oper} (hw:Region.wanted o (yielded ops a.tmps)=false)
 (h:wpQuiet P ops C Q rest (a.put o.dst undef)):wpQuiet P ops C Q (o::rest) a:=by
 simp only[wpQuiet,hw,Bool.false_eq_true,if_false];exact h
structure WQ (P:Program) (ops:Array Oper) (C:zA->Prop) (Q:Act->Prop) (l:List Oper) (a:Act):Prop where
 out:wpQuiet P ops C Q l a
theorem WQ.read {P:Program} {ops:Array Oper} {C:zA->Prop} {Q:Act->Prop} {a:Act} {o:Oper} {rest:List Oper} {v:Value} (hw:Region.wanted o (yielded ops a.tmps)=true)
 (hy:∀w,C w->(execOp a.eval o).run P w=.ok (.value v) w) (h:WQ P ops C Q rest (a.put o.dst v)):WQ P ops C Q (o::rest) a:=⟨zup hw hy h.out⟩
theorem WQ.skip {P:Program} {ops:Array Oper} {C:zA->Prop} {Q:Act->Prop} {a:Act} {o:Oper} {rest:List Oper} (hw:Region.wanted o (yielded ops a.tmps)=false)
 (h:WQ P ops C Q rest (a.put o.dst undef)):WQ P ops C Q (o::rest) a:=⟨zuq hw h.out⟩
theorem WQ.nil {P:Program} {ops:Array Oper} {C:zA->Prop} {Q:Act->Prop} {a:Act} (h:Q a):WQ P ops C Q [] a:=⟨wpQuiet_nil h⟩
theorem z04 (x1 x2:Nat) (t1:x1<1000000000) (t2:x2<1000000000):
 IntKind.i64.wrap ((x2:Int)*1000000000)=(x2:Int)*1000000000/\IntKind.i64.wrap ((x2:Int)*1000000000+x1)=(x2:Int)*1000000000+x1/\(0:Int)<=(x2:Int)*1000000000+x1:=
 ⟨zI _ (by omega),zI _ (by omega),by omega⟩
theorem zyw (x1 x2 y1:Nat) (t1:x1<1000000000) (t2:x2<1000000000) (t4:y1<1000000000) (h0:0<y1) (i2:(x2*1000000000+x1)/y1<2*1000000000):
 IntKind.i64.wrap (((x2:Int)*1000000000+x1).tdiv (y1:Int))=(((x2*1000000000+x1)/y1:Nat):Int)/\
 IntKind.i64.wrap (((x2:Int)*1000000000+x1).tmod (y1:Int))=(((x2*1000000000+x1)%y1:Nat):Int):=by
 have nn:(0:Int)<=(x2:Int)*1000000000+x1:=by omega
 have e:(x2:Int)*1000000000+x1=((x2*1000000000+x1:Nat):Int):=by omega
 have hm:(x2*1000000000+x1)%y1<y1:=zP _ h0;constructor
 ·rw[Int.tdiv_eq_ediv_of_nonneg nn,e,<-Int.natCast_ediv]
  generalize (x2*1000000000+x1)/y1=Y at*
  clear e nn hm;exact zI _ (by omega)
 ·rw[Int.tmod_eq_emod_of_nonneg nn,e,<-Int.natCast_emod]
  generalize (x2*1000000000+x1)%y1=Y at*
  clear e nn i2;exact zI _ (by omega)
theorem zuf (q y0:Nat) (h:q<2000000000) (t:y0<1000000000):IntKind.i64.wrap ((q:Int)*(y0:Int))=(q:Int)*y0:=by
 have hm:q*y0<=2000000000*999999999:=Nat.mul_le_mul (by omega) (by omega);rw[<-Int.natCast_mul];generalize q*y0=Y at*
 exact zI _ (by omega)
theorem z2q (r x0 y1:Nat) (h:r<1000000000) (t:x0<1000000000) (t':y1<1000000000):IntKind.i64.wrap ((r:Int)*1000000000)=(r:Int)*1000000000/\IntKind.i64.wrap ((r:Int)*1000000000+x0)=(r:Int)*1000000000+x0/\IntKind.i64.wrap ((r:Int)+y1)=(r:Int)+y1:=
 ⟨zI _ (by omega),zI _ (by omega),zI _ (by omega)⟩
theorem z2r (q:Nat) (h:q<2000000000):IntKind.i64.wrap ((q:Int)-1)=(q:Int)-1:=zI _ (by omega)
theorem z3b (q y0 r x0:Nat) (h:¬r*1000000000+x0<q*y0):¬(r:Int)*1000000000+x0<(q:Int)*y0:=by rw[<-Int.natCast_mul];omega
theorem z2s (q y0 r x0:Nat) (h:r*1000000000+x0<q*y0):(r:Int)*1000000000+x0<(q:Int)*y0:=by rw[<-Int.natCast_mul];omega
theorem z3c (q:Nat) (h:q<1000000000):decide ((1000000000:Int)<=(q:Int))=false:=by simp;omega
theorem z2t (q:Nat) (h:1000000000<=q):decide ((1000000000:Int)<=(q:Int))=true:=by simp;omega
theorem z3d (r:Nat) (h:r<1000000000):decide ((r:Int)<1000000000)=true:=by simp;omega
theorem z0t (r y1:Nat) (h:r+y1<1000000000):decide ((1000000000:Int)<=(r:Int)+y1)=false:=by simp;omega
theorem zwg (r y1:Nat) (h:¬r+y1<1000000000):decide ((1000000000:Int)<=(r:Int)+y1)=true:=by simp;omega
theorem zao {B:Nat} {a w:zA} (h:zB B a w) (n:Nat):zB B a (w.drewN n):=h.trans ⟨rfl,rfl,rfl,zN _,λ_ _=>rfl⟩
theorem z0u (r y1 q x:Nat) (h:q*y1+r=x) (h1:1<=q):(q-1)*y1+(r+y1)=x:=by
 obtain⟨p,rfl⟩:∃p,q=p+1:=⟨q-1,by omega⟩;rw[Nat.add_mul] at h;simp;omega
theorem zqy (g cap gv capv:Nat) (u v:List Nat) (j n:Nat) (w:zA) (hru:Row w g cap u) (hrv:Row w gv capv v) (su:zal B9 u) (sv:zal B9 v) (hn:v.length=n+2)
 (hj:j+v.length+1<=u.length) (lu:u.length<=2500) (lv:v.length<=1000) (hD:valL B9 (u.drop j)<B9*valL B9 v) (h0:0<v[n+1]?.getD 0):
 Calls zF 200 #[.slice (some ⟨g,0,none⟩) u.length cap,.slice (some ⟨gv,0,none⟩) v.length capv,I j] w λe w'=>
  ∃q:Nat,e=.returned (I q)/\valL B9 (u.drop j)/valL B9 v<=q/\q<=2*B9/\zB w.heap.size w w':=by
 obtain⟨i1,i2⟩:=zys (B:=B9) (by decide) su sv hn hj hD h0;have hdec:=λq r h1 h2=>z03 (B:=B9) (q:=q) (r:=r) (by decide) su sv hn hj hD h1 h2;have HDEC:=hid hdec;clear hdec hD;have s0:=zaj su (by decide) (j+n);have s1:=zaj su (by decide) (j+n+1);have s2:=zaj su (by decide) (j+n+2);have s3:=zaj sv (by decide) n;have s4:=zaj sv (by decide) (n+1);have c0:=hru.cell (getD_some (show j+n<u.length by omega));have c1:=hru.cell (getD_some (show j+n+1<u.length by omega));have c2:=hru.cell (getD_some (show j+n+2<u.length by omega));have c3:=hrv.cell (getD_some (show n<v.length by omega));have c4:=hrv.cell (getD_some (show n+1<v.length by omega));generalize valL B9 (u.drop j)/valL B9 v=qT at*
 generalize u[j+n]?.getD 0=x0 at*
 generalize u[j+n+1]?.getD 0=x1 at*
 generalize u[j+n+2]?.getD 0=x2 at*
 generalize v[n]?.getD 0=y0 at*
 generalize v[n+1]?.getD 0=y1 at*
 clear hru hrv su sv;generalize u.length=m at*
 generalize v.length=k at*
 have t0:x0<1000000000:=s0;have t1:x1<1000000000:=s1;have t2:x2<1000000000:=s2;have t3:y0<1000000000:=s3;have t4:y1<1000000000:=s4;have hB9:B9=1000000000:=rfl;rw[hB9] at i1 i2 HDEC⊢;clear s0 s1 s2 s3 s4 hB9;have w1:IntKind.i64.wrap ((j:Int)+(k:Int))=(j:Int)+k:=zI _ (by omega);have w2:IntKind.i64.wrap ((j:Int)+(k:Int)-1)=(j:Int)+k-1:=zI _ (by omega);have w3:IntKind.i64.wrap ((j:Int)+(k:Int)-2)=(j:Int)+k-2:=zI _ (by omega);have w4:IntKind.i64.wrap ((k:Int)-1)=(k:Int)-1:=zI _ (by omega);have w5:IntKind.i64.wrap ((k:Int)-2)=(k:Int)-2:=zI _ (by omega);have n1:((j:Int)+(k:Int)).toNat=j+n+2:=by omega
 have n2:((j:Int)+(k:Int)-1).toNat=j+n+1:=by omega
 have n3:((j:Int)+(k:Int)-2).toNat=j+n:=by omega
 have n4:((k:Int)-1).toNat=n+1:=by omega
 have n5:((k:Int)-2).toNat=n:=by omega
 have l1:(0:Int)<=(j:Int)+k/\(j:Int)+k<m:=by omega
 have l2:(0:Int)<=(j:Int)+k-1/\(j:Int)+k-1<m:=by omega
 have l3:(0:Int)<=(j:Int)+k-2/\(j:Int)+k-2<m:=by omega
 have l4:(0:Int)<=(k:Int)-1/\(k:Int)-1<k:=by omega
 have l5:(0:Int)<=(k:Int)-2/\(k:Int)-2<k:=by omega
 obtain⟨l1a,l1b⟩:=l1;obtain⟨l2a,l2b⟩:=l2;obtain⟨l3a,l3b⟩:=l3;obtain⟨l4a,l4b⟩:=l4;obtain⟨l5a,l5b⟩:=l5;have l2c:(1:Int)<=(j:Int)+k:=by omega
 have l3c:(2:Int)<=(j:Int)+k:=by omega
 have l4c:(1:Int)<=(k:Int):=by omega
 have l5c:(2:Int)<=(k:Int):=by omega
 have hy0:¬y1=0:=by omega
 obtain⟨b1,b2,nn⟩:=z04 x1 x2 t1 t2;obtain⟨b3,b4⟩:=zyw x1 x2 y1 t1 t2 t4 h0 i2;have HNK:=hid hn;clear hn;go_enter Tryz.func200,Tryz.ntmps200;go_wp2
 (refine wp_region_quiet_lit (by kernel_rfl) (by kernel_rfl) (WQ.out ?_)
  repeat(first|(apply WQ.read (by rfl);(focus(rintro W ⟨n,rfl⟩;go_simp;try with_reducible rfl));try simp only[zzQ]))
  refine WQ.nil ?_;rintro _ ⟨nq,rfl⟩)
 go_wp2
 (refine wp_region_quiet_lit (by kernel_rfl) (by kernel_rfl) (WQ.out ?_)
  repeat(first|(apply WQ.read (by rfl);(focus(rintro W ⟨n,rfl⟩;go_simp;try with_reducible rfl));try simp only[zzQ]))
  refine WQ.nil ?_;rintro _ ⟨nq2,rfl⟩)
 go_wp2;have v1:Value.int .i64 (((x2:Int)*1000000000+x1)/(y1:Int))=I ((x2*1000000000+x1)/y1):=by simp[I]
 have v2:Value.int .i64 (((x2:Int)*1000000000+x1).tmod (y1:Int))=I ((x2*1000000000+x1)%y1):=by rw[Int.tmod_eq_emod_of_nonneg nn];simp[I]
 rw[v1,v2];have hqr:(x2*1000000000+x1)/y1*y1+(x2*1000000000+x1)%y1=x2*1000000000+x1:=by rw[yP];exact Nat.div_add_mod _ _
 have hrl:(x2*1000000000+x1)%y1<1000000000:=Nat.lt_trans (zP _ h0) t4;clear v1 v2 b1 b2 b3 b4 nn;generalize (x2*1000000000+x1)/y1=q0 at*
 generalize (x2*1000000000+x1)%y1=r0 at*
 go_loopw [9,10] (λa b wr=>∃q r:Nat,a=I q/\b=I r/\qT<=q/\q<2000000000/\r<1000000000/\q*y1+r=x2*1000000000+x1/\∃nd,wr=w.drewN nd)
  (λa _ _=>(zL a).toNat)
 case atStart=>exact⟨q0,r0,rfl,rfl,i1,i2,hrl,hqr,_,World.drewN_drewN _ _ _⟩
 case round=>
  obtain⟨q,r,rfl,rfl,hq1,hq2,hr,hqr2,nd,rfl⟩:=hrel;have f1:=zuf q y0 hq2 t3;obtain⟨f2,f3,f4⟩:=z2q r x0 y1 hr t0 t4;have f5:=z2r q hq2;have HQR:=hid hqr2;clear hqr2 hqr;have HQ0:=hid i1;clear i1 i2 hrl;by_cases hA:1000000000<=q
  ·have hlt:=HDEC.out q r HQR.out (.inl hA)
   have k1:=z2t q hA;have q1':1<=q:=by omega
   have HLT:=hid hlt;clear hlt hA;go_wp2
   (refine wp_region_quiet_lit (by kernel_rfl) (by kernel_rfl) (WQ.out ?_)
    repeat(first|(apply WQ.read (by rfl);(focus(rintro W ⟨n,rfl⟩;go_simp;try with_reducible rfl));try simp only[zzQ])|(apply WQ.skip (by rfl);try simp only[zzQ]))
    refine WQ.nil ?_;rintro _ ⟨nq3,rfl⟩)
   clear k1;have f6:=z0u r y1 q _ HQR.out q1';have HF6:=hid f6;clear f6;go_wp2
   (refine wp_region_quiet_lit (by kernel_rfl) (by kernel_rfl) (WQ.out ?_)
    repeat(first|(apply WQ.read (by rfl);(focus(rintro W ⟨n,rfl⟩;go_simp;try with_reducible rfl));try simp only[zzQ])|(apply WQ.skip (by rfl);try simp only[zzQ]))
    refine WQ.nil ?_;rintro _ ⟨nq4,rfl⟩)
   clear f1 f2 f3;by_cases hR:r+y1<1000000000
   ·have kR:=z0t r y1 hR
    have HR:=hid hR;clear hR;go_wp2;go_roundw
    case rel=>exact⟨q-1,r+y1,by show Value.int .i64 _=Value.int .i64 _;congr 1;omega,by simp[I],by have:=HLT.out;omega,by omega,HR.out,HF6.out,_,by first|exact World.drewN_drewN _ _ _|rfl⟩
    case measure=>simp[zL];omega
   ·have kR:=zwg r y1 hR
    clear hR;go_wp2;go_ret;refine⟨q-1,?_,by have:=HLT.out;omega,by omega,?_⟩
    ·show Ending.returned (Value.int .i64 _)=Ending.returned (Value.int .i64 _);congr 2;omega
    ·exact zao (zM _ _) _
  ·have g1:q<1000000000:=by omega
   have k1:=z3c q g1;have k2:=z3d r hr;by_cases hB:r*1000000000+x0<q*y0
   ·have hlt:=HDEC.out q r HQR.out (.inr hB)
    have k3:decide ((r:Int)*1000000000+x0<(q:Int)*y0)=true:=decide_eq_true (z2s q y0 r x0 hB);have q1':1<=q:=by omega
    have HLT:=hid hlt;clear hlt hA hB;go_wp2
    (refine wp_region_quiet_lit (by kernel_rfl) (by kernel_rfl) (WQ.out ?_)
     repeat(first|(apply WQ.read (by rfl);(focus(rintro W ⟨n,rfl⟩;go_simp;try with_reducible rfl));try simp only[zzQ])|(apply WQ.skip (by rfl);try simp only[zzQ]))
     refine WQ.nil ?_;rintro _ ⟨nq3,rfl⟩)
    clear k1 k2 k3;have f6:=z0u r y1 q _ HQR.out q1';have HF6:=hid f6;clear f6;go_wp2
    (refine wp_region_quiet_lit (by kernel_rfl) (by kernel_rfl) (WQ.out ?_)
     repeat(first|(apply WQ.read (by rfl);(focus(rintro W ⟨n,rfl⟩;go_simp;try with_reducible rfl));try simp only[zzQ])|(apply WQ.skip (by rfl);try simp only[zzQ]))
     refine WQ.nil ?_;rintro _ ⟨nq4,rfl⟩)
    clear f1 f2 f3;by_cases hR:r+y1<1000000000
    ·have kR:=z0t r y1 hR
     have HR:=hid hR;clear hR;go_wp2;go_roundw
     case rel=>exact⟨q-1,r+y1,by show Value.int .i64 _=Value.int .i64 _;congr 1;omega,by simp[I],by have:=HLT.out;omega,by omega,HR.out,HF6.out,_,by first|exact World.drewN_drewN _ _ _|rfl⟩
     case measure=>simp[zL];omega
    ·have kR:=zwg r y1 hR
     clear hR;go_wp2;go_ret;refine⟨q-1,?_,by have:=HLT.out;omega,by omega,?_⟩
     ·show Ending.returned (Value.int .i64 _)=Ending.returned (Value.int .i64 _);congr 2;omega
     ·exact zao (zM _ _) _
   ·have k3:decide ((r:Int)*1000000000+x0<(q:Int)*y0)=false:=decide_eq_false (z3b q y0 r x0 hB)
    clear hA hB;go_wp2
    (refine wp_region_quiet_lit (by kernel_rfl) (by kernel_rfl) (WQ.out ?_)
     repeat(first|(apply WQ.read (by rfl);(focus(rintro W ⟨n,rfl⟩;go_simp;try with_reducible rfl));try simp only[zzQ])|(apply WQ.skip (by rfl);try simp only[zzQ]))
     refine WQ.nil ?_;rintro _ ⟨nq3,rfl⟩)
    go_wp2;go_ret;exact⟨q,rfl,hq1,by omega,zao (zao (zM _ _) _) _⟩
end Go.Proofs.YtfoodcpnnmonhaaGreatDoor
namespace Go.Proofs.YtfoodcpnnmonhaaGreatDoor
open Go.RowKit Go.Shelf
attribute [local go_sem] Oper.semAt_some
def IterC (F:Fence) (n:Nat) (P:Program) (gf:Nat) (lb:Array Value) (Rd:zA->Prop) (R:Nat->Array Value->Prop) (len:Nat):Prop:=
 ∀(l:Nat) (J:Nat->zA->Prop) (Jx:zA->Prop) (W:zA),(∀k W1,J k W1->Rd W1)->(∀k W1 W2,J k W1->qL W1 W2->J k W2)->
  (∀k args W1,J k W1->k<len->R k args->YieldAt F (n-1) P l args W1 λe W'=>(e=.returned (.bool true)/\J (k+1) W')\/(e=.returned (.bool false)/\Jx W'))->
  J 0 W->CallsIn F n P gf (#[.func (.yield l) #[] #[]]++lb) W λe W'=>(∃v,e=.returned v)/\(J len W'\/Jx W')
def zja (B:Nat) (I:Nat->zA->Prop) (Ix:Code->Nat->zA->Prop) (k:Nat) (W:zA):Exit->Act->zA->Prop
 | .normal,_,W'=>KeepsFrom B W W'/\I (k+1) W'
 | .ret,_,W'=>KeepsFrom B W W'/\Ix .ret k W'
 | .exit id,_,W'=>KeepsFrom B W W'/\Ix (.exit id) k W'
 | .goto t,_,W'=>KeepsFrom B W W'/\Ix (.goto t) k W'
 | .panic _,_,_=>False
 | .outgrown,_,_=>False
theorem zcw {W:zA} {l:Nat} {o:Obj} (o':Obj) (h:W.heap[l]? =some o) (hc:o.isCells=false):CellsKept W (W.putObj l o'):=
 zen (grownBy_putObj' W l o') (λr e=>by cases e;exact⟨o,h,hc⟩)
theorem zcx {B:Nat} {W:zA} {l:Nat} {o:Obj} (o':Obj) (h:W.heap[l]? =some o) (hB:B<=l):zB B W (W.putObj l o'):=
 (zM B W).grown (grownBy_putObj' W l o') (by have:=(Array.getElem?_eq_some_iff.1 h).1;omega) (λk e=>by cases e;omega)
theorem zac {W W':zA} (h:qL W W'):CellsKept W W':=λk cs t fz hk=>by
 rw[h.block k (Array.getElem?_eq_some_iff.1 hk).1];exact hk
theorem zqz {F:Fence} {n:Nat} {P:Program} {g:Operand} {ps:Array Tmp} {assign body:Code} {Q:Exit->Act->zA->Prop} {a:Act} {w:zA}
 (hro:F.round=none) (h1:1<=n) {gf:Nat} {lb:Array Value} (hg:a.eval g=.func (.func gf) #[] lb) (hFg:F.fn gf) (eg:∀args w,(callFunc gf args).run P w=.ok (.enter gf args) w)
 {Rd:zA->Prop} {R:Nat->Array Value->Prop} {len:Nat} (hseq:IterC F (n-1) P gf lb Rd R len) (hps:∀k args,R k args->args.size=ps.size)
 {B:Nat} (hB:B<=w.heap.size) (I:Nat->zA->Prop) (Ix:Code->Nat->zA->Prop) (hI:∀k W W',I k W->CellsKept W W'->zB B W W'->I k W') (hIx:∀c k W W',Ix c k W->CellsKept W W'->zB B W W'->Ix c k W')
 (hRd:∀k W,I k W->Rd W) (h0:I 0 w) (a₁:Nat->Array Value->Act)
 (hassign:∀(l k:Nat) (args:Array Value) (W:zA) (K:Act->zA->Prop),R k args->K (a₁ k args) W->
   assign.wpIn (F.inRound l) (n-1-1) P (Exit.then K (λ_ _ _=>False)) {tmps:=(ps.zip args).foldl (λt (p,v)=>t.setIfInBounds p v) a.tmps,defers:=[]} W)
 (hbody:∀(l k:Nat) (args:Array Value) (W:zA),w.heap.size<=l->(∃r,W.heap[l]? =some (.loop r))->I k W->k<len->R k args->body.wpIn (F.inRound l) (n-1-1) P (zja w.heap.size I Ix k W) (a₁ k args) W)
 (hdone:∀(D:Nat) (W:zA),w.heap.size<=D->I len W->W.heap[D]? =some (.deferred (some []))->Q .normal {a with defers:={target:=.collected D,args:= #[]}::a.defers} W)
 (hstop:∀(D:Nat) (c:Code) (k:Nat) (W:zA),w.heap.size<=D->Ix c k W->W.heap[D]? =some (.deferred (some []))->c.wpIn F n P Q {a with defers:={target:=.collected D,args:= #[]}::a.defers} W):
 (Code.rangeFunc g ps assign body).wpIn F n P Q a w:=by
 refine wpIn_rangeFunc λfn hfn=>?_;rw[hro];obtain⟨z,hz⟩:=zzX w.heap.size;let rec':LoopState->Option Code->Obj:=λst pe=>.loop {state:=st,pending:=pe,fn,tmps:=a.tmps,params:=ps,assign,body,defers:=z};have hnc:∀st pe,(rec' st pe).isCells=false:=λ_ _=>rfl;have hbk:∀st,((w.alloc (.deferred (some []))).alloc (rec' st none)).heap[z+1]? =some (rec' st none)/\((w.alloc (.deferred (some []))).alloc (rec' st none)).heap[z]? =some (.deferred (some [])):=λst=>by
  subst hz;refine⟨?_,?_⟩
  ·have:=zG (w.alloc (.deferred (some []))) (rec' st none);rwa [zH] at this
  ·exact(Below.heap_alloc _ _ _ (by simp)).trans (zG w _)
 have hstart:qL w ((w.alloc (.deferred (some []))).alloc (rec' .ready none)):=((zM _ w).alloc (zN _) _).alloc (by simp) _;let bk:LoopState->Option Code->zA->Prop:=λst pe W=>W.heap[z+1]? =some (rec' st pe)/\W.heap[z]? =some (.deferred (some []));have hturn:∀st pe st' pe' W,bk st pe W->bk st' pe' (W.putObj (z+1) (rec' st' pe')):=λst pe st' pe' W h=>
  ⟨World.putObj_heap_same (Array.getElem?_eq_some_iff.1 h.1).1,(World.putObj_heap_other (by omega)).trans h.2⟩
 refine⟨z+1,[{target:=.collected z,args:= #[]}],(w.alloc (.deferred (some []))).alloc (rec' .ready none),{target:=.fn (.func gf) lb,args:= #[.func (.yield (z+1)) #[] #[]]},(w.alloc (.deferred (some []))).alloc (rec' .ready none),gf,
  #[.func (.yield (z+1)) #[] #[]]++lb,(w.alloc (.deferred (some []))).alloc (rec' .ready none),?_,?_,?_,?_,λ_=>h1,?_⟩
 ·subst hz;exact run_enterLoop_outer _ _ _ _ _
 ·simp only[resolve,hg]
  simp[go_sem]
 ·intro f' hf';simp[Target.leads] at hf';subst hf';exact hFg
 ·simp[invoke,go_sem,eg]
 refine(hseq (z+1) (λk W=>I k W/\bk .ready none W) (λW=>∃c k,Ix c k W/\bk .done (some c) W) _ (λk W1 h=>hRd k W1 h.1) (λk W1 W2 h hb=>?_) ?_ ?_).mono ?_
 ·exact⟨hI k W1 W2 h.1 (zac hb) (hb.mono (by have:=(Array.getElem?_eq_some_iff.1 h.2.2).1;omega)),
   (hb.block _ (Array.getElem?_eq_some_iff.1 h.2.1).1).trans h.2.1,(hb.block _ (Array.getElem?_eq_some_iff.1 h.2.2).1).trans h.2.2⟩
 ·rintro k args W ⟨hi,hbW⟩ hk hR
  have hy:=run_yield (P:=P) (args:=args) hbW.1 (hps k args hR);refine⟨fn,_,assign,body,hy,roundIn_of_wpIn hfn (hassign _ k args W _ hR ?_)⟩;refine⟨_,run_beginRound hbW.1 rfl,?_⟩;have hb2:bk .busy none (W.putObj (z+1) (rec' .busy none)):=hturn _ _ _ _ _ hbW;have hi2:=hI k _ _ hi (zcw (rec' .busy none) hbW.1 rfl) (zcx (B:=B) (rec' .busy none) hbW.1 (by omega));refine wpIn_mono (hbody _ k args _ (by omega) ⟨_,hb2.1⟩ hi2 hk hR) ?_;have fin:∀(jump:Option Code) (W3:zA),KeepsFrom w.heap.size (W.putObj (z+1) (rec' .busy none)) W3->
   (Instr.endRound (z+1) jump).run P W3=.ok (.bool jump.isNone) (W3.putObj (z+1) (rec' (if jump.isNone then .ready else .done) jump))/\
   CellsKept W3 (W3.putObj (z+1) (rec' (if jump.isNone then .ready else .done) jump))/\zB B W3 (W3.putObj (z+1) (rec' (if jump.isNone then .ready else .done) jump))/\
   bk (if jump.isNone then .ready else .done) jump (W3.putObj (z+1) (rec' (if jump.isNone then .ready else .done) jump)):=λjump W3 hk3=>by
   have hb3:bk .busy none W3:=⟨hk3.same _ _ (by omega) hb2.1 rfl,hk3.same _ _ (by omega) hb2.2 rfl⟩;exact⟨run_endRound jump hb3.1,zcw _ hb3.1 rfl,zcx _ hb3.1 (by omega),hturn _ _ _ _ _ hb3⟩
  rintro e a3 W3 hp
  cases e with
  |normal=>
   obtain⟨hk3,hi3⟩:=hp;obtain⟨hr,hc,hbl,hb4⟩:=fin none W3 hk3;exact⟨_,_,hr,.inl ⟨rfl,hI _ _ _ hi3 hc hbl,hb4⟩⟩
  |ret=>
   obtain⟨hk3,hi3⟩:=hp;obtain⟨hr,hc,hbl,hb4⟩:=fin (some .ret) W3 hk3;exact⟨_,_,hr,.inr ⟨rfl,_,_,hIx _ _ _ _ hi3 hc hbl,hb4⟩⟩
  |exit id=>
   obtain⟨hk3,hi3⟩:=hp;obtain⟨hr,hc,hbl,hb4⟩:=fin (some (.exit id)) W3 hk3;exact⟨_,_,hr,.inr ⟨rfl,_,_,hIx _ _ _ _ hi3 hc hbl,hb4⟩⟩
  |goto t=>
   obtain⟨hk3,hi3⟩:=hp;obtain⟨hr,hc,hbl,hb4⟩:=fin (some (.goto t)) W3 hk3;exact⟨_,_,hr,.inr ⟨rfl,_,_,hIx _ _ _ _ hi3 hc hbl,hb4⟩⟩
  |panic ch=>exact hp.elim
  |outgrown=>exact hp.elim
 ·exact⟨hI 0 _ _ h0 (zac hstart) (hstart.mono hB),hbk .ready⟩
 ·rintro e W2 ⟨⟨v,rfl⟩,(⟨hi,hb4⟩|⟨c,k,hi,hb4⟩)⟩
  ·exact⟨none,_,run_endLoop hb4.1 (by simp),hdone z _ (by omega) (hI _ _ _ hi (zcw _ hb4.1 rfl) (zcx _ hb4.1 (by omega))) ((World.putObj_heap_other (by omega)).trans hb4.2)⟩
  ·exact⟨some c,_,run_endLoop hb4.1 (by simp),hstop z c k _ (by omega) (hIx _ _ _ _ hi (zcw _ hb4.1 rfl) (zcx _ hb4.1 (by omega))) ((World.putObj_heap_other (by omega)).trans hb4.2)⟩
theorem z05 (Bs len cap:Nat) (p:Option Addr) (V:Nat->Int->Prop) (Rd:zA->Prop) (hlen:len<=3000)
 (hRd:∀W,Rd W->W.cell? ⟨Bs,0,none⟩=some (.slice p len cap)/\∀i,i<len->∃b off x,p=some ⟨b,off,none⟩/\V i x/\W.cell? ⟨b,off+i,none⟩=some (.int .i64 x)):
 IterC Fence.wide 2 zF 259 #[.pointer (some ⟨Bs,0,none⟩)] Rd (λk args=>∃x,args= #[.int .i64 ((len-1-k:Nat):Int),.int .i64 x]/\V (len-1-k) x) len:=by
 intro l J Jx W hJr _ hY h0;refine callsIn_of_wp Tryz.func259 rfl trivial ?_ rfl;simp only[Tryz.ntmps259,zZ,yA,List.length_nil,Nat.reduceAdd,Nat.reduceSub,Array.replicate_succ,Array.replicate_zero,List.push_toArray,List.append_toArray,yI,yM];have hb:=(hRd W (hJr 0 W h0)).1;have HRd:=Lib.hid hRd;clear hRd;have HY:=Lib.hid hY;clear hY;have HJR:=Lib.hid hJr;clear hJr;gi_wp2;gi_loopw [3] (λi wr=>∃(k:Nat),k<=len/\i=.int .i64 ((len:Int)-1-k)/\Hid (J k wr))
  (λi _=>(zL i+1).toNat)
 case atStart=>exact⟨0,zR _,by simp,h0⟩
 case round=>
  clear hb;obtain⟨k,hk,rfl,hJ⟩:=hrel;by_cases hlt:k<len
  ·obtain⟨hbox,hcs⟩:=HRd.out wr (HJR.out k wr hJ.out)
   obtain⟨b,off,x,rfl,hV,hcell⟩:=hcs (len-1-k) (by omega);obtain⟨fn,tmps,assign,body,hy,hR⟩:=HY.out k _ wr hJ.out hlt ⟨x,rfl,hV⟩;clear hcs hV;have hi2:(((len-1-k:Nat):Int))=(len:Int)-1-k:=by omega
   rw[hi2] at hy;clear hi2;gi_wp2;refine hR.mono ?_;rintro e W3 (⟨rfl,hJ3⟩|⟨rfl,hJx3⟩)
   ·have HJ3:=Lib.hid hJ3;clear hJ3
    gi_wp2;go_roundw
    case rel=>exact⟨k+1,by omega,by first|go_num|(simp;omega),HJ3.out⟩
    case measure=>simp[zL];omega
   ·have HJx3:=Lib.hid hJx3;clear hJx3
    gi_wp2;refine bodyPost_ret (results_none rfl _ _ _) rfl ?_;exact⟨⟨_,rfl⟩,.inr HJx3.out⟩
  ·obtain rfl:k=len:=by omega
   gi_wp2;go_end0;exact⟨⟨_,rfl⟩,.inl hJ.out⟩
theorem zkt {g:Operand} {ps:Array Tmp} {assign body:Code} {Q:Exit->Act->zA->Prop} {a:Act} {w:zA}
 (Bs len cap:Nat) (p:Option Addr) (V:Nat->Int->Prop) (Rd:zA->Prop) (hlen:len<=3000)
 (hRdc:∀W,Rd W->W.cell? ⟨Bs,0,none⟩=some (.slice p len cap)/\∀i,i<len->∃b off x,p=some ⟨b,off,none⟩/\V i x/\W.cell? ⟨b,off+i,none⟩=some (.int .i64 x))
 (hg:a.eval g=.func (.func 259) #[] #[.pointer (some ⟨Bs,0,none⟩)]) (hps:ps.size=2)
 {B:Nat} (hB:B<=w.heap.size) (I:Nat->zA->Prop) (Ix:Code->Nat->zA->Prop) (hI:∀k W W',I k W->CellsKept W W'->zB B W W'->I k W') (hIx:∀c k W W',Ix c k W->CellsKept W W'->zB B W W'->Ix c k W')
 (hRd:∀k W,I k W->Rd W) (h0:I 0 w) (a₁:Nat->Int->Act)
 (hassign:∀(l j:Nat) (x:Int) (W:zA) (K:Act->zA->Prop),K (a₁ j x) W->
   assign.wpIn (Fence.wide.inRound l) 1 zF (Exit.then K (λ_ _ _=>False)) {tmps:=(ps.zip #[.int .i64 (j:Int),.int .i64 x]).foldl (λt (p,v)=>t.setIfInBounds p v) a.tmps,defers:=[]} W)
 (hbody:∀(l k j:Nat) (x:Int) (W:zA),w.heap.size<=l->(∃r,W.heap[l]? =some (.loop r))->I k W->k<len->j=len-1-k->V j x->body.wpIn (Fence.wide.inRound l) 1 zF (zja w.heap.size I Ix k W) (a₁ j x) W)
 (hdone:∀(D:Nat) (W:zA),w.heap.size<=D->I len W->W.heap[D]? =some (.deferred (some []))->Q .normal {a with defers:={target:=.collected D,args:= #[]}::a.defers} W)
 (hstop:∀(D:Nat) (c:Code) (k:Nat) (W:zA),w.heap.size<=D->Ix c k W->W.heap[D]? =some (.deferred (some []))->c.wpIn Fence.wide 3 zF Q {a with defers:={target:=.collected D,args:= #[]}::a.defers} W):
 (Code.rangeFunc g ps assign body).wpIn Fence.wide 3 zF Q a w:=
 zqz (n:=3) rfl (by omega) hg trivial (enters_of Tryz.func259 (by kernel_rfl) rfl) (z05 Bs len cap p V Rd hlen hRdc)
  (λk args h=>by obtain⟨x,rfl,_⟩:=h;exact hps.symm) hB I Ix hI hIx hRd h0 (λ_ args=>a₁ ((args.getD 0 undef)|>zL).toNat (zL (args.getD 1 undef)))
  (λl k args W K h hK=>by obtain⟨x,rfl,_⟩:=h;exact hassign l (len-1-k) x W K (by simpa [zL] using hK))
  (λl k args W h1 h2 h3 h4 h5=>by obtain⟨x,rfl,hV⟩:=h5;simpa [zL] using hbody l k (len-1-k) x W h1 h2 h3 h4 rfl hV)
  hdone hstop
end Go.Proofs.YtfoodcpnnmonhaaGreatDoor
