/- polygon.simple. -/
import Derived.Test.YtlaccnphhomdgaaGreatDoorQ13
import Derived.Test.YtlaccnphhomdgaaGreatDoorQ14
set_option maxRecDepth 100000
set_option maxHeartbeats 8000000
open Go renaming World → zA
open Go.RowKit renaming Below → zB
open Go.Proofs.Tryz renaming prog → zF
open Go.RowKit.Below renaming refl → zM
open Nat renaming le_refl → zN, mod_lt → zP, mod_eq_of_lt → zQ
open List renaming length_cons → yA, getElem?_eq_getElem → yB, nil_append → yI, append_assoc → yL, cons_append → yM, take_append_drop → yN
namespace Go.Proofs.YtlaccnphhomdgaaGreatDoor
section
open Go.RowKit Go.Shelf Lib Str Limb Geo
attribute [local go_sem] Oper.semAt_some
def txt (l:List Pt):List (List UInt8×List UInt8):=l.map λp=>(numS p.x,numS p.y)
theorem za2 (l:List Pt):(txt l).length=l.length:=by simp[txt]
def cor (l:List Pt) (k:Nat):Pt:=l[k%l.length]?.getD ⟨0,0⟩
theorem zj4 (l:List Pt) (k:Nat) (hk:k<l.length):ptOf (txt l) k=(numS (cor l k).x,numS (cor l k).y):=by
 unfold ptOf txt cor
 rw[List.getElem?_map,zQ hk,yB hk];rfl
theorem zt4 (l:List Pt) (k:Nat):cor l (k%l.length)=cor l k:=by unfold cor;rw[Nat.mod_mod]
theorem zgj (l:List Pt) (k:Nat) (hk:k<l.length):zk9 (txt l) k=segV (cor l k) (cor l (k+1)):=by
 unfold zk9
 rw[za2,zj4 l k hk,zj4 l _ (zP _ (by omega)),zt4];rfl
def zea (n i k:Nat):Int:=if k=i+1\/(i=0/\k=n-1) then 1 else 0
def okS2 (l:List Pt) (i k:Nat):Prop:=meet (cor l i) (cor l (i+1)) (cor l k) (cor l (k+1))=zea l.length i k
def zbz (l:List Pt):Prop:=∀i k,i<k->k<l.length->okS2 l i k
structure SimS (w:zA) (p:Option Addr) (cap n:Nat) (l:List Pt) (W:zA):Prop where
 bel:zB w.heap.size w W
 box:W.cell? ⟨w.heap.size,0,none⟩=some (.slice p n cap)
 res:W.cell? ⟨w.heap.size+1,0,none⟩=some (.bool false)
 fr:W.frozen? ⟨w.heap.size+1,0,none⟩=false
 cbx:W.cell? ⟨w.heap.size+1+1,0,none⟩=some (.slice p n cap)
 pts:∀i,i<n->∃b off,p=some ⟨b,off,none⟩/\W.cell? ⟨b,off+i*2,none⟩=some (St (ptOf (txt l) i).1)/\W.cell? ⟨b,off+i*2+1,none⟩=some (St (ptOf (txt l) i).2)
theorem SimS.keep {w:zA} {p:Option Addr} {cap n:Nat} {l:List Pt} {W W':zA} (h:SimS w p cap n l W) (hc:CellsKept W W') (hb:zB w.heap.size W W'):SimS w p cap n l W':=
 ⟨h.bel.trans hb,hc.cell h.box,hc.cell h.res,hc.frozen h.res h.fr,hc.cell h.cbx,λi hi=>let ⟨b,off,e,h1,h2⟩:=h.pts i hi;⟨b,off,e,hc.cell h1,hc.cell h2⟩⟩
theorem SimS.ptsAt {w:zA} {p:Option Addr} {cap n:Nat} {l:List Pt} {W:zA} (hn:n=l.length) (h:SimS w p cap n l W) {B:Nat} (hB:W.cell? ⟨B,0,none⟩=some (.slice p n cap)):zls B p cap (txt l) W:=by
 refine⟨by rw[za2,<-hn];exact hB,λi hi=>h.pts i (by rw[za2] at hi;omega)⟩
structure SegAt (b:Nat) (x y:Pt) (W:zA):Prop where
 h0:W.cell? ⟨b,0,none⟩=some (St (numS x.x))
 h1:W.cell? ⟨b,1,none⟩=some (St (numS x.y))
 h2:W.cell? ⟨b,2,none⟩=some (St (numS y.x))
 h3:W.cell? ⟨b,3,none⟩=some (St (numS y.y))
theorem SegAt.new (W:zA) (x y:Pt) (t:TypeId):SegAt W.heap.size x y (W.alloc (.cells #[St (numS x.x),St (numS x.y),St (numS y.x),St (numS y.y)] t)):=by
 have A:=World.alloc_heap_new W (.cells #[St (numS x.x),St (numS x.y),St (numS y.x),St (numS y.y)] t)
 constructor<;>(rw[Go.Joins.cell_of_block A];rfl)
theorem SegAt.keep {b:Nat} {x y:Pt} {W W':zA} (h:SegAt b x y W) (hc:CellsKept W W'):SegAt b x y W':=⟨hc.cell h.h0,hc.cell h.h1,hc.cell h.h2,hc.cell h.h3⟩
theorem zs9 (p:Option Addr) (cap:Nat) (l:List Pt) (h3:3<=l.length) (hlen:l.length<=4096)
 (M:Hid (∀i k,i<l.length->k<l.length->∀W:zA,Wd W->Calls zF 47 #[segV (cor l i) (cor l (i+1)),segV (cor l k) (cor l (k+1))] W λe w'=>e=.returned (.int .i64 (meet (cor l i) (cor l (i+1)) (cor l k) (cor l (k+1))))/\zB W.heap.size W w'))
 (w:zA) (HW:Hid (Wd w))
 (HP:Hid (∀i,i<l.length->∃b off,p=some ⟨b,off,none⟩/\w.cell? ⟨b,off+i*2,none⟩=some (St (ptOf (txt l) i).1)/\w.cell? ⟨b,off+i*2+1,none⟩=some (St (ptOf (txt l) i).2))):
 Calls zF 67 #[.slice p l.length cap] w λe w'=>∃b,e=.returned (.bool b)/\(b=true↔zbz l)/\zB w.heap.size w w':=by
 refine(callsIn_wide (n:=5)).1 ?_
 refine callsIn_of_wp_marks Tryz.func67 rfl trivial ?_ rfl
 simp only[Tryz.ntmps67,List.size_toArray,yA,List.length_nil,Nat.reduceAdd,Nat.reduceSub,Array.replicate_succ,Array.replicate_zero,List.push_toArray,List.append_toArray,yI,yM]
 obtain⟨n,hn⟩:∃n,n=l.length:=⟨_,rfl⟩
 have hS0:SimS w p cap n l (((w.alloc (.cells #[.slice p n cap] 22)).alloc (.cells #[.bool false] 4)).alloc (.cells #[.slice p n cap] 22)):=by
  have b1:=Boxed.new w 22 (.slice p n cap)
  have b2:=Boxed.new (w.alloc (.cells #[.slice p n cap] 22)) 4 (.bool false)
  have b3:=Boxed.new ((w.alloc (.cells #[.slice p n cap] 22)).alloc (.cells #[.bool false] 4)) 22 (.slice p n cap)
  have b12:=(b1.alloc (.cells #[.bool false] 4)).alloc (.cells #[.slice p n cap] 22)
  have b22:=b2.alloc (.cells #[.slice p n cap] 22)
  simp only[World.size_alloc] at b3 b22
  have hbel:zB w.heap.size w (((w.alloc (.cells #[.slice p n cap] 22)).alloc (.cells #[.bool false] 4)).alloc (.cells #[.slice p n cap] 22)):=(((zM _ w).alloc (zN _) _).alloc (by simp) _).alloc (by simp;omega) _
  refine⟨hbel,b12.cell,b22.cell,b22.frozen,b3.cell,λi hi=>?_⟩
  obtain⟨b,off,e,h1,h2⟩:=HP.out i (by omega)
  exact⟨b,off,e,zai hbel h1,zai hbel h2⟩
 rw[<-hn] at h3 hlen⊢
 have HN:=hid hn;clear hn
 have HS0:=hid hS0;clear hS0 HP
 gi_wp2_with (refine⟨trivial,?_⟩;gi_at_call 41;refine(callsIn_wide.2 (zfr _ _ _ _ _ rfl)).mono ?_;rintro e w' ⟨rfl,rfl⟩)
 have hS0:=HS0.out;clear HS0
 generalize ((w.alloc (.cells #[.slice p n cap] 22)).alloc (.cells #[.bool false] 4)).alloc (.cells #[.slice p n cap] 22)=W0 at*
 have HS:=hid hS0.bel.size
 have hseq:=zgi 4 (by omega) (w.heap.size+1+1) (txt l) (by rw[za2,<-HN.out];omega) (λW=>SimS w p cap n l W) p cap (λW h=>h.ptsAt HN.out h.cbx)
 rw[za2,<-HN.out] at hseq
 refine zfq (n:=5) (B:=w.heap.size) rfl (by omega) rfl trivial (enters_of Tryz.func80 (by kernel_rfl) rfl) hseq (λk args h=>by subst h;rfl) hS0.bel.size
  (λk W=>SimS w p cap n l W/\∀i j,i<k->i<j->j<n->okS2 l i j)
  (λc _ W=>c=.ret/\zB w.heap.size w W/\W.cell? ⟨w.heap.size+1,0,none⟩=some (.bool false)/\¬zbz l)
  (λk W W' h hc hb=>⟨h.1.keep hc hb,h.2⟩) (λc k W W' h hc hb=>⟨h.1,h.2.1.trans hb,hc.cell h.2.2.1,h.2.2.2⟩) (λk W h=>h.1) ⟨hS0,λi j h=>by omega⟩
  (λk _ a' W=>∃bi bs,a'={tmps:= #[Value.slice p n cap,Value.pointer (some {block:=w.heap.size,off:=0}),Value.pointer (some {block:=w.heap.size+1,off:=0}),.pointer (some ⟨bi,0,none⟩),.pointer (some ⟨bs,0,none⟩),undef,undef,undef,Value.slice p n cap,
    Value.func (Fn.func 80) #[] #[Value.pointer (some {block:=w.heap.size+1+1,off:=0})],I k,segV (cor l k) (cor l (k+1)),undef,undef,undef,undef,undef,undef,undef,undef,undef,undef,undef,undef,undef,undef,undef,undef,undef,undef,undef,undef,undef,undef,undef,undef,undef,undef,undef],defers:=[]}/\W.cell? ⟨bi,0,none⟩=some (I k)/\SegAt bs (cor l k) (cor l (k+1)) W)
  (λk _ a' W W' h hc hb=>let ⟨bi,bs,e,h1,h2⟩:=h;⟨bi,bs,e,hc.cell h1,h2.keep hc⟩) ?assign ?body ?done ?stop
 case assign=>
  rintro lp k args W K hlp hrec ⟨hS,hP⟩ hk rfl hK
  rw[zgj l k (by rw[<-HN.out];exact hk)]
  have HK:=hid hK;clear hK
  unfold segV
  gi_wp2
  have hb1:zB W.heap.size W (W.alloc (.cells #[I k] 3)):=(zM _ W).alloc (zN _) _
  have hb2:zB W.heap.size W ((W.alloc (.cells #[I k] 3)).alloc (.cells #[St (numS (cor l k).x),St (numS (cor l k).y),St (numS (cor l (k+1)).x),St (numS (cor l (k+1)).y)] 80)):=hb1.alloc (by simp) _
  have hseg:=SegAt.new (W.alloc (.cells #[I k] 3)) (cor l k) (cor l (k+1)) 80
  rw[World.size_alloc] at hseg
  refine HK.out _ _ ((za0 hb2).from _) ⟨hS.keep (zac hb2) (hb2.mono hS.bel.size),hP⟩ ⟨W.heap.size,W.heap.size+1,rfl,?_,hseg⟩
  exact(Boxed.alloc (Boxed.new W 3 (I k)) _).cell
 case body=>
  rintro lp k args a' W hlp ⟨r,hr⟩ ⟨hS,hP⟩ hk rfl ⟨bi,bs,rfl,hi,hseg⟩
  have hbox:=hS.box
  obtain⟨W2,hW2⟩:∃W2,W2=W.alloc (.cells #[.slice p n cap] 22):=⟨_,rfl⟩
  have hb2:zB W.heap.size W W2:=by rw[hW2];exact(zM _ W).alloc (zN _) _
  have hcb:W2.cell? ⟨W.heap.size,0,none⟩=some (.slice p n cap):=by rw[hW2];exact(Boxed.new W 22 (.slice p n cap)).cell
  have hr2:W2.heap[lp]? =some (.loop r):=(hb2.block _ (Array.getElem?_eq_some_iff.1 hr).1).trans hr
  have H0:=hid (⟨hS,hP⟩:SimS w p cap n l W/\∀i j,i<k->i<j->j<n->okS2 l i j)
  have HC:=hid (⟨hi,hseg,hb2,hcb⟩:W.cell? ⟨bi,0,none⟩=some (I k)/\SegAt bs (cor l k) (cor l (k+1)) W/\zB W.heap.size W W2/\W2.cell? ⟨W.heap.size,0,none⟩=some (.slice p n cap))
  have HW2:=hid hW2;clear hW2 hS hP hi hseg hb2 hcb hr hseq hS0
  gi_wp2_with (refine⟨trivial,?_⟩;gi_at_call 41;refine(CallsIn.inRound lp (callsIn_wide.2 (zfr _ _ _ _ _ rfl))).mono ?_;rintro e w' ⟨rfl,rfl⟩)
  rw[<-HW2.out]
  obtain⟨hi,hseg,hb2,hcb⟩:=HC.out
  obtain⟨hS,hP⟩:=H0.out
  have hseq:=zgi 2 (by omega) W.heap.size (txt l) (by rw[za2,<-HN.out];omega) (λW'=>SimS w p cap n l W'/\W'.cell? ⟨W.heap.size,0,none⟩=some (.slice p n cap)) p cap (λW h=>h.1.ptsAt HN.out h.2)
  rw[za2,<-HN.out] at hseq
  refine zs7 (l₀:=lp) (r₀:=r) (n:=3) (B:=W.heap.size) rfl hr2 (by omega) rfl trivial (enters_of Tryz.func80 (by kernel_rfl) rfl) (hseq.inRound lp) (λk args h=>by subst h;rfl) hb2.size
   (λj W'=>zB W.heap.size W W'/\W'.cell? ⟨W.heap.size,0,none⟩=some (.slice p n cap)/\∀j',k<j'->j'<j->okS2 l k j')
   (λc _ W'=>c=.ret/\KeepsFrom W0.heap.size W W'/\zB w.heap.size w W'/\W'.cell? ⟨w.heap.size+1,0,none⟩=some (.bool false)/\¬zbz l)
   (λj X Y h hc hb=>⟨h.1.trans hb,hc.cell h.2.1,h.2.2⟩)
   (λc j X Y h hc hb=>⟨h.1,⟨Nat.le_trans h.2.1.size hb.size,λq o hq h0 ho=>(hb.block _ (Array.getElem?_eq_some_iff.1 h0).1).trans (h.2.1.same q o hq h0 ho)⟩,h.2.2.1.trans (hb.mono hS.bel.size),hc.cell h.2.2.2.1,h.2.2.2.2⟩)
   (λj W' h=>⟨hS.keep (zac h.1) (h.1.mono hS.bel.size),h.2.1⟩) ⟨hb2,hcb,λj' h1 h2=>by omega⟩
   (λj _ a' W'=>∃bt,a'={tmps:= #[Value.slice p n cap,Value.pointer (some {block:=w.heap.size,off:=0}),Value.pointer (some {block:=w.heap.size+1,off:=0}),.pointer (some ⟨bi,0,none⟩),.pointer (some ⟨bs,0,none⟩),I j,.pointer (some ⟨bt,0,none⟩),undef,Value.slice p n cap,Value.func (Fn.func 80) #[] #[Value.pointer (some {block:=w.heap.size+1+1,off:=0})],I k,segV (cor l k) (cor l (k+1)),Value.slice p n cap,Value.func (Fn.func 80) #[] #[Value.pointer (some {block:=W.heap.size,off:=0})],I j,segV (cor l j) (cor l (j+1)),undef,undef,undef,undef,undef,undef,undef,undef,undef,undef,undef,undef,undef,undef,undef,undef,undef,undef,undef,undef,undef,undef,undef],defers:=[]}/\SegAt bt (cor l j) (cor l (j+1)) W')
   (λj _ a' X Y h hc hb=>let ⟨bt,e,h1⟩:=h;⟨bt,e,h1.keep hc⟩) ?iassign ?ibody ?idone ?istop
  case iassign=>
   rintro lq j args W' K hlq hrec ⟨hB',hcb',hP'⟩ hj rfl hK
   rw[zgj l j (by rw[<-HN.out];exact hj)]
   have HK:=hid hK;clear hK
   unfold segV
   gi_wp2
   have hb1:zB W'.heap.size W' (W'.alloc (.cells #[St (numS (cor l j).x),St (numS (cor l j).y),St (numS (cor l (j+1)).x),St (numS (cor l (j+1)).y)] 80)):=(zM _ W').alloc (zN _) _
   refine HK.out _ _ ((za0 hb1).from _) ⟨hB'.trans (hb1.mono hB'.size),zai hb1 hcb',hP'⟩ ⟨W'.heap.size,rfl,SegAt.new W' (cor l j) (cor l (j+1)) 80⟩
  case ibody=>
   rintro lq j args a' W' hlq ⟨r',hr'⟩ ⟨hB',hcb',hP'⟩ hj rfl ⟨bt,rfl,hseg'⟩
   have hi':=zai hB' hi
   have hS':=hS.keep (zac hB') (hB'.mono hS.bel.size)
   have hbox':=hS'.box
   have hres:=hS'.res
   have hfr:=hS'.fr
   obtain⟨g0,g1,g2,g3⟩:=hseg.keep (zac hB')
   obtain⟨k0,k1,k2,k3⟩:=hseg'
   have hwd:=HW.out.below hS'.bel
   have HS2:=hid (⟨hB',hcb',hP',hS'⟩:zB W.heap.size W W'/\W'.cell? ⟨W.heap.size,0,none⟩=some (.slice p n cap)/\(∀j',k<j'->j'<j->okS2 l k j')/\SimS w p cap n l W')
   have hM:=M.out k j (by rw[<-HN.out];exact hk) (by rw[<-HN.out];exact hj) W' hwd
   obtain⟨m,hm⟩:∃m,m=meet (cor l k) (cor l (k+1)) (cor l j) (cor l (j+1)):=⟨_,rfl⟩
   rw[<-hm] at hM
   unfold segV at hM⊢
   have HM:=hid hM
   have HMM:=hid hm
   have hwk:IntKind.i64.wrap ((k:Int)+1)=(k:Int)+1:=IntWalk.i64_in _ ⟨by omega,by omega⟩
   have hwn:IntKind.i64.wrap ((n:Int)-1)=(n:Int)-1:=IntWalk.i64_in _ ⟨by omega,by omega⟩
   clear hM hm hB' hcb' hP' hS' hi hseg hb2 hcb hS hP hseq hbox hwd HW2 H0 hr2 hr'
   by_cases hle:j<=k
   ·have e1:decide ((j:Int)<=(k:Int))=true:=decide_eq_true (by omega)
    gi_wp2
    obtain⟨hB',hcb',hP',hS'⟩:=HS2.out
    exact⟨KeepsFrom.refl _ _,hB',hcb',λj' h1 h2=>hP' j' h1 (by omega)⟩
   ·have e1:decide ((j:Int)<=(k:Int))=false:=decide_eq_false (by omega)
    have hcase:(zea n k j=1/\((((j:Int)==(k:Int)+1)=true)\/(((j:Int)==(k:Int)+1)=false/\((k:Int)==0)=true/\((j:Int)==(n:Int)-1)=true)))\/
     (zea n k j=0/\((((j:Int)==(k:Int)+1)=false/\((k:Int)==0)=true/\((j:Int)==(n:Int)-1)=false)\/(((j:Int)==(k:Int)+1)=false/\((k:Int)==0)=false))):=by
     unfold zea
     simp only[beq_iff_eq,beq_eq_false_iff_ne]
     by_cases h1:j=k+1
     ·left;exact⟨if_pos (.inl h1),.inl (by omega)⟩
     ·by_cases h2:k=0
      ·by_cases h3:j=n-1
       ·left;exact⟨if_pos (.inr ⟨h2,h3⟩),.inr ⟨by omega,by omega,by omega⟩⟩
       ·right;exact⟨if_neg (by omega),.inl ⟨by omega,by omega,by omega⟩⟩
      ·right;exact⟨if_neg (by omega),.inr ⟨by omega,by omega⟩⟩
    have hgood:∀W3,zB W'.heap.size W' W3->m=zea n k j->KeepsFrom W2.heap.size W' W3/\zB W.heap.size W W3/\W3.cell? ⟨W.heap.size,0,none⟩=some (.slice p n cap)/\∀j',k<j'->j'<j+1->okS2 l k j':=by
     intro W3 hb3 hmw
     obtain⟨hB',hcb',hP',hS'⟩:=HS2.out
     refine⟨(za0 hb3).from _,hB'.trans (hb3.mono hB'.size),zai hb3 hcb',λj' h1 h2=>?_⟩
     by_cases h:j'=j
     ·subst h;unfold okS2;rw[<-HMM.out,hmw,<-HN.out]
     ·exact hP' j' h1 (by omega)
    have hbad:∀W3,zB W'.heap.size W' W3->m≠zea n k j->KeepsFrom W2.heap.size W' (W3.setCell ⟨w.heap.size+1,0,none⟩ (.bool false))/\Code.ret=Code.ret/\KeepsFrom W0.heap.size W (W3.setCell ⟨w.heap.size+1,0,none⟩ (.bool false))/\zB w.heap.size w (W3.setCell ⟨w.heap.size+1,0,none⟩ (.bool false))/\(W3.setCell ⟨w.heap.size+1,0,none⟩ (.bool false)).cell? ⟨w.heap.size+1,0,none⟩=some (.bool false)/\¬zbz l:=by
     intro W3 hb3 hmw
     obtain⟨hB',hcb',hP',hS'⟩:=HS2.out
     have k3:=KeepsOthers.setCell W3 ⟨w.heap.size+1,0,none⟩ (.bool false)
     have hS3:=hS'.keep (zac hb3) (hb3.mono hS'.bel.size)
     refine⟨((za0 hb3).from _).trans (k3.from _),rfl,(((za0 hB').from _).trans ((za0 hb3).from _)).trans (k3.from _),hS3.bel.setCell (p:=⟨w.heap.size+1,0,none⟩) (by simp) _,World.cell?_setCell_same' _ _ _ (by rw[hS3.res];rfl),λhs=>hmw ?_⟩
     have:=hs k j (by omega) (by rw[<-HN.out];exact hj)
     unfold okS2 at this
     rw[<-HMM.out,<-HN.out] at this;exact this
    have HG:=hid hgood;have HBd:=hid hbad
    clear hgood hbad
    rcases hcase with⟨hwant,f1|⟨f1,f2,f3⟩⟩|⟨hwant,⟨f1,f2,f3⟩|⟨f1,f2⟩⟩
    ·by_cases hmw:m=1
     ·have hmb:(m !=1)=false:=by simpa [hwant] using hmw
      have HWT:=hid hwant;have HMW:=hid hmw;clear hwant hmw
      gi_wp2
      all_goals first|exact(zzU ‹_›).elim|skip
      refine⟨trivial,(CallsIn.inRound lq (CallsIn.inRound lp (callsIn_wide.2 HM.out))).mono ?_⟩
      rintro e W3 ⟨rfl,hb3⟩
      have h9:=HG.out W3 hb3 (by rw[HWT.out];exact HMW.out)
      clear hb3
      gi_wp2
      exact h9
     ·have hmb:(m !=1)=true:=by simpa [hwant] using hmw
      have HWT:=hid hwant;have HMW:=hid hmw;clear hwant hmw
      gi_wp2
      all_goals first|exact(zzU ‹_›).elim|skip
      refine⟨trivial,(CallsIn.inRound lq (CallsIn.inRound lp (callsIn_wide.2 HM.out))).mono ?_⟩
      rintro e W3 ⟨rfl,hb3⟩
      have h9:=HBd.out W3 hb3 (by rw[HWT.out];exact HMW.out)
      have hres3:=zai hb3 hres
      have hfr3:W3.frozen? ⟨w.heap.size+1,0,none⟩=false:=(zac hb3).frozen hres hfr
      have H9:=hid h9
      clear hb3 h9
      gi_wp2
      exact⟨H9.out.1,rfl,H9.out.2.2⟩
    ·by_cases hmw:m=1
     ·have hmb:(m !=1)=false:=by simpa [hwant] using hmw
      have HWT:=hid hwant;have HMW:=hid hmw;clear hwant hmw
      gi_wp2
      all_goals first|exact(zzU ‹_›).elim|skip
      refine⟨trivial,(CallsIn.inRound lq (CallsIn.inRound lp (callsIn_wide.2 HM.out))).mono ?_⟩
      rintro e W3 ⟨rfl,hb3⟩
      have h9:=HG.out W3 hb3 (by rw[HWT.out];exact HMW.out)
      clear hb3
      gi_wp2
      exact h9
     ·have hmb:(m !=1)=true:=by simpa [hwant] using hmw
      have HWT:=hid hwant;have HMW:=hid hmw;clear hwant hmw
      gi_wp2
      all_goals first|exact(zzU ‹_›).elim|skip
      refine⟨trivial,(CallsIn.inRound lq (CallsIn.inRound lp (callsIn_wide.2 HM.out))).mono ?_⟩
      rintro e W3 ⟨rfl,hb3⟩
      have h9:=HBd.out W3 hb3 (by rw[HWT.out];exact HMW.out)
      have hres3:=zai hb3 hres
      have hfr3:W3.frozen? ⟨w.heap.size+1,0,none⟩=false:=(zac hb3).frozen hres hfr
      have H9:=hid h9
      clear hb3 h9
      gi_wp2
      exact⟨H9.out.1,rfl,H9.out.2.2⟩
    ·by_cases hmw:m=0
     ·have hmb:(m !=0)=false:=by simpa [hwant] using hmw
      have HWT:=hid hwant;have HMW:=hid hmw;clear hwant hmw
      gi_wp2
      all_goals first|exact(zzU ‹_›).elim|skip
      refine⟨trivial,(CallsIn.inRound lq (CallsIn.inRound lp (callsIn_wide.2 HM.out))).mono ?_⟩
      rintro e W3 ⟨rfl,hb3⟩
      have h9:=HG.out W3 hb3 (by rw[HWT.out];exact HMW.out)
      clear hb3
      gi_wp2
      exact h9
     ·have hmb:(m !=0)=true:=by simpa [hwant] using hmw
      have HWT:=hid hwant;have HMW:=hid hmw;clear hwant hmw
      gi_wp2
      all_goals first|exact(zzU ‹_›).elim|skip
      refine⟨trivial,(CallsIn.inRound lq (CallsIn.inRound lp (callsIn_wide.2 HM.out))).mono ?_⟩
      rintro e W3 ⟨rfl,hb3⟩
      have h9:=HBd.out W3 hb3 (by rw[HWT.out];exact HMW.out)
      have hres3:=zai hb3 hres
      have hfr3:W3.frozen? ⟨w.heap.size+1,0,none⟩=false:=(zac hb3).frozen hres hfr
      have H9:=hid h9
      clear hb3 h9
      gi_wp2
      exact⟨H9.out.1,rfl,H9.out.2.2⟩
    ·by_cases hmw:m=0
     ·have hmb:(m !=0)=false:=by simpa [hwant] using hmw
      have HWT:=hid hwant;have HMW:=hid hmw;clear hwant hmw
      gi_wp2
      all_goals first|exact(zzU ‹_›).elim|skip
      refine⟨trivial,(CallsIn.inRound lq (CallsIn.inRound lp (callsIn_wide.2 HM.out))).mono ?_⟩
      rintro e W3 ⟨rfl,hb3⟩
      have h9:=HG.out W3 hb3 (by rw[HWT.out];exact HMW.out)
      clear hb3
      gi_wp2
      exact h9
     ·have hmb:(m !=0)=true:=by simpa [hwant] using hmw
      have HWT:=hid hwant;have HMW:=hid hmw;clear hwant hmw
      gi_wp2
      all_goals first|exact(zzU ‹_›).elim|skip
      refine⟨trivial,(CallsIn.inRound lq (CallsIn.inRound lp (callsIn_wide.2 HM.out))).mono ?_⟩
      rintro e W3 ⟨rfl,hb3⟩
      have h9:=HBd.out W3 hb3 (by rw[HWT.out];exact HMW.out)
      have hres3:=zai hb3 hres
      have hfr3:W3.frozen? ⟨w.heap.size+1,0,none⟩=false:=(zac hb3).frozen hres hfr
      have H9:=hid h9
      clear hb3 h9
      gi_wp2
      exact⟨H9.out.1,rfl,H9.out.2.2⟩
  case idone=>
   rintro W' ⟨hB',hcb',hP'⟩
   have HX:=hid (⟨hB',hP'⟩:zB W.heap.size W W'/\∀j',k<j'->j'<n->okS2 l k j')
   clear hB' hP' hcb'
   gi_wp2
   obtain⟨hB',hP'⟩:=HX.out
   obtain⟨hS,hP⟩:=H0.out
   refine⟨(za0 hB').from _,hS.keep (zac hB') (hB'.mono hS.bel.size),λi j h1 h2 h3=>?_⟩
   by_cases h:i=k
   ·subst h;exact hP' j h2 h3
   ·exact hP i j (by omega) h2 h3
  case istop=>
   rintro c j W' ⟨rfl,h⟩
   have HX:=hid h;clear h
   gi_wp2
   exact⟨HX.out.1,rfl,HX.out.2⟩
 case done=>
  rintro D W hD ⟨hS,hP⟩ hK
  have hres:=hS.res;have hfr:=hS.fr
  have HX:=hid (⟨hS,hP⟩:SimS w p cap n l W/\∀i j,i<n->i<j->j<n->okS2 l i j);clear hS hP hseq hS0
  gi_wp2
  have hK':=(KeepsOthers.setCell W ⟨w.heap.size+1,0,none⟩ (.bool true)).same D _ hK rfl
  refine⟨by simp,.inl ⟨_,_,rfl,run_takeDeferred hK',?_⟩⟩
  have hc5:=(zbk hK').cell (World.cell?_setCell_same' W ⟨w.heap.size+1,0,none⟩ (.bool true) (by rw[hres];rfl))
  obtain⟨hS,hP⟩:=HX.out
  refine⟨.bool true,?_,true,rfl,⟨λ_ i k h1 h2=>?_,λ_=>rfl⟩,zby (hS.bel.setCell (p:=⟨w.heap.size+1,0,none⟩) (by simp) _) (by have:=HS.out;omega) hK'⟩
  ·simp[results,Tryz.f67,go_sem,hc5]
  ·have hn:=HN.out;exact hP i k (by omega) h1 (by omega)
 case stop=>
  rintro D c k W hD ⟨rfl,hbel,hres,hno⟩ hK
  have HX:=hid (⟨hbel,hno⟩:zB w.heap.size w W/\¬zbz l);clear hbel hno hseq hS0
  gi_wp2
  refine⟨by simp,.inl ⟨_,_,rfl,run_takeDeferred hK,?_⟩⟩
  have hc5:=(zbk hK).cell hres
  refine⟨.bool false,by simp[results,Tryz.f67,go_sem,hc5],false,rfl,⟨λh=>by simp at h,λh=>absurd h HX.out.2⟩,zby HX.out.1 (by have:=HS.out;omega) hK⟩
def zch (l:List Pt):Prop:=∀i,i<l.length->cor l i≠cor l (i+1)
structure ChkS (w:zA) (p:Option Addr) (n:Nat) (l:List Pt) (W:zA):Prop where
 bel:zB w.heap.size w W
 res:∃r,W.cell? ⟨w.heap.size,0,none⟩=some (.int .i64 r)
 fr:W.frozen? ⟨w.heap.size,0,none⟩=false
 pts:∀i,i<n->∃b off,p=some ⟨b,off,none⟩/\W.cell? ⟨b,off+i*2,none⟩=some (St (ptOf (txt l) i).1)/\W.cell? ⟨b,off+i*2+1,none⟩=some (St (ptOf (txt l) i).2)
theorem ChkS.keep {w:zA} {p:Option Addr} {n:Nat} {l:List Pt} {W W':zA} (h:ChkS w p n l W) (hc:CellsKept W W') (hb:zB w.heap.size W W'):ChkS w p n l W':=
 ⟨h.bel.trans hb,let ⟨r,e⟩:=h.res;⟨r,hc.cell e⟩,let ⟨_,e⟩:=h.res;hc.frozen e h.fr,λi hi=>let ⟨b,off,e,h1,h2⟩:=h.pts i hi;⟨b,off,e,hc.cell h1,hc.cell h2⟩⟩
theorem ChkS.ptsAt {w:zA} {p:Option Addr} {cap n:Nat} {l:List Pt} {W:zA} (hn:n=l.length) (h:ChkS w p n l W) {B:Nat} (hB:W.cell? ⟨B,0,none⟩=some (.slice p n cap)):zls B p cap (txt l) W:=by
 refine⟨by rw[za2,<-hn];exact hB,λi hi=>h.pts i (by rw[za2] at hi;omega)⟩
theorem zu8 (p:Option Addr) (cap:Nat) (l:List Pt) (h3:3<=l.length) (hlen:l.length<=4096)
 (CP:Hid (∀i,i<l.length->∀W:zA,Wd W->Calls zF 46 #[ptV (cor l i)] W λe w'=>e=.returned (.int .i64 0)/\zB W.heap.size W w'))
 (S:Hid (∀W:zA,Wd W->(∀i,i<l.length->∃b off,p=some ⟨b,off,none⟩/\W.cell? ⟨b,off+i*2,none⟩=some (St (ptOf (txt l) i).1)/\W.cell? ⟨b,off+i*2+1,none⟩=some (St (ptOf (txt l) i).2))->
   Calls zF 67 #[.slice p l.length cap] W λe w'=>∃b,e=.returned (.bool b)/\(b=true↔zbz l)/\zB W.heap.size W w'))
 (w:zA) (HW:Hid (Wd w))
 (HP:Hid (∀i,i<l.length->∃b off,p=some ⟨b,off,none⟩/\w.cell? ⟨b,off+i*2,none⟩=some (St (ptOf (txt l) i).1)/\w.cell? ⟨b,off+i*2+1,none⟩=some (St (ptOf (txt l) i).2))):
 Calls zF 34 #[.slice p l.length cap] w λe w'=>∃r:Int,e=.returned (.int .i64 r)/\((¬zch l/\r=12)\/(zch l/\¬zbz l/\r=15)\/(zch l/\zbz l/\r=0))/\zB w.heap.size w w':=by
 refine(callsIn_wide (n:=3)).1 ?_
 refine callsIn_of_wp_marks Tryz.func34 rfl trivial ?_ rfl
 simp only[Tryz.ntmps34,List.size_toArray,yA,List.length_nil,Nat.reduceAdd,Nat.reduceSub,Array.replicate_succ,Array.replicate_zero,List.push_toArray,List.append_toArray,yI,yM]
 obtain⟨n,hn⟩:∃n,n=l.length:=⟨_,rfl⟩
 have hS0:ChkS w p n l (w.alloc (.cells #[.int .i64 0] 28)):=by
  have b1:=Boxed.new w 28 (.int .i64 0)
  have hbel:zB w.heap.size w (w.alloc (.cells #[.int .i64 0] 28)):=(zM _ w).alloc (zN _) _
  refine⟨hbel,⟨_,b1.cell⟩,b1.frozen,λi hi=>?_⟩
  obtain⟨b,off,e,h1,h2⟩:=HP.out i (by omega)
  exact⟨b,off,e,zai hbel h1,zai hbel h2⟩
 rw[<-hn] at h3 hlen⊢
 have HN:=hid hn;clear hn
 have HS0:=hid hS0;clear hS0 HP
 have hn1:decide ((4096:Int)<(n:Int))=false:=decide_eq_false (by omega)
 have hn2:decide ((n:Int)<3)=false:=decide_eq_false (by omega)
 gi_wp2
 gi_loopw [18] (λi wr=>∃(k:Nat),k<=n/\i=.int .i64 (k:Int)/\Hid (ChkS w p n l wr))
  (λi _=>n-(RowKit.intOf i).toNat)
 case atStart=>exact⟨0,Nat.zero_le _,rfl,HS0.out⟩
 case round=>
  clear hn1 hn2
  obtain⟨k,hk,rfl,hS⟩:=hrel
  by_cases hlt:k<n
  ·obtain⟨b,off,rfl,c0,c1⟩:=hS.out.pts k hlt
   have hb1:zB wr.heap.size wr (wr.alloc (.cells #[St (ptOf (txt l) k).1,St (ptOf (txt l) k).2] 27)):=(zM _ wr).alloc (zN _) _
   have hS1:=hid (hS.out.keep (zac hb1) (hb1.mono hS.out.bel.size))
   have hcp:=CP.out k (by rw[<-HN.out];exact hlt) _ (HW.out.below hS1.out.bel)
   have ep:ptV (cor l k)=.agg #[St (ptOf (txt l) k).1,St (ptOf (txt l) k).2]:=by rw[zj4 l k (by rw[<-HN.out];exact hlt)];rfl
   rw[ep] at hcp
   have HCP:=hid hcp
   clear hcp ep hb1
   generalize (ptOf (txt l) k).1=x at*
   generalize (ptOf (txt l) k).2=y at*
   gi_wp2
   refine⟨trivial,(callsIn_wide.2 HCP.out).mono ?_⟩
   rintro e W2 ⟨rfl,hb2⟩
   have hS2:=hid (hS1.out.keep (zac hb2) (hb2.mono hS1.out.bel.size))
   clear hb2 HCP hS1 HS0
   gi_wp2
   go_roundw
   case rel=>exact⟨k+1,by omega,by go_num,hS2⟩
   case measure=>simp[RowKit.intOf];omega
  ·obtain rfl:k=n:=by omega
   clear HS0
   gi_wp2_with (refine⟨trivial,?_⟩;gi_at_call 41;refine(callsIn_wide.2 (zfr _ _ _ _ _ rfl)).mono ?_;rintro e w' ⟨rfl,rfl⟩)
   obtain⟨W1,hW1⟩:∃W1,W1=wr.alloc (.cells #[.slice p k cap] 22):=⟨_,rfl⟩
   have hb1:zB wr.heap.size wr W1:=by rw[hW1];exact(zM _ wr).alloc (zN _) _
   have hcb:W1.cell? ⟨wr.heap.size,0,none⟩=some (.slice p k cap):=by rw[hW1];exact(Boxed.new wr 22 (.slice p k cap)).cell
   have hS1:=hS.out.keep (zac hb1) (hb1.mono hS.out.bel.size)
   rw[<-hW1]
   clear hW1 hS
   have HS1:=hid hS1.bel.size
   have hseq:=zgi 2 (by omega) wr.heap.size (txt l) (by rw[za2,<-HN.out];omega) (λW=>ChkS w p k l W/\W.cell? ⟨wr.heap.size,0,none⟩=some (.slice p k cap)) p cap (λW h=>h.1.ptsAt HN.out h.2)
   rw[za2,<-HN.out] at hseq
   refine zfq (n:=3) (B:=w.heap.size) rfl (by omega) rfl trivial (enters_of Tryz.func80 (by kernel_rfl) rfl) hseq (λk args h=>by subst h;rfl) hS1.bel.size
    (λj W=>ChkS w p k l W/\W.cell? ⟨wr.heap.size,0,none⟩=some (.slice p k cap)/\∀i,i<j->cor l i≠cor l (i+1))
    (λc _ W=>c=.ret/\zB w.heap.size w W/\W.cell? ⟨w.heap.size,0,none⟩=some (.int .i64 12)/\¬zch l)
    (λj X Y h hc hb=>⟨h.1.keep hc hb,hc.cell h.2.1,h.2.2⟩) (λc j X Y h hc hb=>⟨h.1,h.2.1.trans hb,hc.cell h.2.2.1,h.2.2.2⟩) (λj W h=>⟨h.1,h.2.1⟩) ⟨hS1,hcb,λi h=>by omega⟩
    (λj _ a' W=>∃bs,a'={tmps:= #[Value.slice p k cap,undef,Value.pointer (some {block:=w.heap.size,off:=0}),undef,u4,u5,undef,.pointer (some ⟨bs,0,none⟩),Value.bool false,Value.slice p k cap,Value.int IntKind.i64 ↑k,Value.bool false,Value.bool false,Value.slice p k cap,Value.int IntKind.i64 ↑k,Value.bool false,Value.slice p k cap,Value.int IntKind.i64 ↑k,Value.int IntKind.i64 ↑k,Value.bool false,u20,u21,u22,u23,u24,u25,u26,u27,Value.slice p k cap,Value.func (Fn.func 80) #[] #[Value.pointer (some {block:=wr.heap.size,off:=0})],I j,segV (cor l j) (cor l (j+1)),undef,undef,undef,undef,undef,undef,undef,undef],defers:=[]}/\SegAt bs (cor l j) (cor l (j+1)) W)
    (λj _ a' X Y h hc hb=>let ⟨bs,e,h2⟩:=h;⟨bs,e,h2.keep hc⟩) ?assign ?body ?done ?stop
   case assign=>
    rintro lp j args W K hlp hrec ⟨hS,hcb,hP⟩ hj rfl hK
    rw[zgj l j (by rw[<-HN.out];exact hj)]
    have HK:=hid hK;clear hK
    unfold segV
    gi_wp2
    have hb1:zB W.heap.size W (W.alloc (.cells #[St (numS (cor l j).x),St (numS (cor l j).y),St (numS (cor l (j+1)).x),St (numS (cor l (j+1)).y)] 80)):=(zM _ W).alloc (zN _) _
    exact HK.out _ _ ((za0 hb1).from _) ⟨hS.keep (zac hb1) (hb1.mono hS.bel.size),zai hb1 hcb,hP⟩ ⟨W.heap.size,rfl,SegAt.new W (cor l j) (cor l (j+1)) 80⟩
   case body=>
    rintro lp j args a' W hlp ⟨r,hr⟩ ⟨hS,hcb,hP⟩ hj rfl ⟨bs,rfl,hseg⟩
    obtain⟨g0,g1,g2,g3⟩:=hseg
    obtain⟨r0,hres⟩:=hS.res
    have hfr:=hS.fr
    have H0:=hid (⟨hS,hcb,hP⟩:ChkS w p k l W/\W.cell? ⟨wr.heap.size,0,none⟩=some (.slice p k cap)/\∀i,i<j->cor l i≠cor l (i+1))
    clear hS hcb hP hseq hS1 hr
    unfold segV
    have hgood:cor l j≠cor l (j+1)->KeepsFrom W1.heap.size W W/\ChkS w p k l W/\W.cell? ⟨wr.heap.size,0,none⟩=some (.slice p k cap)/\∀i,i<j+1->cor l i≠cor l (i+1):=λhne=>by
     obtain⟨hS,hcb,hP⟩:=H0.out
     refine⟨KeepsFrom.refl _ _,hS,hcb,λi hi=>?_⟩
     by_cases h:i=j
     ·subst h;exact hne
     ·exact hP i (by omega)
    have HG:=hid hgood;clear hgood
    by_cases hx:numS (cor l j).x=numS (cor l (j+1)).x
    ·by_cases hy:numS (cor l j).y=numS (cor l (j+1)).y
     ·have HE:=hid (⟨hx,hy⟩:numS (cor l j).x=numS (cor l (j+1)).x/\numS (cor l j).y=numS (cor l (j+1)).y)
      gi_wp2
      obtain⟨hS,hcb,hP⟩:=H0.out
      refine⟨(KeepsOthers.setCell _ _ _).from _,rfl,hS.bel.setCell (p:=⟨w.heap.size,0,none⟩) (by simp) _,World.cell?_setCell_same' _ _ _ (by rw[hres];rfl),λhs=>hs j (by rw[<-HN.out];exact hj) ?_⟩
      have h1:=zh0 HE.out.1;have h2:=zh0 HE.out.2
      revert h1 h2
      generalize cor l j=a;generalize cor l (j+1)=b
      intro h1 h2
      cases a;cases b;simp at h1 h2;rw[h1,h2]
     ·have HE:=hid hy
      gi_wp2
      exact HG.out λh=>HE.out (by rw[h])
    ·have HE:=hid hx
     gi_wp2
     exact HG.out λh=>HE.out (by rw[h])
   case done=>
    rintro D W hD ⟨hS,hcb,hP⟩ hK
    have hs:=S.out W (HW.out.below hS.bel) (λi hi=>hS.pts i (by rw[HN.out];exact hi))
    rw[<-HN.out] at hs
    have HSm:=hid hs
    have HX:=hid (⟨hS,hP,hK⟩:ChkS w p k l W/\(∀i,i<k->cor l i≠cor l (i+1))/\W.heap[D]? =some (.deferred (some [])));clear hS hP hseq hS1 hs hK
    gi_wp2
    refine⟨trivial,(callsIn_wide.2 HSm.out).mono ?_⟩
    rintro e W3 ⟨b,rfl,hb,hb3⟩
    obtain⟨hS,hP,hK⟩:=HX.out
    have hS3:=hS.keep (zac hb3) (hb3.mono hS.bel.size)
    have hK3:W3.heap[D]? =some (.deferred (some [])):=(hb3.block _ (Array.getElem?_eq_some_iff.1 hK).1).trans hK
    have hside:zch l:=λi hi=>hP i (by rw[HN.out];exact hi)
    obtain⟨r3,hres⟩:=hS3.res
    have hfr:=hS3.fr
    have H3:=hid (⟨hS3.bel,hK3,hside,hb⟩:zB w.heap.size w W3/\W3.heap[D]? =some (.deferred (some []))/\zch l/\(b=true↔zbz l))
    clear HX hS hP hK hS3 hK3 hside hb hb3 HSm
    cases b
    ·gi_wp2
     obtain⟨hbel,hK3,hside,hb⟩:=H3.out
     have hK':=(KeepsOthers.setCell W3 ⟨w.heap.size,0,none⟩ (.int .i64 15)).same D _ hK3 rfl
     refine⟨by simp,.inl ⟨_,_,rfl,run_takeDeferred hK',?_⟩⟩
     have hc5:=(zbk hK').cell (World.cell?_setCell_same' W3 ⟨w.heap.size,0,none⟩ (.int .i64 15) (by rw[hres];rfl))
     refine⟨.int .i64 15,?_,15,rfl,.inr (.inl ⟨hside,λh=>(by have:=hb.2 h;simp at this),rfl⟩),zby (hbel.setCell (p:=⟨w.heap.size,0,none⟩) (by simp) _) (by have:=HS1.out;omega) hK'⟩
     simp[results,Tryz.f34,go_sem,hc5]
    ·gi_wp2
     obtain⟨hbel,hK3,hside,hb⟩:=H3.out
     have hK':=(KeepsOthers.setCell W3 ⟨w.heap.size,0,none⟩ (.int .i64 0)).same D _ hK3 rfl
     refine⟨by simp,.inl ⟨_,_,rfl,run_takeDeferred hK',?_⟩⟩
     have hc5:=(zbk hK').cell (World.cell?_setCell_same' W3 ⟨w.heap.size,0,none⟩ (.int .i64 0) (by rw[hres];rfl))
     refine⟨.int .i64 0,?_,0,rfl,.inr (.inr ⟨hside,hb.1 (by trivial),rfl⟩),zby (hbel.setCell (p:=⟨w.heap.size,0,none⟩) (by simp) _) (by have:=HS1.out;omega) hK'⟩
     simp[results,Tryz.f34,go_sem,hc5]
   case stop=>
    rintro D c j W hD ⟨rfl,hbel,hres,hno⟩ hK
    have HX:=hid (⟨hbel,hno⟩:zB w.heap.size w W/\¬zch l);clear hbel hno hseq hS1
    gi_wp2
    refine⟨by simp,.inl ⟨_,_,rfl,run_takeDeferred hK,?_⟩⟩
    have hc5:=(zbk hK).cell hres
    refine⟨.int .i64 12,by simp[results,Tryz.f34,go_sem,hc5],12,rfl,.inl ⟨HX.out.2,rfl⟩,zby HX.out.1 (by have:=HS1.out;omega) hK⟩
def RowPts (p:Option Addr) (l:List Pt) (W:zA):Prop:=
 ∀i,i<l.length->∃b off,p=some ⟨b,off,none⟩/\W.cell? ⟨b,off+i*2,none⟩=some (St (ptOf (txt l) i).1)/\W.cell? ⟨b,off+i*2+1,none⟩=some (St (ptOf (txt l) i).2)
theorem RowPts.keep {p:Option Addr} {l:List Pt} {W W':zA} (h:RowPts p l W) (hc:CellsKept W W'):RowPts p l W':=λi hi=>let ⟨b,off,e,h1,h2⟩:=h i hi;⟨b,off,e,hc.cell h1,hc.cell h2⟩
theorem zw6 (p:Option Addr) (cap:Nat) (l:List Pt) (h3:3<=l.length) (hlen:l.length<=4096) (hz:∀i,szP (cor l i) 36) (w:zA) (hw:Wd w) (hp:RowPts p l w):
 Calls zF 67 #[.slice p l.length cap] w λe w'=>∃b,e=.returned (.bool b)/\(b=true↔zbz l)/\zB w.heap.size w w':=
 zs9 p cap l h3 hlen (hid λi k _ _ W hW=>zol _ _ _ _ 36 (by omega) (by omega) (hz _) (hz _) (hz _) (hz _) W hW) w (hid hw) (hid hp)
theorem zu9 (p:Option Addr) (cap:Nat) (l:List Pt) (h3:3<=l.length) (hlen:l.length<=4096) (hz:∀i,szP (cor l i) 36) (w:zA) (hw:Wd w) (hp:RowPts p l w):
 Calls zF 34 #[.slice p l.length cap] w λe w'=>∃r:Int,e=.returned (.int .i64 r)/\((¬zch l/\r=12)\/(zch l/\¬zbz l/\r=15)\/(zch l/\zbz l/\r=0))/\zB w.heap.size w w':=
 zu8 p cap l h3 hlen (hid λi _ W hW=>zdi _ (hz i) W hW) (hid λW hW hp=>zw6 p cap l h3 hlen hz W hW hp) w (hid hw) (hid hp)
theorem zj5 (p:Option Addr) (cap:Nat) (l:List Pt) (h3:3<=l.length) (hlen:l.length<=4096) (hz:∀i,szP (cor l i) 36) (hs:zch l) (hm:zbz l) (w:zA) (hw:Wd w) (hp:RowPts p l w):
 Calls zF 34 #[.slice p l.length cap] w λe w'=>e=.returned (.int .i64 0)/\zB w.heap.size w w':=by
 refine(zu9 p cap l h3 hlen hz w hw hp).mono ?_
 rintro e w' ⟨r,rfl,h,hb⟩
 rcases h with⟨h,_⟩|⟨_,h,_⟩|⟨_,_,rfl⟩
 ·exact absurd hs h
 ·exact absurd hm h
 ·exact⟨rfl,hb⟩
end
section
open Go.RowKit Go.Shelf Lib Str Limb Geo
theorem z3r {l:List Pt} {k:Nat} (h:k<l.length):cor l k=l[k]:=by
 unfold cor;rw[zQ h,yB h];rfl
theorem z5j (l:List Pt) (k:Nat):cor l (k%l.length+1)=cor l (k+1):=by
 unfold cor;rw[Nat.add_mod,Nat.mod_mod,<-Nat.add_mod]
theorem z5k {a n:Nat} (h:a<n):(a+1)%n=if a+1=n then 0 else a+1:=by
 split
 ·rename_i e;rw[e,Nat.mod_self]
 ·exact zQ (by omega)
def z3q (l:List Pt):Prop:=zch l/\zbz l
theorem z38 (x:Pt) (r:List Pt) (k:Nat):cor (r++[x]) k=cor (x::r) (k+1):=by
 have hl:(r++[x]).length=r.length+1:=by simp
 have hl2:(x::r).length=r.length+1:=by simp
 unfold cor
 rw[hl,hl2]
 have hk:k%(r.length+1)<r.length+1:=zP _ (by omega)
 have e:(k+1)%(r.length+1)=(k%(r.length+1)+1)%(r.length+1):=by rw[Nat.add_mod,<-Nat.add_mod,Nat.mod_add_mod]
 rw[e]
 generalize k%(r.length+1)=a at*
 rw[z5k hk]
 by_cases h:a=r.length
 ·subst h;rw[if_pos rfl];simp
 ·rw[if_neg (by omega),List.getElem?_append_left (by omega),List.getElem?_cons_succ]
theorem z7q (n i k:Nat) (hi:i<n) (hk:k<n) (hik:i<k) (h3:3<=n):
 zea n ((i+1)%n) ((k+1)%n)=zea n i k/\(i+1)%n<(k+1)%n\/zea n ((k+1)%n) ((i+1)%n)=zea n i k/\(k+1)%n<(i+1)%n:=by
 rw[z5k hi,z5k hk,if_neg (show ¬i+1=n by omega)]
 unfold zea
 by_cases h:k+1=n
 ·rw[if_pos h]
  refine .inr ⟨?_,by omega⟩
  by_cases c:k=i+1\/i=0/\k=n-1
  ·rw[if_pos c,if_pos (by omega)]
  ·rw[if_neg c,if_neg (by omega)]
 ·rw[if_neg h]
  refine .inl ⟨?_,by omega⟩
  by_cases c:k=i+1\/i=0/\k=n-1
  ·rw[if_pos c,if_pos (by omega)]
  ·rw[if_neg c,if_neg (by omega)]
theorem z5l {l:List Pt} (h:zbz l) {i k:Nat} (hi:i<l.length) (hk:k<l.length) (hne:i≠k):meet (cor l i) (cor l (i+1)) (cor l k) (cor l (k+1))=if i<k then zea l.length i k else zea l.length k i:=by
 by_cases c:i<k
 ·rw[if_pos c];exact h i k c hk
 ·rw[if_neg c,zo7];exact h k i (by omega) hi
theorem z5y {x:Pt} {r:List Pt} (h3:3<=(x::r).length) (h:z3q (x::r)):z3q (r++[x]):=by
 have hl:(r++[x]).length=(x::r).length:=by simp
 obtain⟨hs,hm⟩:=h
 have hc:=z38 x r
 generalize hL:x::r=l at*
 refine⟨λi hi=>?_,λi k hik hk=>?_⟩
 ·rw[hl] at hi
  rw[hc,hc]
  have:=hs ((i+1)%l.length) (zP _ (by omega))
  rw[zt4,z5j] at this
  exact this
 ·unfold okS2
  rw[hl] at hk⊢
  rw[hc,hc,hc,hc]
  have hi:i<l.length:=by omega
  have e:=z5l hm (i:=(i+1)%l.length) (k:=(k+1)%l.length) (zP _ (by omega)) (zP _ (by omega))
  rw[zt4,zt4,z5j,z5j] at e
  rcases z7q l.length i k hi hk hik h3 with⟨e1,e2⟩|⟨e1,e2⟩
  ·rw[e (by omega),if_pos e2,e1]
  ·rw[e (by omega),if_neg (by omega),e1]
theorem z4e:∀(s t:List Pt),3<=(s++t).length->z3q (s++t)->z3q (t++s)
 |[],t,_,h=>by simpa using h
 |x::s,t,h3,h=>by
  have h1:z3q ((s++t)++[x]):=z5y (by simpa using h3) (by simpa using h)
  have:=z4e s (t++[x]) (by simp at h3⊢;omega) (by simpa using h1)
  simpa using this
theorem z4i (l:List Pt) {k:Nat} (h:k<l.length):cor l.reverse k=cor l (l.length-1-k):=by
 rw[z3r (by simpa using h),z3r (by omega),List.getElem_reverse]
theorem z7r {l:List Pt} (h3:3<=l.length) (h:z3q l):z3q l.reverse:=by
 obtain⟨hs,hm⟩:=h
 have hl:l.reverse.length=l.length:=List.length_reverse ..
 -- the side i of the reversed list is the side s i of the list,from its end to its beginning
 have side:∀i,i<l.length->∃s,s<l.length/\cor l.reverse i=cor l (s+1)/\cor l.reverse (i+1)=cor l s/\(s+i+2=l.length\/s+1=l.length/\i+1=l.length):=by
  intro i hi
  by_cases c:i+1=l.length
  ·refine⟨l.length-1,by omega,?_,?_,.inr ⟨by omega,c⟩⟩
   ·rw[z4i l hi,show l.length-1+1=l.length by omega]
    unfold cor;rw[Nat.mod_self,show l.length-1-i=0 by omega,Nat.zero_mod]
   ·rw[c]
    have e:cor l.reverse l.length=cor l.reverse 0:=by unfold cor;rw[hl,Nat.mod_self,Nat.zero_mod]
    rw[e,z4i l (by omega)];rfl
  ·refine⟨l.length-2-i,by omega,?_,?_,.inl (by omega)⟩
   ·rw[z4i l hi];congr 1;omega
   ·rw[z4i l (by omega)];congr 1;omega
 refine⟨λi hi=>?_,λi k hik hk=>?_⟩
 ·rw[hl] at hi
  obtain⟨s,h1,h2,h3,_⟩:=side i hi
  rw[h2,h3]
  exact λe=>hs s h1 e.symm
 ·rw[hl] at hk
  unfold okS2
  rw[hl]
  obtain⟨s,a1,a2,a3,a4⟩:=side i (by omega)
  obtain⟨t,b1,b2,b3,b4⟩:=side k hk
  rw[a2,a3,b2,b3,z4b,z4c,z5l hm a1 b1 (by omega)]
  unfold zea
  by_cases c:s<t
  ·rw[if_pos c]
   by_cases c2:k=i+1\/i=0/\k=l.length-1
   ·rw[if_pos c2,if_pos (by omega)]
   ·rw[if_neg c2,if_neg (by omega)]
  ·rw[if_neg c]
   by_cases c2:k=i+1\/i=0/\k=l.length-1
   ·rw[if_pos c2,if_pos (by omega)]
   ·rw[if_neg c2,if_neg (by omega)]
theorem z3s (l:List Pt) (k:Nat):cor l (l.length+k)=cor l k:=by unfold cor;rw[Nat.add_mod_left]
theorem z3y:∀(s t:List Pt) (k:Nat),cor (t++s) k=cor (s++t) (k+s.length)
 |[],t,k=>by simp
 |x::s,t,k=>by
  have:=z3y s (t++[x]) k
  rw[yL,List.singleton_append] at this
  rw[this,<-yL,z38,yM,yA,Nat.add_assoc]
theorem z42 {l:List Pt} (h3:3<=l.length) (h:z3q l):z3q (l++[midP (cor l (l.length-1)) (cor l l.length)]):=by
 obtain⟨hs,hm⟩:=h
 have q0:cor l l.length=cor l 0:=by have:=z3s l 0;simpa using this
 have hne:=hs (l.length-1) (by omega)
 rw[show l.length-1+1=l.length by omega] at hne
 obtain⟨n1,n2⟩:=z8m hne
 have hmid:=z5i (cor l (l.length-1)) (cor l l.length)
 have hh:=z6f hne
 generalize hmm:midP (cor l (l.length-1)) (cor l l.length)=m at*
 have hL:(l++[m]).length=l.length+1:=by simp
 have C:∀k,k<l.length->cor (l++[m]) k=cor l k:=λk hk=>by
  rw[z3r (by rw[hL];omega),z3r hk,List.getElem_append_left hk]
 have Cn:cor (l++[m]) l.length=m:=by
  rw[z3r (by rw[hL];omega),List.getElem_append_right (zN _)];simp
 have Cn1:cor (l++[m]) (l.length+1)=cor l 0:=by
  have:=z3s (l++[m]) 0
  rw[hL] at this
  rw[<-C 0 (by omega)];exact this
 -- the neighbours of the side that is halved
 have J1:=hm (l.length-2) (l.length-1) (by omega) (by omega)
 have J2:=hm 0 (l.length-1) (by omega) (by omega)
 unfold okS2 zea at J1 J2
 rw[if_pos (.inl (by omega)),show l.length-2+1=l.length-1 by omega,show l.length-1+1=l.length by omega] at J1
 rw[if_pos (.inr ⟨rfl,rfl⟩),show l.length-1+1=l.length by omega,q0] at J2
 have d1:=hs (l.length-2) (by omega)
 rw[show l.length-2+1=l.length-1 by omega] at d1
 have d2:=hs 0 (by omega)
 obtain⟨a1,a2⟩:=z57 d1 hne J1
 rw[hmm] at a1 a2
 have J2':meet (cor l (0+1)) (cor l 0) (cor l 0) (cor l (l.length-1))=1:=by rw[z4b,z4c];exact J2
 obtain⟨b1,b2⟩:=z57 (Ne.symm d2) (by rw[<-q0];exact Ne.symm hne) J2'
 rw[q0] at hmid
 rw[<-hmid] at b1 b2
 refine⟨λi hi=>?_,λi k hik hk=>?_⟩
 ·rw[hL] at hi
  by_cases c:i+1<l.length
  ·rw[C i (by omega),C _ c];exact hs i (by omega)
  ·by_cases c2:i+1=l.length
   ·rw[C i (by omega),c2,Cn,show i=l.length-1 by omega];exact n1
   ·rw[show i=l.length by omega,Cn,Cn1,<-q0];exact n2
 ·rw[hL] at hk
  unfold okS2
  rw[hL]
  by_cases c:k+1<l.length
  ·rw[C i (by omega),C (i+1) (by omega),C k (by omega),C _ c,hm i k hik (by omega)]
   unfold zea
   by_cases c2:k=i+1
   ·rw[if_pos (.inl c2),if_pos (.inl c2)]
   ·rw[if_neg (by omega),if_neg (by omega)]
  ·by_cases c1:k+1=l.length
   ·rw[C i (by omega),C (i+1) (by omega),C k (by omega),c1,Cn]
    by_cases c2:k=i+1
    ·have:i=l.length-2:=by omega
     subst this
     unfold zea
     rw[if_pos (.inl c2),show k=l.length-1 by omega,show l.length-2+1=l.length-1 by omega]
     exact a1
    ·unfold zea
     rw[if_neg (by omega),show k=l.length-1 by omega]
     by_cases c4:i=0
     ·subst c4
      rw[z4b,z4c] at b2
      exact b2
     ·have:=hm i (l.length-1) (by omega) (by omega)
      unfold okS2 zea at this
      rw[if_neg (by omega),show l.length-1+1=l.length by omega] at this
      have:=z5q this
      rw[hmm] at this
      exact this
   ·have hkl:k=l.length:=by omega
    subst hkl
    rw[Cn,Cn1]
    unfold zea
    by_cases c2:l.length=i+1
    ·rw[if_pos (.inl c2),C i (by omega),<-c2,Cn,show i=l.length-1 by omega,<-q0];exact hh
    ·rw[C i (by omega),C (i+1) (by omega)]
     by_cases c4:i=0
     ·subst c4
      rw[if_pos (.inr ⟨rfl,by omega⟩)]
      rw[z4b,z4c] at b1
      exact b1
     ·rw[if_neg (by omega)]
      by_cases c5:i=l.length-2
      ·rw[c5,show l.length-2+1=l.length-1 by omega,<-q0];exact a2
      ·have:=hm i (l.length-1) (by omega) (by omega)
       unfold okS2 zea at this
       rw[if_neg (by omega),show l.length-1+1=l.length by omega] at this
       have:=z6p this
       rw[hmm,q0] at this
       exact this
def z36 (l:List Pt) (k:Nat):List Pt:=l.take (k+1)++midP (cor l k) (cor l (k+1))::l.drop (k+1)
theorem z6j {l:List Pt} {k:Nat} (hk:k<l.length):midP (cor (l.drop (k+1)++l.take (k+1)) (l.length-1)) (cor (l.drop (k+1)++l.take (k+1)) l.length)=midP (cor l k) (cor l (k+1)):=by
 have hl:(l.take (k+1)).length=k+1:=by simp;omega
 rw[z3y (l.take (k+1)) (l.drop (k+1)) (l.length-1),z3y (l.take (k+1)) (l.drop (k+1)) l.length,yN,hl,show l.length-1+(k+1)=l.length+k by omega,z3s,z3s]
theorem z66 {l:List Pt} (h3:3<=l.length) (h:z3q l) {k:Nat} (hk:k<l.length):z3q (z36 l k):=by
 have h':z3q (l.drop (k+1)++l.take (k+1)):=z4e _ _ (by rw[yN];exact h3) (by rw[yN];exact h)
 have hl:(l.drop (k+1)++l.take (k+1)).length=l.length:=by simp;omega
 have hm:=z42 (by rw[hl];exact h3) h'
 rw[hl,z6j hk,yL] at hm
 have:=z4e _ _ (by simp;omega) hm
 unfold z36
 simpa using this
def z3l (o:List Pt):Nat->Nat
 |0=>0
 |k+1=>if ordP (cor o k) (cor o (z3l o k))<0 then k else z3l o k
def z31 (o:List Pt):List Pt:=
 if turn (cor o (z3l o o.length+o.length-1)) (cor o (z3l o o.length)) (cor o (z3l o o.length+1))<0 then
  o.reverse.drop (o.length-1-z3l o o.length)++o.reverse.take (o.length-1-z3l o o.length)
 else o.drop (z3l o o.length)++o.take (z3l o o.length)
theorem z4f {o:List Pt} (h:0<o.length):∀k,k<=o.length->z3l o k<o.length/\∀j,j<k->le (cor o (z3l o k)) (cor o j)
 |0,_=>⟨h,λj hj=>absurd hj (by omega)⟩
 |k+1,hk=>by
  obtain⟨h1,h2⟩:=z4f h k (by omega)
  rw[z3l]
  split
  ·rename_i c
   refine⟨by omega,λj hj=>?_⟩
   by_cases e:j=k
   ·subst e;exact zhp _
   ·exact le_trans (show le _ _ by unfold le;omega) (h2 j (by omega))
  ·rename_i c
   refine⟨h1,λj hj=>?_⟩
   by_cases e:j=k
   ·subst e
    have:=z3t (cor o j) (cor o (z3l o j))
    unfold le;omega
   ·exact h2 j (by omega)
theorem z7s {a b:List Pt} {P:Pt} (hn:(a++P::b).Nodup) (hP:∀x∈a++P::b,le P x):z3l (a++P::b) (a++P::b).length=a.length:=by
 generalize ho:a++P::b=o at*
 have hl:0<o.length:=by rw[<-ho];simp;omega
 have ha:a.length<o.length:=by rw[<-ho];simp
 obtain⟨h1,h2⟩:=z4f hl o.length (zN _)
 have e1:=h2 a.length ha
 have ea:cor o a.length=P:=by rw[z3r ha];simp[<-ho]
 rw[ea] at e1
 have e2:le P (cor o (z3l o o.length)):=by rw[z3r h1];exact hP _ (List.getElem_mem h1)
 have e3:=le_antisymm e1 e2
 rw[<-ea,z3r h1,z3r ha] at e3
 exact(List.getElem_inj hn).1 e3
def canC (P:Pt) (d:List Pt):List Pt:=if turn (cor (P::d) d.length) P (cor (P::d) 1)<0 then P::d.reverse else P::d
theorem z3x {a b:List Pt} {P:Pt} (hn:(a++P::b).Nodup) (hP:∀x∈a++P::b,le P x):z31 (a++P::b)=canC P (b++a):=by
 have hf:=z7s hn hP
 have hl:(a++P::b).length=a.length+b.length+1:=by simp;omega
 have k0:=z3y a (P::b) 0
 have k1:=z3y a (P::b) 1
 have k2:=z3y a (P::b) (a.length+b.length)
 have kP:cor (P::(b++a)) 0=P:=rfl
 rw[yM] at k0 k1 k2
 unfold z31 canC
 rw[hf,hl,show a.length+(a.length+b.length+1)-1=a.length+b.length+a.length by omega,<-k2,show a.length+1=1+a.length by omega,<-k1,show cor (a++P::b) a.length=P by rw[Nat.zero_add,kP] at k0;exact k0.symm]
 rw[show(b++a).length=a.length+b.length by simp;omega]
 have e1:(a++P::b).reverse=b.reverse++P::a.reverse:=by simp
 rw[e1,show a.length+b.length+1-1-a.length=b.reverse.length by simp]
 split
 ·simp
 ·simp
theorem z4q:∀(o:List Pt),o≠[]->∃a P b,o=a++P::b/\∀x∈o,le P x
 |[],h=>absurd rfl h
 |[x],_=>⟨[],x,[],rfl,λy hy=>by simp at hy;subst hy;exact zhp _⟩
 |x::y::r,_=>by
  obtain⟨a,P,b,e,h⟩:=z4q (y::r) (by simp)
  rcases z7m x P with c|c
  ·refine⟨[],x,y::r,rfl,λz hz=>?_⟩
   rcases List.mem_cons.1 hz with rfl|hz
   ·exact zhp _
   ·exact le_trans c (h z hz)
  ·refine⟨x::a,P,b,by rw[e];rfl,λz hz=>?_⟩
   rcases List.mem_cons.1 hz with rfl|hz
   ·exact c
   ·exact h z hz
theorem z6q {s t:List Pt} (hn:(s++t).Nodup):z31 (t++s)=z31 (s++t):=by
 by_cases h0:s++t=[]
 ·simp at h0;obtain⟨rfl,rfl⟩:=h0;rfl
 have hn':(t++s).Nodup:=(List.perm_append_comm.nodup_iff).1 hn
 obtain⟨a,P,b,e,hP⟩:=z4q _ h0
 have hP':∀x∈t++s,le P x:=λx hx=>hP x (by simp at hx⊢;exact hx.symm)
 rw[e] at hP hn
 rcases List.append_eq_append_iff.1 e with⟨c,rfl,e2⟩|⟨c,e1,e2⟩
 ·rw[e,z3x hn hP]
  rw[e2,yL,yM] at hP' hn'⊢
  rw[z3x hn' hP',yL]
 ·cases c with
  |nil=>
   simp at e1 e2
   subst e1
   rw[e,z3x hn hP]
   rw[<-e2,yM] at hP' hn'⊢
   have:=z3x (a:=[]) hn' hP'
   simp only[yI,List.append_nil] at this
   exact this
  |cons x c=>
   simp only[yM,List.cons.injEq] at e2
   obtain⟨rfl,rfl⟩:=e2
   rw[e,z3x hn hP]
   rw[e1,<-yL] at hP' hn'⊢
   rw[z3x hn' hP',yL]
theorem z43 (a b c:Pt):turn c b a= -turn a b c:=by rw[zda,zj3]
theorem z7t {P:Pt} {d:List Pt} (h:turn (cor (P::d) d.length) P (cor (P::d) 1)≠0):canC P d.reverse=canC P d:=by
 cases hd:d with
 |nil=>rfl
 |cons x r=>
  rw[<-hd]
  have hl:0<d.length:=by rw[hd];simp
  have e1:cor (P::d.reverse) d.reverse.length=cor (P::d) 1:=by
   rw[z3r (by simp),z3r (by simp;omega)]
   simp only[List.getElem_cons_succ,List.length_reverse]
   rw[List.getElem_cons,dif_neg (by omega),List.getElem_reverse]
   congr 1;omega
  have e2:cor (P::d.reverse) 1=cor (P::d) d.length:=by
   rw[z3r (by simp;omega),z3r (by simp)]
   simp only[List.getElem_cons_succ]
   rw[List.getElem_reverse,List.getElem_cons,dif_neg (by omega)]
   congr 1
  unfold canC
  rw[e1,e2,z43,List.reverse_reverse]
  by_cases c:turn (cor (P::d) d.length) P (cor (P::d) 1)<0
  ·rw[if_pos c,if_neg (by omega)]
  ·rw[if_neg c,if_pos (by omega)]
theorem z6r {o:List Pt} (hn:o.Nodup) (h0:o≠[]) (hz:∀a P b,o=a++P::b->turn (cor (P::(b++a)) (b++a).length) P (cor (P::(b++a)) 1)≠0):z31 o.reverse=z31 o:=by
 obtain⟨a,P,b,e,hP⟩:=z4q _ h0
 have hz:=hz a P b e
 have hn':o.reverse.Nodup:=(List.reverse_perm o).nodup_iff.2 hn
 have hP':∀x∈o.reverse,le P x:=λx hx=>hP x (by simpa using hx)
 have e':o.reverse=b.reverse++P::a.reverse:=by rw[e];simp
 rw[e'] at hn' hP'⊢
 rw[z3x hn' hP',<-List.reverse_append,z7t hz,e]
 rw[e] at hn hP
 rw[z3x hn hP]
def z3m (l:List Pt) (i:Nat):Bool:=decide (turn (cor l (i+l.length-1)) (cor l i) (cor l (i+1))=0)
def z3o (l:List Pt) (k:Nat):List Pt:=((List.range k).filter λi=>!z3m l i).map (cor l)
def z3n (l:List Pt):List Pt:=z3o l l.length
theorem z35 (l:List Pt) (k:Nat):z3o l (k+1)=if z3m l k then z3o l k else z3o l k++[cor l k]:=by
 unfold z3o
 rw[List.range_succ,List.filter_append,List.map_append]
 cases h:z3m l k<;>simp[h]
def z3p (l:List Pt):List Pt:=z31 (z3n l)
theorem z58 {l:List Pt} (h3:3<=l.length) (h:z3q l) {i k:Nat} (hik:i<k) (hk:k<l.length):cor l i≠cor l k:=by
 obtain⟨hs,hm⟩:=h
 intro e
 by_cases c:k=i+1
 ·subst c;exact hs i (by omega) e
 by_cases c2:i=0/\k=l.length-1
 ·obtain⟨rfl,rfl⟩:=c2
  have:=hs (l.length-1) (by omega)
  rw[show l.length-1+1=l.length+0 by omega,z3s] at this
  exact this e.symm
 ·have:=hm i k hik hk
  unfold okS2 zea at this
  rw[if_neg (by omega),e] at this
  have:=zzf (cor l k) (cor l (i+1)) (cor l (k+1))
  omega
theorem z6s {l:List Pt} (h3:3<=l.length) (h:z3q l):l.Nodup:=by
 rw[List.nodup_iff_pairwise_ne,List.pairwise_iff_getElem]
 intro i j hi hj hij
 have:=z58 h3 h hij hj
 rwa [z3r hi,z3r hj] at this
theorem z5m (l:List Pt):(z3n l).Sublist l:=by
 have e:l=(List.range l.length).map (cor l):=by
  apply List.ext_getElem
  ·simp
  ·intro i h1 h2
   rw[List.getElem_map,List.getElem_range,z3r h1]
 unfold z3n z3o
 conv=>rhs;rw[e]
 exact List.filter_sublist.map _
theorem z4t {l:List Pt} (h3:3<=l.length) (h:z3q l):(z3n l).Nodup:=(z5m l).nodup (z6s h3 h)
theorem z67 (x:Pt) (r:List Pt):∃e M,z3n (x::r)=e++M/\z3n (r++[x])=M++e:=by
 have hl:(r++[x]).length=r.length+1:=by simp
 have hl2:(x::r).length=r.length+1:=by simp
 have hf:∀i,z3m (r++[x]) i=z3m (x::r) (i+1):=by
  intro i
  unfold z3m
  rw[hl,hl2,z38,z38,z38]
  congr 4
  all_goals omega
 have hf0:z3m (x::r) (r.length+1)=z3m (x::r) 0:=by
  unfold z3m
  rw[hl2]
  have a0:=z3s (x::r) 0;have a1:=z3s (x::r) 1;have a2:=z3s (x::r) r.length
  rw[hl2] at a0 a1 a2
  rw[show r.length+1+(r.length+1)-1=r.length+1+r.length by omega,a2,show r.length+1+1=r.length+1+1 from rfl,a1,show 0+(r.length+1)-1=r.length by omega]
  rw[show cor (x::r) (r.length+1)=cor (x::r) 0 from a0]
 refine⟨if z3m (x::r) 0 then[] else[x],((List.range r.length).filter λi=>!z3m (x::r) (i+1)).map λi=>cor (x::r) (i+1),?_,?_⟩
 ·unfold z3n z3o
  rw[hl2,List.range_succ_eq_map,List.filter_cons,List.filter_map]
  cases h:z3m (x::r) 0
  ·simp[Function.comp_def];rfl
  ·simp[Function.comp_def]
 ·unfold z3n z3o
  rw[hl,List.range_succ,List.filter_append,List.map_append]
  congr 1
  ·simp only[hf]
   congr 1
   funext i
   exact z38 x r i
  ·rw[List.filter_cons,List.filter_nil,hf,hf0]
   cases h:z3m (x::r) 0
   ·simp[z38]
    have a0:=z3s (x::r) 0
    rw[hl2] at a0
    exact a0
   ·simp
theorem z4m:∀(s t:List Pt),3<=(s++t).length->z3q (s++t)->z3p (t++s)=z3p (s++t)
 |[],t,_,_=>by simp
 |x::s,t,h3,h=>by
  obtain⟨e,M,e1,e2⟩:=z67 x (s++t)
  have h1:z3q ((s++t)++[x]):=z5y (by simpa using h3) (by simpa using h)
  have hn:=z4t (by simpa using h3) h
  rw[yM,e1] at hn
  have k1:z3p ((s++t)++[x])=z3p ((x::s)++t):=by
   unfold z3p
   rw[e2,yM,e1]
   exact z6q hn
  have:=z4m s (t++[x]) (by simp at h3⊢;omega) (by simpa using h1)
  rw[<-k1,yL,<-this]
  simp
theorem z7u (l:List Pt):z3n l.reverse=(z3n l).reverse:=by
 have hl:l.reverse.length=l.length:=List.length_reverse ..
 have hc:∀i,i<l.length->cor l.reverse i=cor l (l.length-1-i):=λi hi=>z4i l hi
 have hf:∀i,i<l.length->z3m l.reverse i=z3m l (l.length-1-i):=by
  intro i hi
  have hn:cor l.reverse (i+1)=cor l (l.length-1-i+l.length-1):=by
   by_cases c:i+1<l.length
   ·rw[hc _ c,show l.length-1-i+l.length-1=l.length+(l.length-1-(i+1)) by omega,z3s]
   ·have a0:=z3s l.reverse 0
    rw[hl] at a0
    rw[show i+1=l.length+0 by omega,a0,hc 0 (by omega)]
    congr 1;omega
  have hp:cor l.reverse (i+l.length-1)=cor l (l.length-1-i+1):=by
   by_cases c:i=0
   ·subst c
    rw[hc _ (by omega),show l.length-1-0+1=l.length+0 by omega,z3s]
    congr 1;omega
   ·have a0:=z3s l.reverse (i-1)
    rw[hl] at a0
    rw[show i+l.length-1=l.length+(i-1) by omega,a0,hc _ (by omega)]
    congr 1;omega
  unfold z3m
  rw[hl,hn,hp,hc i hi,z43]
  congr 1
  apply propext
  constructor<;>intro h<;>omega
 have er:(List.range l.length).reverse=(List.range l.length).map λi=>l.length-1-i:=by
  apply List.ext_getElem
  ·simp
  ·intro i h1 h2
   simp
 unfold z3n z3o
 rw[hl,<-List.map_reverse,<-List.filter_reverse,er,List.filter_map,List.map_map]
 have:∀i∈List.range l.length,((λi=>!z3m l i) ∘ λi=>l.length-1-i) i=(λi=>!z3m l.reverse i) i:=λi hi=>by
  simp only[Function.comp_def]
  rw[hf i (List.mem_range.1 hi)]
 rw[List.filter_congr this]
 apply List.map_congr_left
 intro i hi
 simp only[Function.comp_def]
 exact hc i (List.mem_range.1 (List.mem_filter.1 hi).1)
theorem z6a {l:List Pt} (h3:3<=l.length):z3n (l++[midP (cor l (l.length-1)) (cor l l.length)])=z3n l:=by
 have q0:cor l l.length=cor l 0:=by have:=z3s l 0;simpa using this
 generalize hmm:midP (cor l (l.length-1)) (cor l l.length)=m
 have hL:(l++[m]).length=l.length+1:=by simp
 have C:∀k,k<l.length->cor (l++[m]) k=cor l k:=λk hk=>by
  rw[z3r (by rw[hL];omega),z3r hk,List.getElem_append_left hk]
 have Cn:cor (l++[m]) l.length=m:=by
  rw[z3r (by rw[hL];omega),List.getElem_append_right (zN _)];simp
 have Cn1:∀k,k<l.length->cor (l++[m]) (l.length+1+k)=cor l k:=λk hk=>by
  have:=z3s (l++[m]) k
  rw[hL] at this
  rw[this,C k hk]
 have hf:∀i,i<l.length->z3m (l++[m]) i=z3m l i:=by
  intro i hi
  unfold z3m
  rw[hL,C i hi]
  by_cases c0:i=0
  ·subst c0
   rw[show 0+(l.length+1)-1=l.length by omega,Cn,C _ (by omega),<-hmm,q0,z4l,show 0+l.length-1=l.length-1 by omega]
  ·rw[show i+(l.length+1)-1=l.length+1+(i-1) by omega,Cn1 _ (by omega),show i+l.length-1=l.length+(i-1) by omega,z3s]
   by_cases c1:i+1<l.length
   ·rw[C _ c1]
   ·rw[show i+1=l.length by omega,Cn,<-hmm,show l.length-1=i by omega,(z4y (cor l (i-1)) (cor l i) (cor l i) (cor l l.length)).2.1 (zc8 _ _)]
 have hfn:z3m (l++[m]) l.length=true:=by
  unfold z3m
  rw[hL,show l.length+(l.length+1)-1=l.length+1+(l.length-1) by omega,Cn1 _ (by omega),Cn]
  have:=Cn1 0 (by omega)
  rw[Nat.add_zero] at this
  rw[this,<-hmm,q0,z7n]
  rfl
 unfold z3n
 rw[hL,z35,if_pos hfn]
 unfold z3o
 have:∀i∈List.range l.length,(λi=>!z3m (l++[m]) i) i=(λi=>!z3m l i) i:=λi hi=>by
  simp only[hf i (List.mem_range.1 hi)]
 rw[List.filter_congr this]
 apply List.map_congr_left
 intro i hi
 exact C i (List.mem_range.1 (List.mem_filter.1 hi).1)
theorem z6t {l:List Pt} (h3:3<=l.length) (h:z3q l) {k:Nat} (hk:k<l.length):z3p (z36 l k)=z3p l:=by
 have h':z3q (l.drop (k+1)++l.take (k+1)):=z4e _ _ (by rw[yN];exact h3) (by rw[yN];exact h)
 have hl:(l.drop (k+1)++l.take (k+1)).length=l.length:=by simp;omega
 have hm:=z42 (by rw[hl];exact h3) h'
 have hk2:=z6a (l:=l.drop (k+1)++l.take (k+1)) (by rw[hl];exact h3)
 rw[hl,z6j hk,yL] at hm hk2
 have e1:=z4m _ _ (by simp;omega) hm
 have e2:=z4m (l.take (k+1)) (l.drop (k+1)) (by rw[yN];exact h3) (by rw[yN];exact h)
 rw[yN] at e2
 have e3:z3p (l.drop (k+1)++(l.take (k+1)++[midP (cor l k) (cor l (k+1))]))=z3p (l.drop (k+1)++l.take (k+1)):=by unfold z3p;rw[hk2]
 unfold z36
 rw[<-e2,<-e3,<-e1,yL]
 rfl
end
end Go.Proofs.YtlaccnphhomdgaaGreatDoor
