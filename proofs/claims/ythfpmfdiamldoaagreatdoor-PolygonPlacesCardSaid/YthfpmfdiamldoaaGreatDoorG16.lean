/- polygon.simple. -/
import Derived.Test.YthfpmfdiamldoaaGreatDoorG15
import Derived.Deep.Quiet
set_option maxRecDepth 100000
set_option maxHeartbeats 8000000
open Go renaming World → zA, Calls → zC
open Go.RowKit renaming Below → zB, intOf → zL
open Go.Proofs.Tryz renaming prog → zF
open Go.World renaming alloc_heap_new → zG
open Go.IntWalk renaming i64_in → zI
open Go.Joins renaming cell_of_block → zJ
open Go.RowKit.Below renaming refl → zM
open Nat renaming le_refl → zN, zero_le → zR
open List renaming length_map → zV
namespace Go.Proofs.YthfpmfdiamldoaaGreatDoor
section
open Go.RowKit Go.Shelf Lib Str Limb Geo
attribute [local go_sem] Oper.semAt_some
def txt (l:List Pt):List (List UInt8×List UInt8):=l.map λp=>(numS p.x,numS p.y)
theorem za2 (l:List Pt):(txt l).length=l.length:=by simp[txt]
def cor (l:List Pt) (k:Nat):Pt:=l[k%l.length]?.getD ⟨0,0⟩
theorem zj4 (l:List Pt) (k:Nat) (hk:k<l.length):ptOf (txt l) k=(numS (cor l k).x,numS (cor l k).y):=by
 unfold ptOf txt cor
 rw[List.getElem?_map,Nat.mod_eq_of_lt hk,List.getElem?_eq_getElem hk];rfl
theorem zt4 (l:List Pt) (k:Nat):cor l (k%l.length)=cor l k:=by unfold cor;rw[Nat.mod_mod]
theorem zgj (l:List Pt) (k:Nat) (hk:k<l.length):zk9 (txt l) k=segV (cor l k) (cor l (k+1)):=by
 unfold zk9
 rw[za2,zj4 l k hk,zj4 l _ (Nat.mod_lt _ (by omega)),zt4];rfl
def zea (n i k:Nat):Int:=if k=i+1\/(i=0/\k=n-1) then 1 else 0
def okS2 (l:List Pt) (i k:Nat):Prop:=meet (cor l i) (cor l (i+1)) (cor l k) (cor l (k+1))=zea l.length i k
def zbz (l:List Pt):Prop:=∀i k,i<k->k<l.length->okS2 l i k
structure SimS (w:zA) (p:Option Addr) (cap n:Nat) (l:List Pt) (W:zA):Prop where
 bel:qL w W
 box:W.cell? ⟨w.heap.size,0,none⟩=some (.slice p n cap)
 res:W.cell? ⟨w.heap.size+1,0,none⟩=some (.bool false)
 fr:W.frozen? ⟨w.heap.size+1,0,none⟩=false
 cbx:W.cell? ⟨w.heap.size+1+1,0,none⟩=some (.slice p n cap)
 pts:∀i,i<n->∃b off,p=some ⟨b,off,none⟩/\W.cell? ⟨b,off+i*2,none⟩=some (St (ptOf (txt l) i).1)/\W.cell? ⟨b,off+i*2+1,none⟩=some (St (ptOf (txt l) i).2)
theorem SimS.keep {w:zA} {p:Option Addr} {cap n:Nat} {l:List Pt} {W W':zA} (h:SimS w p cap n l W) (hc:CellsKept W W') (hb:zB w.heap.size W W'):SimS w p cap n l W':=
 ⟨h.bel.trans hb,hc.cell h.box,hc.cell h.res,hc.frozen h.res h.fr,hc.cell h.cbx,λi hi=>let ⟨b,off,e,h1,h2⟩:=h.pts i hi;⟨b,off,e,hc.cell h1,hc.cell h2⟩⟩
theorem SimS.ptsAt {w:zA} {p:Option Addr} {cap n:Nat} {l:List Pt} {W:zA} (hn:n=l.length) (h:SimS w p cap n l W) {B:Nat} (hB:W.cell? ⟨B,0,none⟩=some (.slice p n cap)):zls B p cap (txt l) W:=by
 refine⟨by rw[za2,<-hn];exact hB,λi hi=>h.pts i (by rw[za2] at hi;omega)⟩
structure SegAt (b:Nat) (x y:Pt) (W:zA):Prop where
 h0:W.cell? ⟨b,0,none⟩=some (St (numS x.x))
 h1:W.cell? ⟨b,1,none⟩=some (St (numS x.y))
 h2:W.cell? ⟨b,2,none⟩=some (St (numS y.x))
 h3:W.cell? ⟨b,3,none⟩=some (St (numS y.y))
theorem SegAt.new (W:zA) (x y:Pt) (t:TypeId):SegAt W.heap.size x y (W.alloc (.cells #[St (numS x.x),St (numS x.y),St (numS y.x),St (numS y.y)] t)):=by
 have A:=zG W (.cells #[St (numS x.x),St (numS x.y),St (numS y.x),St (numS y.y)] t)
 constructor<;>(rw[zJ A];rfl)
theorem SegAt.keep {b:Nat} {x y:Pt} {W W':zA} (h:SegAt b x y W) (hc:CellsKept W W'):SegAt b x y W':=⟨hc.cell h.h0,hc.cell h.h1,hc.cell h.h2,hc.cell h.h3⟩
theorem zs9 (p:Option Addr) (cap:Nat) (l:List Pt) (h3:3<=l.length) (hlen:l.length<=4096)
 (M:Hid (∀i k,i<l.length->k<l.length->qK 33 #[segV (cor l i) (cor l (i+1)),segV (cor l k) (cor l (k+1))] (.int .i64 (meet (cor l i) (cor l (i+1)) (cor l k) (cor l (k+1))))))
 (w:zA) (HW:Hid (Wd w))
 (HP:Hid (∀i,i<l.length->∃b off,p=some ⟨b,off,none⟩/\w.cell? ⟨b,off+i*2,none⟩=some (St (ptOf (txt l) i).1)/\w.cell? ⟨b,off+i*2+1,none⟩=some (St (ptOf (txt l) i).2))):
 zC zF 49 #[.slice p l.length cap] w λe w'=>∃b,e=.returned (.bool b)/\(b=true↔zbz l)/\zB w.heap.size w w':=by
 refine(callsIn_wide (n:=5)).1 ?_
 refine callsIn_of_wp_marks Tryz.func49 rfl trivial ?_ rfl
 simp only[Tryz.ntmps49,List.size_toArray,List.length_cons,List.length_nil,Nat.reduceAdd,Nat.reduceSub,Array.replicate_succ,Array.replicate_zero,List.push_toArray,List.append_toArray,List.nil_append,List.cons_append]
 obtain⟨n,hn⟩:∃n,n=l.length:=⟨_,rfl⟩
 have hS0:SimS w p cap n l (((w.alloc (.cells #[.slice p n cap] 22)).alloc (.cells #[.bool false] 4)).alloc (.cells #[.slice p n cap] 22)):=by
  have b1:=Boxed.new w 22 (.slice p n cap)
  have b2:=Boxed.new (w.alloc (.cells #[.slice p n cap] 22)) 4 (.bool false)
  have b3:=Boxed.new ((w.alloc (.cells #[.slice p n cap] 22)).alloc (.cells #[.bool false] 4)) 22 (.slice p n cap)
  have b12:=(b1.alloc (.cells #[.bool false] 4)).alloc (.cells #[.slice p n cap] 22)
  have b22:=b2.alloc (.cells #[.slice p n cap] 22)
  simp only[World.size_alloc] at b3 b22
  have hbel:qL w (((w.alloc (.cells #[.slice p n cap] 22)).alloc (.cells #[.bool false] 4)).alloc (.cells #[.slice p n cap] 22)):=(((zM _ w).alloc (zN _) _).alloc (by simp) _).alloc (by simp;omega) _
  refine⟨hbel,b12.cell,b22.cell,b22.frozen,b3.cell,λi hi=>?_⟩
  obtain⟨b,off,e,h1,h2⟩:=HP.out i (by omega)
  exact⟨b,off,e,zai hbel h1,zai hbel h2⟩
 rw[<-hn] at h3 hlen⊢
 have HN:=hid hn;clear hn
 have HS0:=hid hS0;clear hS0 HP
 gi_wp2_with (refine⟨trivial,?_⟩;gi_at_call 32;refine(callsIn_wide.2 (zfr _ _ _ _ _ rfl)).mono ?_;rintro e w' ⟨rfl,rfl⟩)
 have hS0:=HS0.out;clear HS0
 generalize ((w.alloc (.cells #[.slice p n cap] 22)).alloc (.cells #[.bool false] 4)).alloc (.cells #[.slice p n cap] 22)=W0 at*
 have HS:=hid hS0.bel.size
 have hseq:=zgi 4 (by omega) (w.heap.size+1+1) (txt l) (by rw[za2,<-HN.out];omega) (λW=>SimS w p cap n l W) p cap (λW h=>h.ptsAt HN.out h.cbx)
 rw[za2,<-HN.out] at hseq
 refine zfq (n:=5) (B:=w.heap.size) rfl (by omega) rfl trivial (enters_of Tryz.func82 (by kernel_rfl) rfl) hseq (λk args h=>by subst h;rfl) hS0.bel.size
  (λk W=>SimS w p cap n l W/\∀i j,i<k->i<j->j<n->okS2 l i j)
  (λc _ W=>c=.ret/\zB w.heap.size w W/\W.cell? ⟨w.heap.size+1,0,none⟩=some (.bool false)/\¬zbz l)
  (λk W W' h hc hb=>⟨h.1.keep hc hb,h.2⟩) (λc k W W' h hc hb=>⟨h.1,h.2.1.trans hb,hc.cell h.2.2.1,h.2.2.2⟩) (λk W h=>h.1) ⟨hS0,λi j h=>by omega⟩
  (λk _ a' W=>∃bi bs,a'={tmps:= #[Value.slice p n cap,Value.pointer (some {block:=w.heap.size,off:=0}),Value.pointer (some {block:=w.heap.size+1,off:=0}),.pointer (some ⟨bi,0,none⟩),.pointer (some ⟨bs,0,none⟩),undef,undef,undef,Value.slice p n cap,
    Value.func (Fn.func 82) #[] #[Value.pointer (some {block:=w.heap.size+1+1,off:=0})],I k,segV (cor l k) (cor l (k+1)),undef,undef,undef,undef,undef,undef,undef,undef,undef,undef,undef,undef,undef,undef,undef,undef,undef,undef,undef,undef,undef,undef,undef,undef,undef,undef,undef],defers:=[]}/\W.cell? ⟨bi,0,none⟩=some (I k)/\SegAt bs (cor l k) (cor l (k+1)) W)
  (λk _ a' W W' h hc hb=>let ⟨bi,bs,e,h1,h2⟩:=h;⟨bi,bs,e,hc.cell h1,h2.keep hc⟩) ?assign ?body ?done ?stop
 case assign=>
  rintro lp k args W K hlp hrec ⟨hS,hP⟩ hk rfl hK
  rw[zgj l k (by rw[<-HN.out];exact hk)]
  have HK:=hid hK;clear hK
  unfold segV
  gi_wp2
  have hb1:qL W (W.alloc (.cells #[I k] 3)):=(zM _ W).alloc (zN _) _
  have hb2:qL W ((W.alloc (.cells #[I k] 3)).alloc (.cells #[St (numS (cor l k).x),St (numS (cor l k).y),St (numS (cor l (k+1)).x),St (numS (cor l (k+1)).y)] 63)):=hb1.alloc (by simp) _
  have hseg:=SegAt.new (W.alloc (.cells #[I k] 3)) (cor l k) (cor l (k+1)) 63
  rw[World.size_alloc] at hseg
  refine HK.out _ _ ((za0 hb2).from _) ⟨hS.keep (zac hb2) (hb2.mono hS.bel.size),hP⟩ ⟨W.heap.size,W.heap.size+1,rfl,?_,hseg⟩
  exact(Boxed.alloc (Boxed.new W 3 (I k)) _).cell
 case body=>
  rintro lp k args a' W hlp ⟨r,hr⟩ ⟨hS,hP⟩ hk rfl ⟨bi,bs,rfl,hi,hseg⟩
  have hbox:=hS.box
  obtain⟨W2,hW2⟩:∃W2,W2=W.alloc (.cells #[.slice p n cap] 22):=⟨_,rfl⟩
  have hb2:qL W W2:=by rw[hW2];exact(zM _ W).alloc (zN _) _
  have hcb:W2.cell? ⟨W.heap.size,0,none⟩=some (.slice p n cap):=by rw[hW2];exact(Boxed.new W 22 (.slice p n cap)).cell
  have hr2:W2.heap[lp]? =some (.loop r):=(hb2.block _ (Array.getElem?_eq_some_iff.1 hr).1).trans hr
  have H0:=hid (⟨hS,hP⟩:SimS w p cap n l W/\∀i j,i<k->i<j->j<n->okS2 l i j)
  have HC:=hid (⟨hi,hseg,hb2,hcb⟩:W.cell? ⟨bi,0,none⟩=some (I k)/\SegAt bs (cor l k) (cor l (k+1)) W/\zB W.heap.size W W2/\W2.cell? ⟨W.heap.size,0,none⟩=some (.slice p n cap))
  have HW2:=hid hW2;clear hW2 hS hP hi hseg hb2 hcb hr hseq hS0
  gi_wp2_with (refine⟨trivial,?_⟩;gi_at_call 32;refine(CallsIn.inRound lp (callsIn_wide.2 (zfr _ _ _ _ _ rfl))).mono ?_;rintro e w' ⟨rfl,rfl⟩)
  rw[<-HW2.out]
  obtain⟨hi,hseg,hb2,hcb⟩:=HC.out
  obtain⟨hS,hP⟩:=H0.out
  have hseq:=zgi 2 (by omega) W.heap.size (txt l) (by rw[za2,<-HN.out];omega) (λW'=>SimS w p cap n l W'/\W'.cell? ⟨W.heap.size,0,none⟩=some (.slice p n cap)) p cap (λW h=>h.1.ptsAt HN.out h.2)
  rw[za2,<-HN.out] at hseq
  refine zs7 (l₀:=lp) (r₀:=r) (n:=3) (B:=W.heap.size) rfl hr2 (by omega) rfl trivial (enters_of Tryz.func82 (by kernel_rfl) rfl) (hseq.inRound lp) (λk args h=>by subst h;rfl) hb2.size
   (λj W'=>qL W W'/\W'.cell? ⟨W.heap.size,0,none⟩=some (.slice p n cap)/\∀j',k<j'->j'<j->okS2 l k j')
   (λc _ W'=>c=.ret/\KeepsFrom W0.heap.size W W'/\zB w.heap.size w W'/\W'.cell? ⟨w.heap.size+1,0,none⟩=some (.bool false)/\¬zbz l)
   (λj X Y h hc hb=>⟨h.1.trans hb,hc.cell h.2.1,h.2.2⟩)
   (λc j X Y h hc hb=>⟨h.1,⟨Nat.le_trans h.2.1.size hb.size,λq o hq h0 ho=>(hb.block _ (Array.getElem?_eq_some_iff.1 h0).1).trans (h.2.1.same q o hq h0 ho)⟩,h.2.2.1.trans (hb.mono hS.bel.size),hc.cell h.2.2.2.1,h.2.2.2.2⟩)
   (λj W' h=>⟨hS.keep (zac h.1) (h.1.mono hS.bel.size),h.2.1⟩) ⟨hb2,hcb,λj' h1 h2=>by omega⟩
   (λj _ a' W'=>∃bt,a'={tmps:= #[Value.slice p n cap,Value.pointer (some {block:=w.heap.size,off:=0}),Value.pointer (some {block:=w.heap.size+1,off:=0}),.pointer (some ⟨bi,0,none⟩),.pointer (some ⟨bs,0,none⟩),I j,.pointer (some ⟨bt,0,none⟩),undef,Value.slice p n cap,Value.func (Fn.func 82) #[] #[Value.pointer (some {block:=w.heap.size+1+1,off:=0})],I k,segV (cor l k) (cor l (k+1)),Value.slice p n cap,Value.func (Fn.func 82) #[] #[Value.pointer (some {block:=W.heap.size,off:=0})],I j,segV (cor l j) (cor l (j+1)),undef,undef,undef,undef,undef,undef,undef,undef,undef,undef,undef,undef,undef,undef,undef,undef,undef,undef,undef,undef,undef,undef,undef],defers:=[]}/\SegAt bt (cor l j) (cor l (j+1)) W')
   (λj _ a' X Y h hc hb=>let ⟨bt,e,h1⟩:=h;⟨bt,e,h1.keep hc⟩) ?iassign ?ibody ?idone ?istop
  case iassign=>
   rintro lq j args W' K hlq hrec ⟨hB',hcb',hP'⟩ hj rfl hK
   rw[zgj l j (by rw[<-HN.out];exact hj)]
   have HK:=hid hK;clear hK
   unfold segV
   gi_wp2
   have hb1:qL W' (W'.alloc (.cells #[St (numS (cor l j).x),St (numS (cor l j).y),St (numS (cor l (j+1)).x),St (numS (cor l (j+1)).y)] 63)):=(zM _ W').alloc (zN _) _
   refine HK.out _ _ ((za0 hb1).from _) ⟨hB'.trans (hb1.mono hB'.size),zai hb1 hcb',hP'⟩ ⟨W'.heap.size,rfl,SegAt.new W' (cor l j) (cor l (j+1)) 63⟩
  case ibody=>
   rintro lq j args a' W' hlq ⟨r',hr'⟩ ⟨hB',hcb',hP'⟩ hj rfl ⟨bt,rfl,hseg'⟩
   have hi':=zai hB' hi
   have hS':=hS.keep (zac hB') (hB'.mono hS.bel.size)
   have hbox':=hS'.box
   have hres:=hS'.res
   have hfr:=hS'.fr
   obtain⟨g0,g1,g2,g3⟩:=hseg.keep (zac hB')
   obtain⟨k0,k1,k2,k3⟩:=hseg'
   have hwd:=HW.out.below hS'.bel
   have HS2:=hid (⟨hB',hcb',hP',hS'⟩:qL W W'/\W'.cell? ⟨W.heap.size,0,none⟩=some (.slice p n cap)/\(∀j',k<j'->j'<j->okS2 l k j')/\SimS w p cap n l W')
   have hM:=M.out k j (by rw[<-HN.out];exact hk) (by rw[<-HN.out];exact hj) W' hwd
   obtain⟨m,hm⟩:∃m,m=meet (cor l k) (cor l (k+1)) (cor l j) (cor l (j+1)):=⟨_,rfl⟩
   rw[<-hm] at hM
   unfold segV at hM⊢
   have HM:=hid hM
   have HMM:=hid hm
   have hwk:IntKind.i64.wrap ((k:Int)+1)=(k:Int)+1:=zI _ ⟨by omega,by omega⟩
   have hwn:IntKind.i64.wrap ((n:Int)-1)=(n:Int)-1:=zI _ ⟨by omega,by omega⟩
   clear hM hm hB' hcb' hP' hS' hi hseg hb2 hcb hS hP hseq hbox hwd HW2 H0 hr2 hr'
   by_cases hle:j<=k
   ·have e1:decide ((j:Int)<=(k:Int))=true:=decide_eq_true (by omega)
    gi_wp2
    obtain⟨hB',hcb',hP',hS'⟩:=HS2.out
    exact⟨KeepsFrom.refl _ _,hB',hcb',λj' h1 h2=>hP' j' h1 (by omega)⟩
   ·have e1:decide ((j:Int)<=(k:Int))=false:=decide_eq_false (by omega)
    have hcase:(zea n k j=1/\((((j:Int)==(k:Int)+1)=true)\/(((j:Int)==(k:Int)+1)=false/\((k:Int)==0)=true/\((j:Int)==(n:Int)-1)=true)))\/
     (zea n k j=0/\((((j:Int)==(k:Int)+1)=false/\((k:Int)==0)=true/\((j:Int)==(n:Int)-1)=false)\/(((j:Int)==(k:Int)+1)=false/\((k:Int)==0)=false))):=by
     unfold zea
     simp only[beq_iff_eq,beq_eq_false_iff_ne]
     by_cases h1:j=k+1
     ·left;exact⟨if_pos (.inl h1),.inl (by omega)⟩
     ·by_cases h2:k=0
      ·by_cases h3:j=n-1
       ·left;exact⟨if_pos (.inr ⟨h2,h3⟩),.inr ⟨by omega,by omega,by omega⟩⟩
       ·right;exact⟨if_neg (by omega),.inl ⟨by omega,by omega,by omega⟩⟩
      ·right;exact⟨if_neg (by omega),.inr ⟨by omega,by omega⟩⟩
    have hgood:∀W3,qL W' W3->m=zea n k j->KeepsFrom W2.heap.size W' W3/\zB W.heap.size W W3/\W3.cell? ⟨W.heap.size,0,none⟩=some (.slice p n cap)/\∀j',k<j'->j'<j+1->okS2 l k j':=by
     intro W3 hb3 hmw
     obtain⟨hB',hcb',hP',hS'⟩:=HS2.out
     refine⟨(za0 hb3).from _,hB'.trans (hb3.mono hB'.size),zai hb3 hcb',λj' h1 h2=>?_⟩
     by_cases h:j'=j
     ·subst h;unfold okS2;rw[<-HMM.out,hmw,<-HN.out]
     ·exact hP' j' h1 (by omega)
    have hbad:∀W3,qL W' W3->m≠zea n k j->KeepsFrom W2.heap.size W' (W3.setCell ⟨w.heap.size+1,0,none⟩ (.bool false))/\Code.ret=Code.ret/\KeepsFrom W0.heap.size W (W3.setCell ⟨w.heap.size+1,0,none⟩ (.bool false))/\zB w.heap.size w (W3.setCell ⟨w.heap.size+1,0,none⟩ (.bool false))/\(W3.setCell ⟨w.heap.size+1,0,none⟩ (.bool false)).cell? ⟨w.heap.size+1,0,none⟩=some (.bool false)/\¬zbz l:=by
     intro W3 hb3 hmw
     obtain⟨hB',hcb',hP',hS'⟩:=HS2.out
     have k3:=KeepsOthers.setCell W3 ⟨w.heap.size+1,0,none⟩ (.bool false)
     have hS3:=hS'.keep (zac hb3) (hb3.mono hS'.bel.size)
     refine⟨((za0 hb3).from _).trans (k3.from _),rfl,(((za0 hB').from _).trans ((za0 hb3).from _)).trans (k3.from _),hS3.bel.setCell (p:=⟨w.heap.size+1,0,none⟩) (by simp) _,World.cell?_setCell_same' _ _ _ (by rw[hS3.res];rfl),λhs=>hmw ?_⟩
     have:=hs k j (by omega) (by rw[<-HN.out];exact hj)
     unfold okS2 at this
     rw[<-HMM.out,<-HN.out] at this;exact this
    have HG:=hid hgood;have HBd:=hid hbad
    clear hgood hbad
    rcases hcase with⟨hwant,f1|⟨f1,f2,f3⟩⟩|⟨hwant,⟨f1,f2,f3⟩|⟨f1,f2⟩⟩
    ·by_cases hmw:m=1
     ·have hmb:(m !=1)=false:=by simpa [hwant] using hmw
      have HWT:=hid hwant;have HMW:=hid hmw;clear hwant hmw
      gi_wp2
      all_goals first|exact(zzU ‹_›).elim|skip
      refine⟨trivial,(CallsIn.inRound lq (CallsIn.inRound lp (callsIn_wide.2 HM.out))).mono ?_⟩
      rintro e W3 ⟨rfl,hb3⟩
      have h9:=HG.out W3 hb3 (by rw[HWT.out];exact HMW.out)
      clear hb3
      gi_wp2
      exact h9
     ·have hmb:(m !=1)=true:=by simpa [hwant] using hmw
      have HWT:=hid hwant;have HMW:=hid hmw;clear hwant hmw
      gi_wp2
      all_goals first|exact(zzU ‹_›).elim|skip
      refine⟨trivial,(CallsIn.inRound lq (CallsIn.inRound lp (callsIn_wide.2 HM.out))).mono ?_⟩
      rintro e W3 ⟨rfl,hb3⟩
      have h9:=HBd.out W3 hb3 (by rw[HWT.out];exact HMW.out)
      have hres3:=zai hb3 hres
      have hfr3:W3.frozen? ⟨w.heap.size+1,0,none⟩=false:=(zac hb3).frozen hres hfr
      have H9:=hid h9
      clear hb3 h9
      gi_wp2
      exact⟨H9.out.1,rfl,H9.out.2.2⟩
    ·by_cases hmw:m=1
     ·have hmb:(m !=1)=false:=by simpa [hwant] using hmw
      have HWT:=hid hwant;have HMW:=hid hmw;clear hwant hmw
      gi_wp2
      all_goals first|exact(zzU ‹_›).elim|skip
      refine⟨trivial,(CallsIn.inRound lq (CallsIn.inRound lp (callsIn_wide.2 HM.out))).mono ?_⟩
      rintro e W3 ⟨rfl,hb3⟩
      have h9:=HG.out W3 hb3 (by rw[HWT.out];exact HMW.out)
      clear hb3
      gi_wp2
      exact h9
     ·have hmb:(m !=1)=true:=by simpa [hwant] using hmw
      have HWT:=hid hwant;have HMW:=hid hmw;clear hwant hmw
      gi_wp2
      all_goals first|exact(zzU ‹_›).elim|skip
      refine⟨trivial,(CallsIn.inRound lq (CallsIn.inRound lp (callsIn_wide.2 HM.out))).mono ?_⟩
      rintro e W3 ⟨rfl,hb3⟩
      have h9:=HBd.out W3 hb3 (by rw[HWT.out];exact HMW.out)
      have hres3:=zai hb3 hres
      have hfr3:W3.frozen? ⟨w.heap.size+1,0,none⟩=false:=(zac hb3).frozen hres hfr
      have H9:=hid h9
      clear hb3 h9
      gi_wp2
      exact⟨H9.out.1,rfl,H9.out.2.2⟩
    ·by_cases hmw:m=0
     ·have hmb:(m !=0)=false:=by simpa [hwant] using hmw
      have HWT:=hid hwant;have HMW:=hid hmw;clear hwant hmw
      gi_wp2
      all_goals first|exact(zzU ‹_›).elim|skip
      refine⟨trivial,(CallsIn.inRound lq (CallsIn.inRound lp (callsIn_wide.2 HM.out))).mono ?_⟩
      rintro e W3 ⟨rfl,hb3⟩
      have h9:=HG.out W3 hb3 (by rw[HWT.out];exact HMW.out)
      clear hb3
      gi_wp2
      exact h9
     ·have hmb:(m !=0)=true:=by simpa [hwant] using hmw
      have HWT:=hid hwant;have HMW:=hid hmw;clear hwant hmw
      gi_wp2
      all_goals first|exact(zzU ‹_›).elim|skip
      refine⟨trivial,(CallsIn.inRound lq (CallsIn.inRound lp (callsIn_wide.2 HM.out))).mono ?_⟩
      rintro e W3 ⟨rfl,hb3⟩
      have h9:=HBd.out W3 hb3 (by rw[HWT.out];exact HMW.out)
      have hres3:=zai hb3 hres
      have hfr3:W3.frozen? ⟨w.heap.size+1,0,none⟩=false:=(zac hb3).frozen hres hfr
      have H9:=hid h9
      clear hb3 h9
      gi_wp2
      exact⟨H9.out.1,rfl,H9.out.2.2⟩
    ·by_cases hmw:m=0
     ·have hmb:(m !=0)=false:=by simpa [hwant] using hmw
      have HWT:=hid hwant;have HMW:=hid hmw;clear hwant hmw
      gi_wp2
      all_goals first|exact(zzU ‹_›).elim|skip
      refine⟨trivial,(CallsIn.inRound lq (CallsIn.inRound lp (callsIn_wide.2 HM.out))).mono ?_⟩
      rintro e W3 ⟨rfl,hb3⟩
      have h9:=HG.out W3 hb3 (by rw[HWT.out];exact HMW.out)
      clear hb3
      gi_wp2
      exact h9
     ·have hmb:(m !=0)=true:=by simpa [hwant] using hmw
      have HWT:=hid hwant;have HMW:=hid hmw;clear hwant hmw
      gi_wp2
      all_goals first|exact(zzU ‹_›).elim|skip
      refine⟨trivial,(CallsIn.inRound lq (CallsIn.inRound lp (callsIn_wide.2 HM.out))).mono ?_⟩
      rintro e W3 ⟨rfl,hb3⟩
      have h9:=HBd.out W3 hb3 (by rw[HWT.out];exact HMW.out)
      have hres3:=zai hb3 hres
      have hfr3:W3.frozen? ⟨w.heap.size+1,0,none⟩=false:=(zac hb3).frozen hres hfr
      have H9:=hid h9
      clear hb3 h9
      gi_wp2
      exact⟨H9.out.1,rfl,H9.out.2.2⟩
  case idone=>
   rintro W' ⟨hB',hcb',hP'⟩
   have HX:=hid (⟨hB',hP'⟩:qL W W'/\∀j',k<j'->j'<n->okS2 l k j')
   clear hB' hP' hcb'
   gi_wp2
   obtain⟨hB',hP'⟩:=HX.out
   obtain⟨hS,hP⟩:=H0.out
   refine⟨(za0 hB').from _,hS.keep (zac hB') (hB'.mono hS.bel.size),λi j h1 h2 h3=>?_⟩
   by_cases h:i=k
   ·subst h;exact hP' j h2 h3
   ·exact hP i j (by omega) h2 h3
  case istop=>
   rintro c j W' ⟨rfl,h⟩
   have HX:=hid h;clear h
   gi_wp2
   exact⟨HX.out.1,rfl,HX.out.2⟩
 case done=>
  rintro D W hD ⟨hS,hP⟩ hK
  have hres:=hS.res;have hfr:=hS.fr
  have HX:=hid (⟨hS,hP⟩:SimS w p cap n l W/\∀i j,i<n->i<j->j<n->okS2 l i j);clear hS hP hseq hS0
  gi_wp2
  have hK':=(KeepsOthers.setCell W ⟨w.heap.size+1,0,none⟩ (.bool true)).same D _ hK rfl
  refine⟨by simp,.inl ⟨_,_,rfl,run_takeDeferred hK',?_⟩⟩
  have hc5:=(zbk hK').cell (World.cell?_setCell_same' W ⟨w.heap.size+1,0,none⟩ (.bool true) (by rw[hres];rfl))
  obtain⟨hS,hP⟩:=HX.out
  refine⟨.bool true,?_,true,rfl,⟨λ_ i k h1 h2=>?_,λ_=>rfl⟩,zby (hS.bel.setCell (p:=⟨w.heap.size+1,0,none⟩) (by simp) _) (by have:=HS.out;omega) hK'⟩
  ·simp[results,Tryz.f49,go_sem,hc5]
  ·have hn:=HN.out;exact hP i k (by omega) h1 (by omega)
 case stop=>
  rintro D c k W hD ⟨rfl,hbel,hres,hno⟩ hK
  have HX:=hid (⟨hbel,hno⟩:qL w W/\¬zbz l);clear hbel hno hseq hS0
  gi_wp2
  refine⟨by simp,.inl ⟨_,_,rfl,run_takeDeferred hK,?_⟩⟩
  have hc5:=(zbk hK).cell hres
  refine⟨.bool false,by simp[results,Tryz.f49,go_sem,hc5],false,rfl,⟨λh=>by simp at h,λh=>absurd h HX.out.2⟩,zby HX.out.1 (by have:=HS.out;omega) hK⟩
def zch (l:List Pt):Prop:=∀i,i<l.length->cor l i≠cor l (i+1)
structure ChkS (w:zA) (p:Option Addr) (n:Nat) (l:List Pt) (W:zA):Prop where
 bel:qL w W
 res:∃r,W.cell? ⟨w.heap.size,0,none⟩=some (.int .i64 r)
 fr:W.frozen? ⟨w.heap.size,0,none⟩=false
 pts:∀i,i<n->∃b off,p=some ⟨b,off,none⟩/\W.cell? ⟨b,off+i*2,none⟩=some (St (ptOf (txt l) i).1)/\W.cell? ⟨b,off+i*2+1,none⟩=some (St (ptOf (txt l) i).2)
theorem ChkS.keep {w:zA} {p:Option Addr} {n:Nat} {l:List Pt} {W W':zA} (h:ChkS w p n l W) (hc:CellsKept W W') (hb:zB w.heap.size W W'):ChkS w p n l W':=
 ⟨h.bel.trans hb,let ⟨r,e⟩:=h.res;⟨r,hc.cell e⟩,let ⟨_,e⟩:=h.res;hc.frozen e h.fr,λi hi=>let ⟨b,off,e,h1,h2⟩:=h.pts i hi;⟨b,off,e,hc.cell h1,hc.cell h2⟩⟩
theorem ChkS.ptsAt {w:zA} {p:Option Addr} {cap n:Nat} {l:List Pt} {W:zA} (hn:n=l.length) (h:ChkS w p n l W) {B:Nat} (hB:W.cell? ⟨B,0,none⟩=some (.slice p n cap)):zls B p cap (txt l) W:=by
 refine⟨by rw[za2,<-hn];exact hB,λi hi=>h.pts i (by rw[za2] at hi;omega)⟩
theorem zu8 (p:Option Addr) (cap:Nat) (l:List Pt) (h3:3<=l.length) (hlen:l.length<=4096)
 (CP:Hid (∀i,i<l.length->qK 31 #[ptV (cor l i)] (.int .i64 0)))
 (S:Hid (∀W:zA,Wd W->(∀i,i<l.length->∃b off,p=some ⟨b,off,none⟩/\W.cell? ⟨b,off+i*2,none⟩=some (St (ptOf (txt l) i).1)/\W.cell? ⟨b,off+i*2+1,none⟩=some (St (ptOf (txt l) i).2))->
   zC zF 49 #[.slice p l.length cap] W λe w'=>∃b,e=.returned (.bool b)/\(b=true↔zbz l)/\zB W.heap.size W w'))
 (w:zA) (HW:Hid (Wd w))
 (HP:Hid (∀i,i<l.length->∃b off,p=some ⟨b,off,none⟩/\w.cell? ⟨b,off+i*2,none⟩=some (St (ptOf (txt l) i).1)/\w.cell? ⟨b,off+i*2+1,none⟩=some (St (ptOf (txt l) i).2))):
 zC zF 18 #[.slice p l.length cap] w λe w'=>∃r:Int,e=.returned (.int .i64 r)/\((¬zch l/\r=12)\/(zch l/\¬zbz l/\r=15)\/(zch l/\zbz l/\r=0))/\zB w.heap.size w w':=by
 refine(callsIn_wide (n:=3)).1 ?_
 refine callsIn_of_wp_marks Tryz.func18 rfl trivial ?_ rfl
 simp only[Tryz.ntmps18,List.size_toArray,List.length_cons,List.length_nil,Nat.reduceAdd,Nat.reduceSub,Array.replicate_succ,Array.replicate_zero,List.push_toArray,List.append_toArray,List.nil_append,List.cons_append]
 obtain⟨n,hn⟩:∃n,n=l.length:=⟨_,rfl⟩
 have hS0:ChkS w p n l (w.alloc (.cells #[.int .i64 0] 28)):=by
  have b1:=Boxed.new w 28 (.int .i64 0)
  have hbel:qL w (w.alloc (.cells #[.int .i64 0] 28)):=(zM _ w).alloc (zN _) _
  refine⟨hbel,⟨_,b1.cell⟩,b1.frozen,λi hi=>?_⟩
  obtain⟨b,off,e,h1,h2⟩:=HP.out i (by omega)
  exact⟨b,off,e,zai hbel h1,zai hbel h2⟩
 rw[<-hn] at h3 hlen⊢
 have HN:=hid hn;clear hn
 have HS0:=hid hS0;clear hS0 HP
 have hn1:decide ((4096:Int)<(n:Int))=false:=decide_eq_false (by omega)
 have hn2:decide ((n:Int)<3)=false:=decide_eq_false (by omega)
 gi_wp2
 gi_loopw [18] (λi wr=>∃(k:Nat),k<=n/\i=.int .i64 (k:Int)/\Hid (ChkS w p n l wr))
  (λi _=>n-(zL i).toNat)
 case atStart=>exact⟨0,zR _,rfl,HS0.out⟩
 case round=>
  clear hn1 hn2
  obtain⟨k,hk,rfl,hS⟩:=hrel
  by_cases hlt:k<n
  ·obtain⟨b,off,rfl,c0,c1⟩:=hS.out.pts k hlt
   have hb1:qL wr (wr.alloc (.cells #[St (ptOf (txt l) k).1,St (ptOf (txt l) k).2] 25)):=(zM _ wr).alloc (zN _) _
   have hS1:=hid (hS.out.keep (zac hb1) (hb1.mono hS.out.bel.size))
   have hcp:=CP.out k (by rw[<-HN.out];exact hlt) _ (HW.out.below hS1.out.bel)
   have ep:ptV (cor l k)=.agg #[St (ptOf (txt l) k).1,St (ptOf (txt l) k).2]:=by rw[zj4 l k (by rw[<-HN.out];exact hlt)];rfl
   rw[ep] at hcp
   have HCP:=hid hcp
   clear hcp ep hb1
   generalize (ptOf (txt l) k).1=x at*
   generalize (ptOf (txt l) k).2=y at*
   gi_wp2
   refine⟨trivial,(callsIn_wide.2 HCP.out).mono ?_⟩
   rintro e W2 ⟨rfl,hb2⟩
   have hS2:=hid (hS1.out.keep (zac hb2) (hb2.mono hS1.out.bel.size))
   clear hb2 HCP hS1 HS0
   gi_wp2
   go_roundw
   case rel=>exact⟨k+1,by omega,by go_num,hS2⟩
   case measure=>simp[zL];omega
  ·obtain rfl:k=n:=by omega
   clear HS0
   gi_wp2_with (refine⟨trivial,?_⟩;gi_at_call 32;refine(callsIn_wide.2 (zfr _ _ _ _ _ rfl)).mono ?_;rintro e w' ⟨rfl,rfl⟩)
   obtain⟨W1,hW1⟩:∃W1,W1=wr.alloc (.cells #[.slice p k cap] 22):=⟨_,rfl⟩
   have hb1:qL wr W1:=by rw[hW1];exact(zM _ wr).alloc (zN _) _
   have hcb:W1.cell? ⟨wr.heap.size,0,none⟩=some (.slice p k cap):=by rw[hW1];exact(Boxed.new wr 22 (.slice p k cap)).cell
   have hS1:=hS.out.keep (zac hb1) (hb1.mono hS.out.bel.size)
   rw[<-hW1]
   clear hW1 hS
   have HS1:=hid hS1.bel.size
   have hseq:=zgi 2 (by omega) wr.heap.size (txt l) (by rw[za2,<-HN.out];omega) (λW=>ChkS w p k l W/\W.cell? ⟨wr.heap.size,0,none⟩=some (.slice p k cap)) p cap (λW h=>h.1.ptsAt HN.out h.2)
   rw[za2,<-HN.out] at hseq
   refine zfq (n:=3) (B:=w.heap.size) rfl (by omega) rfl trivial (enters_of Tryz.func82 (by kernel_rfl) rfl) hseq (λk args h=>by subst h;rfl) hS1.bel.size
    (λj W=>ChkS w p k l W/\W.cell? ⟨wr.heap.size,0,none⟩=some (.slice p k cap)/\∀i,i<j->cor l i≠cor l (i+1))
    (λc _ W=>c=.ret/\zB w.heap.size w W/\W.cell? ⟨w.heap.size,0,none⟩=some (.int .i64 12)/\¬zch l)
    (λj X Y h hc hb=>⟨h.1.keep hc hb,hc.cell h.2.1,h.2.2⟩) (λc j X Y h hc hb=>⟨h.1,h.2.1.trans hb,hc.cell h.2.2.1,h.2.2.2⟩) (λj W h=>⟨h.1,h.2.1⟩) ⟨hS1,hcb,λi h=>by omega⟩
    (λj _ a' W=>∃bs,a'={tmps:= #[Value.slice p k cap,undef,Value.pointer (some {block:=w.heap.size,off:=0}),undef,u4,u5,undef,.pointer (some ⟨bs,0,none⟩),Value.bool false,Value.slice p k cap,Value.int IntKind.i64 ↑k,Value.bool false,Value.bool false,Value.slice p k cap,Value.int IntKind.i64 ↑k,Value.bool false,Value.slice p k cap,Value.int IntKind.i64 ↑k,Value.int IntKind.i64 ↑k,Value.bool false,u20,u21,u22,u23,u24,u25,u26,u27,Value.slice p k cap,Value.func (Fn.func 82) #[] #[Value.pointer (some {block:=wr.heap.size,off:=0})],I j,segV (cor l j) (cor l (j+1)),undef,undef,undef,undef,undef,undef,undef,undef],defers:=[]}/\SegAt bs (cor l j) (cor l (j+1)) W)
    (λj _ a' X Y h hc hb=>let ⟨bs,e,h2⟩:=h;⟨bs,e,h2.keep hc⟩) ?assign ?body ?done ?stop
   case assign=>
    rintro lp j args W K hlp hrec ⟨hS,hcb,hP⟩ hj rfl hK
    rw[zgj l j (by rw[<-HN.out];exact hj)]
    have HK:=hid hK;clear hK
    unfold segV
    gi_wp2
    have hb1:qL W (W.alloc (.cells #[St (numS (cor l j).x),St (numS (cor l j).y),St (numS (cor l (j+1)).x),St (numS (cor l (j+1)).y)] 63)):=(zM _ W).alloc (zN _) _
    exact HK.out _ _ ((za0 hb1).from _) ⟨hS.keep (zac hb1) (hb1.mono hS.bel.size),zai hb1 hcb,hP⟩ ⟨W.heap.size,rfl,SegAt.new W (cor l j) (cor l (j+1)) 63⟩
   case body=>
    rintro lp j args a' W hlp ⟨r,hr⟩ ⟨hS,hcb,hP⟩ hj rfl ⟨bs,rfl,hseg⟩
    obtain⟨g0,g1,g2,g3⟩:=hseg
    obtain⟨r0,hres⟩:=hS.res
    have hfr:=hS.fr
    have H0:=hid (⟨hS,hcb,hP⟩:ChkS w p k l W/\W.cell? ⟨wr.heap.size,0,none⟩=some (.slice p k cap)/\∀i,i<j->cor l i≠cor l (i+1))
    clear hS hcb hP hseq hS1 hr
    unfold segV
    have hgood:cor l j≠cor l (j+1)->KeepsFrom W1.heap.size W W/\ChkS w p k l W/\W.cell? ⟨wr.heap.size,0,none⟩=some (.slice p k cap)/\∀i,i<j+1->cor l i≠cor l (i+1):=λhne=>by
     obtain⟨hS,hcb,hP⟩:=H0.out
     refine⟨KeepsFrom.refl _ _,hS,hcb,λi hi=>?_⟩
     by_cases h:i=j
     ·subst h;exact hne
     ·exact hP i (by omega)
    have HG:=hid hgood;clear hgood
    by_cases hx:numS (cor l j).x=numS (cor l (j+1)).x
    ·by_cases hy:numS (cor l j).y=numS (cor l (j+1)).y
     ·have HE:=hid (⟨hx,hy⟩:numS (cor l j).x=numS (cor l (j+1)).x/\numS (cor l j).y=numS (cor l (j+1)).y)
      gi_wp2
      obtain⟨hS,hcb,hP⟩:=H0.out
      refine⟨(KeepsOthers.setCell _ _ _).from _,rfl,hS.bel.setCell (p:=⟨w.heap.size,0,none⟩) (by simp) _,World.cell?_setCell_same' _ _ _ (by rw[hres];rfl),λhs=>hs j (by rw[<-HN.out];exact hj) ?_⟩
      have h1:=zh0 HE.out.1;have h2:=zh0 HE.out.2
      revert h1 h2
      generalize cor l j=a;generalize cor l (j+1)=b
      intro h1 h2
      cases a;cases b;simp at h1 h2;rw[h1,h2]
     ·have HE:=hid hy
      gi_wp2
      exact HG.out λh=>HE.out (by rw[h])
    ·have HE:=hid hx
     gi_wp2
     exact HG.out λh=>HE.out (by rw[h])
   case done=>
    rintro D W hD ⟨hS,hcb,hP⟩ hK
    have hs:=S.out W (HW.out.below hS.bel) (λi hi=>hS.pts i (by rw[HN.out];exact hi))
    rw[<-HN.out] at hs
    have HSm:=hid hs
    have HX:=hid (⟨hS,hP,hK⟩:ChkS w p k l W/\(∀i,i<k->cor l i≠cor l (i+1))/\W.heap[D]? =some (.deferred (some [])));clear hS hP hseq hS1 hs hK
    gi_wp2
    refine⟨trivial,(callsIn_wide.2 HSm.out).mono ?_⟩
    rintro e W3 ⟨b,rfl,hb,hb3⟩
    obtain⟨hS,hP,hK⟩:=HX.out
    have hS3:=hS.keep (zac hb3) (hb3.mono hS.bel.size)
    have hK3:W3.heap[D]? =some (.deferred (some [])):=(hb3.block _ (Array.getElem?_eq_some_iff.1 hK).1).trans hK
    have hside:zch l:=λi hi=>hP i (by rw[HN.out];exact hi)
    obtain⟨r3,hres⟩:=hS3.res
    have hfr:=hS3.fr
    have H3:=hid (⟨hS3.bel,hK3,hside,hb⟩:qL w W3/\W3.heap[D]? =some (.deferred (some []))/\zch l/\(b=true↔zbz l))
    clear HX hS hP hK hS3 hK3 hside hb hb3 HSm
    cases b
    ·gi_wp2
     obtain⟨hbel,hK3,hside,hb⟩:=H3.out
     have hK':=(KeepsOthers.setCell W3 ⟨w.heap.size,0,none⟩ (.int .i64 15)).same D _ hK3 rfl
     refine⟨by simp,.inl ⟨_,_,rfl,run_takeDeferred hK',?_⟩⟩
     have hc5:=(zbk hK').cell (World.cell?_setCell_same' W3 ⟨w.heap.size,0,none⟩ (.int .i64 15) (by rw[hres];rfl))
     refine⟨.int .i64 15,?_,15,rfl,.inr (.inl ⟨hside,λh=>(by have:=hb.2 h;simp at this),rfl⟩),zby (hbel.setCell (p:=⟨w.heap.size,0,none⟩) (by simp) _) (by have:=HS1.out;omega) hK'⟩
     simp[results,Tryz.f18,go_sem,hc5]
    ·gi_wp2
     obtain⟨hbel,hK3,hside,hb⟩:=H3.out
     have hK':=(KeepsOthers.setCell W3 ⟨w.heap.size,0,none⟩ (.int .i64 0)).same D _ hK3 rfl
     refine⟨by simp,.inl ⟨_,_,rfl,run_takeDeferred hK',?_⟩⟩
     have hc5:=(zbk hK').cell (World.cell?_setCell_same' W3 ⟨w.heap.size,0,none⟩ (.int .i64 0) (by rw[hres];rfl))
     refine⟨.int .i64 0,?_,0,rfl,.inr (.inr ⟨hside,hb.1 (by trivial),rfl⟩),zby (hbel.setCell (p:=⟨w.heap.size,0,none⟩) (by simp) _) (by have:=HS1.out;omega) hK'⟩
     simp[results,Tryz.f18,go_sem,hc5]
   case stop=>
    rintro D c j W hD ⟨rfl,hbel,hres,hno⟩ hK
    have HX:=hid (⟨hbel,hno⟩:qL w W/\¬zch l);clear hbel hno hseq hS1
    gi_wp2
    refine⟨by simp,.inl ⟨_,_,rfl,run_takeDeferred hK,?_⟩⟩
    have hc5:=(zbk hK).cell hres
    refine⟨.int .i64 12,by simp[results,Tryz.f18,go_sem,hc5],12,rfl,.inl ⟨HX.out.2,rfl⟩,zby HX.out.1 (by have:=HS1.out;omega) hK⟩
def RowPts (p:Option Addr) (l:List Pt) (W:zA):Prop:=
 ∀i,i<l.length->∃b off,p=some ⟨b,off,none⟩/\W.cell? ⟨b,off+i*2,none⟩=some (St (ptOf (txt l) i).1)/\W.cell? ⟨b,off+i*2+1,none⟩=some (St (ptOf (txt l) i).2)
theorem RowPts.keep {p:Option Addr} {l:List Pt} {W W':zA} (h:RowPts p l W) (hc:CellsKept W W'):RowPts p l W':=λi hi=>let ⟨b,off,e,h1,h2⟩:=h i hi;⟨b,off,e,hc.cell h1,hc.cell h2⟩
theorem zw6 (p:Option Addr) (cap:Nat) (l:List Pt) (h3:3<=l.length) (hlen:l.length<=4096) (hz:∀i,szP (cor l i) 36) (w:zA) (hw:Wd w) (hp:RowPts p l w):
 zC zF 49 #[.slice p l.length cap] w λe w'=>∃b,e=.returned (.bool b)/\(b=true↔zbz l)/\zB w.heap.size w w':=
 zs9 p cap l h3 hlen (hid λi k _ _ W hW=>zol _ _ _ _ 36 (by omega) (by omega) (hz _) (hz _) (hz _) (hz _) W hW) w (hid hw) (hid hp)
theorem zu9 (p:Option Addr) (cap:Nat) (l:List Pt) (h3:3<=l.length) (hlen:l.length<=4096) (hz:∀i,szP (cor l i) 36) (w:zA) (hw:Wd w) (hp:RowPts p l w):
 zC zF 18 #[.slice p l.length cap] w λe w'=>∃r:Int,e=.returned (.int .i64 r)/\((¬zch l/\r=12)\/(zch l/\¬zbz l/\r=15)\/(zch l/\zbz l/\r=0))/\zB w.heap.size w w':=
 zu8 p cap l h3 hlen (hid λi _ W hW=>zdi _ (hz i) W hW) (hid λW hW hp=>zw6 p cap l h3 hlen hz W hW hp) w (hid hw) (hid hp)
theorem zj5 (p:Option Addr) (cap:Nat) (l:List Pt) (h3:3<=l.length) (hlen:l.length<=4096) (hz:∀i,szP (cor l i) 36) (hs:zch l) (hm:zbz l) (w:zA) (hw:Wd w) (hp:RowPts p l w):
 qJ 18 #[.slice p l.length cap] w (.int .i64 0):=by
 refine(zu9 p cap l h3 hlen hz w hw hp).mono ?_
 rintro e w' ⟨r,rfl,h,hb⟩
 rcases h with⟨h,_⟩|⟨_,h,_⟩|⟨_,_,rfl⟩
 ·exact absurd hs h
 ·exact absurd hm h
 ·exact⟨rfl,hb⟩
def RowTx (p:Option Addr) (l:List (List UInt8×List UInt8)) (W:zA):Prop:=
 ∀i,i<l.length->∃b off,p=some ⟨b,off,none⟩/\W.cell? ⟨b,off+i*2,none⟩=some (St (ptOf l i).1)/\W.cell? ⟨b,off+i*2+1,none⟩=some (St (ptOf l i).2)
theorem RowTx.keep {p:Option Addr} {l:List (List UInt8×List UInt8)} {W W':zA} (h:RowTx p l W) (hc:CellsKept W W'):RowTx p l W':=λi hi=>let ⟨b,off,e,h1,h2⟩:=h i hi;⟨b,off,e,hc.cell h1,hc.cell h2⟩
theorem ybl (p:Option Addr) (cap n:Nat) (h:n<3) (w:zA):
 zC zF 18 #[.slice p n cap] w λe w'=>∃r:Int,e=.returned (.int .i64 r)/\r≠0/\zB w.heap.size w w':=by
 have hn1:decide ((4096:Int)<(n:Int))=false:=decide_eq_false (by omega)
 have hn2:decide ((n:Int)<3)=true:=decide_eq_true (by omega)
 clear h
 go_enter Tryz.func18,Tryz.ntmps18
 go_wp2
 refine bodyPost_ret (v:=.int .i64 5) (by simp[results,Tryz.results18,go_sem]) rfl ⟨5,rfl,by decide,?_⟩
 repeat(first|exact zM _ _|refine Below.alloc ?_ (by simp) _|refine zao ?_ _|refine Below.setCell ?_ (by simp) _)
structure PckS (w:zA) (W:zA):Prop where
 bel:qL w W
 res:W.heap[w.heap.size]? =some (.cells #[.int .i64 0] 28 (0,0))
theorem PckS.next {w W W':zA} (h:PckS w W) (hb:qL W W'):PckS w W':=
 ⟨h.bel.trans (hb.mono h.bel.size),(hb.block _ (Array.getElem?_eq_some_iff.1 h.res).1).trans h.res⟩
theorem PckS.cell {w W:zA} (h:PckS w W):W.cell? ⟨w.heap.size,0,none⟩=some (.int .i64 0)/\W.frozen? ⟨w.heap.size,0,none⟩=false/\w.heap.size<W.heap.size:=
 ⟨by rw[zJ h.res];rfl,by have:=h.res;simp[World.frozen?,this],(Array.getElem?_eq_some_iff.1 h.res).1⟩
theorem yac (p:Option Addr) (cap n:Nat) (l:List (List UInt8×List UInt8)) (hnl:l.length=n) (h3:3<=n) (hn:n<=4096) (G:Nat->Prop)
 (CP:Hid (∀i,i<n->∀W:zA,Wd W->zC zF 31 #[.agg #[St (ptOf l i).1,St (ptOf l i).2]] W λe w'=>∃r:Int,e=.returned (.int .i64 r)/\(r=0↔G i)/\zB W.heap.size W w'))
 (HG:Hid (¬ ∀i,i<n->G i)) (w:zA) (HW:Hid (Wd w)) (HP:Hid (RowTx p l w)):
 zC zF 18 #[.slice p n cap] w λe w'=>∃r:Int,e=.returned (.int .i64 r)/\r≠0/\zB w.heap.size w w':=by
 have HL:=hid hnl
 clear hnl
 have hn1:decide ((4096:Int)<(n:Int))=false:=decide_eq_false (by omega)
 have hn2:decide ((n:Int)<3)=false:=decide_eq_false (by omega)
 have hS0:PckS w (w.alloc (.cells #[.int .i64 0] 28)):=⟨(zM _ w).alloc (zN _) _,zG _ _⟩
 have HS0:=hid hS0
 clear hS0
 go_enter Tryz.func18,Tryz.ntmps18
 go_wp2
 go_loopw [18] (λi wr=>∃(k:Nat),k<=n/\i=.int .i64 (k:Int)/\Hid (PckS w wr)/\Hid (∀i,i<k->G i))
  (λi _=>n-(zL i).toNat)
 case atStart=>exact⟨0,zR _,rfl,HS0,hid λi h=>by omega⟩
 case round=>
  clear hn1 hn2 HS0
  obtain⟨k,hk,rfl,hS,hG⟩:=hrel
  have hlt:k<n:=by
   rcases Nat.lt_or_ge k n with h|h
   ·exact h
   ·exact absurd (λi hi=>hG.out i (by omega)) HG.out
  obtain⟨b,off,rfl,c0,c1⟩:=(HP.out.keep (zac hS.out.bel)) k (by rw[HL.out];exact hlt)
  have hb1:qL wr (wr.alloc (.cells #[St (ptOf l k).1,St (ptOf l k).2] 25)):=(zM _ wr).alloc (zN _) _
  have hS1:=hid (hS.out.next hb1)
  have HCP:=hid (CP.out k hlt _ (HW.out.below hS1.out.bel))
  clear hb1
  generalize (ptOf l k).1=x at*
  generalize (ptOf l k).2=y at*
  go_wp2_with fail
  refine HCP.out.mono ?_
  rintro e W2 ⟨r,rfl,hr,hb2⟩
  have hS2:=hid (hS1.out.next hb2)
  clear hb2 HCP hS1
  by_cases h0:r=0
  ·subst h0
   have hG':=hid (show ∀i,i<k+1->G i from λi hi=>by
    by_cases e:i=k
    ·rw[e];exact hr.1 rfl
    ·exact hG.out i (by omega))
   clear hr hG
   go_wp2_with fail
   go_roundw
   case rel=>exact⟨k+1,by omega,by first|go_num|rfl,hS2,hG'⟩
   case measure=>simp[zL];omega
  ·have hr1:(r==0)=false:=beq_eq_false_iff_ne.2 h0
   have hr2:(r !=0)=true:=by rw[bne,hr1];rfl
   obtain⟨d0,d1,d2⟩:=hS2.out.cell
   have HR:=hid (⟨h0,hS2.out.bel⟩:_/\_)
   clear hr h0 hG hS hS2
   go_wp2_with fail
   refine bodyPost_ret (v:=.int .i64 r) (by simp[results,Tryz.results18,go_sem,d0]) rfl ⟨r,rfl,HR.out.1,?_⟩
   exact HR.out.2.setCell (by simp) _
end
section
open Go.RowKit Lib Str Limb
theorem zeb (p:Option Addr) (n cap:Nat) (l:List Nat) (w:zA) (h:Sl w (.slice p n cap) (l.map I)) (hl:l.length<=3000):
 zC zF 199 #[.slice p n cap] w λe w'=>e=.returned (.slice p (zat l).length cap)/\w=w':=by
 rcases h.cases with⟨h0,p',cap',e⟩|⟨h0,b,off,cap',e,hcap,hb,hc⟩
 ·have:l=[]:=by simpa using h0
  subst this
  simp only[Value.slice.injEq] at e
  obtain⟨rfl,rfl,rfl⟩:=e
  go_enter Tryz.func199,Tryz.ntmps199
  go_wp2
  go_loop [3] (λs=>s=.int .i64 0) (λ_=>0)
  case atStart=>rfl
  case round=>
   subst hrel
   go_wp2
   go_ret
   exact⟨rfl,rfl⟩
 ·rw[zV] at hcap e
  simp only[Value.slice.injEq] at e
  obtain⟨rfl,rfl,rfl⟩:=e
  have HC:=hid hc;clear hc h
  go_enter Tryz.func199,Tryz.ntmps199
  go_wp2
  go_loop [3] (λs=>∃k:Nat,k<=l.length/\s=.int .i64 k/\Hid (zat (l.take k)=zat l)) (λs=>(zL s).toNat)
  case atStart=>exact⟨l.length,zN _,rfl,by show zat (l.take l.length)=_;rw[List.take_length]⟩
  case round=>
   obtain⟨k,hk,rfl,ht⟩:=hrel
   rcases Nat.eq_zero_or_pos k with rfl|hp
   ·have e:(zat l).length=0:=by rw[<-ht.out];simp[zou]
    have E:=hid e;clear e
    go_wp2
    go_ret
    exact⟨by rw[E.out];rfl,rfl⟩
   ·obtain⟨m,rfl⟩:∃m,k=m+1:=⟨k-1,by omega⟩
    have hm:m<l.length:=by omega
    have hx:l[m]? =some l[m]:=by simp[hm]
    have hcell:=HC.out m (I l[m]) (by simp[hm])
    have hsn:zat (l.take (m+1))=zat (l.take m++[l[m]]):=by rw[List.take_succ_eq_append_getElem hm]
    by_cases hz:l[m]=0
    ·rw[hz] at hcell hsn
     have HS:Hid (zat (l.take m)=zat l):=by rw[<-ht.out,hsn,zew];rfl
     clear hsn hx hz ht
     go_wp2
     go_round
     case rel=>exact⟨m,by omega,by go_num,HS⟩
     case measure=>simp[zL]
    ·have HS:Hid ((zat l).length=m+1):=by
      rw[<-ht.out,hsn,zhs _ hz];show(l.take m++[l[m]]).length=m+1
      simp;omega
     have hz':(((l[m]:Nat):Int)==0)=false:=by rw[beq_eq_false_iff_ne];omega
     clear hsn hx ht
     go_wp2
     go_ret
     exact⟨by rw[HS.out];rfl,rfl⟩
theorem zgz (v:Value) (l:List Nat) (i:Nat) (w:zA) (h:Sl w v (l.map I)) (hl:l.length<=3000):
 zC zF 201 #[v,I i] w λe w'=>e=.returned (I (l[i]?.getD 0))/\w=w':=by
 by_cases hi:i<l.length
 ·rcases h.cases with⟨h0,p,cap,rfl⟩|⟨h0,b,off,cap,rfl,hcap,hb,hc⟩
  ·have:l=[]:=by simpa using h0
   subst this;simp at hi
  ·have hcell:=hc i (I (l[i]?.getD 0)) (by simp[hi])
   clear hc h
   rw[zV]
   generalize l[i]?.getD 0=x at*
   go_enter Tryz.func201,Tryz.ntmps201
   go_wp2
   go_ret
   exact⟨rfl,rfl⟩
 ·have:l[i]?.getD 0=0:=by rw[List.getElem?_eq_none (by omega)];rfl
  rw[this]
  obtain⟨p,cap,rfl,hcap,_⟩:=h
  rw[zV]
  go_enter Tryz.func201,Tryz.ntmps201
  go_wp2
  go_ret
  exact⟨rfl,rfl⟩
def B6:Nat:=1000000
theorem zh4 {w:zA} {base k:Nat} {p:Option Addr} {n c:Nat} {o:List Nat} (h:w.ownsRow base 3 1 (.slice p n c) k (o.map I)) (hk:o.length=k):
 w.ownsRow base 3 1 (.slice p (zat o).length c) (zat o).length ((zat o).map I):=zeq (v:=.slice p n c) h hk
theorem zg0 {w:zA} {base:Nat} {t:TypeId} {s:Nat} {v:Value} {n:Nat} {xs:List Value} (h:w.ownsRow base t s v n xs):∃p m c,v=.slice p m c:=by
 rcases h.2 with⟨e,_⟩|⟨g,cp,cur,e,_⟩<;>exact⟨_,_,_,e⟩
theorem z3h (c:Nat) (h:c<=1):(0+0+c)/B6=0:=by unfold B6;omega
theorem zxb (va vb:Value) (a b:List Nat) (w:zA) (ha:Sl w va (a.map I)) (hb:Sl w vb (b.map I)) (sa:zal B6 a) (sb:zal B6 b) (la:a.length<=1000) (lb:b.length<=1000):
 zC zF 254 #[va,vb] w (zht w (zaa B6 (valL B6 a+valL B6 b))):=by
 rw[<-zov (B:=B6) (by decide) sa sb]
 obtain⟨i0,hi,hz0,hz1,hz2⟩:=info_parts zdv
 have ha':=ha;have hb':=hb
 obtain⟨pa,ca,rfl,hca,hcella⟩:=ha
 obtain⟨pb,cb,rfl,hcb,hcellb⟩:=hb
 have HA:=hid ha';clear ha' hcella hca
 have HB:=hid hb';clear hb' hcellb hcb
 have SA:=hid sa;clear sa
 have SB:=hid sb;clear sb
 simp only[zV] at*
 obtain⟨M,hM⟩:∃M,M=max a.length b.length:=⟨_,rfl⟩
 rw[<-hM]
 have hM2:M<=1000:=by omega
 have hMa:∀k:Nat,(k<M↔(k<a.length\/k<b.length)):=λk=>by omega
 have HM:=hid hMa
 clear hM hMa
 go_enter Tryz.func254,Tryz.ntmps254
 go_wp2
 go_loopw [5,6,7] (λv c i wr=>∃k:Nat,k<=M+1/\i=.int .i64 k/\c=I (zaq (za6 B6) a b k).2/\wr.ownsRow w.heap.size 3 1 v k ((zaq (za6 B6) a b k).1.map I)/\zB w.heap.size w wr/\(k=M+1->(zaq (za6 B6) a b k).2=0))
  (λ_ _ i _=>M+1-(zL i).toNat)
 case atStart=>exact⟨0,zR _,rfl,rfl,World.ownsRow_made w #[] 0 (zN _) (by unfold maxLen;omega) rfl,(zM _ w).alloc (zN _) _,λh=>by omega⟩
 case round=>
  obtain⟨k,hk,rfl,rfl,hown,hB,hend⟩:=hrel
  obtain⟨p1,p2,p3⟩:=zna (B:=B6) (by decide) SA.out SB.out k
  by_cases hlt:k<a.length\/k<b.length\/0<(zaq (za6 B6) a b k).2
  ·have hkM:k<M+1:=by
    rcases hlt with h|h|h
    ·have:=(HM.out k).2 (.inl h);omega
    ·have:=(HM.out k).2 (.inr h);omega
    ·rcases Nat.lt_or_ge k (M+1) with h'|h'
     ·exact h'
     ·rw[hend (by omega)] at h;omega
   have hx:=zaj SA.out (by decide) k
   have hy:=zaj SB.out (by decide) k
   have hst:zaq (za6 B6) a b (k+1)=((zaq (za6 B6) a b k).1++[(za6 B6 (a[k]?.getD 0) (b[k]?.getD 0) (zaq (za6 B6) a b k).2).1],(za6 B6 (a[k]?.getD 0) (b[k]?.getD 0) (zaq (za6 B6) a b k).2).2):=rfl
   have hz:k=M->(zaq (za6 B6) a b (k+1)).2=0:=λe=>by
    have ha0:a[k]?.getD 0=0:=by rw[List.getElem?_eq_none (by have:=HM.out k;omega)];rfl
    have hb0:b[k]?.getD 0=0:=by rw[List.getElem?_eq_none (by have:=HM.out k;omega)];rfl
    rw[hst,ha0,hb0]
    exact z3h _ p2
   have HST:=hid hst;clear hst p1 p3 hend
   have HZ:=hid hz;clear hz
   generalize (zaq (za6 B6) a b k).1=o at*
   generalize (zaq (za6 B6) a b k).2=c at*
   have hx':a[k]?.getD 0<1000000:=hx
   have hy':b[k]?.getD 0<1000000:=hy
   clear hx hy
   have E1:∀x y:Nat,(Value.int .i64 (((x:Int)+y+c)%1000000))=I (za6 B6 x y c).1:=λx y=>by simp[I,za6,B6]
   have hE1:=hid E1;clear E1
   have HOWN:=hid hown;clear hown
   have LA:=hid λ(W:zA) (h:qL w W)=>zgz _ a k W (HA.out.below h) (by omega)
   have LB:=hid λ(W:zA) (h:qL w W)=>zgz _ b k W (HB.out.below h) (by omega)
   generalize a[k]?.getD 0=x at*
   generalize b[k]?.getD 0=y at*
   have h3:k<a.length\/(¬k<a.length/\k<b.length)\/(¬k<a.length/\¬k<b.length/\0<c):=by omega
   clear hlt
   rcases h3 with h1|⟨h1,h2⟩|⟨h1,h2,h4⟩<;>(
    go_wp2_with fail
    refine(LA.out wr hB).mono ?_
    rintro e w1 ⟨rfl,rfl⟩
    go_wp2_with fail
    refine(LB.out wr hB).mono ?_
    rintro e w1 ⟨rfl,rfl⟩
    go_wp2_with (at_builtin;refine wpList_append_own _ rfl _ _ 107 rfl w.heap.size 3 i0 (.int .i64 0) 1 8 Tryz.underlying107 hi hz0 hz1 hz2 rfl (by decide) _ _ _ rfl (HOWN.out.alloc _) ⟨wr.heap.size,0,none⟩ 1 1 [.int .i64 (((x:Int)+y+c)%1000000)] rfl rfl (zep _ _ _) (zfn _) (by unfold maxLen;omega) (by omega) (by have:=hB.size;simp;omega) ?_)
    intro v' w1 hown' hgrow _
    have hB1:qL w w1:=(hB.alloc hB.size _).grown hgrow (by have:=hB.size;simp;omega) (λq e=>(HOWN.out.lt q e).1)
    rw[hE1.out] at hown'
    clear hgrow hB HOWN
    go_wp2
    go_roundw
    case rel=>exact⟨k+1,by omega,by go_num,by rw[HST.out];simp[I,za6,B6],by rw[HST.out];simpa using hown',hB1,λe=>HZ.out (by omega)⟩
    case measure=>simp[zL];omega)
  ·have h1:¬k<a.length:=λh=>hlt (.inl h)
   have h2:¬k<b.length:=λh=>hlt (.inr (.inl h))
   have h3:(zaq (za6 B6) a b k).2=0:=by have:=λh=>hlt (.inr (.inr h));omega
   have hl:(zaq (za6 B6) a b k).1.length=k:=zdk _ _ _ _
   have hres:zat (zaq (za6 B6) a b k).1=zat (zaq (za6 B6) a b (M+1)).1:=by
    have hkM:M<=k:=by have:=HM.out k;omega
    rcases Nat.lt_or_ge k (M+1) with h|h
    ·obtain rfl:k=M:=by omega
     show _=zat ((zaq (za6 B6) a b k).1++[(za6 B6 (a[k]?.getD 0) (b[k]?.getD 0) (zaq (za6 B6) a b k).2).1])
     rw[List.getElem?_eq_none (by omega),List.getElem?_eq_none (by omega),h3]
     exact(zew _).symm
    ·obtain rfl:k=M+1:=by omega
     rfl
   have HR:=hid hres;clear hres
   obtain⟨o,ho⟩:∃o,o=(zaq (za6 B6) a b k).1:=⟨_,rfl⟩
   rw[<-ho] at hown hl
   have HO:=hid ho;clear ho
   have HL:=hid hl;clear hl p1 p2 p3 hend hlt
   rw[h3] at*
   obtain⟨vp,vm,vc,rfl⟩:=zg0 hown
   have HOWN:=hid hown;clear hown
   go_wp2_with fail
   refine(zeb _ _ _ o wr (Sl.of_own HOWN.out) (by rw[HL.out];omega)).mono ?_
   rintro e w1 ⟨rfl,rfl⟩
   go_wp2_with fail
   go_ret
   have hown':=zh4 HOWN.out HL.out
   rw[<-HO.out] at HR
   rw[HR.out] at hown'
   exact⟨_,rfl,by rw[HR.out];exact hown',hB⟩
end
section
theorem zzD {B:Nat} {a w:zA} (h:RowKit.Below B a w) (n:Nat):RowKit.Below B a (w.drewN n):=⟨h.os,h.tape,h.output,h.size,h.block⟩
open Go.RowKit Lib Str Limb
def zua (w:zA) (l:List Nat) (e:Ending) (w':zA):Prop:=
 ∃g c,e=.returned (.slice (some ⟨g,0,none⟩) l.length c)/\w'.ownsRow w.heap.size 3 1 (.slice (some ⟨g,0,none⟩) l.length c) l.length (l.map I)/\zB w.heap.size w w'
theorem zrr {w:zA} {base:Nat} {t:TypeId} {s:Nat} {v:Value} {n:Nat} {xs:List Value} (h:w.ownsRow base t s v n xs) (hne:v≠ .slice none 0 0):∃g c,v=.slice (some ⟨g,0,none⟩) n c:=by
 rcases h.2 with⟨e,_⟩|⟨g,cp,cur,e,_⟩
 ·exact absurd e hne
 ·exact⟨_,_,e⟩
theorem zix (va vb:Value) (a b:List Nat) (w:zA) (ha:Sl w va (a.map I)) (hb:Sl w vb (b.map I)) (sa:zal B6 a) (sb:zal B6 b) (la:a.length<=1000) (hba:b.length<=a.length) (hle:valL B6 b<=valL B6 a):
 zC zF 202 #[va,vb] w (zua w (zaa B6 (valL B6 a-valL B6 b))):=by
 rw[<-znb (B:=B6) (by decide) sa sb hle a.length (zN _) hba]
 obtain⟨i0,hi,hz0,hz1,hz2⟩:=info_parts zdv
 have ha':=ha;have hb':=hb
 obtain⟨pa,ca,rfl,hca,hcella⟩:=ha
 obtain⟨pb,cb,rfl,hcb,hcellb⟩:=hb
 have HA:=hid ha';clear ha' hcella hca
 have HB:=hid hb';clear hb' hcellb hcb hle
 have SA:=hid sa;clear sa
 have SB:=hid sb;clear sb
 simp only[zV] at*
 go_enter Tryz.func202,Tryz.ntmps202
 go_wp2
 go_loopw [5,6,7] (λv c i wr=>∃k:Nat,k<=a.length/\i=.int .i64 k/\c=I (zaq (za1 B6) a b k).2/\wr.ownsRow w.heap.size 3 1 v k ((zaq (za1 B6) a b k).1.map I)/\zB w.heap.size w wr/\v≠ .slice none 0 0)
  (λ_ _ i _=>a.length-(zL i).toNat)
 case atStart=>exact⟨0,zR _,rfl,rfl,World.ownsRow_made w #[] 0 (zN _) (by unfold maxLen;omega) rfl,(zM _ w).alloc (zN _) _,λh=>by cases h⟩
 case round=>
  obtain⟨k,hk,rfl,rfl,hown,hB,hne⟩:=hrel
  have HNE:=hid hne;clear hne
  obtain⟨p1,p2,p3⟩:=zlo (B:=B6) (by decide) SA.out SB.out k
  by_cases hlt:k<a.length
  ·obtain⟨ba,offa,rfl,hba',hcapa,hcx⟩:=(HA.out.below hB).at hlt
   have hx:=zaj SA.out (by decide) k
   have hy:=zaj SB.out (by decide) k
   have hst:zaq (za1 B6) a b (k+1)=((zaq (za1 B6) a b k).1++[(za1 B6 (a[k]?.getD 0) (b[k]?.getD 0) (zaq (za1 B6) a b k).2).1],(za1 B6 (a[k]?.getD 0) (b[k]?.getD 0) (zaq (za1 B6) a b k).2).2):=rfl
   have HST:=hid hst;clear hst p1 p3
   generalize (zaq (za1 B6) a b k).1=o at*
   generalize (zaq (za1 B6) a b k).2=c at*
   have hx':a[k]?.getD 0<1000000:=hx
   have hy':b[k]?.getD 0<1000000:=hy
   clear hx hy
   have HOWN:=hid hown;clear hown
   have LB:=hid λ(W:zA) (h:qL w W)=>zgz _ b k W (HB.out.below h) (by omega)
   generalize a[k]?.getD 0=x at*
   generalize b[k]?.getD 0=y at*
   have e1:IntKind.i64.wrap ((x:Int)-y)=(x:Int)-y:=zI _ (by omega)
   have e2:IntKind.i64.wrap ((x:Int)-y-c)=(x:Int)-y-c:=zI _ (by omega)
   have fin:∀(v':Value) (w1:zA) (z:Int) (W:zA),qL w W->W.ownsRow w.heap.size 3 1 v' (k+1) (o.map I++[.int .i64 z])->True:=λ_ _ _ _ _ _=>trivial
   clear fin
   by_cases hge:y+c<=x
   ·have hE:Hid (Value.int .i64 ((x:Int)-y-c)=I (za1 B6 x y c).1/\(za1 B6 x y c).2=0):=hid (by
     have e:za1 B6 x y c=(x-y-c,0):=by unfold za1;rw[if_pos hge]
     rw[e];exact⟨by show Value.int .i64 _=Value.int .i64 _;congr 1;omega,rfl⟩)
    have hn:¬(x:Int)-y-c<0:=by omega
    go_wp2
    go_quiet ((go_at_call 201;exact Calls.quiet_of_same (zi5 (LB.out _ (hB.trans (zzD (zM _ _) _))))))
    clear e1 e2
    have hB2:qL w (wr.drewN nq):=zzD hB _
    have HOWN2:=hid (show(wr.drewN nq).ownsRow w.heap.size 3 1 _ k (o.map I) from HOWN.out)
    clear HOWN hcx hB hba'
    go_wp2_with (at_builtin;refine wpList_append_own _ rfl _ _ 107 rfl w.heap.size 3 i0 (.int .i64 0) 1 8 Tryz.underlying107 hi hz0 hz1 hz2 rfl (by decide) _ _ _ rfl (HOWN2.out.alloc _) ⟨wr.heap.size,0,none⟩ 1 1 [.int .i64 ((x:Int)-y-c)] rfl rfl (zep _ _ _) (zfn _) (by unfold maxLen;omega) (by omega) (by have:=hB2.size;simp at this⊢;omega) ?_)
    intro v' w1 hown' hgrow hnn
    have HNN:=hid (show v'≠ .slice none 0 0 from hnn);clear hnn
    have hB1:qL w w1:=(hB2.alloc hB2.size _).grown hgrow (by have:=hB2.size;simp at this⊢;omega) (λq e=>(HOWN2.out.lt q e).1)
    rw[hE.out.1] at hown'
    clear hgrow hB2 HOWN2
    go_wp2
    go_roundw
    case rel=>exact⟨k+1,by omega,by go_num,by rw[HST.out,hE.out.2];rfl,by rw[HST.out];simpa using hown',hB1,HNN.out⟩
    case measure=>simp[zL];omega
   ·have hE:Hid (Value.int .i64 ((x:Int)-y-c+1000000)=I (za1 B6 x y c).1/\(za1 B6 x y c).2=1):=hid (by
     have e:za1 B6 x y c=(x+B6-y-c,1):=by unfold za1;rw[if_neg hge]
     rw[e];exact⟨by show Value.int .i64 _=Value.int .i64 _;congr 1;unfold B6;omega,rfl⟩)
    have hn:(x:Int)-y-c<0:=by omega
    have e3:IntKind.i64.wrap ((x:Int)-y-c+1000000)=(x:Int)-y-c+1000000:=zI _ (by omega)
    go_wp2
    go_quiet ((go_at_call 201;exact Calls.quiet_of_same (zi5 (LB.out _ (hB.trans (zzD (zM _ _) _))))))
    clear e1 e2
    have hB2:qL w (wr.drewN nq):=zzD hB _
    have HOWN2:=hid (show(wr.drewN nq).ownsRow w.heap.size 3 1 _ k (o.map I) from HOWN.out)
    clear HOWN hcx hB hba'
    go_wp2_with (at_builtin;refine wpList_append_own _ rfl _ _ 107 rfl w.heap.size 3 i0 (.int .i64 0) 1 8 Tryz.underlying107 hi hz0 hz1 hz2 rfl (by decide) _ _ _ rfl (HOWN2.out.alloc _) ⟨wr.heap.size,0,none⟩ 1 1 [.int .i64 ((x:Int)-y-c+1000000)] rfl rfl (zep _ _ _) (zfn _) (by unfold maxLen;omega) (by omega) (by have:=hB2.size;simp at this⊢;omega) ?_)
    intro v' w1 hown' hgrow hnn
    have HNN:=hid (show v'≠ .slice none 0 0 from hnn);clear hnn
    have hB1:qL w w1:=(hB2.alloc hB2.size _).grown hgrow (by have:=hB2.size;simp at this⊢;omega) (λq e=>(HOWN2.out.lt q e).1)
    rw[hE.out.1] at hown'
    clear hgrow hB2 HOWN2 e3
    go_wp2
    go_roundw
    case rel=>exact⟨k+1,by omega,by go_num,by rw[HST.out,hE.out.2];rfl,by rw[HST.out];simpa using hown',hB1,HNN.out⟩
    case measure=>simp[zL];omega
  ·obtain rfl:k=a.length:=by omega
   have hl:(zaq (za1 B6) a b a.length).1.length=a.length:=zdk _ _ _ _
   obtain⟨o,ho⟩:∃o,o=(zaq (za1 B6) a b a.length).1:=⟨_,rfl⟩
   rw[<-ho] at hown hl
   have HO:=hid ho
   have HL:=hid hl;clear hl p1 p2 p3
   obtain⟨vg,vc,rfl⟩:=zrr hown HNE.out
   have HOWN:=hid hown;clear hown ho
   go_wp2_with fail
   refine(zeb _ _ _ o wr (Sl.of_own HOWN.out) (by rw[HL.out];omega)).mono ?_
   rintro e w1 ⟨rfl,rfl⟩
   go_wp2_with fail
   go_ret
   rw[<-HO.out]
   exact⟨_,_,rfl,zh4 HOWN.out HL.out,hB⟩
theorem znw (va vb:Value) (a b:List Nat) (w:zA) (ha:Sl w va (a.map I)) (hb:Sl w vb (b.map I)) (sa:zal B6 a) (sb:zal B6 b) (la:a.length<=1000) (hba:b.length<=a.length) (hle:valL B6 b<=valL B6 a):
 zC zF 202 #[va,vb] w (zht w (zaa B6 (valL B6 a-valL B6 b))):=
 (zix va vb a b w ha hb sa sb la hba hle).mono λ_ _ ⟨_,_,h1,h2,h3⟩=>⟨_,h1,h2,h3⟩
theorem zxc (m n:Nat) (hl:(zaa B6 m).length=(zaa B6 n).length) (k:Nat) (hk:k<(zaa B6 m).length) (h:∀i,k<i->i<(zaa B6 m).length->(zaa B6 m)[i]?.getD 0=(zaa B6 n)[i]?.getD 0):
 ((zaa B6 m)[k]?.getD 0<(zaa B6 n)[k]?.getD 0->m<n)/\((zaa B6 n)[k]?.getD 0<(zaa B6 m)[k]?.getD 0->n<m):=by
 have hB:2<=B6:=by decide
 have sa:=zak hB m
 have sb:=zak hB n
 have hd:=ztr hl k h
 constructor
 ·intro hlt
  have:=zem sa sb hl k hk hd hlt
  rwa [zam hB,zam hB] at this
 ·intro hgt
  have:=zem sb sa hl.symm k (by omega) hd.symm hgt
  rwa [zam hB,zam hB] at this
theorem z27 (m n:Nat) (hl:(zaa B6 m).length=(zaa B6 n).length) (h:∀i,i<(zaa B6 m).length->(zaa B6 m)[i]?.getD 0=(zaa B6 n)[i]?.getD 0):m=n:=by
 have hB:2<=B6:=by decide
 rw[<-zam hB m,zoa hl h,zam hB]
def ordN (m n:Nat):Int:=if m<n then-1 else if m=n then 0 else 1
theorem zlc (va vb:Value) (m n:Nat) (w:zA) (ha:Sl w va ((zaa B6 m).map I)) (hb:Sl w vb ((zaa B6 n).map I)) (la:(zaa B6 m).length<=1000) (_:(zaa B6 n).length<=1000):
 qJ 204 #[va,vb] w (.int .i64 (ordN m n)):=by
 have ha':=ha;have hb':=hb
 obtain⟨pa,ca,rfl,hca,hcella⟩:=ha
 obtain⟨pb,cb,rfl,hcb,hcellb⟩:=hb
 have HA:=hid ha';clear ha' hcella hca
 have HB:=hid hb';clear hb' hcellb hcb
 simp only[zV] at*
 have hlt':=zc2 (B:=B6) (by decide) (m:=m) (n:=n)
 have hgt':=zc2 (B:=B6) (by decide) (m:=n) (n:=m)
 have SA:=hid (zak (B:=B6) (by decide) m)
 have SB:=hid (zak (B:=B6) (by decide) n)
 by_cases hl:(zaa B6 m).length=(zaa B6 n).length
 ·have CP:=hid (zxc m n hl)
  have CE:=hid (z27 m n hl)
  rw[<-hl]
  clear hlt' hgt'
  have HL:=hid hl;clear hl
  generalize zaa B6 m=a at*
  generalize zaa B6 n=b at*
  go_enter Tryz.func204,Tryz.ntmps204
  go_wp2
  go_loopw [5] (λi wr=>∃k:Nat,k<=a.length/\i=.int .i64 ((k:Int)-1)/\(∀j,k<=j->j<a.length->a[j]?.getD 0=b[j]?.getD 0)/\zB w.heap.size w wr)
   (λi _=>(zL i+1).toNat)
  case atStart=>exact⟨a.length,zN _,rfl,λj h1 h2=>by omega,zM _ _⟩
  case round=>
   obtain⟨k,hk,rfl,hsame,hB⟩:=hrel
   rcases Nat.eq_zero_or_pos k with rfl|hp
   ·obtain rfl:m=n:=CE.out λi hi=>hsame i (zR _) hi
    clear hsame
    go_wp2
    go_ret
    exact⟨by unfold ordN;simp,hB⟩
   ·obtain⟨i,rfl⟩:∃i,k=i+1:=⟨k-1,by omega⟩
    have hi1:((i+1:Nat):Int)-1=(i:Int):=by omega
    rw[hi1]
    have hia:i<a.length:=by omega
    have hib:i<b.length:=by have:=HL.out;omega
    obtain⟨ba,offa,rfl,hba,hcapa,hcx⟩:=(HA.out.below hB).at hia
    obtain⟨bb,offb,rfl,hbb,hcapb,hcy⟩:=(HB.out.below hB).at hib
    have hcp:=CP.out i hia (λj h1 h2=>hsame j h1 h2)
    have hsn:a[i]?.getD 0=b[i]?.getD 0->∀j,i<=j->j<a.length->a[j]?.getD 0=b[j]?.getD 0:=λe j h1 h2=>by
     rcases Nat.lt_or_ge i j with h|h
     ·exact hsame j h h2
     ·obtain rfl:j=i:=by omega
      exact e
    have HS:=hid hsn;clear hsn hsame hi1
    have hx:=zaj SA.out (by decide) i
    have hy:=zaj SB.out (by decide) i
    have hx':a[i]?.getD 0<1000000:=hx
    have hy':b[i]?.getD 0<1000000:=hy
    clear hx hy
    have HLb:(a.length:Int)=b.length:=by have:=HL.out;omega
    have HB2:=hid hB
    generalize a[i]?.getD 0=x at*
    generalize b[i]?.getD 0=y at*
    rcases Nat.lt_trichotomy x y with hc|hc|hc
    ·have ho:ordN m n= -1:=by unfold ordN;rw[if_pos (hcp.1 hc)]
     have HO:=hid ho
     clear hcp HS ho
     go_wp2
     go_quiet (fail)
     go_wp2
     go_ret
     exact⟨by rw[HO.out];rfl,zzD HB2.out _⟩
    ·have HS':=hid (HS.out hc)
     subst hc
     clear hcp HS
     go_wp2
     go_quiet (fail)
     go_wp2
     go_quiet (fail)
     go_wp2
     go_roundw
     case rel=>exact⟨i,by omega,rfl,HS'.out,zzD HB2.out _⟩
     case measure=>simp[zL]
    ·have ho:ordN m n=1:=by unfold ordN;have:=hcp.2 hc;rw[if_neg (by omega),if_neg (by omega)]
     have hc2:¬x<y:=by omega
     have HO:=hid ho
     clear hcp HS ho
     go_wp2
     go_quiet (fail)
     go_wp2
     go_quiet (fail)
     go_wp2
     go_ret
     exact⟨by rw[HO.out];rfl,zzD (zzD HB2.out _) _⟩
 ·have hl':¬(((zaa B6 m).length:Int)=(zaa B6 n).length):=by omega
  rcases Nat.lt_or_gt_of_ne hl with h|h
  ·have ho:ordN m n= -1:=by unfold ordN;rw[if_pos (hlt' h)]
   rw[ho]
   clear ho hlt' hgt' hl
   generalize (zaa B6 m).length=x at*
   generalize (zaa B6 n).length=y at*
   go_enter Tryz.func204,Tryz.ntmps204
   go_wp2
   go_ret
   exact⟨rfl,zM _ _⟩
  ·have ho:ordN m n=1:=by unfold ordN;have:=hgt' h;rw[if_neg (by omega),if_neg (by omega)]
   rw[ho]
   have h2:¬(zaa B6 m).length<(zaa B6 n).length:=by omega
   clear ho hlt' hgt' hl
   generalize (zaa B6 m).length=x at*
   generalize (zaa B6 n).length=y at*
   go_enter Tryz.func204,Tryz.ntmps204
   go_wp2
   go_ret
   exact⟨rfl,zM _ _⟩
end
end Go.Proofs.YthfpmfdiamldoaaGreatDoor
