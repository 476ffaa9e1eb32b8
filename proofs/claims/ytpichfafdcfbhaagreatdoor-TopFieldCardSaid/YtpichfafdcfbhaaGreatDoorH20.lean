/- kingposttop.top05Awake: 1/2 + 1/3, (1 + root 2)(1 - root 2), and the range of root 2. -/
import Derived.Test.YtpichfafdcfbhaaGreatDoorH19
import Derived.LaidByTextLater
set_option maxRecDepth 100000
set_option maxHeartbeats 8000000
open Go renaming World → zA
open Go.Proofs.Tryz renaming prog → zF
open Go.World renaming alloc_heap_new → zG
open Go.Joins renaming cell_of_block → zJ
open Go.RowKit.Below renaming refl → zM
namespace Go.Proofs.YtpichfafdcfbhaaGreatDoor
section
open Go.RowKit Go.Shelf Lib Str Limb
attribute [local go_sem] Oper.semAt_some
theorem nm_q:numS (mkRat 1 10)=[49,47,49,48]/\numS (mkRat 1 1000)=[49,47,49,48,48,48]/\numS (mkRat 1 2)=[49,47,50]/\numS (mkRat 1 3)=[49,47,51]/\numS (mkRat 5 6)=[53,47,54]/\numS (mkRat 7 5)=[55,47,53]/\numS (mkRat 3 2)=[51,47,50]:=by
 refine⟨?_,?_,?_,?_,?_,?_,?_⟩<;>decide+kernel
theorem sz_q:sz (mkRat 1 10) 2/\sz (mkRat 1 1000) 4/\sz (mkRat 1 10000) 5/\sz (mkRat 7071 5000) 4/\sz (mkRat 7071 500) 4/\sz (mkRat 7 5) 2/\sz (mkRat 13 10) 2/\sz (mkRat 3 2) 2/\sz (mkRat 1 2) 1/\sz (mkRat 1 3) 1:=by
 refine⟨⟨?_,?_⟩,⟨?_,?_⟩,⟨?_,?_⟩,⟨?_,?_⟩,⟨?_,?_⟩,⟨?_,?_⟩,⟨?_,?_⟩,⟨?_,?_⟩,⟨?_,?_⟩,⟨?_,?_⟩⟩<;>decide+kernel
theorem z4t (a b c:Rat) (i j:Nat) (hi:0<i) (hj:0<j) (hij:i+j<300) (ha:sz a i) (hb:sz b j) (h:a+b=c) (W:zA) (hW:Wd W):qJ 7 #[St (numS a),St (numS b)] W (.tuple #[St (numS c),.int .i64 0]):=by
 rw[<-h];exact zje a b i j hi hj hij ha hb W hW
theorem z9i (a b c:Rat) (i j:Nat) (hi:0<i) (hj:0<j) (hij:i+j<300) (ha:sz a i) (hb:sz b j) (h:a-b=c) (W:zA) (hW:Wd W):qJ 165 #[St (numS a),St (numS b)] W (.tuple #[St (numS c),.int .i64 0]):=by
 rw[<-h];exact ztz a b i j hi hj hij ha hb W hW
theorem z9j (a b c:Rat) (hb0:b≠0) (i j:Nat) (hi:0<i) (hj:0<j) (hij:i+j<=300) (ha:sz a i) (hb:sz b j) (h:a/b=c) (W:zA) (hW:Wd W):qJ 9 #[St (numS a),St (numS b)] W (.tuple #[St (numS c),.int .i64 0]):=by
 rw[<-h];exact zoj a b hb0 i j hi hj hij ha hb W hW
theorem z8r (W:zA) (hW:Wd W):
 qJ 163 #[.agg #[St (numS 1),St (numS 2)],St (numS (mkRat 1 10000))] W (.tuple #[St (numS (mkRat 7071 5000)),.int .i64 0]):=by
 have h1:St (numS 1)=.string ⟨#[49]⟩:=by rw[zfc]
 rw[h1]
 refine z56 (numS 2) _ (numS 2) _ (hid λV hV=>?_) (hid λV hV=>?_) (hid λV hV=>?_) W (hid hW)
 ·have:=zlk 1 1 1 zb7.2.1 zb7.2.1 (by decide+kernel) V hV
  rw[h1] at this;exact this
 ·have:=zlk 1 2 2 zb7.2.1 zb7.2.2.1 (by decide+kernel) V hV
  rw[h1] at this;exact this
 ·have:=z5q 2 (mkRat 1 10000) 1 5 14142 (by decide) (by decide+kernel) (by omega) (by omega) (by omega) (by omega) (by omega) zb7.2.2.1 sz_q.2.2.1 (by decide+kernel) V hV
  rw[show((14142:Nat):Rat)*mkRat 1 10000=mkRat 7071 5000 by decide+kernel] at this
  exact this
theorem z71 (W:zA) (hW:Wd W):
 qJ 164 #[St (numS (mkRat 7071 5000)),St (numS (mkRat 1 10))] W (.tuple #[St (numS (mkRat 7 5)),.int .i64 0]):=by
 refine z4l _ _ (numS (mkRat 7071 500)) (numS 14) _ (hid λV hV=>?_) (hid λV hV=>?_) (hid λV hV=>?_) W (hid hW)
 ·exact z9j _ _ _ (by decide+kernel) 4 2 (by omega) (by omega) (by omega) sz_q.2.2.2.1 sz_q.1 (by decide+kernel) V hV
 ·have hn:=λU=>zbm (mkRat 7071 500) ⟨by decide+kernel,by decide+kernel⟩ U
  rw[show(mkRat 7071 500).num=7071 by decide+kernel,show(mkRat 7071 500).den=500 by decide+kernel] at hn
  have:=z5n ⟨(numS (mkRat 7071 500)).toArray⟩ 7071 500 14 (by omega) (by omega) (by decide+kernel) (by omega) (by omega) ⟨by omega,by omega⟩ (hid hn) V (hid hV)
  rw[<-zha 14] at this
  exact this
 ·exact z61 _ _ _ 2 2 (by omega) (by omega) (by omega) ⟨by decide,by decide⟩ sz_q.1 (by decide+kernel) V hV
theorem z8s (g cap:Nat) (W:zA) (h:Er g W):
 qJ 121 #[.slice (some ⟨g,0,none⟩) 1 cap,St (numS (mkRat 1 10))] W (.tuple #[St (numS (mkRat 13 10)),.int .i64 0]):=by
 refine z57 g cap (numS 1) (numS 2) _ (numS (mkRat 1 10000)) (numS (mkRat 7071 5000)) (numS (mkRat 7071 5000)) (numS (mkRat 7 5)) _ (hid λV hV=>?_) (hid λV hV=>z8r V hV) (hid λV hV=>?_) (hid λV hV=>z71 V hV) (hid λV hV=>?_) W (hid h.ew.wd) (hid ⟨h.c0,h.c1⟩)
 ·have:=z61 (mkRat 1 10) (mkRat 1 1000) (mkRat 1 10000) 2 4 (by omega) (by omega) (by omega) sz_q.1 sz_q.2.1 (by decide+kernel) V hV
  rw[show St (numS (mkRat 1 1000))=.string ⟨#[49,47,49,48,48,48]⟩ by rw[nm_q.2.1]] at this
  exact this
 ·have:=z4t 0 (mkRat 7071 5000) (mkRat 7071 5000) 1 4 (by omega) (by omega) (by omega) zb7.1 sz_q.2.2.2.1 (by decide+kernel) V hV
  rw[show St (numS 0)=.string ⟨#[48]⟩ by rw[nm0]] at this
  exact this
 ·exact z9i (mkRat 7 5) (mkRat 1 10) (mkRat 13 10) 2 2 (by omega) (by omega) (by omega) sz_q.2.2.2.2.2.1 sz_q.1 (by decide+kernel) V hV
theorem z8i (g cap:Nat) (hc:1<=cap) (W:zA) (h:Er g W):
 qJ 25 #[.slice (some ⟨g,0,none⟩) 1 cap,.int .i64 1] W (.tuple #[.agg #[St (numS (mkRat 7 5)),St (numS (mkRat 3 2))],.int .i64 0]):=by
 refine z6x g cap _ _ (Er g) (λ_ _ h hb=>h.below hb) (hid λV hV=>?_) (hid λV hV=>?_) W (hid h)
 ·refine z4p _ cap 1 (Er g) (λ_ _ h hb=>h.below hb) (hid λU hU=>z5i g cap hc U hU) (hid λU hU=>z7z _ cap 1 U (hid ?_)) V (hid hV)
  refine z7v _ cap 1 (λ_=>⟨(numS 1).toArray⟩) (λ_=>⟨(numS 2).toArray⟩) (by omega) (hid λi _ X hX=>?_) U (hid hU.ew.wd) (hid λi hi=>?_)
  ·refine z6z (numS 1) (numS 2) (hid λY hY=>?_) X (hid hX)
   exact z7u (numS 1) (itoa (1:Rat).num) (decDigits (1:Rat).den) _ rfl (by decide+kernel) (by decide+kernel) Y (hid hY) (hid λZ hZ=>zk5 1 (zm5 zb7.2.1) Z hZ)
  ·obtain rfl:i=0:=by omega
   exact⟨g,0,rfl,hU.c0,hU.c1⟩
 ·have h10:St (numS (mkRat 1 10))=.string ⟨#[49,47,49,48]⟩:=by rw[nm_q.1]
  rw[<-h10]
  refine z7t g cap _ (numS (mkRat 13 10)) _ _ (Er g) (λ_ _ h hb=>h.below hb) (λ_ h=>h.ew.wd) (hid λU hU=>z8s g cap U hU) (hid λU hU=>?_) (hid λU hU=>?_) (hid λU hU=>?_) (hid λU hU=>?_) (hid λU hU=>?_) V (hid hV)
  ·exact z3x (mkRat 13 10) (by decide+kernel) sz_q.2.2.2.2.2.2.1 130000 (by decide+kernel) 13000 (by decide+kernel) (by omega) (-1) (.inr ⟨by omega,rfl⟩) g cap hc U hU
  ·exact z4t (mkRat 13 10) (mkRat 1 10) (mkRat 7 5) 2 2 (by omega) (by omega) (by omega) sz_q.2.2.2.2.2.2.1 sz_q.1 (by decide+kernel) U hU
  ·exact z3x (mkRat 7 5) (by decide+kernel) sz_q.2.2.2.2.2.1 70000 (by decide+kernel) 14000 (by decide+kernel) (by omega) (-1) (.inr ⟨by omega,rfl⟩) g cap hc U hU
  ·exact z4t (mkRat 7 5) (mkRat 1 10) (mkRat 3 2) 2 2 (by omega) (by omega) (by omega) sz_q.2.2.2.2.2.1 sz_q.1 (by decide+kernel) U hU
  ·exact z3x (mkRat 3 2) (by decide+kernel) sz_q.2.2.2.2.2.2.2.1 30000 (by decide+kernel) 15000 (by decide+kernel) (by omega) 1 (.inl ⟨by omega,rfl⟩) g cap hc U hU
theorem z8j (B c:Nat) (q:Option Addr) (W:zA) (h:Ew W) (ho:W.ownsRow B 51 2 (.slice q 1 c) 1 (zbj [(numS (-1),numS 1)])):
 qJ 24 #[.slice q 1 c] W (.tuple #[St (numS (-1)),.bool true,.int .i64 0]):=by
 have hk:=z5j (-1) (by decide) (zb7.2.2.2.2.1.mono (by omega)) B c q W h ho
 obtain⟨-,g,rfl, -, -, -,hx⟩:=zly ho (by omega)
 obtain⟨c0,c1⟩:=hx 0 _ rfl
 exact z7o g c _ W c0 (by rw[show W.cell? ⟨g,1,none⟩=some (St (numS 1)) from c1,zfc]) (hid hk)
theorem z65 (w:zA)
 (A:Hid (∀W:zA,qL w W->qJ 7 #[.string ⟨#[49,47,50]⟩,.string ⟨#[49,47,51]⟩] W (.tuple #[.string ⟨#[53,47,54]⟩,.int .i64 0])))
 (M:Hid (∀(W:zA) (a:Nat),qL w W->a<W.heap.size->a+1<W.heap.size->W.heap[a]? =some (.cells #[St [49],St [49],St [49],St [50]] 51 (0,0))->W.heap[a+1]? =some (.cells #[St [49],St [49],St [45,49],St [50]] 51 (0,0))->
   Calls zF 16 #[.slice (some ⟨a,0,none⟩) 2 2,.slice (some ⟨a+1,0,none⟩) 2 2] W λe w'=>∃q c,e=.returned (.tuple #[.slice q 1 c,.int .i64 0])/\Below W.heap.size W w'/\
    ∀V:zA,qL w' V->Calls zF 24 #[.slice q 1 c] V λe v'=>e=.returned (.tuple #[.string ⟨#[45,49]⟩,.bool true,.int .i64 0])/\Below V.heap.size V v'))
 (O:Hid (∀(W:zA) (g:Nat),qL w W->W.heap[g]? =some (.cells #[St [49],St [50]] 51 (0,0))->qJ 25 #[.slice (some ⟨g,0,none⟩) 1 1,.int .i64 1] W (.tuple #[.agg #[.string ⟨#[55,47,53]⟩,.string ⟨#[51,47,50]⟩],.int .i64 0]))):
 qJ 6 #[] w (.bool true):=by
 have D0:=hid (zM w.heap.size w)
 go_enter Tryz.func6,Tryz.ntmps6
 go_wp2_with fail
 refine(A.out w D0.out).mono ?_
 rintro e w1 ⟨rfl,hb1⟩
 obtain⟨v1,hv⟩:∃v1,v1=(w1.alloc (.cells #[St [49],St [49],St [49],St [50]] 51)).alloc (.cells #[St [49],St [49],St [45,49],St [50]] 51):=⟨_,rfl⟩
 have a1:qL w1 v1:=by rw[hv];exact((zM _ w1).alloc (Nat.le_refl _) _).alloc (by simp) _
 have A1:v1.heap[w1.heap.size]? =some (.cells #[St [49],St [49],St [49],St [50]] 51 (0,0)):=by rw[hv];exact(Below.heap_alloc _ _ _ (by simp)).trans (zG w1 _)
 have A2:v1.heap[w1.heap.size+1]? =some (.cells #[St [49],St [49],St [45,49],St [50]] 51 (0,0)):=by
  rw[hv]
  have:=zG (w1.alloc (.cells #[St [49],St [49],St [49],St [50]] 51)) (.cells #[St [49],St [49],St [45,49],St [50]] 51)
  rw[World.size_alloc] at this
  exact this
 have hB:=hb1.trans (a1.mono hb1.size)
 have HM:=hid (M.out v1 w1.heap.size hB (Array.getElem?_eq_some_iff.1 A1).1 (Array.getElem?_eq_some_iff.1 A2).1 A1 A2)
 have E1:=hid hB
 have HV:=hid hv.symm
 clear hv a1 A1 A2 hB hb1 M A D0
 go_wp2_with fail
 have h9:=HV.out
 rw[show(w1.alloc (.cells #[.string ⟨#[49]⟩,.string ⟨#[49]⟩,.string ⟨#[49]⟩,.string ⟨#[50]⟩] 51)).alloc (.cells #[.string ⟨#[49]⟩,.string ⟨#[49]⟩,.string ⟨#[45,49]⟩,.string ⟨#[50]⟩] 51)=v1 from h9]
 clear h9 HV
 refine HM.out.mono ?_
 rintro e w2 ⟨q,c,rfl,hb2,hval⟩
 have E2:=hid (E1.out.trans (hb2.mono E1.out.size))
 have HVL:=hid (hval w2 (zM _ _))
 clear hb2 hval HM E1
 go_wp2_with fail
 refine HVL.out.mono ?_
 rintro e w3 ⟨rfl,hb3⟩
 have hB:=E2.out.trans (hb3.mono E2.out.size)
 obtain⟨v3,hv⟩:∃v3,v3=w3.alloc (.cells #[St [49],St [50]] 51):=⟨_,rfl⟩
 have a3:qL w3 v3:=by rw[hv];exact(zM _ w3).alloc (Nat.le_refl _) _
 have A3:v3.heap[w3.heap.size]? =some (.cells #[St [49],St [50]] 51 (0,0)):=by rw[hv];exact zG w3 _
 have hB3:=hB.trans (a3.mono hB.size)
 have HO:=hid (O.out v3 w3.heap.size hB3 A3)
 have E3:=hid hB3
 have HV:=hid hv.symm
 clear hv a3 A3 hB3 hB hb3 O HVL E2
 go_wp2_with fail
 have h9:=HV.out
 rw[show w3.alloc (.cells #[.string ⟨#[49]⟩,.string ⟨#[50]⟩] 51)=v3 from h9]
 clear h9 HV
 refine HO.out.mono ?_
 rintro e w4 ⟨rfl,hb4⟩
 have E4:=hid (E3.out.trans (hb4.mono E3.out.size))
 clear hb4 HO E3
 have mx4:∀w:zA,(Builtin.max_ #[25,25,25,25] 25 #[.int .i64 0,.int .i64 0,.int .i64 0,.int .i64 0]).run zF w=.ok (.int .i64 0) w:=λ_=>by kernel_rfl
 go_wp2_with fail
 go_ret
 exact⟨rfl,E4.out.alloc E4.out.size _⟩
theorem z8k (w:zA) (HW:Hid (∀W,qL w W->Wd W/\Pw W/\Spw W)):
 qJ 6 #[] w (.bool true):=by
 have EW:=λ(W:zA) (h:qL w W)=>(⟨(HW.out W h).1,(HW.out W h).2.1,(HW.out W h).2.2⟩:Ew W)
 have n12:numS 1=[49]/\numS 2=[50]/\numS (-1)=[45,49]:=⟨zfc,nm2,nm_1⟩
 refine z65 w (hid λW hW=>?_) (hid λW a hW ha ha2 h1 h2=>?_) (hid λW g hW hg=>?_)
 ·have:=z4t (mkRat 1 2) (mkRat 1 3) (mkRat 5 6) 1 1 (by omega) (by omega) (by omega) sz_q.2.2.2.2.2.2.2.2.1 sz_q.2.2.2.2.2.2.2.2.2 (by decide+kernel) W (EW W hW).wd
  rw[nm_q.2.2.1,nm_q.2.2.2.1,nm_q.2.2.2.2.1] at this
  exact this
 ·have k1:∀o u,(#[St [49],St [49],St [49],St [50]]:Array Value)[o]? =some u->W.cell? ⟨a,o,none⟩=some u:=λo u hu=>by rw[zJ h1];exact hu
  have k2:∀o u,(#[St [49],St [49],St [45,49],St [50]]:Array Value)[o]? =some u->W.cell? ⟨a+1,o,none⟩=some u:=λo u hu=>by rw[zJ h2];exact hu
  refine(z8n (some ⟨a,0,none⟩) (some ⟨a+1,0,none⟩) 2 2 (by omega) (by omega) W (hid λV hV=>((EW W hW).below hV).wd) (hid λV hV=>((EW W hW).below hV).pw) (hid λi hi=>?_) (hid λi hi=>?_)).mono λe w' ⟨q,c,e1,hb,ho⟩=>⟨q,c,e1,hb,λV hV=>?_⟩
  ·match i,hi with
   |0,_=>exact⟨a,0,rfl,ha,k1 0 _ (by show _=some (St (numS 1));rw[n12.1];rfl),k1 1 _ (by show _=some (St (numS 1));rw[n12.1];rfl)⟩
   |1,_=>exact⟨a,0,rfl,ha,k1 2 _ (by show _=some (St (numS 1));rw[n12.1];rfl),k1 3 _ (by show _=some (St (numS 2));rw[n12.2.1];rfl)⟩
  ·match i,hi with
   |0,_=>exact⟨a+1,0,rfl,ha2,k2 0 _ (by show _=some (St (numS 1));rw[n12.1];rfl),k2 1 _ (by show _=some (St (numS 1));rw[n12.1];rfl)⟩
   |1,_=>exact⟨a+1,0,rfl,ha2,k2 2 _ (by show _=some (St (numS (-1)));rw[n12.2.2];rfl),k2 3 _ (by show _=some (St (numS 2));rw[n12.2.1];rfl)⟩
  ·have:=z8j W.heap.size c q V (((EW W hW).below hb).below hV) (zcj (zac hV) ho)
   rw[n12.2.2] at this
   exact this
 ·have hE:Er g W:=⟨EW W hW,by rw[n12.1,zJ hg];rfl,by rw[n12.2.1,zJ hg];rfl⟩
  have:=z8i g 1 (by omega) W hE
  rw[nm_q.2.2.2.2.2.1,nm_q.2.2.2.2.2.2] at this
  exact this
end
section
open Go.RowKit Go.Shelf Lib Str Limb
open Go.ChangeShapes Go.WideShapes Go.ChangeAt
theorem zxe {H:Type} {enc:TypeId×Value->H} {W:zA} {base:Nat} {sp:Nat->Bool} {held:Bool} {r:Reach} {b0:Nat} {v:Value} {d:DataW H} {ps:List MemPlace}
 (hval:Value.okWide zF W r b0 22 v) (hd:DataW.Trod enc zF W base sp held 22 v d ps):∃x:List UInt8,v=St x/\ps=[]:=by
 obtain⟨s0,rfl⟩:=okWide_string Tryz.underlying22 hval
 obtain⟨fuel,hf⟩:=hd
 obtain⟨s1,e1,hx,_⟩:=DataW.trod_string Tryz.underlying22 hf
 simp only[Prod.mk.injEq] at hx
 exact⟨s0.data.toList,rfl,hx.2⟩
theorem z80 {l:List (String×DataW Unit)} {W:zA} (hL:laidMet zF l W) (hm:("kingpost/surd.signPlaces",Rows.laid_kingpost_surd_signPlaces)∈l):Spw W:=by
 obtain⟨g,t,cs,fuel,p,hg,ht,hv,hd⟩:=Lib.laidMet.reads hL hm
 obtain rfl:g=0:=Option.some.inj (hg.symm.trans (by kernel_rfl))
 obtain rfl:t=143:=Option.some.inj (ht.symm.trans (by kernel_rfl))
 have e:(Rows.laid_kingpost_surd_signPlaces:DataW Unit)=Lib.tabData .i64 [4,16,64]:=by kernel_rfl
 rw[e] at hd
 have hc:=Lib.cells_of_tab (n:=3) Tryz.underlying143 Tryz.underlying3 (by kernel_rfl) (by kernel_rfl) hd
 obtain rfl:cs=spV:=Array.toList_inj.1 (hc.trans (by kernel_rfl))
 exact⟨hv⟩
theorem z01 (os:Os) (started:os.Started) (H:Type) (enc:TypeId×Value->H):
 ReturnsInHanded {} Tryz.checked os 3 .any (λw args=>(Rows.topFieldSpec.pre enc zF Tryz.f3 [] false w args/\laidMetH zF Rows.topFieldRow.laid w)/\sizedMet enc zF Tryz.f3 (OpenSpec.ofChange Rows.topFieldSpec) false w args)
  (Rows.topFieldSpec.post enc zF Tryz.f3 false true false false):=by
 refine zf9 (C:=Tryz.checked) (X:=λw _=>laidMetH zF Rows.topFieldRow.laid w) (λ_ _ _ hh h=>h.of_heap hh) zrj started (by kernel_rfl) Tryz.func3
  (ChangeSpec.witness_shaped (enc:=enc) (C:=Tryz.checked) (os:=os) (X:=λw _=>laidMetH zF Rows.topFieldRow.laid w) false (World.laidAll zF os Rows.topFieldRow.laid)
    #[.string ⟨#[]⟩,.string ⟨#[]⟩,.string ⟨#[]⟩] 8 (World.laidAll_os _ _ _)
    (World.shaped_of_ZipB (by kernel_rfl) (by kernel_rfl)) (by kernel_rfl) (by kernel_rfl) (by kernel_rfl)
    (by rw[MakeChecks.laidMetH_plain _ _ _ (by kernel_rfl)];exact laidMet_laidAll _ (by kernel_rfl) (by kernel_rfl))) ?_
 intro W args ds gs before base hval0 hW hL hsh
 have hval:∀(j:Nat) t v,Tryz.f3.params[j]? =some t->args[j]? =some v->Value.okWide zF W .any base t v:=hval0
 have hW':=hW
 obtain⟨p,q,hA0,hV,rfl,_,_⟩:=hW
 have hA:DataW.TrodAll enc zF W 0 (λ_=>true) true Tryz.f3.params.toList args.toList ds p:=hA0
 rw[Tryz.params3] at hA hval
 obtain⟨v0,vs0,d0,ds0,p0,q0,e0,rfl,rfl,h0,hA⟩:=trodAll_cons hA
 obtain⟨v1,vs1,d1,ds1,p1,q1,e1,rfl,rfl,h1,hA⟩:=trodAll_cons hA
 obtain⟨v2,vs2,d2,ds2,p2,q2,e2,rfl,rfl,h2,hA⟩:=trodAll_cons hA
 obtain⟨rfl,rfl,rfl⟩:=trodAll_nil hA
 obtain rfl:args= #[v0,v1,v2]:=by cases args;simp_all
 obtain⟨rfl,rfl⟩:=trodVars_none hV
 obtain⟨x0,rfl,rfl⟩:=zxe (hval 0 22 v0 rfl rfl) h0
 obtain⟨x1,rfl,rfl⟩:=zxe (hval 1 22 v1 rfl rfl) h1
 obtain⟨x2,rfl,rfl⟩:=zxe (hval 2 22 v2 rfl rfl) h2
 simp only[List.append_nil] at hW'
 have hM:laidMet zF Rows.topFieldRow.laid W:=by rw[<-MakeChecks.laidMetH_plain _ _ _ (by kernel_rfl)];exact hL
 have hwd:Wd W:=z0v hM (.tail _ (.tail _ (.head _))) hsh
 have hpw:Pw W:=z0w hM (.tail _ (.tail _ (.tail _ (.tail _ (.tail _ (.tail _ (.head _)))))))
 have hsw:Spw W:=z80 hM (.tail _ (.tail _ (.tail _ (.tail _ (.tail _ (.tail _ (.tail _ (.head _))))))))
 refine(z7d x0 x1 x2 W (hid λX hX=>z8k X (hid λY hY=>⟨hwd.below (hX.trans (hY.mono hX.size)),hpw.below (hX.trans (hY.mono hX.size)),hsw.below (hX.trans (hY.mono hX.size))⟩)) hwd).mono λe W' ⟨he,hb⟩=>?_
 subst he
 have k:=λ{v:Value} {d:DataW H} (h:DataW.Trod enc zF W 0 (λ_=>true) true 22 v d [])=>Below.trod zgh (by kernel_rfl) (of_decide_eq_true (by kernel_rfl)) h hb (λ_ h=>by cases h)
 exact⟨_,rfl,_,_,_,[],[],[],hW',trodAll_mk1 (shut_bool Tryz.underlying4 _),trodAll_mk3 (k h0) (k h1) (k h2),rfl,hb.frame _,λh=>by cases h⟩
theorem zuh:mapsRowed zF=true:=by kernel_rfl
theorem zxu:namedTie zF Rows.topFieldRow.named Rows.topFieldSpec.vars=true:=by kernel_rfl
theorem zpn:(Rows.topFieldRow.inPlace==Tryz.prog.inPlace 3)=true:=by kernel_rfl
theorem zxv:(Rows.topFieldRow.unfollowed==Tryz.prog.unfollowed 3)=true:=by kernel_rfl
theorem zxw:(Rows.topFieldRow.recurses==Tryz.prog.recurses 3)=true:=by kernel_rfl
theorem zqn:(Rows.topFieldRow.named==Tryz.prog.varsNamed 3)=true:=by kernel_rfl
theorem ztq:Tryz.prog.stopsHeard=true:=by kernel_rfl
theorem zug:Tryz.prog.mayEnter=true:=by kernel_rfl
theorem zpi:(Rows.topFieldRow.lifted==Tryz.prog.liftsFinal)=true:=by kernel_rfl
theorem zwv:(Tryz.prog.make==some Rows.topFieldRow.make)=true:=by kernel_rfl
theorem zxs:(Rows.topFieldRow.plainKeys==Tryz.prog.plainKeys)=true:=by kernel_rfl
theorem zxt:Tryz.pinned.checked.prog.funcNamed Rows.topFieldRow.func=some 3:=by kernel_rfl
theorem zxx:joinedFacts zF 3 Tryz.f3 Rows.topFieldSpec Rows.topFieldRow=true:=by
 unfold joinedFacts
 simp only[Bool.and_eq_true]
 repeat' apply And.intro
 all_goals first|with_reducible exact zgh|with_reducible exact zuh|with_reducible exact zxu|with_reducible exact zpn|with_reducible exact zxv|with_reducible exact zxw|with_reducible exact zqn|with_reducible exact ztq|with_reducible exact zug|with_reducible exact zpi|with_reducible exact zwv|with_reducible exact zxs|kernel_rfl
theorem z5r:Rows.TopFieldSaid:=
 OpenClaim.holds_of_wide 3 Tryz.f3 rfl rfl rfl rfl rfl rfl rfl ⟨rfl,rfl,rfl,rfl,rfl⟩ rfl rfl rfl rfl rfl zxt Tryz.func3 zxx
  (of_decide_eq_true (by kernel_rfl)) (by unfold Func.isWrapper;first|(rw[if_pos (by decide+kernel)];kernel_rfl)|(rw[if_neg (by decide+kernel)];exact⟨rfl,rfl⟩))
  (λos started H enc _=>z01 os started H enc)
end
end Go.Proofs.YtpichfafdcfbhaaGreatDoor
