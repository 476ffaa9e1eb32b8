/- The example of the chapter: kingpostref04.Same on one term, kingpostlaw10.awake. -/
import Derived.Test.YthfpmfdiamldoaaGreatDoorF28
import Derived.Test.YthfpmfdiamldoaaGreatDoorF27
import Derived.LaidByTextLater
set_option maxRecDepth 100000
set_option maxHeartbeats 8000000
open Go.Proofs.Tryz renaming prog → zF
open Go.World renaming alloc_heap_new → zG
open Go.Joins renaming cell_of_block → zJ
open Go.RowKit.Below renaming refl → zM
open Nat renaming le_refl → zN
open List renaming getElem?_eq_getElem → yB
namespace Go.Proofs.YthfpmfdiamldoaaGreatDoor
section
open Go.RowKit Go.Shelf Lib Str Limb Geo
attribute [local go_sem] Oper.semAt_some
theorem z2j (g c h d:Nat) (w:World) (g0:w.cell? ⟨g,0,none⟩=some (St [49,50])) (g1:w.cell? ⟨g,1,none⟩=some (.string ⟨#[49]⟩)) (h0:w.cell? ⟨h,0,none⟩=some (.string ⟨#[49,50]⟩)) (h1:w.cell? ⟨h,1,none⟩=some (.string ⟨#[49]⟩)):
 qJ 30 #[.slice (some ⟨g,0,none⟩) 1 c,.slice (some ⟨h,0,none⟩) 1 d] w (.bool true):=by
 go_enter Tryz.func30,Tryz.ntmps30
 go_wp2_with fail
 refine wp_loop_rounds 2 ?_
 rw[rounds_succ]
 go_wp2_with fail
 go_quiet (fail)
 go_wp2_with fail
 rw[rounds_succ]
 go_wp2_with fail
 go_ret
 exact⟨rfl,(zM _ w).trans ⟨rfl,rfl,rfl,zN _,λ_ _=>rfl⟩⟩
theorem zkc:numS 0=[48]/\numS 1=[49]/\numS 2=[50]/\numS 3=[51]/\numS 4=[52]/\numS (mkRat 3 2)=[51,47,50]:=by
 refine⟨?_,?_,?_,?_,?_,?_⟩<;>decide+kernel
theorem z0m (W:World) (t:TypeId):RowPts (some ⟨W.heap.size,0,none⟩) tri3 (W.alloc (.cells #[.string ⟨#[48]⟩,.string ⟨#[48]⟩,.string ⟨#[52]⟩,.string ⟨#[48]⟩,.string ⟨#[52]⟩,.string ⟨#[51]⟩] t)):=by
 have A:=zG W (.cells #[.string ⟨#[48]⟩,.string ⟨#[48]⟩,.string ⟨#[52]⟩,.string ⟨#[48]⟩,.string ⟨#[52]⟩,.string ⟨#[51]⟩] t)
 obtain⟨n0,n1,n2,n3,n4,_⟩:=zkc
 intro i hi
 refine⟨_,_,rfl,?_⟩
 match i,hi with
 |0,_=>exact⟨by show _=some (St (numS 0));rw[n0,zJ A];rfl,by show _=some (St (numS 0));rw[n0,zJ A];rfl⟩
 |1,_=>exact⟨by show _=some (St (numS 4));rw[n4,zJ A];rfl,by show _=some (St (numS 0));rw[n0,zJ A];rfl⟩
 |2,_=>exact⟨by show _=some (St (numS 4));rw[n4,zJ A];rfl,by show _=some (St (numS 3));rw[n3,zJ A];rfl⟩
theorem ptsz (a b:Rat) (ha:sz a 2) (hb:sz b 2):szP ⟨a,b⟩ 36:=⟨ha.mono (by omega),hb.mono (by omega)⟩
theorem z0n (p:Option Addr) (cap:Nat) (w:World) (hw:Wd w) (hp:RowPts p tri3 w):
 qJ 8 #[.slice p 3 cap,.agg #[.string ⟨#[50]⟩,.string ⟨#[49]⟩]] w (.tuple #[.int .i64 1,.int .i64 0]):=by
 have h:=zkb p cap ⟨2,1⟩ (ptsz _ _ (by unfold sz;decide+kernel) (by unfold sz;decide+kernel)) 1 in_1 w hw hp
 unfold ptV at h
 rw[show numS (⟨2,1⟩:Pt).x=[50] from zkc.2.2.1,show numS (⟨2,1⟩:Pt).y=[49] from zkc.2.1] at h
 exact h
theorem z0o (p:Option Addr) (cap:Nat) (w:World) (hw:Wd w) (hp:RowPts p tri3 w):
 qJ 8 #[.slice p 3 cap,.agg #[.string ⟨#[50]⟩,.string ⟨#[51,47,50]⟩]] w (.tuple #[.int .i64 0,.int .i64 0]):=by
 have h:=zkb p cap ⟨2,mkRat 3 2⟩ (ptsz _ _ (by unfold sz;decide+kernel) (by unfold sz;decide+kernel)) 0 in_0 w hw hp
 unfold ptV at h
 rw[show numS (⟨2,mkRat 3 2⟩:Pt).x=[50] from zkc.2.2.1,show numS (⟨2,mkRat 3 2⟩:Pt).y=[51,47,50] from zkc.2.2.2.2.2] at h
 exact h
theorem z0p (p:Option Addr) (cap:Nat) (w:World) (hw:Wd w) (hp:RowPts p tri3 w):
 qJ 8 #[.slice p 3 cap,.agg #[.string ⟨#[49]⟩,.string ⟨#[50]⟩]] w (.tuple #[.int .i64 (-1),.int .i64 0]):=by
 have h:=zkb p cap ⟨1,2⟩ (ptsz _ _ (by unfold sz;decide+kernel) (by unfold sz;decide+kernel)) (-1) in_m w hw hp
 unfold ptV at h
 rw[show numS (⟨1,2⟩:Pt).x=[49] from zkc.2.1,show numS (⟨1,2⟩:Pt).y=[50] from zkc.2.2.1] at h
 exact h
theorem zsh (w:World) (HW:Hid (∀W,Below w.heap.size w W->Wd W/\Pw W)):
 qJ 7 #[] w (.bool true):=by
 obtain⟨w1,hw1⟩:∃w1,w1=w.alloc (.cells #[.string ⟨#[48]⟩,.string ⟨#[48]⟩,.string ⟨#[52]⟩,.string ⟨#[48]⟩,.string ⟨#[52]⟩,.string ⟨#[51]⟩] 25):=⟨_,rfl⟩
 have b1:Below w.heap.size w w1:=by rw[hw1];exact(zM _ w).alloc (zN _) _
 have r1:RowPts (some ⟨w.heap.size,0,none⟩) tri3 w1:=by rw[hw1];exact z0m w _
 have H1:=hid (⟨b1,r1⟩:_/\_)
 have HW1:=hid hw1;clear hw1 b1 r1
 go_enter Tryz.func7,Tryz.ntmps7
 go_wp2_with fail
 rw[<-HW1.out]
 refine(z0l _ 3 w1 (HW.out _ H1.out.1).1 H1.out.2).mono ?_
 rintro e w2 ⟨rfl,hb⟩
 have H2:=hid (⟨H1.out.1.trans (hb.mono H1.out.1.size),H1.out.2.keep (zac hb)⟩:Below w.heap.size w w2/\RowPts (some ⟨w.heap.size,0,none⟩) tri3 w2)
 clear hb H1 HW1
 go_wp2_with fail
 refine(z2i _ 3 w2 (hid λW h=>HW.out W (H2.out.1.trans (h.mono H2.out.1.size))) (hid H2.out.2)).mono ?_
 rintro e w3 ⟨g,c,rfl,hb,hg,g0,g1⟩
 have H3:=hid (⟨H2.out.1.trans (hb.mono H2.out.1.size),H2.out.2.keep (zac hb),g0,g1⟩:Below w.heap.size w w3/\RowPts (some ⟨w.heap.size,0,none⟩) tri3 w3/\w3.cell? ⟨g,0,none⟩=some (St [49,50])/\w3.cell? ⟨g,1,none⟩=some (.string ⟨#[49]⟩))
 clear hb H2 g0 g1 hg
 go_wp2_with fail
 refine(z0n _ 3 w3 (HW.out _ H3.out.1).1 H3.out.2.1).mono ?_
 rintro e w4 ⟨rfl,hb⟩
 have H4:=hid (⟨H3.out.1.trans (hb.mono H3.out.1.size),H3.out.2.1.keep (zac hb),zai hb H3.out.2.2.1,zai hb H3.out.2.2.2⟩:Below w.heap.size w w4/\RowPts (some ⟨w.heap.size,0,none⟩) tri3 w4/\w4.cell? ⟨g,0,none⟩=some (St [49,50])/\w4.cell? ⟨g,1,none⟩=some (.string ⟨#[49]⟩))
 clear hb H3
 go_wp2_with fail
 refine(z0o _ 3 w4 (HW.out _ H4.out.1).1 H4.out.2.1).mono ?_
 rintro e w5 ⟨rfl,hb⟩
 have H5:=hid (⟨H4.out.1.trans (hb.mono H4.out.1.size),H4.out.2.1.keep (zac hb),zai hb H4.out.2.2.1,zai hb H4.out.2.2.2⟩:Below w.heap.size w w5/\RowPts (some ⟨w.heap.size,0,none⟩) tri3 w5/\w5.cell? ⟨g,0,none⟩=some (St [49,50])/\w5.cell? ⟨g,1,none⟩=some (.string ⟨#[49]⟩))
 clear hb H4
 go_wp2_with fail
 refine(z0p _ 3 w5 (HW.out _ H5.out.1).1 H5.out.2.1).mono ?_
 rintro e w6 ⟨rfl,hb⟩
 have H6:=hid (⟨H5.out.1.trans (hb.mono H5.out.1.size),zai hb H5.out.2.2.1,zai hb H5.out.2.2.2⟩:Below w.heap.size w w6/\w6.cell? ⟨g,0,none⟩=some (St [49,50])/\w6.cell? ⟨g,1,none⟩=some (.string ⟨#[49]⟩))
 clear hb H5
 obtain⟨w7,hw7⟩:∃w7,w7=w6.alloc (.cells #[.string ⟨#[49,50]⟩,.string ⟨#[49]⟩] 57):=⟨_,rfl⟩
 have b7:Below w6.heap.size w6 w7:=by rw[hw7];exact(zM _ w6).alloc (zN _) _
 have A7:w7.heap[w6.heap.size]? =some (.cells #[.string ⟨#[49,50]⟩,.string ⟨#[49]⟩] 57 (0,0)):=by rw[hw7];exact zG w6 _
 have S:=hid (z2j g c w6.heap.size 1 w7 (zai b7 H6.out.2.1) (zai b7 H6.out.2.2) (by rw[zJ A7];rfl) (by rw[zJ A7];rfl))
 have B7:=hid (H6.out.1.trans (b7.mono H6.out.1.size))
 have HW7:=hid hw7;clear hw7 b7 A7 H6
 go_wp2_with fail
 rw[<-HW7.out]
 refine S.out.mono ?_
 rintro e w8 ⟨rfl,hb8⟩
 have B8:=hid (B7.out.trans (hb8.mono B7.out.size));clear hb8
 go_wp2_with fail
 go_ret
 exact⟨rfl,B8.out⟩
end
section
open Go.RowKit Go.Shelf Lib Str Limb
open Go.ChangeShapes Go.WideShapes Go.ChangeAt
theorem za5 {α:Type} (P:Nat->α->Prop):∀n,(∀i,i<n->∃x,P i x)->∃l:List α,l.length=n/\∀i (h:i<l.length),P i l[i]
 |0,_=>⟨[],rfl,λi h=>by simp at h⟩
 |n+1,h=>by
  obtain⟨l,hl,hP⟩:=za5 P n (λi hi=>h i (by omega))
  obtain⟨x,hx⟩:=h n (by omega)
  refine⟨l++[x],by simp[hl],λi hi=>?_⟩
  by_cases e:i<l.length
  ·rw[List.getElem_append_left e];exact hP i e
  ·have:i=n:=by simp at hi;omega
   subst this
   rw[List.getElem_append_right (by omega)]
   simpa using hx
theorem zce {H:Type} {enc:TypeId×Value->H} {W:World} {base:Nat} {sp:Nat->Bool} {held:Bool} {v:Value} {d:DataW H} {ps:List MemPlace} {r:Reach} {b0:Nat}
 (hval:Value.okWide zF W r b0 22 v) (hd:DataW.Trod enc zF W base sp held 22 v d ps):∃(p:Option Addr) (cap:Nat) (l:List (List UInt8×List UInt8)),v=.slice p l.length cap/\RowTx p l W:=by
 obtain⟨p,len,cap,rfl⟩:=okWide_slice Tryz.underlying22 hval
 obtain⟨fuel,hf⟩:=hd
 rcases DataW.trod_slice Tryz.underlying22 hf with⟨hcs,hx⟩|⟨a,len',cap',elems,rest,n,_,hcs,hx,hb,hl,hm,hlen,hel,_,_⟩
 ·simp[Value.cells] at hcs
  obtain⟨rfl,rfl,rfl⟩:=hcs
  exact⟨none,0,[],rfl,λi hi=>by simp at hi⟩
 simp[Value.cells] at hcs
 obtain⟨rfl,rfl,rfl⟩:=hcs
 rw[show Tryz.prog.cellsOf 25=2 by kernel_rfl] at hel
 have each:∀i,i<len->∃x:List UInt8×List UInt8,W.cell? (a.add (i*2))=some (St x.1)/\W.cell? ((a.add (i*2)).add 1)=some (St x.2):=by
  intro i hi
  have h1:=hel i hi
  rw[yB (by omega),Option.bind_eq_some_iff] at h1
  obtain⟨cs,hcs,htr⟩:=h1
  obtain⟨_,hcl,hce⟩:=World.cells?_some hcs
  obtain⟨y0,y1,n',_,_,h0,h1⟩:=trod_struct2 Tryz.underlying25 htr
  obtain⟨s0,e0,_,_⟩:=DataW.trod_string Tryz.underlying23 h0
  obtain⟨s1,e1,_,_⟩:=DataW.trod_string Tryz.underlying23 h1
  rw[show Tryz.prog.cellsOf 23=1 by kernel_rfl] at e0 e1
  match cs,hcl with
  |[c0,c1],_=>
   have k0:c0=.string s0:=by simpa using e0
   have k1:c1=.string s1:=by simpa using e1
   subst k0;subst k1
   have g0:=hce 0 (by omega);have g1:=hce 1 (by omega)
   refine⟨(s0.data.toList,s1.data.toList),?_,?_⟩
   ·simpa [St,Addr.add] using g0
   ·simpa [St,Addr.add] using g1
 obtain⟨l,hll,hP⟩:=za5 _ len each
 subst hll
 refine⟨some a,cap,l,rfl,λi hi=>?_⟩
 obtain⟨h0,h1⟩:=hP i hi
 obtain⟨b,off,spot⟩:=a
 have hspot:spot=none:=by simpa [Addr.add] using World.cell?_spot (hP 0 (by omega)).1
 subst hspot
 have ap:∀k,(⟨b,off,none⟩:Addr).add k=⟨b,off+k,none⟩:=λk=>by unfold Addr.add;split<;>simp_all
 have ap1:∀k,(⟨b,off+k,none⟩:Addr).add 1=⟨b,off+k+1,none⟩:=λk=>by unfold Addr.add;simp
 rw[ap] at h0 h1
 rw[ap1] at h1
 have ep:ptOf l i=l[i]:=by unfold ptOf;rw[yB hi];rfl
 rw[ep]
 exact⟨b,off,rfl,h0,h1⟩
theorem zrp (os:Os) (started:os.Started) (H:Type) (enc:TypeId×Value->H):
 ReturnsInHanded {} Tryz.checked os 4 .any (λw args=>(Rows.polygonCanonicalSpec.pre enc zF Tryz.f4 [] false w args/\laidMetH zF Rows.polygonCanonicalRow.laid w)/\sizedMet enc zF Tryz.f4 (OpenSpec.ofChange Rows.polygonCanonicalSpec) false w args)
  (Rows.polygonCanonicalSpec.post enc zF Tryz.f4 false true false false):=by
 refine zf9 (C:=Tryz.checked) (X:=λw _=>laidMetH zF Rows.polygonCanonicalRow.laid w) (λ_ _ _ hh h=>h.of_heap hh) zrj started (by kernel_rfl) Tryz.func4
  (ChangeSpec.witness_shaped (enc:=enc) (C:=Tryz.checked) (os:=os) (X:=λw _=>laidMetH zF Rows.polygonCanonicalRow.laid w) false (World.laidAll zF os Rows.polygonCanonicalRow.laid)
    #[.slice none 0 0] 8 (World.laidAll_os _ _ _)
    (World.shaped_of_ZipB (by kernel_rfl) (by kernel_rfl)) (by kernel_rfl) (by kernel_rfl) (by kernel_rfl)
    (by rw[MakeChecks.laidMetH_plain _ _ _ (by kernel_rfl)];exact laidMet_laidAll _ (by kernel_rfl) (by kernel_rfl))) ?_
 intro W args ds gs before base hval0 hW hL hsh
 have hval:∀(j:Nat) t v,Tryz.f4.params[j]? =some t->args[j]? =some v->Value.okWide zF W .any base t v:=hval0
 have hW':=hW
 obtain⟨p,q,hA0,hV,rfl,_,_⟩:=hW
 have hA:DataW.TrodAll enc zF W 0 (λ_=>true) true Tryz.f4.params.toList args.toList ds p:=hA0
 rw[Tryz.params4] at hA hval
 obtain⟨v0,vs0,d0,ds0,p0,q0,e0,rfl,rfl,h0,hA⟩:=trodAll_cons hA
 obtain⟨rfl,rfl,rfl⟩:=trodAll_nil hA
 obtain rfl:args= #[v0]:=by cases args;simp_all
 obtain⟨rfl,rfl⟩:=trodVars_none hV
 simp only[List.append_nil] at hW'
 have hlt:∀x∈p0,x.block<W.heap.size:=λx hx=>by simpa using hW'.lt x hx
 have k0:=h0
 obtain⟨p,cap,l,rfl,hr⟩:=zce (hval 0 22 v0 rfl rfl) h0
 have hM:laidMet zF Rows.polygonCanonicalRow.laid W:=by rw[<-MakeChecks.laidMetH_plain _ _ _ (by kernel_rfl)];exact hL
 have hwd:Wd W:=z0v hM (.tail _ (.tail _ (.head _))) hsh
 have hpw:Pw W:=z0w hM (.tail _ (.tail _ (.tail _ (.tail _ (.tail _ (.tail _ (.head _)))))))
 refine(z9u p cap l W (hid λX hX=>zsh X (hid λY hY=>⟨hwd.below (hX.trans (hY.mono hX.size)),hpw.below (hX.trans (hY.mono hX.size))⟩)) hwd hr).mono λe W' ⟨he,hb⟩=>?_
 subst he
 have t0:=Below.trod zgh (by kernel_rfl) (of_decide_eq_true (by kernel_rfl)) k0 hb hlt
 exact⟨_,rfl,_,_,_,[],_,[],hW',trodAll_mk1 (shut_bool Tryz.underlying4 _),trodAll_mk1 t0,rfl,hb.frame _,λh=>by cases h⟩
theorem zug:mapsRowed zF=true:=by kernel_rfl
theorem zxt:namedTie zF Rows.polygonCanonicalRow.named Rows.polygonCanonicalSpec.vars=true:=by kernel_rfl
theorem zpi:(Rows.polygonCanonicalRow.inPlace==Tryz.prog.inPlace 4)=true:=by kernel_rfl
theorem zxu:(Rows.polygonCanonicalRow.unfollowed==Tryz.prog.unfollowed 4)=true:=by kernel_rfl
theorem zxv:(Rows.polygonCanonicalRow.recurses==Tryz.prog.recurses 4)=true:=by kernel_rfl
theorem zpn:(Rows.polygonCanonicalRow.named==Tryz.prog.varsNamed 4)=true:=by kernel_rfl
theorem zqn:Tryz.prog.stopsHeard=true:=by kernel_rfl
theorem ztq:Tryz.prog.mayEnter=true:=by kernel_rfl
theorem zin:(Rows.polygonCanonicalRow.lifted==Tryz.prog.liftsFinal)=true:=by kernel_rfl
theorem zuh:(Tryz.prog.make==some Rows.polygonCanonicalRow.make)=true:=by kernel_rfl
theorem zwv:(Rows.polygonCanonicalRow.plainKeys==Tryz.prog.plainKeys)=true:=by kernel_rfl
theorem zxs:Tryz.pinned.checked.prog.funcNamed Rows.polygonCanonicalRow.func=some 4:=by kernel_rfl
theorem zxw:joinedFacts zF 4 Tryz.f4 Rows.polygonCanonicalSpec Rows.polygonCanonicalRow=true:=by
 unfold joinedFacts
 simp only[Bool.and_eq_true]
 repeat' apply And.intro
 all_goals first|with_reducible exact zgh|with_reducible exact zug|with_reducible exact zxt|with_reducible exact zpi|with_reducible exact zxu|with_reducible exact zxv|with_reducible exact zpn|with_reducible exact zqn|with_reducible exact ztq|with_reducible exact zin|with_reducible exact zuh|with_reducible exact zwv|kernel_rfl
theorem zul:Rows.PolygonCanonicalSaid:=
 OpenClaim.holds_of_wide 4 Tryz.f4 rfl rfl rfl rfl rfl rfl rfl ⟨rfl,rfl,rfl,rfl,rfl⟩ rfl rfl rfl rfl rfl zxs Tryz.func4 zxw
  (of_decide_eq_true (by kernel_rfl)) (by unfold Func.isWrapper;first|(rw[if_pos (by decide+kernel)];kernel_rfl)|(rw[if_neg (by decide+kernel)];exact⟨rfl,rfl⟩))
  (λos started H enc _=>zrp os started H enc)
end
end Go.Proofs.YthfpmfdiamldoaaGreatDoor
