/- polygon.Perimeter, Area and Inside on the triangle of the example. -/
import Derived.Test.YtbjomkfgicffhaaGreatDoorQ26
import Derived.Test.YtbjomkfgicffhaaGreatDoorQ16
set_option maxRecDepth 100000
set_option maxHeartbeats 8000000
namespace Go.Proofs.YtbjomkfgicffhaaGreatDoor
open Go.RowKit Go.Shelf Lib Str Limb Geo
attribute [local go_sem] Oper.semAt_some
def tri3:List Pt:=[⟨0,0⟩,⟨4,0⟩,⟨4,3⟩]
theorem zvy (i:Nat):cor tri3 i=⟨0,0⟩\/cor tri3 i=⟨4,0⟩\/cor tri3 i=⟨4,3⟩:=by
 have h:i%3<3:=Nat.mod_lt _ (by omega)
 show tri3[i%3]?.getD ⟨0,0⟩=_\/tri3[i%3]?.getD ⟨0,0⟩=_\/tri3[i%3]?.getD ⟨0,0⟩=_
 generalize i%3=j at h⊢
 match j,h with
 |0,_=>exact .inl rfl
 |1,_=>exact .inr (.inl rfl)
 |2,_=>exact .inr (.inr rfl)
theorem zlv (i:Nat):szP (cor tri3 i) 1:=by
 have z0:sz 0 1:=⟨by decide,by decide⟩
 have z3:sz 3 1:=⟨by decide,by decide⟩
 have z4:sz 4 1:=⟨by decide,by decide⟩
 rcases zvy i with h|h|h<;>rw[h]
 ·exact⟨z0,z0⟩
 ·exact⟨z4,z0⟩
 ·exact⟨z4,z3⟩
theorem zlm (i:Nat):szP (cor tri3 i) 36:=⟨(zlv i).1.mono (by omega),(zlv i).2.mono (by omega)⟩
theorem zyf:turn ⟨0,0⟩ ⟨4,0⟩ ⟨4,3⟩=1:=by decide+kernel
theorem zka:zch tri3:=by
 intro i h
 match i,h with
 |0,_=>show(⟨0,0⟩:Pt)≠⟨4,0⟩;decide
 |1,_=>show(⟨4,0⟩:Pt)≠⟨4,3⟩;decide
 |2,_=>show(⟨4,3⟩:Pt)≠⟨0,0⟩;decide
theorem zi3:zbz tri3:=by
 obtain⟨_,_,_,h1,h2,h3⟩:=(zt8 ⟨0,0⟩ ⟨4,0⟩ ⟨4,3⟩).2 (by rw[zyf];decide)
 intro i k hik hk
 match i,k,hik,hk with
 |0,1,_,_=>exact h1
 |0,2,_,_=>exact h2
 |1,2,_,_=>exact h3
 |i+2,k,h,h2=>exact absurd (show k<3 from h2) (by omega)
theorem z2h:sqS tri3 0=(((4*4:Nat):Int):Rat)/\sqS tri3 1=(((3*3:Nat):Int):Rat)/\sqS tri3 2=(((5*5:Nat):Int):Rat):=by
 refine⟨?_,?_,?_⟩<;>decide+kernel
theorem zyg:psum (zbh tri3) 3/2=6:=by decide+kernel
theorem zsg (k:Nat) (h:k<=3):sz (psum (zbh tri3) k) 2:=by
 match k,h with
 |0,_|1,_|2,_|3,_=>unfold sz;decide+kernel
theorem z0k (k:Nat) (h:k<3):sz (zbh tri3 k) 2:=by
 match k,h with
 |0,_|1,_|2,_=>unfold sz;decide+kernel
def z3i (w:World) (q:Option Addr) (m _:Nat) (k:Int) (W:World):Prop:=
 k=0/\∃g,q=some ⟨g,0,none⟩/\m=1/\w.heap.size+2<=g/\W.cell? ⟨g,0,none⟩=some (St [49,50])/\W.cell? ⟨g,1,none⟩=some (.string ⟨#[49]⟩)
theorem z2i (p:Option Addr) (cap:Nat) (w:World) (HW:Hid (∀W,Below w.heap.size w W->Wd W/\Pw W)) (HP:Hid (RowPts p tri3 w)):
 Calls Tryz.prog 19 #[.slice p 3 cap] w λe w'=>∃g c,e=.returned (.tuple #[.slice (some ⟨g,0,none⟩) 1 c,.int .i64 0])/\Below w.heap.size w w'/\w.heap.size<=g/\w'.cell? ⟨g,0,none⟩=some (St [49,50])/\w'.cell? ⟨g,1,none⟩=some (.string ⟨#[49]⟩):=by
 have hx:=λi=>(zlv i).1
 have hy:=λi=>(zlv i).2
 refine(z0j p cap tri3 (by decide) (by decide) (z3i w) w HW HP (hid ⟨?_⟩)
  (hid λW hW hp=>zj5 p cap tri3 (by decide) (by decide) zlm zka zi3 W hW hp)
  (hid λk _ W hW=>zgg _ _ 1 1 (by omega) (by omega) (by omega) (hx _) (hx _) W hW)
  (hid λk _ W hW=>zgg _ _ 1 1 (by omega) (by omega) (by omega) (hy _) (hy _) W hW)
  (hid λk _ W hW=>zhm _ _ 3 3 (by omega) (by omega) (by omega) (zb0 (hx _) (hx _)) (zb0 (hx _) (hx _)) W hW)
  (hid λk _ W hW=>zhm _ _ 3 3 (by omega) (by omega) (by omega) (zb0 (hy _) (hy _)) (zb0 (hy _) (hy _)) W hW)
  (hid λk _ W hW=>zje _ _ 6 6 (by omega) (by omega) (by omega) (zca (zb0 (hx _) (hx _)) (zb0 (hx _) (hx _))) (zca (zb0 (hy _) (hy _)) (zb0 (hy _) (hy _))) W hW)
  (hid ?_)).mono ?_
 ·rintro q m c k W W' ⟨h0,g,h1,h2,h3,h4,h5⟩ h
  exact⟨h0,g,h1,h2,h3,h _ _ _ h3 h4,h _ _ _ h3 h5⟩
 ·intro g gc W hb hs hg hc
  obtain⟨q0,q1,q2⟩:=z2h
  have c0:=hc 0 (by decide);have c1:=hc 1 (by decide);have c2:=hc 2 (by decide)
  rw[q0,zc5] at c0;rw[q1,zc5] at c1;rw[q2,zc5] at c2
  refine(z0e g 0 gc W (hid λW' h=>(HW.out W' (hb.trans (h.mono hb.size))).1) (hid λW' h=>(HW.out W' (hb.trans (h.mono hb.size))).2) c0.1 c0.2 c1.1 c1.2 c2.1 c2.2).mono ?_
  rintro e w' ⟨g',c,rfl,hb',hge,d0,d1⟩
  exact⟨_,_,_,_,rfl,hb',rfl,g',rfl,rfl,by omega,d0,d1⟩
 ·rintro e w' ⟨q,m,c,k,rfl,hb,rfl,g,rfl,rfl,hg,d0,d1⟩
  exact⟨g,c,rfl,hb,by omega,d0,d1⟩
theorem z0l (p:Option Addr) (cap:Nat) (w:World) (hw:Wd w) (hp:RowPts p tri3 w):
 Calls Tryz.prog 12 #[.slice p 3 cap] w λe w'=>e=.returned (.tuple #[St [54],.int .i64 0])/\Below w.heap.size w w':=by
 have h:=zt5 p cap tri3 (by decide) (by decide) zlm zka zi3 (λk hk=>⟨2,2,by omega,by omega,by omega,zsg k (Nat.le_of_lt hk),z0k k hk⟩) 2 (by omega) (by omega) (zsg 3 (by omega)) w hw hp
 have e:numS (psum (zbh tri3) tri3.length/2)=[54]:=by
  show numS (psum (zbh tri3) 3/2)=[54]
  rw[zyg]
  decide+kernel
 rw[e] at h
 exact h
theorem zkb (p:Option Addr) (cap:Nat) (q:Pt) (hq:szP q 36) (v:Int) (hv:((∃k,k<3/\onS tri3 q k)/\v=0)\/((∀k,k<3->¬onS tri3 q k)/\v=insI tri3 q 3)) (w:World) (hw:Wd w) (hp:RowPts p tri3 w):
 Calls Tryz.prog 14 #[.slice p 3 cap,ptV q] w λe w'=>e=.returned (.tuple #[.int .i64 v,.int .i64 0])/\Below w.heap.size w w':=by
 refine(zll p cap tri3 q (by decide) (by decide) zlm hq zka zi3 w hw hp).mono ?_
 rintro e w' ⟨r,rfl,h,hb⟩
 have:r=v:=by
  rcases h with⟨⟨k,hk,h1⟩,h2⟩|⟨h1,h2⟩<;>rcases hv with⟨⟨k',hk',h3⟩,h4⟩|⟨h3,h4⟩
  ·rw[h2,h4]
  ·exact absurd h1 (h3 k hk)
  ·exact absurd h3 (h1 k' hk')
  ·rw[h2,h4];rfl
 exact⟨by rw[this],hb⟩
theorem in_1:((∃k,k<3/\onS tri3 ⟨2,1⟩ k)/\(1:Int)=0)\/((∀k,k<3->¬onS tri3 ⟨2,1⟩ k)/\(1:Int)=insI tri3 ⟨2,1⟩ 3):=by
 refine .inr ⟨λk hk=>?_,by decide+kernel⟩
 unfold onS
 match k,hk with
 |0,_|1,_|2,_=>decide+kernel
theorem in_0:((∃k,k<3/\onS tri3 ⟨2,mkRat 3 2⟩ k)/\(0:Int)=0)\/((∀k,k<3->¬onS tri3 ⟨2,mkRat 3 2⟩ k)/\(0:Int)=insI tri3 ⟨2,mkRat 3 2⟩ 3):=by
 refine .inl ⟨⟨2,by omega,?_⟩,rfl⟩
 unfold onS
 decide+kernel
theorem in_m:((∃k,k<3/\onS tri3 ⟨1,2⟩ k)/\(-1:Int)=0)\/((∀k,k<3->¬onS tri3 ⟨1,2⟩ k)/\(-1:Int)=insI tri3 ⟨1,2⟩ 3):=by
 refine .inr ⟨λk hk=>?_,by decide+kernel⟩
 unfold onS
 match k,hk with
 |0,_|1,_|2,_=>decide+kernel
theorem z2j (g c h d:Nat) (w:World) (g0:w.cell? ⟨g,0,none⟩=some (St [49,50])) (g1:w.cell? ⟨g,1,none⟩=some (.string ⟨#[49]⟩)) (h0:w.cell? ⟨h,0,none⟩=some (.string ⟨#[49,50]⟩)) (h1:w.cell? ⟨h,1,none⟩=some (.string ⟨#[49]⟩)):
 Calls Tryz.prog 20 #[.slice (some ⟨g,0,none⟩) 1 c,.slice (some ⟨h,0,none⟩) 1 d] w λe w'=>e=.returned (.bool true)/\Below w.heap.size w w':=by
 go_enter Tryz.func20,Tryz.ntmps20
 go_wp2_with fail
 refine wp_loop_rounds 2 ?_
 rw[rounds_succ]
 go_wp2_with fail
 go_quiet (fail)
 go_wp2_with fail
 rw[rounds_succ]
 go_wp2_with fail
 go_ret
 exact⟨rfl,(Below.refl _ w).trans ⟨rfl,rfl,rfl,Nat.le_refl _,λ_ _=>rfl⟩⟩
theorem zkc:numS 0=[48]/\numS 1=[49]/\numS 2=[50]/\numS 3=[51]/\numS 4=[52]/\numS (mkRat 3 2)=[51,47,50]:=by
 refine⟨?_,?_,?_,?_,?_,?_⟩<;>decide+kernel
theorem z0m (W:World) (t:TypeId):RowPts (some ⟨W.heap.size,0,none⟩) tri3 (W.alloc (.cells #[.string ⟨#[48]⟩,.string ⟨#[48]⟩,.string ⟨#[52]⟩,.string ⟨#[48]⟩,.string ⟨#[52]⟩,.string ⟨#[51]⟩] t)):=by
 have A:=World.alloc_heap_new W (.cells #[.string ⟨#[48]⟩,.string ⟨#[48]⟩,.string ⟨#[52]⟩,.string ⟨#[48]⟩,.string ⟨#[52]⟩,.string ⟨#[51]⟩] t)
 obtain⟨n0,n1,n2,n3,n4,_⟩:=zkc
 intro i hi
 refine⟨_,_,rfl,?_⟩
 match i,hi with
 |0,_=>exact⟨by show _=some (St (numS 0));rw[n0,Go.Joins.cell_of_block A];rfl,by show _=some (St (numS 0));rw[n0,Go.Joins.cell_of_block A];rfl⟩
 |1,_=>exact⟨by show _=some (St (numS 4));rw[n4,Go.Joins.cell_of_block A];rfl,by show _=some (St (numS 0));rw[n0,Go.Joins.cell_of_block A];rfl⟩
 |2,_=>exact⟨by show _=some (St (numS 4));rw[n4,Go.Joins.cell_of_block A];rfl,by show _=some (St (numS 3));rw[n3,Go.Joins.cell_of_block A];rfl⟩
theorem ptsz (a b:Rat) (ha:sz a 2) (hb:sz b 2):szP ⟨a,b⟩ 36:=⟨ha.mono (by omega),hb.mono (by omega)⟩
theorem z0n (p:Option Addr) (cap:Nat) (w:World) (hw:Wd w) (hp:RowPts p tri3 w):
 Calls Tryz.prog 14 #[.slice p 3 cap,.agg #[.string ⟨#[50]⟩,.string ⟨#[49]⟩]] w λe w'=>e=.returned (.tuple #[.int .i64 1,.int .i64 0])/\Below w.heap.size w w':=by
 have h:=zkb p cap ⟨2,1⟩ (ptsz _ _ (by unfold sz;decide+kernel) (by unfold sz;decide+kernel)) 1 in_1 w hw hp
 unfold ptV at h
 rw[show numS (⟨2,1⟩:Pt).x=[50] from zkc.2.2.1,show numS (⟨2,1⟩:Pt).y=[49] from zkc.2.1] at h
 exact h
theorem z0o (p:Option Addr) (cap:Nat) (w:World) (hw:Wd w) (hp:RowPts p tri3 w):
 Calls Tryz.prog 14 #[.slice p 3 cap,.agg #[.string ⟨#[50]⟩,.string ⟨#[51,47,50]⟩]] w λe w'=>e=.returned (.tuple #[.int .i64 0,.int .i64 0])/\Below w.heap.size w w':=by
 have h:=zkb p cap ⟨2,mkRat 3 2⟩ (ptsz _ _ (by unfold sz;decide+kernel) (by unfold sz;decide+kernel)) 0 in_0 w hw hp
 unfold ptV at h
 rw[show numS (⟨2,mkRat 3 2⟩:Pt).x=[50] from zkc.2.2.1,show numS (⟨2,mkRat 3 2⟩:Pt).y=[51,47,50] from zkc.2.2.2.2.2] at h
 exact h
theorem z0p (p:Option Addr) (cap:Nat) (w:World) (hw:Wd w) (hp:RowPts p tri3 w):
 Calls Tryz.prog 14 #[.slice p 3 cap,.agg #[.string ⟨#[49]⟩,.string ⟨#[50]⟩]] w λe w'=>e=.returned (.tuple #[.int .i64 (-1),.int .i64 0])/\Below w.heap.size w w':=by
 have h:=zkb p cap ⟨1,2⟩ (ptsz _ _ (by unfold sz;decide+kernel) (by unfold sz;decide+kernel)) (-1) in_m w hw hp
 unfold ptV at h
 rw[show numS (⟨1,2⟩:Pt).x=[49] from zkc.2.1,show numS (⟨1,2⟩:Pt).y=[50] from zkc.2.2.1] at h
 exact h
theorem zsh (w:World) (HW:Hid (∀W,Below w.heap.size w W->Wd W/\Pw W)):
 Calls Tryz.prog 6 #[] w λe w'=>e=.returned (.bool true)/\Below w.heap.size w w':=by
 obtain⟨w1,hw1⟩:∃w1,w1=w.alloc (.cells #[.string ⟨#[48]⟩,.string ⟨#[48]⟩,.string ⟨#[52]⟩,.string ⟨#[48]⟩,.string ⟨#[52]⟩,.string ⟨#[51]⟩] 24):=⟨_,rfl⟩
 have b1:Below w.heap.size w w1:=by rw[hw1];exact(Below.refl _ w).alloc (Nat.le_refl _) _
 have r1:RowPts (some ⟨w.heap.size,0,none⟩) tri3 w1:=by rw[hw1];exact z0m w _
 have H1:=hid (⟨b1,r1⟩:_/\_)
 have HW1:=hid hw1;clear hw1 b1 r1
 go_enter Tryz.func6,Tryz.ntmps6
 go_wp2_with fail
 rw[<-HW1.out]
 refine(z0l _ 3 w1 (HW.out _ H1.out.1).1 H1.out.2).mono ?_
 rintro e w2 ⟨rfl,hb⟩
 have H2:=hid (⟨H1.out.1.trans (hb.mono H1.out.1.size),H1.out.2.keep (zac hb)⟩:Below w.heap.size w w2/\RowPts (some ⟨w.heap.size,0,none⟩) tri3 w2)
 clear hb H1 HW1
 go_wp2_with fail
 refine(z2i _ 3 w2 (hid λW h=>HW.out W (H2.out.1.trans (h.mono H2.out.1.size))) (hid H2.out.2)).mono ?_
 rintro e w3 ⟨g,c,rfl,hb,hg,g0,g1⟩
 have H3:=hid (⟨H2.out.1.trans (hb.mono H2.out.1.size),H2.out.2.keep (zac hb),g0,g1⟩:Below w.heap.size w w3/\RowPts (some ⟨w.heap.size,0,none⟩) tri3 w3/\w3.cell? ⟨g,0,none⟩=some (St [49,50])/\w3.cell? ⟨g,1,none⟩=some (.string ⟨#[49]⟩))
 clear hb H2 g0 g1 hg
 go_wp2_with fail
 refine(z0n _ 3 w3 (HW.out _ H3.out.1).1 H3.out.2.1).mono ?_
 rintro e w4 ⟨rfl,hb⟩
 have H4:=hid (⟨H3.out.1.trans (hb.mono H3.out.1.size),H3.out.2.1.keep (zac hb),zai hb H3.out.2.2.1,zai hb H3.out.2.2.2⟩:Below w.heap.size w w4/\RowPts (some ⟨w.heap.size,0,none⟩) tri3 w4/\w4.cell? ⟨g,0,none⟩=some (St [49,50])/\w4.cell? ⟨g,1,none⟩=some (.string ⟨#[49]⟩))
 clear hb H3
 go_wp2_with fail
 refine(z0o _ 3 w4 (HW.out _ H4.out.1).1 H4.out.2.1).mono ?_
 rintro e w5 ⟨rfl,hb⟩
 have H5:=hid (⟨H4.out.1.trans (hb.mono H4.out.1.size),H4.out.2.1.keep (zac hb),zai hb H4.out.2.2.1,zai hb H4.out.2.2.2⟩:Below w.heap.size w w5/\RowPts (some ⟨w.heap.size,0,none⟩) tri3 w5/\w5.cell? ⟨g,0,none⟩=some (St [49,50])/\w5.cell? ⟨g,1,none⟩=some (.string ⟨#[49]⟩))
 clear hb H4
 go_wp2_with fail
 refine(z0p _ 3 w5 (HW.out _ H5.out.1).1 H5.out.2.1).mono ?_
 rintro e w6 ⟨rfl,hb⟩
 have H6:=hid (⟨H5.out.1.trans (hb.mono H5.out.1.size),zai hb H5.out.2.2.1,zai hb H5.out.2.2.2⟩:Below w.heap.size w w6/\w6.cell? ⟨g,0,none⟩=some (St [49,50])/\w6.cell? ⟨g,1,none⟩=some (.string ⟨#[49]⟩))
 clear hb H5
 obtain⟨w7,hw7⟩:∃w7,w7=w6.alloc (.cells #[.string ⟨#[49,50]⟩,.string ⟨#[49]⟩] 51):=⟨_,rfl⟩
 have b7:Below w6.heap.size w6 w7:=by rw[hw7];exact(Below.refl _ w6).alloc (Nat.le_refl _) _
 have A7:w7.heap[w6.heap.size]? =some (.cells #[.string ⟨#[49,50]⟩,.string ⟨#[49]⟩] 51 (0,0)):=by rw[hw7];exact World.alloc_heap_new w6 _
 have S:=hid (z2j g c w6.heap.size 1 w7 (zai b7 H6.out.2.1) (zai b7 H6.out.2.2) (by rw[Go.Joins.cell_of_block A7];rfl) (by rw[Go.Joins.cell_of_block A7];rfl))
 have B7:=hid (H6.out.1.trans (b7.mono H6.out.1.size))
 have HW7:=hid hw7;clear hw7 b7 A7 H6
 go_wp2_with fail
 rw[<-HW7.out]
 refine S.out.mono ?_
 rintro e w8 ⟨rfl,hb8⟩
 have B8:=hid (B7.out.trans (hb8.mono B7.out.size));clear hb8
 go_wp2_with fail
 go_ret
 exact⟨rfl,B8.out⟩
end Go.Proofs.YtbjomkfgicffhaaGreatDoor
