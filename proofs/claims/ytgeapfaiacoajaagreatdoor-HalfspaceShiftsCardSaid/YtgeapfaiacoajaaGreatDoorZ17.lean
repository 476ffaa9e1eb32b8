/- kingpostlaw37.HalfspaceShifts, for every input. -/
import Derived.Test.YtgeapfaiacoajaaGreatDoorZ16
import Derived.LaidByTextLater
set_option maxRecDepth 100000
set_option maxHeartbeats 8000000
open Go renaming World → zA
open Go.Proofs.Tryz renaming prog → zF
open Go.Joins renaming cell_of_block → zJ
namespace Go.Proofs.YtgeapfaiacoajaaGreatDoor
section
open Go.RowKit Go.Shelf Lib Str Limb
attribute [local go_sem] Oper.semAt_some
theorem ShfR.mono {w w':zA} {a b c a' b' c':List UInt8} {L L':List (Rat×Nat)} {E E' F:Prop} {G G':Int->Prop} {e:Ending} (h:ShfR w a b c L E F G e w') (hl:E->E'/\a=a'/\b=b'/\c=c'/\L=L') (hg:∀r,G r->G' r):ShfR w a' b' c' L' E' F G' e w':=by
 obtain⟨o0,o1,o2,q,n,k,r,e1,hb,h⟩:=h;refine⟨o0,o1,o2,q,n,k,r,e1,hb,?_⟩;rcases h with⟨h1,h2,h3,h4,h5,h6⟩|⟨h1,h2⟩
 ·obtain⟨k1,rfl,rfl,rfl,rfl⟩:=hl h6
  exact .inl ⟨h1,h2,h3,h4,h5,k1⟩
 ·exact .inr ⟨hg _ h1,h2⟩
theorem zxe {l:List (Rat×Nat)} (h:SdOk l) {x:Rat} (hx:sz x 60) (hl:l.length<=11) (hs:∀t∈adL l x,sz t.1 60):SdOk (adL l x)/\(adL l x).length<=l.length+1:=by
 have:=zkj x;exact⟨z2e h (zc8 hx) (by omega) hs,by have:=z3f l (rs x);unfold adL;omega⟩
theorem zxr (v u:Value) (l:List (Rat×Nat)) (x:Rat) (h:SdOk l) (hx:sz x 60) (hl:l.length<=11) (w:zA) (hw:Hw w) (hv:SdL v l w) (hu:SdL u (rs x) w):
 Calls zF 17 #[v,u] w λe w'=>∃q n c r,e=.returned (.tuple #[.slice q n c,.int .i64 r])/\Below w.heap.size w w'/\OutR (adL l x) (∀t∈adL l x,sz t.1 60) True (.slice q n c) r w':=
 MkOut.calls (z4w v u l (rs x) h (zc8 hx) (by have:=zkj x;omega) w hw.d hw.p hv hu)
theorem z0j (a b c x y z:Rat) (s3:sz3 a b c 30) (t3:sz3 x y z 30) (hs:sz (a*x+b*y+c*z) 60) (hz:a≠0\/b≠0\/c≠0) (D:List (Rat×Nat)) (hD:SdOk D) (hl:D.length<=11) (v:Value) (w:zA) (hw:Hw w) (hv:SdL v D w):
 Calls zF 14 #[.agg #[St (numS a),St (numS b),St (numS c),v],.agg #[St (numS x),St (numS y),St (numS z)]] w (ShfR w (numS a) (numS b) (numS c) (adL D (a*x+b*y+c*z)) (∀t∈adL D (a*x+b*y+c*z),sz t.1 60) True (· =4)):=by
 obtain⟨p,n,k,rfl⟩:=hv.any;have H:=λ(W:zA) (h:qL w W)=>hw.below h;exact z1w _ _ _ _ _ _ (numS (a*x+b*y+c*z)) p n k (rs (a*x+b*y+c*z)) _ _ _ w
  (hid λW A hW hA=>zjk a b c (s3.1.mono (by omega)) (s3.2.1.mono (by omega)) (s3.2.2.mono (by omega)) hz _ D hD A W (H W hW) (hv.below hW) hA)
  (hid λW hW=>zf7 x y z (t3.mono (by omega)) W (H W hW).wd)
  (hid λW hW=>zs6 a b c x y z s3 t3 W (H W hW).wd)
  (hid λW hW=>z7c _ hs W (H W hW).d (H W hW).p)
  (hid λW q m c hW hu=>zxr _ _ D _ hD hs hl W (H W hW) (hv.below hW) hu)
theorem zzh (w:zA) (hw:Wd w) (A:Nat) (hA:w.heap[A]? =some (.cells #[St [],St [],St [],.slice none 0 0] 26 (0,0))):
 qJ 44 #[.slice (some ⟨A,0,none⟩) 1 1] w (.int .i64 1):=by
 refine z7i (some ⟨A,0,none⟩) 1 1 0 11 rfl (λ_=>[]) (λ_=>[]) (λ_=>[]) (λ_=>.slice none 0 0) (by omega) (by omega) (λi _=>⟨_,_,_,rfl⟩) w (hid λi hi V hV=>?_) (hid λi hi=>?_)
 ·rw[if_pos (show i=0 by omega)]
  exact zvp V (hid (hw.below hV))
 ·obtain rfl:i=0:=by omega
  obtain⟨k0,k1,k2,k3⟩:=zfb hA;exact⟨A,0,rfl,k0,k1,k2,k3⟩
theorem z2y (a b c x y z:List UInt8) (vd u0 u1 u2:Value) (ld l0 l1 l2:List (List UInt8×List UInt8)) (w:zA) (hw:Hw w) (hd:SdT vd ld w) (h0:SdT u0 l0 w) (h1:SdT u1 l1 w) (h2:SdT u2 l2 w):
 qJ 4 #[.agg #[St a,St b,St c,vd],.agg #[u0,u1,u2],.agg #[St x,St y,St z]] w (.bool true):=by
 obtain⟨pd,nd,kd,rfl⟩:=hd.any;obtain⟨p0,n0,k0,rfl⟩:=h0.any;obtain⟨p1,n1,k1,rfl⟩:=h1.any;obtain⟨p2,n2,k2,rfl⟩:=h2.any;have H:=λ(W:zA) (h:qL w W)=>hw.below h;refine z0c a b c x y z pd p0 p1 p2 nd n0 n1 n2 kd k0 k1 k2 _ _ (shT x/\shT y/\shT z) w (hid λW A hW hA=>z7p A a b c _ ld W (H W hW).wd hA (hd.below hW)) (hid λW hW=>z3p _ _ _ l0 l1 l2 W (H W hW) (h0.below hW) (h1.below hW) (h2.below hW)) (hid λW A hW hA=>?_) (hid λW hW=>zm6 W (H W hW)) (hid λhF hM hV=>?_)
 ·have:=zmy (some ⟨A,0,none⟩) 3 [x,y,z] (by simp) W (H W hW).wd (λi hi=>by
   refine⟨_,_,rfl,?_⟩;rw[zJ hA]
   match i,hi with
   |0,_|1,_|2,_=>rfl)
  refine this.mono λe w' ⟨t,h1,h2,h3⟩=>⟨t,h1,λh=>?_,h3⟩;have g:=h2.1 h;exact⟨g 0 (by simp),g 1 (by simp),g 2 (by simp)⟩
 obtain⟨A,B,C,D,hF⟩:=hF;obtain⟨⟨X,hX⟩,⟨Y,hY⟩,⟨Z,hZ⟩⟩:=hM;obtain⟨⟨lx,qx,rfl, -⟩,⟨ly,qy,rfl, -⟩,lz,qz,rfl, -⟩:=hV;obtain⟨ea,eb,ec,sa,sb,sc,hz,hGD⟩:=hF;subst ea;subst eb;subst ec;obtain⟨eD,oD,nD,zD⟩:=hGD;obtain⟨eX,oX,nX,zX⟩:=hX;obtain⟨eY,oY,nY,zY⟩:=hY;obtain⟨eZ,oZ,nZ,zZ⟩:=hZ;have sx:=zto (by omega) lx;have sy:=zto (by omega) ly;have sz':=zto (by omega) lz;have vD:=hd.sd eD;have vX:=h0.sd eX;have vY:=h1.sd eY;have vZ:=h2.sd eZ;have m60:∀{q:Rat},sz q 8->sz q 60:=λh=>h.mono (by omega);have m30:∀{q:Rat},sz q 8->sz q 30:=λh=>h.mono (by omega);have s3:sz3 A B C 30:=⟨m30 sa,m30 sb,m30 sc⟩;have t3:sz3 qx qy qz 30:=⟨m30 sx,m30 sy,m30 sz'⟩;have t3':sz3 (-qx) (-qy) (-qz) 30:=⟨m30 (zuh sx),m30 (zuh sy),m30 (zuh sz')⟩;obtain⟨s,hs⟩:=zzX (A*qx+B*qy+C*qz);have ss:sz s 60:=by rw[hs];exact(zk0 (zk0 (zca sa sx) (zca sb sy)) (zca sc sz')).mono (by omega)
 have hs':A* -qx+B* -qy+C* -qz= -s:=by rw[hs];grind
 obtain⟨-,sq⟩:=z3t sa sb sc hz;have o1:(∀t∈adL D s,sz t.1 60)->SdOk (adL D s)/\(adL D s).length<=3:=λh=>⟨(zxe oD ss (by omega) h).1,by have:=(zxe oD ss (by omega) h).2;omega⟩;have scl:∀{l:List (Rat×Nat)} {q:Rat},SdOk l->sz q 50->SclS l q:=λhl hq t ht=>(zca (hl.trm t ht).sc hq).mono (by omega);have m50:∀{q:Rat},sz q 8->sz q 50:=λh=>h.mono (by omega);have neg:∀{q:Rat},sz q 8->∀W:zA,qL w W->qJ 15 #[St (numS q)] W (St (numS (-q))):=λ{q} hq W hW=>by
  refine z19 _ _ W (hid ?_);have:=z5y 0 q 1 8 (by omega) (by omega) (by omega) zb7.1 hq W (H W hW).wd;rw[show St (numS 0)=.string ⟨#[48]⟩ by rw[nm0],show 0-q= -q by grind] at this;exact this
 refine⟨numS (-qx),numS (-qy),numS (-qz),adL D s,adL (adL D s) (-s),∀t∈adL D s,sz t.1 60,(∀t∈adL D s,sz t.1 60)/\∀t∈adL (adL D s) (-s),sz t.1 60,λi=>if i=0 then rs qx else if i=1 then rs qy else rs qz,λi=>if i=0 then adL X qx else if i=1 then adL Y qy else adL Z qz,λi=>∀t∈(if i=0 then adL X qx else if i=1 then adL Y qy else adL Z qz),sz t.1 60,
  λm r=>(r=4/\m=0)\/(m=sgnL (sdM3 D X Y Z A B C)/\r=sgeL (sdM3 D X Y Z A B C)),λm r=>(r=4/\m=0)\/(m=sgnL (sdM3 (adL D s) (adL X qx) (adL Y qy) (adL Z qz) A B C)/\r=sgeL (sdM3 (adL D s) (adL X qx) (adL Y qy) (adL Z qz) A B C)),⟨?_,neg sx,neg sy,neg sz',?_,?_,?_,?_,?_,?_,?_,?_,?_⟩⟩
 ·intro W hW
  have:=z0j A B C qx qy qz s3 t3 (by rw[<-hs];exact ss) hz D oD (by omega) _ W (H W hW) (vD.below hW);rw[<-hs] at this;exact this
 ·intro W o0 o1' o2 q n k r hW hr
  rcases hr with⟨rfl,rfl,rfl,rfl,hv,hE⟩|⟨rfl,rfl,rfl,rfl,rfl,rfl,rfl, -⟩
  ·obtain⟨k1,k2⟩:=o1 hE
   have:=z0j A B C (-qx) (-qy) (-qz) s3 t3' (by rw[hs'];exact zuh ss) hz (adL D s) k1 (by omega) _ W (H W hW) hv;rw[hs'] at this;exact this.mono λe w' h=>h.mono (λg=>⟨⟨hE,g⟩,rfl,rfl,rfl,rfl⟩) λr h=>⟨by omega,λ_=>h⟩
  ·exact(zyk [] [] [] _ _ _ none 0 0 1 rfl W (hid λV A' hV hA=>zzh V ((H W hW).below hV).wd A' hA)).mono λe w' h=>h.mono (λg=>g.elim) λr h=>⟨by omega,λk=>by omega⟩
 ·intro W o0 o1' o2 q n k r r1 hW hr
  rcases hr with⟨rfl,rfl,rfl,rfl,hv,hE⟩|⟨hr,rfl,rfl,rfl,rfl,rfl,rfl, -⟩
  ·obtain⟨k1,k2⟩:=o1 hE.1
   obtain⟨k3,k4⟩:=zxe k1 (zuh ss) (by omega) hE.2;refine(yav A B C A B C s3 s3 hz hz (sq.mono (by omega)) (sq.mono (by omega)) D (adL (adL D s) (-s)) oD k3 (by omega) (scl oD sq) (scl k3 sq) _ _ W (H W hW) (vD.below hW) hv).mono λe w' ⟨bb,r,e1,hb,h⟩=>⟨bb,r,e1,hb,λ_=>?_⟩;have hp:ParP A B C A B C:=⟨by grind,by grind,by grind,z8d hz⟩;rw[z6x oD.pos s] at h;rcases h with⟨-, -,h⟩|⟨-,⟨-,h⟩|⟨h,h'⟩⟩
   ·exact absurd hp h
   ·exact .inl h
   ·have hr:r=0:=h.trans rfl
    refine .inr ⟨hr,?_⟩;rw[h',hr];rfl
  ·refine(z8r _ _ _ [] [] [] pd none nd 0 kd 0 W (hid λV A' hV hA=>?_)).mono λe w' ⟨e1,hb⟩=>⟨_,_,e1,hb,λk=>absurd k hr.1⟩
   refine z7i (some ⟨A',0,none⟩) 2 2 1 11 rfl (λi=>if i=0 then numS A else[]) (λi=>if i=0 then numS B else[]) (λi=>if i=0 then numS C else[]) (λi=>if i=0 then .slice pd nd kd else .slice none 0 0) (by omega) (by omega) (λi _=>by
    by_cases h:i=0
    ·rw[if_pos h];exact⟨_,_,_,rfl⟩
    ·rw[if_neg h];exact⟨_,_,_,rfl⟩) V (hid λi hi U hU=>?_) (hid λi hi=>?_)
   ·match i,hi with
    |0,_=>exact zc9 A B C (m60 sa) (m60 sb) (m60 sc) hz _ D oD U (((H W hW).below hV).below hU) (((vD.below hW).below hV).below hU)
    |1,_=>exact zvp U (hid (((H W hW).below hV).below hU).wd)
   ·refine⟨A',0,rfl,?_⟩
    rw[zJ hA,zJ hA,zJ hA,zJ hA]
    match i,hi with
    |0,_|1,_=>exact⟨rfl,rfl,rfl,rfl⟩
 ·exact λW hW=>z7o qx qy qz (m60 sx) (m60 sy) (m60 sz') W (H W hW)
 ·exact λW u hW hu=>zxr _ u X qx oX (m60 sx) (by omega) W (H W hW) (vX.below hW) hu
 ·exact λW u hW hu=>zxr _ u Y qy oY (m60 sy) (by omega) W (H W hW) (vY.below hW) hu
 ·exact λW u hW hu=>zxr _ u Z qz oZ (m60 sz') (by omega) W (H W hW) (vZ.below hW) hu
 ·intro W hW
  refine(z3g A B C (m60 sa) (m60 sb) (m60 sc) hz D X Y Z oD oX oY oZ (zo6 _ _ _ _ _ _ _ (by omega)) (scl oX (m50 sa)) (scl oY (m50 sb)) (scl oZ (m50 sc)) _ _ _ _ W (H W hW) (vD.below hW) (vX.below hW) (vY.below hW) (vZ.below hW)).mono λe w' ⟨m,r,e1,hb,h⟩=>⟨m,r,e1,hb,h.imp id λk=>⟨k.1,k.2.1⟩⟩
 ·intro W o0 o1' o2 q n k r1 v0 v1 v2 r4 r5 r6 hW hr hv0 hv1 hv2
  have one:∀{l:List (Rat×Nat)} {x:Rat} {v:Value} {r:Int},SdOk l->l.length<=2->sz x 60->OutR (adL l x) (∀t∈adL l x,sz t.1 60) True v r W->∃L,SdL v L W/\SdOk L/\L.length<=3/\(r=0->L=adL l x):=λhl h2 hx h=>by
   rcases h with⟨rfl,hv,hE⟩|⟨rfl,rfl, -⟩
   ·obtain⟨g1,g2⟩:=zxe hl hx (by omega) hE
    exact⟨_,hv,g1,by omega,λ_=>rfl⟩
   ·exact⟨[],SdL.nil _,SdOk.nil,by simp,λh=>by omega⟩
  obtain⟨X',w0,g0,j0,i0⟩:=one oX nX (m60 sx) hv0;obtain⟨Y',w1,g1,j1,i1⟩:=one oY nY (m60 sy) hv1;obtain⟨Z',w2,g2,j2,i2⟩:=one oZ nZ (m60 sz') hv2;rcases hr with⟨rfl,rfl,rfl,rfl,hv,hE⟩|⟨rfl,rfl,rfl,rfl,rfl,rfl,rfl, -⟩
  ·obtain⟨k1,k2⟩:=o1 hE
   refine(z3g A B C (m60 sa) (m60 sb) (m60 sc) hz (adL D s) X' Y' Z' k1 g0 g1 g2 (zo6 _ _ _ _ _ _ _ (by omega)) (scl g0 (m50 sa)) (scl g1 (m50 sb)) (scl g2 (m50 sc)) _ _ _ _ W (H W hW) hv w0 w1 w2).mono λe w' ⟨m,r,e1,hb,h⟩=>⟨m,r,e1,hb,λ_ e4 e5 e6=>?_⟩;rw[i0 e4,i1 e5,i2 e6] at h;exact h.imp id λk=>⟨k.1,k.2.1⟩
  ·obtain⟨qa,na,ka,rfl⟩:=w0.any
   obtain⟨qb,nb,kb,rfl⟩:=w1.any;obtain⟨qc,nc,kc,rfl⟩:=w2.any;exact(zza [] [] [] none qa qb qc 0 0 na nb nc ka kb kc W (hid λV A' hV hA=>zzh V ((H W hW).below hV).wd A' hA)).mono λe w' ⟨e1,hb⟩=>⟨_,_,e1,hb,λk=>by omega⟩
 ·intro m r n r' q1 q2
  rcases q1 with⟨h,_⟩|⟨e1,e2⟩
  ·exact .inl h
  ·rcases q2 with⟨h,_⟩|⟨e3,e4⟩
   ·exact .inr (.inl h)
   ·rcases zzk (sdM3 D X Y Z A B C) with g|g
    ·rcases zzk (sdM3 (adL D s) (adL X qx) (adL Y qy) (adL Z qz) A B C) with g2|g2
     ·refine .inr (.inr ⟨by rw[e2,g],by rw[e4,g2],?_⟩)
      rw[e1,e3];subst hs;exact(z4u oD.pos oX.pos oY.pos oZ.pos A B C qx qy qz g g2).symm
     ·exact .inr (.inl (by rw[e4,g2]))
    ·exact .inl (by rw[e2,g])
end
section
open Go.RowKit Go.Shelf Lib Str Limb
open Go.ChangeShapes Go.WideShapes Go.ChangeAt
theorem z43 {H:Type} {enc:TypeId×Value->H} {W:zA} {base:Nat} {sp:Nat->Bool} {held:Bool} {r:Reach} {b0:Nat} {v:Value} {d:DataW H} {ps:List MemPlace}
 (hval:Value.okWide zF W r b0 45 v) (hd:DataW.Trod enc zF W base sp held 45 v d ps):∃x y z:List UInt8,v=.agg #[St x,St y,St z]:=by
 obtain⟨cs,rfl,hs⟩:=okWide_struct Tryz.underlying45 hval;rw[show Tryz.prog.cellsOf 45=3 by kernel_rfl] at hs;obtain⟨fuel,hf⟩:=hd;obtain⟨y0,y1,y2,n,hx,h0,h1,h2⟩:=z2k Tryz.underlying45 hf;obtain⟨s0,e0,_,_⟩:=DataW.trod_string Tryz.underlying22 h0;obtain⟨s1,e1,_,_⟩:=DataW.trod_string Tryz.underlying22 h1;obtain⟨s2,e2,_,_⟩:=DataW.trod_string Tryz.underlying22 h2;rw[show Tryz.prog.cellsOf 22=1 by kernel_rfl] at e0 e1 e2;obtain⟨l⟩:=cs
 match l,hs with
 |[c0,c1,c2],_=>
  have k0:c0=.string s0:=by simpa [Value.cells] using e0
  have k1:c1=.string s1:=by simpa [Value.cells] using e1
  have k2:c2=.string s2:=by simpa [Value.cells] using e2
  subst k0;subst k1;subst k2;exact⟨s0.data.toList,s1.data.toList,s2.data.toList,by simp[St]⟩
theorem zri (os:Os) (started:os.Started) (H:Type) (enc:TypeId×Value->H):
 ReturnsInHanded {} Tryz.checked os 4 .any (λw args=>(Rows.halfspaceShiftsSpec.pre enc zF Tryz.f4 [] false w args/\laidMetH zF Rows.halfspaceShiftsRow.laid w)/\sizedMet enc zF Tryz.f4 (OpenSpec.ofChange Rows.halfspaceShiftsSpec) false w args)
  (Rows.halfspaceShiftsSpec.post enc zF Tryz.f4 false true false false):=by
 refine zf9 (C:=Tryz.checked) (X:=λw _=>laidMetH zF Rows.halfspaceShiftsRow.laid w) (λ_ _ _ hh h=>h.of_heap hh) zrj started (by kernel_rfl) Tryz.func4
  (ChangeSpec.witness_shaped (enc:=enc) (C:=Tryz.checked) (os:=os) (X:=λw _=>laidMetH zF Rows.halfspaceShiftsRow.laid w) false (World.laidAll zF os Rows.halfspaceShiftsRow.laid)
    #[.agg #[.string ⟨#[]⟩,.string ⟨#[]⟩,.string ⟨#[]⟩,.slice none 0 0],.agg #[.slice none 0 0,.slice none 0 0,.slice none 0 0],.agg #[.string ⟨#[]⟩,.string ⟨#[]⟩,.string ⟨#[]⟩]] 8 (World.laidAll_os _ _ _)
    (World.shaped_of_ZipB (by kernel_rfl) (by kernel_rfl)) (by kernel_rfl) (by kernel_rfl) (by kernel_rfl)
    (by rw[MakeChecks.laidMetH_plain _ _ _ (by kernel_rfl)];exact laidMet_laidAll _ (by kernel_rfl) (by kernel_rfl))) ?_
 intro W args ds gs before base hval0 hW hL hsh;have hval:∀(j:Nat) t v,Tryz.f4.params[j]? =some t->args[j]? =some v->Value.okWide zF W .any base t v:=hval0;have hW':=hW;obtain⟨p,q,hA0,hV,rfl,_,_⟩:=hW;have hA:DataW.TrodAll enc zF W 0 (λ_=>true) true Tryz.f4.params.toList args.toList ds p:=hA0;rw[Tryz.params4] at hA hval;obtain⟨v0,vs0,d0,ds0,p0,q0,e0,rfl,rfl,h0,hA⟩:=trodAll_cons hA;obtain⟨v1,vs1,d1,ds1,p1,q1,e1,rfl,rfl,h1,hA⟩:=trodAll_cons hA;obtain⟨v2,vs2,d2,ds2,p2,q2,rfl,rfl,rfl,h2,hA⟩:=trodAll_cons hA;obtain⟨rfl,rfl,rfl⟩:=trodAll_nil hA;obtain rfl:args= #[v0,v1,v2]:=by cases args;simp_all
 obtain⟨rfl,rfl⟩:=trodVars_none hV;simp only[List.append_nil] at hW';have hlt:∀x∈p0++(p1++p2),x.block<W.heap.size:=λx hx=>by simpa using hW'.lt x (by simpa using hx)
 have k0:=h0;have k1:=h1;have k2:=h2;obtain⟨x0,y0,z0,u0,l0,rfl,hu0⟩:=z30 (hval 0 26 v0 rfl rfl) h0;obtain⟨m10,m11,m12,l10,l11,l12,rfl,hm10,hm11,hm12⟩:=z31 (hval 1 28 v1 rfl rfl) h1;obtain⟨x2,y2,z2,rfl⟩:=z43 (hval 2 45 v2 rfl rfl) h2;have hM:laidMet zF Rows.halfspaceShiftsRow.laid W:=by rw[<-MakeChecks.laidMetH_plain _ _ _ (by kernel_rfl)];exact hL
 have hwd:Wd W:=z0v hM (.tail _ (.tail _ (.head _))) hsh;have hpw:Pw W:=z0w hM (.tail _ (.tail _ (.tail _ (.tail _ (.tail _ (.tail _ (.head _)))))));have hsw:Spw W:=z80 hM (.tail _ (.tail _ (.tail _ (.tail _ (.tail _ (.tail _ (.tail _ (.head _))))))));refine(z2y x0 y0 z0 x2 y2 z2 u0 m10 m11 m12 l0 l10 l11 l12 W ⟨hwd,hpw,hsw⟩ hu0 hm10 hm11 hm12).mono λe W' ⟨he,hb⟩=>?_;subst he;have t0:=Below.trod zgh (by kernel_rfl) (of_decide_eq_true (by kernel_rfl)) k0 hb (λx hx=>hlt x (by simp[hx]));have t1:=Below.trod zgh (by kernel_rfl) (of_decide_eq_true (by kernel_rfl)) k1 hb (λx hx=>hlt x (by simp[hx]));have t2:=Below.trod zgh (by kernel_rfl) (of_decide_eq_true (by kernel_rfl)) k2 hb (λx hx=>hlt x (by simp[hx]));exact⟨_,rfl,_,_,_,[],_,[],hW',trodAll_mk1 (shut_bool Tryz.underlying4 _),trodAll_cons_mk t0 (trodAll_mk2 t1 t2),rfl,hb.frame _,λh=>by cases h⟩
theorem z7w:mapsRowed zF=true:=by kernel_rfl
theorem z8g:namedTie zF Rows.halfspaceShiftsRow.named Rows.halfspaceShiftsSpec.vars=true:=by kernel_rfl
theorem z65:(Rows.halfspaceShiftsRow.inPlace==Tryz.prog.inPlace 4)=true:=by kernel_rfl
theorem z8j:(Rows.halfspaceShiftsRow.unfollowed==Tryz.prog.unfollowed 4)=true:=by kernel_rfl
theorem z8k:(Rows.halfspaceShiftsRow.recurses==Tryz.prog.recurses 4)=true:=by kernel_rfl
theorem z67:(Rows.halfspaceShiftsRow.named==Tryz.prog.varsNamed 4)=true:=by kernel_rfl
theorem z69:Tryz.prog.stopsHeard=true:=by kernel_rfl
theorem z7a:Tryz.prog.mayEnter=true:=by kernel_rfl
theorem z5d:(Rows.halfspaceShiftsRow.lifted==Tryz.prog.liftsFinal)=true:=by kernel_rfl
theorem z7z:(Tryz.prog.make==some Rows.halfspaceShiftsRow.make)=true:=by kernel_rfl
theorem z73:(Rows.halfspaceShiftsRow.plainKeys==Tryz.prog.plainKeys)=true:=by kernel_rfl
theorem z74:Tryz.pinned.checked.prog.funcNamed Rows.halfspaceShiftsRow.func=some 4:=by kernel_rfl
theorem z8l:joinedFacts zF 4 Tryz.f4 Rows.halfspaceShiftsSpec Rows.halfspaceShiftsRow=true:=by
 unfold joinedFacts;simp only[Bool.and_eq_true]
 repeat' apply And.intro
 all_goals first|with_reducible exact zgh|with_reducible exact z7w|with_reducible exact z8g|with_reducible exact z65|with_reducible exact z8j|with_reducible exact z8k|with_reducible exact z67|with_reducible exact z69|with_reducible exact z7a|with_reducible exact z5d|with_reducible exact z7z|with_reducible exact z73|kernel_rfl
theorem zug:Rows.HalfspaceShiftsSaid:=
 OpenClaim.holds_of_wide 4 Tryz.f4 rfl rfl rfl rfl rfl rfl rfl ⟨rfl,rfl,rfl,rfl,rfl⟩ rfl rfl rfl rfl rfl z74 Tryz.func4 z8l
  (of_decide_eq_true (by kernel_rfl)) (by unfold Func.isWrapper;first|(rw[if_pos (by decide+kernel)];kernel_rfl)|(rw[if_neg (by decide+kernel)];exact⟨rfl,rfl⟩))
  (λos started H enc _=>zri os started H enc)
end
end Go.Proofs.YtgeapfaiacoajaaGreatDoor
