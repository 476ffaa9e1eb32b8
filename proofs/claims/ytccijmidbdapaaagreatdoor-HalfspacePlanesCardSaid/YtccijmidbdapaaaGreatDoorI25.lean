/- slices.Equal of terms; kingpostlaw37.awake by contracts. -/
import Derived.Test.YtccijmidbdapaaaGreatDoorI24
import Derived.LaidByTextLater
set_option maxRecDepth 100000
set_option maxHeartbeats 8000000
open Go renaming World → zA
open Go.Proofs.Tryz renaming prog → zF
open Go.World renaming alloc_heap_new → zG, size_alloc → zH
open Go.Joins renaming cell_of_block → zJ
open Go.RowKit.Below renaming refl → zM
open Nat renaming le_refl → zN
open List renaming append_nil → yH
namespace Go.Proofs.YtccijmidbdapaaaGreatDoor
section
open Go.RowKit Go.Shelf Lib Str Limb
attribute [local go_sem] Oper.semAt_some
theorem zqb (p p':Option Addr) (c c' n:Nat) (X Y:Nat->ByteArray) (hn:n<=5000) (w:zA) (HP:Hid (RowTm p n X Y w)) (HP':Hid (RowTm p' n X Y w)):
 qJ 20 #[.slice p n c,.slice p' n c'] w (.bool true):=by
 have D0:=hid (zM w.heap.size w)
 go_enter Tryz.func20,Tryz.ntmps20
 go_wp2_with fail
 go_loopw [13] (λi wr=>∃(k:Nat),k<=n/\i=.int .i64 (k:Int)/\Hid (qL w wr))
  (λi _=>n-(RowKit.intOf i).toNat)
 case atStart=>exact⟨0,Nat.zero_le _,rfl,D0⟩
 case round=>
  clear D0
  obtain⟨k,hk,rfl,hB⟩:=hrel
  by_cases hlt:k<n
  ·obtain⟨b,off,rfl,c0,c1⟩:=(HP.out.keep (zac hB.out)) k hlt
   obtain⟨b',off',rfl,d0,d1⟩:=(HP'.out.keep (zac hB.out)) k hlt
   have HQ:=hid λm=>hB.out.trans ((zao (zM _ wr) m).mono hB.out.size)
   clear hB
   generalize X k=x at*
   generalize Y k=y at*
   go_wp2_with fail
   go_quiet (fail)
   go_wp2_with fail
   go_roundw
   case rel=>exact⟨k+1,by omega,by go_num,hid (HQ.out _)⟩
   case measure=>simp[RowKit.intOf];omega
  ·go_wp2_with fail
   go_ret
   exact⟨rfl,hB.out⟩
theorem eq_l (v v':Value) (l:List (Rat×Nat)) (hl:l.length<=5000) (w:zA) (h:SdL v l w) (h':SdL v' l w):
 qJ 20 #[v,v'] w (.bool true):=by
 obtain⟨p,cap,rfl, -,hx⟩:=h.slice
 obtain⟨p',cap',rfl, -,hx'⟩:=h'.slice
 have at_:∀i,i<l.length->∃t,l[i]? =some t:=λi hi=>⟨_,List.getElem?_eq_getElem hi⟩
 refine zqb p p' cap cap' l.length (λi=>⟨(numS ((l[i]?.getD (1,1)).1)).toArray⟩) (λi=>⟨(decDigits ((l[i]?.getD (1,1)).2)).toArray⟩) hl w (hid λi hi=>?_) (hid λi hi=>?_)
 ·obtain⟨t,ht⟩:=at_ i hi
  obtain⟨b,off,e, -,h1,h2⟩:=hx i t ht
  refine⟨b,off,e,?_,?_⟩
  ·simp only[ht,Option.getD_some];exact h1
  ·simp only[ht,Option.getD_some];exact h2
 ·obtain⟨t,ht⟩:=at_ i hi
  obtain⟨b,off,e, -,h1,h2⟩:=hx' i t ht
  refine⟨b,off,e,?_,?_⟩
  ·simp only[ht,Option.getD_some];exact h1
  ·simp only[ht,Option.getD_some];exact h2
theorem SdL.laid (w:zA) (q:Rat) (r:Nat) (x y:ByteArray) (hx:St (numS q)=.string x) (hy:St (decDigits r)=.string y) (W:zA) (hW:W=w.alloc (.cells #[.string x,.string y] 58)):SdL (.slice (some ⟨w.heap.size,0,none⟩) 1 1) [(q,r)] W:=by
 refine .inr ⟨w.heap.size,0,1,rfl,zN _,by rw[hW,zH];omega,λi t ht=>?_⟩
 have hb:W.heap[w.heap.size]? =some (.cells #[.string x,.string y] 58 (0,0)):=by rw[hW];exact zG w _
 match i,ht with
 |0,ht=>
  simp at ht
  subst ht
  refine⟨?_,?_⟩
  ·rw[zJ hb,hx];rfl
  ·rw[zJ hb,hy];rfl
 |i+1,ht=>simp at ht
theorem zlg (a b c:List UInt8) (w:zA)
 (OF:Hid (Calls zF 11 #[.agg #[.string ⟨#[49]⟩,.string ⟨#[48]⟩,.string ⟨#[48]⟩],.bool false] w λe w'=>∃v,e=.returned (.tuple #[.agg #[St a,St b,St c,v],.int .i64 0])/\Below w.heap.size w w'/\SdL v [] w'))
 (S1:Hid (∀(W:zA) (v t3 t4:Value),qL w W->SdL v [] W->SdL t3 [(1,2)] W->SdL t4 [(1,1)] W->qJ 12 #[.agg #[St a,St b,St c,v],.agg #[t4,.slice none 0 0,.slice none 0 0]] W (.tuple #[.int .i64 (-1),.int .i64 0])))
 (S2:Hid (∀(W:zA) (v t3 t4:Value),qL w W->SdL v [] W->SdL t3 [(1,2)] W->SdL t4 [(1,1)] W->qJ 12 #[.agg #[St a,St b,St c,v],.agg #[t4,.slice none 0 0,t4]] W (.tuple #[.int .i64 (0),.int .i64 0])))
 (S3:Hid (∀(W:zA) (v t3 t4:Value),qL w W->SdL v [] W->SdL t3 [(1,2)] W->SdL t4 [(1,1)] W->qJ 12 #[.agg #[St a,St b,St c,v],.agg #[t4,.slice none 0 0,t3]] W (.tuple #[.int .i64 (1),.int .i64 0])))
 (CO:Hid (∀(W:zA) (t3 t4:Value),qL w W->SdL t3 [(1,2)] W->SdL t4 [(1,1)] W->Calls zF 19 #[.agg #[.string ⟨#[49]⟩,.string ⟨#[48]⟩,.string ⟨#[48]⟩,t3],.agg #[.string ⟨#[48]⟩,.string ⟨#[49]⟩,.string ⟨#[48]⟩,t4],.agg #[.string ⟨#[48]⟩,.string ⟨#[48]⟩,.string ⟨#[49]⟩,.slice none 0 0]] W λe w'=>∃u0 u1 u2,e=.returned (.tuple #[.agg #[u0,u1,u2],.bool true,.int .i64 0])/\Below W.heap.size W w'/\SdL u0 [(1,2)] w'/\SdL u1 [(1,1)] w'/\SdL u2 [] w')):
 qJ 6 #[] w (.bool true):=by
 have mx5:∀w:zA,(Builtin.max_ #[29,29,29,29,29] 29 #[.int .i64 0,.int .i64 0,.int .i64 0,.int .i64 0,.int .i64 0]).run zF w=.ok (.int .i64 0) w:=λ_=>by kernel_rfl
 go_enter Tryz.func6,Tryz.ntmps6
 go_wp2_with fail
 refine OF.out.mono ?_
 rintro e w1 ⟨v,rfl,hb,hs⟩
 obtain⟨vp,vn,vk,rfl⟩:=hs.any
 obtain⟨y1,hy1⟩:∃y,y=w1.alloc (.cells #[St a,St b,St c,.slice vp vn vk] 45):=⟨_,rfl⟩
 obtain⟨y2,hy2⟩:∃y,y=y1.alloc (.cells #[.string ⟨#[49]⟩,.string ⟨#[50]⟩] 58):=⟨_,rfl⟩
 obtain⟨y3,hy3⟩:∃y,y=y2.alloc (.cells #[.string ⟨#[49]⟩,.string ⟨#[49]⟩] 58):=⟨_,rfl⟩
 have q1:qL w1 y1:=by rw[hy1];exact(zM _ w1).alloc (zN _) _
 have q2:qL y1 y2:=by rw[hy2];exact(zM _ y1).alloc (zN _) _
 have q3:qL y2 y3:=by rw[hy3];exact(zM _ y2).alloc (zN _) _
 have z1:y1.heap.size=w1.heap.size+1:=by rw[hy1,zH]
 have z2:y2.heap.size=w1.heap.size+1+1:=by rw[hy2,zH,z1]
 have t3:=SdL.laid y1 1 2 ⟨#[49]⟩ ⟨#[50]⟩ (by rw[zfc]) (by rw[zae (by omega)];rfl) y2 hy2
 have t4:=SdL.laid y2 1 1 ⟨#[49]⟩ ⟨#[49]⟩ (by rw[zfc]) (by rw[zae (by omega)];rfl) y3 hy3
 rw[z1] at t3
 rw[z2] at t4
 have A1:y1.heap[w1.heap.size]? =some (.cells #[St a,St b,St c,.slice vp vn vk] 45 (0,0)):=by rw[hy1];exact zG w1 _
 have q23:=q2.trans (q3.mono q2.size)
 have q13:=q1.trans (q23.mono q1.size)
 have hall:y3=((w1.alloc (.cells #[St a,St b,St c,.slice vp vn vk] 45)).alloc (.cells #[.string ⟨#[49]⟩,.string ⟨#[50]⟩] 58)).alloc (.cells #[.string ⟨#[49]⟩,.string ⟨#[49]⟩] 58):=by rw[hy3,hy2,hy1]
 obtain⟨H0,hH0⟩:∃H,H=w1.heap.size:=⟨_,rfl⟩
 obtain⟨p3,hu3⟩:∃p,p=(⟨w1.heap.size+1,0,none⟩:Addr):=⟨_,rfl⟩
 obtain⟨p4,hu4⟩:∃p,p=(⟨w1.heap.size+1+1,0,none⟩:Addr):=⟨_,rfl⟩
 rw[<-hH0] at A1
 rw[<-hu3] at t3
 rw[<-hu4] at t4
 have K:=hid (⟨hb.trans (q13.mono hb.size),zac q23 _ _ _ _ A1,hs.below q13,t3.below q3,t4⟩:qL w y3/\y3.heap[H0]? =some (.cells #[St a,St b,St c,.slice vp vn vk] 45 (0,0))/\SdL (.slice vp vn vk) [] y3/\SdL (.slice (some p3) 1 1) [(1,2)] y3/\SdL (.slice (some p4) 1 1) [(1,1)] y3)
 have KN:=hid λ(W W':zA) (h:qL w W/\W.heap[H0]? =some (.cells #[St a,St b,St c,.slice vp vn vk] 45 (0,0))/\SdL (.slice vp vn vk) [] W/\SdL (.slice (some p3) 1 1) [(1,2)] W/\SdL (.slice (some p4) 1 1) [(1,1)] W) (hb:qL W W')=>
  (⟨h.1.trans (hb.mono h.1.size),zac hb _ _ _ _ h.2.1,h.2.2.1.below hb,h.2.2.2.1.below hb,h.2.2.2.2.below hb⟩:qL w W'/\W'.heap[H0]? =some (.cells #[St a,St b,St c,.slice vp vn vk] 45 (0,0))/\SdL (.slice vp vn vk) [] W'/\SdL (.slice (some p3) 1 1) [(1,2)] W'/\SdL (.slice (some p4) 1 1) [(1,1)] W')
 have KC:=hid λ(W:zA) (h:W.heap[H0]? =some (.cells #[St a,St b,St c,.slice vp vn vk] 45 (0,0)))=>(⟨by rw[zJ h];rfl,by rw[zJ h];rfl,by rw[zJ h];rfl,by rw[zJ h];rfl⟩:W.cell? ⟨H0,0,none⟩=some (St a)/\W.cell? ⟨H0,1,none⟩=some (St b)/\W.cell? ⟨H0,2,none⟩=some (St c)/\W.cell? ⟨H0,3,none⟩=some (.slice vp vn vk))
 have HV:=hid hall.symm
 have HU3:=hid hu3.symm;have HU4:=hid hu4.symm;have HH:=hid hH0.symm
 clear hall hy1 hy2 hy3 q1 q2 q3 q23 q13 z1 z2 t3 t4 A1 hb hs hH0 hu3 hu4 OF
 clear y1 y2
 obtain⟨k0,k1,k2,k3⟩:=KC.out y3 K.out.2.1
 rw[<-HV.out,<-HH.out] at k0 k1 k2 k3
 go_wp2_with fail
 have h9:=HV.out
 rw[show((w1.alloc (.cells #[.string ⟨a.toArray⟩,.string ⟨b.toArray⟩,.string ⟨c.toArray⟩,.slice vp vn vk] 45)).alloc (.cells #[.string ⟨#[49]⟩,.string ⟨#[50]⟩] 58)).alloc (.cells #[.string ⟨#[49]⟩,.string ⟨#[49]⟩] 58)=y3 from h9,HU3.out,HU4.out,HH.out]
 clear h9 HV k0 k1 k2 k3
 refine(S1.out y3 _ _ _ K.out.1 K.out.2.2.1 K.out.2.2.2.1 K.out.2.2.2.2).mono ?_
 rintro e x1 ⟨rfl,hb⟩
 have K1:=hid (KN.out _ _ K.out hb)
 clear hb K HU3 HU4 HH
 obtain⟨k0,k1,k2,k3⟩:=KC.out x1 K1.out.2.1
 go_wp2_with fail
 clear k0 k1 k2 k3
 refine(S2.out x1 _ _ _ K1.out.1 K1.out.2.2.1 K1.out.2.2.2.1 K1.out.2.2.2.2).mono ?_
 rintro e x2 ⟨rfl,hb⟩
 have K2:=hid (KN.out _ _ K1.out hb)
 clear hb K1
 obtain⟨k0,k1,k2,k3⟩:=KC.out x2 K2.out.2.1
 go_wp2_with fail
 clear k0 k1 k2 k3
 refine(S3.out x2 _ _ _ K2.out.1 K2.out.2.2.1 K2.out.2.2.2.1 K2.out.2.2.2.2).mono ?_
 rintro e x3 ⟨rfl,hb⟩
 have K3:=hid (KN.out _ _ K2.out hb)
 clear hb K2
 go_wp2_with fail
 refine(CO.out x3 _ _ K3.out.1 K3.out.2.2.2.1 K3.out.2.2.2.2).mono ?_
 rintro e x4 ⟨m0,m1,m2,rfl,hb,h0,h1,h2⟩
 have k4:=KN.out _ _ K3.out hb
 obtain⟨f0,n0,j0,rfl⟩:=h0.any
 obtain⟨f1,n1,j1,rfl⟩:=h1.any
 obtain⟨f2,j2,rfl, -⟩:=h2.slice
 obtain⟨y4,hy⟩:∃y4,y4=x4.alloc (.cells #[.slice f0 n0 j0,.slice f1 n1 j1,.slice f2 0 j2] 39):=⟨_,rfl⟩
 have by4:qL x4 y4:=by rw[hy];exact(zM _ x4).alloc (zN _) _
 have hYb:y4.heap[x4.heap.size]? =some (.cells #[.slice f0 n0 j0,.slice f1 n1 j1,.slice f2 0 j2] 39 (0,0)):=by rw[hy];exact zG x4 _
 obtain⟨Y,hY⟩:∃Y,Y=x4.heap.size:=⟨_,rfl⟩
 rw[<-hY] at hYb
 have k5:=KN.out _ _ k4 by4
 have h0:=h0.below by4
 have h1:=h1.below by4
 have M:=hid (⟨k5.1,hYb⟩:qL w y4/\_)
 have E0:=hid (eq_l _ _ [(1,2)] (by simp) y4 h0 k5.2.2.2.1)
 have E1:=hid (⟨h1,k5.2.2.2.2⟩:SdL (.slice f1 n1 j1) [(1,1)] y4/\SdL (.slice (some p4) 1 1) [(1,1)] y4)
 obtain⟨d0,d1,d2, -, -, -⟩:=zah hYb
 rw[hy,hY] at d0 d1 d2
 have HV:=hid hy.symm;have HY:=hid hY.symm
 clear hb by4 hY k4 k5 h0 h1 h2 K3 CO S1 S2 S3 KN KC hYb hy
 go_wp2_with fail
 have h9:=HV.out
 rw[h9,HY.out]
 clear h9 d0 d1 d2
 refine E0.out.mono ?_
 rintro e x5 ⟨rfl,hb⟩
 have B5:=hid (M.out.1.trans (hb.mono M.out.1.size))
 have P5:=hid (zac hb _ _ _ _ M.out.2)
 have E2:=hid (eq_l _ _ [(1,1)] (by simp) x5 (E1.out.1.below hb) (E1.out.2.below hb))
 clear hb M E0 E1 HV HY
 obtain⟨d0,d1,d2, -, -, -⟩:=zah P5.out
 go_wp2_with fail
 clear d0 d1 d2
 refine E2.out.mono ?_
 rintro e x6 ⟨rfl,hb⟩
 have B6:=hid (B5.out.trans (hb.mono B5.out.size))
 obtain⟨d0,d1,d2, -, -, -⟩:=zah (zac hb _ _ _ _ P5.out)
 clear hb E2 B5 P5
 go_wp2_with fail
 go_ret
 exact⟨rfl,B6.out⟩
end
section
open Go.RowKit Go.Shelf Lib Str Limb
structure OkL (l:List (Rat×Nat)):Prop where
 ok:SdOk l
 mt:MkT l
 re:mkR l=l
 ts:∀t∈l,sz t.1 60
theorem za5:OkL []:=⟨SdOk.nil,by have:=zf6 (a:=0) (b:=0) (zb7.1.mono (by omega)) (zb7.1.mono (by omega));rw[za2] at this;exact this,rfl,λt h=>by cases h⟩
theorem zct:OkL (b2 1):=by
 obtain⟨h1,h2,h3⟩:=zs7 (b:=1) (by decide) (zb7.2.1.mono (by omega))
 exact⟨h1,h2,h3,λt ht=>(h1.trm t ht).sc⟩
theorem zch {q:Rat} (h:sz q 60):OkL (rs q):=by
 have h1:=zf6 (a:=q) (b:=0) h (zb7.1.mono (by omega))
 have h2:=zb0 q 0
 rw[za2,yH] at h1 h2
 rw[Rat.add_zero] at h2
 exact⟨zc8 h,h1,h2,λt ht=>by obtain⟨rfl,_⟩:=zd2 ht;exact h⟩
theorem zlh:OkL (ab2 (-1) 1):=by
 obtain⟨h1,h2,h3⟩:=zsj (a:= -1) (b:=1) (by decide) (by decide) (zb7.2.2.2.2.1.mono (by omega)) (zb7.2.1.mono (by omega))
 exact⟨h1,h2,h3,λt ht=>(h1.trm t ht).sc⟩
theorem zdi (v1 v2:Value) (l1 l2 l:List (Rat×Nat)) (h1:OkL l1) (h2:OkL l2) (h:OkL l) (e:l1++l2=l) (w:zA) (hw:Hw w) (g1:SdL v1 l1 w) (g2:SdL v2 l2 w):
 Calls zF 89 #[v1,v2] w λe w'=>∃v,e=.returned (.tuple #[v,.int .i64 0])/\Below w.heap.size w w'/\SdL v l w':=by
 have:=zqd v1 v2 l1 l2 h1.ok h2.ok (by rw[e];exact h.mt) (by rw[e,h.re];exact h.ts) (by rw[e,h.re];exact h.ok.len) (by rw[e,h.re];exact h.ok.inc) w hw.d hw.p g1 g2
 rw[e,h.re] at this
 exact this
theorem zse (v1 v2:Value) (l:List (Rat×Nat)) (h:OkL l) (w:zA) (hw:Hw w) (g1:SdL v1 l w) (g2:SdL v2 [] w):
 Calls zF 43 #[v1,v2] w λe w'=>∃v,e=.returned (.tuple #[v,.int .i64 0])/\Below w.heap.size w w'/\SdL v l w':=by
 have e:l++sclL [] (-1)=l:=by simp[sclL]
 have:=zqe v1 v2 l [] h.ok SdOk.nil (by rw[e];exact h.mt) (by rw[e,h.re];exact h.ts) (by rw[e,h.re];exact h.ok.len) (by rw[e,h.re];exact h.ok.inc) w hw.d hw.p g1 g2
 rw[e,h.re] at this
 exact this
theorem zet (v:Value) (l:List (Rat×Nat)) (h:OkL l) (w:zA) (hw:Hw w) (hv:SdL v l w):
 Calls zF 88 #[v,St (numS 1)] w λe w'=>∃v',e=.returned (.tuple #[v',.int .i64 0])/\Below w.heap.size w w'/\SdL v' l w':=by
 have:=zh3 v l 1 h.ok (zb7.2.1.mono (by omega)) (λt ht=>by rw[Rat.mul_one];exact h.ts t ht) w hw.d hw.p hv
 have e:sclR l 1=l:=by unfold sclR sclL;rw[if_neg (by decide)];simp[Rat.mul_one]
 rw[e] at this
 exact this
theorem zcz (v:Value) (l:List (Rat×Nat)) (h:OkL l) (w:zA) (hw:Hw w) (hv:SdL v l w):
 Calls zF 88 #[v,St (numS 0)] w λe w'=>∃v',e=.returned (.tuple #[v',.int .i64 0])/\Below w.heap.size w w'/\SdL v' [] w':=by
 have:=zh3 v l 0 h.ok (zb7.1.mono (by omega)) (λt ht=>by rw[Rat.mul_zero];exact zb7.1.mono (by omega)) w hw.d hw.p hv
 have e:sclR l 0=[]:=by unfold sclR;rw[if_pos rfl]
 rw[e] at this
 exact this
theorem rs1:rs 1=[(1,1)]:=zbz (by decide)
theorem rsm1:rs (-1)=[(-1,1)]:=zbz (by decide)
theorem szk:sz 0 60/\sz 1 60/\sz (-1) 60:=⟨zb7.1.mono (by omega),zb7.2.1.mono (by omega),zb7.2.2.2.2.1.mono (by omega)⟩
theorem zqc (v t3 t4:Value) (w:zA) (hw:Hw w) (hv:SdL v [] w) (h3:SdL t3 (b2 1) w) (h4:SdL t4 (rs 1) w):
 qJ 12 #[.agg #[St (numS (-1)),St (numS 0),St (numS 1),v],.agg #[t4,.slice none 0 0,t3]] w (.tuple #[.int .i64 1,.int .i64 0]):=by
 obtain⟨z0,z1,zm⟩:=szk
 obtain⟨qd,nd,kd,rfl⟩:=hv.any
 obtain⟨q0,n0,k0,rfl⟩:=h4.any
 obtain⟨q2,n2,k2,rfl⟩:=h3.any
 have H:=λ(W:zA) (h:qL w W)=>hw.below h
 refine zjj (numS (-1)) (numS 0) (numS 1) qd q0 none q2 nd kd n0 0 n2 k0 0 k2 (ab2 (-1) 1) (ab2 (-1) 1) 1 w
  (hid λW hW B hB=>zjk (-1) 0 1 zm z0 z1 (.inl (by decide)) _ [] SdOk.nil B W (H W hW) (hv.below hW) hB)
  (hid λW hW=>zbh _ _ (zch z1).ok W (H W hW).wd (H W hW).pw (h4.below hW)) (hid λW hW=>zbh _ [] SdOk.nil W (H W hW).wd (H W hW).pw (SdL.nil _)) (hid λW hW=>zbh _ _ zct.ok W (H W hW).wd (H W hW).pw (h3.below hW))
  (hid λW hW=>?_)
  (hid λW r hW hr=>zse r _ _ zlh W (H W hW) hr (hv.below hW))
  (hid λW u hW hu=>?_)
 ·refine zcq q0 none q2 n0 0 n2 k0 0 k2 (numS (-1)) (numS 0) (numS 1) (rs (-1)) [] (b2 1) (rs (-1)) (ab2 (-1) 1) W
   (hid λV hV=>?_)
   (hid λV hV=>zcz _ [] za5 V ((H W hW).below hV) (SdL.nil _))
   (hid λV hV=>zet _ _ zct V ((H W hW).below hV) ((h3.below hW).below hV))
   (hid λV u v hV hu hv=>zdi u v _ [] _ (zch zm) za5 (zch zm) (by simp) V ((H W hW).below hV) hu hv)
   (hid λV u v hV hu hv=>zdi u v _ _ _ (zch zm) zct zlh (by rw[rsm1];rfl) V ((H W hW).below hV) hu hv)
  have:=zd3 _ 1 (-1) z1 (zm.mono (by omega)) (by rw[Rat.one_mul];exact zm) V ((H W hW).below hV).d ((H W hW).below hV).p ((h4.below hW).below hV)
  rw[Rat.one_mul] at this
  exact this
 ·obtain⟨p,cap,e, -⟩:=hu.slice
  subst e
  exact zff p _ cap _ 0 W (hid (zbh _ _ zlh.ok W (H W hW).wd (H W hW).pw hu)) (hid λV hV=>zp8 _ V ((H W hW).below hV).wd ((H W hW).below hV).sw (hu.below hV))
def uX (i:Nat):List UInt8:=numS (if i=0 then 1 else 0)
def uY (i:Nat):List UInt8:=numS (if i=1 then 1 else 0)
def uZ (i:Nat):List UInt8:=numS (if i=2 then 1 else 0)
theorem zor (t3 t4:Value) (w:zA) (hw:Hw w) (h3:SdL t3 (b2 1) w) (h4:SdL t4 (rs 1) w):
 Calls zF 19 #[.agg #[St (numS 1),St (numS 0),St (numS 0),t3],.agg #[St (numS 0),St (numS 1),St (numS 0),t4],.agg #[St (numS 0),St (numS 0),St (numS 1),.slice none 0 0]] w λe w'=>∃u0 u1 u2,e=.returned (.tuple #[.agg #[u0,u1,u2],.bool true,.int .i64 0])/\Below w.heap.size w w'/\SdL u0 (b2 1) w'/\SdL u1 (rs 1) w'/\SdL u2 [] w':=by
 obtain⟨z0,z1,zm⟩:=szk
 have H:=λ(W:zA) (h:qL w W)=>hw.below h
 have y0:sz 0 30:=zb7.1.mono (by omega)
 have y1:sz 1 30:=zb7.2.1.mono (by omega)
 have r0:(1:Rat)*1-0*0=1:=by decide+kernel
 have r1:(0:Rat)*0-0*0=0:=by decide+kernel
 have r2:(0:Rat)*0-0*1=0:=by decide+kernel
 have r3:(0:Rat)*0-1*0=0:=by decide+kernel
 have r4:(0:Rat)*1-0*0=0:=by decide+kernel
 have r5:(1:Rat)*0-0*0=0:=by decide+kernel
 have hD:∀i,∃q m c,(if i=0 then t3 else if i=1 then t4 else Value.slice none 0 0)=.slice q m c:=λi=>by
  split
  ·exact h3.any
  ·split
   ·exact h4.any
   ·exact⟨_,_,_,rfl⟩
 obtain⟨q3,n3,k3,e3⟩:=h3.any
 obtain⟨q4,n4,k4,e4⟩:=h4.any
 subst e3;subst e4
 refine zlm uX uY uZ uX uY uZ uX uY uZ (λi=>if i=0 then .slice q3 n3 k3 else if i=1 then .slice q4 n4 k4 else .slice none 0 0) hD (numS 1) (numS 1) (by rw[zfc];rfl) (b2 1) (rs 1) [] w
  (hid λW hW A hA=>?_) (hid λj hj W hW=>?_) (hid λW hW=>?_) (hid λW hW=>?_) (hid λj hj W hW=>?_) (hid λW hW=>?_) (hid λW hW=>?_) (hid λW hW=>?_)
 ·refine zef (some ⟨A,0,none⟩) 3 3 uX uY uZ (λi=>if i=0 then .slice q3 n3 k3 else if i=1 then .slice q4 n4 k4 else .slice none 0 0) (by omega) (λi _=>hD i) W (hid λi hi V hV=>?_) (hid λi hi=>?_)
  ·have hv:=(H W hW).below hV
   match i,hi with
   |0,_=>exact zc9 1 0 0 z1 z0 z0 (.inl (by decide)) _ _ zct.ok V hv ((h3.below hW).below hV)
   |1,_=>exact zc9 0 1 0 z0 z1 z0 (.inr (.inl (by decide))) _ _ (zch z1).ok V hv ((h4.below hW).below hV)
   |2,_=>exact zc9 0 0 1 z0 z0 z1 (.inr (.inr (by decide))) _ _ SdOk.nil V hv (SdL.nil _)
  ·have hc:=zfr hA i hi
   rw[show i*4=0+i*4 by omega] at hc
   exact⟨A,0,rfl,hc⟩
 ·match j,hj with
  |0,_=>
   have:=zgs 0 1 0 0 0 1 ⟨y0,y1,y0⟩ ⟨y0,y0,y1⟩ W (H W hW).wd
   rw[r0,r2,r3] at this
   exact this
  |1,_=>
   have:=zgs 0 0 1 1 0 0 ⟨y0,y0,y1⟩ ⟨y1,y0,y0⟩ W (H W hW).wd
   rw[r3,r0,r2] at this
   exact this
  |2,_=>
   have:=zgs 1 0 0 0 1 0 ⟨y1,y0,y0⟩ ⟨y0,y1,y0⟩ W (H W hW).wd
   rw[r2,r3,r0] at this
   exact this
 ·have:=zs6 1 0 0 1 0 0 ⟨y1,y0,y0⟩ ⟨y1,y0,y0⟩ W (H W hW).wd
  rw[show(1:Rat)*1+0*0+0*0=1 by decide+kernel] at this
  exact this
 ·have:=zoj 1 1 (by decide) 1 1 (by omega) (by omega) (by omega) zb7.2.1 zb7.2.1 W (H W hW).wd
  rw[show(1:Rat)/1=1 by decide+kernel] at this
  rw[show(Value.string ⟨#[49]⟩)=St (numS 1) by rw[zfc]]
  exact this
 ·match j,hj with
  |0,_=>
   have:=zf8 1 0 0 1 ⟨z1,z0,z0⟩ z1 W (H W hW).wd
   rw[Rat.mul_one,Rat.mul_one] at this
   exact this
  |1,_=>
   have:=zf8 0 1 0 1 ⟨z0,z1,z0⟩ z1 W (H W hW).wd
   rw[Rat.mul_one,Rat.mul_one] at this
   exact this
  |2,_=>
   have:=zf8 0 0 1 1 ⟨z0,z0,z1⟩ z1 W (H W hW).wd
   rw[Rat.mul_one,Rat.mul_one] at this
   exact this
 ·exact zcq q3 q4 none n3 n4 0 k3 k4 0 (numS 1) (numS 0) (numS 0) (b2 1) [] [] (b2 1) (b2 1) W
   (hid λV hV=>zet _ _ zct V ((H W hW).below hV) ((h3.below hW).below hV))
   (hid λV hV=>zcz _ _ (zch z1) V ((H W hW).below hV) ((h4.below hW).below hV))
   (hid λV hV=>zcz _ [] za5 V ((H W hW).below hV) (SdL.nil _))
   (hid λV u v hV hu hv=>zdi u v _ [] _ zct za5 zct (by simp) V ((H W hW).below hV) hu hv)
   (hid λV u v hV hu hv=>zdi u v _ [] _ zct za5 zct (by simp) V ((H W hW).below hV) hu hv)
 ·exact zcq q3 q4 none n3 n4 0 k3 k4 0 (numS 0) (numS 1) (numS 0) [] (rs 1) [] (rs 1) (rs 1) W
   (hid λV hV=>zcz _ _ zct V ((H W hW).below hV) ((h3.below hW).below hV))
   (hid λV hV=>zet _ _ (zch z1) V ((H W hW).below hV) ((h4.below hW).below hV))
   (hid λV hV=>zcz _ [] za5 V ((H W hW).below hV) (SdL.nil _))
   (hid λV u v hV hu hv=>zdi u v [] _ _ za5 (zch z1) (zch z1) (by simp) V ((H W hW).below hV) hu hv)
   (hid λV u v hV hu hv=>zdi u v _ [] _ (zch z1) za5 (zch z1) (by simp) V ((H W hW).below hV) hu hv)
 ·exact zcq q3 q4 none n3 n4 0 k3 k4 0 (numS 0) (numS 0) (numS 1) [] [] [] [] [] W
   (hid λV hV=>zcz _ _ zct V ((H W hW).below hV) ((h3.below hW).below hV))
   (hid λV hV=>zcz _ _ (zch z1) V ((H W hW).below hV) ((h4.below hW).below hV))
   (hid λV hV=>zet _ [] za5 V ((H W hW).below hV) (SdL.nil _))
   (hid λV u v hV hu hv=>zdi u v [] [] _ za5 za5 za5 (by simp) V ((H W hW).below hV) hu hv)
   (hid λV u v hV hu hv=>zdi u v [] [] _ za5 za5 za5 (by simp) V ((H W hW).below hV) hu hv)
theorem zm6 (w:zA) (hw:Hw w):qJ 6 #[] w (.bool true):=by
 obtain⟨z0,z1,zm⟩:=szk
 have H:=λ(W:zA) (h:qL w W)=>hw.below h
 have n0:St (numS 0)=.string ⟨#[48]⟩:=by rw[zie]
 have n1:St (numS 1)=.string ⟨#[49]⟩:=by rw[zfc]
 have e1:=rs1;have e2:b2 1=[(1,2)]:=rfl
 have en:(-(0:Rat))=0:=by decide+kernel
 refine zlg (numS (-1)) (numS 0) (numS 1) w (hid ?_) (hid λW v t3 t4 hW hv h3 h4=>?_) (hid λW v t3 t4 hW hv h3 h4=>?_) (hid λW v t3 t4 hW hv h3 h4=>?_) (hid λW t3 t4 hW h3 h4=>?_)
 ·have:=zol 1 0 0 z1 z0 z0 w hw
  rw[en,n0,n1,za2] at this
  rw[n0,n1]
  exact this
 ·rw[<-e1] at h4
  rw[<-za2] at hv
  have:=zgg (-1) 0 1 0 1 0 0 zm z0 z1 (.inl (by decide)) z0 z1 z0 z0 (by rw[Rat.one_mul];exact zm) (by rw[Rat.zero_mul];exact z0) (by rw[Rat.zero_mul];exact z0) (by rw[show(1:Rat)* -1+0*0= -1 by decide+kernel];exact zm) (by rw[show(1:Rat)* -1+0*0+0*1= -1 by decide+kernel];exact zm) (by rw[show(1:Rat)* -1+0*0+0*1-0= -1 by decide+kernel];exact zm) v t4 (.slice none 0 0) (.slice none 0 0) W (H W hW) hv h4 (by rw[za2];exact SdL.nil _) (by rw[za2];exact SdL.nil _)
  rw[show Geo.cmpR ((1:Rat)* -1+0*0+0*1-0) 0= -1 by decide+kernel] at this
  exact this
 ·rw[<-e1] at h4
  rw[<-za2] at hv
  have:=zgg (-1) 0 1 0 1 0 1 zm z0 z1 (.inl (by decide)) z0 z1 z0 z1 (by rw[Rat.one_mul];exact zm) (by rw[Rat.zero_mul];exact z0) (by rw[Rat.one_mul];exact z1) (by rw[show(1:Rat)* -1+0*0= -1 by decide+kernel];exact zm) (by rw[show(1:Rat)* -1+0*0+1*1=0 by decide+kernel];exact z0) (by rw[show(1:Rat)* -1+0*0+1*1-0=0 by decide+kernel];exact z0) v t4 (.slice none 0 0) t4 W (H W hW) hv h4 (by rw[za2];exact SdL.nil _) h4
  rw[show Geo.cmpR ((1:Rat)* -1+0*0+1*1-0) 0=0 by decide+kernel] at this
  exact this
 ·rw[<-e1] at h4
  rw[<-e2] at h3
  exact zqc v t3 t4 W (H W hW) hv h3 h4
 ·rw[<-e1] at h4
  rw[<-e2] at h3
  have:=zor t3 t4 W (H W hW) h3 h4
  rw[n0,n1,e1,e2] at this
  exact this
end
section
open Go.RowKit Go.Shelf Lib Str Limb
open Go.ChangeShapes Go.WideShapes Go.ChangeAt
theorem zxe {H:Type} {enc:TypeId×Value->H} {W:zA} {base:Nat} {sp:Nat->Bool} {held:Bool} {r:Reach} {b0:Nat} {v:Value} {d:DataW H} {ps:List MemPlace}
 (hval:Value.okWide zF W r b0 22 v) (hd:DataW.Trod enc zF W base sp held 22 v d ps):∃x:List UInt8,v=St x/\ps=[]:=by
 obtain⟨s0,rfl⟩:=okWide_string Tryz.underlying22 hval
 obtain⟨fuel,hf⟩:=hd
 obtain⟨s1,e1,hx,_⟩:=DataW.trod_string Tryz.underlying22 hf
 simp only[Prod.mk.injEq] at hx
 exact⟨s0.data.toList,rfl,hx.2⟩
theorem zm7 {H:Type} {enc:TypeId×Value->H} {W:zA} {base:Nat} {sp:Nat->Bool} {held:Bool} {t:TypeId} {f0 f1 f2:Field} {fuel:Nat} {cs:List Value} {x:DataW H×List MemPlace} (ht:Tryz.prog.underlying t=some (.struct #[f0,f1,f2])) (h:DataW.trod enc zF W base sp held fuel t cs=some x):
 ∃y0 y1 y2 n,x=(.agg [y0.1,y1.1,y2.1],y0.2++y1.2++y2.2)/\DataW.trod enc zF W base sp held n f0.type ((cs.drop f0.offset).take (Tryz.prog.cellsOf f0.type))=some y0/\
  DataW.trod enc zF W base sp held n f1.type ((cs.drop f1.offset).take (Tryz.prog.cellsOf f1.type))=some y1/\DataW.trod enc zF W base sp held n f2.type ((cs.drop f2.offset).take (Tryz.prog.cellsOf f2.type))=some y2:=by
 obtain⟨xs,n,_,rfl, -,hlen,hf⟩:=DataW.trod_struct ht h
 match xs,hlen with
 |[y0,y1,y2],_=>exact⟨y0,y1,y2,n,by simp,by simpa using hf 0 f0 rfl,by simpa using hf 1 f1 rfl,by simpa using hf 2 f2 rfl⟩
theorem znm {H:Type} {enc:TypeId×Value->H} {W:zA} {base:Nat} {sp:Nat->Bool} {held:Bool} {r:Reach} {b0:Nat} {v:Value} {d:DataW H} {ps:List MemPlace}
 (hval:Value.okWide zF W r b0 24 v) (hd:DataW.Trod enc zF W base sp held 24 v d ps):∃x y z:List UInt8,v=.agg #[St x,St y,St z]/\ps=[]:=by
 obtain⟨cs,rfl,hs⟩:=okWide_struct Tryz.underlying24 hval
 rw[show Tryz.prog.cellsOf 24=3 by kernel_rfl] at hs
 obtain⟨fuel,hf⟩:=hd
 obtain⟨y0,y1,y2,n,hx,h0,h1,h2⟩:=zm7 Tryz.underlying24 hf
 obtain⟨s0,e0,rfl,_⟩:=DataW.trod_string Tryz.underlying22 h0
 obtain⟨s1,e1,rfl,_⟩:=DataW.trod_string Tryz.underlying22 h1
 obtain⟨s2,e2,rfl,_⟩:=DataW.trod_string Tryz.underlying22 h2
 simp only[Prod.mk.injEq,yH] at hx
 refine⟨s0.data.toList,s1.data.toList,s2.data.toList,?_,hx.2⟩
 rw[show Tryz.prog.cellsOf 22=1 by kernel_rfl] at e0 e1 e2
 obtain⟨l⟩:=cs
 match l,hs with
 |[c0,c1,c2],_=>
  have k0:c0=.string s0:=by simpa [Value.cells] using e0
  have k1:c1=.string s1:=by simpa [Value.cells] using e1
  have k2:c2=.string s2:=by simpa [Value.cells] using e2
  subst k0;subst k1;subst k2
  simp[St]
theorem z80 {l:List (String×DataW Unit)} {W:zA} (hL:laidMet zF l W) (hm:("kingpost/surd.signPlaces",Rows.laid_kingpost_surd_signPlaces)∈l):Spw W:=by
 obtain⟨g,t,cs,fuel,p,hg,ht,hv,hd⟩:=Lib.laidMet.reads hL hm
 obtain rfl:g=0:=Option.some.inj (hg.symm.trans (by kernel_rfl))
 obtain rfl:t=203:=Option.some.inj (ht.symm.trans (by kernel_rfl))
 have e:(Rows.laid_kingpost_surd_signPlaces:DataW Unit)=Lib.tabData .i64 [4,16,64]:=by kernel_rfl
 rw[e] at hd
 have hc:=Lib.cells_of_tab (n:=3) Tryz.underlying203 Tryz.underlying3 (by kernel_rfl) (by kernel_rfl) hd
 obtain rfl:cs=spV:=Array.toList_inj.1 (hc.trans (by kernel_rfl))
 exact⟨hv⟩
theorem zfb (os:Os) (started:os.Started) (H:Type) (enc:TypeId×Value->H):
 ReturnsInHanded {} Tryz.checked os 3 .any (λw args=>(Rows.halfspacePlanesSpec.pre enc zF Tryz.f3 [] false w args/\laidMetH zF Rows.halfspacePlanesRow.laid w)/\sizedMet enc zF Tryz.f3 (OpenSpec.ofChange Rows.halfspacePlanesSpec) false w args)
  (Rows.halfspacePlanesSpec.post enc zF Tryz.f3 false true false false):=by
 refine zf9 (C:=Tryz.checked) (X:=λw _=>laidMetH zF Rows.halfspacePlanesRow.laid w) (λ_ _ _ hh h=>h.of_heap hh) zrj started (by kernel_rfl) Tryz.func3
  (ChangeSpec.witness_shaped (enc:=enc) (C:=Tryz.checked) (os:=os) (X:=λw _=>laidMetH zF Rows.halfspacePlanesRow.laid w) false (World.laidAll zF os Rows.halfspacePlanesRow.laid)
    #[.agg #[.string ⟨#[]⟩,.string ⟨#[]⟩,.string ⟨#[]⟩],.agg #[.string ⟨#[]⟩,.string ⟨#[]⟩],.string ⟨#[]⟩] 8 (World.laidAll_os _ _ _)
    (World.shaped_of_ZipB (by kernel_rfl) (by kernel_rfl)) (by kernel_rfl) (by kernel_rfl) (by kernel_rfl)
    (by rw[MakeChecks.laidMetH_plain _ _ _ (by kernel_rfl)];exact laidMet_laidAll _ (by kernel_rfl) (by kernel_rfl))) ?_
 intro W args ds gs before base hval0 hW hL hsh
 have hval:∀(j:Nat) t v,Tryz.f3.params[j]? =some t->args[j]? =some v->Value.okWide zF W .any base t v:=hval0
 have hW':=hW
 obtain⟨p,q,hA0,hV,rfl,_,_⟩:=hW
 have hA:DataW.TrodAll enc zF W 0 (λ_=>true) true Tryz.f3.params.toList args.toList ds p:=hA0
 rw[Tryz.params3] at hA hval
 obtain⟨v0,vs0,d0,ds0,p0,q0,e0,rfl,rfl,h0,hA⟩:=trodAll_cons hA
 obtain⟨v1,vs1,d1,ds1,p1,q1,e1,rfl,rfl,h1,hA⟩:=trodAll_cons hA
 obtain⟨v2,vs2,d2,ds2,p2,q2,e2,rfl,rfl,h2,hA⟩:=trodAll_cons hA
 obtain⟨rfl,rfl,rfl⟩:=trodAll_nil hA
 obtain rfl:args= #[v0,v1,v2]:=by cases args;simp_all
 obtain⟨rfl,rfl⟩:=trodVars_none hV
 obtain⟨x0,y0,z0,rfl,rfl⟩:=znm (hval 0 24 v0 rfl rfl) h0
 obtain⟨x1,y1,rfl,rfl⟩:=zlx (hval 1 26 v1 rfl rfl) h1
 obtain⟨x2,rfl,rfl⟩:=zxe (hval 2 22 v2 rfl rfl) h2
 simp only[yH] at hW'
 have hM:laidMet zF Rows.halfspacePlanesRow.laid W:=by rw[<-MakeChecks.laidMetH_plain _ _ _ (by kernel_rfl)];exact hL
 have hwd:Wd W:=z0v hM (.tail _ (.tail _ (.head _))) hsh
 have hpw:Pw W:=z0w hM (.tail _ (.tail _ (.tail _ (.tail _ (.tail _ (.tail _ (.head _)))))))
 have hsw:Spw W:=z80 hM (.tail _ (.tail _ (.tail _ (.tail _ (.tail _ (.tail _ (.tail _ (.head _))))))))
 have hhw:Hw W:=⟨hwd,hpw,hsw⟩
 refine(zm0 x0 y0 z0 x1 y1 x2 W (hid λX hX=>zm6 X (hhw.below hX)) hhw).mono λe W' ⟨he,hb⟩=>?_
 subst he
 have k0:=λ{v:Value} {d:DataW H} (h:DataW.Trod enc zF W 0 (λ_=>true) true 24 v d [])=>Below.trod zgh (by kernel_rfl) (of_decide_eq_true (by kernel_rfl)) h hb (λ_ h=>by cases h)
 have k1:=λ{v:Value} {d:DataW H} (h:DataW.Trod enc zF W 0 (λ_=>true) true 26 v d [])=>Below.trod zgh (by kernel_rfl) (of_decide_eq_true (by kernel_rfl)) h hb (λ_ h=>by cases h)
 have k2:=λ{v:Value} {d:DataW H} (h:DataW.Trod enc zF W 0 (λ_=>true) true 22 v d [])=>Below.trod zgh (by kernel_rfl) (of_decide_eq_true (by kernel_rfl)) h hb (λ_ h=>by cases h)
 exact⟨_,rfl,_,_,_,[],[],[],hW',trodAll_mk1 (shut_bool Tryz.underlying4 _),trodAll_mk3 (k0 h0) (k1 h1) (k2 h2),rfl,hb.frame _,λh=>by cases h⟩
theorem zuh:mapsRowed zF=true:=by kernel_rfl
theorem zxu:namedTie zF Rows.halfspacePlanesRow.named Rows.halfspacePlanesSpec.vars=true:=by kernel_rfl
theorem zpn:(Rows.halfspacePlanesRow.inPlace==Tryz.prog.inPlace 3)=true:=by kernel_rfl
theorem zxv:(Rows.halfspacePlanesRow.unfollowed==Tryz.prog.unfollowed 3)=true:=by kernel_rfl
theorem zxw:(Rows.halfspacePlanesRow.recurses==Tryz.prog.recurses 3)=true:=by kernel_rfl
theorem zqn:(Rows.halfspacePlanesRow.named==Tryz.prog.varsNamed 3)=true:=by kernel_rfl
theorem ztq:Tryz.prog.stopsHeard=true:=by kernel_rfl
theorem zug:Tryz.prog.mayEnter=true:=by kernel_rfl
theorem zpi:(Rows.halfspacePlanesRow.lifted==Tryz.prog.liftsFinal)=true:=by kernel_rfl
theorem zwv:(Tryz.prog.make==some Rows.halfspacePlanesRow.make)=true:=by kernel_rfl
theorem zxs:(Rows.halfspacePlanesRow.plainKeys==Tryz.prog.plainKeys)=true:=by kernel_rfl
theorem zxt:Tryz.pinned.checked.prog.funcNamed Rows.halfspacePlanesRow.func=some 3:=by kernel_rfl
theorem zxx:joinedFacts zF 3 Tryz.f3 Rows.halfspacePlanesSpec Rows.halfspacePlanesRow=true:=by
 unfold joinedFacts
 simp only[Bool.and_eq_true]
 repeat' apply And.intro
 all_goals first|with_reducible exact zgh|with_reducible exact zuh|with_reducible exact zxu|with_reducible exact zpn|with_reducible exact zxv|with_reducible exact zxw|with_reducible exact zqn|with_reducible exact ztq|with_reducible exact zug|with_reducible exact zpi|with_reducible exact zwv|with_reducible exact zxs|kernel_rfl
theorem zft:Rows.HalfspacePlanesSaid:=
 OpenClaim.holds_of_wide 3 Tryz.f3 rfl rfl rfl rfl rfl rfl rfl ⟨rfl,rfl,rfl,rfl,rfl⟩ rfl rfl rfl rfl rfl zxt Tryz.func3 zxx
  (of_decide_eq_true (by kernel_rfl)) (by unfold Func.isWrapper;first|(rw[if_pos (by decide+kernel)];kernel_rfl)|(rw[if_neg (by decide+kernel)];exact⟨rfl,rfl⟩))
  (λos started H enc _=>zfb os started H enc)
end
end Go.Proofs.YtccijmidbdapaaaGreatDoor
