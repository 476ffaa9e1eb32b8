/- slices.Equal of terms; kingpostlaw37.awake by contracts. -/
import Derived.Test.YtccijmidbdapaaaGreatDoorJ25
import Derived.Test.YtccijmidbdapaaaGreatDoorJ23
import Derived.LaidByTextLater
set_option maxRecDepth 100000
set_option maxHeartbeats 8000000
open Go renaming World → zA, Calls → zC
open Go.RowKit renaming Below → zB
open Go.Proofs.Tryz renaming prog → zF
open Go.World renaming alloc_heap_new → zG, size_alloc → zH
open Go.Joins renaming cell_of_block → zJ
open Go.RowKit.Below renaming refl → zM
open Nat renaming le_refl → zN
namespace Go.Proofs.YtccijmidbdapaaaGreatDoor
section
open Go.RowKit Go.Shelf Lib Str Limb
attribute [local go_sem] Oper.semAt_some
theorem zqb (p p':Option Addr) (c c' n:Nat) (X Y:Nat->ByteArray) (hn:n<=5000) (w:zA) (HP:Hid (RowTm p n X Y w)) (HP':Hid (RowTm p' n X Y w)):
 qJ 20 #[.slice p n c,.slice p' n c'] w (.bool true):=by
 have D0:=hid (zM w.heap.size w)
 go_enter Tryz.func20,Tryz.ntmps20
 go_wp2_with fail
 go_loopw [13] (λi wr=>∃(k:Nat),k<=n/\i=.int .i64 (k:Int)/\Hid (qL w wr))
  (λi _=>n-(RowKit.intOf i).toNat)
 case atStart=>exact⟨0,Nat.zero_le _,rfl,D0⟩
 case round=>
  clear D0
  obtain⟨k,hk,rfl,hB⟩:=hrel
  by_cases hlt:k<n
  ·obtain⟨b,off,rfl,c0,c1⟩:=(HP.out.keep (zac hB.out)) k hlt
   obtain⟨b',off',rfl,d0,d1⟩:=(HP'.out.keep (zac hB.out)) k hlt
   have HQ:=hid λm=>hB.out.trans ((zao (zM _ wr) m).mono hB.out.size)
   clear hB
   generalize X k=x at*
   generalize Y k=y at*
   go_wp2_with fail
   go_quiet (fail)
   go_wp2_with fail
   go_roundw
   case rel=>exact⟨k+1,by omega,by go_num,hid (HQ.out _)⟩
   case measure=>simp[RowKit.intOf];omega
  ·go_wp2_with fail
   go_ret
   exact⟨rfl,hB.out⟩
theorem eq_l (v v':Value) (l:List (Rat×Nat)) (hl:l.length<=5000) (w:zA) (h:SdL v l w) (h':SdL v' l w):
 qJ 20 #[v,v'] w (.bool true):=by
 obtain⟨p,cap,rfl, -,hx⟩:=h.slice
 obtain⟨p',cap',rfl, -,hx'⟩:=h'.slice
 have at_:∀i,i<l.length->∃t,l[i]? =some t:=λi hi=>⟨_,List.getElem?_eq_getElem hi⟩
 refine zqb p p' cap cap' l.length (λi=>⟨(numS ((l[i]?.getD (1,1)).1)).toArray⟩) (λi=>⟨(decDigits ((l[i]?.getD (1,1)).2)).toArray⟩) hl w (hid λi hi=>?_) (hid λi hi=>?_)
 ·obtain⟨t,ht⟩:=at_ i hi
  obtain⟨b,off,e, -,h1,h2⟩:=hx i t ht
  refine⟨b,off,e,?_,?_⟩
  ·simp only[ht,Option.getD_some];exact h1
  ·simp only[ht,Option.getD_some];exact h2
 ·obtain⟨t,ht⟩:=at_ i hi
  obtain⟨b,off,e, -,h1,h2⟩:=hx' i t ht
  refine⟨b,off,e,?_,?_⟩
  ·simp only[ht,Option.getD_some];exact h1
  ·simp only[ht,Option.getD_some];exact h2
theorem SdL.laid (w:zA) (q:Rat) (r:Nat) (x y:ByteArray) (hx:St (numS q)=.string x) (hy:St (decDigits r)=.string y) (W:zA) (hW:W=w.alloc (.cells #[.string x,.string y] 58)):SdL (.slice (some ⟨w.heap.size,0,none⟩) 1 1) [(q,r)] W:=by
 refine .inr ⟨w.heap.size,0,1,rfl,zN _,by rw[hW,zH];omega,λi t ht=>?_⟩
 have hb:W.heap[w.heap.size]? =some (.cells #[.string x,.string y] 58 (0,0)):=by rw[hW];exact zG w _
 match i,ht with
 |0,ht=>
  simp at ht
  subst ht
  refine⟨?_,?_⟩
  ·rw[zJ hb,hx];rfl
  ·rw[zJ hb,hy];rfl
 |i+1,ht=>simp at ht
theorem zlg (a b c:List UInt8) (w:zA)
 (OF:Hid (zC zF 11 #[.agg #[.string ⟨#[49]⟩,.string ⟨#[48]⟩,.string ⟨#[48]⟩],.bool false] w λe w'=>∃v,e=.returned (.tuple #[.agg #[St a,St b,St c,v],.int .i64 0])/\zB w.heap.size w w'/\SdL v [] w'))
 (S1:Hid (∀(W:zA) (v t3 t4:Value),qL w W->SdL v [] W->SdL t3 [(1,2)] W->SdL t4 [(1,1)] W->qJ 12 #[.agg #[St a,St b,St c,v],.agg #[t4,.slice none 0 0,.slice none 0 0]] W (.tuple #[.int .i64 (-1),.int .i64 0])))
 (S2:Hid (∀(W:zA) (v t3 t4:Value),qL w W->SdL v [] W->SdL t3 [(1,2)] W->SdL t4 [(1,1)] W->qJ 12 #[.agg #[St a,St b,St c,v],.agg #[t4,.slice none 0 0,t4]] W (.tuple #[.int .i64 (0),.int .i64 0])))
 (S3:Hid (∀(W:zA) (v t3 t4:Value),qL w W->SdL v [] W->SdL t3 [(1,2)] W->SdL t4 [(1,1)] W->qJ 12 #[.agg #[St a,St b,St c,v],.agg #[t4,.slice none 0 0,t3]] W (.tuple #[.int .i64 (1),.int .i64 0])))
 (CO:Hid (∀(W:zA) (t3 t4:Value),qL w W->SdL t3 [(1,2)] W->SdL t4 [(1,1)] W->zC zF 19 #[.agg #[.string ⟨#[49]⟩,.string ⟨#[48]⟩,.string ⟨#[48]⟩,t3],.agg #[.string ⟨#[48]⟩,.string ⟨#[49]⟩,.string ⟨#[48]⟩,t4],.agg #[.string ⟨#[48]⟩,.string ⟨#[48]⟩,.string ⟨#[49]⟩,.slice none 0 0]] W λe w'=>∃u0 u1 u2,e=.returned (.tuple #[.agg #[u0,u1,u2],.bool true,.int .i64 0])/\zB W.heap.size W w'/\SdL u0 [(1,2)] w'/\SdL u1 [(1,1)] w'/\SdL u2 [] w')):
 qJ 6 #[] w (.bool true):=by
 have mx5:∀w:zA,(Builtin.max_ #[29,29,29,29,29] 29 #[.int .i64 0,.int .i64 0,.int .i64 0,.int .i64 0,.int .i64 0]).run zF w=.ok (.int .i64 0) w:=λ_=>by kernel_rfl
 go_enter Tryz.func6,Tryz.ntmps6
 go_wp2_with fail
 refine OF.out.mono ?_
 rintro e w1 ⟨v,rfl,hb,hs⟩
 obtain⟨vp,vn,vk,rfl⟩:=hs.any
 obtain⟨y1,hy1⟩:∃y,y=w1.alloc (.cells #[St a,St b,St c,.slice vp vn vk] 45):=⟨_,rfl⟩
 obtain⟨y2,hy2⟩:∃y,y=y1.alloc (.cells #[.string ⟨#[49]⟩,.string ⟨#[50]⟩] 58):=⟨_,rfl⟩
 obtain⟨y3,hy3⟩:∃y,y=y2.alloc (.cells #[.string ⟨#[49]⟩,.string ⟨#[49]⟩] 58):=⟨_,rfl⟩
 have q1:qL w1 y1:=by rw[hy1];exact(zM _ w1).alloc (zN _) _
 have q2:qL y1 y2:=by rw[hy2];exact(zM _ y1).alloc (zN _) _
 have q3:qL y2 y3:=by rw[hy3];exact(zM _ y2).alloc (zN _) _
 have z1:y1.heap.size=w1.heap.size+1:=by rw[hy1,zH]
 have z2:y2.heap.size=w1.heap.size+1+1:=by rw[hy2,zH,z1]
 have t3:=SdL.laid y1 1 2 ⟨#[49]⟩ ⟨#[50]⟩ (by rw[zfc]) (by rw[zae (by omega)];rfl) y2 hy2
 have t4:=SdL.laid y2 1 1 ⟨#[49]⟩ ⟨#[49]⟩ (by rw[zfc]) (by rw[zae (by omega)];rfl) y3 hy3
 rw[z1] at t3
 rw[z2] at t4
 have A1:y1.heap[w1.heap.size]? =some (.cells #[St a,St b,St c,.slice vp vn vk] 45 (0,0)):=by rw[hy1];exact zG w1 _
 have q23:=q2.trans (q3.mono q2.size)
 have q13:=q1.trans (q23.mono q1.size)
 have hall:y3=((w1.alloc (.cells #[St a,St b,St c,.slice vp vn vk] 45)).alloc (.cells #[.string ⟨#[49]⟩,.string ⟨#[50]⟩] 58)).alloc (.cells #[.string ⟨#[49]⟩,.string ⟨#[49]⟩] 58):=by rw[hy3,hy2,hy1]
 obtain⟨H0,hH0⟩:∃H,H=w1.heap.size:=⟨_,rfl⟩
 obtain⟨p3,hu3⟩:∃p,p=(⟨w1.heap.size+1,0,none⟩:Addr):=⟨_,rfl⟩
 obtain⟨p4,hu4⟩:∃p,p=(⟨w1.heap.size+1+1,0,none⟩:Addr):=⟨_,rfl⟩
 rw[<-hH0] at A1
 rw[<-hu3] at t3
 rw[<-hu4] at t4
 have K:=hid (⟨hb.trans (q13.mono hb.size),zac q23 _ _ _ _ A1,hs.below q13,t3.below q3,t4⟩:qL w y3/\y3.heap[H0]? =some (.cells #[St a,St b,St c,.slice vp vn vk] 45 (0,0))/\SdL (.slice vp vn vk) [] y3/\SdL (.slice (some p3) 1 1) [(1,2)] y3/\SdL (.slice (some p4) 1 1) [(1,1)] y3)
 have KN:=hid λ(W W':zA) (h:qL w W/\W.heap[H0]? =some (.cells #[St a,St b,St c,.slice vp vn vk] 45 (0,0))/\SdL (.slice vp vn vk) [] W/\SdL (.slice (some p3) 1 1) [(1,2)] W/\SdL (.slice (some p4) 1 1) [(1,1)] W) (hb:qL W W')=>
  (⟨h.1.trans (hb.mono h.1.size),zac hb _ _ _ _ h.2.1,h.2.2.1.below hb,h.2.2.2.1.below hb,h.2.2.2.2.below hb⟩:qL w W'/\W'.heap[H0]? =some (.cells #[St a,St b,St c,.slice vp vn vk] 45 (0,0))/\SdL (.slice vp vn vk) [] W'/\SdL (.slice (some p3) 1 1) [(1,2)] W'/\SdL (.slice (some p4) 1 1) [(1,1)] W')
 have KC:=hid λ(W:zA) (h:W.heap[H0]? =some (.cells #[St a,St b,St c,.slice vp vn vk] 45 (0,0)))=>(⟨by rw[zJ h];rfl,by rw[zJ h];rfl,by rw[zJ h];rfl,by rw[zJ h];rfl⟩:W.cell? ⟨H0,0,none⟩=some (St a)/\W.cell? ⟨H0,1,none⟩=some (St b)/\W.cell? ⟨H0,2,none⟩=some (St c)/\W.cell? ⟨H0,3,none⟩=some (.slice vp vn vk))
 have HV:=hid hall.symm
 have HU3:=hid hu3.symm;have HU4:=hid hu4.symm;have HH:=hid hH0.symm
 clear hall hy1 hy2 hy3 q1 q2 q3 q23 q13 z1 z2 t3 t4 A1 hb hs hH0 hu3 hu4 OF
 clear y1 y2
 obtain⟨k0,k1,k2,k3⟩:=KC.out y3 K.out.2.1
 rw[<-HV.out,<-HH.out] at k0 k1 k2 k3
 go_wp2_with fail
 have h9:=HV.out
 rw[show((w1.alloc (.cells #[.string ⟨a.toArray⟩,.string ⟨b.toArray⟩,.string ⟨c.toArray⟩,.slice vp vn vk] 45)).alloc (.cells #[.string ⟨#[49]⟩,.string ⟨#[50]⟩] 58)).alloc (.cells #[.string ⟨#[49]⟩,.string ⟨#[49]⟩] 58)=y3 from h9,HU3.out,HU4.out,HH.out]
 clear h9 HV k0 k1 k2 k3
 refine(S1.out y3 _ _ _ K.out.1 K.out.2.2.1 K.out.2.2.2.1 K.out.2.2.2.2).mono ?_
 rintro e x1 ⟨rfl,hb⟩
 have K1:=hid (KN.out _ _ K.out hb)
 clear hb K HU3 HU4 HH
 obtain⟨k0,k1,k2,k3⟩:=KC.out x1 K1.out.2.1
 go_wp2_with fail
 clear k0 k1 k2 k3
 refine(S2.out x1 _ _ _ K1.out.1 K1.out.2.2.1 K1.out.2.2.2.1 K1.out.2.2.2.2).mono ?_
 rintro e x2 ⟨rfl,hb⟩
 have K2:=hid (KN.out _ _ K1.out hb)
 clear hb K1
 obtain⟨k0,k1,k2,k3⟩:=KC.out x2 K2.out.2.1
 go_wp2_with fail
 clear k0 k1 k2 k3
 refine(S3.out x2 _ _ _ K2.out.1 K2.out.2.2.1 K2.out.2.2.2.1 K2.out.2.2.2.2).mono ?_
 rintro e x3 ⟨rfl,hb⟩
 have K3:=hid (KN.out _ _ K2.out hb)
 clear hb K2
 go_wp2_with fail
 refine(CO.out x3 _ _ K3.out.1 K3.out.2.2.2.1 K3.out.2.2.2.2).mono ?_
 rintro e x4 ⟨m0,m1,m2,rfl,hb,h0,h1,h2⟩
 have k4:=KN.out _ _ K3.out hb
 obtain⟨f0,n0,j0,rfl⟩:=h0.any
 obtain⟨f1,n1,j1,rfl⟩:=h1.any
 obtain⟨f2,j2,rfl, -⟩:=h2.slice
 obtain⟨y4,hy⟩:∃y4,y4=x4.alloc (.cells #[.slice f0 n0 j0,.slice f1 n1 j1,.slice f2 0 j2] 39):=⟨_,rfl⟩
 have by4:qL x4 y4:=by rw[hy];exact(zM _ x4).alloc (zN _) _
 have hYb:y4.heap[x4.heap.size]? =some (.cells #[.slice f0 n0 j0,.slice f1 n1 j1,.slice f2 0 j2] 39 (0,0)):=by rw[hy];exact zG x4 _
 obtain⟨Y,hY⟩:∃Y,Y=x4.heap.size:=⟨_,rfl⟩
 rw[<-hY] at hYb
 have k5:=KN.out _ _ k4 by4
 have h0:=h0.below by4
 have h1:=h1.below by4
 have M:=hid (⟨k5.1,hYb⟩:qL w y4/\_)
 have E0:=hid (eq_l _ _ [(1,2)] (by simp) y4 h0 k5.2.2.2.1)
 have E1:=hid (⟨h1,k5.2.2.2.2⟩:SdL (.slice f1 n1 j1) [(1,1)] y4/\SdL (.slice (some p4) 1 1) [(1,1)] y4)
 obtain⟨d0,d1,d2, -, -, -⟩:=zah hYb
 rw[hy,hY] at d0 d1 d2
 have HV:=hid hy.symm;have HY:=hid hY.symm
 clear hb by4 hY k4 k5 h0 h1 h2 K3 CO S1 S2 S3 KN KC hYb hy
 go_wp2_with fail
 have h9:=HV.out
 rw[h9,HY.out]
 clear h9 d0 d1 d2
 refine E0.out.mono ?_
 rintro e x5 ⟨rfl,hb⟩
 have B5:=hid (M.out.1.trans (hb.mono M.out.1.size))
 have P5:=hid (zac hb _ _ _ _ M.out.2)
 have E2:=hid (eq_l _ _ [(1,1)] (by simp) x5 (E1.out.1.below hb) (E1.out.2.below hb))
 clear hb M E0 E1 HV HY
 obtain⟨d0,d1,d2, -, -, -⟩:=zah P5.out
 go_wp2_with fail
 clear d0 d1 d2
 refine E2.out.mono ?_
 rintro e x6 ⟨rfl,hb⟩
 have B6:=hid (B5.out.trans (hb.mono B5.out.size))
 obtain⟨d0,d1,d2, -, -, -⟩:=zah (zac hb _ _ _ _ P5.out)
 clear hb E2 B5 P5
 go_wp2_with fail
 go_ret
 exact⟨rfl,B6.out⟩
end
section
open Go.RowKit Go.Shelf Lib Str Limb
structure OkL (l:List (Rat×Nat)):Prop where
 ok:SdOk l
 mt:MkT l
 re:mkR l=l
 ts:∀t∈l,sz t.1 60
theorem za5:OkL []:=⟨SdOk.nil,by have:=zf6 (a:=0) (b:=0) (zb7.1.mono (by omega)) (zb7.1.mono (by omega));rw[za2] at this;exact this,rfl,λt h=>by cases h⟩
theorem zct:OkL (b2 1):=by
 obtain⟨h1,h2,h3⟩:=zs7 (b:=1) (by decide) (zb7.2.1.mono (by omega))
 exact⟨h1,h2,h3,λt ht=>(h1.trm t ht).sc⟩
theorem zch {q:Rat} (h:sz q 60):OkL (rs q):=by
 have h1:=zf6 (a:=q) (b:=0) h (zb7.1.mono (by omega))
 have h2:=zb0 q 0
 rw[za2,List.append_nil] at h1 h2
 rw[Rat.add_zero] at h2
 exact⟨zc8 h,h1,h2,λt ht=>by obtain⟨rfl,_⟩:=zd2 ht;exact h⟩
theorem zlh:OkL (ab2 (-1) 1):=by
 obtain⟨h1,h2,h3⟩:=zsj (a:= -1) (b:=1) (by decide) (by decide) (zb7.2.2.2.2.1.mono (by omega)) (zb7.2.1.mono (by omega))
 exact⟨h1,h2,h3,λt ht=>(h1.trm t ht).sc⟩
theorem zdi (v1 v2:Value) (l1 l2 l:List (Rat×Nat)) (h1:OkL l1) (h2:OkL l2) (h:OkL l) (e:l1++l2=l) (w:zA) (hw:Hw w) (g1:SdL v1 l1 w) (g2:SdL v2 l2 w):
 zC zF 89 #[v1,v2] w λe w'=>∃v,e=.returned (.tuple #[v,.int .i64 0])/\zB w.heap.size w w'/\SdL v l w':=by
 have:=zqd v1 v2 l1 l2 h1.ok h2.ok (by rw[e];exact h.mt) (by rw[e,h.re];exact h.ts) (by rw[e,h.re];exact h.ok.len) (by rw[e,h.re];exact h.ok.inc) w hw.d hw.p g1 g2
 rw[e,h.re] at this
 exact this
theorem zse (v1 v2:Value) (l:List (Rat×Nat)) (h:OkL l) (w:zA) (hw:Hw w) (g1:SdL v1 l w) (g2:SdL v2 [] w):
 zC zF 43 #[v1,v2] w λe w'=>∃v,e=.returned (.tuple #[v,.int .i64 0])/\zB w.heap.size w w'/\SdL v l w':=by
 have e:l++sclL [] (-1)=l:=by simp[sclL]
 have:=zqe v1 v2 l [] h.ok SdOk.nil (by rw[e];exact h.mt) (by rw[e,h.re];exact h.ts) (by rw[e,h.re];exact h.ok.len) (by rw[e,h.re];exact h.ok.inc) w hw.d hw.p g1 g2
 rw[e,h.re] at this
 exact this
theorem zet (v:Value) (l:List (Rat×Nat)) (h:OkL l) (w:zA) (hw:Hw w) (hv:SdL v l w):
 zC zF 88 #[v,St (numS 1)] w λe w'=>∃v',e=.returned (.tuple #[v',.int .i64 0])/\zB w.heap.size w w'/\SdL v' l w':=by
 have:=zh3 v l 1 h.ok (zb7.2.1.mono (by omega)) (λt ht=>by rw[Rat.mul_one];exact h.ts t ht) w hw.d hw.p hv
 have e:sclR l 1=l:=by unfold sclR sclL;rw[if_neg (by decide)];simp[Rat.mul_one]
 rw[e] at this
 exact this
theorem zcz (v:Value) (l:List (Rat×Nat)) (h:OkL l) (w:zA) (hw:Hw w) (hv:SdL v l w):
 zC zF 88 #[v,St (numS 0)] w λe w'=>∃v',e=.returned (.tuple #[v',.int .i64 0])/\zB w.heap.size w w'/\SdL v' [] w':=by
 have:=zh3 v l 0 h.ok (zb7.1.mono (by omega)) (λt ht=>by rw[Rat.mul_zero];exact zb7.1.mono (by omega)) w hw.d hw.p hv
 have e:sclR l 0=[]:=by unfold sclR;rw[if_pos rfl]
 rw[e] at this
 exact this
theorem rs1:rs 1=[(1,1)]:=zbz (by decide)
theorem rsm1:rs (-1)=[(-1,1)]:=zbz (by decide)
theorem szk:sz 0 60/\sz 1 60/\sz (-1) 60:=⟨zb7.1.mono (by omega),zb7.2.1.mono (by omega),zb7.2.2.2.2.1.mono (by omega)⟩
theorem zqc (v t3 t4:Value) (w:zA) (hw:Hw w) (hv:SdL v [] w) (h3:SdL t3 (b2 1) w) (h4:SdL t4 (rs 1) w):
 qJ 12 #[.agg #[St (numS (-1)),St (numS 0),St (numS 1),v],.agg #[t4,.slice none 0 0,t3]] w (.tuple #[.int .i64 1,.int .i64 0]):=by
 obtain⟨z0,z1,zm⟩:=szk
 obtain⟨qd,nd,kd,rfl⟩:=hv.any
 obtain⟨q0,n0,k0,rfl⟩:=h4.any
 obtain⟨q2,n2,k2,rfl⟩:=h3.any
 have H:=λ(W:zA) (h:qL w W)=>hw.below h
 refine zjj (numS (-1)) (numS 0) (numS 1) qd q0 none q2 nd kd n0 0 n2 k0 0 k2 (ab2 (-1) 1) (ab2 (-1) 1) 1 w
  (hid λW hW B hB=>zjk (-1) 0 1 zm z0 z1 (.inl (by decide)) _ [] SdOk.nil B W (H W hW) (hv.below hW) hB)
  (hid λW hW=>zbh _ _ (zch z1).ok W (H W hW).wd (H W hW).pw (h4.below hW)) (hid λW hW=>zbh _ [] SdOk.nil W (H W hW).wd (H W hW).pw (SdL.nil _)) (hid λW hW=>zbh _ _ zct.ok W (H W hW).wd (H W hW).pw (h3.below hW))
  (hid λW hW=>?_)
  (hid λW r hW hr=>zse r _ _ zlh W (H W hW) hr (hv.below hW))
  (hid λW u hW hu=>?_)
 ·refine zcq q0 none q2 n0 0 n2 k0 0 k2 (numS (-1)) (numS 0) (numS 1) (rs (-1)) [] (b2 1) (rs (-1)) (ab2 (-1) 1) W
   (hid λV hV=>?_)
   (hid λV hV=>zcz _ [] za5 V ((H W hW).below hV) (SdL.nil _))
   (hid λV hV=>zet _ _ zct V ((H W hW).below hV) ((h3.below hW).below hV))
   (hid λV u v hV hu hv=>zdi u v _ [] _ (zch zm) za5 (zch zm) (by simp) V ((H W hW).below hV) hu hv)
   (hid λV u v hV hu hv=>zdi u v _ _ _ (zch zm) zct zlh (by rw[rsm1];rfl) V ((H W hW).below hV) hu hv)
  have:=zd3 _ 1 (-1) z1 (zm.mono (by omega)) (by rw[Rat.one_mul];exact zm) V ((H W hW).below hV).d ((H W hW).below hV).p ((h4.below hW).below hV)
  rw[Rat.one_mul] at this
  exact this
 ·obtain⟨p,cap,e, -⟩:=hu.slice
  subst e
  exact zff p _ cap _ 0 W (hid (zbh _ _ zlh.ok W (H W hW).wd (H W hW).pw hu)) (hid λV hV=>zp8 _ V ((H W hW).below hV).wd ((H W hW).below hV).sw (hu.below hV))
def uX (i:Nat):List UInt8:=numS (if i=0 then 1 else 0)
def uY (i:Nat):List UInt8:=numS (if i=1 then 1 else 0)
def uZ (i:Nat):List UInt8:=numS (if i=2 then 1 else 0)
theorem zor (t3 t4:Value) (w:zA) (hw:Hw w) (h3:SdL t3 (b2 1) w) (h4:SdL t4 (rs 1) w):
 zC zF 19 #[.agg #[St (numS 1),St (numS 0),St (numS 0),t3],.agg #[St (numS 0),St (numS 1),St (numS 0),t4],.agg #[St (numS 0),St (numS 0),St (numS 1),.slice none 0 0]] w λe w'=>∃u0 u1 u2,e=.returned (.tuple #[.agg #[u0,u1,u2],.bool true,.int .i64 0])/\zB w.heap.size w w'/\SdL u0 (b2 1) w'/\SdL u1 (rs 1) w'/\SdL u2 [] w':=by
 obtain⟨z0,z1,zm⟩:=szk
 have H:=λ(W:zA) (h:qL w W)=>hw.below h
 have y0:sz 0 30:=zb7.1.mono (by omega)
 have y1:sz 1 30:=zb7.2.1.mono (by omega)
 have r0:(1:Rat)*1-0*0=1:=by decide+kernel
 have r1:(0:Rat)*0-0*0=0:=by decide+kernel
 have r2:(0:Rat)*0-0*1=0:=by decide+kernel
 have r3:(0:Rat)*0-1*0=0:=by decide+kernel
 have r4:(0:Rat)*1-0*0=0:=by decide+kernel
 have r5:(1:Rat)*0-0*0=0:=by decide+kernel
 have hD:∀i,∃q m c,(if i=0 then t3 else if i=1 then t4 else Value.slice none 0 0)=.slice q m c:=λi=>by
  split
  ·exact h3.any
  ·split
   ·exact h4.any
   ·exact⟨_,_,_,rfl⟩
 obtain⟨q3,n3,k3,e3⟩:=h3.any
 obtain⟨q4,n4,k4,e4⟩:=h4.any
 subst e3;subst e4
 refine zlm uX uY uZ uX uY uZ uX uY uZ (λi=>if i=0 then .slice q3 n3 k3 else if i=1 then .slice q4 n4 k4 else .slice none 0 0) hD (numS 1) (numS 1) (by rw[zfc];rfl) (b2 1) (rs 1) [] w
  (hid λW hW A hA=>?_) (hid λj hj W hW=>?_) (hid λW hW=>?_) (hid λW hW=>?_) (hid λj hj W hW=>?_) (hid λW hW=>?_) (hid λW hW=>?_) (hid λW hW=>?_)
 ·refine zef (some ⟨A,0,none⟩) 3 3 uX uY uZ (λi=>if i=0 then .slice q3 n3 k3 else if i=1 then .slice q4 n4 k4 else .slice none 0 0) (by omega) (λi _=>hD i) W (hid λi hi V hV=>?_) (hid λi hi=>?_)
  ·have hv:=(H W hW).below hV
   match i,hi with
   |0,_=>exact zc9 1 0 0 z1 z0 z0 (.inl (by decide)) _ _ zct.ok V hv ((h3.below hW).below hV)
   |1,_=>exact zc9 0 1 0 z0 z1 z0 (.inr (.inl (by decide))) _ _ (zch z1).ok V hv ((h4.below hW).below hV)
   |2,_=>exact zc9 0 0 1 z0 z0 z1 (.inr (.inr (by decide))) _ _ SdOk.nil V hv (SdL.nil _)
  ·have hc:=zfr hA i hi
   rw[show i*4=0+i*4 by omega] at hc
   exact⟨A,0,rfl,hc⟩
 ·match j,hj with
  |0,_=>
   have:=zgs 0 1 0 0 0 1 ⟨y0,y1,y0⟩ ⟨y0,y0,y1⟩ W (H W hW).wd
   rw[r0,r2,r3] at this
   exact this
  |1,_=>
   have:=zgs 0 0 1 1 0 0 ⟨y0,y0,y1⟩ ⟨y1,y0,y0⟩ W (H W hW).wd
   rw[r3,r0,r2] at this
   exact this
  |2,_=>
   have:=zgs 1 0 0 0 1 0 ⟨y1,y0,y0⟩ ⟨y0,y1,y0⟩ W (H W hW).wd
   rw[r2,r3,r0] at this
   exact this
 ·have:=zs6 1 0 0 1 0 0 ⟨y1,y0,y0⟩ ⟨y1,y0,y0⟩ W (H W hW).wd
  rw[show(1:Rat)*1+0*0+0*0=1 by decide+kernel] at this
  exact this
 ·have:=zoj 1 1 (by decide) 1 1 (by omega) (by omega) (by omega) zb7.2.1 zb7.2.1 W (H W hW).wd
  rw[show(1:Rat)/1=1 by decide+kernel] at this
  rw[show(Value.string ⟨#[49]⟩)=St (numS 1) by rw[zfc]]
  exact this
 ·match j,hj with
  |0,_=>
   have:=zf8 1 0 0 1 ⟨z1,z0,z0⟩ z1 W (H W hW).wd
   rw[Rat.mul_one,Rat.mul_one] at this
   exact this
  |1,_=>
   have:=zf8 0 1 0 1 ⟨z0,z1,z0⟩ z1 W (H W hW).wd
   rw[Rat.mul_one,Rat.mul_one] at this
   exact this
  |2,_=>
   have:=zf8 0 0 1 1 ⟨z0,z0,z1⟩ z1 W (H W hW).wd
   rw[Rat.mul_one,Rat.mul_one] at this
   exact this
 ·exact zcq q3 q4 none n3 n4 0 k3 k4 0 (numS 1) (numS 0) (numS 0) (b2 1) [] [] (b2 1) (b2 1) W
   (hid λV hV=>zet _ _ zct V ((H W hW).below hV) ((h3.below hW).below hV))
   (hid λV hV=>zcz _ _ (zch z1) V ((H W hW).below hV) ((h4.below hW).below hV))
   (hid λV hV=>zcz _ [] za5 V ((H W hW).below hV) (SdL.nil _))
   (hid λV u v hV hu hv=>zdi u v _ [] _ zct za5 zct (by simp) V ((H W hW).below hV) hu hv)
   (hid λV u v hV hu hv=>zdi u v _ [] _ zct za5 zct (by simp) V ((H W hW).below hV) hu hv)
 ·exact zcq q3 q4 none n3 n4 0 k3 k4 0 (numS 0) (numS 1) (numS 0) [] (rs 1) [] (rs 1) (rs 1) W
   (hid λV hV=>zcz _ _ zct V ((H W hW).below hV) ((h3.below hW).below hV))
   (hid λV hV=>zet _ _ (zch z1) V ((H W hW).below hV) ((h4.below hW).below hV))
   (hid λV hV=>zcz _ [] za5 V ((H W hW).below hV) (SdL.nil _))
   (hid λV u v hV hu hv=>zdi u v [] _ _ za5 (zch z1) (zch z1) (by simp) V ((H W hW).below hV) hu hv)
   (hid λV u v hV hu hv=>zdi u v _ [] _ (zch z1) za5 (zch z1) (by simp) V ((H W hW).below hV) hu hv)
 ·exact zcq q3 q4 none n3 n4 0 k3 k4 0 (numS 0) (numS 0) (numS 1) [] [] [] [] [] W
   (hid λV hV=>zcz _ _ zct V ((H W hW).below hV) ((h3.below hW).below hV))
   (hid λV hV=>zcz _ _ (zch z1) V ((H W hW).below hV) ((h4.below hW).below hV))
   (hid λV hV=>zet _ [] za5 V ((H W hW).below hV) (SdL.nil _))
   (hid λV u v hV hu hv=>zdi u v [] [] _ za5 za5 za5 (by simp) V ((H W hW).below hV) hu hv)
   (hid λV u v hV hu hv=>zdi u v [] [] _ za5 za5 za5 (by simp) V ((H W hW).below hV) hu hv)
theorem zm6 (w:zA) (hw:Hw w):qJ 6 #[] w (.bool true):=by
 obtain⟨z0,z1,zm⟩:=szk
 have H:=λ(W:zA) (h:qL w W)=>hw.below h
 have n0:St (numS 0)=.string ⟨#[48]⟩:=by rw[zie]
 have n1:St (numS 1)=.string ⟨#[49]⟩:=by rw[zfc]
 have e1:=rs1;have e2:b2 1=[(1,2)]:=rfl
 have en:(-(0:Rat))=0:=by decide+kernel
 refine zlg (numS (-1)) (numS 0) (numS 1) w (hid ?_) (hid λW v t3 t4 hW hv h3 h4=>?_) (hid λW v t3 t4 hW hv h3 h4=>?_) (hid λW v t3 t4 hW hv h3 h4=>?_) (hid λW t3 t4 hW h3 h4=>?_)
 ·have:=zol 1 0 0 z1 z0 z0 w hw
  rw[en,n0,n1,za2] at this
  rw[n0,n1]
  exact this
 ·rw[<-e1] at h4
  rw[<-za2] at hv
  have:=zgg (-1) 0 1 0 1 0 0 zm z0 z1 (.inl (by decide)) z0 z1 z0 z0 (by rw[Rat.one_mul];exact zm) (by rw[Rat.zero_mul];exact z0) (by rw[Rat.zero_mul];exact z0) (by rw[show(1:Rat)* -1+0*0= -1 by decide+kernel];exact zm) (by rw[show(1:Rat)* -1+0*0+0*1= -1 by decide+kernel];exact zm) (by rw[show(1:Rat)* -1+0*0+0*1-0= -1 by decide+kernel];exact zm) v t4 (.slice none 0 0) (.slice none 0 0) W (H W hW) hv h4 (by rw[za2];exact SdL.nil _) (by rw[za2];exact SdL.nil _)
  rw[show Geo.cmpR ((1:Rat)* -1+0*0+0*1-0) 0= -1 by decide+kernel] at this
  exact this
 ·rw[<-e1] at h4
  rw[<-za2] at hv
  have:=zgg (-1) 0 1 0 1 0 1 zm z0 z1 (.inl (by decide)) z0 z1 z0 z1 (by rw[Rat.one_mul];exact zm) (by rw[Rat.zero_mul];exact z0) (by rw[Rat.one_mul];exact z1) (by rw[show(1:Rat)* -1+0*0= -1 by decide+kernel];exact zm) (by rw[show(1:Rat)* -1+0*0+1*1=0 by decide+kernel];exact z0) (by rw[show(1:Rat)* -1+0*0+1*1-0=0 by decide+kernel];exact z0) v t4 (.slice none 0 0) t4 W (H W hW) hv h4 (by rw[za2];exact SdL.nil _) h4
  rw[show Geo.cmpR ((1:Rat)* -1+0*0+1*1-0) 0=0 by decide+kernel] at this
  exact this
 ·rw[<-e1] at h4
  rw[<-e2] at h3
  exact zqc v t3 t4 W (H W hW) hv h3 h4
 ·rw[<-e1] at h4
  rw[<-e2] at h3
  have:=zor t3 t4 W (H W hW) h3 h4
  rw[n0,n1,e1,e2] at this
  exact this
end
section
open Go.RowKit Go.Shelf Lib Str Limb Geo
theorem zm1 (p q r s:Rat) (hp:sz p 60) (hq:sz q 60) (hr:sz r 60) (hs:sz s 60) (A:Nat) (t:TypeId) (W:zA) (hW:Wd W) (h:W.heap[A]? =some (.cells #[St (numS p),St (numS q),St (numS r),St (numS s)] t (0,0))):
 qJ 36 #[.slice (some ⟨A,0,none⟩) 4 4] W (.int .i64 0):=by
 refine zml (some ⟨A,0,none⟩) 4 4 (q4 p q r s) (by omega) (hid λk hk V hV=>?_) W (hid hW) (hid (zlb A t p q r s W h))
 match k,hk with
 |0,_=>exact zfj p (zd0 (by omega) (by omega) hp) V hV
 |1,_=>exact zfj q (zd0 (by omega) (by omega) hq) V hV
 |2,_=>exact zfj r (zd0 (by omega) (by omega) hr) V hV
 |3,_=>exact zfj s (zd0 (by omega) (by omega) hs) V hV
theorem zrl {p q r s:Rat} (h:p≠r\/q≠s):numS p≠numS r\/numS p=numS r/\numS q≠numS s:=by
 by_cases e:p=r
 ·rcases h with h|h
  ·exact absurd e h
  ·exact .inr ⟨by rw[e],λk=>h (zh0 k)⟩
 ·exact .inl λk=>e (zh0 k)
theorem zrp (p q r s:Rat) (hp:sz p 8) (hq:sz q 8) (hr:sz r 8) (hs:sz s 8) (hne:p≠r\/q≠s) (w:zA) (hw:Hw w):
 zC zF 13 #[.agg #[St (numS p),St (numS q)],.agg #[St (numS r),St (numS s)],.bool true] w λe w'=>∃v,e=.returned (.tuple #[.agg #[St (numS (s-q)),St (numS (p-r)),St (numS 0),v],.int .i64 0])/\zB w.heap.size w w'/\SdL v (rs ((s-q)*p+(p-r)*q)) w':=by
 have M {q:Rat} {k:Nat} (h:sz q k) (hk:k<=60):sz q 60:=h.mono hk
 have n0:St (numS 0)=.string ⟨#[48]⟩:=by rw[zie]
 have sx:=zih hs hq
 have sy:=zih hp hr
 have s1:=zca sx hp
 have s2:=zca sy hq
 have sd:sz ((s-q)*p+(p-r)*q) 60:=M (zk0 s1 s2) (by omega)
 have H:=λ(W:zA) (h:qL w W)=>hw.below h
 refine zmz (numS p) (numS q) (numS r) (numS s) (numS (s-q)) (numS (p-r)) (numS ((s-q)*p)) (numS ((p-r)*q)) (numS ((s-q)*p+(p-r)*q)) (numS (s-q)) (numS (p-r)) (numS 0) true 81 zr4 _ _ (zrl hne) w
  (hid λW hW A hA=>zm1 p q r s (M hp (by omega)) (M hq (by omega)) (M hr (by omega)) (M hs (by omega)) A _ W (H W hW).wd hA)
  (hid λW hW=>ztz s q 8 8 (by omega) (by omega) (by omega) hs hq W (H W hW).wd) (hid λW hW=>ztz p r 8 8 (by omega) (by omega) (by omega) hp hr W (H W hW).wd)
  (hid λW hW=>zjf (s-q) p 17 8 (by omega) (by omega) (by omega) sx hp W (H W hW).wd) (hid λW hW=>zjf (p-r) q 17 8 (by omega) (by omega) (by omega) sy hq W (H W hW).wd)
  (hid λW hW=>zje ((s-q)*p) ((p-r)*q) 25 25 (by omega) (by omega) (by omega) s1 s2 W (H W hW).wd)
  (hid λW hW=>z7c _ sd W (H W hW).d (H W hW).p) (hid λW=>zgj true W) (hid λW pp n k hW hl=>?_)
 rw[<-n0]
 exact(zn4 _ _ _ pp n k _ W hl).mono λe w' ⟨h1,h2,h3⟩=>⟨_,h1,h2,h3⟩
theorem zpm (p q r s:Rat) (hp:sz p 8) (hq:sz q 8) (hr:sz r 8) (hs:sz s 8) (hne:p≠r\/q≠s) (w:zA) (hw:Hw w):
 zC zF 13 #[.agg #[St (numS p),St (numS q)],.agg #[St (numS r),St (numS s)],.bool false] w λe w'=>∃v,e=.returned (.tuple #[.agg #[St (numS (-(s-q))),St (numS (-(p-r))),St (numS 0),v],.int .i64 0])/\zB w.heap.size w w'/\SdL v (rs (-((s-q)*p+(p-r)*q))) w':=by
 have M {q:Rat} {k:Nat} (h:sz q k) (hk:k<=60):sz q 60:=h.mono hk
 have n0:St (numS 0)=.string ⟨#[48]⟩:=by rw[zie]
 have sx:=zih hs hq
 have sy:=zih hp hr
 have s1:=zca sx hp
 have s2:=zca sy hq
 have sd:sz ((s-q)*p+(p-r)*q) 60:=M (zk0 s1 s2) (by omega)
 have H:=λ(W:zA) (h:qL w W)=>hw.below h
 refine zmz (numS p) (numS q) (numS r) (numS s) (numS (s-q)) (numS (p-r)) (numS ((s-q)*p)) (numS ((p-r)*q)) (numS ((s-q)*p+(p-r)*q)) (numS (-(s-q))) (numS (-(p-r))) (numS 0) false 82 zr6 _ _ (zrl hne) w
  (hid λW hW A hA=>zm1 p q r s (M hp (by omega)) (M hq (by omega)) (M hr (by omega)) (M hs (by omega)) A _ W (H W hW).wd hA)
  (hid λW hW=>ztz s q 8 8 (by omega) (by omega) (by omega) hs hq W (H W hW).wd) (hid λW hW=>ztz p r 8 8 (by omega) (by omega) (by omega) hp hr W (H W hW).wd)
  (hid λW hW=>zjf (s-q) p 17 8 (by omega) (by omega) (by omega) sx hp W (H W hW).wd) (hid λW hW=>zjf (p-r) q 17 8 (by omega) (by omega) (by omega) sy hq W (H W hW).wd)
  (hid λW hW=>zje ((s-q)*p) ((p-r)*q) 25 25 (by omega) (by omega) (by omega) s1 s2 W (H W hW).wd)
  (hid λW hW=>z7c _ sd W (H W hW).d (H W hW).p) (hid λW=>zgj false W) (hid λW pp n k hW hl=>?_)
 rw[<-n0]
 have:=zr7 (s-q) (p-r) 0 _ (M sx (by omega)) (M sy (by omega)) szk.1 sd (.slice pp n k) W (H W hW) hl
 rw[show(-(0:Rat))=0 by decide+kernel] at this
 exact this
theorem zt0 (A:Nat) (t:TypeId) (a b:Rat) (W:zA) (h:W.heap[A]? =some (.cells #[St (numS a),St (numS b)] t (0,0))):RowNums (some ⟨A,0,none⟩) 2 (λi=>if i=0 then a else b) W:=λi hi=>by
 refine⟨_,_,rfl,?_⟩
 rw[zJ h]
 match i,hi with
 |0,_|1,_=>rfl
theorem RowSt.seven (W:zA) (A:Nat) (t:TypeId) (a b c d e f g:List UInt8) (h:W.heap[A]? =some (.cells #[St a,St b,St c,St d,St e,St f,St g] t (0,0))):RowSt (some ⟨A,0,none⟩) [a,b,c,d,e,f,g] W:=λi hi=>by
 refine⟨_,_,rfl,?_⟩
 rw[zJ h]
 match i,hi with
 |0,_|1,_|2,_|3,_|4,_|5,_|6,_=>rfl
theorem zud {x y:Rat} (h:x≠0\/y≠0):0<x*x+y*y:=by
 have a:0<=x*x:=by
  by_cases k:0<=x
  ·exact Rat.mul_nonneg k k
  ·have:=Rat.mul_nonneg (a:= -x) (b:= -x) (by grind) (by grind)
   grind
 have b:0<=y*y:=by
  by_cases k:0<=y
  ·exact Rat.mul_nonneg k k
  ·have:=Rat.mul_nonneg (a:= -y) (b:= -y) (by grind) (by grind)
   grind
 have c:x*x≠0\/y*y≠0:=h.imp (λh k=>by rcases Rat.mul_eq_zero.1 k with k|k<;>exact h k) (λh k=>by rcases Rat.mul_eq_zero.1 k with k|k<;>exact h k)
 rcases c with c|c<;>grind
theorem zta (x0 y0 x1 y1 z al si:List UInt8) (w:zA) (AW:Hid (∀W:zA,qL w W->qJ 6 #[] W (.bool true))) (hw:Hw w):
 qJ 4 #[.agg #[St x0,St y0],.agg #[St x1,St y1],St z,St al,St si] w (.bool true):=by
 refine zs9 x0 y0 x1 y1 z al si (∀i,i<7->shT ([x0,y0,x1,y1,z,al,si][i]?.getD [])) w (hid λW hW A hA=>zmy (some ⟨A,0,none⟩) 7 [x0,y0,x1,y1,z,al,si] (by simp) W (hw.below hW).wd (RowSt.seven W A _ _ _ _ _ _ _ _ hA)) AW (hid λg=>?_)
 obtain⟨l0,p,h0,_⟩:=g 0 (by omega)
 obtain⟨l1,q,h1,_⟩:=g 1 (by omega)
 obtain⟨l2,r,h2,_⟩:=g 2 (by omega)
 obtain⟨l3,s,h3,_⟩:=g 3 (by omega)
 obtain⟨l4,Z,h4,_⟩:=g 4 (by omega)
 obtain⟨l5,L,h5,_⟩:=g 5 (by omega)
 obtain⟨l6,T,h6,_⟩:=g 6 (by omega)
 obtain rfl:x0=numS p:=h0
 obtain rfl:y0=numS q:=h1
 obtain rfl:x1=numS r:=h2
 obtain rfl:y1=numS s:=h3
 obtain rfl:z=numS Z:=h4
 obtain rfl:al=numS L:=h5
 obtain rfl:si=numS T:=h6
 have hp:sz p 8:=zto (by omega) l0
 have hq:sz q 8:=zto (by omega) l1
 have hr:sz r 8:=zto (by omega) l2
 have hs:sz s 8:=zto (by omega) l3
 have hZ:sz Z 8:=zto (by omega) l4
 have hL:sz L 8:=zto (by omega) l5
 have hT:sz T 8:=zto (by omega) l6
 have US:=ztl (aX:=p) (aY:=q) (bX:=r) (bY:=s) (l:=L) (m:=T) (zdq l0) (zdq l1) (zdq l2) (zdq l3) (zdq l5) (zdq l6)
 clear g l0 l1 l2 l3 l4 l5 l6
 have H:=λ(W:zA) (h:qL w W)=>hw.below h
 have M {q:Rat} {k:Nat} (h:sz q k) (hk:k<=60):sz q 60:=h.mono hk
 have n0:St (numS 0)=.string ⟨#[48]⟩:=by rw[zie]
 have z0:=szk.1
 by_cases hne:p=r/\q=s
 ·left
  refine⟨by rw[hne.1],by rw[hne.2],λW left hW=>?_⟩
  exact znu (numS p) (numS q) (numS r) (numS s) (numS (s-q)) (numS (p-r)) left (by rw[hne.1]) (by rw[hne.2]) W
   (hid λV hV A hA=>zm1 p q r s (M hp (by omega)) (M hq (by omega)) (M hr (by omega)) (M hs (by omega)) A _ V ((H W hW).below hV).wd hA)
   (hid λV hV=>ztz s q 8 8 (by omega) (by omega) (by omega) hs hq V ((H W hW).below hV).wd) (hid λV hV=>ztz p r 8 8 (by omega) (by omega) (by omega) hp hr V ((H W hW).below hV).wd)
 ·right
  have hn:p≠r\/q≠s:=by
   by_cases e:p=r
   ·exact .inr λk=>hne ⟨e,k⟩
   ·exact .inl e
  have sA:=zih hs hq
  have sB:=zih hp hr
  have sdx:=zih hr hp
  have s1:=zca sA hp
  have s2:=zca sB hq
  have sD:sz ((s-q)*p+(p-r)*q) 60:=M (zk0 s1 s2) (by omega)
  have m1:=zca sdx hL
  have m2:=zca sA hL
  have m3:=zca sA hT
  have m4:=zca sdx hT
  have c1:=zk0 hp m1
  have c2:=zih c1 m3
  have c3:=zk0 hq m2
  have c4:=zk0 c3 m4
  have hAB:s-q≠0\/p-r≠0\/(0:Rat)≠0:=by
   rcases hn with h|h
   ·exact .inr (.inl (by grind))
   ·exact .inl (by grind)
  have hAB': -(s-q)≠0\/ -(p-r)≠0\/(0:Rat)≠0:=by
   rcases hn with h|h
   ·exact .inr (.inl (by grind))
   ·exact .inl (by grind)
  obtain⟨US1,US2,US3,US4⟩:=US
  have E0:(p+(r-p)*L-(s-q)*T)*(s-q)+(q+(s-q)*L+(r-p)*T)*(p-r)=(s-q)*p+(p-r)*q-T*((r-p)*(r-p)+(s-q)*(s-q)):=by grind
  have hE:cmpR ((r-p)*(r-p)+(s-q)*(s-q)) 0=1:=by
   have h1:=zud (x:=r-p) (y:=s-q) (by rcases hn with h|h;exact .inl (by grind);exact .inr (by grind))
   have h2:=zaw ((r-p)*(r-p)+(s-q)*(s-q)) 0
   grind
  refine⟨zrl hn,numS (s-q),numS (p-r),numS 0,numS (-(s-q)),numS (-(p-r)),numS 0,numS (r-p),numS (s-q),numS ((r-p)*L),numS ((s-q)*L),numS ((s-q)*T),numS ((r-p)*T),numS (p+(r-p)*L),numS (q+(s-q)*L+(r-p)*T),numS (p+(r-p)*L-(s-q)*T),cmpR T 0,rs ((s-q)*p+(p-r)*q),rs (-((s-q)*p+(p-r)*q)),rs (p+(r-p)*L-(s-q)*T),rs (q+(s-q)*L+(r-p)*T),rs p,rs q,rs r,rs s,rs Z,?_⟩
  refine⟨λW hW=>zrp p q r s hp hq hr hs hn W (H W hW),λW hW=>zpm p q r s hp hq hr hs hn W (H W hW),
   λW hW=>ztz r p 8 8 (by omega) (by omega) (by omega) hr hp W (H W hW).wd,λW hW=>ztz s q 8 8 (by omega) (by omega) (by omega) hs hq W (H W hW).wd,
   λW hW=>zjf _ _ 17 8 (by omega) (by omega) (by omega) sdx hL W (H W hW).wd,λW hW=>zjf _ _ 17 8 (by omega) (by omega) (by omega) sA hL W (H W hW).wd,
   λW hW=>zjf _ _ 17 8 (by omega) (by omega) (by omega) sA hT W (H W hW).wd,λW hW=>zjf _ _ 17 8 (by omega) (by omega) (by omega) sdx hT W (H W hW).wd,
   λW hW A hA=>?_,λW hW A hA=>?_,λW hW=>ztz _ _ 34 25 (by omega) (by omega) (by omega) c1 m3 W (H W hW).wd,λW hW=>?_,?_,
   λW hW=>zr3 _ _ Z (M c2 (by omega)) (M c4 (by omega)) (M hZ (by omega)) W (H W hW),λW hW=>zr3 p q Z (M hp (by omega)) (M hq (by omega)) (M hZ (by omega)) W (H W hW),λW hW=>zr3 r s Z (M hr (by omega)) (M hs (by omega)) (M hZ (by omega)) W (H W hW),
   λW v u0 u1 u2 hW hv h0 h1 h2=>?_,λW v u0 u1 u2 hW hv h0 h1 h2=>?_,λW v u0 u1 u2 hW hv h0 h1 h2=>?_,λW v u0 u1 u2 hW hv h0 h1 h2=>?_⟩
  ·have:=zsg (some ⟨A,0,none⟩) 2 2 (λi=>if i=0 then p else(r-p)*L) (by omega) (λk hk=>?_) W (H W hW).wd (zt0 A _ _ _ W hA)
   ·rw[show psum (λi=>if i=0 then p else(r-p)*L) 2=p+(r-p)*L by show(0+p)+(r-p)*L=_;rw[Rat.zero_add]] at this
    exact this
   ·refine⟨60,60,by omega,by omega,by omega,?_,?_⟩
    ·match k,hk with
     |0,_=>exact z0
     |1,_=>show sz (0+p) 60;rw[Rat.zero_add];exact M hp (by omega)
    ·match k,hk with
     |0,_=>exact M hp (by omega)
     |1,_=>exact M m1 (by omega)
  ·have:=zsg (some ⟨A,0,none⟩) 3 3 (λi=>if i=0 then q else if i=1 then(s-q)*L else(r-p)*T) (by omega) (λk hk=>?_) W (H W hW).wd (zjl A _ _ _ _ W hA)
   ·rw[show psum (λi=>if i=0 then q else if i=1 then(s-q)*L else(r-p)*T) 3=q+(s-q)*L+(r-p)*T by show((0+q)+(s-q)*L)+(r-p)*T=_;rw[Rat.zero_add]] at this
    exact this
   ·refine⟨60,60,by omega,by omega,by omega,?_,?_⟩
    ·match k,hk with
     |0,_=>exact z0
     |1,_=>show sz (0+q) 60;rw[Rat.zero_add];exact M hq (by omega)
     |2,_=>show sz (0+q+(s-q)*L) 60;rw[Rat.zero_add];exact M c3 (by omega)
    ·match k,hk with
     |0,_=>exact M hq (by omega)
     |1,_=>exact M m2 (by omega)
     |2,_=>exact M m4 (by omega)
  ·have:=zgq T 0 8 1 (by omega) (by omega) (by omega) hT zb7.1 W (H W hW).wd
   rw[n0] at this;exact this
  ·have:=zaw T 0
   grind
  ·have e5:(p+(r-p)*L-(s-q)*T)*(s-q)+(q+(s-q)*L+(r-p)*T)*(p-r)+Z*0=(s-q)*p+(p-r)*q-T*((r-p)*(r-p)+(s-q)*(s-q)):=by rw[Rat.mul_zero,Rat.add_zero];exact E0
   have e6:(p+(r-p)*L-(s-q)*T)*(s-q)+(q+(s-q)*L+(r-p)*T)*(p-r)+Z*0-((s-q)*p+(p-r)*q)= -(T*((r-p)*(r-p)+(s-q)*(s-q))):=by rw[e5];grind
   have:=zgg (s-q) (p-r) 0 ((s-q)*p+(p-r)*q) _ _ Z (M sA (by omega)) (M sB (by omega)) z0 hAB sD (M c2 (by omega)) (M c4 (by omega)) (M hZ (by omega)) US1 US2 (by rw[Rat.mul_zero];exact z0) (by rw[E0];exact US3) (by rw[e5];exact US3) (by rw[e6];exact zce US4) v u0 u1 u2 W (H W hW) hv h0 h1 h2
   rw[e6,zsa,ztj,hE,Int.mul_one] at this
   exact this
  ·have a1:(p+(r-p)*L-(s-q)*T)* -(s-q)= -((p+(r-p)*L-(s-q)*T)*(s-q)):=by grind
   have a2:(q+(s-q)*L+(r-p)*T)* -(p-r)= -((q+(s-q)*L+(r-p)*T)*(p-r)):=by grind
   have e4:(p+(r-p)*L-(s-q)*T)* -(s-q)+(q+(s-q)*L+(r-p)*T)* -(p-r)= -((s-q)*p+(p-r)*q-T*((r-p)*(r-p)+(s-q)*(s-q))):=by rw[<-E0];grind
   have e5:(p+(r-p)*L-(s-q)*T)* -(s-q)+(q+(s-q)*L+(r-p)*T)* -(p-r)+Z*0= -((s-q)*p+(p-r)*q-T*((r-p)*(r-p)+(s-q)*(s-q))):=by rw[Rat.mul_zero,Rat.add_zero];exact e4
   have e6:(p+(r-p)*L-(s-q)*T)* -(s-q)+(q+(s-q)*L+(r-p)*T)* -(p-r)+Z*0- -((s-q)*p+(p-r)*q)=T*((r-p)*(r-p)+(s-q)*(s-q)):=by rw[e5];grind
   have:=zgg (-(s-q)) (-(p-r)) 0 (-((s-q)*p+(p-r)*q)) _ _ Z (M (zce sA) (by omega)) (M (zce sB) (by omega)) z0 hAB' (zce sD) (M c2 (by omega)) (M c4 (by omega)) (M hZ (by omega)) (by rw[a1];exact zce US1) (by rw[a2];exact zce US2) (by rw[Rat.mul_zero];exact z0) (by rw[e4];exact zce US3) (by rw[e5];exact zce US3) (by rw[e6];exact US4) v u0 u1 u2 W (H W hW) hv h0 h1 h2
   rw[e6,ztj,hE,Int.mul_one] at this
   exact this
  ·have t1:=zca hp sA
   have t2:=zca hq sB
   have e5:p*(s-q)+q*(p-r)+Z*0=p*(s-q)+q*(p-r):=by rw[Rat.mul_zero,Rat.add_zero]
   have e6:p*(s-q)+q*(p-r)+Z*0-((s-q)*p+(p-r)*q)=0:=by rw[e5];grind
   have:=zgg (s-q) (p-r) 0 ((s-q)*p+(p-r)*q) p q Z (M sA (by omega)) (M sB (by omega)) z0 hAB sD (M hp (by omega)) (M hq (by omega)) (M hZ (by omega)) (M t1 (by omega)) (M t2 (by omega)) (by rw[Rat.mul_zero];exact z0) (M (zk0 t1 t2) (by omega)) (by rw[e5];exact M (zk0 t1 t2) (by omega)) (by rw[e6];exact z0) v u0 u1 u2 W (H W hW) hv h0 h1 h2
   rw[e6,show cmpR 0 0=0 by decide+kernel] at this
   exact this
  ·have t1:=zca hr (zce sA)
   have t2:=zca hs (zce sB)
   have e5:r* -(s-q)+s* -(p-r)+Z*0=r* -(s-q)+s* -(p-r):=by rw[Rat.mul_zero,Rat.add_zero]
   have e6:r* -(s-q)+s* -(p-r)+Z*0- -((s-q)*p+(p-r)*q)=0:=by rw[e5];grind
   have:=zgg (-(s-q)) (-(p-r)) 0 (-((s-q)*p+(p-r)*q)) r s Z (M (zce sA) (by omega)) (M (zce sB) (by omega)) z0 hAB' (zce sD) (M hr (by omega)) (M hs (by omega)) (M hZ (by omega)) (M t1 (by omega)) (M t2 (by omega)) (by rw[Rat.mul_zero];exact z0) (M (zk0 t1 t2) (by omega)) (by rw[e5];exact M (zk0 t1 t2) (by omega)) (by rw[e6];exact z0) v u0 u1 u2 W (H W hW) hv h0 h1 h2
   rw[e6,show cmpR 0 0=0 by decide+kernel] at this
   exact this
end
section
open Go.RowKit Go.Shelf Lib Str Limb
open Go.ChangeShapes Go.WideShapes Go.ChangeAt
theorem zxe {H:Type} {enc:TypeId×Value->H} {W:zA} {base:Nat} {sp:Nat->Bool} {held:Bool} {r:Reach} {b0:Nat} {v:Value} {d:DataW H} {ps:List MemPlace}
 (hval:Value.okWide zF W r b0 22 v) (hd:DataW.Trod enc zF W base sp held 22 v d ps):∃x:List UInt8,v=St x/\ps=[]:=by
 obtain⟨s0,rfl⟩:=okWide_string Tryz.underlying22 hval
 obtain⟨fuel,hf⟩:=hd
 obtain⟨s1,e1,hx,_⟩:=DataW.trod_string Tryz.underlying22 hf
 simp only[Prod.mk.injEq] at hx
 exact⟨s0.data.toList,rfl,hx.2⟩
theorem z80 {l:List (String×DataW Unit)} {W:zA} (hL:laidMet zF l W) (hm:("kingpost/surd.signPlaces",Rows.laid_kingpost_surd_signPlaces)∈l):Spw W:=by
 obtain⟨g,t,cs,fuel,p,hg,ht,hv,hd⟩:=Lib.laidMet.reads hL hm
 obtain rfl:g=0:=Option.some.inj (hg.symm.trans (by kernel_rfl))
 obtain rfl:t=203:=Option.some.inj (ht.symm.trans (by kernel_rfl))
 have e:(Rows.laid_kingpost_surd_signPlaces:DataW Unit)=Lib.tabData .i64 [4,16,64]:=by kernel_rfl
 rw[e] at hd
 have hc:=Lib.cells_of_tab (n:=3) Tryz.underlying203 Tryz.underlying3 (by kernel_rfl) (by kernel_rfl) hd
 obtain rfl:cs=spV:=Array.toList_inj.1 (hc.trans (by kernel_rfl))
 exact⟨hv⟩
theorem zj9 (os:Os) (started:os.Started) (H:Type) (enc:TypeId×Value->H):
 ReturnsInHanded {} Tryz.checked os 4 .any (λw args=>(Rows.halfspaceUprightSpec.pre enc zF Tryz.f4 [] false w args/\laidMetH zF Rows.halfspaceUprightRow.laid w)/\sizedMet enc zF Tryz.f4 (OpenSpec.ofChange Rows.halfspaceUprightSpec) false w args)
  (Rows.halfspaceUprightSpec.post enc zF Tryz.f4 false true false false):=by
 refine zf9 (C:=Tryz.checked) (X:=λw _=>laidMetH zF Rows.halfspaceUprightRow.laid w) (λ_ _ _ hh h=>h.of_heap hh) zrj started (by kernel_rfl) Tryz.func4
  (ChangeSpec.witness_shaped (enc:=enc) (C:=Tryz.checked) (os:=os) (X:=λw _=>laidMetH zF Rows.halfspaceUprightRow.laid w) false (World.laidAll zF os Rows.halfspaceUprightRow.laid)
    #[.agg #[.string ⟨#[]⟩,.string ⟨#[]⟩],.agg #[.string ⟨#[]⟩,.string ⟨#[]⟩],.string ⟨#[]⟩,.string ⟨#[]⟩,.string ⟨#[]⟩] 8 (World.laidAll_os _ _ _)
    (World.shaped_of_ZipB (by kernel_rfl) (by kernel_rfl)) (by kernel_rfl) (by kernel_rfl) (by kernel_rfl)
    (by rw[MakeChecks.laidMetH_plain _ _ _ (by kernel_rfl)];exact laidMet_laidAll _ (by kernel_rfl) (by kernel_rfl))) ?_
 intro W args ds gs before base hval0 hW hL hsh
 have hval:∀(j:Nat) t v,Tryz.f4.params[j]? =some t->args[j]? =some v->Value.okWide zF W .any base t v:=hval0
 have hW':=hW
 obtain⟨p,q,hA0,hV,rfl,_,_⟩:=hW
 have hA:DataW.TrodAll enc zF W 0 (λ_=>true) true Tryz.f4.params.toList args.toList ds p:=hA0
 rw[Tryz.params4] at hA hval
 obtain⟨v0,vs0,d0,ds0,p0,q0,e0,rfl,rfl,h0,hA⟩:=trodAll_cons hA
 obtain⟨v1,vs1,d1,ds1,p1,q1,e1,rfl,rfl,h1,hA⟩:=trodAll_cons hA
 obtain⟨v2,vs2,d2,ds2,p2,q2,e2,rfl,rfl,h2,hA⟩:=trodAll_cons hA
 obtain⟨v3,vs3,d3,ds3,p3,q3,e3,rfl,rfl,h3,hA⟩:=trodAll_cons hA
 obtain⟨v4,vs4,d4,ds4,p4,q4,e4,rfl,rfl,h4,hA⟩:=trodAll_cons hA
 obtain⟨rfl,rfl,rfl⟩:=trodAll_nil hA
 obtain rfl:args= #[v0,v1,v2,v3,v4]:=by cases args;simp_all
 obtain⟨rfl,rfl⟩:=trodVars_none hV
 obtain⟨x0,y0,rfl,rfl⟩:=zlx (hval 0 26 v0 rfl rfl) h0
 obtain⟨x1,y1,rfl,rfl⟩:=zlx (hval 1 26 v1 rfl rfl) h1
 obtain⟨x2,rfl,rfl⟩:=zxe (hval 2 22 v2 rfl rfl) h2
 obtain⟨x3,rfl,rfl⟩:=zxe (hval 3 22 v3 rfl rfl) h3
 obtain⟨x4,rfl,rfl⟩:=zxe (hval 4 22 v4 rfl rfl) h4
 simp only[List.append_nil] at hW'
 have hM:laidMet zF Rows.halfspaceUprightRow.laid W:=by rw[<-MakeChecks.laidMetH_plain _ _ _ (by kernel_rfl)];exact hL
 have hwd:Wd W:=z0v hM (.tail _ (.tail _ (.head _))) hsh
 have hpw:Pw W:=z0w hM (.tail _ (.tail _ (.tail _ (.tail _ (.tail _ (.tail _ (.head _)))))))
 have hsw:Spw W:=z80 hM (.tail _ (.tail _ (.tail _ (.tail _ (.tail _ (.tail _ (.tail _ (.head _))))))))
 have hhw:Hw W:=⟨hwd,hpw,hsw⟩
 refine(zta x0 y0 x1 y1 x2 x3 x4 W (hid λX hX=>zm6 X (hhw.below hX)) hhw).mono λe W' ⟨he,hb⟩=>?_
 subst he
 have k1:=λ{v:Value} {d:DataW H} (h:DataW.Trod enc zF W 0 (λ_=>true) true 26 v d [])=>Below.trod zgh (by kernel_rfl) (of_decide_eq_true (by kernel_rfl)) h hb (λ_ h=>by cases h)
 have k2:=λ{v:Value} {d:DataW H} (h:DataW.Trod enc zF W 0 (λ_=>true) true 22 v d [])=>Below.trod zgh (by kernel_rfl) (of_decide_eq_true (by kernel_rfl)) h hb (λ_ h=>by cases h)
 exact⟨_,rfl,_,_,_,[],[],[],hW',trodAll_mk1 (shut_bool Tryz.underlying4 _),trodAll_cons_mk (k1 h0) (trodAll_mk4 (k1 h1) (k2 h2) (k2 h3) (k2 h4)),rfl,hb.frame _,λh=>by cases h⟩
theorem zuh:mapsRowed zF=true:=by kernel_rfl
theorem zxu:namedTie zF Rows.halfspaceUprightRow.named Rows.halfspaceUprightSpec.vars=true:=by kernel_rfl
theorem zpn:(Rows.halfspaceUprightRow.inPlace==Tryz.prog.inPlace 4)=true:=by kernel_rfl
theorem zxv:(Rows.halfspaceUprightRow.unfollowed==Tryz.prog.unfollowed 4)=true:=by kernel_rfl
theorem zxw:(Rows.halfspaceUprightRow.recurses==Tryz.prog.recurses 4)=true:=by kernel_rfl
theorem zqn:(Rows.halfspaceUprightRow.named==Tryz.prog.varsNamed 4)=true:=by kernel_rfl
theorem ztq:Tryz.prog.stopsHeard=true:=by kernel_rfl
theorem zug:Tryz.prog.mayEnter=true:=by kernel_rfl
theorem zpi:(Rows.halfspaceUprightRow.lifted==Tryz.prog.liftsFinal)=true:=by kernel_rfl
theorem zwv:(Tryz.prog.make==some Rows.halfspaceUprightRow.make)=true:=by kernel_rfl
theorem zxs:(Rows.halfspaceUprightRow.plainKeys==Tryz.prog.plainKeys)=true:=by kernel_rfl
theorem zxt:Tryz.pinned.checked.prog.funcNamed Rows.halfspaceUprightRow.func=some 4:=by kernel_rfl
theorem zxx:joinedFacts zF 4 Tryz.f4 Rows.halfspaceUprightSpec Rows.halfspaceUprightRow=true:=by
 unfold joinedFacts
 simp only[Bool.and_eq_true]
 repeat' apply And.intro
 all_goals first|with_reducible exact zgh|with_reducible exact zuh|with_reducible exact zxu|with_reducible exact zpn|with_reducible exact zxv|with_reducible exact zxw|with_reducible exact zqn|with_reducible exact ztq|with_reducible exact zug|with_reducible exact zpi|with_reducible exact zwv|with_reducible exact zxs|kernel_rfl
theorem zmx:Rows.HalfspaceUprightSaid:=
 OpenClaim.holds_of_wide 4 Tryz.f4 rfl rfl rfl rfl rfl rfl rfl ⟨rfl,rfl,rfl,rfl,rfl⟩ rfl rfl rfl rfl rfl zxt Tryz.func4 zxx
  (of_decide_eq_true (by kernel_rfl)) (by unfold Func.isWrapper;first|(rw[if_pos (by decide+kernel)];kernel_rfl)|(rw[if_neg (by decide+kernel)];exact⟨rfl,rfl⟩))
  (λos started H enc _=>zj9 os started H enc)
end
end Go.Proofs.YtccijmidbdapaaaGreatDoor
