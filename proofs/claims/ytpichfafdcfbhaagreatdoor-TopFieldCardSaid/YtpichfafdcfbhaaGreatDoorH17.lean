/- surd.Make, of any terms. -/
import Derived.Test.YtpichfafdcfbhaaGreatDoorH16
import Derived.Deep.Onto
import Derived.Maps.AppendAt
import Derived.Lib.IndexAny
set_option maxRecDepth 100000
set_option maxHeartbeats 8000000
open Go renaming World → zA, Calls → zC
open Go.RowKit renaming Below → zB, intOf → zL
open Go.Lib renaming decDigits → zD
open Go.Proofs.Tryz renaming prog → zF
open Go.World renaming alloc_heap_new → zG
open Go.Joins renaming cell_of_block → zJ
open Go.RowKit.Below renaming refl → zM
open Nat renaming le_refl → zN, zero_le → zR
namespace Go.Proofs.YtpichfafdcfbhaaGreatDoor
open Go.RowKit Go.Shelf Lib Str Limb
attribute [local go_sem] Oper.semAt_some
def zin (l:List (List UInt8×List UInt8)):List (List UInt8×List UInt8):=l.filter λc=>!(c.1==[48])
def ziq (l:List (List UInt8×List UInt8)) (k:Nat):List (List UInt8×List UInt8):=zin (l.take k)
theorem z7n (l:List (List UInt8×List UInt8)):ziq l l.length=zin l:=by simp[ziq]
theorem z6s {l:List (List UInt8×List UInt8)} {k:Nat} {c:List UInt8×List UInt8} (h:l[k]? =some c):ziq l (k+1)=ziq l k++(if(c.1==[48])=true then[] else[c]):=by
 unfold ziq zin
 rw[List.take_add_one,h,List.filter_append]
 cases hc:(c.1==[48])<;>simp[hc]
theorem z8a (l:List (List UInt8×List UInt8)) (k:Nat):(ziq l k).length<=l.length:=by
 have h1:=List.length_filter_le (λc:List UInt8×List UInt8=>!(c.1==[48])) (l.take k)
 have h2:(l.take k).length<=l.length:=by simp;omega
 unfold ziq zin
 omega
theorem z43 (p:Option Addr) (cap n:Nat) (X Y:Nat->List UInt8) (L M:List (List UInt8×List UInt8)) (hn:n<=256) (hm:L.length<=5000) (ho:(zin L).length<=16)
 (CK:Hid (∀i,i<n->qK 58 #[St (X i)] (.int .i64 0)))
 (RK:Hid (∀i,i<n->qK 58 #[St (Y i)] (.int .i64 0)))
 (PF:Hid (∀i,i<n->∀W:zA,zC zF 74 #[St (Y i),.string ⟨#[45]⟩] W λe w'=>e=.returned (.bool false)/\w'=W))
 (w:zA) (HW:Hid (∀W,qL w W->Wd W))
 (HT:Hid (∀i,i<n->∃b off,p=some ⟨b,off,none⟩/\b<w.heap.size/\w.cell? ⟨b,off+i*2,none⟩=some (St (X i))/\w.cell? ⟨b,off+i*2+1,none⟩=some (St (Y i))))
 (VIS:Hid (∀u vg:zA,qL w u->qL u vg->vg.heap.size=u.heap.size+1->GatL u.heap.size [] vg->zC zF 107 #[.slice p n cap,.func (.func 108) #[.pointer (some ⟨u.heap.size,0,none⟩)] #[]] vg λe w'=>e=.returned (.int .i64 0)/\zB u.heap.size vg w'/\GatL u.heap.size L w'))
 (LG:Hid (∀(i:Nat) (c:List UInt8×List UInt8),L[i]? =some c->(c.1==[48])=false->∃a b:Int,(qK 109 #[St c.1] (.int .i64 a))/\(qK 109 #[St c.2] (.int .i64 b))/\decide (60<a)=false/\decide (40<b)=false))
 (SRT:Hid (∀(B:Nat) (W:zA) (q:Option Addr) (c:Nat),qL w W->w.heap.size<=B->B<=W.heap.size->W.ownsRow B 51 2 (.slice q (zin L).length c) (zin L).length (zbj (zin L))->zC zF 110 #[.slice q (zin L).length c,.func (.func 111) #[] #[]] W λe w'=>(∃u,e=.returned u)/\zB B W w'/\w'.ownsRow B 51 2 (.slice q (zin L).length c) (zin L).length (zbj M))):
 zC zF 56 #[.slice p n cap] w λe w'=>∃q c,e=.returned (.tuple #[.slice q (zin L).length c,.int .i64 0])/\zB w.heap.size w w'/\w'.ownsRow w.heap.size 51 2 (.slice q (zin L).length c) (zin L).length (zbj M):=by
 obtain⟨i0,hi,hz0,hz1,hz2⟩:=info_parts zsc
 have D0:=hid (zM w.heap.size w)
 go_enter Tryz.func56,Tryz.ntmps56
 go_wp2_with fail
 go_loopw [18] (λi wr=>∃(k:Nat),k<=n/\i=.int .i64 (k:Int)/\Hid (qL w wr))
  (λi _=>n-(zL i).toNat)
 case atStart=>exact⟨0,zR _,rfl,D0⟩
 case round=>
  obtain⟨k,hk,rfl,D1⟩:=hrel
  by_cases hlt:k<n
  ·obtain⟨b,off,rfl,hb,c0,c1⟩:=HT.out k hlt
   have C1:=hid (CK.out k hlt);have C2:=hid (RK.out k hlt);have C3:=hid (PF.out k hlt)
   generalize X k=x at*
   generalize Y k=y at*
   have t0:wr.cell? ⟨b,off+k*2,none⟩=some (St x):=by rw[D1.out.cell (p:=⟨b,off+k*2,none⟩) hb];exact c0
   have t1:wr.cell? ⟨b,off+k*2+1,none⟩=some (St y):=by rw[D1.out.cell (p:=⟨b,off+k*2+1,none⟩) hb];exact c1
   obtain⟨v1,hv⟩:∃v1,v1=wr.alloc (.cells #[St x,St y] 51):=⟨_,rfl⟩
   have a1:qL wr v1:=by rw[hv];exact(zM _ wr).alloc (zN _) _
   have A1:v1.heap[wr.heap.size]? =some (.cells #[St x,St y] 51 (0,0)):=by rw[hv];exact zG wr _
   have k0:v1.cell? ⟨wr.heap.size,0,none⟩=some (St x):=by rw[zJ A1];rfl
   rw[hv] at k0
   have HV1:=hid hv.symm
   have E1:=hid (D1.out.trans (a1.mono D1.out.size))
   have B1:=hid A1
   clear hv a1 A1 c0 c1 hb
   go_wp2_with fail
   rw[HV1.out]
   clear t0 t1 k0 HV1
   refine(C1.out v1 (HW.out _ E1.out)).mono ?_
   rintro e y1 ⟨rfl,hb1⟩
   have E2:=hid (E1.out.trans (hb1.mono E1.out.size));have B2:=hid (zac hb1 _ _ _ _ B1.out)
   clear hb1 E1 B1
   have k1:y1.cell? ⟨wr.heap.size,1,none⟩=some (St y):=by rw[zJ B2.out];rfl
   go_wp2_with fail
   refine(C2.out y1 (HW.out _ E2.out)).mono ?_
   rintro e y2 ⟨rfl,hb1⟩
   have E3:=hid (E2.out.trans (hb1.mono E2.out.size));have B3:=hid (zac hb1 _ _ _ _ B2.out)
   clear hb1 k1 E2 B2
   have k1:y2.cell? ⟨wr.heap.size,1,none⟩=some (St y):=by rw[zJ B3.out];rfl
   go_wp2_with fail
   refine(C3.out y2).mono ?_
   rintro e u1 ⟨rfl,hw1⟩
   have D2:Hid (qL w u1):=hid (by rw[hw1];exact E3.out)
   clear hw1 k1 E3 B3
   go_wp2_with fail
   go_roundw
   case rel=>exact⟨k+1,by omega,by go_num,D2⟩
   case measure=>simp[zL];omega
  ·have hkn:k=n:=by omega
   subst hkn
   go_wp2_with fail
   have N0:qL wr (wr.alloc (.cells #[.slice none 0 0] 147)):=(zM _ wr).alloc (zN _) _
   have NA:=zG wr (.cells #[.slice none 0 0] 147)
   have NZ:(wr.alloc (.cells #[.slice none 0 0] 147)).heap.size=wr.heap.size+1:=by simp
   generalize wr.alloc (.cells #[.slice none 0 0] 147)=vg at*
   have HV:=hid (VIS.out wr vg D1.out N0 NZ ⟨⟨_,by rw[zJ NA];rfl,World.ownsRow_nil _ _ _ _⟩,by rw[Go.Joins.unfrozen_of_block NA]⟩)
   have HN0:=hid N0
   clear NA NZ N0 VIS HT CK RK PF
   refine HV.out.mono ?_
   rintro e z ⟨rfl,hz,hg⟩
   have DZ:Hid (qL w z):=hid (D1.out.trans ((HN0.out.trans hz).mono D1.out.size))
   obtain⟨pc,cc,g0, -,r0⟩:=hg.row
   have HR:=hid r0
   obtain⟨m,hmm⟩:∃m,m=L.length:=⟨_,rfl⟩
   rw[<-hmm] at g0 hm
   have HM:=hid hmm
   have Z0:=hid (zM z.heap.size z)
   have ZO:=hid (show z.ownsRow z.heap.size 51 2 (.slice none 0 0) (ziq L 0).length (zbj (ziq L 0)) from World.ownsRow_nil _ _ _ _)
   clear hmm r0 hg hz HV
   go_wp2_with fail
   clear g0
   go_loopw [10,47] (λv i wr=>∃(k:Nat) (q:Option Addr) (c:Nat),k<=m/\i=.int .i64 (k:Int)/\v=.slice q (ziq L k).length c/\Hid (qL z wr)/\Hid (wr.ownsRow z.heap.size 51 2 (.slice q (ziq L k).length c) (ziq L k).length (zbj (ziq L k))))
    (λ_ i _=>m-(zL i).toNat)
   case atStart=>exact⟨0,none,0,zR _,rfl,rfl,Z0,ZO⟩
   case round=>
    obtain⟨k,q,c,hk,rfl,rfl,E0,O0⟩:=hrel
    by_cases hlt:k<m
    ·obtain⟨d,hd⟩:∃d,L[k]? =some d:=⟨_,List.getElem?_eq_getElem (by rw[<-HM.out];exact hlt)⟩
     obtain⟨g,rfl,c0,c1⟩:=(HR.out.keep (zac E0.out)) k d hd
     have hks:=z6s hd
     have hkl:=z8a L k
     rw[<-HM.out] at hkl
     have hL:=λh=>LG.out k d hd h
     obtain⟨x,y⟩:=d
     simp only at c0 c1 hks hL
     obtain⟨v1,hv⟩:∃v1,v1=wr.alloc (.cells #[St x,St y] 150):=⟨_,rfl⟩
     have a1:qL wr v1:=by rw[hv];exact(zM _ wr).alloc (zN _) _
     have A1:v1.heap[wr.heap.size]? =some (.cells #[St x,St y] 150 (0,0)):=by rw[hv];exact zG wr _
     have k0:v1.cell? ⟨wr.heap.size,0,none⟩=some (St x):=by rw[zJ A1];rfl
     rw[hv] at k0
     have HV1:=hid hv.symm
     have E1:=hid (E0.out.trans (a1.mono E0.out.size))
     have B1:=hid A1
     have O1:=hid (zcj (zac a1) O0.out)
     have HK:=hid hks;have HL:=hid hL
     clear hv a1 A1 O0 hd hks hL
     cases hx:(x==[48])
     ·obtain⟨a,b,La,Lb,la,lb⟩:=HL.out hx
      have HLa:=hid La;have HLb:=hid Lb
      clear La Lb
      go_wp2_with fail
      rw[HV1.out]
      clear c0 c1 k0 HV1
      refine(HLa.out v1 (HW.out _ (DZ.out.trans (E1.out.mono DZ.out.size)))).mono ?_
      rintro e y1 ⟨rfl,hb1⟩
      have E2:=hid (E1.out.trans (hb1.mono E1.out.size));have B2:=hid (zac hb1 _ _ _ _ B1.out)
      have O2:=hid (zcj (zac hb1) O1.out)
      clear hb1 E1 B1 O1
      have k1:y1.cell? ⟨wr.heap.size,1,none⟩=some (St y):=by rw[zJ B2.out];rfl
      go_wp2_with fail
      refine(HLb.out y1 (HW.out _ (DZ.out.trans (E2.out.mono DZ.out.size)))).mono ?_
      rintro e y2 ⟨rfl,hb1⟩
      have E3:=hid (E2.out.trans (hb1.mono E2.out.size));have B3:=hid (zac hb1 _ _ _ _ B2.out)
      have O3:=hid (zcj (zac hb1) O2.out)
      clear hb1 k1 E2 B2 O2
      have k0:y2.cell? ⟨wr.heap.size,0,none⟩=some (St x):=by rw[zJ B3.out];rfl
      have k1:y2.cell? ⟨wr.heap.size,1,none⟩=some (St y):=by rw[zJ B3.out];rfl
      go_wp2_with (at_builtin;refine wpList_append_own _ rfl _ _ 37 rfl z.heap.size 51 i0 (.agg #[St [],St []]) 2 32 Tryz.underlying37 hi hz0 hz1 hz2 rfl (by decide) _ _ _ rfl (O3.out.alloc _) ⟨y2.heap.size,0,none⟩ 1 1 [St x,St y] rfl rfl (zoq _ _ _ _) (zm4 _ _) (by unfold maxLen;omega) (by omega) (by have:=E3.out.size;simp;omega) (λv' w' hown' hgrow _=>?_))
      obtain⟨g',c',rfl, -, -⟩:=zye hown' (by omega)
      have F1:Hid (qL z w'):=hid ((E3.out.alloc E3.out.size _).grown hgrow (by have:=E3.out.size;simp;omega) (λq e=>(O3.out.lt q e).1))
      have he:ziq L (k+1)=ziq L k++[(x,y)]:=by rw[HK.out,hx];rfl
      have hel:(ziq L (k+1)).length=(ziq L k).length+1:=by rw[he];simp
      have G1:Hid (w'.ownsRow z.heap.size 51 2 (.slice (some ⟨g',0,none⟩) (ziq L (k+1)).length c') (ziq L (k+1)).length (zbj (ziq L (k+1)))):=hid (by rw[hel,he,zjb];exact hown')
      have HE:=hid hel
      clear hgrow hown' k0 k1 E3 O3 B3 he hel HK HL
      go_roundw
      case rel=>exact⟨k+1,some ⟨g',0,none⟩,c',by omega,by go_num,by rw[HE.out],F1,G1⟩
      case measure=>simp[zL];omega
     ·have he:ziq L (k+1)=ziq L k:=by rw[HK.out,hx];simp
      have HE:=hid he
      clear he HK HL
      go_wp2_with fail
      rw[HV1.out]
      clear c0 c1 k0 HV1
      go_roundw
      case rel=>exact⟨k+1,q,c,by omega,by go_num,by rw[HE.out],E1,by rw[HE.out];exact O1⟩
      case measure=>simp[zL];omega
    ·have hkm:k=m:=by omega
     subst hkm
     have he:ziq L k=zin L:=by rw[HM.out,z7n]
     rw[he] at O0⊢
     have DE:=hid (DZ.out.trans (E0.out.mono DZ.out.size))
     have hs:=SRT.out z.heap.size wr q c DE.out DZ.out.size E0.out.size O0.out
     have HS:=hid hs
     clear hs he SRT LG
     go_wp2_with fail
     refine HS.out.mono ?_
     rintro e y5 ⟨⟨u,rfl⟩,h1,h2⟩
     have FE:=hid (⟨DE.out.trans (h1.mono DZ.out.size),h2.mono DZ.out.size⟩:qL w y5/\y5.ownsRow w.heap.size 51 2 (.slice q (zin L).length c) (zin L).length (zbj M))
     clear h1 h2
     go_wp2_with fail
     go_ret2
     exact⟨q,c,rfl,FE.out.1,FE.out.2⟩
theorem z6g (v1 v2:Value) (C:zA->Prop) (hC:∀W W',C W->qL W W'->C W')
 (K1:Hid (∀W:zA,C W->qJ 53 #[v1] W (.int .i64 0)))
 (K2:Hid (∀W:zA,C W->qJ 53 #[v2] W (.int .i64 0)))
 (w:zA) (h:C w):
 qJ 55 #[v1,v2] w (.bool true):=by
 have HC:=hid hC;have H:=hid h
 clear hC h
 go_enter Tryz.func55,Tryz.ntmps55
 go_wp2_with fail
 refine(K1.out w H.out).mono ?_
 rintro e w1 ⟨rfl,hb1⟩
 have B1:=hid hb1;clear hb1
 go_wp2_with fail
 refine(K2.out w1 (HC.out _ _ H.out B1.out)).mono ?_
 rintro e w2 ⟨rfl,hb2⟩
 have B2:=hid (B1.out.trans (hb2.mono B1.out.size));clear hb2
 go_wp2_with fail
 go_ret
 exact⟨rfl,B2.out⟩
def zo8 (C D:Nat->Nat->List UInt8) (i:Nat):Nat->List (List UInt8×List UInt8)
 |0=>[]
 |j+1=>zo8 C D i j++[(C i j,D i j)]
def zl0 (C D:Nat->Nat->List UInt8) (m:Nat):Nat->List (List UInt8×List UInt8)
 |0=>[]
 |i+1=>zl0 C D m i++zo8 C D i m
theorem zpm (C D:Nat->Nat->List UInt8) (i:Nat):∀j,(zo8 C D i j).length=j
 |0=>rfl
 |j+1=>by simp[zo8,zpm C D i j]
theorem zuf (C D:Nat->Nat->List UInt8) (m:Nat):∀i,(zl0 C D m i).length=i*m
 |0=>by simp[zl0]
 |i+1=>by simp[zl0,zuf C D m i,zpm,Nat.succ_mul]
def ze2 (C D:Nat->Nat->List UInt8) (m i j:Nat):List (List UInt8×List UInt8):=zl0 C D m i++zo8 C D i j
theorem z6t (C D:Nat->Nat->List UInt8) (m i j:Nat):(ze2 C D m i j).length=i*m+j:=by simp[ze2,zuf,zpm]
theorem z5y (C D:Nat->Nat->List UInt8) (m i j:Nat):ze2 C D m i (j+1)=ze2 C D m i j++[(C i j,D i j)]:=by simp[ze2,zo8]
theorem z6u (C D:Nat->Nat->List UInt8) (m i:Nat):ze2 C D m i m=ze2 C D m (i+1) 0:=by simp[ze2,zl0,zo8]
theorem z54 (C D:Nat->Nat->List UInt8) (m i:Nat):ze2 C D m i 0=zl0 C D m i:=by simp[ze2,zo8]
theorem z5b (C D:Nat->Nat->List UInt8) {n m i j:Nat} (hi:i<n) (hj:j<=m) (hn:n<=16) (hm:m<=16):(ze2 C D m i j).length<=256:=by
 rw[z6t]
 have:=Nat.mul_le_mul (show i+1<=16 by omega) hm
 rw[Nat.succ_mul] at this
 omega
theorem z55 (p1 p2:Option Addr) (cap1 cap2 n m K:Nat) (X1 Y1 X2 Y2:Nat->List UInt8) (C D:Nat->Nat->List UInt8) (M:List (List UInt8×List UInt8)) (hn:n<=16) (hm:m<=16)
 (w:zA) (HW:Hid (∀W,qL w W->Wd W))
 (BT:Hid (qJ 55 #[.slice p1 n cap1,.slice p2 m cap2] w (.bool true)))
 (CC:Hid (∀i j,i<n->j<m->qK 8 #[St (X1 i),St (X2 j)] (.tuple #[St (C i j),.int .i64 0])))
 (DD:Hid (∀i j,i<n->j<m->qK 8 #[St (Y1 i),St (Y2 j)] (.tuple #[St (D i j),.int .i64 0])))
 (T1:Hid (∀i,i<n->∃b off,p1=some ⟨b,off,none⟩/\b<w.heap.size/\w.cell? ⟨b,off+i*2,none⟩=some (St (X1 i))/\w.cell? ⟨b,off+i*2+1,none⟩=some (St (Y1 i))))
 (T2:Hid (∀i,i<m->∃b off,p2=some ⟨b,off,none⟩/\b<w.heap.size/\w.cell? ⟨b,off+i*2,none⟩=some (St (X2 i))/\w.cell? ⟨b,off+i*2+1,none⟩=some (St (Y2 i))))
 (MK:Hid (∀(W:zA) (q:Option Addr) (c:Nat),qL w W->W.ownsRow w.heap.size 51 2 (.slice q (zl0 C D m n).length c) (zl0 C D m n).length (zbj (zl0 C D m n))->zC zF 56 #[.slice q (zl0 C D m n).length c] W λe w'=>∃q' c',e=.returned (.tuple #[.slice q' K c',.int .i64 0])/\zB W.heap.size W w'/\w'.ownsRow W.heap.size 51 2 (.slice q' K c') K (zbj M))):
 zC zF 16 #[.slice p1 n cap1,.slice p2 m cap2] w λe w'=>∃q c,e=.returned (.tuple #[.slice q K c,.int .i64 0])/\zB w.heap.size w w'/\w'.ownsRow w.heap.size 51 2 (.slice q K c) K (zbj M):=by
 obtain⟨i0,hi,hz0,hz1,hz2⟩:=info_parts zsc
 go_enter Tryz.func16,Tryz.ntmps16
 go_wp2_with fail
 refine BT.out.mono ?_
 rintro e w1 ⟨rfl,hb1⟩
 have D0:=hid hb1
 have O0:=hid (show w1.ownsRow w.heap.size 51 2 (.slice none 0 0) (ze2 C D m 0 0).length (zbj (ze2 C D m 0 0)) from World.ownsRow_nil _ _ _ _)
 clear hb1 BT
 go_wp2_with fail
 go_loopw [6,20] (λv i wr=>∃(k:Nat) (q:Option Addr) (c:Nat),k<=n/\i=.int .i64 (k:Int)/\v=.slice q (ze2 C D m k 0).length c/\Hid (qL w wr)/\Hid (wr.ownsRow w.heap.size 51 2 (.slice q (ze2 C D m k 0).length c) (ze2 C D m k 0).length (zbj (ze2 C D m k 0))))
  (λ_ i _=>n-(zL i).toNat)
 case atStart=>exact⟨0,none,0,zR _,rfl,rfl,D0,O0⟩
 case round=>
  clear D0 O0
  obtain⟨k,q,c,hk,rfl,rfl,D1,O1⟩:=hrel
  by_cases hlt:k<n
  ·obtain⟨b,off,rfl,hb,c0,c1⟩:=T1.out k hlt
   have t0:wr.cell? ⟨b,off+k*2,none⟩=some (St (X1 k)):=by rw[D1.out.cell (p:=⟨b,off+k*2,none⟩) hb];exact c0
   have t1:wr.cell? ⟨b,off+k*2+1,none⟩=some (St (Y1 k)):=by rw[D1.out.cell (p:=⟨b,off+k*2+1,none⟩) hb];exact c1
   have hCk:=λj=>CC.out k j hlt
   have hDk:=λj=>DD.out k j hlt
   have HCk:=hid hCk;have HDk:=hid hDk
   clear hCk hDk
   generalize X1 k=x at*
   generalize Y1 k=y at*
   obtain⟨v1,hv⟩:∃v1,v1=wr.alloc (.cells #[St x,St y] 51):=⟨_,rfl⟩
   have a1:qL wr v1:=by rw[hv];exact(zM _ wr).alloc (zN _) _
   have A1:v1.heap[wr.heap.size]? =some (.cells #[St x,St y] 51 (0,0)):=by rw[hv];exact zG wr _
   have HV1:=hid hv.symm
   have E1:=hid (D1.out.trans (a1.mono D1.out.size))
   have B1:=hid A1
   have O2:=hid (zcj (zac a1) O1.out)
   have NB:Hid (∀b,(Value.slice q (ze2 C D m k 0).length c).ownBlock=some b->b<wr.heap.size):=hid (λb e=>(O1.out.lt b e).2)
   obtain⟨T,hT⟩:∃T,T=wr.heap.size:=⟨_,rfl⟩
   have HTs:=hid (show w.heap.size<=T by rw[hT];exact D1.out.size)
   rw[<-hT] at B1
   have HT:=hid hT
   clear hv a1 A1 c0 c1 hb O1 hT
   go_wp2_with fail
   rw[HV1.out]
   clear t0 t1 HV1
   obtain⟨wo,hwo⟩:∃wo:zA,wo=wr:=⟨_,rfl⟩
   have HWO:=hid hwo;clear hwo
   rw[<-HT.out]
   have NB0:Hid (some T≠(Value.slice q (ze2 C D m k 0).length c).ownBlock):=hid (λe=>by
    have:=(O2.out.lt T e.symm).2
    have:=NB.out T e.symm
    rw[HT.out] at this
    omega)
   clear NB
   go_loopw [6,26] (λv i wr=>∃(j:Nat) (q:Option Addr) (c:Nat),j<=m/\i=.int .i64 (j:Int)/\v=.slice q (ze2 C D m k j).length c/\Hid (qL w wr)/\Hid (wr.ownsRow w.heap.size 51 2 (.slice q (ze2 C D m k j).length c) (ze2 C D m k j).length (zbj (ze2 C D m k j)))/\Hid (wr.heap[T]? =some (.cells #[St x,St y] 51 (0,0)))/\Hid (some T≠(Value.slice q (ze2 C D m k j).length c).ownBlock))
    (λ_ i _=>m-(zL i).toNat)
   case atStart=>exact⟨0,q,c,zR _,rfl,rfl,E1,O2,B1,NB0⟩
   case round=>
    clear E1 O2 B1 NB0
    obtain⟨j,q,c,hj,rfl,rfl,E2,O3,B2,NB1⟩:=hrel
    by_cases hjm:j<m
    ·obtain⟨b2,off2,rfl,hb,c0,c1⟩:=T2.out j hjm
     have t2:wr.cell? ⟨b2,off2+j*2,none⟩=some (St (X2 j)):=by rw[E2.out.cell (p:=⟨b2,off2+j*2,none⟩) hb];exact c0
     have t3:wr.cell? ⟨b2,off2+j*2+1,none⟩=some (St (Y2 j)):=by rw[E2.out.cell (p:=⟨b2,off2+j*2+1,none⟩) hb];exact c1
     have M1:=hid (HCk.out j hjm);have M2:=hid (HDk.out j hjm)
     have hs:=z5y C D m k j
     have hsm:=z5b C D hlt hj hn hm
     have HS:=hid hs
     generalize X2 j=x2 at*
     generalize Y2 j=y2 at*
     generalize C k j=z at*
     generalize D k j=zr at*
     generalize ze2 C D m k j=acc at*
     obtain⟨v2,hv⟩:∃v2,v2=wr.alloc (.cells #[St x2,St y2] 51):=⟨_,rfl⟩
     have a1:qL wr v2:=by rw[hv];exact(zM _ wr).alloc (zN _) _
     have A1:v2.heap[wr.heap.size]? =some (.cells #[St x2,St y2] 51 (0,0)):=by rw[hv];exact zG wr _
     have A2:=zac a1 _ _ _ _ B2.out
     have k0:v2.cell? ⟨T,0,none⟩=some (St x):=by rw[zJ A2];rfl
     have k1:v2.cell? ⟨wr.heap.size,0,none⟩=some (St x2):=by rw[zJ A1];rfl
     rw[hv] at k0 k1
     have HV1:=hid hv.symm
     have E3:=hid (E2.out.trans (a1.mono E2.out.size))
     have O4:=hid (zcj (zac a1) O3.out)
     have P1:=hid A1;have P2:=hid A2
     clear hv a1 A1 A2 c0 c1 hb O3 E2 B2 hs
     go_wp2_with fail
     rw[HV1.out]
     clear t2 t3 k0 k1 HV1
     refine(M1.out v2 (HW.out _ E3.out)).mono ?_
     rintro e y1 ⟨rfl,hb1⟩
     have E4:=hid (E3.out.trans (hb1.mono E3.out.size))
     have O5:=hid (zcj (zac hb1) O4.out)
     have P3:=hid (zac hb1 _ _ _ _ P1.out);have P4:=hid (zac hb1 _ _ _ _ P2.out)
     clear hb1 E3 O4 P1 P2 M1
     have k0:y1.cell? ⟨T,1,none⟩=some (St y):=by rw[zJ P4.out];rfl
     have k1:y1.cell? ⟨wr.heap.size,1,none⟩=some (St y2):=by rw[zJ P3.out];rfl
     go_wp2_with fail
     refine(M2.out y1 (HW.out _ E4.out)).mono ?_
     rintro e u1 ⟨rfl,hb1⟩
     have E5:=hid (E4.out.trans (hb1.mono E4.out.size))
     have O6:=hid (zcj (zac hb1) O5.out)
     have P5:=hid (zac hb1 _ _ _ _ P4.out)
     clear hb1 E4 O5 P3 P4 M2 k0 k1
     go_wp2_with (at_builtin;refine wpList_append_own_at _ rfl _ _ 36 rfl w.heap.size 51 i0 (.agg #[St [],St []]) 2 32 Tryz.underlying36 hi hz0 hz1 hz2 rfl (by decide) _ _ _ rfl (O6.out.alloc _) ⟨u1.heap.size,0,none⟩ 1 1 [St z,St zr] rfl rfl (zoq _ _ _ _) (zm4 _ _) (by unfold maxLen;omega) (by omega) (by have:=E5.out.size;simp;omega) (λv' w' hown' hgrow _ hat=>?_))
     obtain⟨g',c',rfl, -, -⟩:=zye hown' (by omega)
     have F1:Hid (qL w w'):=hid ((E5.out.alloc E5.out.size _).grown hgrow (by have:=E5.out.size;simp;omega) (λq e=>(O6.out.lt q e).1))
     have hTu:T<u1.heap.size:=(Array.getElem?_eq_some_iff.1 P5.out).1
     have P6:w'.heap[T]? =some (.cells #[St x,St y] 51 (0,0)):=by
      rw[hgrow.block T (by simp;omega) NB1.out]
      exact zac (show qL u1 (u1.alloc _) from(zM _ u1).alloc (zN _) _) _ _ _ _ P5.out
     have NB2:some T≠(Value.slice (some ⟨g',0,none⟩) (acc.length+1) c').ownBlock:=λe=>by
      rcases hat with h|h
      ·exact NB1.out (e.trans h)
      ·have:=e.trans h
       simp at this
       omega
     have hel:(ze2 C D m k (j+1)).length=acc.length+1:=by rw[HS.out];simp
     have G1:Hid (w'.ownsRow w.heap.size 51 2 (.slice (some ⟨g',0,none⟩) (ze2 C D m k (j+1)).length c') (ze2 C D m k (j+1)).length (zbj (ze2 C D m k (j+1)))):=hid (by rw[hel,HS.out,zjb];exact hown')
     have HE:=hid hel
     have G2:=hid P6;have G3:Hid (some T≠(Value.slice (some ⟨g',0,none⟩) (ze2 C D m k (j+1)).length c').ownBlock):=hid (by rw[hel];exact NB2)
     clear hgrow hown' hat hTu P6 NB2 hel E5 O6 P5 NB1
     go_roundw
     case rel=>exact⟨j+1,some ⟨g',0,none⟩,c',by omega,by go_num,by rw[HE.out],F1,G1,G2,G3⟩
     case measure=>simp[zL];omega
    ·have hjm':j=m:=by omega
     subst hjm'
     have he:=z6u C D j k
     have HE:=hid he
     clear he
     go_wp2_with fail
     go_roundw
     case rel=>exact⟨k+1,q,c,by omega,by go_num,by rw[HE.out],E2,by rw[<-HE.out];exact O3⟩
     case measure=>simp[zL];omega
  ·have hkn:k=n:=by omega
   subst hkn
   have he:=z54 C D m k
   rw[he] at O1⊢
   have HM:=hid (MK.out wr q c D1.out O1.out)
   clear he MK
   go_wp2_with fail
   refine HM.out.mono ?_
   rintro e y5 ⟨q',c',rfl,h1,h2⟩
   have FE:=hid (⟨D1.out.trans (h1.mono D1.out.size),h2.mono D1.out.size⟩:qL w y5/\y5.ownsRow w.heap.size 51 2 (.slice q' K c') K (zbj M))
   clear h1 h2 HM
   go_wp2_with fail
   go_ret2
   exact⟨q',c',rfl,FE.out.1,FE.out.2⟩
structure PlsS (w:zA) (x xr y yr:List UInt8) (W:zA):Prop where
 bel:qL w W
 h0:W.heap[w.heap.size]? =some (.cells #[St x,St xr] 150 (0,0))
 h1:W.heap[w.heap.size+1]? =some (.cells #[St y,St yr] 150 (0,0))
 h2:W.heap[w.heap.size+1+1]? =some (.cells #[St [],St []] 150 (0,0))
theorem PlsS.next {w:zA} {x xr y yr:List UInt8} {W W':zA} (h:PlsS w x xr y yr W) (hb:qL W W'):PlsS w x xr y yr W':=
 have hc:=zac hb
 ⟨h.bel.trans (hb.mono h.bel.size),hc _ _ _ _ h.h0,hc _ _ _ _ h.h1,hc _ _ _ _ h.h2⟩
theorem PlsS.cells {w:zA} {x xr y yr:List UInt8} {W:zA} (h:PlsS w x xr y yr W):
 W.cell? ⟨w.heap.size,0,none⟩=some (St x)/\W.cell? ⟨w.heap.size,1,none⟩=some (St xr)/\W.cell? ⟨w.heap.size+1,0,none⟩=some (St y)/\W.cell? ⟨w.heap.size+1,1,none⟩=some (St yr)/\
 W.cell? ⟨w.heap.size+1+1,0,none⟩=some (St [])/\W.cell? ⟨w.heap.size+1+1,1,none⟩=some (St [])/\W.frozen? ⟨w.heap.size+1+1,0,none⟩=false/\W.frozen? ⟨w.heap.size+1+1,1,none⟩=false:=by
 refine⟨?_,?_,?_,?_,?_,?_,Go.Joins.unfrozen_of_block h.h2 0,Go.Joins.unfrozen_of_block h.h2 1⟩
 ·rw[zJ h.h0];rfl
 ·rw[zJ h.h0];rfl
 ·rw[zJ h.h1];rfl
 ·rw[zJ h.h1];rfl
 ·rw[zJ h.h2];rfl
 ·rw[zJ h.h2];rfl
theorem PlsS.start (w:zA) (x xr y yr:List UInt8):PlsS w x xr y yr (((w.alloc (.cells #[St x,St xr] 150)).alloc (.cells #[St y,St yr] 150)).alloc (.cells #[St [],St []] 150)):=by
 refine⟨(((zM _ w).alloc (zN _) _).alloc (by simp) _).alloc (by simp;omega) _,?_,?_,?_⟩
 ·exact(Below.heap_alloc _ _ _ (by simp;omega)).trans ((Below.heap_alloc _ _ _ (by simp)).trans (zG w _))
 ·have:=zG (w.alloc (.cells #[St x,St xr] 150)) (.cells #[St y,St yr] 150)
  rw[World.size_alloc] at this
  exact(Below.heap_alloc _ _ _ (by simp)).trans this
 ·have:=zG ((w.alloc (.cells #[St x,St xr] 150)).alloc (.cells #[St y,St yr] 150)) (.cells #[St [],St []] 150)
  simp only[World.size_alloc] at this
  exact this
theorem zvt (x xr y yr k m z:List UInt8) (is:Bool)
 (R:Hid (qK 105 #[St yr,St xr] (.tuple #[St k,.bool is,.int .i64 0])))
 (M:Hid (qK 8 #[St y,St k] (.tuple #[St m,.int .i64 0])))
 (A:Hid (qK 7 #[St x,St m] (.tuple #[St z,.int .i64 0])))
 (w:zA) (HW:Hid (Wd w)):
 qJ 151 #[.agg #[St x,St xr],.agg #[St y,St yr]] w (.tuple #[.agg #[St z,St xr],.int .i64 0]):=by
 have hS:=PlsS.start w x xr y yr
 obtain⟨c0,c1,c2,c3,c4,c5,f0,f1⟩:=hS.cells
 obtain⟨W1,hW1⟩:∃W1,W1=((w.alloc (.cells #[St x,St xr] 150)).alloc (.cells #[St y,St yr] 150)).alloc (.cells #[St [],St []] 150):=⟨_,rfl⟩
 rw[<-hW1] at hS
 have HS:=hid hS;have HW1:=hid hW1;clear hS hW1
 go_enter Tryz.func151,Tryz.ntmps151
 go_wp2_with fail
 have h9:=HW1.out
 rw[<-h9]
 clear h9 c0 c1 c2 c3 c4 c5 f0 f1
 refine(R.out W1 (HW.out.below HS.out.bel)).mono ?_
 rintro e w2 ⟨rfl,hb2⟩
 have H2:=hid (HS.out.next hb2);clear hb2 HS HW1
 obtain⟨c0,c1,c2,c3,c4,c5,f0,f1⟩:=H2.out.cells
 go_wp2_with fail
 refine(M.out w2 (HW.out.below H2.out.bel)).mono ?_
 rintro e w3 ⟨rfl,hb3⟩
 have H3:=hid (H2.out.next hb3);clear hb3 H2 c0 c1 c2 c3 c4 c5 f0 f1
 obtain⟨c0,c1,c2,c3,c4,c5,f0,f1⟩:=H3.out.cells
 go_wp2_with fail
 refine(A.out w3 (HW.out.below H3.out.bel)).mono ?_
 rintro e w4 ⟨rfl,hb4⟩
 have H4:=hid (H3.out.next hb4);clear hb4 H3 c0 c1 c2 c3 c4 c5 f0 f1
 obtain⟨c0,c1,c2,c3,c4,c5,f0,f1⟩:=H4.out.cells
 have hB4:=H4.out.bel
 go_wp2_with fail
 refine bodyPost_ret (v:=.tuple #[.agg #[St z,St xr],.int .i64 0]) (by simp[results,Tryz.results151,go_sem,c4,c5]) rfl ⟨rfl,?_⟩
 repeat(first|exact hB4|refine Below.setCell ?_ (by simp;omega) _)
theorem z7o (g c:Nat) (x:List UInt8) (w:zA) (c0:w.cell? ⟨g,0,none⟩=some (St x)) (c1:w.cell? ⟨g,1,none⟩=some (.string ⟨#[49]⟩))
 (K:Hid (qJ 53 #[.slice (some ⟨g,0,none⟩) 1 c] w (.int .i64 0))):
 qJ 24 #[.slice (some ⟨g,0,none⟩) 1 c] w (.tuple #[St x,.bool true,.int .i64 0]):=by
 go_enter Tryz.func24,Tryz.ntmps24
 go_wp2_with fail
 refine K.out.mono ?_
 rintro e w1 ⟨rfl,hb1⟩
 have B1:=hid hb1
 have d0:=zai hb1 c0
 have d1:=zai hb1 c1
 clear hb1 c0 c1
 go_wp2_with fail
 go_ret3
 exact⟨rfl,B1.out⟩
theorem nm0:numS 0=[48]:=by have:=zha 0;rw[show((0:Int):Rat)=0 from rfl] at this;rw[this];decide+kernel
theorem nm2:numS 2=[50]:=by have:=zha 2;rw[show((2:Int):Rat)=2 from rfl] at this;rw[this];decide+kernel
theorem nm4:numS 4=[52]:=by have:=zha 4;rw[show((4:Int):Rat)=4 from rfl] at this;rw[this];decide+kernel
theorem nm_1:numS (-1)=[45,49]:=by have:=zha (-1);rw[show((-1:Int):Rat)= -1 from rfl] at this;rw[this];decide+kernel
theorem zb7:sz 0 1/\sz 1 1/\sz 2 1/\sz 4 1/\sz (-1) 1/\sz (-2) 1:=⟨⟨by decide,by decide⟩,⟨by decide,by decide⟩,⟨by decide,by decide⟩,⟨by decide,by decide⟩,⟨by decide,by decide⟩,⟨by decide,by decide⟩⟩
theorem zm5 {q:Rat} (h:sz q 1):okQ q:=zd0 (by omega) (by omega) h
theorem zlk (a b c:Rat) (ha:sz a 1) (hb:sz b 1) (h:a*b=c) (W:zA) (hW:Wd W):qJ 8 #[St (numS a),St (numS b)] W (.tuple #[St (numS c),.int .i64 0]):=by
 rw[<-h];exact zjf a b 1 1 (by omega) (by omega) (by omega) ha hb W hW
theorem z7p (a b c:Rat) (ha:sz a 1) (hb:sz b 1) (h:a+b=c) (W:zA) (hW:Wd W):qJ 7 #[St (numS a),St (numS b)] W (.tuple #[St (numS c),.int .i64 0]):=by
 rw[<-h];exact zje a b 1 1 (by omega) (by omega) (by omega) ha hb W hW
theorem z7q (a:Rat) (ha:sz a 1) (W:zA) (hW:Wd W):qJ 10 #[St (numS a),St (numS a)] W (.tuple #[.int .i64 0,.int .i64 0]):=by
 have:=zgq a a 1 1 (by omega) (by omega) (by omega) ha ha W hW
 rwa [show Geo.cmpR a a=0 by simp[Geo.cmpR]] at this
theorem zjn (q:Rat) (hq:sz q 1) (h:max (digs q.num:Int) (digs (q.den:Int):Nat)=1) (W:zA) (hW:Wd W):qJ 109 #[St (numS q)] W (.int .i64 1):=by
 have:=znp q (zm5 hq) W hW
 rwa [h] at this
theorem zj9:max (digs (1:Rat).num:Int) (digs ((1:Rat).den:Int):Nat)=1/\max (digs (2:Rat).num:Int) (digs ((2:Rat).den:Int):Nat)=1/\max (digs (-1:Rat).num:Int) (digs ((-1:Rat).den:Int):Nat)=1:=by decide+kernel
theorem zxa (W:zA) (hW:Wd W):qJ 105 #[St (numS 2),St (numS 1)] W (.tuple #[.string ⟨#[]⟩,.bool false,.int .i64 0]):=by
 have:=zvz 2 1 (by decide) (by decide) (zb7.2.2.1.mono (by omega)) (zb7.2.1.mono (by omega)) 1 1 (by decide+kernel) (by decide+kernel) W hW
 rwa [show(decide (1*1=((2:Rat)/1).num.natAbs)&&decide (1*1=((2:Rat)/1).den))=false by decide+kernel] at this
theorem zrp (a:Rat) (ha:0<a) (sa:sz a 1) (W:zA) (hW:Wd W):qJ 105 #[St (numS a),St (numS a)] W (.tuple #[St (numS 1),.bool true,.int .i64 0]):=by
 have e:a/a=1:=by rw[Rat.div_def];exact Rat.mul_inv_cancel a (by grind)
 have:=zvz a a (by grind) ha (sa.mono (by omega)) (sa.mono (by omega)) 1 1 (by rw[e];decide+kernel) (by rw[e];decide+kernel) W hW
 rw[e,show(decide (1*1=(1:Rat).num.natAbs)&&decide (1*1=(1:Rat).den))=true by decide+kernel,if_pos rfl,show((1:Nat):Rat)/((1:Nat):Rat)=1 by decide+kernel] at this
 exact this
theorem zqk (r c n:Nat) (hr:0<r) (h10:r<10) (h:zn7 r=(c,n)) (W:zA) (hW:Wd W) (hP:Pw W):qJ 145 #[St (numS (r:Rat))] W (.tuple #[St (numS (c:Rat)),St (numS (n:Rat)),.int .i64 0]):=by
 have:=z4c r hr (by rw[zae h10];simp) W hW hP
 rw[h] at this
 rw[zhe,zhe,zhe]
 exact this
def gat0:List (List UInt8×List UInt8):=[]
def gat1:List (List UInt8×List UInt8):=[(numS 1,numS 1)]
def gat2:List (List UInt8×List UInt8):=[(numS 1,numS 1),(numS (-1),numS 2)]
def gat3:List (List UInt8×List UInt8):=[(numS 1,numS 1),(numS 0,numS 2)]
def gat4:List (List UInt8×List UInt8):=[(numS (-1),numS 1),(numS 0,numS 2)]
theorem z81 (gb:Nat) (W:zA) (hW:Wd W) (h:GatL gb gat0 W):zC zF 108 #[.pointer (some ⟨gb,0,none⟩),.agg #[St (numS 1),St (numS 1)]] W λe w'=>e=.returned (.int .i64 0)/\zB gb W w'/\GatL gb gat1 w':=
 zot gb gat0 _ _ (by decide) (hid λi c hc=>by simp[gat0] at hc) W (hid hW) (hid h)
theorem z9b (gb:Nat) (W:zA) (hW:Wd W) (h:GatL gb gat1 W):zC zF 108 #[.pointer (some ⟨gb,0,none⟩),.agg #[St (numS (-1)),St (numS 2)]] W λe w'=>e=.returned (.int .i64 0)/\zB gb W w'/\GatL gb gat2 w':=
 zot gb gat1 _ _ (by simp[gat1]) (hid λi c hc=>⟨_,by
  match i,hc with
  |0,hc=>simp[gat1] at hc;subst hc;exact λW hW=>zxa W hW
  |_+1,hc=>simp[gat1] at hc⟩) W (hid hW) (hid h)
theorem z9c (gb:Nat) (W:zA) (hW:Wd W) (h:GatL gb gat2 W):zC zF 108 #[.pointer (some ⟨gb,0,none⟩),.agg #[St (numS 1),St (numS 2)]] W λe w'=>e=.returned (.int .i64 0)/\zB gb W w'/\GatL gb gat3 w':=
 zyk gb gat2 _ _ (numS (-1)) (numS 2) (numS 0) (numS 2) _ 1 0 (by simp[gat2]) rfl (by decide)
  (hid λi c hi hc=>⟨_,by
    match i,hi,hc with
    |0,_,hc=>simp[gat2] at hc;subst hc;exact λW hW=>zxa W hW⟩)
  (hid λW hW=>zrp 2 (by decide) zb7.2.2.1 W hW) (hid λW hW=>z7q 2 zb7.2.2.1 W hW)
  (hid λW hW=>zvt _ _ _ _ (numS 1) (numS 1) (numS 0) true (hid λW hW=>zrp 2 (by decide) zb7.2.2.1 W hW) (hid λW hW=>zlk 1 1 1 zb7.2.1 zb7.2.1 (by decide+kernel) W hW) (hid λW hW=>z7p (-1) 1 0 zb7.2.2.2.2.1 zb7.2.1 (by decide+kernel) W hW) W (hid hW)) W (hid hW) (hid h)
theorem z9g (gb:Nat) (W:zA) (hW:Wd W) (h:GatL gb gat3 W):zC zF 108 #[.pointer (some ⟨gb,0,none⟩),.agg #[St (numS (-2)),St (numS 1)]] W λe w'=>e=.returned (.int .i64 0)/\zB gb W w'/\GatL gb gat4 w':=
 zyk gb gat3 _ _ (numS 1) (numS 1) (numS (-1)) (numS 1) _ 0 0 (by simp[gat3]) rfl (by decide)
  (hid λi c hi hc=>by omega)
  (hid λW hW=>zrp 1 (by decide) zb7.2.1 W hW) (hid λW hW=>z7q 1 zb7.2.1 W hW)
  (hid λW hW=>zvt _ _ _ _ (numS 1) (numS (-2)) (numS (-1)) true (hid λW hW=>zrp 1 (by decide) zb7.2.1 W hW) (hid λW hW=>zlk (-2) 1 (-2) zb7.2.2.2.2.2 zb7.2.1 (by decide+kernel) W hW) (hid λW hW=>z7p 1 (-2) (-1) zb7.2.1 zb7.2.2.2.2.2 (by decide+kernel) W hW) W (hid hW)) W (hid hW) (hid h)
def exX (i:Nat):List UInt8:=if i%2=0 then numS 1 else numS (-1)
def exY (i:Nat):List UInt8:=if i=0 then numS 1 else if i=3 then numS 4 else numS 2
def exS (gb:Nat) (i:Nat):zA->Prop:=GatL gb (match i with|0=>gat0|1=>gat1|2=>gat2|3=>gat3|_=>gat4)
theorem z8u (gb:Nat):∀i,i<4->∃one k n m ln,VisC gb (exX i) (exY i) (exS gb i) (exS gb (i+1)) one k n m ln
 |0,_=>⟨true,numS 1,numS 1,numS 1,1,by show(numS 1==[48])=false;rw[zfc];rfl,by show(numS 1==[48])=false;rw[zfc];rfl,by show(numS 1==[49])=true;rw[zfc];rfl,λ_=>⟨zfc,rfl⟩,λh=>(by cases h),λW hW=>zjn 1 zb7.2.1 zj9.1 W hW,by decide,λW hW=>zlk 1 1 1 zb7.2.1 zb7.2.1 (by decide+kernel) W hW,λW W' h hb=>GatL.keep h (zac hb),λW hW h=>z81 gb W hW h⟩
 |1,_=>⟨false,numS 1,numS 2,numS (-1),1,by show(numS (-1)==[48])=false;rw[nm_1];rfl,by show(numS 2==[48])=false;rw[nm2];rfl,by show(numS 2==[49])=false;rw[nm2];rfl,λh=>(by cases h),λ_ W hW hP=>zqk 2 1 2 (by omega) (by omega) zln.2.1 W hW hP,λW hW=>zjn 2 zb7.2.2.1 zj9.2.1 W hW,by decide,λW hW=>zlk (-1) 1 (-1) zb7.2.2.2.2.1 zb7.2.1 (by decide+kernel) W hW,λW W' h hb=>GatL.keep h (zac hb),λW hW h=>z9b gb W hW h⟩
 |2,_=>⟨false,numS 1,numS 2,numS 1,1,by show(numS 1==[48])=false;rw[zfc];rfl,by show(numS 2==[48])=false;rw[nm2];rfl,by show(numS 2==[49])=false;rw[nm2];rfl,λh=>(by cases h),λ_ W hW hP=>zqk 2 1 2 (by omega) (by omega) zln.2.1 W hW hP,λW hW=>zjn 2 zb7.2.2.1 zj9.2.1 W hW,by decide,λW hW=>zlk 1 1 1 zb7.2.1 zb7.2.1 (by decide+kernel) W hW,λW W' h hb=>GatL.keep h (zac hb),λW hW h=>z9c gb W hW h⟩
 |3,_=>⟨false,numS 2,numS 1,numS (-2),1,by show(numS (-1)==[48])=false;rw[nm_1];rfl,by show(numS 4==[48])=false;rw[nm4];rfl,by show(numS 4==[49])=false;rw[nm4];rfl,λh=>(by cases h),λ_ W hW hP=>zqk 4 2 1 (by omega) (by omega) zln.2.2 W hW hP,λW hW=>zjn 1 zb7.2.1 zj9.1 W hW,by decide,λW hW=>zlk (-1) 2 (-2) zb7.2.2.2.2.1 zb7.2.2.1 (by decide+kernel) W hW,λW W' h hb=>GatL.keep h (zac hb),λW hW h=>z9g gb W hW h⟩
theorem z2k:zin gat4=[(numS (-1),numS 1)]:=by
 unfold zin gat4
 rw[nm_1,nm0]
 rfl
theorem znu (q:List UInt8) (h:q=[49]\/q=[50]\/q=[52]) (W:zA):zC zF 74 #[St q,.string ⟨#[45]⟩] W λe w'=>e=.returned (.bool false)/\w'=W:=by
 have hc:=Tryz.strings_HasPrefix ⟨q.toArray⟩ ⟨#[45]⟩ W
 have hp:Lib.hasPrefix q [45]=false:=by rcases h with rfl|rfl|rfl<;>rfl
 rw[show(⟨q.toArray⟩:ByteArray).data.toList=q from rfl,show(⟨#[45]⟩:ByteArray).data.toList=[45] from rfl,hp] at hc
 exact hc
theorem z8m (q:Option Addr) (c:Nat) (w:zA) (HW:Hid (∀W,qL w W->Wd W)) (HP:Hid (∀W,qL w W->Pw W))
 (HT:Hid (∀i,i<4->∃b off,q=some ⟨b,off,none⟩/\b<w.heap.size/\w.cell? ⟨b,off+i*2,none⟩=some (St (exX i))/\w.cell? ⟨b,off+i*2+1,none⟩=some (St (exY i)))):
 zC zF 56 #[.slice q 4 c] w λe w'=>∃q' c',e=.returned (.tuple #[.slice q' 1 c',.int .i64 0])/\zB w.heap.size w w'/\w'.ownsRow w.heap.size 51 2 (.slice q' 1 c') 1 (zbj [(numS (-1),numS 1)]):=by
 have ok1:=zfj 1 (zm5 zb7.2.1)
 have ok2:=zfj 2 (zm5 zb7.2.2.1)
 have ok4:=zfj 4 (zm5 zb7.2.2.2.1)
 have okm:=zfj (-1) (zm5 zb7.2.2.2.2.1)
 have hm:=z43 q c 4 exX exY gat4 [(numS (-1),numS 1)] (by omega) (by simp[gat4]) (by rw[z2k];simp)
  (hid λi hi W hW=>match i,hi with
    |0,_=>ok1 W hW|1,_=>okm W hW|2,_=>ok1 W hW|3,_=>okm W hW)
  (hid λi hi W hW=>match i,hi with
    |0,_=>ok1 W hW|1,_=>ok2 W hW|2,_=>ok2 W hW|3,_=>ok4 W hW)
  (hid λi hi W=>match i,hi with
    |0,_=>znu _ (.inl zfc) W|1,_=>znu _ (.inr (.inl nm2)) W|2,_=>znu _ (.inr (.inl nm2)) W|3,_=>znu _ (.inr (.inr nm4)) W)
  w HW HT
  (hid λu vg h1 h2 h3 h4=>by
    have hs:=h1.size
    exact z4e u.heap.size q c 4 exX exY (exS u.heap.size) (by omega) (hid (z8u u.heap.size)) vg (by omega)
     (hid λW h=>HW.out _ (h1.trans ((h2.trans h).mono hs))) (hid λW h=>HP.out _ (h1.trans ((h2.trans h).mono hs))) h4
     (hid λi hi=>by
       obtain⟨b,off,e,hb,c0,c1⟩:=HT.out i hi
       have hB:qL w vg:=h1.trans (h2.mono hs)
       exact⟨b,off,e,by omega,by rw[hB.cell (p:=⟨b,off+i*2,none⟩) hb];exact c0,by rw[hB.cell (p:=⟨b,off+i*2+1,none⟩) hb];exact c1⟩))
  (hid λi c hc h0=>⟨1,1,by
    match i,hc with
    |0,hc=>simp[gat4] at hc;subst hc;exact⟨λW hW=>zjn (-1) zb7.2.2.2.2.1 zj9.2.2 W hW,λW hW=>zjn 1 zb7.2.1 zj9.1 W hW,by decide,by decide⟩
    |1,hc=>simp[gat4] at hc;subst hc;rw[nm0] at h0;cases h0
    |_+2,hc=>simp[gat4] at hc⟩)
  (hid λB W q c h1 h2 h3 h4=>by
    rw[z2k] at h4⊢
    exact(z0d q c _ W).mono λe w' ⟨h5,h6⟩=>⟨h5,by rw[h6];exact zM _ _,by rw[h6];exact h4⟩)
 rw[z2k] at hm
 exact hm
structure BxT (w:zA) (x y:ByteArray) (W:zA):Prop where
 bel:qL w W
 bx:W.heap[w.heap.size]? =some (.cells #[.string x,.string y] 51 (0,0))
section
variable {w W W':zA} {x y:ByteArray}
theorem BxT.next (h:BxT w x y W) (hb:qL W W'):BxT w x y W':=
 ⟨h.bel.trans (hb.mono h.bel.size),(hb.block _ (Array.getElem?_eq_some_iff.1 h.bx).1).trans h.bx⟩
theorem BxT.cx (h:BxT w x y W):W.cell? ⟨w.heap.size,0,none⟩=some (.string x)/\W.cell? ⟨w.heap.size,1,none⟩=some (.string y):=by have:=h.bx;simp[World.cell?,this]
theorem BxT.start (w:zA) (x y:ByteArray):BxT w x y (w.alloc (.cells #[.string x,.string y] 51)):=⟨(zM _ w).alloc (zN _) _,zG _ _⟩
end
theorem z6v (x y:ByteArray) (a b:Int) (hx0:(x.toList==[48])=false) (ha:¬60<a) (hb:¬40<b)
 (C1:Hid (qK 58 #[.string x] (.int .i64 0)))
 (C2:Hid (qK 58 #[.string y] (.int .i64 0)))
 (L1:Hid (qK 109 #[.string x] (.int .i64 a)))
 (L2:Hid (qK 109 #[.string y] (.int .i64 b)))
 (YY:Hid ((y.toList==[49])=true\/((y.toList==[49])=false/\(y.toList==[48])=false/\
   (qK 74 #[.string y,.string ⟨#[45]⟩] (.bool false))/\
   (qK 144 #[.string y,.string ⟨#[47]⟩] (.bool false))/\
   (∀W:zA,Wd W->Pw W->qJ 145 #[.string y] W (.tuple #[.string ⟨#[49]⟩,.string y,.int .i64 0])))))
 (w:zA) (HW:Hid (Wd w)) (HP:Hid (Pw w)):
 qJ 103 #[.agg #[.string x,.string y]] w (.int .i64 0):=by
 obtain⟨W0,hW0⟩:∃W0,W0=w.alloc (.cells #[.string x,.string y] 51):=⟨_,rfl⟩
 have K0:=hid (show BxT w x y W0 by rw[hW0];exact BxT.start w x y)
 obtain⟨c0,c1⟩:=K0.out.cx
 rw[hW0] at c0 c1
 have H9:=hid hW0.symm
 clear hW0
 go_enter Tryz.func103,Tryz.ntmps103
 go_wp2_with fail
 rw[H9.out]
 clear c0 c1 H9
 refine(C1.out W0 (HW.out.below K0.out.bel)).mono ?_
 rintro e w1 ⟨rfl,hb1⟩
 have K1:=hid (K0.out.next hb1);clear hb1 K0 C1
 obtain⟨c0,c1⟩:=K1.out.cx
 go_wp2_with fail
 clear c0 c1
 refine(C2.out w1 (HW.out.below K1.out.bel)).mono ?_
 rintro e w2 ⟨rfl,hb2⟩
 have K2:=hid (K1.out.next hb2);clear hb2 K1 C2
 obtain⟨c0,c1⟩:=K2.out.cx
 go_wp2_with fail
 clear c0 c1
 refine(L1.out w2 (HW.out.below K2.out.bel)).mono ?_
 rintro e w3 ⟨rfl,hb3⟩
 have K3:=hid (K2.out.next hb3);clear hb3 K2 L1
 obtain⟨c0,c1⟩:=K3.out.cx
 go_wp2_with fail
 clear c0 c1
 refine(L2.out w3 (HW.out.below K3.out.bel)).mono ?_
 rintro e w4 ⟨rfl,hb4⟩
 have K4:=hid (K3.out.next hb4);clear hb4 K3 L2
 obtain⟨c0,c1⟩:=K4.out.cx
 rcases YY.out with h1|⟨h1,h0,HPX,CT,NM⟩
 ·clear YY
  go_wp2_with fail
  go_ret
  exact⟨rfl,K4.out.bel⟩
 ·have HPX:=hid HPX;have CT:=hid CT;have NM:=hid NM
  clear YY
  go_wp2_with fail
  clear c0 c1
  refine(HPX.out w4 (HW.out.below K4.out.bel)).mono ?_
  rintro e w5 ⟨rfl,hb5⟩
  have K5:=hid (K4.out.next hb5);clear hb5 K4 HPX
  obtain⟨c0,c1⟩:=K5.out.cx
  go_wp2_with fail
  clear c0 c1
  refine(CT.out w5 (HW.out.below K5.out.bel)).mono ?_
  rintro e w6 ⟨rfl,hb6⟩
  have K6:=hid (K5.out.next hb6);clear hb6 K5 CT
  obtain⟨c0,c1⟩:=K6.out.cx
  go_wp2_with fail
  clear c0 c1
  refine(NM.out w6 (HW.out.below K6.out.bel) (HP.out.below K6.out.bel)).mono ?_
  rintro e w7 ⟨rfl,hb7⟩
  have K7:=hid (K6.out.next hb7);clear hb7 K6 NM
  obtain⟨c0,c1⟩:=K7.out.cx
  go_wp2_with fail
  go_ret
  exact⟨rfl,K7.out.bel⟩
end Go.Proofs.YtpichfafdcfbhaaGreatDoor
namespace Go.Proofs.YtpichfafdcfbhaaGreatDoor.Geo
end Go.Proofs.YtpichfafdcfbhaaGreatDoor.Geo
namespace Go.Proofs.YtpichfafdcfbhaaGreatDoor.Geo
end Go.Proofs.YtpichfafdcfbhaaGreatDoor.Geo
namespace Go.Proofs.YtpichfafdcfbhaaGreatDoor
open Go.RowKit Go.Shelf Lib Str Limb Geo
end Go.Proofs.YtpichfafdcfbhaaGreatDoor
namespace Go.Proofs.YtpichfafdcfbhaaGreatDoor
open Go.RowKit Go.Shelf Lib Str Limb Geo
attribute [local go_sem] Oper.semAt_some
end Go.Proofs.YtpichfafdcfbhaaGreatDoor
namespace Go.Proofs.YtpichfafdcfbhaaGreatDoor
open Go.RowKit Go.Shelf Lib Str Limb
attribute [local go_sem] Oper.semAt_some
abbrev BolQ (w:zA) (b:Bool) (e:Ending) (w':zA):Prop:=e=.returned (.bool b)/\zB w.heap.size w w'
theorem z6w (x y r:ByteArray) (is:Bool) (A:Nat) (xx:ByteArray)
 (RT:Hid (qK 105 #[.string xx,.string y] (.tuple #[.string r,.bool is,.int .i64 0])))
 (w:zA) (HW:Hid (Wd w)) (HA:Hid (w.cell? ⟨A,1,none⟩=some (.string xx))):
 zC zF 104 #[.agg #[.string x,.string y],.pointer (some ⟨A,0,none⟩)] w (BolQ w is):=by
 obtain⟨W0,hW0⟩:∃W0,W0=w.alloc (.cells #[.string x,.string y] 51):=⟨_,rfl⟩
 have K0:=hid (show BxT w x y W0 by rw[hW0];exact BxT.start w x y)
 obtain⟨c0,c1⟩:=K0.out.cx
 have a1:=(zac (show qL w W0 from K0.out.bel)).cell HA.out
 rw[hW0] at c0 c1 a1
 have H9:=hid hW0.symm
 clear hW0
 go_enter Tryz.func104,Tryz.ntmps104
 go_wp2_with fail
 rw[H9.out]
 clear c0 c1 a1 H9
 refine(RT.out W0 (HW.out.below K0.out.bel)).mono ?_
 rintro e w1 ⟨rfl,hb1⟩
 have K1:=hid (K0.out.next hb1);clear hb1 K0 RT
 cases is
 ·go_wp2_with fail
  all_goals
   go_ret
   exact⟨rfl,K1.out.bel⟩
 ·go_wp2_with fail
  all_goals
   go_ret
   exact⟨rfl,K1.out.bel⟩
def RowTm (p:Option Addr) (n:Nat) (X Y:Nat->ByteArray) (W:zA):Prop:=∀i,i<n->∃b off,p=some ⟨b,off,none⟩/\W.cell? ⟨b,off+i*2,none⟩=some (.string (X i))/\W.cell? ⟨b,off+i*2+1,none⟩=some (.string (Y i))
theorem RowTm.keep {p:Option Addr} {n:Nat} {X Y:Nat->ByteArray} {W W':zA} (h:RowTm p n X Y W) (hc:CellsKept W W'):RowTm p n X Y W':=λi hi=>let ⟨b,off,e,h1,h2⟩:=h i hi;⟨b,off,e,hc.cell h1,hc.cell h2⟩
theorem z7r (p:Option Addr) (cap n:Nat) (X Y:Nat->ByteArray) (hl:n<=5000) (A:Nat) (C:zA->Prop) (hC:∀W W',C W->qL W W'->C W')
 (F:Hid (∀i,i<n->∀W:zA,Wd W->C W->zC zF 104 #[.agg #[.string (X i),.string (Y i)],.pointer (some ⟨A,0,none⟩)] W (BolQ W false)))
 (w:zA) (HW:Hid (Wd w)) (HC:Hid (C w)) (HP:Hid (RowTm p n X Y w)):
 qJ 99 #[.slice p n cap,.func (.func 104) #[] #[.pointer (some ⟨A,0,none⟩)]] w (.int .i64 (-1)):=by
 have HCC:=hid hC;clear hC
 go_enter Tryz.func99,Tryz.ntmps99
 go_wp2
 go_loopw [8] (λi wr=>∃(k:Nat),k<=n/\i=.int .i64 (k:Int)/\Hid (qL w wr))
  (λi _=>n-(zL i).toNat)
 case atStart=>exact⟨0,zR _,rfl,zM _ _⟩
 case round=>
  obtain⟨k,hk,rfl,hB⟩:=hrel
  by_cases hlt:k<n
  ·obtain⟨b,off,rfl,c0,c1⟩:=(HP.out.keep (zac hB.out)) k hlt
   have HF:=hid (F.out k hlt wr (HW.out.below hB.out) (HCC.out _ _ HC.out hB.out))
   generalize X k=x at*
   generalize Y k=y at*
   go_wp2_with fail
   refine HF.out.mono ?_
   rintro e w2 ⟨rfl,hb2⟩
   have hB2:=hid (hB.out.trans (hb2.mono hB.out.size))
   clear hb2 HF
   go_wp2_with fail
   go_roundw
   case rel=>exact⟨k+1,by omega,by go_num,hB2⟩
   case measure=>simp[zL];omega
  ·have hkn:k=n:=by omega
   go_wp2_with fail
   go_ret
   exact⟨rfl,hB.out⟩
theorem z7s (p:Option Addr) (cap n A:Nat) (w:zA)
 (F:Hid (qJ 99 #[.slice p n cap,.func (.func 104) #[] #[.pointer (some ⟨A,0,none⟩)]] w (.int .i64 (-1)))):
 zC zF 50 #[.slice p n cap,.func (.func 104) #[] #[.pointer (some ⟨A,0,none⟩)]] w (BolQ w false):=by
 go_enter Tryz.func50,Tryz.ntmps50
 go_wp2_with fail
 refine F.out.mono ?_
 rintro e w1 ⟨rfl,hB⟩
 go_wp2_with fail
 go_ret
 exact⟨rfl,hB⟩
structure BxA (w:zA) (A:Nat) (x y:ByteArray) (W:zA):Prop where
 bel:qL w W
 bx:W.heap[A]? =some (.cells #[.string x,.string y] 51 (0,0))
section
variable {w W W':zA} {A:Nat} {x y:ByteArray}
theorem BxA.next (h:BxA w A x y W) (hb:qL W W'):BxA w A x y W':=
 ⟨h.bel.trans (hb.mono h.bel.size),(hb.block _ (Array.getElem?_eq_some_iff.1 h.bx).1).trans h.bx⟩
theorem BxA.cx (h:BxA w A x y W):W.cell? ⟨A,0,none⟩=some (.string x)/\W.cell? ⟨A,1,none⟩=some (.string y):=by have:=h.bx;simp[World.cell?,this]
end
theorem z2l (p:Option Addr) (cap n:Nat) (X Y:Nat->ByteArray) (hn:n<=16) (hcap:n<=cap)
 (RG:Hid (∀i,i<n->∀W:zA,Wd W->Pw W->qJ 103 #[.agg #[.string (X i),.string (Y i)]] W (.int .i64 0)))
 (CM:Hid (∀i,i+1<n->qK 10 #[.string (Y i),.string (Y (i+1))] (.tuple #[.int .i64 (-1),.int .i64 0])))
 (CT:Hid (∀k A,k<n->∀W:zA,Wd W->RowTm p n X Y W->W.cell? ⟨A,1,none⟩=some (.string (Y k))->zC zF 50 #[.slice p k cap,.func (.func 104) #[] #[.pointer (some ⟨A,0,none⟩)]] W (BolQ W false)))
 (w:zA) (HW:Hid (Wd w)) (HQ:Hid (Pw w)) (HP:Hid (RowTm p n X Y w)):
 qJ 53 #[.slice p n cap] w (.int .i64 0):=by
 have hn16:decide ((16:Int)<(n:Int))=false:=decide_eq_false (by omega)
 go_enter Tryz.func53,Tryz.ntmps53
 go_wp2_with fail
 clear hn16
 go_loopw [13] (λi wr=>∃(k:Nat),k<=n/\i=.int .i64 (k:Int)/\Hid (qL w wr))
  (λi _=>n-(zL i).toNat)
 case atStart=>exact⟨0,zR _,rfl,zM _ _⟩
 case round=>
  obtain⟨k,hk,rfl,hB⟩:=hrel
  by_cases hlt:k<n
  ·have HR:=hid λW (h:qL w W)=>HP.out.keep (zac h)
   obtain⟨b,off,hp,c0,c1⟩:=HR.out wr hB.out k hlt
   subst hp
   have HRG:=hid (RG.out k hlt)
   have HCT:=hid λA W hW hr hc=>CT.out k A hlt W hW hr hc
   have HY:=hid (show ∀j,j+1=k->(qK 10 #[.string (Y j),.string (Y k)] (.tuple #[.int .i64 (-1),.int .i64 0])) from λj hj=>by subst hj;exact CM.out j hlt)
   obtain⟨j,hj⟩:∃j,j=k-1:=⟨_,rfl⟩
   have HJ:=hid hj
   obtain⟨x,hx⟩:∃x,x=X k:=⟨_,rfl⟩
   obtain⟨y,hy⟩:∃y,y=Y k:=⟨_,rfl⟩
   rw[<-hx,<-hy] at HRG
   rw[<-hy] at HCT HY
   rw[<-hx] at c0
   rw[<-hy] at c1
   clear hj hx hy
   have HS:Hid (BxA w wr.heap.size x y (wr.alloc (.cells #[.string x,.string y] 51))):=hid (by
    have hal:qL wr (wr.alloc (.cells #[.string x,.string y] 51)):=(zM _ wr).alloc (zN _) _
    exact⟨hB.out.trans (hal.mono hB.out.size),zG _ _⟩)
   obtain⟨g0,g1⟩:=HS.out.cx
   go_wp2_with fail
   clear hB c0 c1 g0 g1
   obtain⟨W1,hW1⟩:∃W1,W1=wr.alloc (.cells #[.string x,.string y] 51):=⟨_,rfl⟩
   rw[<-hW1] at HS⊢
   clear hW1
   generalize wr.heap.size=A at*
   refine(HRG.out W1 (HW.out.below HS.out.bel) (HQ.out.below HS.out.bel)).mono ?_
   rintro e w2 ⟨rfl,hb2⟩
   have HS2:=hid (HS.out.next hb2)
   clear hb2 HS HRG
   by_cases hk0:k=0
   ·have hkb:((k:Int)==0)=true:=by rw[hk0];rfl
    clear hk0
    go_wp2_with fail
    go_roundw
    case rel=>exact⟨k+1,by omega,by go_num,hid HS2.out.bel⟩
    case measure=>simp[zL];omega
   ·have hkb:((k:Int)==0)=false:=beq_eq_false_iff_ne.2 (by omega)
    have hjk:j+1=k:=by have:=HJ.out;omega
    have HCM:=hid (HY.out j hjk)
    have hw1:IntKind.i64.wrap ((k:Int)-1)=(j:Int):=by rw[IntWalk.i64_in _ ⟨by omega,by omega⟩];omega
    have hjn:j<n:=by omega
    have hkc:(k:Int)<=(cap:Int):=by omega
    have HRj:=hid (λW h=>(by
     obtain⟨b',off',e,d0,d1⟩:=HR.out W h j hjn
     obtain⟨rfl,rfl⟩:b=b'/\off=off':=by simpa using e
     exact d1):∀W,qL w W->W.cell? ⟨b,off+j*2+1,none⟩=some (.string (Y j)))
    generalize Y j=yj at*
    clear HY hjk hk0
    go_wp2_with fail
    refine zbl (λ_ W=>BxA w A x y W) (by kernel_rfl) (by kernel_rfl) (HS2.out.next (zM _ _).drew) ?_
    refine qR (.slice (some ⟨b,off,none⟩) n cap) ?_;simp only[zzQ]
    refine qR (.int .i64 (k:Int)) ?_;simp only[zzQ]
    refine qR (.int .i64 (j:Int)) ?_;simp only[zzQ]
    refine qR (.pointer (some ⟨b,off+j*2,none⟩)) ?_;simp only[zzQ]
    refine qR (.pointer (some ⟨b,off+j*2+1,none⟩)) ?_;simp only[zzQ]
    refine qR (.string yj) ?_ (hy:=λf W' hf h=>by have c0:=HRj.out _ h.bel;go_simp);simp only[zzQ]
    refine qR (.pointer (some ⟨A,1,none⟩)) ?_;simp only[zzQ]
    refine qR (.string y) ?_ (hy:=λf W' hf h=>by obtain⟨c0,c1⟩:=h.cx;go_simp);simp only[zzQ]
    refine zar (.tuple #[.int .i64 (-1),.int .i64 0]) (by rfl) (λf W' hf h C' hC'=>by
     go_simp
     refine(HCM.out _ (HW.out.below h.bel)).mono ?_
     rintro e w' ⟨rfl,hb⟩
     exact⟨rfl,hC' _ (h.next hb)⟩) ?_
    try simp only[zzQ]
    refine qR (.tuple #[.int .i64 (-1),.int .i64 0]) ?_;simp only[zzQ]
    refine qR (.int .i64 (-1)) ?_;simp only[zzQ]
    refine qR (.int .i64 0) ?_;simp only[zzQ]
    refine qR (.int .i64 (-1)) ?_;simp only[zzQ]
    refine qR (.int .i64 0) ?_;simp only[zzQ]
    refine zck λf W5 hf h5=>?_
    have HS5:=hid h5
    clear hf h5 HS2 HCM HRj
    have HCC:=hid (HCT.out A W5 (HW.out.below HS5.out.bel) (HR.out _ HS5.out.bel) HS5.out.cx.2)
    clear HCT
    go_wp2_with fail
    refine HCC.out.mono ?_
    rintro e w6 ⟨rfl,hb6⟩
    have HS6:=hid (HS5.out.next hb6)
    clear hb6 HS5 HCC
    go_wp2_with fail
    go_roundw
    case rel=>exact⟨k+1,by omega,by go_num,hid HS6.out.bel⟩
    case measure=>simp[zL];omega
  ·have hkn:k=n:=by omega
   go_wp2_with fail
   go_ret
   exact⟨rfl,hB.out⟩
end Go.Proofs.YtpichfafdcfbhaaGreatDoor
namespace Go.Proofs.YtpichfafdcfbhaaGreatDoor
open Go.RowKit Go.Shelf Lib Str Limb Geo
attribute [local go_sem] Oper.semAt_some
structure NrmR (r:Nat):Prop where
 pos:0<r
 len:(zD r).length<=16
 nc:zn7 r=(1,r)
structure TrmR (c:Rat) (r:Nat):Prop where
 ne:c≠0
 sc:sz c 60
 nr:NrmR r
theorem z8b (c:Rat) (r:Nat) (h:TrmR c r) (w:zA) (hw:Wd w) (hp:Pw w):
 qJ 103 #[.agg #[St (numS c),St (zD r)]] w (.int .i64 0):=by
 have okc:=zd0 (by omega) (by omega) h.sc
 have lr:=h.nr.len
 have sr:sz (r:Rat) 16:=zrg (by omega) lr
 have okr:=zd0 (by omega) (by omega) sr
 have dc:=zok (k:=60) (by omega) h.sc
 have d1:zD 1=[49]:=by rw[zae (by omega)];rfl
 refine z6v ⟨(numS c).toArray⟩ ⟨(zD r).toArray⟩ _ (max ((zD r).length:Int) (([49]:List UInt8).length:Int)) ?_ ?_ ?_ (hid λW hW=>zfj c okc W hW) (hid λW hW=>?_) (hid λW hW=>znp c okc W hW) (hid λW hW=>?_) (hid ?_) w (hid hw) (hid hp)
 ·rw[ByteArray.toList_eq,beq_eq_false_iff_ne]
  exact λe=>h.ne ((zpy c).1 (by simpa using e))
 ·have:=dc.1;have:=dc.2
  rw[zd9]
  omega
 ·show ¬(40:Int)<max ((zD r).length:Int) 1
  omega
 ·have:=zfj (r:Rat) okr W hW
  rw[zhe] at this;exact this
 ·have:=znp (r:Rat) okr W hW
  rw[zhe,show(r:Rat).num=(r:Int) from rfl,show(r:Rat).den=1 from rfl,zd9,zd9,d1] at this
  exact this
 ·by_cases h1:r=1
  ·left
   rw[h1,ByteArray.toList_eq,d1];rfl
  ·right
   refine⟨zhl (n:=r) rfl 1 (by omega) h1,zhl (n:=r) rfl 0 (by omega) (by have:=h.nr.pos;omega),λW _=>?_,λW _=>?_,λW hW hP=>?_⟩
   ·have:=Tryz.strings_HasPrefix ⟨(zD r).toArray⟩ ⟨#[45]⟩ W
    have e:Lib.hasPrefix (zD r) [45]=false:=by
     have:=zdx (r:Int)
     rw[Str.zad] at this
     rw[this,decide_eq_false (by omega)]
    rw[show(⟨(zD r).toArray⟩:ByteArray).data.toList=zD r from rfl,show(⟨#[45]⟩:ByteArray).data.toList=[45] from rfl,e] at this
    refine this.mono ?_
    rintro e w' ⟨rfl,rfl⟩
    exact⟨rfl,zM _ _⟩
   ·have:=Tryz.strings_Contains_one ⟨(zD r).toArray⟩ 47 W
    have e:decide (0<=Lib.indexByte (zD r) 47)=false:=by
     rw[<-Lib.contains_iff_indexByte]
     rw[Bool.eq_false_iff]
     intro k
     have hm:=List.contains_iff_mem.1 k
     have:=(zan r 47 hm).1
     exact absurd this (by decide)
    rw[show(⟨(zD r).toArray⟩:ByteArray).data.toList=zD r from rfl,e] at this
    refine this.mono ?_
    rintro e w' ⟨rfl,rfl⟩
    exact⟨rfl,zM _ _⟩
   ·have:=z4c r h.nr.pos lr W hW hP
    rw[h.nr.nc,d1] at this
    exact this
def z5c (p q:Rat):Bool:=decide (isq (p/q).num.natAbs*isq (p/q).num.natAbs=(p/q).num.natAbs)&&decide (isq (p/q).den*isq (p/q).den=(p/q).den)
structure SurdR (n:Nat) (c:Nat->Rat) (r:Nat->Nat):Prop where
 len:n<=16
 trm:∀i,i<n->TrmR (c i) (r i)
 ord:∀i,i+1<n->r i<r (i+1)
 apt:∀i k,i<k->k<n->z5c (r k:Rat) (r i:Rat)=false
theorem zos (p:Option Addr) (cap n:Nat) (c:Nat->Rat) (r:Nat->Nat) (h:SurdR n c r) (hcap:n<=cap) (w:zA) (hw:Wd w) (hq:Pw w) (hp:RowTm p n (λi=>⟨(numS (c i)).toArray⟩) (λi=>⟨(zD (r i)).toArray⟩) w):
 qJ 53 #[.slice p n cap] w (.int .i64 0):=by
 have sr:∀i,i<n->sz (r i:Rat) 16:=λi hi=>zrg (by omega) (h.trm i hi).nr.len
 have up:∀i,i<n->sz (r i:Rat) 90:=λi hi=>(sr i hi).mono (by omega)
 have pos:∀i,i<n->(0:Rat)<(r i:Rat):=λi hi=>by
  have:=(h.trm i hi).nr.pos
  exact_mod_cast this
 refine z2l p cap n _ _ h.len hcap (hid λi hi W hW hP=>z8b _ _ (h.trm i hi) W hW hP) (hid λi hi W hW=>?_) (hid λk A hk W hW hr hA=>?_) w (hid hw) (hid hq) (hid hp)
 ·have:=zgq (r i:Rat) (r (i+1):Rat) 16 16 (by omega) (by omega) (by omega) (sr i (by omega)) (sr (i+1) hi) W hW
  rw[zhe,zhe] at this
  have e:cmpR (r i:Rat) (r (i+1):Rat)= -1:=by
   have h1:=h.ord i hi
   have h2:(r i:Rat)<(r (i+1):Rat):=by exact_mod_cast h1
   have:=zaw (r i:Rat) (r (i+1):Rat)
   grind
  rw[e] at this
  exact this
 ·refine z7s p cap k A W (hid (z7r p cap k _ _ (by have:=h.len;omega) A (λV=>V.cell? ⟨A,1,none⟩=some (.string ⟨(zD (r k)).toArray⟩)) (λV V' hv hb=>(zac hb).cell hv) (hid λi hi V hV hc=>?_) W (hid hW) (hid hA) (hid λi hi=>hr i (by omega))))
  refine z6w _ _ ⟨#[]⟩ false A _ (hid λU hU=>?_) V (hid hV) (hid hc)
  ·have:=zvz (r k:Rat) (r i:Rat) (Rat.le_of_lt (pos k hk)) (pos i (by omega)) (up k hk) (up i (by omega)) _ _ (zv0 _) (zv0 _) U hU
   have e:=h.apt i k hi hk
   unfold z5c at e
   rw[e,zhe,zhe] at this
   exact this
end Go.Proofs.YtpichfafdcfbhaaGreatDoor
namespace Go.Proofs.YtpichfafdcfbhaaGreatDoor
open Go.RowKit Go.Shelf Lib Str Limb
attribute [local go_sem] Oper.semAt_some
theorem zyl:NrmR 1/\NrmR 2:=⟨⟨by decide,by rw[zae (by omega)];simp,zln.1⟩,⟨by decide,by rw[zae (by omega)];simp,zln.2.1⟩⟩
def exC (b:Rat) (i:Nat):Rat:=if i=0 then 1 else b
def exR (i:Nat):Nat:=if i=0 then 1 else 2
theorem z6h (b:Rat) (hb:b≠0) (sb:sz b 1):SurdR 2 (exC b) exR:=
 ⟨by omega,λi hi=>match i,hi with
   |0,_=>⟨by show(1:Rat)≠0;decide,zb7.2.1.mono (by omega),zyl.1⟩
   |1,_=>⟨hb,sb.mono (by omega),zyl.2⟩,
  λi hi=>match i,hi with|0,_=>by decide,
  λi k h1 h2=>by
   obtain⟨rfl,rfl⟩:i=0/\k=1:=by omega
   show z5c ((2:Nat):Rat) ((1:Nat):Rat)=false
   decide+kernel⟩
theorem z8c (b:Rat) (hb:b≠0) (sb:sz b 1) (r:Nat) (hr:NrmR r):SurdR 1 (λ_=>b) (λ_=>r):=
 ⟨by omega,λi hi=>⟨hb,sb.mono (by omega),hr⟩,λi hi=>by omega,λi k h1 h2=>by omega⟩
theorem z8n (p1 p2:Option Addr) (c1 c2:Nat) (h1:2<=c1) (h2:2<=c2) (w:zA) (HW:Hid (∀W,qL w W->Wd W)) (HP:Hid (∀W,qL w W->Pw W))
 (T1:Hid (∀i,i<2->∃b off,p1=some ⟨b,off,none⟩/\b<w.heap.size/\w.cell? ⟨b,off+i*2,none⟩=some (St (numS (exC 1 i)))/\w.cell? ⟨b,off+i*2+1,none⟩=some (St (numS (exR i:Rat)))))
 (T2:Hid (∀i,i<2->∃b off,p2=some ⟨b,off,none⟩/\b<w.heap.size/\w.cell? ⟨b,off+i*2,none⟩=some (St (numS (exC (-1) i)))/\w.cell? ⟨b,off+i*2+1,none⟩=some (St (numS (exR i:Rat))))):
 zC zF 16 #[.slice p1 2 c1,.slice p2 2 c2] w λe w'=>∃q c,e=.returned (.tuple #[.slice q 1 c,.int .i64 0])/\zB w.heap.size w w'/\w'.ownsRow w.heap.size 51 2 (.slice q 1 c) 1 (zbj [(numS (-1),numS 1)]):=by
 have row:∀(p:Option Addr) (b:Rat) (W:zA),(∀i,i<2->∃b' off,p=some ⟨b',off,none⟩/\b'<w.heap.size/\w.cell? ⟨b',off+i*2,none⟩=some (St (numS (exC b i)))/\w.cell? ⟨b',off+i*2+1,none⟩=some (St (numS (exR i:Rat))))->qL w W->RowTm p 2 (λi=>⟨(numS (exC b i)).toArray⟩) (λi=>⟨(zD (exR i)).toArray⟩) W:=λp b W h hB i hi=>by
  obtain⟨b',off,e,hb,c0,c1⟩:=h i hi
  refine⟨b',off,e,zai hB c0,?_⟩
  have:=zai hB c1
  rw[zhe] at this
  exact this
 have hb:=z6g (.slice p1 2 c1) (.slice p2 2 c2) (λW=>qL w W) (λW W' h h'=>h.trans (h'.mono h.size))
  (hid λW h=>zos p1 c1 2 (exC 1) exR (z6h 1 (by decide) zb7.2.1) h1 W (HW.out W h) (HP.out W h) (row p1 1 W T1.out h))
  (hid λW h=>zos p2 c2 2 (exC (-1)) exR (z6h (-1) (by decide) zb7.2.2.2.2.1) h2 W (HW.out W h) (HP.out W h) (row p2 (-1) W T2.out h))
  w (zM _ _)
 have hpr:zl0 (λ_ j=>numS (exC (-1) j)) (λi j=>numS ((exR i:Rat)*(exR j:Rat))) 2 2=[(numS 1,numS 1),(numS (-1),numS 2),(numS 1,numS 2),(numS (-1),numS 4)]:=by
  simp only[zl0,zo8,List.nil_append,List.cons_append]
  rw[show exC (-1) 0=1 from rfl,show exC (-1) 1= -1 from rfl,show((exR 0:Nat):Rat)*((exR 0:Nat):Rat)=1 by decide+kernel,show((exR 0:Nat):Rat)*((exR 1:Nat):Rat)=2 by decide+kernel,show((exR 1:Nat):Rat)*((exR 0:Nat):Rat)=2 by decide+kernel,show((exR 1:Nat):Rat)*((exR 1:Nat):Rat)=4 by decide+kernel]
 have szC:∀b:Rat,sz b 1->∀i,sz (exC b i) 1:=λb hb i=>by
  unfold exC;split
  ·exact zb7.2.1
  ·exact hb
 have szR:∀i,sz (exR i:Rat) 1:=λi=>by
  unfold exR;split
  ·exact zb7.2.1
  ·exact zb7.2.2.1
 refine z55 p1 p2 c1 c2 2 2 1 (λi=>numS (exC 1 i)) (λi=>numS (exR i:Rat)) (λi=>numS (exC (-1) i)) (λi=>numS (exR i:Rat)) (λ_ j=>numS (exC (-1) j)) (λi j=>numS ((exR i:Rat)*(exR j:Rat))) [(numS (-1),numS 1)] (by omega) (by omega) w HW (hid hb)
  (hid λi j hi hj W hW=>zlk _ _ _ (szC 1 zb7.2.1 i) (szC (-1) zb7.2.2.2.2.1 j) (by unfold exC;match i,hi with|0,_|1,_=>simp) W hW)
  (hid λi j hi hj W hW=>zlk _ _ _ (szR i) (szR j) rfl W hW) T1 T2 (hid λW q c hB hO=>?_)
 rw[hpr] at hO⊢
 obtain⟨g,c',e,hg,hx⟩:=zye hO (by simp)
 have hs:=hB.size
 have hl:=(hO.lt g (by rw[e];rfl)).2
 refine z8m q c W (hid λW' h=>HW.out _ (hB.trans (h.mono hs))) (hid λW' h=>HP.out _ (hB.trans (h.mono hs))) (hid λi hi=>?_)
 injection e with e1 _ _
 refine⟨g,0,e1,hl,?_,?_⟩
 ·rw[Nat.zero_add]
  match i,hi with
  |0,_=>exact hx 0 _ rfl
  |1,_=>exact hx 2 _ rfl
  |2,_=>exact hx 4 _ rfl
  |3,_=>exact hx 6 _ rfl
 ·rw[Nat.zero_add]
  match i,hi with
  |0,_=>exact hx 1 _ rfl
  |1,_=>exact hx 3 _ rfl
  |2,_=>exact hx 5 _ rfl
  |3,_=>exact hx 7 _ rfl
end Go.Proofs.YtpichfafdcfbhaaGreatDoor
