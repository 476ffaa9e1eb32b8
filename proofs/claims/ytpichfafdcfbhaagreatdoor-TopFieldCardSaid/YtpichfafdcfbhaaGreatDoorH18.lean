/- enclosure.floor, term and near, by their contracts. -/
import Derived.Test.YtpichfafdcfbhaaGreatDoorH17
import Derived.Lib.AppendZerosOnto
set_option maxRecDepth 100000
set_option maxHeartbeats 8000000
open Go renaming World → zA, Calls → zC
open Go.RowKit renaming Below → zB, intOf → zL
open Go.Lib renaming decDigits → zD, itoa → zE
open Go.Proofs.Tryz renaming prog → zF
open Go.World renaming alloc_heap_new → zG, size_alloc → zH
open Go.IntWalk renaming i64_in → zI
open Go.Joins renaming cell_of_block → zJ
open Go.RowKit.Below renaming refl → zM
open Nat renaming le_refl → zN, zero_le → zR
open List renaming length_append → zU
namespace Go.Proofs.YtpichfafdcfbhaaGreatDoor
open Go.RowKit Go.Shelf Lib Str Limb
attribute [local go_sem] Oper.semAt_some
theorem z4l (a u q f r:List UInt8)
 (D:Hid (qK 9 #[St a,St u] (.tuple #[St q,.int .i64 0])))
 (F:Hid (qK 218 #[St q] (.tuple #[St f,.int .i64 0])))
 (M:Hid (qK 8 #[St f,St u] (.tuple #[St r,.int .i64 0])))
 (w:zA) (HW:Hid (Wd w)):
 qJ 164 #[St a,St u] w (.tuple #[St r,.int .i64 0]):=by
 go_enter Tryz.func164,Tryz.ntmps164
 go_wp2_with fail
 refine(D.out w HW.out).mono ?_
 rintro e w1 ⟨rfl,hb1⟩
 have B1:=hid hb1;clear hb1
 go_wp2_with fail
 refine(F.out w1 (HW.out.below B1.out)).mono ?_
 rintro e w2 ⟨rfl,hb2⟩
 have B2:=hid (B1.out.trans (hb2.mono B1.out.size));clear hb2 B1
 go_wp2_with fail
 refine(M.out w2 (HW.out.below B2.out)).mono ?_
 rintro e w3 ⟨rfl,hb3⟩
 have B3:=hid (B2.out.trans (hb3.mono B2.out.size));clear hb3 B2
 go_wp2_with fail
 go_ret2
 exact⟨rfl,B3.out⟩
theorem z56 (r u s2 x:List UInt8)
 (M:Hid (qK 8 #[.string ⟨#[49]⟩,.string ⟨#[49]⟩] (.tuple #[.string ⟨#[49]⟩,.int .i64 0])))
 (M2:Hid (qK 8 #[.string ⟨#[49]⟩,St r] (.tuple #[St s2,.int .i64 0])))
 (F:Hid (qK 217 #[St s2,St u] (.tuple #[St x,.int .i64 0])))
 (w:zA) (HW:Hid (Wd w)):
 qJ 163 #[.agg #[.string ⟨#[49]⟩,St r],St u] w (.tuple #[St x,.int .i64 0]):=by
 obtain⟨v1,hv⟩:∃v1,v1=w.alloc (.cells #[.string ⟨#[49]⟩,St r] 51):=⟨_,rfl⟩
 have a1:qL w v1:=by rw[hv];exact(zM _ w).alloc (zN _) _
 have A1:v1.heap[w.heap.size]? =some (.cells #[.string ⟨#[49]⟩,St r] 51 (0,0)):=by rw[hv];exact zG w _
 have k0:v1.cell? ⟨w.heap.size,0,none⟩=some (.string ⟨#[49]⟩):=by rw[zJ A1];rfl
 rw[hv] at k0
 have HV1:=hid hv.symm
 have E1:=hid a1
 have B1:=hid A1
 clear hv a1 A1
 go_enter Tryz.func163,Tryz.ntmps163
 go_wp2_with fail
 rw[HV1.out]
 clear k0 HV1
 refine(M.out v1 (HW.out.below E1.out)).mono ?_
 rintro e y1 ⟨rfl,hb1⟩
 have E2:=hid (E1.out.trans (hb1.mono E1.out.size));have B2:=hid (zac hb1 _ _ _ _ B1.out)
 clear hb1 E1 B1
 have k1:y1.cell? ⟨w.heap.size,1,none⟩=some (St r):=by rw[zJ B2.out];rfl
 go_wp2_with fail
 refine(M2.out y1 (HW.out.below E2.out)).mono ?_
 rintro e y2 ⟨rfl,hb1⟩
 have E3:=hid (E2.out.trans (hb1.mono E2.out.size));have B3:=hid (zac hb1 _ _ _ _ B2.out)
 clear hb1 k1 E2 B2
 go_wp2_with fail
 refine(F.out y2 (HW.out.below E3.out)).mono ?_
 rintro e y3 ⟨rfl,hb1⟩
 have E4:=hid (E3.out.trans (hb1.mono E3.out.size));have B4:=hid (zac hb1 _ _ _ _ B3.out)
 clear hb1 E3 B3
 have k0:y3.cell? ⟨w.heap.size,0,none⟩=some (.string ⟨#[49]⟩):=by rw[zJ B4.out];rfl
 go_wp2_with fail
 go_ret2
 exact⟨rfl,E4.out⟩
theorem z57 (g cap:Nat) (c r u fine x s low z:List UInt8)
 (M:Hid (qK 8 #[St u,.string ⟨#[49,47,49,48,48,48]⟩] (.tuple #[St fine,.int .i64 0])))
 (T:Hid (qK 163 #[.agg #[St c,St r],St fine] (.tuple #[St x,.int .i64 0])))
 (A:Hid (qK 7 #[.string ⟨#[48]⟩,St x] (.tuple #[St s,.int .i64 0])))
 (F:Hid (qK 164 #[St s,St u] (.tuple #[St low,.int .i64 0])))
 (S:Hid (qK 165 #[St low,St u] (.tuple #[St z,.int .i64 0])))
 (w:zA) (HW:Hid (Wd w)) (HC:Hid (w.cell? ⟨g,0,none⟩=some (St c)/\w.cell? ⟨g,1,none⟩=some (St r))):
 qJ 121 #[.slice (some ⟨g,0,none⟩) 1 cap,St u] w (.tuple #[St z,.int .i64 0]):=by
 go_enter Tryz.func121,Tryz.ntmps121
 go_wp2_with fail
 refine(M.out w HW.out).mono ?_
 rintro e w1 ⟨rfl,hb1⟩
 have E1:=hid hb1
 have c0:=zai hb1 HC.out.1
 have c1:=zai hb1 HC.out.2
 clear hb1
 obtain⟨v1,hv⟩:∃v1,v1=w1.alloc (.cells #[St c,St r] 51):=⟨_,rfl⟩
 have a1:qL w1 v1:=by rw[hv];exact(zM _ w1).alloc (zN _) _
 have A1:v1.heap[w1.heap.size]? =some (.cells #[St c,St r] 51 (0,0)):=by rw[hv];exact zG w1 _
 have k0:v1.cell? ⟨w1.heap.size,0,none⟩=some (St c):=by rw[zJ A1];rfl
 have k1:v1.cell? ⟨w1.heap.size,1,none⟩=some (St r):=by rw[zJ A1];rfl
 rw[hv] at k0 k1
 have HV1:=hid hv.symm
 have E2:=hid (E1.out.trans (a1.mono E1.out.size))
 clear hv a1 A1
 go_wp2_with fail
 refine wp_loop_rounds 2 ?_
 rw[rounds_succ]
 go_wp2_with fail
 rw[HV1.out]
 clear k0 k1 HV1 c0 c1
 refine(T.out v1 (HW.out.below E2.out)).mono ?_
 rintro e w2 ⟨rfl,hb2⟩
 have E3:=hid (E2.out.trans (hb2.mono E2.out.size));clear hb2 E2
 go_wp2_with fail
 refine(A.out w2 (HW.out.below E3.out)).mono ?_
 rintro e w3 ⟨rfl,hb3⟩
 have E4:=hid (E3.out.trans (hb3.mono E3.out.size));clear hb3 E3
 go_wp2_with fail
 rw[rounds_succ]
 go_wp2_with fail
 refine(F.out w3 (HW.out.below E4.out)).mono ?_
 rintro e w4 ⟨rfl,hb4⟩
 have E5:=hid (E4.out.trans (hb4.mono E4.out.size));clear hb4 E4
 go_wp2_with fail
 refine(S.out w4 (HW.out.below E5.out)).mono ?_
 rintro e w5 ⟨rfl,hb5⟩
 have E6:=hid (E5.out.trans (hb5.mono E5.out.size));clear hb5 E5
 go_wp2_with fail
 go_ret2
 exact⟨rfl,E6.out⟩
theorem z7t (g cap:Nat) (u l0 l1 l2:List UInt8) (C:zA->Prop) (hC:∀W W',C W->qL W W'->C W') (hW:∀W,C W->Wd W)
 (N:Hid (∀W:zA,C W->qJ 121 #[.slice (some ⟨g,0,none⟩) 1 cap,St u] W (.tuple #[St l0,.int .i64 0])))
 (O0:Hid (∀W:zA,C W->qJ 122 #[.slice (some ⟨g,0,none⟩) 1 cap,St l0] W (.tuple #[.int .i64 1,.int .i64 0])))
 (A1:Hid (qK 7 #[St l0,St u] (.tuple #[St l1,.int .i64 0])))
 (O1:Hid (∀W:zA,C W->qJ 122 #[.slice (some ⟨g,0,none⟩) 1 cap,St l1] W (.tuple #[.int .i64 1,.int .i64 0])))
 (A2:Hid (qK 7 #[St l1,St u] (.tuple #[St l2,.int .i64 0])))
 (O2:Hid (∀W:zA,C W->qJ 122 #[.slice (some ⟨g,0,none⟩) 1 cap,St l2] W (.tuple #[.int .i64 (-1),.int .i64 0])))
 (w:zA) (HC0:Hid (C w)):
 qJ 69 #[.slice (some ⟨g,0,none⟩) 1 cap,St u] w (.tuple #[.agg #[St l1,St l2],.int .i64 0]):=by
 obtain⟨v1,hv⟩:∃v1,v1=w.alloc (.cells #[St [],St []] 55):=⟨_,rfl⟩
 have a1:qL w v1:=by rw[hv];exact(zM _ w).alloc (zN _) _
 have R1:v1.heap[w.heap.size]? =some (.cells #[St [],St []] 55 (0,0)):=by rw[hv];exact zG w _
 have HV1:=hid hv.symm
 have HC:=hid (λW (h:qL w W)=>hC _ _ HC0.out h)
 have HW:=hid (λW (h:qL w W)=>hW _ (hC _ _ HC0.out h))
 have E1:=hid a1;have B1:=hid R1
 clear hv a1 R1 hC hW HC0
 go_enter Tryz.func69,Tryz.ntmps69
 go_wp2_with fail
 have h9:=HV1.out
 rw[show w.alloc (.cells #[.string ⟨#[]⟩,.string ⟨#[]⟩] 55)=v1 from h9]
 clear h9 HV1
 refine(N.out v1 (HC.out _ E1.out)).mono ?_
 rintro e w1 ⟨rfl,hb1⟩
 have E2:=hid (E1.out.trans (hb1.mono E1.out.size));have B2:=hid (zac hb1 _ _ _ _ B1.out)
 clear hb1 E1 B1
 go_wp2_with fail
 refine(O0.out w1 (HC.out _ E2.out)).mono ?_
 rintro e w2 ⟨rfl,hb2⟩
 have E3:=hid (E2.out.trans (hb2.mono E2.out.size));have B3:=hid (zac hb2 _ _ _ _ B2.out)
 clear hb2 E2 B2
 go_wp2_with fail
 refine wp_loop_rounds 2 ?_
 rw[rounds_succ]
 go_wp2_with fail
 refine(A1.out w2 (HW.out _ E3.out)).mono ?_
 rintro e w3 ⟨rfl,hb3⟩
 have E4:=hid (E3.out.trans (hb3.mono E3.out.size));have B4:=hid (zac hb3 _ _ _ _ B3.out)
 clear hb3 E3 B3
 go_wp2_with fail
 refine(O1.out w3 (HC.out _ E4.out)).mono ?_
 rintro e w4 ⟨rfl,hb4⟩
 have E5:=hid (E4.out.trans (hb4.mono E4.out.size));have B5:=hid (zac hb4 _ _ _ _ B4.out)
 clear hb4 E4 B4
 go_wp2_with fail
 rw[rounds_succ]
 go_wp2_with fail
 refine(A2.out w4 (HW.out _ E5.out)).mono ?_
 rintro e w5 ⟨rfl,hb5⟩
 have E6:=hid (E5.out.trans (hb5.mono E5.out.size));have B6:=hid (zac hb5 _ _ _ _ B5.out)
 clear hb5 E5 B5
 go_wp2_with fail
 refine(O2.out w5 (HC.out _ E6.out)).mono ?_
 rintro e w6 ⟨rfl,hb6⟩
 have E7:=hid (E6.out.trans (hb6.mono E6.out.size));have B7:=hid (zac hb6 _ _ _ _ B6.out)
 clear hb6 E6 B6
 have c0:w6.cell? ⟨w.heap.size,0,none⟩=some (St []):=by rw[zJ B7.out];rfl
 have c1:w6.cell? ⟨w.heap.size,1,none⟩=some (St []):=by rw[zJ B7.out];rfl
 have f0:=Go.Joins.unfrozen_of_block B7.out 0
 have f1:=Go.Joins.unfrozen_of_block B7.out 1
 go_wp2_with fail
 have hB7:=E7.out
 refine bodyPost_ret (v:=.tuple #[.agg #[St l1,St l2],.int .i64 0]) (by simp[results,Tryz.results69,go_sem,c0,c1]) rfl ⟨rfl,?_⟩
 repeat(first|exact hB7|refine Below.setCell ?_ (by simp) _)
theorem z8f (w:zA):qJ 70 #[.int .i64 1] w (.string ⟨#[49,47,49,48]⟩):=by
 have hr:=Tryz.strings_Repeat ⟨#[48]⟩ 1 w (by omega) (by show 1*1<=_;omega)
 rw[show(⟨(Lib.repeatL (⟨#[48]⟩:ByteArray).data.toList 1).toArray⟩:ByteArray)=⟨#[48]⟩ by decide] at hr
 have HR:=hid hr;clear hr
 go_enter Tryz.func70,Tryz.ntmps70
 go_wp2_with fail
 refine HR.out.mono ?_
 rintro e w1 ⟨rfl,hb⟩
 have B:=hid hb;clear hb
 go_wp2_with fail
 go_ret
 exact⟨congrArg (λs=>Ending.returned (.string s)) (show(⟨#[49,47,49]⟩:ByteArray)++⟨#[48]⟩=⟨#[49,47,49,48]⟩ by decide),B.out⟩
theorem z6x (g cap:Nat) (l1 l2:List UInt8) (C:zA->Prop) (hC:∀W W',C W->qL W W'->C W')
 (K:Hid (∀W:zA,C W->qJ 68 #[.slice (some ⟨g,0,none⟩) 1 cap] W (.int .i64 0)))
 (O:Hid (∀W:zA,C W->qJ 69 #[.slice (some ⟨g,0,none⟩) 1 cap,.string ⟨#[49,47,49,48]⟩] W (.tuple #[.agg #[St l1,St l2],.int .i64 0])))
 (w:zA) (HC0:Hid (C w)):
 qJ 25 #[.slice (some ⟨g,0,none⟩) 1 cap,.int .i64 1] w (.tuple #[.agg #[St l1,St l2],.int .i64 0]):=by
 obtain⟨v1,hv⟩:∃v1,v1=w.alloc (.cells #[St [],St []] 55):=⟨_,rfl⟩
 have a1:qL w v1:=by rw[hv];exact(zM _ w).alloc (zN _) _
 have R1:v1.heap[w.heap.size]? =some (.cells #[St [],St []] 55 (0,0)):=by rw[hv];exact zG w _
 have HV1:=hid hv.symm
 have HC:=hid (λW (h:qL w W)=>hC _ _ HC0.out h)
 have E1:=hid a1;have B1:=hid R1
 clear hv a1 R1 hC HC0
 go_enter Tryz.func25,Tryz.ntmps25
 go_wp2_with fail
 have h9:=HV1.out
 rw[show w.alloc (.cells #[.string ⟨#[]⟩,.string ⟨#[]⟩] 55)=v1 from h9]
 clear h9 HV1
 refine(K.out v1 (HC.out _ E1.out)).mono ?_
 rintro e w1 ⟨rfl,hb1⟩
 have E2:=hid (E1.out.trans (hb1.mono E1.out.size));have B2:=hid (zac hb1 _ _ _ _ B1.out)
 clear hb1 E1 B1
 go_wp2_with fail
 refine(z8f w1).mono ?_
 rintro e w2 ⟨rfl,hb2⟩
 have E3:=hid (E2.out.trans (hb2.mono E2.out.size));have B3:=hid (zac hb2 _ _ _ _ B2.out)
 clear hb2 E2 B2
 go_wp2_with fail
 refine(O.out w2 (HC.out _ E3.out)).mono ?_
 rintro e w6 ⟨rfl,hb6⟩
 have E7:=hid (E3.out.trans (hb6.mono E3.out.size));have B7:=hid (zac hb6 _ _ _ _ B3.out)
 clear hb6 E3 B3
 have c0:w6.cell? ⟨w.heap.size,0,none⟩=some (St []):=by rw[zJ B7.out];rfl
 have c1:w6.cell? ⟨w.heap.size,1,none⟩=some (St []):=by rw[zJ B7.out];rfl
 have f0:=Go.Joins.unfrozen_of_block B7.out 0
 have f1:=Go.Joins.unfrozen_of_block B7.out 1
 go_wp2_with fail
 have hB7:=E7.out
 refine bodyPost_ret (v:=.tuple #[.agg #[St l1,St l2],.int .i64 0]) (by simp[results,Tryz.results25,go_sem,c0,c1]) rfl ⟨rfl,?_⟩
 repeat(first|exact hB7|refine Below.setCell ?_ (by simp) _)
def scK (C Y:Nat->List UInt8):Nat->List (List UInt8×List UInt8)
 |0=>[]
 |k+1=>scK C Y k++[(C k,Y k)]
theorem z6y (p:Option Addr) (cap n:Nat) (X Y C:Nat->List UInt8) (c:List UInt8) (hn:n<=256)
 (w:zA) (HW:Hid (∀W,qL w W->Wd W))
 (M:Hid (∀i,i<n->qK 8 #[St (X i),St c] (.tuple #[St (C i),.int .i64 0])))
 (T:Hid (∀i,i<n->∃b off,p=some ⟨b,off,none⟩/\b<w.heap.size/\w.cell? ⟨b,off+i*2,none⟩=some (St (X i))/\w.cell? ⟨b,off+i*2+1,none⟩=some (St (Y i)))):
 zC zF 59 #[.slice p n cap,St c] w λe w'=>∃q d,e=.returned (.tuple #[.slice q n d,.int .i64 0])/\zB w.heap.size w w'/\w'.ownsRow w.heap.size 51 2 (.slice q n d) n (zbj (scK C Y n)):=by
 obtain⟨i0,hi,hz0,hz1,hz2⟩:=info_parts zsc
 have D0:=hid (zM w.heap.size w)
 have O0:=hid (show w.ownsRow w.heap.size 51 2 (.slice none 0 0) 0 (zbj (scK C Y 0)) from World.ownsRow_nil _ _ _ _)
 go_enter Tryz.func59,Tryz.ntmps59
 go_wp2_with fail
 go_loopw [6,13] (λv i wr=>∃(k:Nat) (q:Option Addr) (d:Nat),k<=n/\i=.int .i64 (k:Int)/\v=.slice q k d/\Hid (qL w wr)/\Hid (wr.ownsRow w.heap.size 51 2 (.slice q k d) k (zbj (scK C Y k))))
  (λ_ i _=>n-(zL i).toNat)
 case atStart=>exact⟨0,none,0,zR _,rfl,rfl,D0,O0⟩
 case round=>
  clear D0 O0
  obtain⟨k,q,d,hk,rfl,rfl,D1,O1⟩:=hrel
  by_cases hlt:k<n
  ·obtain⟨b,off,rfl,hb,c0,c1⟩:=T.out k hlt
   have t0:wr.cell? ⟨b,off+k*2,none⟩=some (St (X k)):=by rw[D1.out.cell (p:=⟨b,off+k*2,none⟩) hb];exact c0
   have t1:wr.cell? ⟨b,off+k*2+1,none⟩=some (St (Y k)):=by rw[D1.out.cell (p:=⟨b,off+k*2+1,none⟩) hb];exact c1
   have M1:=hid (M.out k hlt)
   have HS:=hid (show scK C Y (k+1)=scK C Y k++[(C k,Y k)] from rfl)
   generalize X k=x at*
   generalize Y k=y at*
   generalize C k=z at*
   obtain⟨v1,hv⟩:∃v1,v1=wr.alloc (.cells #[St x,St y] 51):=⟨_,rfl⟩
   have a1:qL wr v1:=by rw[hv];exact(zM _ wr).alloc (zN _) _
   have A1:v1.heap[wr.heap.size]? =some (.cells #[St x,St y] 51 (0,0)):=by rw[hv];exact zG wr _
   have k0:v1.cell? ⟨wr.heap.size,0,none⟩=some (St x):=by rw[zJ A1];rfl
   rw[hv] at k0
   have HV1:=hid hv.symm
   have E1:=hid (D1.out.trans (a1.mono D1.out.size))
   have B1:=hid A1
   have O2:=hid (zcj (zac a1) O1.out)
   clear hv a1 A1 c0 c1 hb O1
   go_wp2_with fail
   rw[HV1.out]
   clear t0 t1 k0 HV1
   refine(M1.out v1 (HW.out _ E1.out)).mono ?_
   rintro e u1 ⟨rfl,hb1⟩
   have E2:=hid (E1.out.trans (hb1.mono E1.out.size))
   have O3:=hid (zcj (zac hb1) O2.out)
   have B2:=hid (zac hb1 _ _ _ _ B1.out)
   clear hb1 E1 O2 B1 M1
   have k1:u1.cell? ⟨wr.heap.size,1,none⟩=some (St y):=by rw[zJ B2.out];rfl
   go_wp2_with (at_builtin;refine wpList_append_own _ rfl _ _ 36 rfl w.heap.size 51 i0 (.agg #[St [],St []]) 2 32 Tryz.underlying36 hi hz0 hz1 hz2 rfl (by decide) _ _ _ rfl (O3.out.alloc _) ⟨u1.heap.size,0,none⟩ 1 1 [St z,St y] rfl rfl (zoq _ _ _ _) (zm4 _ _) (by unfold maxLen;omega) (by omega) (by have:=E2.out.size;simp;omega) (λv' w' hown' hgrow _=>?_))
   obtain⟨g',c',rfl, -, -⟩:=zye hown' (by omega)
   have F1:Hid (qL w w'):=hid ((E2.out.alloc E2.out.size _).grown hgrow (by have:=E2.out.size;simp;omega) (λq e=>(O3.out.lt q e).1))
   have G1:Hid (w'.ownsRow w.heap.size 51 2 (.slice (some ⟨g',0,none⟩) (k+1) c') (k+1) (zbj (scK C Y (k+1)))):=hid (by rw[HS.out,zjb];exact hown')
   clear hgrow hown' E2 O3 B2 k1
   go_roundw
   case rel=>exact⟨k+1,some ⟨g',0,none⟩,c',by omega,by go_num,rfl,F1,G1⟩
   case measure=>simp[zL];omega
  ·have hkn:k=n:=by omega
   subst hkn
   go_wp2_with fail
   go_ret2
   exact⟨q,d,rfl,D1.out,O1.out⟩
theorem zxd (v1 v2:Value) (K:Nat) (sg:Int) (R:Option Addr->Nat->zA->Prop) (w:zA)
 (S:Hid (zC zF 61 #[v1,v2] w λe w'=>∃q d,e=.returned (.tuple #[.slice q K d,.int .i64 0])/\zB w.heap.size w w'/\R q d w'))
 (G:Hid (∀(W:zA) (q:Option Addr) (d:Nat),qL w W->R q d W->qJ 54 #[.slice q K d] W (.tuple #[.int .i64 sg,.int .i64 0]))):
 qJ 20 #[v1,v2] w (.tuple #[.int .i64 sg,.int .i64 0]):=by
 go_enter Tryz.func20,Tryz.ntmps20
 go_wp2_with fail
 refine S.out.mono ?_
 rintro e w1 ⟨q,d,rfl,hb1,hr⟩
 have B1:=hid hb1
 have HG:=hid (G.out w1 q d hb1 hr)
 clear hb1 hr G S
 go_wp2_with fail
 refine HG.out.mono ?_
 rintro e w2 ⟨rfl,hb2⟩
 have B2:=hid (B1.out.trans (hb2.mono B1.out.size));clear hb2
 go_wp2_with fail
 go_ret2
 exact⟨rfl,B2.out⟩
theorem z4m (s:Value) (a:List UInt8) (K:Nat) (sg:Int) (h1: -2<sg) (h2:sg<2) (R:Option Addr->Nat->zA->Prop) (w:zA)
 (M:Hid (∀W:zA,qL w W->W.cell? ⟨w.heap.size,0,none⟩=some (St a)->W.cell? ⟨w.heap.size,1,none⟩=some (.string ⟨#[49]⟩)->zC zF 56 #[.slice (some ⟨w.heap.size,0,none⟩) 1 1] W λe w'=>∃q d,e=.returned (.tuple #[.slice q K d,.int .i64 0])/\zB W.heap.size W w'/\R q d w'))
 (C:Hid (∀(W:zA) (q:Option Addr) (d:Nat),qL w W->R q d W->qJ 20 #[.slice q K d,s] W (.tuple #[.int .i64 sg,.int .i64 0]))):
 qJ 122 #[s,St a] w (.tuple #[.int .i64 (-sg),.int .i64 0]):=by
 obtain⟨v1,hv⟩:∃v1,v1=w.alloc (.cells #[St a,.string ⟨#[49]⟩] 51):=⟨_,rfl⟩
 have a1:qL w v1:=by rw[hv];exact(zM _ w).alloc (zN _) _
 have A1:v1.heap[w.heap.size]? =some (.cells #[St a,.string ⟨#[49]⟩] 51 (0,0)):=by rw[hv];exact zG w _
 have HM:=hid (M.out v1 a1 (by rw[zJ A1];rfl) (by rw[zJ A1];rfl))
 have HV1:=hid hv.symm
 have E1:=hid a1
 have hw64:IntKind.i64.wrap (-sg)= -sg:=zI _ (by omega)
 clear hv a1 A1 M
 go_enter Tryz.func122,Tryz.ntmps122
 go_wp2_with fail
 rw[HV1.out]
 clear HV1
 refine HM.out.mono ?_
 rintro e w1 ⟨q,d,rfl,hb1,hr⟩
 have hb:=E1.out.trans (hb1.mono E1.out.size)
 have B1:=hid hb
 have HG:=hid (C.out w1 q d hb hr)
 clear hb1 hr C HM hb E1
 go_wp2_with fail
 refine HG.out.mono ?_
 rintro e w2 ⟨rfl,hb2⟩
 have B2:=hid (B1.out.trans (hb2.mono B1.out.size));clear hb2
 go_wp2_with fail
 go_ret2
 exact⟨rfl,B2.out⟩
theorem z5d (p1 p2:Option Addr) (n1 n2 c1 c2 N K:Nat) (R R2 R3:Option Addr->Nat->zA->Prop) (w:zA)
 (B:Hid (qJ 55 #[.slice p1 n1 c1,.slice p2 n2 c2] w (.bool true)))
 (S:Hid (∀W:zA,qL w W->zC zF 59 #[.slice p2 n2 c2,.string ⟨#[45,49]⟩] W λe w'=>∃q d,e=.returned (.tuple #[.slice q n2 d,.int .i64 0])/\zB W.heap.size W w'/\R q d w'))
 (CN:Hid (∀(W:zA) (q:Option Addr) (d b:Nat),qL w W->w.heap.size<=b->(∃W0,qL w W0/\R q d W0/\zB W0.heap.size W0 W)->W.cell? ⟨b,0,none⟩=some (.slice p1 n1 c1)->W.cell? ⟨b,1,none⟩=some (.slice q n2 d)->zC zF 57 #[.slice (some ⟨b,0,none⟩) 2 2] W λe w'=>∃q' d',e=.returned (.slice q' N d')/\zB W.heap.size W w'/\R2 q' d' w'))
 (M:Hid (∀(W:zA) (q:Option Addr) (d:Nat),qL w W->R2 q d W->zC zF 56 #[.slice q N d] W λe w'=>∃q' d',e=.returned (.tuple #[.slice q' K d',.int .i64 0])/\zB W.heap.size W w'/\R3 q' d' w')):
 zC zF 61 #[.slice p1 n1 c1,.slice p2 n2 c2] w λe w'=>∃q d,e=.returned (.tuple #[.slice q K d,.int .i64 0])/\zB w.heap.size w w'/\R3 q d w':=by
 go_enter Tryz.func61,Tryz.ntmps61
 go_wp2_with fail
 refine B.out.mono ?_
 rintro e w1 ⟨rfl,hb1⟩
 have B1:=hid hb1
 have HS:=hid (S.out w1 hb1)
 clear hb1 B S
 go_wp2_with fail
 refine HS.out.mono ?_
 rintro e w2 ⟨q,d,rfl,hb2,hr⟩
 have hb:=B1.out.trans (hb2.mono B1.out.size)
 obtain⟨v1,hv⟩:∃v1,v1=w2.alloc (.cells #[.slice p1 n1 c1,.slice q n2 d] 37):=⟨_,rfl⟩
 have a1:qL w2 v1:=by rw[hv];exact(zM _ w2).alloc (zN _) _
 have A1:v1.heap[w2.heap.size]? =some (.cells #[.slice p1 n1 c1,.slice q n2 d] 37 (0,0)):=by rw[hv];exact zG w2 _
 have HC:=hid (CN.out v1 q d w2.heap.size (hb.trans (a1.mono hb.size)) hb.size ⟨w2,hb,hr,a1⟩ (by rw[zJ A1];rfl) (by rw[zJ A1];rfl))
 have HV1:=hid hv.symm
 have B2:=hid (hb.trans (a1.mono hb.size))
 clear hv a1 A1 CN hb hb2 hr HS B1
 go_wp2_with fail
 rw[HV1.out]
 clear HV1
 refine HC.out.mono ?_
 rintro e w3 ⟨q2,d2,rfl,hb3,hr3⟩
 have hb:=B2.out.trans (hb3.mono B2.out.size)
 have B3:=hid hb
 have HM:=hid (M.out w3 q2 d2 hb hr3)
 clear hb hb3 hr3 M HC B2
 go_wp2_with fail
 refine HM.out.mono ?_
 rintro e w4 ⟨q4,d4,rfl,hb4,hr4⟩
 have FE:=hid (⟨B3.out.trans (hb4.mono B3.out.size),hr4⟩:qL w w4/\R3 q4 d4 w4)
 clear hb4 hr4 HM B3
 go_wp2_with fail
 go_ret2
 exact⟨q4,d4,rfl,FE.out.1,FE.out.2⟩
theorem z7u (x u v:List UInt8) (t:ByteArray) (ht:t=⟨(trimPrefix u [45]).toArray⟩) (h1:decide (20<(t.size:Int))=false) (h2:decide (20<(v.length:Int))=false) (w:zA) (HW:Hid (Wd w))
 (PA:Hid (qK 11 #[St x] (.tuple #[St u,St v,.int .i64 0]))):
 qJ 120 #[St x] w (.bool false):=by
 have ht2:∀W,zC zF 81 #[St u,.string ⟨#[45]⟩] W λe w'=>e=.returned (.string t)/\w'=W:=λW=>by
  rw[ht];exact Tryz.strings_TrimPrefix ⟨u.toArray⟩ ⟨#[45]⟩ W
 obtain⟨d,hd⟩:∃d:ByteArray,d=⟨v.toArray⟩:=⟨_,rfl⟩
 have hds:d.size=v.length:=by rw[hd];show v.toArray.size=_;simp
 rw[<-hds] at h2
 have HT:=hid ht2
 have PA2:Hid (qK 11 #[St x] (.tuple #[St u,.string d,.int .i64 0])):=hid (by rw[hd];exact PA.out)
 clear ht ht2 hd hds PA
 go_enter Tryz.func120,Tryz.ntmps120
 go_wp2_with fail
 refine(PA2.out _ HW.out).mono ?_
 rintro e w1 ⟨rfl,hb1⟩
 have B1:=hid hb1;clear hb1
 go_wp2_with fail
 refine(HT.out w1).mono ?_
 rintro e w2 ⟨rfl,hw2⟩
 have B2:Hid (qL w w2):=hid (by rw[hw2];exact B1.out)
 clear hw2
 go_wp2_with fail
 go_ret
 exact⟨rfl,B2.out⟩
theorem z6z (c r:List UInt8) (L:Hid (qK 120 #[St c] (.bool false))) (w:zA) (HW:Hid (Wd w)):
 qJ 119 #[.agg #[St c,St r]] w (.bool false):=by
 obtain⟨v1,hv⟩:∃v1,v1=w.alloc (.cells #[St c,St r] 51):=⟨_,rfl⟩
 have a1:qL w v1:=by rw[hv];exact(zM _ w).alloc (zN _) _
 have A1:v1.heap[w.heap.size]? =some (.cells #[St c,St r] 51 (0,0)):=by rw[hv];exact zG w _
 have k0:v1.cell? ⟨w.heap.size,0,none⟩=some (St c):=by rw[zJ A1];rfl
 rw[hv] at k0
 have HV1:=hid hv.symm
 have E1:=hid a1
 clear hv a1 A1
 go_enter Tryz.func119,Tryz.ntmps119
 go_wp2_with fail
 rw[HV1.out]
 clear k0 HV1
 refine(L.out v1 (HW.out.below E1.out)).mono ?_
 rintro e y1 ⟨rfl,hb1⟩
 have E2:=hid (E1.out.trans (hb1.mono E1.out.size));clear hb1
 go_wp2_with fail
 go_ret
 exact⟨rfl,E2.out⟩
theorem z5e (a ar b br:List UInt8) (n:Int) (CM:Hid (qK 10 #[St ar,St br] (.tuple #[.int .i64 n,.int .i64 0]))) (w:zA) (HW:Hid (Wd w)):
 qJ 111 #[.agg #[St a,St ar],.agg #[St b,St br]] w (.int .i64 n):=by
 obtain⟨v1,hv⟩:∃v1,v1=w.alloc (.cells #[St a,St ar] 51):=⟨_,rfl⟩
 have a1:qL w v1:=by rw[hv];exact(zM _ w).alloc (zN _) _
 have A1:v1.heap[w.heap.size]? =some (.cells #[St a,St ar] 51 (0,0)):=by rw[hv];exact zG w _
 have s1:v1.heap.size=w.heap.size+1:=by rw[hv];simp
 obtain⟨v2,hv2⟩:∃v2,v2=v1.alloc (.cells #[St b,St br] 51):=⟨_,rfl⟩
 have a2:qL v1 v2:=by rw[hv2];exact(zM _ v1).alloc (zN _) _
 have A2:v2.heap[w.heap.size+1]? =some (.cells #[St b,St br] 51 (0,0)):=by rw[hv2,<-s1];exact zG v1 _
 have A3:=zac a2 _ _ _ _ A1
 have k0:v2.cell? ⟨w.heap.size,1,none⟩=some (St ar):=by rw[zJ A3];rfl
 have k1:v2.cell? ⟨w.heap.size+1,1,none⟩=some (St br):=by rw[zJ A2];rfl
 have E1:=hid (a1.trans (a2.mono a1.size))
 rw[hv] at hv2
 rw[hv2] at k0 k1
 have HV:=hid hv2.symm
 clear hv hv2 a1 a2 A1 A2 A3 s1
 go_enter Tryz.func111,Tryz.ntmps111
 go_wp2_with fail
 rw[HV.out]
 clear k0 k1 HV
 refine(CM.out v2 (HW.out.below E1.out)).mono ?_
 rintro e y1 ⟨rfl,hb1⟩
 have E2:=hid (E1.out.trans (hb1.mono E1.out.size));clear hb1
 go_wp2_with fail
 go_ret
 exact⟨rfl,E2.out⟩
theorem z60 (g cap:Nat) (x0 y0 x1 y1:List UInt8) (n:Int) (hn:decide (n<0)=false)
 (CM:Hid (qK 111 #[.agg #[St x1,St y1],.agg #[St x0,St y0]] (.int .i64 n)))
 (w:zA) (HW:Hid (Wd w)) (HC:Hid (w.cell? ⟨g,0,none⟩=some (St x0)/\w.cell? ⟨g,1,none⟩=some (St y0)/\w.cell? ⟨g,2,none⟩=some (St x1)/\w.cell? ⟨g,3,none⟩=some (St y1))):
 zC zF 207 #[.slice (some ⟨g,0,none⟩) 2 cap,.int .i64 0,.int .i64 2,.func (.func 111) #[] #[]] w λe w'=>(∃u,e=.returned u)/\zB w.heap.size w w':=by
 go_enter Tryz.func207,Tryz.ntmps207
 go_wp2_with fail
 refine wp_loop_rounds 2 ?_
 rw[rounds_succ]
 go_wp2_with fail
 refine wp_loop_rounds 1 ?_
 rw[rounds_succ]
 go_wp2_with fail
 refine zbl (λ_ W=>qL w W) (by kernel_rfl) (by kernel_rfl) (zM _ _).drew ?_
 refine qR (.int .i64 1) ?_
 simp only[zzQ]
 refine qR (.int .i64 0) ?_
 simp only[zzQ]
 refine qR (.bool true) ?_
 simp only[zzQ]
 refine qR (.bool true) ?_
 simp only[zzQ]
 refine qR (.func (.func 111) #[] #[]) ?_
 simp only[zzQ]
 refine qR (.slice (some ⟨g,0,none⟩) 2 cap) ?_
 simp only[zzQ]
 refine qR (.int .i64 1) ?_
 simp only[zzQ]
 refine qR (.pointer (some ⟨g,2,none⟩)) ?_
 simp only[zzQ]
 refine qR (.agg #[St x1,St y1]) ?_ (hy:=λf W' hf h=>by obtain⟨c0,c1,c2,c3⟩:=HC.out;have d0:=zai h c2;have d1:=zai h c3;go_simp)
 simp only[zzQ]
 refine qR (.slice (some ⟨g,0,none⟩) 2 cap) ?_
 simp only[zzQ]
 refine qR (.int .i64 1) ?_
 simp only[zzQ]
 refine qR (.int .i64 0) ?_ (hy:=λf W' hf h=>by go_simp;decide)
 simp only[zzQ]
 refine qR (.pointer (some ⟨g,0,none⟩)) ?_
 simp only[zzQ]
 refine qR (.agg #[St x0,St y0]) ?_ (hy:=λf W' hf h=>by obtain⟨c0,c1,c2,c3⟩:=HC.out;have d0:=zai h c0;have d1:=zai h c1;go_simp)
 simp only[zzQ]
 refine zar (.int .i64 n) (by rfl) (λf W' hf h C' hC'=>by
  go_simp
  refine(CM.out _ (HW.out.below h)).mono ?_
  rintro e w' ⟨rfl,hb⟩
  exact⟨rfl,hC' _ (h.trans (hb.mono h.size))⟩) ?_
 try simp only[zzQ]
 refine qR (.bool false) ?_
 simp only[zzQ]
 refine qR (.bool false) ?_
 simp only[zzQ]
 refine zck λf X hf h=>?_
 have HB:=hid h
 clear hf h
 go_wp2_with fail
 rw[rounds_succ]
 go_wp2_with fail
 go_end0
 exact⟨⟨_,rfl⟩,HB.out⟩
theorem z8o (v f:Value) (n:Int) (w:zA)
 (IN:Hid (zC zF 207 #[v,.int .i64 0,.int .i64 2,f] w λe w'=>(∃u,e=.returned u)/\zB w.heap.size w w')):
 zC zF 153 #[v,.int .i64 0,.int .i64 2,.int .i64 n,f] w λe w'=>(∃u,e=.returned u)/\zB w.heap.size w w':=by
 go_enter Tryz.func153,Tryz.ntmps153
 go_wp2_with fail
 refine wp_loop_rounds 1 ?_
 rw[rounds_succ]
 go_wp2_with fail
 refine IN.out.mono ?_
 rintro e w' ⟨⟨u,rfl⟩,hb⟩
 have HB:=hid hb;clear hb
 go_wp2_with fail
 refine bodyPost_ret (results_none rfl _ _ _) rfl ?_
 exact⟨⟨_,rfl⟩,HB.out⟩
theorem z8g (g cap:Nat) (x0 y0 x1 y1:List UInt8) (n:Int) (hn:decide (n<0)=false)
 (CM:Hid (qK 111 #[.agg #[St x1,St y1],.agg #[St x0,St y0]] (.int .i64 n)))
 (w:zA) (HW:Hid (Wd w)) (HC:Hid (w.cell? ⟨g,0,none⟩=some (St x0)/\w.cell? ⟨g,1,none⟩=some (St y0)/\w.cell? ⟨g,2,none⟩=some (St x1)/\w.cell? ⟨g,3,none⟩=some (St y1))):
 zC zF 110 #[.slice (some ⟨g,0,none⟩) 2 cap,.func (.func 111) #[] #[]] w λe w'=>(∃u,e=.returned u)/\zB w.heap.size w w':=by
 have hl:=Tryz.bits_Len 2 w (by omega) (by omega)
 have HL:=hid hl;clear hl
 have HI:=hid λm=>z8o _ _ m w (hid (z60 g cap x0 y0 x1 y1 n hn CM w HW HC))
 go_enter Tryz.func110,Tryz.ntmps110
 go_wp2_with fail
 refine HL.out.mono ?_
 rintro e w' ⟨rfl,rfl⟩
 go_wp2_with fail
 refine(HI.out _).mono ?_
 rintro e w'' ⟨⟨u,rfl⟩,hb⟩
 have HB:=hid hb;clear hb
 go_wp2_with fail
 go_end0
 exact⟨⟨_,rfl⟩,HB.out⟩
theorem zly {W:zA} {B n c:Nat} {q:Option Addr} {l:List (List UInt8×List UInt8)} (h:W.ownsRow B 51 2 (.slice q n c) n (zbj l)) (h0:0<n):
 n<=c/\∃g,q=some ⟨g,0,none⟩/\B<=g/\g<W.heap.size/\(∀j u,(zbj l)[j]? =some u->W.cell? ⟨g,j,none⟩=some u)/\∀(i:Nat) (c:List UInt8×List UInt8),l[i]? =some c->W.cell? ⟨g,i*2,none⟩=some (St c.1)/\W.cell? ⟨g,i*2+1,none⟩=some (St c.2):=by
 obtain⟨g,c',e,hg,hx⟩:=zye h h0
 have hl:=(h.lt g (by rw[e];rfl)).2
 have hnc:n<=c:=by
  rcases h.2 with⟨e1,_⟩|⟨g',cp,cur,e1,_,_,h1,_⟩
  ·cases e1;omega
  ·cases e1;exact h1
 injection e with e1 _ _
 exact⟨hnc,g,e1,hg,hl,λj u hu=>hx j u hu,λi d hi=>⟨hx _ _ (zpb l i d hi).1,hx _ _ (zpb l i d hi).2⟩⟩
theorem z61 (a b c:Rat) (i j:Nat) (hi:0<i) (hj:0<j) (hij:i+j<=300) (ha:sz a i) (hb:sz b j) (h:a*b=c) (W:zA) (hW:Wd W):qJ 8 #[St (numS a),St (numS b)] W (.tuple #[St (numS c),.int .i64 0]):=by
 rw[<-h];exact zjf a b i j hi hj hij ha hb W hW
theorem z9h (a b:Rat) (ha:sz a 2) (hb:sz b 2) (n:Int) (h:Geo.cmpR a b=n) (W:zA) (hW:Wd W):qJ 10 #[St (numS a),St (numS b)] W (.tuple #[.int .i64 n,.int .i64 0]):=by
 rw[<-h];exact zgq a b 2 2 (by omega) (by omega) (by omega) ha hb W hW
theorem z8v (q:Rat) (h:sz q 2):∃n:Int,n<=2/\qK 109 #[St (numS q)] (.int .i64 n):=by
 have d:=zok (k:=2) (by omega) h
 have d2:digs (q.den:Int)<=2:=by rw[zd9];exact d.2
 exact⟨max (digs q.num:Int) (digs (q.den:Int):Nat),by have:=d.1;omega,λW hW=>znp q (zd0 (by omega) (by omega) h) W hW⟩
def a2X (a:Rat) (i:Nat):List UInt8:=if i=0 then numS a else numS (-1)
def a2Y (i:Nat):List UInt8:=if i=0 then numS 1 else numS 2
def a2L (a:Rat):Nat->List (List UInt8×List UInt8)
 |0=>[]
 |1=>[(numS a,numS 1)]
 |_=>[(numS a,numS 1),(numS (-1),numS 2)]
theorem zsf {a:Rat} (h:a≠0):(numS a==[48])=false:=by rw[beq_eq_false_iff_ne];exact λe=>h ((zpy a).1 e)
theorem z8w (a:Rat) (ha:a≠0) (sa:sz a 2) (gb:Nat):∀i,i<2->∃one k n m ln,VisC gb (a2X a i) (a2Y i) (GatL gb (a2L a i)) (GatL gb (a2L a (i+1))) one k n m ln
 |0,_=>⟨true,numS 1,numS 1,numS a,1,zsf ha,by show(numS 1==[48])=false;rw[zfc];rfl,by show(numS 1==[49])=true;rw[zfc];rfl,λ_=>⟨zfc,rfl⟩,λh=>(by cases h),λW hW=>zjn 1 zb7.2.1 zj9.1 W hW,by decide,λW hW=>z61 a 1 a 2 1 (by omega) (by omega) (by omega) sa zb7.2.1 (by rw[Rat.mul_one]) W hW,λW W' h hb=>GatL.keep h (zac hb),λW hW h=>
    zot gb [] _ _ (by decide) (hid λi c hc=>by simp at hc) W (hid hW) (hid h)⟩
 |1,_=>⟨false,numS 1,numS 2,numS (-1),1,by show(numS (-1)==[48])=false;rw[nm_1];rfl,by show(numS 2==[48])=false;rw[nm2];rfl,by show(numS 2==[49])=false;rw[nm2];rfl,λh=>(by cases h),λ_ W hW hP=>zqk 2 1 2 (by omega) (by omega) zln.2.1 W hW hP,λW hW=>zjn 2 zb7.2.2.1 zj9.2.1 W hW,by decide,λW hW=>zlk (-1) 1 (-1) zb7.2.2.2.2.1 zb7.2.1 (by decide+kernel) W hW,λW W' h hb=>GatL.keep h (zac hb),λW hW h=>
    zot gb [(numS a,numS 1)] _ _ (by simp) (hid λi c hc=>⟨_,by
     match i,hc with
     |0,hc=>simp at hc;subst hc;exact λW hW=>zxa W hW
     |_+1,hc=>simp at hc⟩) W (hid hW) (hid h)⟩
theorem z3a (a:Rat) (ha:a≠0):∀i,zin (a2L a i)=a2L a i
 |0=>rfl
 |1=>by simp[zin,a2L,zsf ha]
 |_+2=>by simp[zin,a2L,zsf ha,zsf (show(-1:Rat)≠0 by decide)]
theorem zzf (a:Rat):∀i,i<=2->(a2L a i).length=i
 |0,_=>rfl
 |1,_=>rfl
 |2,_=>rfl
theorem z6i (a:Rat) (ha:a≠0) (sa:sz a 2) (n:Nat) (h0:0<n) (hn:n<=2) (q:Option Addr) (c:Nat) (w:zA) (HW:Hid (∀W,qL w W->Wd W)) (HP:Hid (∀W,qL w W->Pw W))
 (HT:Hid (∀i,i<n->∃b off,q=some ⟨b,off,none⟩/\b<w.heap.size/\w.cell? ⟨b,off+i*2,none⟩=some (St (a2X a i))/\w.cell? ⟨b,off+i*2+1,none⟩=some (St (a2Y i)))):
 zC zF 56 #[.slice q n c] w λe w'=>∃q' c',e=.returned (.tuple #[.slice q' n c',.int .i64 0])/\zB w.heap.size w w'/\w'.ownsRow w.heap.size 51 2 (.slice q' n c') n (zbj (a2L a n)):=by
 have ok1:=zfj 1 (zm5 zb7.2.1)
 have ok2:=zfj 2 (zm5 zb7.2.2.1)
 have oka:=zfj a (zd0 (by omega) (by omega) sa)
 have okm:=zfj (-1) (zm5 zb7.2.2.2.2.1)
 have hkl:(zin (a2L a n)).length=n:=by rw[z3a a ha,zzf a n hn]
 have hm:=z43 q c n (a2X a) a2Y (a2L a n) (a2L a n) (by omega) (by rw[zzf a n hn];omega) (by rw[hkl];omega)
  (hid λi hi W hW=>by unfold a2X;split;exact oka W hW;exact okm W hW)
  (hid λi hi W hW=>by unfold a2Y;split;exact ok1 W hW;exact ok2 W hW)
  (hid λi hi W=>by unfold a2Y;split;exact znu _ (.inl zfc) W;exact znu _ (.inr (.inl nm2)) W)
  w HW HT
  (hid λu vg h1 h2 h3 h4=>by
    have hs:=h1.size
    exact z4e u.heap.size q c n (a2X a) a2Y (λi=>GatL u.heap.size (a2L a i)) (by omega) (hid λi hi=>z8w a ha sa u.heap.size i (by omega)) vg (by omega)
     (hid λW h=>HW.out _ (h1.trans ((h2.trans h).mono hs))) (hid λW h=>HP.out _ (h1.trans ((h2.trans h).mono hs))) h4
     (hid λi hi=>by
       obtain⟨b,off,e,hb,c0,c1⟩:=HT.out i hi
       have hB:qL w vg:=h1.trans (h2.mono hs)
       exact⟨b,off,e,by omega,by rw[hB.cell (p:=⟨b,off+i*2,none⟩) hb];exact c0,by rw[hB.cell (p:=⟨b,off+i*2+1,none⟩) hb];exact c1⟩))
  (hid λi c hc h0=>by
    obtain⟨k,hk,hka⟩:=z8v a sa
    have hi:c=(numS a,numS 1)\/c=(numS (-1),numS 2):=by
     match n,hn,hc with
     |0,_,hc=>simp[a2L] at hc
     |1,_,hc=>have:=List.mem_of_getElem? hc;simp[a2L] at this;exact .inl this
     |2,_,hc=>have:=List.mem_of_getElem? hc;simp[a2L] at this;exact this
    rcases hi with rfl|rfl
    ·exact⟨k,1,λW hW=>hka W hW,λW hW=>zjn 1 zb7.2.1 zj9.1 W hW,by rw[decide_eq_false];omega,by decide⟩
    ·exact⟨1,1,λW hW=>zjn (-1) zb7.2.2.2.2.1 zj9.2.2 W hW,λW hW=>zjn 2 zb7.2.2.1 zj9.2.1 W hW,by decide,by decide⟩)
  (hid λB W q c h1 h2 h3 h4=>by
    rw[z3a a ha,zzf a n hn] at h4⊢
    match n,h0,hn with
    |1,_,_=>exact(z0d q c _ W).mono λe w' ⟨h5,h6⟩=>⟨h5,by rw[h6];exact zM _ _,by rw[h6];exact h4⟩
    |2,_,_=>
     obtain⟨-,g,rfl, -, -, -,hx⟩:=zly h4 (by omega)
     obtain⟨c0,c1⟩:=hx 0 _ rfl
     obtain⟨c2,c3⟩:=hx 1 _ rfl
     have hW:=HW.out W h1
     refine(z8g g c (numS a) (numS 1) (numS (-1)) (numS 2) 1 (by decide) (hid λV hV=>z5e _ _ _ _ 1 (hid λU hU=>z9h 2 1 (zb7.2.2.1.mono (by omega)) (zb7.2.1.mono (by omega)) 1 (by decide+kernel) U hU) V (hid hV)) W (hid hW) (hid ⟨c0,c1,c2,c3⟩)).mono λe w' ⟨h5,h6⟩=>⟨h5,h6.mono h3,zcj (zac h6) h4⟩)
 rw[z3a a ha,zzf a n hn] at hm
 exact hm
theorem zui:∀(l:List (List UInt8×List UInt8)),∀u∈zbj l,u.oneCell'=true
 |[],u,h=>by simp[zbj] at h
 |a::r,u,h=>by
  rcases List.mem_cons.1 h with rfl|h
  ·rfl
  ·rcases List.mem_cons.1 h with rfl|h
   ·rfl
   ·exact zui r u h
theorem zpa {w:zA} {base:Nat} {e:TypeId} {s:Nat} {v:Value} {n:Nat} {xs:List Value} (h:w.ownsRow base e s v n xs):∃q c,v=.slice q n c:=by
 rcases h.2 with⟨rfl,rfl⟩|⟨g,cp,cur,rfl,_⟩
 ·exact⟨none,0,rfl⟩
 ·exact⟨_,cp,rfl⟩
def catT (l1 l2:List (List UInt8×List UInt8)):Nat->List (List UInt8×List UInt8)
 |0=>[]
 |1=>l1
 |_=>l1++l2
theorem z62 (n:Nat) (h1:1<=n) (hn:n<=10000) (w:zA):
 zC zF 112 #[.slice none 0 0,.int .i64 (n:Int)] w λe w'=>∃v,e=.returned v/\w'.ownsRow w.heap.size 51 2 v 0 []/\zB w.heap.size w w':=by
 obtain⟨i0,hi,hz0,hz1,hz2⟩:=info_parts zsc
 have hrz:∀ty,(Builtin.append_ #[37,3] ty #[.slice none 0 0,.int .i64 (n:Int)]).run zF w=
  .ok (.slice (some ⟨w.heap.size,0,none⟩) n (grownCap w n 0 51)) (w.drew.alloc (.cells (#[]++Builtin.zeroCells (Value.agg #[St [],St []]).cells n++Builtin.zeroCells (Value.agg #[St [],St []]).cells (grownCap w n 0 51-n)) 51)):=λty=>by
  have h:=Lib.run_append_grow_zeros w 37 3 ty 51 i0 (.agg #[St [],St []]) .i64 .i64 Tryz.underlying37 Tryz.underlying3 hi hz0 none 0 0 [] (run_firstCells_none w.drew i0.size 0 0 0) n h1 (by omega) (by omega) (by omega) (by rw[hz2];omega) (by rw[hz2];exact growslice_fits (by omega) (by omega))
  simpa using h
 have hGn:n<=grownCap w n 0 51:=grownCap_ge w _ _ _
 have hGm:grownCap w n 0 51<=maxLen:=grownCap_le_maxLen w n 0 51 (by unfold maxLen;omega)
 generalize grownCap w n 0 51=G at*
 have HR:=hid (hrz);clear hrz
 have HG:=hid (⟨hGn,hGm⟩:n<=G/\G<=maxLen)
 have hG63:G<=9223372036854775807:=by unfold maxLen at hGm;omega
 clear hi hz0 hz1 hz2 hGm
 have hn0:¬(n:Int)<0:=by omega
 have hn1:(0:Int)<n:=by omega
 have hw1:IntKind.i64.wrap (n:Int)=n:=zI _ ⟨by omega,by omega⟩
 go_enter Tryz.func112,Tryz.ntmps112
 go_wp2_with (at_builtin;refine Lib.wpList_append_run _ rfl _ _ _ _ rfl _ _ rfl rfl _ _ (HR.out _) ?_)
 go_ret
 refine⟨_,rfl,⟨rfl,.inr ⟨w.heap.size,G,_,rfl,zN _,zG w _,zR _,HG.out.2,?_,by simp⟩⟩,((zM _ w).alloc (zN _) _).drew⟩
 have:=HG.out.1
 rw[Array.size_append,size_zeroCells,size_zeroCells]
 show n*2+(G-n)*2=G*2
 omega
theorem z5g (b g1 o1 c1 g2 o2 c2 n1 n2 N:Nat) (l1 l2:List (List UInt8×List UInt8)) (hN:n1+n2=N) (hN2:N<=4096) (w:zA)
 (GR:Hid (∀W:zA,zC zF 112 #[.slice none 0 0,.int .i64 (N:Int)] W λe w'=>∃v,e=.returned v/\w'.ownsRow W.heap.size 51 2 v 0 []/\zB W.heap.size W w'))
 (hx:l1.length=n1) (hy:l2.length=n2)
 (HX:Hid (∀W:zA,qL w W->∀j u,(zbj l1)[j]? =some u->W.cell? ⟨g1,o1+j,none⟩=some u))
 (HY:Hid (∀W:zA,qL w W->∀j u,(zbj l2)[j]? =some u->W.cell? ⟨g2,o2+j,none⟩=some u))
 (HA:Hid (∀W:zA,qL w W->W.cell? ⟨b,0,none⟩=some (.slice (some ⟨g1,o1,none⟩) n1 c1)/\W.cell? ⟨b,1,none⟩=some (.slice (some ⟨g2,o2,none⟩) n2 c2))):
 zC zF 57 #[.slice (some ⟨b,0,none⟩) 2 2] w λe w'=>∃v,e=.returned v/\w'.ownsRow w.heap.size 51 2 v N (zbj (l1++l2))/\zB w.heap.size w w':=by
 obtain⟨a0,a1⟩:=HA.out w (zM _ _)
 have hw0:IntKind.i64.wrap (0+(n1:Int))=(n1:Int):=by rw[zI _ ⟨by omega,by omega⟩];omega
 have hw1:IntKind.i64.wrap ((n1:Int)+(n2:Int))=(N:Int):=by rw[zI _ ⟨by omega,by omega⟩];omega
 have hn0:¬(n1:Int)<0:=by omega
 have hn1:¬(N:Int)<0:=by omega
 go_enter Tryz.func57,Tryz.ntmps57
 go_wp2_with fail
 go_loopw [11,3] (λi z wr=>∃(k:Nat),k<=2/\i=.int .i64 (k:Int)/\z=.int .i64 (if k=0 then 0 else if k=1 then(n1:Int) else(N:Int))/\Hid (wr=w))
  (λi _ _=>2-(zL i).toNat)
 case atStart=>exact⟨0,zR _,rfl,rfl,hid rfl⟩
 case round=>
  obtain⟨k,hk,rfl,rfl,hB⟩:=hrel
  obtain rfl:=hB.out.symm
  clear hB
  match k,hk with
  |0,_=>
   go_wp2_with fail
   go_roundw
   case rel=>exact⟨1,by omega,by go_num,by simp,hid trivial⟩
   case measure=>simp[zL]
  |1,_=>
   go_wp2_with fail
   go_roundw
   case rel=>exact⟨2,by omega,by go_num,by simp,hid trivial⟩
   case measure=>simp[zL]
  |2,_=>
   go_wp2_with fail
   refine(GR.out w).mono ?_
   rintro e w1 ⟨v,rfl,hown,hb1⟩
   obtain⟨q0,c0,rfl⟩:=zpa hown
   have HO1:=hid hown;have HB1:=hid hb1
   clear hown hb1 GR hw0 hw1 hn0 hn1
   have HX0:=hid (⟨hx,hy,hN⟩:_/\_/\_)
   clear hx hy
   go_wp2_with fail
   go_loopw [27,6] (λi v wr=>∃(k:Nat) (q:Option Addr) (c':Nat),k<=2/\i=.int .i64 (k:Int)/\v=.slice q (catT l1 l2 k).length c'/\Hid (qL w wr)/\Hid (wr.ownsRow w.heap.size 51 2 (.slice q (catT l1 l2 k).length c') (catT l1 l2 k).length (zbj (catT l1 l2 k))))
    (λi _ _=>2-(zL i).toNat)
   case atStart=>exact⟨0,q0,c0,zR _,rfl,rfl,HB1,HO1⟩
   case round=>
    obtain⟨k,q,c',hk,rfl,rfl,hB,hO⟩:=hrel
    clear a0 a1
    obtain⟨a0,a1⟩:=HA.out wr hB.out
    obtain⟨i0,hi,hz0,hz1,hz2⟩:=info_parts zsc
    have HD:=hid (⟨hi,hz0,hz1,hz2⟩:_/\_/\_/\_)
    clear hi hz0 hz1 hz2
    have HN0:=hid (show ∀j u,(zbj l1)[j]? =some u->wr.cell? ((⟨g1,o1,none⟩:Addr).add j)=some u from λj u hu=>by
     have ea:(⟨g1,o1,none⟩:Addr).add j=⟨g1,o1+j,none⟩:=by unfold Addr.add;split<;>simp_all
     rw[ea]
     exact HX.out wr hB.out _ _ hu)
    have HN1:=hid (show ∀j u,(zbj l2)[j]? =some u->wr.cell? ((⟨g2,o2,none⟩:Addr).add j)=some u from λj u hu=>by
     have ea:(⟨g2,o2,none⟩:Addr).add j=⟨g2,o2+j,none⟩:=by unfold Addr.add;split<;>simp_all
     rw[ea]
     exact HY.out wr hB.out _ _ hu)
    have HL:=hid (show(catT l1 l2 k).length<=4096 by
     obtain⟨e1,e2,e3⟩:=HX0.out
     match k,hk with
     |0,_=>exact zR _
     |1,_=>show l1.length<=4096;omega
     |2,_=>show(l1++l2).length<=4096;rw[zU];omega)
    match k,hk with
    |0,_=>
     go_wp2_with (at_builtin;refine wpList_append_own_at _ rfl _ _ 37 rfl w.heap.size 51 i0 (.agg #[St [],St []]) 2 32 Tryz.underlying37 HD.out.1 HD.out.2.1 HD.out.2.2.1 HD.out.2.2.2 rfl (by decide) (.slice q (catT l1 l2 0).length c') (catT l1 l2 0).length (zbj (catT l1 l2 0)) rfl hO.out ⟨g1,o1,none⟩ n1 c1 (zbj l1) rfl (by rw[zn8,HX0.out.1]) HN0.out (zui _) (by have:=HL.out;unfold maxLen;omega) (by have:=HL.out;omega) hB.out.size ?_)
     intro v' w2 hown' hgrow hnil hat
     obtain⟨q',c3,rfl⟩:=zpa hown'
     have HB2:=hid (hB.out.grown hgrow hB.out.size (λg e=>(hO.out.lt g e).1))
     have HO2:=hid (show w2.ownsRow w.heap.size 51 2 (.slice q' (catT l1 l2 1).length c3) (catT l1 l2 1).length (zbj (catT l1 l2 1)) by
      have e:catT l1 l2 1=catT l1 l2 0++l1:=(List.nil_append _).symm
      rw[e,zU,HX0.out.1,zjb];exact hown')
     have HE:=hid (show(catT l1 l2 0).length+n1=(catT l1 l2 1).length by
      have e:catT l1 l2 1=catT l1 l2 0++l1:=(List.nil_append _).symm
      rw[e,zU,HX0.out.1])
     clear hown' hgrow hnil hat
     go_wp2_with fail
     go_roundw
     case rel=>exact⟨1,q',c3,by omega,by go_num,by rw[<-HE.out],HB2,HO2⟩
     case measure=>simp[zL]
    |1,_=>
     go_wp2_with (at_builtin;refine wpList_append_own_at _ rfl _ _ 37 rfl w.heap.size 51 i0 (.agg #[St [],St []]) 2 32 Tryz.underlying37 HD.out.1 HD.out.2.1 HD.out.2.2.1 HD.out.2.2.2 rfl (by decide) (.slice q (catT l1 l2 1).length c') (catT l1 l2 1).length (zbj (catT l1 l2 1)) rfl hO.out ⟨g2,o2,none⟩ n2 c2 (zbj l2) rfl (by rw[zn8,HX0.out.2.1]) HN1.out (zui _) (by have:=HL.out;unfold maxLen;omega) (by have:=HL.out;omega) hB.out.size ?_)
     intro v' w2 hown' hgrow hnil hat
     obtain⟨q',c3,rfl⟩:=zpa hown'
     have HB2:=hid (hB.out.grown hgrow hB.out.size (λg e=>(hO.out.lt g e).1))
     have HO2:=hid (show w2.ownsRow w.heap.size 51 2 (.slice q' (catT l1 l2 2).length c3) (catT l1 l2 2).length (zbj (catT l1 l2 2)) by
      have e:catT l1 l2 2=catT l1 l2 1++l2:=rfl
      rw[e,zU,HX0.out.2.1,zjb];exact hown')
     have HE:=hid (show(catT l1 l2 1).length+n2=(catT l1 l2 2).length by
      have e:catT l1 l2 2=catT l1 l2 1++l2:=rfl
      rw[e,zU,HX0.out.2.1])
     clear hown' hgrow hnil hat
     go_wp2_with fail
     go_roundw
     case rel=>exact⟨2,q',c3,by omega,by go_num,by rw[<-HE.out],HB2,HO2⟩
     case measure=>simp[zL]
    |2,_=>
     have HE:=hid (show(catT l1 l2 2).length=N by
      obtain⟨e1,e2,e3⟩:=HX0.out
      show(l1++l2).length=N;rw[zU];omega)
     go_wp2_with fail
     go_ret
     refine⟨_,rfl,?_,hB.out⟩
     have:=hO.out
     rw[HE.out] at this
     rw[HE.out]
     exact this
theorem z4o (x y q r:Int) (hx0:0<=x) (hy0:0<y) (hd:x.tdiv y=q) (hm:x.tmod y=r) (hr0:0<=r) (hz:¬r=0) (hqa:q.natAbs<=x.natAbs) (hra:r.natAbs<=x.natAbs) (hx:(zE x).length<=18) (hy:(zE y).length<=18) (w:zA) (hw:Wd w):
 qJ 76 #[St (zE x),St (zE y)] w (.tuple #[St (zE q),St (zE r),.int .i64 0]):=by
 obtain⟨x1,x2⟩:=lt18 hx
 obtain⟨y1,y2⟩:=lt18 hy
 have hb:=λW=>zdh x y (Nat.le_trans (zbf (by omega)) (by omega)) (Nat.le_trans (zbf (by omega)) (by omega)) W
 have hs:=λW=>zdy x y hx hy W
 have hit:=λW hW=>zb3 q (by omega) (by omega) W hW
 have hiz:=λW hW=>zb3 r (by omega) (by omega) W hW
 have w1:IntKind.i64.wrap (x.tdiv y)=q:=by rw[hd];exact zI _ (by omega)
 have w2:IntKind.i64.wrap (x.tmod y)=r:=by rw[hm];exact zI _ (by omega)
 have hme:¬x%y=0:=by rw[<-Int.tmod_eq_emod_of_nonneg hx0,hm];exact hz
 have hre:x%y=r:=by rw[<-Int.tmod_eq_emod_of_nonneg hx0,hm]
 have hrn:decide (x%y<0)=false:=decide_eq_false (by rw[hre];omega)
 have HRE:=hid hre;clear hre
 have hyl:decide (y<0)=false:=decide_eq_false (by omega)
 have hyn:(zE y==[48])=false:=by rw[beq_eq_false_iff_ne,<-zb9];exact λh=>by have:=zdo h;omega
 have hne:¬zE y=[48]:=by simpa using hyn
 have hy1:¬y=0:=by omega
 have HB:=hid hb;clear hb
 have HIT:=hid hit;clear hit
 have HIZ:=hid hiz;clear hiz
 have HS:=hid hs;
 have HQD:=hid hd;have HMD:=hid hm;clear hs hx hy hd hm hqa hra
 have HW:=hid hw;clear hw
 go_enter Tryz.func76,Tryz.ntmps76
 go_wp2_with fail
 refine(HB.out w).mono ?_
 rintro e w3 ⟨rfl,hB1⟩
 go_wp2_with fail
 refine(HS.out w3).mono ?_
 rintro e w4 ⟨rfl,hb2⟩
 have hB2:=hB1.trans (hb2.mono hB1.size)
 clear hb2 hB1
 go_wp2_with fail
 (refine wp_region_quiet_lit (by kernel_rfl) (by kernel_rfl) (WQ.out ?_);(repeat(first|(apply WQ.read (by rfl);(focus(rintro W ⟨n,rfl⟩;go_simp;try with_reducible rfl));try simp only[zzQ])|(apply WQ.skip (by rfl);try simp only[zzQ])));refine WQ.nil ?_;rintro _ ⟨nq,rfl⟩)
 go_wp2_with fail
 have hB3:=zao hB2 nq
 refine(HIT.out (w4.drewN nq) (HW.out.below hB3)).mono ?_
 rintro e w5 ⟨rfl,hb5⟩
 have hB5:=hB3.trans (hb5.mono hB3.size)
 clear hb5 hB3 hB2
 go_wp2_with fail
 rw[HRE.out]
 refine(HIZ.out w5 (HW.out.below hB5)).mono ?_
 rintro e w6 ⟨rfl,hb6⟩
 have hB6:=hB5.trans (hb6.mono hB5.size)
 clear hb6 hB5
 go_wp2_with fail
 go_ret3
 exact⟨rfl,hB6⟩
theorem z58 (x y q r:Int) (hx0:0<=x) (hy0:0<y) (hq:((x.natAbs/y.natAbs:Nat):Int)=q) (hr:((x.natAbs%y.natAbs:Nat):Int)=r) (hx:digs x<=300) (hy:digs y<=300) (h:18<(zE x).length\/18<(zE y).length) (w:zA) (hw:Wd w):
 qJ 76 #[St (zE x),St (zE y)] w (.tuple #[St (zE q),St (zE r),.int .i64 0]):=by
 have hb:=λW=>zdh x y hx hy W
 have hs:=λW=>ze8 x y h W
 have r1:=λW=>zc3 x W (by omega)
 have r2:=λW=>zc3 y W (by omega)
 have l1:=zb4 (z:=x) (k:=100) (by omega) (by omega)
 have l2:=zb4 (z:=y) (k:=100) (by omega) (by omega)
 have hqd:digs q<=300:=by
  have hqa:q.natAbs<=x.natAbs:=by rw[<-hq,Int.natAbs_natCast];exact Nat.div_le_self _ _
  rw[za3 _ _ (by omega)] at hx⊢
  exact Nat.lt_of_le_of_lt hqa hx
 have hrd:digs r<=300:=by
  have hra:r.natAbs<=x.natAbs:=by rw[<-hr,Int.natAbs_natCast];exact Nat.mod_le _ _
  rw[za3 _ _ (by omega)] at hx⊢
  exact Nat.lt_of_le_of_lt hra hx
 have lr:=zd6 (B:=B9) (by decide) (Nat.mod_le x.natAbs y.natAbs)
 have hyn:(zE y==[48])=false:=by rw[beq_eq_false_iff_ne,<-zb9];exact λh=>by have:=zdo h;omega
 have hne:¬zE y=[48]:=by simpa using hyn
 have hm0:y.natAbs≠0:=by omega
 have lq:=zd6 (B:=B9) (by decide) (Nat.div_le_self x.natAbs y.natAbs)
 have HB:=hid hb;clear hb
 have HS:=hid hs;clear hs hx hy h
 have HW:=hid hw;clear hw
 have R1:=hid r1;have R2:=hid r2;clear r1 r2
 have S1:=hid hq;have S2:=hid hr;clear hq hr
 go_enter Tryz.func76,Tryz.ntmps76
 go_wp2_with fail
 refine(HB.out w).mono ?_
 rintro e w1 ⟨rfl,hB1⟩
 go_wp2_with fail
 refine(HS.out w1).mono ?_
 rintro e w2 ⟨rfl,rfl⟩
 go_wp2_with fail
 refine(R1.out w1).mono ?_
 rintro e w2 ⟨vx,rfl,hvx,hb2⟩
 have hB2:=hB1.trans (hb2.mono hB1.size)
 clear hb2 hB1
 obtain⟨px,kx,cx,rfl, -⟩:=zbx hvx
 have HVX:=hid hvx;clear hvx
 go_wp2_with fail
 refine(R2.out w2).mono ?_
 rintro e w3 ⟨vy,rfl,hvy,hb3⟩
 have hvx:=HVX.out.below hb3
 have hB3:=hB2.trans (hb3.mono hB2.size)
 clear hb3 hB2 HVX
 obtain⟨py,ky,cy,rfl, -⟩:=zbx hvy
 have HVX:=hid hvx;have HVY:=hid hvy;clear hvx hvy
 have hby2:decide (y<0)=false:=by simp;omega
 have hbx2:decide (x<0)=false:=by simp;omega
 rw[hby2,hbx2] at*
 clear hbx2 hby2
 go_wp2_with fail
 have hB4:=(hB3.alloc hB3.size (.cells #[.bool false,.slice px kx cx] 81)).alloc (by have:=hB3.size;simp;omega) (.cells #[.bool false,.slice py ky cy] 81)
 have hb4:qL w3 ((w3.alloc (.cells #[.bool false,.slice px kx cx] 81)).alloc (.cells #[.bool false,.slice py ky cy] 81)):=((zM _ _).alloc (zN _) _).alloc (by simp) _
 have b1k:=(Below.heap_alloc (w3.alloc (.cells #[.bool false,.slice px kx cx] 81)) (.cells #[.bool false,.slice py ky cy] 81) w3.heap.size (by simp)).trans (zG w3 (.cells #[.bool false,.slice px kx cx] 81))
 have b2k:=zG (w3.alloc (.cells #[.bool false,.slice px kx cx] 81)) (.cells #[.bool false,.slice py ky cy] 81)
 rw[zH] at b2k
 refine(znf (.slice px kx cx) (.slice py ky cy) _ _ _ (HVX.out.below hb4) (HVY.out.below hb4) (by omega) (by omega) hm0).mono ?_
 rintro e w5 ⟨v1,v2,rfl,hs1,hs2,hb5⟩
 obtain⟨p1,k1,c1,rfl, -⟩:=zbx hs1
 obtain⟨p2,k2,c2,rfl,hk2⟩:=zbx hs2
 clear hk2
 have hB5:=hB4.trans (hb5.mono hB4.size)
 have b1k:=(hb5.block w3.heap.size (by simp only[zH];omega)).trans b1k
 have b2k:=(hb5.block (w3.heap.size+1) (by simp only[zH];omega)).trans b2k
 have c1k:w5.cell? ⟨w3.heap.size,0,none⟩=some (.bool false):=by simp[World.cell?,b1k]
 have c2k:w5.cell? ⟨w3.heap.size+1,0,none⟩=some (.bool false):=by simp[World.cell?,b2k]
 have lz:w3.heap.size+1<w5.heap.size:=(Array.getElem?_eq_some_iff.1 b2k).1
 have HV1:=hid hs1;have HV2:=hid hs2
 clear hb4 hB4 hb5 hs1 hs2 hB3 HVX HVY b1k b2k
 have rs:=zez (false !=false) (.slice p1 k1 c1) (x.natAbs/y.natAbs) w5 (HW.out.below hB5) HV1.out (by omega)
 rw[show sgn (false !=false) (x.natAbs/y.natAbs)=q from S1.out,zcf hqd,zcg hqd] at rs
 rw[Bool.bne_false] at rs
 have RS:=hid rs;clear rs
 go_wp2_with fail
 refine RS.out.mono ?_
 rintro e w6 ⟨rfl,hb6⟩
 have hB6:=hB5.trans (hb6.mono hB5.size)
 have d1:=(hb6.cell (p:=⟨w3.heap.size,0,none⟩) (by show w3.heap.size<w5.heap.size;omega)).trans c1k
 have d2:=(hb6.cell (p:=⟨w3.heap.size+1,0,none⟩) lz).trans c2k
 have rt:=zez false (.slice p2 k2 c2) (x.natAbs%y.natAbs) w6 (HW.out.below hB6) (HV2.out.below hb6) (by omega)
 rw[show sgn false (x.natAbs%y.natAbs)=r from S2.out,zcf hrd,zcg hrd] at rt
 have RT:=hid rt;clear rt hb6 c1k c2k hB5
 go_wp2_with fail
 refine RT.out.mono ?_
 rintro e w7 ⟨rfl,hb7⟩
 have hB7:=hB6.trans (hb7.mono hB6.size)
 clear hb7 hB6
 go_wp2_with fail
 go_ret3
 exact⟨rfl,hB7⟩
theorem zzn (a b:Nat) (hb:0<b) (ha:(zD a).length<=300) (hb3:(zD b).length<=300) (w:zA) (hw:Wd w):
 qJ 76 #[St (zD a),St (zD b)] w (.tuple #[St (zD (a/b)),St (zD (a%b)),.int .i64 0]):=by
 have e1:digs (a:Int)<=300:=by rw[zd9];exact ha
 have e2:digs (b:Int)<=300:=by rw[zd9];exact hb3
 rw[<-Str.zad a,<-Str.zad b,<-Str.zad (a/b),<-Str.zad (a%b)]
 by_cases hz:a%b=0
 ·rw[hz,show zE ((0:Nat):Int)=[48] from zb9]
  refine zky a b ((a/b:Nat):Int) ?_ (by omega) e1 e2 w hw
  have:=Nat.div_add_mod a b
  rw[hz,Nat.add_zero,Nat.mul_comm] at this
  rw[<-Int.natCast_mul,this]
 by_cases h:(zE a).length<=18/\(zE b).length<=18
 ·have hq:=Nat.div_le_self a b
  have hr:=Nat.mod_le a b
  exact z4o a b ((a/b:Nat):Int) ((a%b:Nat):Int) (by omega) (by omega) (by rw[Int.ofNat_tdiv]) (by rw[Int.ofNat_tmod]) (by omega) (by omega) (by rw[Int.natAbs_natCast,Int.natAbs_natCast];exact hq) (by rw[Int.natAbs_natCast,Int.natAbs_natCast];exact hr) h.1 h.2 w hw
 ·exact z58 a b ((a/b:Nat):Int) ((a%b:Nat):Int) (by omega) (by omega) rfl rfl e1 e2 (by omega) w hw
end Go.Proofs.YtpichfafdcfbhaaGreatDoor
