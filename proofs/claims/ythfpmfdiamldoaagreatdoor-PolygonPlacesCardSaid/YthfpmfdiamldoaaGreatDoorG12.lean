/- polygon.low, high. -/
import Derived.Test.YthfpmfdiamldoaaGreatDoorG11
import Derived.Lib.SmallJoins
set_option maxRecDepth 100000
set_option maxHeartbeats 8000000
open Go renaming World → zA
open Go.World renaming alloc_heap_new → zG, size_alloc → zH
open Go.IntWalk renaming i64_in → zI
open Go.Joins renaming block_setCell → zK
open Go.RowKit.Below renaming refl → zM, heap_setCell → yE
open Nat renaming le_refl → zN, lt_of_lt_of_le → zS
namespace Go.Proofs.YthfpmfdiamldoaaGreatDoor
section
open Go.RowKit Go.Shelf Lib Str Limb Geo
attribute [local go_sem] Oper.semAt_some
theorem z3e (x1 y1 x2 y2:List UInt8) (n:Int) (hn:decide ((0:Int)<n)=true)
 (O:Hid (qK 85 #[.agg #[St x1,St y1],.agg #[St x2,St y2]] (.int .i64 n))) (w:zA) (HW:Hid (Wd w)):
 qJ 83 #[.agg #[St x1,St y1,St x2,St y2]] w (.agg #[St x2,St y2]):=by
 obtain⟨W3,hW3⟩:∃W3,W3=(w.alloc (.cells #[St x1,St y1,St x2,St y2] 63)).alloc (.cells #[St [],St []] 25):=⟨_,rfl⟩
 have hB0:qL w W3:=by rw[hW3];exact((zM _ w).alloc (zN _) _).alloc (by simp) _
 have z0:W3.heap.size=w.heap.size+1+1:=by rw[hW3];simp
 have A3:W3.heap[w.heap.size]? =some (.cells #[St x1,St y1,St x2,St y2] 63 (0,0)):=by
  rw[hW3];exact(Below.heap_alloc _ _ _ (by simp only[zH];omega)).trans (zG w _)
 have B3:W3.heap[w.heap.size+1]? =some (.cells #[St [],St []] 25 (0,0)):=by
  have:=zG (w.alloc (.cells #[St x1,St y1,St x2,St y2] 63)) (.cells #[St [],St []] 25 (0,0))
  rw[zH] at this
  rw[hW3];exact this
 have HW3:=hid hW3;clear hW3
 go_enter Tryz.func83,Tryz.ntmps83
 go_wp2_with fail
 rw[<-HW3.out]
 refine(O.out _ (HW.out.below hB0)).mono ?_
 rintro e w4 ⟨rfl,hb4⟩
 have hB4:=hB0.trans (hb4.mono hB0.size)
 have A4:w4.heap[w.heap.size]? =some (.cells #[St x1,St y1,St x2,St y2] 63 (0,0)):=(hb4.block _ (by omega)).trans A3
 have B4:w4.heap[w.heap.size+1]? =some (.cells #[St [],St []] 25 (0,0)):=(hb4.block _ (by omega)).trans B3
 have a0:w4.cell? ⟨w.heap.size,0,none⟩=some (St x1):=by simp[World.cell?,A4]
 have a1:w4.cell? ⟨w.heap.size,1,none⟩=some (St y1):=by simp[World.cell?,A4]
 have a2:w4.cell? ⟨w.heap.size,2,none⟩=some (St x2):=by simp[World.cell?,A4]
 have a3:w4.cell? ⟨w.heap.size,3,none⟩=some (St y2):=by simp[World.cell?,A4]
 have b0:w4.cell? ⟨w.heap.size+1,0,none⟩=some (St []):=by simp[World.cell?,B4]
 have b1:w4.cell? ⟨w.heap.size+1,1,none⟩=some (St []):=by simp[World.cell?,B4]
 have f0:w4.frozen? ⟨w.heap.size+1,0,none⟩=false:=by simp[World.frozen?,B4]
 have f1:w4.frozen? ⟨w.heap.size+1,1,none⟩=false:=by simp[World.frozen?,B4]
 clear hb4 A3 B3 A4 B4 z0
 go_wp2_with fail
 refine bodyPost_ret (v:=.agg #[St x2,St y2]) (by simp[results,Tryz.results83,go_sem,b0,b1]) rfl ⟨rfl,?_⟩
 repeat(first|exact hB4|refine Below.setCell ?_ (by simp) _)
theorem z3f (x1 y1 x2 y2:List UInt8) (n:Int) (hn:decide ((0:Int)<n)=false)
 (O:Hid (qK 85 #[.agg #[St x1,St y1],.agg #[St x2,St y2]] (.int .i64 n))) (w:zA) (HW:Hid (Wd w)):
 qJ 83 #[.agg #[St x1,St y1,St x2,St y2]] w (.agg #[St x1,St y1]):=by
 obtain⟨W3,hW3⟩:∃W3,W3=(w.alloc (.cells #[St x1,St y1,St x2,St y2] 63)).alloc (.cells #[St [],St []] 25):=⟨_,rfl⟩
 have hB0:qL w W3:=by rw[hW3];exact((zM _ w).alloc (zN _) _).alloc (by simp) _
 have z0:W3.heap.size=w.heap.size+1+1:=by rw[hW3];simp
 have A3:W3.heap[w.heap.size]? =some (.cells #[St x1,St y1,St x2,St y2] 63 (0,0)):=by
  rw[hW3];exact(Below.heap_alloc _ _ _ (by simp only[zH];omega)).trans (zG w _)
 have B3:W3.heap[w.heap.size+1]? =some (.cells #[St [],St []] 25 (0,0)):=by
  have:=zG (w.alloc (.cells #[St x1,St y1,St x2,St y2] 63)) (.cells #[St [],St []] 25 (0,0))
  rw[zH] at this
  rw[hW3];exact this
 have HW3:=hid hW3;clear hW3
 go_enter Tryz.func83,Tryz.ntmps83
 go_wp2_with fail
 rw[<-HW3.out]
 refine(O.out _ (HW.out.below hB0)).mono ?_
 rintro e w4 ⟨rfl,hb4⟩
 have hB4:=hB0.trans (hb4.mono hB0.size)
 have A4:w4.heap[w.heap.size]? =some (.cells #[St x1,St y1,St x2,St y2] 63 (0,0)):=(hb4.block _ (by omega)).trans A3
 have B4:w4.heap[w.heap.size+1]? =some (.cells #[St [],St []] 25 (0,0)):=(hb4.block _ (by omega)).trans B3
 have a0:w4.cell? ⟨w.heap.size,0,none⟩=some (St x1):=by simp[World.cell?,A4]
 have a1:w4.cell? ⟨w.heap.size,1,none⟩=some (St y1):=by simp[World.cell?,A4]
 have a2:w4.cell? ⟨w.heap.size,2,none⟩=some (St x2):=by simp[World.cell?,A4]
 have a3:w4.cell? ⟨w.heap.size,3,none⟩=some (St y2):=by simp[World.cell?,A4]
 have b0:w4.cell? ⟨w.heap.size+1,0,none⟩=some (St []):=by simp[World.cell?,B4]
 have b1:w4.cell? ⟨w.heap.size+1,1,none⟩=some (St []):=by simp[World.cell?,B4]
 have f0:w4.frozen? ⟨w.heap.size+1,0,none⟩=false:=by simp[World.frozen?,B4]
 have f1:w4.frozen? ⟨w.heap.size+1,1,none⟩=false:=by simp[World.frozen?,B4]
 clear hb4 A3 B3 A4 B4 z0
 go_wp2_with fail
 refine bodyPost_ret (v:=.agg #[St x1,St y1]) (by simp[results,Tryz.results83,go_sem,b0,b1]) rfl ⟨rfl,?_⟩
 repeat(first|exact hB4|refine Below.setCell ?_ (by simp) _)
theorem z2y (x1 y1 x2 y2:List UInt8) (n:Int) (hn:decide ((0:Int)<n)=true)
 (O:Hid (qK 85 #[.agg #[St x1,St y1],.agg #[St x2,St y2]] (.int .i64 n))) (w:zA) (HW:Hid (Wd w)):
 qJ 84 #[.agg #[St x1,St y1,St x2,St y2]] w (.agg #[St x1,St y1]):=by
 obtain⟨W3,hW3⟩:∃W3,W3=(w.alloc (.cells #[St x1,St y1,St x2,St y2] 63)).alloc (.cells #[St [],St []] 25):=⟨_,rfl⟩
 have hB0:qL w W3:=by rw[hW3];exact((zM _ w).alloc (zN _) _).alloc (by simp) _
 have z0:W3.heap.size=w.heap.size+1+1:=by rw[hW3];simp
 have A3:W3.heap[w.heap.size]? =some (.cells #[St x1,St y1,St x2,St y2] 63 (0,0)):=by
  rw[hW3];exact(Below.heap_alloc _ _ _ (by simp only[zH];omega)).trans (zG w _)
 have B3:W3.heap[w.heap.size+1]? =some (.cells #[St [],St []] 25 (0,0)):=by
  have:=zG (w.alloc (.cells #[St x1,St y1,St x2,St y2] 63)) (.cells #[St [],St []] 25 (0,0))
  rw[zH] at this
  rw[hW3];exact this
 have HW3:=hid hW3;clear hW3
 go_enter Tryz.func84,Tryz.ntmps84
 go_wp2_with fail
 rw[<-HW3.out]
 refine(O.out _ (HW.out.below hB0)).mono ?_
 rintro e w4 ⟨rfl,hb4⟩
 have hB4:=hB0.trans (hb4.mono hB0.size)
 have A4:w4.heap[w.heap.size]? =some (.cells #[St x1,St y1,St x2,St y2] 63 (0,0)):=(hb4.block _ (by omega)).trans A3
 have B4:w4.heap[w.heap.size+1]? =some (.cells #[St [],St []] 25 (0,0)):=(hb4.block _ (by omega)).trans B3
 have a0:w4.cell? ⟨w.heap.size,0,none⟩=some (St x1):=by simp[World.cell?,A4]
 have a1:w4.cell? ⟨w.heap.size,1,none⟩=some (St y1):=by simp[World.cell?,A4]
 have a2:w4.cell? ⟨w.heap.size,2,none⟩=some (St x2):=by simp[World.cell?,A4]
 have a3:w4.cell? ⟨w.heap.size,3,none⟩=some (St y2):=by simp[World.cell?,A4]
 have b0:w4.cell? ⟨w.heap.size+1,0,none⟩=some (St []):=by simp[World.cell?,B4]
 have b1:w4.cell? ⟨w.heap.size+1,1,none⟩=some (St []):=by simp[World.cell?,B4]
 have f0:w4.frozen? ⟨w.heap.size+1,0,none⟩=false:=by simp[World.frozen?,B4]
 have f1:w4.frozen? ⟨w.heap.size+1,1,none⟩=false:=by simp[World.frozen?,B4]
 clear hb4 A3 B3 A4 B4 z0
 go_wp2_with fail
 refine bodyPost_ret (v:=.agg #[St x1,St y1]) (by simp[results,Tryz.results84,go_sem,b0,b1]) rfl ⟨rfl,?_⟩
 repeat(first|exact hB4|refine Below.setCell ?_ (by simp) _)
theorem z2z (x1 y1 x2 y2:List UInt8) (n:Int) (hn:decide ((0:Int)<n)=false)
 (O:Hid (qK 85 #[.agg #[St x1,St y1],.agg #[St x2,St y2]] (.int .i64 n))) (w:zA) (HW:Hid (Wd w)):
 qJ 84 #[.agg #[St x1,St y1,St x2,St y2]] w (.agg #[St x2,St y2]):=by
 obtain⟨W3,hW3⟩:∃W3,W3=(w.alloc (.cells #[St x1,St y1,St x2,St y2] 63)).alloc (.cells #[St [],St []] 25):=⟨_,rfl⟩
 have hB0:qL w W3:=by rw[hW3];exact((zM _ w).alloc (zN _) _).alloc (by simp) _
 have z0:W3.heap.size=w.heap.size+1+1:=by rw[hW3];simp
 have A3:W3.heap[w.heap.size]? =some (.cells #[St x1,St y1,St x2,St y2] 63 (0,0)):=by
  rw[hW3];exact(Below.heap_alloc _ _ _ (by simp only[zH];omega)).trans (zG w _)
 have B3:W3.heap[w.heap.size+1]? =some (.cells #[St [],St []] 25 (0,0)):=by
  have:=zG (w.alloc (.cells #[St x1,St y1,St x2,St y2] 63)) (.cells #[St [],St []] 25 (0,0))
  rw[zH] at this
  rw[hW3];exact this
 have HW3:=hid hW3;clear hW3
 go_enter Tryz.func84,Tryz.ntmps84
 go_wp2_with fail
 rw[<-HW3.out]
 refine(O.out _ (HW.out.below hB0)).mono ?_
 rintro e w4 ⟨rfl,hb4⟩
 have hB4:=hB0.trans (hb4.mono hB0.size)
 have A4:w4.heap[w.heap.size]? =some (.cells #[St x1,St y1,St x2,St y2] 63 (0,0)):=(hb4.block _ (by omega)).trans A3
 have B4:w4.heap[w.heap.size+1]? =some (.cells #[St [],St []] 25 (0,0)):=(hb4.block _ (by omega)).trans B3
 have a0:w4.cell? ⟨w.heap.size,0,none⟩=some (St x1):=by simp[World.cell?,A4]
 have a1:w4.cell? ⟨w.heap.size,1,none⟩=some (St y1):=by simp[World.cell?,A4]
 have a2:w4.cell? ⟨w.heap.size,2,none⟩=some (St x2):=by simp[World.cell?,A4]
 have a3:w4.cell? ⟨w.heap.size,3,none⟩=some (St y2):=by simp[World.cell?,A4]
 have b0:w4.cell? ⟨w.heap.size+1,0,none⟩=some (St []):=by simp[World.cell?,B4]
 have b1:w4.cell? ⟨w.heap.size+1,1,none⟩=some (St []):=by simp[World.cell?,B4]
 have f0:w4.frozen? ⟨w.heap.size+1,0,none⟩=false:=by simp[World.frozen?,B4]
 have f1:w4.frozen? ⟨w.heap.size+1,1,none⟩=false:=by simp[World.frozen?,B4]
 clear hb4 A3 B3 A4 B4 z0
 go_wp2_with fail
 refine bodyPost_ret (v:=.agg #[St x2,St y2]) (by simp[results,Tryz.results84,go_sem,b0,b1]) rfl ⟨rfl,?_⟩
 repeat(first|exact hB4|refine Below.setCell ?_ (by simp) _)
def segV (a b:Pt):Value:=.agg #[St (numS a.x),St (numS a.y),St (numS b.x),St (numS b.y)]
theorem zwy (a b:Pt) (k:Nat) (hk:0<k) (hk2:8*k+4<=300) (ha:szP a k) (hb:szP b k) (w:zA) (hw:Wd w):
 qJ 83 #[segV a b] w (ptV (low a b)):=by
 have O:=hid λW hW=>zmy a b k k hk hk (by omega) ha hb W hW
 unfold low
 by_cases h:ordP a b>0
 ·rw[if_pos h];exact z3e _ _ _ _ _ (decide_eq_true h) O w (hid hw)
 ·rw[if_neg h];exact z3f _ _ _ _ _ (decide_eq_false h) O w (hid hw)
theorem zt0 (a b:Pt) (k:Nat) (hk:0<k) (hk2:8*k+4<=300) (ha:szP a k) (hb:szP b k) (w:zA) (hw:Wd w):
 qJ 84 #[segV a b] w (ptV (high a b)):=by
 have O:=hid λW hW=>zmy a b k k hk hk (by omega) ha hb W hW
 unfold high
 by_cases h:ordP a b>0
 ·rw[if_pos h];exact z2y _ _ _ _ _ (decide_eq_true h) O w (hid hw)
 ·rw[if_neg h];exact z2z _ _ _ _ _ (decide_eq_false h) O w (hid hw)
theorem zrh {a b:Int} (ha: -1<=a/\a<=1) (hb: -1<=b/\b<=1): -9223372036854775808<=a*b/\a*b<=9223372036854775807:=by
 have:a= -1\/a=0\/a=1:=by omega
 rcases this with rfl|rfl|rfl<;>omega
structure MeetS (w:zA) (x1 y1 x2 y2 x3 y3 x4 y4:List UInt8) (W:zA):Prop where
 bel:qL w W
 lt:w.heap.size+1<W.heap.size
 hs:W.heap[w.heap.size]? =some (.cells #[St x1,St y1,St x2,St y2] 63 (0,0))
 ht:W.heap[w.heap.size+1]? =some (.cells #[St x3,St y3,St x4,St y4] 63 (0,0))
theorem MeetS.s0 {w:zA} {x1 y1 x2 y2 x3 y3 x4 y4:List UInt8} {W:zA} (h:MeetS w x1 y1 x2 y2 x3 y3 x4 y4 W):W.cell? ⟨w.heap.size,0,none⟩=some (St x1):=by have:=h.hs;simp[World.cell?,this]
theorem MeetS.s1 {w:zA} {x1 y1 x2 y2 x3 y3 x4 y4:List UInt8} {W:zA} (h:MeetS w x1 y1 x2 y2 x3 y3 x4 y4 W):W.cell? ⟨w.heap.size,1,none⟩=some (St y1):=by have:=h.hs;simp[World.cell?,this]
theorem MeetS.s2 {w:zA} {x1 y1 x2 y2 x3 y3 x4 y4:List UInt8} {W:zA} (h:MeetS w x1 y1 x2 y2 x3 y3 x4 y4 W):W.cell? ⟨w.heap.size,2,none⟩=some (St x2):=by have:=h.hs;simp[World.cell?,this]
theorem MeetS.s3 {w:zA} {x1 y1 x2 y2 x3 y3 x4 y4:List UInt8} {W:zA} (h:MeetS w x1 y1 x2 y2 x3 y3 x4 y4 W):W.cell? ⟨w.heap.size,3,none⟩=some (St y2):=by have:=h.hs;simp[World.cell?,this]
theorem MeetS.t0 {w:zA} {x1 y1 x2 y2 x3 y3 x4 y4:List UInt8} {W:zA} (h:MeetS w x1 y1 x2 y2 x3 y3 x4 y4 W):W.cell? ⟨w.heap.size+1,0,none⟩=some (St x3):=by have:=h.ht;simp[World.cell?,this]
theorem MeetS.t1 {w:zA} {x1 y1 x2 y2 x3 y3 x4 y4:List UInt8} {W:zA} (h:MeetS w x1 y1 x2 y2 x3 y3 x4 y4 W):W.cell? ⟨w.heap.size+1,1,none⟩=some (St y3):=by have:=h.ht;simp[World.cell?,this]
theorem MeetS.t2 {w:zA} {x1 y1 x2 y2 x3 y3 x4 y4:List UInt8} {W:zA} (h:MeetS w x1 y1 x2 y2 x3 y3 x4 y4 W):W.cell? ⟨w.heap.size+1,2,none⟩=some (St x4):=by have:=h.ht;simp[World.cell?,this]
theorem MeetS.t3 {w:zA} {x1 y1 x2 y2 x3 y3 x4 y4:List UInt8} {W:zA} (h:MeetS w x1 y1 x2 y2 x3 y3 x4 y4 W):W.cell? ⟨w.heap.size+1,3,none⟩=some (St y4):=by have:=h.ht;simp[World.cell?,this]
theorem MeetS.next {w:zA} {x1 y1 x2 y2 x3 y3 x4 y4:List UInt8} {W W':zA} (h:MeetS w x1 y1 x2 y2 x3 y3 x4 y4 W) (hb:qL W W'):MeetS w x1 y1 x2 y2 x3 y3 x4 y4 W':=
 ⟨h.bel.trans (hb.mono h.bel.size),zS h.lt hb.size,(hb.block _ (by have:=h.lt;omega)).trans h.hs,(hb.block _ h.lt).trans h.ht⟩
theorem zu6 (x1 y1 x2 y2 x3 y3 x4 y4:List UInt8) (a b c d r:Int)
 (TA:Hid (qK 35 #[.agg #[St x1,St y1],.agg #[St x2,St y2],.agg #[St x3,St y3]] (.int .i64 a)))
 (TB:Hid (qK 35 #[.agg #[St x1,St y1],.agg #[St x2,St y2],.agg #[St x4,St y4]] (.int .i64 b)))
 (TC:Hid (qK 35 #[.agg #[St x3,St y3],.agg #[St x4,St y4],.agg #[St x1,St y1]] (.int .i64 c)))
 (TD:Hid (qK 35 #[.agg #[St x3,St y3],.agg #[St x4,St y4],.agg #[St x2,St y2]] (.int .i64 d)))
 (ba: -1<=a/\a<=1) (bb: -1<=b/\b<=1) (bc: -1<=c/\c<=1) (bd: -1<=d/\d<=1)
 (hn:¬(a=0/\b=0/\c=0/\d=0)) (hr:r=if a*b<=0/\c*d<=0 then 1 else 0)
 (w:zA) (HW:Hid (Wd w)):
 qJ 33 #[.agg #[St x1,St y1,St x2,St y2],.agg #[St x3,St y3,St x4,St y4]] w (.int .i64 r):=by
 have hinit:MeetS w x1 y1 x2 y2 x3 y3 x4 y4 ((w.alloc (.cells #[St x1,St y1,St x2,St y2] 63)).alloc (.cells #[St x3,St y3,St x4,St y4] 63)):=by
  have e1:=zG w (.cells #[St x1,St y1,St x2,St y2] 63 (0,0))
  have e2:=zG (w.alloc (.cells #[St x1,St y1,St x2,St y2] 63)) (.cells #[St x3,St y3,St x4,St y4] 63 (0,0))
  simp only[zH] at e2
  refine⟨((zM _ w).alloc (zN _) _).alloc (by simp) _,by simp,?_,e2⟩
  exact(Below.heap_alloc _ _ _ (by simp only[zH];omega)).trans e1
 have HI:=hid hinit;clear hinit
 have HN:=hid hn;have HR:=hid hr
 clear hn hr
 go_enter Tryz.func33,Tryz.ntmps33
 go_wp2_with fail
 refine zbl (λ_ W=>MeetS w x1 y1 x2 y2 x3 y3 x4 y4 W) (by kernel_rfl) (by kernel_rfl) (by have h:=HI.out;exact⟨h.bel.drew,h.lt,h.hs,h.ht⟩) ?_
 refine qR (.pointer (some ⟨w.heap.size,0,none⟩)) ?_
 simp only[zzQ]
 refine qR (.agg #[St x1,St y1]) ?_ (hy:=λf W' hf h=>by have h0:=h.s0;have h1:=h.s1;go_simp)
 simp only[zzQ]
 refine qR (.pointer (some ⟨w.heap.size,2,none⟩)) ?_
 simp only[zzQ]
 refine qR (.agg #[St x2,St y2]) ?_ (hy:=λf W' hf h=>by have h0:=h.s2;have h1:=h.s3;go_simp)
 simp only[zzQ]
 refine qR (.pointer (some ⟨w.heap.size+1,0,none⟩)) ?_
 simp only[zzQ]
 refine qR (.agg #[St x3,St y3]) ?_ (hy:=λf W' hf h=>by have h0:=h.t0;have h1:=h.t1;go_simp)
 simp only[zzQ]
 refine zar (.int .i64 a) (by rfl) (λf W' hf h C' hC'=>by
  go_simp
  refine(TA.out _ (HW.out.below h.bel)).mono ?_
  rintro e w' ⟨rfl,hb⟩
  exact⟨rfl,hC' _ (h.next hb)⟩) ?_
 try simp only[zzQ]
 refine qR (.pointer (some ⟨w.heap.size,0,none⟩)) ?_
 simp only[zzQ]
 refine qR (.agg #[St x1,St y1]) ?_ (hy:=λf W' hf h=>by have h0:=h.s0;have h1:=h.s1;go_simp)
 simp only[zzQ]
 refine qR (.pointer (some ⟨w.heap.size,2,none⟩)) ?_
 simp only[zzQ]
 refine qR (.agg #[St x2,St y2]) ?_ (hy:=λf W' hf h=>by have h0:=h.s2;have h1:=h.s3;go_simp)
 simp only[zzQ]
 refine qR (.pointer (some ⟨w.heap.size+1,2,none⟩)) ?_
 simp only[zzQ]
 refine qR (.agg #[St x4,St y4]) ?_ (hy:=λf W' hf h=>by have h0:=h.t2;have h1:=h.t3;go_simp)
 simp only[zzQ]
 refine zar (.int .i64 b) (by rfl) (λf W' hf h C' hC'=>by
  go_simp
  refine(TB.out _ (HW.out.below h.bel)).mono ?_
  rintro e w' ⟨rfl,hb⟩
  exact⟨rfl,hC' _ (h.next hb)⟩) ?_
 try simp only[zzQ]
 refine qR (.int .i64 a) ?_
 simp only[zzQ]
 refine qR (.int .i64 b) ?_
 simp only[zzQ]
 refine zck λf W1 hf h1=>?_
 clear hf f
 have H1:=hid h1;clear h1
 go_wp2_with fail
 refine zbl (λ_ W=>MeetS w x1 y1 x2 y2 x3 y3 x4 y4 W) (by kernel_rfl) (by kernel_rfl) (by have h:=H1.out;exact⟨h.bel.drew,h.lt,h.hs,h.ht⟩) ?_
 refine qR (.pointer (some ⟨w.heap.size+1,0,none⟩)) ?_
 simp only[zzQ]
 refine qR (.agg #[St x3,St y3]) ?_ (hy:=λf W' hf h=>by have h0:=h.t0;have h1:=h.t1;go_simp)
 simp only[zzQ]
 refine qR (.pointer (some ⟨w.heap.size+1,2,none⟩)) ?_
 simp only[zzQ]
 refine qR (.agg #[St x4,St y4]) ?_ (hy:=λf W' hf h=>by have h0:=h.t2;have h1:=h.t3;go_simp)
 simp only[zzQ]
 refine qR (.pointer (some ⟨w.heap.size,0,none⟩)) ?_
 simp only[zzQ]
 refine qR (.agg #[St x1,St y1]) ?_ (hy:=λf W' hf h=>by have h0:=h.s0;have h1:=h.s1;go_simp)
 simp only[zzQ]
 refine zar (.int .i64 c) (by rfl) (λf W' hf h C' hC'=>by
  go_simp
  refine(TC.out _ (HW.out.below h.bel)).mono ?_
  rintro e w' ⟨rfl,hb⟩
  exact⟨rfl,hC' _ (h.next hb)⟩) ?_
 try simp only[zzQ]
 refine qR (.pointer (some ⟨w.heap.size+1,0,none⟩)) ?_
 simp only[zzQ]
 refine qR (.agg #[St x3,St y3]) ?_ (hy:=λf W' hf h=>by have h0:=h.t0;have h1:=h.t1;go_simp)
 simp only[zzQ]
 refine qR (.pointer (some ⟨w.heap.size+1,2,none⟩)) ?_
 simp only[zzQ]
 refine qR (.agg #[St x4,St y4]) ?_ (hy:=λf W' hf h=>by have h0:=h.t2;have h1:=h.t3;go_simp)
 simp only[zzQ]
 refine qR (.pointer (some ⟨w.heap.size,2,none⟩)) ?_
 simp only[zzQ]
 refine qR (.agg #[St x2,St y2]) ?_ (hy:=λf W' hf h=>by have h0:=h.s2;have h1:=h.s3;go_simp)
 simp only[zzQ]
 refine zar (.int .i64 d) (by rfl) (λf W' hf h C' hC'=>by
  go_simp
  refine(TD.out _ (HW.out.below h.bel)).mono ?_
  rintro e w' ⟨rfl,hb⟩
  exact⟨rfl,hC' _ (h.next hb)⟩) ?_
 try simp only[zzQ]
 refine qR (.int .i64 c) ?_
 simp only[zzQ]
 refine qR (.int .i64 d) ?_
 simp only[zzQ]
 refine zck λf W2 hf h2=>?_
 have hB:=h2.bel
 clear hf f h2 H1
 have w1:IntKind.i64.wrap (a*b)=a*b:=zI _ (zrh ba bb)
 have w2:IntKind.i64.wrap (c*d)=c*d:=zI _ (zrh bc bd)
 have hq:(a*b<=0/\c*d<=0/\r=1)\/(a*b<=0/\¬c*d<=0/\r=0)\/(¬a*b<=0/\r=0):=by
  have:=HR.out
  by_cases h1:a*b<=0
  ·by_cases h2:c*d<=0
   ·exact .inl ⟨h1,h2,by rw[this,if_pos ⟨h1,h2⟩]⟩
   ·exact .inr (.inl ⟨h1,h2,by rw[this,if_neg (λh=>h2 h.2)]⟩)
  ·exact .inr (.inr ⟨h1,by rw[this,if_neg (λh=>h1 h.1)]⟩)
 have hz:(a !=0)=true\/((a !=0)=false/\(b !=0)=true)\/((a !=0)=false/\(b !=0)=false/\(c !=0)=true)\/((a !=0)=false/\(b !=0)=false/\(c !=0)=false/\(d !=0)=true):=by
  have:=HN.out
  simp only[bne_iff_ne,bne_eq_false_iff_eq]
  omega
 clear ba bb bc bd HN HR HI TA TB TC TD
 rcases hq with⟨q1,q2,rfl⟩|⟨q1,q2,rfl⟩|⟨q1,rfl⟩<;>rcases hz with z1|⟨z1,z2⟩|⟨z1,z2,z3⟩|⟨z1,z2,z3,z4⟩<;>
 ·go_wp2_with fail
  go_ret
  exact⟨rfl,hB⟩
end
section
open Go
variable {P:Program} {ops:Array Oper} {β:Type}
def zfp (P:Program) (C:Value->zA->Prop):Result Next->Prop
 | .ok (.value u) w'=>C u w'
 | .ok .skip w'=>C undef w'
 | .ok (.enter f args) w'=>Calls P f args w' (λe w''=>∃v,e=.returned v/\C v w'')
 |_=>False
theorem zwz {o:Oper} {a:Act} {w:zA} {C:Value->zA->Prop} {K:Act->zA->Prop} {Q:Exit->Act->zA->Prop} (hK:∀v w',C v w'->K (a.put o.dst v) w') (h:zfp P C ((execOp a.eval o).run P w)):o.wp P a w K Q:=by
 unfold Oper.wp
 generalize (execOp a.eval o).run P w=r at*
 cases r with
 |ok x w'=>
  cases x<;>simp only[zfp] at h<;>simp only[Oper.upon]
  ·exact hK _ _ h
  ·exact hK _ _ h
  ·exact h.mono λe w'' ⟨v,he,hc⟩=>by subst he;exact hK _ _ hc
 |halt x w'=>simp only[zfp] at h
def zgx (vs:β->Nat->Value) (C:β->Array Bool->zA->Prop) (i:Nat) (L:Array Bool) (b:β) (v:Value) (w':zA):Prop:=
 ∃b',(∀j,L.getD j false=true->vs b' j=vs b j)/\vs b' i=v/\C b' (L.setIfInBounds i true) w'
def z1p (P:Program) (ops:Array Oper) (vs:β->Nat->Value) (C:β->Array Bool->zA->Prop) (i:Nat) (o:Oper) (a:Act) (b:β):Prop:=
 ∀L w,AcAt ops i L->C b L w->if Region.wanted o (yielded ops a.tmps) then zfp P (zgx vs C i L b) ((execOp a.eval o).run P w) else zgx vs C i L b undef w
theorem ziw (vs vs':Nat->Value) (a:Act) (L:Array Bool) (h:∀j,L.getD j false=true->vs j=vs' j):∀k,zax ops vs a L k=zax ops vs' a L k
 |0=>rfl
 |k+1=>by
  simp only[zax]
  rw[ziw vs vs' a L h k]
  split
  ·rename_i hk;rw[h k hk]
  ·rfl
theorem zw0 {Q:Exit->Act->zA->Prop} {C:β->Array Bool->zA->Prop} (hB:(acB ops&&zfd ops)=true) (vs:β->Nat->Value) (a:Act)
 (step:∀b i o,ops[i]? =some o->z1p P ops vs C i o (zax ops (vs b) a (zbw ops.size i) ops.size) b)
 (hend:∀b L w,(∀i,i<ops.size->L.getD i false=true)->C b L w->Q .normal (zax ops (vs b) a (zbw ops.size ops.size) ops.size) w):
 ∀(fuel:Nat) (L:Array Bool) (w:zA) (b:β),L.size=ops.size->zoe ops L->((List.range ops.size).filter λi=>!L.getD i false).length<=fuel->C b L w->wpAny P .any ops Q fuel L (zax ops (vs b) a L ops.size) w:=by
 obtain⟨hsel,hdist,hlook,hback⟩:=zmq hB
 have hq:∀b L w,(∀i,i<ops.size->L.getD i false=true)->C b L w->Q .normal (zax ops (vs b) a L ops.size) w:=by
  intro b L w hall hC
  have e:zax ops (vs b) a L ops.size=zax ops (vs b) a (zbw ops.size ops.size) ops.size:=by
   have:∀k,k<=ops.size->zax ops (vs b) a L k=zax ops (vs b) a (zbw ops.size ops.size) k:=by
    intro k
    induction k with
    |zero=>intro _;rfl
    |succ k ih=>
     intro hk
     simp only[zax]
     rw[ih (by omega),hall k (by omega),zd5]
     simp[show k<ops.size by omega]
   exact this _ (zN _)
  rw[e];exact hend b L w hall hC
 have hready:∀L,L.size=ops.size->Region.ready .any ops L=[]->∀i,i<ops.size->L.getD i false=true:=by
  intro L hsz h0 i
  induction i using Nat.strongRecOn with
  |_ i ih=>
   intro hi
   cases hl:L.getD i false with
   |true=>rfl
   |false=>
    have hm:i∈Region.ready .any ops L:=by
     refine mem_ready.2 ⟨getD_in (by omega) hl,ops[i],by simp[hi],λe he hb=>?_⟩
     have hlt:=hback i (ops[i]) (show ops[i]? =some (ops[i]) from Array.getElem?_eq_getElem hi) e he hb
     exact ih e.on hlt (Nat.lt_trans hlt hi)
    rw[h0] at hm;cases hm
 intro fuel
 induction fuel with
 |zero=>
  intro L w b hsz hcl hcount hC
  have hall:∀i,i<ops.size->L.getD i false=true:=by
   intro i hi
   cases hl:L.getD i false with
   |true=>rfl
   |false=>
    have:i∈(List.range ops.size).filter λi=>!L.getD i false:=List.mem_filter.2 ⟨List.mem_range.2 hi,by rw[hl];rfl⟩
    rw[List.length_eq_zero_iff.1 (Nat.le_zero.1 hcount)] at this;cases this
  refine⟨?_,hq b L w hall hC⟩
  apply List.eq_nil_iff_forall_not_mem.2
  intro i hi
  obtain⟨h1,o,ho,_⟩:=mem_ready.1 hi
  have:=hall i (Array.getElem?_eq_some_iff.1 ho).1
  rw[getD_both h1] at this;cases this
 |succ fuel ih=>
  intro L w b hsz hcl hcount hC
  refine⟨λh0=>hq b L w (hready L hsz h0) hC,λi hi=>?_⟩
  obtain⟨h1,o,ho,hall⟩:=mem_ready.1 hi
  have hin:i<ops.size:=(Array.getElem?_eq_some_iff.1 ho).1
  have hLi:=getD_both h1
  have hdone:∀j,Region.waitsFor .any ops i j=true->L.getD j false=true:=by
   intro j hw
   obtain⟨o',ho',e,he,hb,rfl⟩:=Region.waitsFor_spec hw
   have:o'=o:=Option.some.inj (ho'.symm.trans ho)
   subst this
   exact hall e he hb
  have hopen:∀j,Region.waitsFor .any ops j i=true->L.getD j false=false:=by
   intro j hw
   cases hl:L.getD j false with
   |false=>rfl
   |true=>rw[hcl j i hl hw] at hLi;cases hLi
  have hat:AcAt ops i L:=⟨hsz,hLi,hdone,hcl⟩
  have hst:=step b i o ho L w hat hC
  have hset:=λb'=>zic (vs b') a L i (by omega) hLi (λj d hne hd hj=>by
   rcases Nat.lt_or_ge j ops.size with hjn|hjn
   ·exact hdist i j d hin hjn (Ne.symm hne) hj hd
   ·simp[zcr,Array.getElem?_eq_none hjn] at hj) ops.size
  simp only[if_pos hin] at hset
  have hsame:=zit (ops:=ops) (a:=zax ops (vs b) a L ops.size) (b:=zax ops (vs b) a (zbw ops.size i) ops.size) (o:=o) (λcs b=>Region.noSelect_spec hsel i o cs b ho) (λt ht=>by
   refine zib (vs b) a L _ t ops.size λj hj hd=>?_
   rw[zd5]
   by_cases hji:j=i
   ·subst hji;rw[hLi];simp
   ·have:=hlook i j t hin hj (Ne.symm hji) hd (by simpa [zi8,ho] using ht)
    rcases this with⟨h2,h3⟩|⟨h2,h3⟩
    ·rw[hdone j h3];simp[hj,h2]
    ·rw[hopen j h3];simp;omega)
  have hnext:∀v w',zgx vs C i L b v w'->wpAny P .any ops Q fuel (L.setIfInBounds i true) ((zax ops (vs b) a L ops.size).put o.dst v) w':=by
   rintro v w' ⟨b',hagree,rfl,hC'⟩
   have hd:o.dst=zcr ops i:=by simp[zcr,ho]
   rw[hd,ziw (vs b) (vs b') a L (λj hj=>(hagree j hj).symm) ops.size,<-hset b']
   refine ih _ w' b' (by simpa using hsz) ?_ ?_ hC'
   ·intro x y hx hw
    rw[zdp L i _ (by omega)] at hx⊢
    split
    ·rfl
    ·split at hx
     ·rename_i h;subst h;exact hdone y hw
     ·exact hcl x y hx hw
   ·have e:((List.range ops.size).filter λx=>!(L.setIfInBounds i true).getD x false)=((List.range ops.size).filter λx=>!L.getD x false).filter λx=>decide (x≠i):=by
     rw[List.filter_filter]
     refine List.filter_congr λx _=>?_
     rw[zdp L i x (by omega)]
     by_cases h:i=x
     ·subst h;simp
     ·simp[h,Ne.symm h]
    rw[e]
    have:=(List.length_filter_lt_length_iff_exists (l:=(List.range ops.size).filter λx=>!L.getD x false) (p:=λx=>decide (x≠i))).2 ⟨i,List.mem_filter.2 ⟨List.mem_range.2 hin,by rw[hLi];rfl⟩,by simp⟩
    omega
  unfold wpOp
  simp only[ho]
  rw[hsame.2]
  by_cases hw:Region.wanted o (yielded ops (zax ops (vs b) a (zbw ops.size i) ops.size).tmps)=true
  ·rw[if_pos hw] at hst⊢
   rw[<-hsame.1] at hst
   exact .inl (zwz hnext hst)
  ·rw[if_neg hw] at hst⊢
   exact hnext _ _ hst
def zhn (vs:β->Nat->Value) (C:β->(Nat->Bool)->zA->Prop) (i:Nat) (f:Nat->Bool) (b:β) (v:Value) (w':zA):Prop:=
 ∃b',(∀j,f j=true->vs b' j=vs b j)/\vs b' i=v/\C b' (λj=>if i=j then true else f j) w'
def zt1 (P:Program) (ops:Array Oper) (vs:β->Nat->Value) (C:β->(Nat->Bool)->zA->Prop) (i:Nat) (o:Oper) (a:Act) (b:β):Prop:=
 ∀f w,AcF ops i f->C b f w->
  if Region.wanted o (yielded ops a.tmps) then zfp P (zhn vs C i f b) ((execOp a.eval o).run P w) else zhn vs C i f b undef w
def AcLB (P:Program) (ops:Array Oper) (vs:β->Nat->Value) (C:β->(Nat->Bool)->zA->Prop) (K:Act->zA->Prop) (b:β):Nat->List Oper->Act->Prop
 |_,[],a=>∀f w,(∀i,i<ops.size->f i=true)->C b f w->K a w
 |k,o::rest,a=>zt1 P ops vs C k o a b/\AcLB P ops vs C K b (k+1) rest (a.put o.dst (vs b k))
section
variable {vs:β->Nat->Value} {C:β->(Nat->Bool)->zA->Prop} {K:Act->zA->Prop} {k:Nat} {o:Oper} {rest:List Oper} {a:Act} {b:β}
theorem ze1 (h:∀f w,(∀i,i<ops.size->f i=true)->C b f w->K a w):AcLB P ops vs C K b k [] a:=h
theorem zag (v:Value) (hv:vs b k=v) (hw:Region.wanted o (yielded ops a.tmps)=true)
 (hset:∀f w,C b f w->C b (λj=>if k=j then true else f j) w)
 (hy:∀f w,AcF ops k f->C b f w->(execOp a.eval o).run P w=.ok (.value v) w)
 (h:AcLB P ops vs C K b (k+1) rest (a.put o.dst v)):AcLB P ops vs C K b k (o::rest) a:=by
 subst hv
 refine⟨λf w hf hC=>?_,h⟩
 rw[if_pos hw,hy f w hf hC]
 exact⟨b,λ_ _=>rfl,rfl,hset f w hC⟩
theorem qB (v:Value) (hset:∀f w,C b f w->C b (λj=>if k=j then true else f j) w) (h:AcLB P ops vs C K b (k+1) rest (a.put o.dst v)) (hv:vs b k=v:=by rfl) (hw:Region.wanted o (yielded ops a.tmps)=true:=by rfl) (hy:∀f w,AcF ops k f->C b f w->(execOp a.eval o).run P w=.ok (.value v) w:=by intro f W' hf h;go_simp):AcLB P ops vs C K b k (o::rest) a:=zag v hv hw hset hy h
theorem zbv (v:Value) (hv:vs b k=v) (hw:Region.wanted o (yielded ops a.tmps)=true)
 (hy:∀f w,AcF ops k f->C b f w->∀C':Value->zA->Prop,(∀w',C b (λj=>if k=j then true else f j) w'->C' v w')->zfp P C' ((execOp a.eval o).run P w))
 (h:AcLB P ops vs C K b (k+1) rest (a.put o.dst v)):AcLB P ops vs C K b k (o::rest) a:=by
 subst hv
 refine⟨λf w hf hC=>?_,h⟩
 rw[if_pos hw]
 exact hy f w hf hC _ λw' h'=>⟨b,λ_ _=>rfl,rfl,h'⟩
theorem zdc (v:Value) (hv:vs b k=v) (hw:Region.wanted o (yielded ops a.tmps)=true)
 (hy:∀f w,AcF ops k f->C b f w->∀C':Value->zA->Prop,(∀b' w',(∀j,f j=true->vs b' j=vs b j)->C b' (λj=>if k=j then true else f j) w'->C' (vs b' k) w')->zfp P C' ((execOp a.eval o).run P w))
 (h:AcLB P ops vs C K b (k+1) rest (a.put o.dst v)):AcLB P ops vs C K b k (o::rest) a:=by
 subst hv
 refine⟨λf w hf hC=>?_,h⟩
 rw[if_pos hw]
 exact hy f w hf hC _ λb' w' hj h'=>⟨b',hj,rfl,h'⟩
end
theorem zk6 {vs:β->Nat->Value} {C:β->(Nat->Bool)->zA->Prop} {K:Act->zA->Prop} {b:β}:∀(l:List Oper) (k:Nat) (a:Act),AcLB P ops vs C K b k l a->
 (∀i o,l[i]? =some o->zt1 P ops vs C (k+i) o (zbq (vs b) k l a i) b)/\(∀f w,(∀i,i<ops.size->f i=true)->C b f w->K (zbq (vs b) k l a l.length) w)
 |[],k,a,h=>⟨λi o h=>by simp at h,h⟩
 |o::l,k,a,⟨hv,h⟩=>by
  obtain⟨h1,h2⟩:=zk6 l (k+1) _ h
  refine⟨λi o' ho=>?_,?_⟩
  ·cases i with
   |zero=>
    obtain rfl:o=o':=by simpa using ho
    simpa [zbq] using hv
   |succ i=>
    have:=h1 i o' (by simpa using ho)
    simp only[zbq]
    rw[show k+(i+1)=k+1+i by omega]
    exact this
  ·simp only[zbq,List.length_cons]
   exact h2
theorem znn {K:Act->zA->Prop} {Q:Exit->Act->zA->Prop} (hQ:∀a w,K a w->Q .normal a w) {l:List Oper} (vs:β->Nat->Value) (C:β->(Nat->Bool)->zA->Prop) (hB:(acB l.toArray&&zfd l.toArray)=true) {a:Act} {w:zA} (b0:β) (hC:C b0 (λ_=>false) w) (h:∀b,AcLB P l.toArray vs C K b 0 l a):
 wpAny P .any l.toArray Q l.toArray.size (Array.replicate l.toArray.size false) a w:=by
 have e0:zax l.toArray (vs b0) a (Array.replicate l.toArray.size false) l.toArray.size=a:=by
  have:∀k,zax l.toArray (vs b0) a (Array.replicate l.toArray.size false) k=a:=by
   intro k
   induction k with
   |zero=>rfl
   |succ k ih=>
    have:(Array.replicate l.toArray.size false).getD k false=false:=by
     simp only[Array.getD];split<;>simp
    simp only[zax,this,Bool.false_eq_true,if_false];exact ih
  exact this _
 have:=zw0 (P:=P) (ops:=l.toArray) (Q:=Q) (C:=λb L w=>C b (λj=>L.getD j false) w) hB vs a ?_ ?_ l.toArray.size (Array.replicate l.toArray.size false) w b0 (by simp) ?_ ?_ ?_
 ·rw[e0] at this;exact this
 ·intro b i o ho L w hat hc
  have h1:=(zk6 l 0 a (h b)).1
  have hi:i<l.length:=by
   have:=(Array.getElem?_eq_some_iff.1 ho).1
   simpa using this
  have hst:=h1 i o (by simpa using ho) (λj=>L.getD j false) w (by rw[Nat.zero_add];exact⟨hat.self,hat.done,hat.closed⟩) hc
  have ea:zax l.toArray (vs b) a (zbw l.toArray.size i) l.toArray.size=zbq (vs b) 0 l a i:=by
   have:=zdg (vs b) l a i (by omega) l.length (zN _)
   rw[Nat.min_eq_left (by omega)] at this
   simpa using this
  have es:(λj=>(L.setIfInBounds i true).getD j false)=(λj=>if i=j then true else L.getD j false):=by
   funext j
   exact zdp L i j (by rw[hat.size];simpa using hi)
  rw[Nat.zero_add] at hst
  rw[ea]
  unfold zhn at hst
  unfold zgx
  simp only[es]
  exact hst
 ·intro b L w hall hc
  have h2:=(zk6 l 0 a (h b)).2
  have ea:zax l.toArray (vs b) a (zbw l.toArray.size l.toArray.size) l.toArray.size=zbq (vs b) 0 l a l.length:=by
   have:=zdg (vs b) l a l.length (zN _) l.length (zN _)
   rw[Nat.min_self] at this
   simpa using this
  rw[ea]
  exact hQ _ _ (h2 _ w hall hc)
 ·intro i j hi
  have:(Array.replicate l.toArray.size false).getD i false=false:=by simp only[Array.getD];split<;>simp
  rw[this] at hi;cases hi
 ·refine Nat.le_trans (List.length_filter_le _ _) (by simp)
 ·have:(λj=>(Array.replicate l.toArray.size false).getD j false)= λ_=>false:=by
   funext j
   simp only[Array.getD];split<;>simp
  simpa only[this] using hC
theorem zc4 {id:Nat} {Q:Exit->Act->zA->Prop} {a:Act} {w:zA} {l:List Oper} (vs:β->Nat->Value) (C:β->(Nat->Bool)->zA->Prop) (hm:P.follows .mixedOrders=true) (hB:(acB l.toArray&&zfd l.toArray)=true) (b0:β) (hC:C b0 (λ_=>false) {w with drawn:=w.drawn+1})
 (h:∀b,AcLB P l.toArray vs C (Q .normal) b 0 l a):(Code.region id l.toArray true).wp P Q a w:=
 wp_region_any hm (znn (λ_ _ h=>h) vs C hB b0 hC h)
theorem zrq {l n id:Nat} {Q:Exit->Act->zA->Prop} {a:Act} {w:zA} {ol:List Oper} (vs:β->Nat->Value) (C:β->(Nat->Bool)->zA->Prop) (hm:P.follows .mixedOrders=true) (hB:(acB ol.toArray&&zfd ol.toArray)=true) (hnd:zhj ol.toArray=true) (b0:β) (hC:C b0 (λ_=>false) {w with drawn:=w.drawn+1})
 (h:∀b,AcLB P ol.toArray vs C (Q .normal) b 0 ol a):(Code.region id ol.toArray true).wpIn (Fence.wide.inRound l) n P Q a w:=
 wpIn_region_any hm (zd4 hnd (Q:=λe a w=>e=.normal/\Q .normal a w) (λ_ _ _ h h'=>h h'.1) (λ_ _ h=>h.2) _ _ _ _ (znn (λ_ _ h=>⟨rfl,h⟩) vs C hB b0 hC h))
end
section
open Go.RowKit Go.Shelf Lib Str Limb Geo
attribute [local go_sem] Oper.semAt_some
structure FlatS (w:zA) (x1 y1 x2 y2 x3 y3 x4 y4 lx ly hx hy:List UInt8) (b:Nat×Nat) (f:Nat->Bool) (W:zA):Prop where
 base:MeetS w x1 y1 x2 y2 x3 y3 x4 y4 W
 g4:f 4=true->w.heap.size+1<b.1/\b.1<W.heap.size/\W.heap[b.1]? =some (.cells (if f 6=true then #[St lx,St ly] else #[St [],St []]) 25 (0,0))
 g5:f 5=true->w.heap.size+1<b.2/\b.2<W.heap.size/\W.heap[b.2]? =some (.cells (if f 7=true then #[St hx,St hy] else #[St [],St []]) 25 (0,0))
 ne:f 4=true->f 5=true->b.1≠b.2
section
variable {w W W':zA} {x1 y1 x2 y2 x3 y3 x4 y4 lx ly hx hy:List UInt8} {b:Nat×Nat} {f g:Nat->Bool}
theorem FlatS.congr (h:FlatS w x1 y1 x2 y2 x3 y3 x4 y4 lx ly hx hy b f W) (e4:g 4=f 4) (e5:g 5=f 5) (e6:g 6=f 6) (e7:g 7=f 7):FlatS w x1 y1 x2 y2 x3 y3 x4 y4 lx ly hx hy b g W:=
 ⟨h.base,by rw[e4,e6];exact h.g4,by rw[e5,e7];exact h.g5,by rw[e4,e5];exact h.ne⟩
theorem FlatS.next (h:FlatS w x1 y1 x2 y2 x3 y3 x4 y4 lx ly hx hy b f W) (hb:qL W W'):FlatS w x1 y1 x2 y2 x3 y3 x4 y4 lx ly hx hy b f W':=
 ⟨h.base.next hb,λk=>⟨(h.g4 k).1,zS (h.g4 k).2.1 hb.size,(hb.block _ (h.g4 k).2.1).trans (h.g4 k).2.2⟩,λk=>⟨(h.g5 k).1,zS (h.g5 k).2.1 hb.size,(hb.block _ (h.g5 k).2.1).trans (h.g5 k).2.2⟩,h.ne⟩
theorem MeetS.put (h:MeetS w x1 y1 x2 y2 x3 y3 x4 y4 W) {p:Nat} (hp:w.heap.size+1<p) (o:Nat) (v:Value):MeetS w x1 y1 x2 y2 x3 y3 x4 y4 (W.setCell ⟨p,o,none⟩ v):=
 ⟨h.bel.setCell (by simp;omega) _,by simpa using h.lt,by rw[yE _ _ _ _ (by simp;omega)];exact h.hs,by rw[yE _ _ _ _ (by simp;omega)];exact h.ht⟩
theorem zjh {p:Nat} {a c u v:Value} {t:TypeId} (h:W.heap[p]? =some (.cells #[a,c] t (0,0))):((W.setCell ⟨p,0,none⟩ u).setCell ⟨p,1,none⟩ v).heap[p]? =some (.cells #[u,v] t (0,0)):=by
 rw[zK (zK h u) v];simp
theorem FlatS.new4 (h:FlatS w x1 y1 x2 y2 x3 y3 x4 y4 lx ly hx hy b f W) (h6:f 6=false) (_:g 4=true) (e5:g 5=f 5) (e6:g 6=f 6) (e7:g 7=f 7):FlatS w x1 y1 x2 y2 x3 y3 x4 y4 lx ly hx hy (W.heap.size,b.2) g (W.alloc (.cells #[St [],St []] 25)):=by
 have hl:=h.base.lt
 refine⟨h.base.next ((zM _ W).alloc (zN _) _),λ_=>⟨hl,by simp,?_⟩,λk=>?_,λ_ k=>?_⟩
 ·rw[e6,h6,if_neg (by simp)];exact zG W _
 ·obtain⟨k1,k2,k3⟩:=h.g5 (e5▸k)
  refine⟨k1,by simp;omega,?_⟩
  rw[e7];exact(Below.heap_alloc _ _ _ k2).trans k3
 ·have:=(h.g5 (e5▸k)).2.1;simp;omega
theorem FlatS.new5 (h:FlatS w x1 y1 x2 y2 x3 y3 x4 y4 lx ly hx hy b f W) (h7:f 7=false) (_:g 5=true) (e4:g 4=f 4) (e6:g 6=f 6) (e7:g 7=f 7):FlatS w x1 y1 x2 y2 x3 y3 x4 y4 lx ly hx hy (b.1,W.heap.size) g (W.alloc (.cells #[St [],St []] 25)):=by
 have hl:=h.base.lt
 refine⟨h.base.next ((zM _ W).alloc (zN _) _),λk=>?_,λ_=>⟨hl,by simp,?_⟩,λk _=>?_⟩
 ·obtain⟨k1,k2,k3⟩:=h.g4 (e4▸k)
  refine⟨k1,by simp;omega,?_⟩
  rw[e6];exact(Below.heap_alloc _ _ _ k2).trans k3
 ·rw[e7,h7,if_neg (by simp)];exact zG W _
 ·have:=(h.g4 (e4▸k)).2.1;simp;omega
theorem FlatS.put6 (h:FlatS w x1 y1 x2 y2 x3 y3 x4 y4 lx ly hx hy b f W) (h6:f 6=false) (h4:f 4=true) (h5:f 5=true) (_:g 4=f 4) (_:g 5=f 5) (g6:g 6=true) (e7:g 7=f 7):FlatS w x1 y1 x2 y2 x3 y3 x4 y4 lx ly hx hy b g ((W.setCell ⟨b.1,0,none⟩ (St lx)).setCell ⟨b.1,1,none⟩ (St ly)):=by
 have hne:=h.ne h4 h5
 obtain⟨k1,k2,k3⟩:=h.g4 h4
 obtain⟨l1,l2,l3⟩:=h.g5 h5
 refine⟨(h.base.put k1 _ _).put k1 _ _,λ_=>⟨k1,by simpa using k2,?_⟩,λ_=>⟨l1,by simpa using l2,?_⟩,λ_ _=>hne⟩
 ·rw[if_pos g6];rw[h6,if_neg (by simp)] at k3;exact zjh k3
 ·rw[e7,yE _ _ _ _ (by simpa using Ne.symm hne),yE _ _ _ _ (by simpa using Ne.symm hne)];exact l3
theorem FlatS.put7 (h:FlatS w x1 y1 x2 y2 x3 y3 x4 y4 lx ly hx hy b f W) (h7:f 7=false) (h4:f 4=true) (h5:f 5=true) (_:g 4=f 4) (_:g 5=f 5) (e6:g 6=f 6) (g7:g 7=true):FlatS w x1 y1 x2 y2 x3 y3 x4 y4 lx ly hx hy b g ((W.setCell ⟨b.2,0,none⟩ (St hx)).setCell ⟨b.2,1,none⟩ (St hy)):=by
 have hne:=h.ne h4 h5
 obtain⟨k1,k2,k3⟩:=h.g4 h4
 obtain⟨l1,l2,l3⟩:=h.g5 h5
 refine⟨(h.base.put l1 _ _).put l1 _ _,λ_=>⟨k1,by simpa using k2,?_⟩,λ_=>⟨l1,by simpa using l2,?_⟩,λ_ _=>hne⟩
 ·rw[e6,yE _ _ _ _ (by simpa using hne),yE _ _ _ _ (by simpa using hne)];exact k3
 ·rw[if_pos g7];rw[h7,if_neg (by simp)] at l3;exact zjh l3
end
def zno (x1 y1 x2 y2 lx ly hx hy:List UInt8) (b:Nat×Nat) (k:Nat):Value:=
 ([.agg #[St x1,St y1,St x2,St y2],.agg #[St lx,St ly],.agg #[St x1,St y1,St x2,St y2],.agg #[St hx,St hy],.pointer (some ⟨b.1,0,none⟩),.pointer (some ⟨b.2,0,none⟩)]:List Value).getD k undef
structure FlatE (w:zA) (x1 y1 x2 y2 x3 y3 x4 y4 fx fy gx gy:List UInt8) (p q:Nat) (W:zA):Prop where
 base:MeetS w x1 y1 x2 y2 x3 y3 x4 y4 W
 ne:p≠q
 p1:w.heap.size+1<p
 p2:p<W.heap.size
 p3:W.heap[p]? =some (.cells #[St fx,St fy] 25 (0,0))
 q1:w.heap.size+1<q
 q2:q<W.heap.size
 q3:W.heap[q]? =some (.cells #[St gx,St gy] 25 (0,0))
section
variable {w W W':zA} {x1 y1 x2 y2 x3 y3 x4 y4 fx fy gx gy:List UInt8} {p q:Nat}
theorem FlatE.next (h:FlatE w x1 y1 x2 y2 x3 y3 x4 y4 fx fy gx gy p q W) (hb:qL W W'):FlatE w x1 y1 x2 y2 x3 y3 x4 y4 fx fy gx gy p q W':=
 ⟨h.base.next hb,h.ne,h.p1,zS h.p2 hb.size,(hb.block _ h.p2).trans h.p3,h.q1,zS h.q2 hb.size,(hb.block _ h.q2).trans h.q3⟩
theorem FlatE.putp (h:FlatE w x1 y1 x2 y2 x3 y3 x4 y4 fx fy gx gy p q W) (ux uy:List UInt8):FlatE w x1 y1 x2 y2 x3 y3 x4 y4 ux uy gx gy p q ((W.setCell ⟨p,0,none⟩ (St ux)).setCell ⟨p,1,none⟩ (St uy)):=
 ⟨(h.base.put h.p1 _ _).put h.p1 _ _,h.ne,h.p1,by simpa using h.p2,zjh h.p3,h.q1,by simpa using h.q2,by
   rw[yE _ _ _ _ (by simpa using Ne.symm h.ne),yE _ _ _ _ (by simpa using Ne.symm h.ne)];exact h.q3⟩
theorem FlatE.putq (h:FlatE w x1 y1 x2 y2 x3 y3 x4 y4 fx fy gx gy p q W) (ux uy:List UInt8):FlatE w x1 y1 x2 y2 x3 y3 x4 y4 fx fy ux uy p q ((W.setCell ⟨q,0,none⟩ (St ux)).setCell ⟨q,1,none⟩ (St uy)):=
 ⟨(h.base.put h.q1 _ _).put h.q1 _ _,h.ne,h.p1,by simpa using h.p2,by
   rw[yE _ _ _ _ (by simpa using h.ne),yE _ _ _ _ (by simpa using h.ne)];exact h.p3,h.q1,by simpa using h.q2,zjh h.q3⟩
theorem FlatE.c0 (h:FlatE w x1 y1 x2 y2 x3 y3 x4 y4 fx fy gx gy p q W):W.cell? ⟨p,0,none⟩=some (St fx):=by have:=h.p3;simp[World.cell?,this]
theorem FlatE.c1 (h:FlatE w x1 y1 x2 y2 x3 y3 x4 y4 fx fy gx gy p q W):W.cell? ⟨p,1,none⟩=some (St fy):=by have:=h.p3;simp[World.cell?,this]
theorem FlatE.d0 (h:FlatE w x1 y1 x2 y2 x3 y3 x4 y4 fx fy gx gy p q W):W.cell? ⟨q,0,none⟩=some (St gx):=by have:=h.q3;simp[World.cell?,this]
theorem FlatE.d1 (h:FlatE w x1 y1 x2 y2 x3 y3 x4 y4 fx fy gx gy p q W):W.cell? ⟨q,1,none⟩=some (St gy):=by have:=h.q3;simp[World.cell?,this]
theorem FlatE.fr (h:FlatE w x1 y1 x2 y2 x3 y3 x4 y4 fx fy gx gy p q W):W.frozen? ⟨p,0,none⟩=false/\W.frozen? ⟨p,1,none⟩=false/\W.frozen? ⟨q,0,none⟩=false/\W.frozen? ⟨q,1,none⟩=false:=by have:=h.q3;have:=h.p3;simp[World.frozen?, *]
end
theorem zw1 (x1 y1 x2 y2 x3 y3 x4 y4:List UInt8) (lx ly hx hy ax ay bx by':List UInt8) (n1 n2 n3:Int) (c1 c2:Bool) (h1:decide ((0:Int)<n1)=c1) (h2:decide (n2<(0:Int))=c2) (hn3: -1<=n3/\n3<=1)
 (TA:Hid (qK 35 #[.agg #[St x1,St y1],.agg #[St x2,St y2],.agg #[St x3,St y3]] (.int .i64 0)))
 (TB:Hid (qK 35 #[.agg #[St x1,St y1],.agg #[St x2,St y2],.agg #[St x4,St y4]] (.int .i64 0)))
 (TC:Hid (qK 35 #[.agg #[St x3,St y3],.agg #[St x4,St y4],.agg #[St x1,St y1]] (.int .i64 0)))
 (TD:Hid (qK 35 #[.agg #[St x3,St y3],.agg #[St x4,St y4],.agg #[St x2,St y2]] (.int .i64 0)))
 (LS:Hid (qK 83 #[.agg #[St x1,St y1,St x2,St y2]] (.agg #[St lx,St ly])))
 (HS:Hid (qK 84 #[.agg #[St x1,St y1,St x2,St y2]] (.agg #[St hx,St hy])))
 (LT:Hid (qK 83 #[.agg #[St x3,St y3,St x4,St y4]] (.agg #[St ax,St ay])))
 (HT:Hid (qK 84 #[.agg #[St x3,St y3,St x4,St y4]] (.agg #[St bx,St by'])))
 (O1:Hid (qK 85 #[.agg #[St ax,St ay],.agg #[St lx,St ly]] (.int .i64 n1)))
 (O2:Hid (qK 85 #[.agg #[St bx,St by'],.agg #[St hx,St hy]] (.int .i64 n2)))
 (O3:Hid (qK 85 #[.agg (if c1 then #[St ax,St ay] else #[St lx,St ly]),.agg (if c2 then #[St bx,St by'] else #[St hx,St hy])] (.int .i64 n3)))
 (w:zA) (HW:Hid (Wd w)):
 qJ 33 #[.agg #[St x1,St y1,St x2,St y2],.agg #[St x3,St y3,St x4,St y4]] w (.int .i64 (1-n3)):=by
 have hinit:MeetS w x1 y1 x2 y2 x3 y3 x4 y4 ((w.alloc (.cells #[St x1,St y1,St x2,St y2] 63)).alloc (.cells #[St x3,St y3,St x4,St y4] 63)):=by
  have e1:=zG w (.cells #[St x1,St y1,St x2,St y2] 63 (0,0))
  have e2:=zG (w.alloc (.cells #[St x1,St y1,St x2,St y2] 63)) (.cells #[St x3,St y3,St x4,St y4] 63 (0,0))
  simp only[zH] at e2
  refine⟨((zM _ w).alloc (zN _) _).alloc (by simp) _,by simp,?_,e2⟩
  exact(Below.heap_alloc _ _ _ (by simp only[zH];omega)).trans e1
 have HI:=hid hinit;clear hinit
 go_enter Tryz.func33,Tryz.ntmps33
 go_wp2_with fail
 refine zbl (λ_ W=>MeetS w x1 y1 x2 y2 x3 y3 x4 y4 W) (by kernel_rfl) (by kernel_rfl) (by have h:=HI.out;exact⟨h.bel.drew,h.lt,h.hs,h.ht⟩) ?_
 refine qR (.pointer (some ⟨w.heap.size,0,none⟩)) ?_
 simp only[zzQ]
 refine qR (.agg #[St x1,St y1]) ?_ (hy:=λf W' hf h=>by have h0:=h.s0;have h1:=h.s1;go_simp)
 simp only[zzQ]
 refine qR (.pointer (some ⟨w.heap.size,2,none⟩)) ?_
 simp only[zzQ]
 refine qR (.agg #[St x2,St y2]) ?_ (hy:=λf W' hf h=>by have h0:=h.s2;have h1:=h.s3;go_simp)
 simp only[zzQ]
 refine qR (.pointer (some ⟨w.heap.size+1,0,none⟩)) ?_
 simp only[zzQ]
 refine qR (.agg #[St x3,St y3]) ?_ (hy:=λf W' hf h=>by have h0:=h.t0;have h1:=h.t1;go_simp)
 simp only[zzQ]
 refine zar (.int .i64 0) (by rfl) (λf W' hf h C' hC'=>by
  go_simp
  refine(TA.out _ (HW.out.below h.bel)).mono ?_
  rintro e w' ⟨rfl,hb⟩
  exact⟨rfl,hC' _ (h.next hb)⟩) ?_
 try simp only[zzQ]
 refine qR (.pointer (some ⟨w.heap.size,0,none⟩)) ?_
 simp only[zzQ]
 refine qR (.agg #[St x1,St y1]) ?_ (hy:=λf W' hf h=>by have h0:=h.s0;have h1:=h.s1;go_simp)
 simp only[zzQ]
 refine qR (.pointer (some ⟨w.heap.size,2,none⟩)) ?_
 simp only[zzQ]
 refine qR (.agg #[St x2,St y2]) ?_ (hy:=λf W' hf h=>by have h0:=h.s2;have h1:=h.s3;go_simp)
 simp only[zzQ]
 refine qR (.pointer (some ⟨w.heap.size+1,2,none⟩)) ?_
 simp only[zzQ]
 refine qR (.agg #[St x4,St y4]) ?_ (hy:=λf W' hf h=>by have h0:=h.t2;have h1:=h.t3;go_simp)
 simp only[zzQ]
 refine zar (.int .i64 0) (by rfl) (λf W' hf h C' hC'=>by
  go_simp
  refine(TB.out _ (HW.out.below h.bel)).mono ?_
  rintro e w' ⟨rfl,hb⟩
  exact⟨rfl,hC' _ (h.next hb)⟩) ?_
 try simp only[zzQ]
 refine qR (.int .i64 0) ?_
 simp only[zzQ]
 refine qR (.int .i64 0) ?_
 simp only[zzQ]
 refine zck λf W1 hf h1=>?_
 clear hf f
 have H1:=hid h1;clear h1
 go_wp2_with fail
 refine zbl (λ_ W=>MeetS w x1 y1 x2 y2 x3 y3 x4 y4 W) (by kernel_rfl) (by kernel_rfl) (by have h:=H1.out;exact⟨h.bel.drew,h.lt,h.hs,h.ht⟩) ?_
 refine qR (.pointer (some ⟨w.heap.size+1,0,none⟩)) ?_
 simp only[zzQ]
 refine qR (.agg #[St x3,St y3]) ?_ (hy:=λf W' hf h=>by have h0:=h.t0;have h1:=h.t1;go_simp)
 simp only[zzQ]
 refine qR (.pointer (some ⟨w.heap.size+1,2,none⟩)) ?_
 simp only[zzQ]
 refine qR (.agg #[St x4,St y4]) ?_ (hy:=λf W' hf h=>by have h0:=h.t2;have h1:=h.t3;go_simp)
 simp only[zzQ]
 refine qR (.pointer (some ⟨w.heap.size,0,none⟩)) ?_
 simp only[zzQ]
 refine qR (.agg #[St x1,St y1]) ?_ (hy:=λf W' hf h=>by have h0:=h.s0;have h1:=h.s1;go_simp)
 simp only[zzQ]
 refine zar (.int .i64 0) (by rfl) (λf W' hf h C' hC'=>by
  go_simp
  refine(TC.out _ (HW.out.below h.bel)).mono ?_
  rintro e w' ⟨rfl,hb⟩
  exact⟨rfl,hC' _ (h.next hb)⟩) ?_
 try simp only[zzQ]
 refine qR (.pointer (some ⟨w.heap.size+1,0,none⟩)) ?_
 simp only[zzQ]
 refine qR (.agg #[St x3,St y3]) ?_ (hy:=λf W' hf h=>by have h0:=h.t0;have h1:=h.t1;go_simp)
 simp only[zzQ]
 refine qR (.pointer (some ⟨w.heap.size+1,2,none⟩)) ?_
 simp only[zzQ]
 refine qR (.agg #[St x4,St y4]) ?_ (hy:=λf W' hf h=>by have h0:=h.t2;have h1:=h.t3;go_simp)
 simp only[zzQ]
 refine qR (.pointer (some ⟨w.heap.size,2,none⟩)) ?_
 simp only[zzQ]
 refine qR (.agg #[St x2,St y2]) ?_ (hy:=λf W' hf h=>by have h0:=h.s2;have h1:=h.s3;go_simp)
 simp only[zzQ]
 refine zar (.int .i64 0) (by rfl) (λf W' hf h C' hC'=>by
  go_simp
  refine(TD.out _ (HW.out.below h.bel)).mono ?_
  rintro e w' ⟨rfl,hb⟩
  exact⟨rfl,hC' _ (h.next hb)⟩) ?_
 try simp only[zzQ]
 refine qR (.int .i64 0) ?_
 simp only[zzQ]
 refine qR (.int .i64 0) ?_
 simp only[zzQ]
 refine zck λf W2 hf h2=>?_
 have H2:=hid h2
 clear hf f h2 H1 TA TB TC TD
 go_wp2_with fail
 refine zc4 (zno x1 y1 x2 y2 lx ly hx hy) (FlatS w x1 y1 x2 y2 x3 y3 x4 y4 lx ly hx hy) (by kernel_rfl) (by kernel_rfl) (0,0) (by have h:=H2.out;exact⟨⟨h.bel.drew,h.lt,h.hs,h.ht⟩,λk=>(by cases k),λk=>(by cases k),λk=>(by cases k)⟩) λb=>?_
 refine qB (.agg #[St x1,St y1,St x2,St y2]) (λf W' h=>h.congr rfl rfl rfl rfl) ?_ (hy:=λf W' hf h=>by have h0:=h.base.s0;have h1:=h.base.s1;have h2:=h.base.s2;have h3:=h.base.s3;go_simp)
 simp only[zzQ]
 refine zbv (.agg #[St lx,St ly]) (by rfl) (by rfl) (λf W' hf h C' hC'=>by
  go_simp
  refine(LS.out _ (HW.out.below h.base.bel)).mono ?_
  rintro e w' ⟨rfl,hb⟩
  exact⟨_,rfl,hC' _ ((h.next hb).congr rfl rfl rfl rfl)⟩) ?_
 try simp only[zzQ]
 refine qB (.agg #[St x1,St y1,St x2,St y2]) (λf W' h=>h.congr rfl rfl rfl rfl) ?_ (hy:=λf W' hf h=>by have h0:=h.base.s0;have h1:=h.base.s1;have h2:=h.base.s2;have h3:=h.base.s3;go_simp)
 simp only[zzQ]
 refine zbv (.agg #[St hx,St hy]) (by rfl) (by rfl) (λf W' hf h C' hC'=>by
  go_simp
  refine(HS.out _ (HW.out.below h.base.bel)).mono ?_
  rintro e w' ⟨rfl,hb⟩
  exact⟨_,rfl,hC' _ ((h.next hb).congr rfl rfl rfl rfl)⟩) ?_
 try simp only[zzQ]
 refine zdc (.pointer (some ⟨b.1,0,none⟩)) (by rfl) (by rfl) (λf W' hf h C' hC'=>by
  have h6:=hf.no (j:=6) hf.self (by kernel_rfl)
  have hj:∀j,f j=true->zno x1 y1 x2 y2 lx ly hx hy (W'.heap.size,b.2) j=zno x1 y1 x2 y2 lx ly hx hy b j:=by
   intro j hj
   match j,hj with
   |0,_|1,_|2,_|3,_|5,_=>rfl
   |4,hj=>rw[hf.self] at hj;cases hj
   |_+6,_=>rfl
  have:=hC' _ _ hj (h.new4 h6 rfl rfl rfl rfl)
  go_simp
  exact this) ?_
 try simp only[zzQ]
 refine zdc (.pointer (some ⟨b.2,0,none⟩)) (by rfl) (by rfl) (λf W' hf h C' hC'=>by
  have h7:=hf.no (j:=7) hf.self (by kernel_rfl)
  have hj:∀j,f j=true->zno x1 y1 x2 y2 lx ly hx hy (b.1,W'.heap.size) j=zno x1 y1 x2 y2 lx ly hx hy b j:=by
   intro j hj
   match j,hj with
   |0,_|1,_|2,_|3,_|4,_=>rfl
   |5,hj=>rw[hf.self] at hj;cases hj
   |_+6,_=>rfl
  have:=hC' _ _ hj (h.new5 h7 rfl rfl rfl rfl)
  go_simp
  exact this) ?_
 try simp only[zzQ]
 refine zbv undef (by rfl) (by rfl) (λf W' hf h C' hC'=>by
  have h4:=hf.done 4 (by kernel_rfl)
  have h5:=hf.done 5 (by kernel_rfl)
  have h6:=hf.self
  have hc:=hC' _ (h.put6 h6 h4 h5 rfl rfl rfl rfl)
  have k3:=(h.g4 h4).2.2
  rw[h6,if_neg (by simp)] at k3
  have b0:W'.cell? ⟨b.1,0,none⟩=some (St []):=by simp[World.cell?,k3]
  have b1:W'.cell? ⟨b.1,1,none⟩=some (St []):=by simp[World.cell?,k3]
  have f0:W'.frozen? ⟨b.1,0,none⟩=false:=by simp[World.frozen?,k3]
  have f1:W'.frozen? ⟨b.1,1,none⟩=false:=by simp[World.frozen?,k3]
  clear k3
  go_simp
  exact hc) ?_
 try simp only[Act.put]
 refine zbv undef (by rfl) (by rfl) (λf W' hf h C' hC'=>by
  have h4:=hf.done 4 (by kernel_rfl)
  have h5:=hf.done 5 (by kernel_rfl)
  have h7:=hf.self
  have hc:=hC' _ (h.put7 h7 h4 h5 rfl rfl rfl rfl)
  have k3:=(h.g5 h5).2.2
  rw[h7,if_neg (by simp)] at k3
  have b0:W'.cell? ⟨b.2,0,none⟩=some (St []):=by simp[World.cell?,k3]
  have b1:W'.cell? ⟨b.2,1,none⟩=some (St []):=by simp[World.cell?,k3]
  have f0:W'.frozen? ⟨b.2,0,none⟩=false:=by simp[World.frozen?,k3]
  have f1:W'.frozen? ⟨b.2,1,none⟩=false:=by simp[World.frozen?,k3]
  clear k3
  go_simp
  exact hc) ?_
 try simp only[Act.put]
 refine ze1 λf W3 hf h=>?_
 have hE:FlatE w x1 y1 x2 y2 x3 y3 x4 y4 lx ly hx hy b.1 b.2 W3:=by
  have f4:=hf 4 (by decide);have f5:=hf 5 (by decide);have f6:=hf 6 (by decide);have f7:=hf 7 (by decide)
  have g4:=h.g4 f4;have g5:=h.g5 f5
  rw[if_pos f6] at g4;rw[if_pos f7] at g5
  exact⟨h.base,h.ne f4 f5,g4.1,g4.2.1,g4.2.2,g5.1,g5.2.1,g5.2.2⟩
 clear h hf f
 obtain⟨p,q⟩:=b
 dsimp only at hE⊢
 have H3:=hid hE;clear hE H2
 go_wp2_with fail
 refine zbl (λ_ W=>FlatE w x1 y1 x2 y2 x3 y3 x4 y4 lx ly hx hy p q W) (by kernel_rfl) (by kernel_rfl) (by have h:=H3.out;exact h.next (zM _ _).drew) ?_
 refine qR (.agg #[St x3,St y3,St x4,St y4]) ?_ (hy:=λf W' hf h=>by have h0:=h.base.t0;have h1:=h.base.t1;have h2:=h.base.t2;have h3:=h.base.t3;go_simp)
 simp only[zzQ]
 refine zar (.agg #[St ax,St ay]) (by rfl) (λf W' hf h C' hC'=>by
  go_simp
  refine(LT.out _ (HW.out.below h.base.bel)).mono ?_
  rintro e w' ⟨rfl,hb⟩
  exact⟨rfl,hC' _ (h.next hb)⟩) ?_
 try simp only[zzQ]
 refine qR (.agg #[St lx,St ly]) ?_ (hy:=λf W' hf h=>by have h0:=h.c0;have h1:=h.c1;go_simp)
 simp only[zzQ]
 refine zar (.int .i64 n1) (by rfl) (λf W' hf h C' hC'=>by
  go_simp
  refine(O1.out _ (HW.out.below h.base.bel)).mono ?_
  rintro e w' ⟨rfl,hb⟩
  exact⟨rfl,hC' _ (h.next hb)⟩) ?_
 try simp only[zzQ]
 refine qR (.bool c1) ?_
 simp only[zzQ]
 refine zck λf W4 hf h=>?_
 have H4:=hid h;clear h hf f H3
 have hw3:IntKind.i64.wrap (1-n3)=1-n3:=zI _ ⟨by omega,by omega⟩
 cases c1
 ·go_wp2_with fail
  refine zbl (λ_ W=>FlatE w x1 y1 x2 y2 x3 y3 x4 y4 lx ly hx hy p q W) (by kernel_rfl) (by kernel_rfl) (by have h:=H4.out;exact h.next (zM _ _).drew) ?_
  refine qR (.agg #[St x3,St y3,St x4,St y4]) ?_ (hy:=λf W' hf h=>by have h0:=h.base.t0;have h1:=h.base.t1;have h2:=h.base.t2;have h3:=h.base.t3;go_simp)
  simp only[zzQ]
  refine zar (.agg #[St bx,St by']) (by rfl) (λf W' hf h C' hC'=>by
   go_simp
   refine(HT.out _ (HW.out.below h.base.bel)).mono ?_
   rintro e w' ⟨rfl,hb⟩
   exact⟨rfl,hC' _ (h.next hb)⟩) ?_
  try simp only[zzQ]
  refine qR (.agg #[St hx,St hy]) ?_ (hy:=λf W' hf h=>by have h0:=h.d0;have h1:=h.d1;go_simp)
  simp only[zzQ]
  refine zar (.int .i64 n2) (by rfl) (λf W' hf h C' hC'=>by
   go_simp
   refine(O2.out _ (HW.out.below h.base.bel)).mono ?_
   rintro e w' ⟨rfl,hb⟩
   exact⟨rfl,hC' _ (h.next hb)⟩) ?_
  try simp only[zzQ]
  refine qR (.bool c2) ?_
  simp only[zzQ]
  refine zck λf W4 hf h=>?_
  clear H4
  have H4:=hid h;clear h hf f
  cases c2
  ·have g0:=H4.out.c0;have g1:=H4.out.c1;have g2:=H4.out.d0;have g3:=H4.out.d1
   have hB:=H4.out.base.bel
   have hwd:=HW.out.below hB
   have hO:=O3.out
   simp only[Bool.false_eq_true,if_false] at hO
   have HO:=hid hO;clear hO O3
   go_wp2_with fail
   refine(HO.out _ hwd).mono ?_
   rintro e W7 ⟨rfl,hb7⟩
   have hB7:=hB.trans (hb7.mono hB.size)
   clear g0 g1 g2 g3 hwd hb7
   go_wp2_with fail
   go_ret
   exact⟨rfl,hB7⟩
  ·have s0:=H4.out.base.t0;have s1:=H4.out.base.t1;have s2:=H4.out.base.t2;have s3:=H4.out.base.t3
   have hwd:=HW.out.below H4.out.base.bel
   go_wp2_with fail
   refine(HT.out _ hwd).mono ?_
   rintro e W5 ⟨rfl,hb5⟩
   have h5:=H4.out.next hb5
   have h6:=h5.putq bx by'
   have g0:=h5.d0;have g1:=h5.d1
   obtain⟨f0,f1,f2,f3⟩:=h5.fr
   clear s0 s1 s2 s3 hwd hb5 h5 H4
   have k0:=h6.c0;have k1:=h6.c1;have k2:=h6.d0;have k3:=h6.d1
   have hB:=h6.base.bel
   have hwd:=HW.out.below hB
   have hO:=O3.out
   simp only[Bool.false_eq_true,if_false,if_true] at hO
   have HO:=hid hO;clear hO O3 h6
   go_wp2_with fail
   refine(HO.out _ hwd).mono ?_
   rintro e W7 ⟨rfl,hb7⟩
   have hB7:=hB.trans (hb7.mono hB.size)
   clear k0 k1 k2 k3 g0 g1 f0 f1 f2 f3 hwd hb7
   go_wp2_with fail
   go_ret
   exact⟨rfl,hB7⟩
 ·have s0:=H4.out.base.t0;have s1:=H4.out.base.t1;have s2:=H4.out.base.t2;have s3:=H4.out.base.t3
  have hwd:=HW.out.below H4.out.base.bel
  go_wp2_with fail
  refine(LT.out _ hwd).mono ?_
  rintro e W5 ⟨rfl,hb5⟩
  have h5:=H4.out.next hb5
  have h6:=h5.putp ax ay
  have g0:=h5.c0;have g1:=h5.c1
  obtain⟨f0,f1,f2,f3⟩:=h5.fr
  clear s0 s1 s2 s3 hwd hb5 h5 H4
  have H6:=hid h6;clear h6
  go_wp2_with fail
  clear g0 g1 f0 f1 f2 f3
  refine zbl (λ_ W=>FlatE w x1 y1 x2 y2 x3 y3 x4 y4 ax ay hx hy p q W) (by kernel_rfl) (by kernel_rfl) (by have h:=H6.out;exact h.next (zM _ _).drew) ?_
  refine qR (.agg #[St x3,St y3,St x4,St y4]) ?_ (hy:=λf W' hf h=>by have h0:=h.base.t0;have h1:=h.base.t1;have h2:=h.base.t2;have h3:=h.base.t3;go_simp)
  simp only[zzQ]
  refine zar (.agg #[St bx,St by']) (by rfl) (λf W' hf h C' hC'=>by
   go_simp
   refine(HT.out _ (HW.out.below h.base.bel)).mono ?_
   rintro e w' ⟨rfl,hb⟩
   exact⟨rfl,hC' _ (h.next hb)⟩) ?_
  try simp only[zzQ]
  refine qR (.agg #[St hx,St hy]) ?_ (hy:=λf W' hf h=>by have h0:=h.d0;have h1:=h.d1;go_simp)
  simp only[zzQ]
  refine zar (.int .i64 n2) (by rfl) (λf W' hf h C' hC'=>by
   go_simp
   refine(O2.out _ (HW.out.below h.base.bel)).mono ?_
   rintro e w' ⟨rfl,hb⟩
   exact⟨rfl,hC' _ (h.next hb)⟩) ?_
  try simp only[zzQ]
  refine qR (.bool c2) ?_
  simp only[zzQ]
  refine zck λf W4 hf h=>?_
  clear H6
  have H4:=hid h;clear h hf f
  cases c2
  ·have g0:=H4.out.c0;have g1:=H4.out.c1;have g2:=H4.out.d0;have g3:=H4.out.d1
   have hB:=H4.out.base.bel
   have hwd:=HW.out.below hB
   have hO:=O3.out
   simp only[Bool.false_eq_true,if_false,if_true] at hO
   have HO:=hid hO;clear hO O3
   go_wp2_with fail
   refine(HO.out _ hwd).mono ?_
   rintro e W7 ⟨rfl,hb7⟩
   have hB7:=hB.trans (hb7.mono hB.size)
   clear g0 g1 g2 g3 hwd hb7
   go_wp2_with fail
   go_ret
   exact⟨rfl,hB7⟩
  ·have s0:=H4.out.base.t0;have s1:=H4.out.base.t1;have s2:=H4.out.base.t2;have s3:=H4.out.base.t3
   have hwd:=HW.out.below H4.out.base.bel
   go_wp2_with fail
   refine(HT.out _ hwd).mono ?_
   rintro e W5 ⟨rfl,hb5⟩
   have h5:=H4.out.next hb5
   have h6:=h5.putq bx by'
   have g0:=h5.d0;have g1:=h5.d1
   obtain⟨f0,f1,f2,f3⟩:=h5.fr
   clear s0 s1 s2 s3 hwd hb5 h5 H4
   have k0:=h6.c0;have k1:=h6.c1;have k2:=h6.d0;have k3:=h6.d1
   have hB:=h6.base.bel
   have hwd:=HW.out.below hB
   have hO:=O3.out
   simp only[if_true] at hO
   have HO:=hid hO;clear hO O3 h6
   go_wp2_with fail
   refine(HO.out _ hwd).mono ?_
   rintro e W7 ⟨rfl,hb7⟩
   have hB7:=hB.trans (hb7.mono hB.size)
   clear k0 k1 k2 k3 g0 g1 f0 f1 f2 f3 hwd hb7
   go_wp2_with fail
   go_ret
   exact⟨rfl,hB7⟩
end
end Go.Proofs.YthfpmfdiamldoaaGreatDoor
