/- polygon.Segments. -/
import Derived.Test.YthfpmfdiamldoaaGreatDoorG24
import Derived.Lib.SmallJoins
import Derived.Maps.AppendAt
set_option maxRecDepth 100000
set_option maxHeartbeats 8000000
open Go renaming World → zA, Calls → zC
open Go.RowKit renaming Below → zB, intOf → zL
open Go.Proofs.Tryz renaming prog → zF
open Go.World renaming alloc_heap_new → zG, size_alloc → zH
open Go.IntWalk renaming i64_in → zI
open Go.Joins renaming cell_of_block → zJ, block_setCell → zK
open Go.RowKit.Below renaming refl → zM, heap_setCell → yE
open Nat renaming le_refl → zN, mod_eq_of_lt → zQ, zero_le → zR
open List renaming length_append → zU, getElem?_eq_getElem → yB
namespace Go.Proofs.YthfpmfdiamldoaaGreatDoor
section
open Go.RowKit Go.Shelf Lib Str Limb Geo
attribute [local go_sem] Oper.semAt_some
theorem ybi (x1 y1 x2 y2 x3 y3 x4 y4:List UInt8) (r:Int)
 (C1:Hid (qK 31 #[.agg #[St x1,St y1]] (.int .i64 0)))
 (C2:Hid (qK 31 #[.agg #[St x2,St y2]] (.int .i64 0)))
 (C3:Hid (qK 31 #[.agg #[St x3,St y3]] (.int .i64 0)))
 (C4:Hid (qK 31 #[.agg #[St x4,St y4]] (.int .i64 0)))
 (M:Hid (qK 33 #[.agg #[St x1,St y1,St x2,St y2],.agg #[St x3,St y3,St x4,St y4]] (.int .i64 r)))
 (w:zA) (HW:Hid (Wd w)):
 qJ 12 #[.agg #[St x1,St y1],.agg #[St x2,St y2],.agg #[St x3,St y3],.agg #[St x4,St y4]] w (.tuple #[.int .i64 r,.int .i64 0]):=by
 have hinit:=FourS.start w x1 y1 x2 y2 x3 y3 x4 y4
 obtain⟨i1,i2,i3,i4,i5,i6,i7,i8⟩:=hinit.cells
 obtain⟨W1,hW1⟩:∃W1,W1=(((w.alloc (.cells #[St x1,St y1] 25)).alloc (.cells #[St x2,St y2] 25)).alloc (.cells #[St x3,St y3] 25)).alloc (.cells #[St x4,St y4] 25):=⟨_,rfl⟩
 rw[<-hW1] at hinit
 have HI:=hid hinit;clear hinit
 have HW1:=hid hW1;clear hW1
 have x0:∀w:zA,(Instr.index 69 (.agg #[St x1,St y1,St x2,St y2,St x3,St y3,St x4,St y4]) (.int .i64 0)).run zF w=.ok (.agg #[St x1,St y1]) w:=λ_=>by kernel_rfl
 have x1':∀w:zA,(Instr.index 69 (.agg #[St x1,St y1,St x2,St y2,St x3,St y3,St x4,St y4]) (.int .i64 1)).run zF w=.ok (.agg #[St x2,St y2]) w:=λ_=>by kernel_rfl
 have x2':∀w:zA,(Instr.index 69 (.agg #[St x1,St y1,St x2,St y2,St x3,St y3,St x4,St y4]) (.int .i64 2)).run zF w=.ok (.agg #[St x3,St y3]) w:=λ_=>by kernel_rfl
 have x3':∀w:zA,(Instr.index 69 (.agg #[St x1,St y1,St x2,St y2,St x3,St y3,St x4,St y4]) (.int .i64 3)).run zF w=.ok (.agg #[St x4,St y4]) w:=λ_=>by kernel_rfl
 go_enter Tryz.func12,Tryz.ntmps12
 go_wp2_with fail
 rw[<-HW1.out]
 clear i1 i2 i3 i4 i5 i6 i7 i8
 refine wp_loop_rounds 5 ?_
 rw[rounds_succ]
 go_wp2_with fail
 have b1:qL W1 (W1.alloc (.cells #[St x1,St y1] 25)):=(zM _ W1).alloc (zN _) _
 refine(C1.out _ (HW.out.below (HI.out.next b1).bel)).mono ?_
 rintro e V1 ⟨rfl,c1⟩
 have K1:=hid ((HI.out.next b1).next c1);clear HI b1 c1
 go_wp2_with fail
 rw[rounds_succ]
 go_wp2_with fail
 have b2:qL V1 (V1.alloc (.cells #[St x2,St y2] 25)):=(zM _ V1).alloc (zN _) _
 refine(C2.out _ (HW.out.below (K1.out.next b2).bel)).mono ?_
 rintro e V2 ⟨rfl,c2⟩
 have K2:=hid ((K1.out.next b2).next c2);clear K1 b2 c2
 go_wp2_with fail
 rw[rounds_succ]
 go_wp2_with fail
 have b3:qL V2 (V2.alloc (.cells #[St x3,St y3] 25)):=(zM _ V2).alloc (zN _) _
 refine(C3.out _ (HW.out.below (K2.out.next b3).bel)).mono ?_
 rintro e V3 ⟨rfl,c3⟩
 have K3:=hid ((K2.out.next b3).next c3);clear K2 b3 c3
 go_wp2_with fail
 rw[rounds_succ]
 go_wp2_with fail
 have b4:qL V3 (V3.alloc (.cells #[St x4,St y4] 25)):=(zM _ V3).alloc (zN _) _
 refine(C4.out _ (HW.out.below (K3.out.next b4).bel)).mono ?_
 rintro e V4 ⟨rfl,c4⟩
 have K4:=hid ((K3.out.next b4).next c4);clear K3 b4 c4
 go_wp2_with fail
 rw[rounds_succ]
 obtain⟨i1,i2,i3,i4,i5,i6,i7,i8⟩:=K4.out.cells
 change V4.cell? ⟨w.heap.size+1+1,0,none⟩=_ at i5
 change V4.cell? ⟨w.heap.size+1+1,1,none⟩=_ at i6
 change V4.cell? ⟨w.heap.size+1+1+1,0,none⟩=_ at i7
 change V4.cell? ⟨w.heap.size+1+1+1,1,none⟩=_ at i8
 have hB:=K4.out.bel
 go_wp2_with fail
 refine(M.out _ (HW.out.below hB)).mono ?_
 rintro e V5 ⟨rfl,c5⟩
 have hB5:=hB.trans (c5.mono hB.size)
 clear i1 i2 i3 i4 i5 i6 i7 i8 K4 c5 hB
 go_wp2_with fail
 go_ret2
 exact⟨rfl,hB5⟩
theorem z0s (a b c d:Pt) (ha:szP a 36) (hb:szP b 36) (hc:szP c 36) (hd:szP d 36) (w:zA) (hw:Wd w):
 qJ 12 #[ptV a,ptV b,ptV c,ptV d] w (.tuple #[.int .i64 (meet a b c d),.int .i64 0]):=
 ybi _ _ _ _ _ _ _ _ _ (hid λW hW=>zdi a ha W hW) (hid λW hW=>zdi b hb W hW) (hid λW hW=>zdi c hc W hW) (hid λW hW=>zdi d hd W hW)
  (hid λW hW=>zol a b c d 36 (by omega) (by omega) ha hb hc hd W hW) w (hid hw)
theorem yah (x1 y1 x2 y2 x3 y3 x4 y4:List UInt8) (A1 A2 A3 A4:Prop)
 (C1:Hid (∀W:zA,Wd W->zC zF 31 #[.agg #[St x1,St y1]] W λe w'=>∃r:Int,e=.returned (.int .i64 r)/\(r=0↔A1)/\zB W.heap.size W w'))
 (C2:Hid (∀W:zA,Wd W->zC zF 31 #[.agg #[St x2,St y2]] W λe w'=>∃r:Int,e=.returned (.int .i64 r)/\(r=0↔A2)/\zB W.heap.size W w'))
 (C3:Hid (∀W:zA,Wd W->zC zF 31 #[.agg #[St x3,St y3]] W λe w'=>∃r:Int,e=.returned (.int .i64 r)/\(r=0↔A3)/\zB W.heap.size W w'))
 (C4:Hid (∀W:zA,Wd W->zC zF 31 #[.agg #[St x4,St y4]] W λe w'=>∃r:Int,e=.returned (.int .i64 r)/\(r=0↔A4)/\zB W.heap.size W w'))
 (HN:Hid (¬(A1/\A2/\A3/\A4))) (w:zA) (HW:Hid (Wd w)):
 qJ 12 #[.agg #[St x1,St y1],.agg #[St x2,St y2],.agg #[St x3,St y3],.agg #[St x4,St y4]] w (.tuple #[.int .i64 0,.int .i64 1]):=by
 have hinit:=FourS.start w x1 y1 x2 y2 x3 y3 x4 y4
 obtain⟨i1,i2,i3,i4,i5,i6,i7,i8⟩:=hinit.cells
 obtain⟨W1,hW1⟩:∃W1,W1=(((w.alloc (.cells #[St x1,St y1] 25)).alloc (.cells #[St x2,St y2] 25)).alloc (.cells #[St x3,St y3] 25)).alloc (.cells #[St x4,St y4] 25):=⟨_,rfl⟩
 rw[<-hW1] at hinit
 have HI:=hid hinit;clear hinit
 have HW1:=hid hW1;clear hW1
 have NE:=hid λ(r:Int) (hr:r≠0)=>(⟨beq_eq_false_iff_ne.2 hr,by rw[bne,beq_eq_false_iff_ne.2 hr];rfl⟩:(r==0)=false/\(r !=0)=true)
 have x0:∀w:zA,(Instr.index 69 (.agg #[St x1,St y1,St x2,St y2,St x3,St y3,St x4,St y4]) (.int .i64 0)).run zF w=.ok (.agg #[St x1,St y1]) w:=λ_=>by kernel_rfl
 have x1':∀w:zA,(Instr.index 69 (.agg #[St x1,St y1,St x2,St y2,St x3,St y3,St x4,St y4]) (.int .i64 1)).run zF w=.ok (.agg #[St x2,St y2]) w:=λ_=>by kernel_rfl
 have x2':∀w:zA,(Instr.index 69 (.agg #[St x1,St y1,St x2,St y2,St x3,St y3,St x4,St y4]) (.int .i64 2)).run zF w=.ok (.agg #[St x3,St y3]) w:=λ_=>by kernel_rfl
 have x3':∀w:zA,(Instr.index 69 (.agg #[St x1,St y1,St x2,St y2,St x3,St y3,St x4,St y4]) (.int .i64 3)).run zF w=.ok (.agg #[St x4,St y4]) w:=λ_=>by kernel_rfl
 go_enter Tryz.func12,Tryz.ntmps12
 go_wp2_with fail
 rw[<-HW1.out]
 clear i1 i2 i3 i4 i5 i6 i7 i8
 refine wp_loop_rounds 5 ?_
 rw[rounds_succ]
 go_wp2_with fail
 have b1:qL W1 (W1.alloc (.cells #[St x1,St y1] 25)):=(zM _ W1).alloc (zN _) _
 refine(C1.out _ (HW.out.below (HI.out.next b1).bel)).mono ?_
 rintro e V1 ⟨r,rfl,hr,c1⟩
 have K1:=hid ((HI.out.next b1).next c1);have R1:=hid hr;clear HI b1 c1 hr
 by_cases h0:r=0
 rotate_left
 ·obtain⟨e1,e2⟩:=NE.out r h0
  clear h0 x0 x1' x2' x3'
  go_wp2_with fail
  go_ret2
  exact⟨rfl,K1.out.bel⟩
 have B1:=hid (R1.out.1 h0);subst h0;clear R1
 go_wp2_with fail
 rw[rounds_succ]
 go_wp2_with fail
 have b2:qL V1 (V1.alloc (.cells #[St x2,St y2] 25)):=(zM _ V1).alloc (zN _) _
 refine(C2.out _ (HW.out.below (K1.out.next b2).bel)).mono ?_
 rintro e V2 ⟨r,rfl,hr,c2⟩
 have K2:=hid ((K1.out.next b2).next c2);have R2:=hid hr;clear K1 b2 c2 hr
 by_cases h0:r=0
 rotate_left
 ·obtain⟨e1,e2⟩:=NE.out r h0
  clear h0 x0 x1' x2' x3'
  go_wp2_with fail
  go_ret2
  exact⟨rfl,K2.out.bel⟩
 have B2:=hid (R2.out.1 h0);subst h0;clear R2
 go_wp2_with fail
 rw[rounds_succ]
 go_wp2_with fail
 have b3:qL V2 (V2.alloc (.cells #[St x3,St y3] 25)):=(zM _ V2).alloc (zN _) _
 refine(C3.out _ (HW.out.below (K2.out.next b3).bel)).mono ?_
 rintro e V3 ⟨r,rfl,hr,c3⟩
 have K3:=hid ((K2.out.next b3).next c3);have R3:=hid hr;clear K2 b3 c3 hr
 by_cases h0:r=0
 rotate_left
 ·obtain⟨e1,e2⟩:=NE.out r h0
  clear h0 x0 x1' x2' x3'
  go_wp2_with fail
  go_ret2
  exact⟨rfl,K3.out.bel⟩
 have B3:=hid (R3.out.1 h0);subst h0;clear R3
 go_wp2_with fail
 rw[rounds_succ]
 go_wp2_with fail
 have b4:qL V3 (V3.alloc (.cells #[St x4,St y4] 25)):=(zM _ V3).alloc (zN _) _
 refine(C4.out _ (HW.out.below (K3.out.next b4).bel)).mono ?_
 rintro e V4 ⟨r,rfl,hr,c4⟩
 have K4:=hid ((K3.out.next b4).next c4)
 obtain⟨e1,e2⟩:=NE.out r (λh=>HN.out ⟨B1.out,B2.out,B3.out,hr.1 h⟩)
 clear K3 b4 c4 hr x0 x1' x2' x3'
 go_wp2_with fail
 go_ret2
 exact⟨rfl,K4.out.bel⟩
structure BoxP (w1:zA) (A:Nat) (x y:List UInt8) (W:zA):Prop where
 bel:qL w1 W
 bx:W.heap[A]? =some (.cells #[St x,St y] 25 (0,0))
section
variable {w1 W W':zA} {A:Nat} {x y:List UInt8}
theorem BoxP.next (h:BoxP w1 A x y W) (hb:qL W W'):BoxP w1 A x y W':=
 ⟨h.bel.trans (hb.mono h.bel.size),(hb.block _ (Array.getElem?_eq_some_iff.1 h.bx).1).trans h.bx⟩
theorem BoxP.cx (h:BoxP w1 A x y W):W.cell? ⟨A,0,none⟩=some (St x)/\W.cell? ⟨A,1,none⟩=some (St y):=by have:=h.bx;simp[World.cell?,this]
theorem BoxP.start (w:zA) (x y:List UInt8):BoxP w w.heap.size x y (w.alloc (.cells #[St x,St y] 25)):=⟨(zM _ w).alloc (zN _) _,zG _ _⟩
end
theorem z2m:∀r:Int,r≠0->(r==0)=false/\(r !=0)=true:=λr hr=>⟨beq_eq_false_iff_ne.2 hr,by rw[bne,beq_eq_false_iff_ne.2 hr];rfl⟩
theorem yar (p:Option Addr) (cap n:Nat) (l:List (List UInt8×List UInt8)) (x y:List UInt8) (A B:Prop)
 (C:Hid (∀W:zA,Wd W->RowTx p l W->zC zF 36 #[.slice p n cap] W λe w'=>∃r:Int,e=.returned (.int .i64 r)/\(r=0↔A)/\zB W.heap.size W w'))
 (CP:Hid (∀W:zA,Wd W->zC zF 37 #[.agg #[St x,St y]] W λe w'=>∃r:Int,e=.returned (.int .i64 r)/\(r=0↔B)/\zB W.heap.size W w'))
 (HN:Hid (¬(A/\B))) (w:zA) (HW:Hid (Wd w)) (HP:Hid (RowTx p l w)):
 qJ 9 #[.slice p n cap,.agg #[St x,St y]] w (.tuple #[.int .i64 0,.int .i64 1]):=by
 obtain⟨W0,hW0⟩:∃W0,W0=w.alloc (.cells #[St x,St y] 25):=⟨_,rfl⟩
 have HS:=hid (show BoxP w w.heap.size x y W0 by rw[hW0];exact BoxP.start w x y)
 have HC:=hid (C.out W0 (HW.out.below HS.out.bel) (HP.out.keep (zac HS.out.bel)))
 have H9:=hid hW0.symm
 clear hW0 C
 have NE:=hid z2m
 go_enter Tryz.func9,Tryz.ntmps9
 go_wp2_with fail
 simp only[H9.out]
 refine HC.out.mono ?_
 rintro e w1 ⟨r,rfl,hr,hb1⟩
 have HS1:=hid (HS.out.next hb1)
 have HR:=hid hr
 clear hb1 HS HC hr H9
 by_cases h0:r=0
 ·have HA:=hid (HR.out.1 h0)
  subst h0
  obtain⟨c0,c1⟩:=HS1.out.cx
  go_wp2_with fail
  clear c0 c1
  refine(CP.out w1 (HW.out.below HS1.out.bel)).mono ?_
  rintro e w2 ⟨r,rfl,hr,hb2⟩
  have h0:r≠0:=λe=>HN.out ⟨HA.out,hr.1 e⟩
  obtain⟨e1,e2⟩:=NE.out r h0
  have HS2:=hid (HS1.out.next hb2)
  clear hb2 HS1 hr h0
  go_wp2_with fail
  go_ret2
  exact⟨rfl,HS2.out.bel⟩
 ·obtain⟨e1,e2⟩:=NE.out r h0
  clear h0
  go_wp2_with fail
  go_ret2
  exact⟨rfl,HS1.out.bel⟩
theorem ycc (p p':Option Addr) (cap cap' n n':Nat) (l m:List (List UInt8×List UInt8)) (A B:Prop)
 (C:Hid (∀W:zA,Wd W->RowTx p l W->zC zF 36 #[.slice p n cap] W λe w'=>∃r:Int,e=.returned (.int .i64 r)/\(r=0↔A)/\zB W.heap.size W w'))
 (C2:Hid (∀W:zA,Wd W->RowTx p' m W->zC zF 36 #[.slice p' n' cap'] W λe w'=>∃r:Int,e=.returned (.int .i64 r)/\(r=0↔B)/\zB W.heap.size W w'))
 (HN:Hid (¬(A/\B))) (w:zA) (HW:Hid (Wd w)) (HP:Hid (RowTx p l w)) (HP':Hid (RowTx p' m w)):
 qJ 11 #[.slice p n cap,.slice p' n' cap'] w (.tuple #[.bool false,.int .i64 1]):=by
 have NE:=hid z2m
 have HC:=hid (C.out w HW.out HP.out)
 go_enter Tryz.func11,Tryz.ntmps11
 go_wp2_with fail
 refine HC.out.mono ?_
 rintro e w1 ⟨r,rfl,hr,hb1⟩
 have HB1:=hid hb1
 have HR:=hid hr
 clear hb1 hr HC
 by_cases h0:r=0
 ·have HA:=hid (HR.out.1 h0)
  subst h0
  have HC:=hid (C2.out w1 (HW.out.below HB1.out) (HP'.out.keep (zac HB1.out)))
  go_wp2_with fail
  refine HC.out.mono ?_
  rintro e w2 ⟨r,rfl,hr,hb2⟩
  have h0:r≠0:=λe=>HN.out ⟨HA.out,hr.1 e⟩
  obtain⟨e1,e2⟩:=NE.out r h0
  have HB2:=qT HB1 hb2
  clear hb2 hr h0 HC
  go_wp2_with fail
  go_ret2
  exact⟨rfl,HB2.out⟩
 ·obtain⟨e1,e2⟩:=NE.out r h0
  clear h0
  go_wp2_with fail
  go_ret2
  exact⟨rfl,HB1.out⟩
theorem zs6 (x1 y1 x2 y2 x3 y3 x4 y4:List UInt8) (A1 A2 A3 A4:Prop) (n:Int) (E:Int)
 (C1:Hid (∀W:zA,Wd W->zC zF 37 #[.agg #[St x1,St y1]] W λe w'=>∃r:Int,e=.returned (.int .i64 r)/\(r=0↔A1)/\zB W.heap.size W w'))
 (C2:Hid (∀W:zA,Wd W->zC zF 37 #[.agg #[St x2,St y2]] W λe w'=>∃r:Int,e=.returned (.int .i64 r)/\(r=0↔A2)/\zB W.heap.size W w'))
 (C3:Hid (∀W:zA,Wd W->zC zF 37 #[.agg #[St x3,St y3]] W λe w'=>∃r:Int,e=.returned (.int .i64 r)/\(r=0↔A3)/\zB W.heap.size W w'))
 (C4:Hid (∀W:zA,Wd W->zC zF 37 #[.agg #[St x4,St y4]] W λe w'=>∃r:Int,e=.returned (.int .i64 r)/\(r=0↔A4)/\zB W.heap.size W w'))
 (SG:Hid (A1/\A2/\A3/\A4->E=0/\qK 44 #[.agg #[St x1,St y1],.agg #[St x2,St y2],.agg #[St x3,St y3],.agg #[St x4,St y4]] (.int .i64 n)))
 (HN:Hid (¬(A1/\A2/\A3/\A4)->n=0/\E=1)) (w:zA) (HW:Hid (Wd w)):
 qJ 13 #[.agg #[St x1,St y1],.agg #[St x2,St y2],.agg #[St x3,St y3],.agg #[St x4,St y4]] w (.tuple #[.int .i64 n,.int .i64 E]):=by
 have NE:=hid z2m
 have hinit:=FourS.start w x1 y1 x2 y2 x3 y3 x4 y4
 obtain⟨i1,i2,i3,i4,i5,i6,i7,i8⟩:=hinit.cells'
 obtain⟨W1,hW1⟩:∃W1,W1=(((w.alloc (.cells #[St x1,St y1] 25)).alloc (.cells #[St x2,St y2] 25)).alloc (.cells #[St x3,St y3] 25)).alloc (.cells #[St x4,St y4] 25):=⟨_,rfl⟩
 rw[<-hW1] at hinit
 have K0:=hid hinit;clear hinit
 have HW1:=hid hW1;clear hW1
 go_enter Tryz.func13,Tryz.ntmps13
 go_wp2_with fail
 rw[<-HW1.out]
 clear i1 i2 i3 i4 i5 i6 i7 i8 HW1
 refine(C1.out W1 (HW.out.below K0.out.bel)).mono ?_
 rintro e V1 ⟨r,rfl,hr,hb⟩
 have K1:=hid (K0.out.next hb);have R1:=hid hr;clear hb hr K0
 obtain⟨i1,i2,i3,i4,i5,i6,i7,i8⟩:=K1.out.cells'
 by_cases h0:r=0
 rotate_left
 ·obtain⟨e1,e2⟩:=NE.out r h0
  have HE:=hid (HN.out λh=>h0 (R1.out.2 h.1))
  clear h0 HN SG i1 i2 i3 i4 i5 i6 i7 i8
  go_wp2_with fail
  go_ret2
  exact⟨by rw[HE.out.1,HE.out.2]<;>rfl,K1.out.bel⟩
 have B1:=hid (R1.out.1 h0);subst h0;clear R1
 go_wp2_with fail
 clear i1 i2 i3 i4 i5 i6 i7 i8
 refine(C2.out V1 (HW.out.below K1.out.bel)).mono ?_
 rintro e V2 ⟨r,rfl,hr,hb⟩
 have K2:=hid (K1.out.next hb);have R1:=hid hr;clear hb hr K1
 obtain⟨i1,i2,i3,i4,i5,i6,i7,i8⟩:=K2.out.cells'
 by_cases h0:r=0
 rotate_left
 ·obtain⟨e1,e2⟩:=NE.out r h0
  have HE:=hid (HN.out λh=>h0 (R1.out.2 h.2.1))
  clear h0 HN SG i1 i2 i3 i4 i5 i6 i7 i8
  go_wp2_with fail
  go_ret2
  exact⟨by rw[HE.out.1,HE.out.2]<;>rfl,K2.out.bel⟩
 have B2:=hid (R1.out.1 h0);subst h0;clear R1
 go_wp2_with fail
 clear i1 i2 i3 i4 i5 i6 i7 i8
 refine(C3.out V2 (HW.out.below K2.out.bel)).mono ?_
 rintro e V3 ⟨r,rfl,hr,hb⟩
 have K3:=hid (K2.out.next hb);have R1:=hid hr;clear hb hr K2
 obtain⟨i1,i2,i3,i4,i5,i6,i7,i8⟩:=K3.out.cells'
 by_cases h0:r=0
 rotate_left
 ·obtain⟨e1,e2⟩:=NE.out r h0
  have HE:=hid (HN.out λh=>h0 (R1.out.2 h.2.2.1))
  clear h0 HN SG i1 i2 i3 i4 i5 i6 i7 i8
  go_wp2_with fail
  go_ret2
  exact⟨by rw[HE.out.1,HE.out.2]<;>rfl,K3.out.bel⟩
 have B3:=hid (R1.out.1 h0);subst h0;clear R1
 go_wp2_with fail
 clear i1 i2 i3 i4 i5 i6 i7 i8
 refine(C4.out V3 (HW.out.below K3.out.bel)).mono ?_
 rintro e V4 ⟨r,rfl,hr,hb⟩
 have K4:=hid (K3.out.next hb);have R1:=hid hr;clear hb hr K3
 obtain⟨i1,i2,i3,i4,i5,i6,i7,i8⟩:=K4.out.cells'
 by_cases h0:r=0
 rotate_left
 ·obtain⟨e1,e2⟩:=NE.out r h0
  have HE:=hid (HN.out λh=>h0 (R1.out.2 h.2.2.2))
  clear h0 HN SG i1 i2 i3 i4 i5 i6 i7 i8
  go_wp2_with fail
  go_ret2
  exact⟨by rw[HE.out.1,HE.out.2]<;>rfl,K4.out.bel⟩
 have HS:=hid (SG.out ⟨B1.out,B2.out,B3.out,R1.out.1 h0⟩);subst h0;clear R1 SG HN
 go_wp2_with fail
 clear i1 i2 i3 i4 i5 i6 i7 i8
 refine(HS.out.2 V4 (HW.out.below K4.out.bel)).mono ?_
 rintro e V5 ⟨rfl,hb⟩
 have K5:=hid (K4.out.next hb);clear hb K4
 have HE:=hid HS.out.1
 clear HS
 go_wp2_with fail
 go_ret2
 exact⟨by rw[HE.out]<;>rfl,K5.out.bel⟩
end
section
open Go.RowKit Go.Shelf Lib Str Limb
def pqC (b:Bool) (x y:ByteArray):Array Value:=if b=true then #[.string x,.string y] else #[St [],St []]
structure PqS (w:zA) (x y u v:ByteArray) (q:Nat×Nat) (f:Nat->Bool) (W:zA):Prop where
 bel:qL w W
 lo1:f 12=true->w.heap.size<=q.1
 lo2:f 13=true->w.heap.size<=q.2
 ne:f 12=true->f 13=true->q.1≠q.2
 a:f 12=true->W.heap[q.1]? =some (.cells (pqC (f 14) x y) 25 (0,0))
 b:f 13=true->W.heap[q.2]? =some (.cells (pqC (f 15) u v) 25 (0,0))
section
variable {w W:zA} {x y u v:ByteArray} {q:Nat×Nat} {f g:Nat->Bool}
theorem PqS.congr (h:PqS w x y u v q f W) (e12:g 12=f 12) (e13:g 13=f 13) (e14:g 14=f 14) (e15:g 15=f 15):PqS w x y u v q g W:=
 ⟨h.bel,by rw[e12];exact h.lo1,by rw[e13];exact h.lo2,by rw[e12,e13];exact h.ne,by rw[e12,e14];exact h.a,by rw[e13,e15];exact h.b⟩
theorem PqS.newA (h:PqS w x y u v q f W) (_:g 12=true) (e13:g 13=f 13) (e14:g 14=false) (e15:g 15=f 15):PqS w x y u v (W.heap.size,q.2) g (W.alloc (.cells #[St [],St []] 25)):=by
 have hb:qL W (W.alloc (.cells #[St [],St []] 25)):=(zM _ W).alloc (zN _) _
 refine⟨h.bel.trans (hb.mono h.bel.size),λ_=>h.bel.size,by rw[e13];exact h.lo2,λ_ k=>?_,λ_=>by rw[e14];exact zG _ _,λk=>?_⟩
 ·rw[e13] at k
  have:=(Array.getElem?_eq_some_iff.1 (h.b k)).1
  show W.heap.size≠q.2;omega
 ·rw[e13] at k
  rw[e15]
  exact(hb.block _ (Array.getElem?_eq_some_iff.1 (h.b k)).1).trans (h.b k)
theorem PqS.newB (h:PqS w x y u v q f W) (_:g 13=true) (e12:g 12=f 12) (e15:g 15=false) (e14:g 14=f 14):PqS w x y u v (q.1,W.heap.size) g (W.alloc (.cells #[St [],St []] 25)):=by
 have hb:qL W (W.alloc (.cells #[St [],St []] 25)):=(zM _ W).alloc (zN _) _
 refine⟨h.bel.trans (hb.mono h.bel.size),by rw[e12];exact h.lo1,λ_=>h.bel.size,λk _=>?_,λk=>?_,λ_=>by rw[e15];exact zG _ _⟩
 ·rw[e12] at k
  have:=(Array.getElem?_eq_some_iff.1 (h.a k)).1
  show q.1≠W.heap.size;omega
 ·rw[e12] at k
  rw[e14]
  exact(hb.block _ (Array.getElem?_eq_some_iff.1 (h.a k)).1).trans (h.a k)
theorem z7i (b:Bool) (x y:ByteArray) (s t:Value):((pqC b x y).setIfInBounds 0 s).setIfInBounds 1 t= #[s,t]:=by cases b<;>rfl
theorem PqS.putA (h:PqS w x y u v q f W) (k:f 12=true) (e12:g 12=f 12) (e13:g 13=f 13) (e14:g 14=true) (e15:g 15=f 15):PqS w x y u v q g ((W.setCell ⟨q.1,0,none⟩ (.string x)).setCell ⟨q.1,1,none⟩ (.string y)):=by
 have hl:=h.lo1 k
 refine⟨(h.bel.setCell (by simp;omega) _).setCell (by simp;omega) _,λ_=>hl,by rw[e13];exact h.lo2,by rw[e12,e13];exact h.ne,λ_=>?_,λk2=>?_⟩
 ·rw[zK (zK (h.a k) _),z7i,e14];rfl
 ·rw[e13] at k2
  have hn:=h.ne k k2
  rw[yE _ _ _ _ (by simp;omega),yE _ _ _ _ (by simp;omega),e15]
  exact h.b k2
theorem PqS.putB (h:PqS w x y u v q f W) (k:f 13=true) (e12:g 12=f 12) (e13:g 13=f 13) (e14:g 14=f 14) (e15:g 15=true):PqS w x y u v q g ((W.setCell ⟨q.2,0,none⟩ (.string u)).setCell ⟨q.2,1,none⟩ (.string v)):=by
 have hl:=h.lo2 k
 refine⟨(h.bel.setCell (by simp;omega) _).setCell (by simp;omega) _,by rw[e12];exact h.lo1,λ_=>hl,by rw[e12,e13];exact h.ne,λk2=>?_,λ_=>?_⟩
 ·rw[e12] at k2
  have hn:=h.ne k2 k
  rw[yE _ _ _ _ (by simp;omega),yE _ _ _ _ (by simp;omega),e14]
  exact h.a k2
 ·rw[zK (zK (h.b k) _),z7i,e15];rfl
theorem z6e {W:zA} {g:Nat} {b:Bool} {x y:ByteArray} {t:TypeId} (h:W.heap[g]? =some (.cells (pqC b x y) t (0,0))):(∃s,W.cell? ⟨g,0,none⟩=some s)/\(∃s,W.cell? ⟨g,1,none⟩=some s)/\W.frozen? ⟨g,0,none⟩=false/\W.frozen? ⟨g,1,none⟩=false:=by
 refine⟨⟨(pqC b x y)[0]?.getD undef,?_⟩,⟨(pqC b x y)[1]?.getD undef,?_⟩,by simp[World.frozen?,h],by simp[World.frozen?,h]⟩
 ·rw[zJ h];cases b<;>rfl
 ·rw[zJ h];cases b<;>rfl
end
def pqV (b off n c F F':Nat) (x y u v:ByteArray) (q:Nat×Nat) (k:Nat):Value:=
 ([.slice (some ⟨b,off,none⟩) n c,.int .i64 (F:Int),.pointer (some ⟨b,off+F*2,none⟩),.agg #[.string x,.string y],.slice (some ⟨b,off,none⟩) n c,.int .i64 (F:Int),.int .i64 ((F:Int)+1),.slice (some ⟨b,off,none⟩) n c,.int .i64 (n:Int),.int .i64 (F':Int),.pointer (some ⟨b,off+F'*2,none⟩),.agg #[.string u,.string v],.pointer (some ⟨q.1,0,none⟩),.pointer (some ⟨q.2,0,none⟩),undef,undef]:List Value).getD k undef
end
section
open Go.RowKit Go.Shelf Lib Str Limb Geo
theorem z3s (l:List Pt) (k:Nat):cor l (l.length+k)=cor l k:=by unfold cor;rw[Nat.add_mod_left]
theorem z3y:∀(s t:List Pt) (k:Nat),cor (t++s) k=cor (s++t) (k+s.length)
 |[],t,k=>by simp
 |x::s,t,k=>by
  have:=z3y s (t++[x]) k
  rw[List.append_assoc,List.singleton_append] at this
  rw[this,<-List.append_assoc,z38,List.cons_append,List.length_cons,Nat.add_assoc]
def z3l (o:List Pt):Nat->Nat
 |0=>0
 |k+1=>if ordP (cor o k) (cor o (z3l o k))<0 then k else z3l o k
def z31 (o:List Pt):List Pt:=
 if turn (cor o (z3l o o.length+o.length-1)) (cor o (z3l o o.length)) (cor o (z3l o o.length+1))<0 then
  o.reverse.drop (o.length-1-z3l o o.length)++o.reverse.take (o.length-1-z3l o o.length)
 else o.drop (z3l o o.length)++o.take (z3l o o.length)
theorem z4f {o:List Pt} (h:0<o.length):∀k,k<=o.length->z3l o k<o.length/\∀j,j<k->le (cor o (z3l o k)) (cor o j)
 |0,_=>⟨h,λj hj=>absurd hj (by omega)⟩
 |k+1,hk=>by
  obtain⟨h1,h2⟩:=z4f h k (by omega)
  rw[z3l]
  split
  ·rename_i c
   refine⟨by omega,λj hj=>?_⟩
   by_cases e:j=k
   ·subst e;exact zhp _
   ·exact le_trans (show le _ _ by unfold le;omega) (h2 j (by omega))
  ·rename_i c
   refine⟨h1,λj hj=>?_⟩
   by_cases e:j=k
   ·subst e
    have:=z3t (cor o j) (cor o (z3l o j))
    unfold le;omega
   ·exact h2 j (by omega)
def z3m (l:List Pt) (i:Nat):Bool:=decide (turn (cor l (i+l.length-1)) (cor l i) (cor l (i+1))=0)
def z3o (l:List Pt) (k:Nat):List Pt:=((List.range k).filter λi=>!z3m l i).map (cor l)
def z3n (l:List Pt):List Pt:=z3o l l.length
theorem z35 (l:List Pt) (k:Nat):z3o l (k+1)=if z3m l k then z3o l k else z3o l k++[cor l k]:=by
 unfold z3o
 rw[List.range_succ,List.filter_append,List.map_append]
 cases h:z3m l k<;>simp[h]
def z3p (l:List Pt):List Pt:=z31 (z3n l)
theorem z5m (l:List Pt):(z3n l).Sublist l:=by
 have e:l=(List.range l.length).map (cor l):=by
  apply List.ext_getElem
  ·simp
  ·intro i h1 h2
   rw[List.getElem_map,List.getElem_range,z3r h1]
 unfold z3n z3o
 conv=>rhs;rw[e]
 exact List.filter_sublist.map _
end
section
open Go.RowKit Go.Shelf Lib Str Limb Geo
attribute [local go_sem] Oper.semAt_some
theorem TurnS.start (w:zA) (x1 y1 x2 y2 x3 y3:List UInt8):TurnS w x1 y1 x2 y2 x3 y3 (((w.alloc (.cells #[St x1,St y1] 25)).alloc (.cells #[St x2,St y2] 25)).alloc (.cells #[St x3,St y3] 25)):=by
 have e1:=zG w (.cells #[St x1,St y1] 25 (0,0))
 have e2:=zG (w.alloc (.cells #[St x1,St y1] 25)) (.cells #[St x2,St y2] 25 (0,0))
 have e3:=zG ((w.alloc (.cells #[St x1,St y1] 25)).alloc (.cells #[St x2,St y2] 25)) (.cells #[St x3,St y3] 25 (0,0))
 simp only[zH] at e2 e3
 refine⟨(((zM _ w).alloc (zN _) _).alloc (by simp) _).alloc (by simp;omega) _,by simp,?_,?_,e3⟩
 ·exact(Below.heap_alloc _ _ _ (by simp only[zH];omega)).trans ((Below.heap_alloc _ _ _ (by simp only[zH];omega)).trans e1)
 ·exact(Below.heap_alloc _ _ _ (by simp only[zH];omega)).trans e2
theorem z69 (x1 y1 x2 y2 x3 y3:List UInt8) (n:Int) (fl:Bool) (hfl:(n==0)=fl)
 (T:Hid (qK 35 #[.agg #[St x1,St y1],.agg #[St x2,St y2],.agg #[St x3,St y3]] (.int .i64 n)))
 (w:zA) (HW:Hid (Wd w)):
 qJ 91 #[.agg #[St x1,St y1],.agg #[St x2,St y2],.agg #[St x3,St y3]] w (.bool fl):=by
 obtain⟨W3,hW3⟩:∃W3,W3=((w.alloc (.cells #[St x1,St y1] 25)).alloc (.cells #[St x2,St y2] 25)).alloc (.cells #[St x3,St y3] 25):=⟨_,rfl⟩
 have HI:=hid (TurnS.start w x1 y1 x2 y2 x3 y3)
 rw[<-hW3] at HI
 have HT:=hid (T.out W3 (HW.out.below HI.out.bel))
 have a0:=HI.out.a0;have a1:=HI.out.a1;have b0:=HI.out.b0;have b1:=HI.out.b1;have c0:=HI.out.c0;have c1:=HI.out.c1
 rw[hW3] at HT a0 a1 b0 b1 c0 c1
 have HW3:=hid hW3;clear hW3 T
 go_enter Tryz.func91,Tryz.ntmps91
 go_wp2_with fail
 refine HT.out.mono ?_
 rintro e w1 ⟨rfl,hb1⟩
 have HB:=hid (HI.out.bel.trans ((show qL W3 w1 by rw[HW3.out];exact hb1).mono HI.out.bel.size))
 clear hb1 a0 a1 b0 b1 c0 c1 HI HW3 W3
 go_wp2_with fail
 go_ret
 exact⟨rfl,HB.out⟩
theorem z8d (l:List Pt) (k:Nat) (hz:∀i,szP (cor l i) 36) (w:zA) (hw:Wd w):
 qJ 91 #[ptV (cor l (k+l.length-1)),ptV (cor l k),ptV (cor l (k+1))] w (.bool (z3m l k)):=
 z69 _ _ _ _ _ _ (turn (cor l (k+l.length-1)) (cor l k) (cor l (k+1))) _ (by unfold z3m;cases h:decide (turn (cor l (k+l.length-1)) (cor l k) (cor l (k+1))=0)<;>simpa using h) (hid λW hW=>zjg _ _ _ 36 (by omega) (by omega) (hz _) (hz _) (hz _) W hW) w (hid hw)
def z3k:List Pt->List Value
 |[]=>[]
 |p::r=>St (numS p.x)::St (numS p.y)::z3k r
theorem z39:∀(l m:List Pt),z3k (l++m)=z3k l++z3k m
 |[],m=>rfl
 |a::r,m=>by show St (numS a.x)::St (numS a.y)::z3k (r++m)=_;rw[z39 r m];rfl
theorem z3v:∀l:List Pt,(z3k l).length=l.length*2
 |[]=>rfl
 |a::r=>by show(z3k r).length+1+1=_;rw[z3v r,List.length_cons];omega
theorem z4u:(Tryz.prog.info? 25).map (λi=>(i.zero,i.size,i.bytes))=some (some (.agg #[St [],St []]),2,32):=by kernel_rfl
theorem z3z {w:zA} {base:Nat} {e:TypeId} {s:Nat} {v:Value} {n:Nat} {xs:List Value} (h:w.ownsRow base e s v n xs):∃q c,v=.slice q n c:=by
 rcases h.2 with⟨rfl,rfl⟩|⟨g,cap,cur,rfl,_⟩
 ·exact⟨none,0,rfl⟩
 ·exact⟨_,_,rfl⟩
theorem z7w (W:zA) (x y:Value) (t:TypeId):∀i u,[x,y][i]? =some u->(W.alloc (.cells #[x,y] t)).cell? ((⟨W.heap.size,0,none⟩:Addr).add i)=some u:=λi u hu=>by
 have A:=zG W (.cells #[x,y] t)
 have:((⟨W.heap.size,0,none⟩:Addr).add i)=⟨W.heap.size,i,none⟩:=by simp only[Addr.add,Nat.zero_add];split<;>simp_all
 rw[this,zJ A]
 match i,hu with
 |0,hu=>exact hu
 |1,hu=>exact hu
theorem z4n (x y:List UInt8):∀u∈[St x,St y],u.oneCell'=true:=λu hu=>by
 simp at hu;rcases hu with rfl|rfl<;>rfl
structure WoutS (w:zA) (v:Value) (acc:List Pt) (A:Nat) (x y:List UInt8) (W:zA):Prop where
 bel:qL w W
 own:W.ownsRow w.heap.size 25 2 v acc.length (z3k acc)
 bx:W.heap[A]? =some (.cells #[St x,St y] 25 (0,0))
theorem WoutS.next {w:zA} {v:Value} {acc:List Pt} {A:Nat} {x y:List UInt8} {W W':zA} (h:WoutS w v acc A x y W) (hb:qL W W'):WoutS w v acc A x y W':=
 ⟨h.bel.trans (hb.mono h.bel.size),zcj (zac hb) h.own,(hb.block _ (Array.getElem?_eq_some_iff.1 h.bx).1).trans h.bx⟩
theorem WoutS.cx {w:zA} {v:Value} {acc:List Pt} {A:Nat} {x y:List UInt8} {W:zA} (h:WoutS w v acc A x y W):W.cell? ⟨A,0,none⟩=some (St x)/\W.cell? ⟨A,1,none⟩=some (St y):=by have:=h.bx;simp[World.cell?,this]
theorem z44 (k n:Nat):(((k:Int)+1).tmod (n:Int))=(((k+1)%n:Nat):Int):=by
 rw[show(k:Int)+1=((k+1:Nat):Int) by omega,Int.tmod_eq_emod_of_nonneg (by omega)];rfl
theorem z5z {k n:Nat} (hn:0<n):((k:Int)+n-1).tmod n=(((k+n-1)%n:Nat):Int):=by
 rw[show(k:Int)+n-1=((k+n-1:Nat):Int) by omega]
 rw[Int.tmod_eq_emod_of_nonneg (by omega)];rfl
theorem z6b (b off cap:Nat) (l:List Pt) (h3:3<=l.length) (hlen:l.length<=4096)
 (F:Hid (∀k,qK 91 #[ptV (cor l (k+l.length-1)),ptV (cor l k),ptV (cor l (k+1))] (.bool (z3m l k))))
 (w:zA) (HW:Hid (Wd w)) (HC:Hid (∀W:zA,qL w W->∀k,W.cell? ⟨b,off+k%l.length*2,none⟩=some (St (numS (cor l k).x))/\W.cell? ⟨b,off+k%l.length*2+1,none⟩=some (St (numS (cor l k).y)))):
 zC zF 90 #[.slice (some ⟨b,off,none⟩) l.length cap,.func (.func 91) #[] #[]] w λe w'=>∃v,e=.returned v/\w'.ownsRow w.heap.size 25 2 v (z3n l).length (z3k (z3n l))/\zB w.heap.size w w':=by
 obtain⟨n,hn⟩:∃n,n=l.length:=⟨_,rfl⟩
 rw[<-hn] at h3 hlen HC⊢
 have HN:=hid hn;clear hn
 go_enter Tryz.func90,Tryz.ntmps90
 go_wp2
 go_loopw [10,5] (λi v wr=>∃(k:Nat) (q:Option Addr) (c:Nat),k<=n/\i=.int .i64 (k:Int)/\v=.slice q (z3o l k).length c/\Hid (qL w wr)/\Hid (wr.ownsRow w.heap.size 25 2 (.slice q (z3o l k).length c) (z3o l k).length (z3k (z3o l k))))
  (λi _ _=>n-(zL i).toNat)
 case atStart=>exact⟨0,none,0,zR _,rfl,rfl,zM _ _,World.ownsRow_nil _ _ _ _⟩
 case round=>
  obtain⟨k,q,c,hk,rfl,rfl,hB,hO⟩:=hrel
  by_cases hlt:k<n
  ·have hcs:=HC.out
   have HCi:=hid λW h=>hcs W h (k+n-1)
   have HCj:=hid λW h=>hcs W h k
   have HCk:=hid λW h=>hcs W h (k+1)
   obtain⟨c0,c1⟩:=HCj.out wr hB.out
   rw[zQ hlt] at c0 c1
   clear hcs HCj
   have hF:=F.out k
   unfold ptV at hF
   rw[<-HN.out] at hF
   have HF:=hid hF;clear hF
   have ht:=z5z (k:=k) (n:=n) (by omega)
   have ht2:=z44 k n
   have hn0:¬n=0:=by omega
   have hw1:IntKind.i64.wrap ((k:Int)+n)=(k:Int)+n:=zI _ ⟨by omega,by omega⟩
   have hw2:IntKind.i64.wrap ((k:Int)+n-1)=(k:Int)+n-1:=zI _ ⟨by omega,by omega⟩
   have hw3:IntKind.i64.wrap ((k:Int)+1)=(k:Int)+1:=zI _ ⟨by omega,by omega⟩
   have hk1:(k+n-1)%n<n:=Nat.mod_lt _ (by omega)
   have hk2:(k+1)%n<n:=Nat.mod_lt _ (by omega)
   obtain⟨fl,hfl⟩:∃fl,z3m l k=fl:=⟨_,rfl⟩
   have HFL:=hid hfl
   rw[hfl] at HF
   clear hfl
   generalize (k+n-1)%n=i' at*
   generalize (k+1)%n=k' at*
   generalize hxj:numS (cor l k).x=xj at c0 HF
   generalize hyj:numS (cor l k).y=yj at c1 HF
   generalize numS (cor l (k+n-1)).x=xi at HCi HF
   generalize numS (cor l (k+n-1)).y=yi at HCi HF
   generalize numS (cor l (k+1)).x=xk at HCk HF
   generalize numS (cor l (k+1)).y=yk at HCk HF
   have HXY:=hid (⟨hxj,hyj⟩:numS (cor l k).x=xj/\numS (cor l k).y=yj);clear hxj hyj
   have HS:Hid (WoutS w (.slice q (z3o l k).length c) (z3o l k) wr.heap.size xj yj (wr.alloc (.cells #[St xj,St yj] 25))):=hid (by
    have hal:qL wr (wr.alloc (.cells #[St xj,St yj] 25)):=(zM _ wr).alloc (zN _) _
    exact⟨hB.out.trans (hal.mono hB.out.size),zcj (zac hal) hO.out,zG _ _⟩)
   go_wp2_with fail
   clear hB hO c0 c1
   obtain⟨W1,hW1⟩:∃W1,W1=wr.alloc (.cells #[St xj,St yj] 25):=⟨_,rfl⟩
   rw[<-hW1] at HS
   try rw[show wr.alloc (.cells #[.string ⟨xj.toArray⟩,.string ⟨yj.toArray⟩] 25)=W1 from hW1.symm]
   clear hW1
   generalize wr.heap.size=A at*
   refine zbl (λ_ W=>WoutS w (.slice q (z3o l k).length c) (z3o l k) A xj yj W) (by kernel_rfl) (by kernel_rfl) (HS.out.next (zM _ _).drew) ?_
   refine qR (.func (.func 91) #[] #[]) ?_
   simp only[zzQ]
   refine qR (.slice (some ⟨b,off,none⟩) n cap) ?_
   simp only[zzQ]
   refine qR (.int .i64 (k:Int)) ?_
   simp only[zzQ]
   refine qR (.slice (some ⟨b,off,none⟩) n cap) ?_
   simp only[zzQ]
   refine qR (.int .i64 (n:Int)) ?_
   simp only[zzQ]
   refine qR (.int .i64 ((k:Int)+n)) ?_
   simp only[zzQ]
   refine qR (.int .i64 ((k:Int)+n-1)) ?_
   simp only[zzQ]
   refine qR (.slice (some ⟨b,off,none⟩) n cap) ?_
   simp only[zzQ]
   refine qR (.int .i64 (n:Int)) ?_
   simp only[zzQ]
   refine qR (.int .i64 (i':Int)) ?_
   simp only[zzQ]
   refine qR (.pointer (some ⟨b,off+i'*2,none⟩)) ?_
   simp only[zzQ]
   refine qR (.agg #[St xi,St yi]) ?_ (hy:=λf W' hf h=>by obtain⟨c0,c1⟩:=HCi.out _ h.bel;go_simp)
   simp only[zzQ]
   refine qR (.agg #[St xj,St yj]) ?_ (hy:=λf W' hf h=>by obtain⟨c0,c1⟩:=h.cx;go_simp)
   simp only[zzQ]
   refine qR (.slice (some ⟨b,off,none⟩) n cap) ?_
   simp only[zzQ]
   refine qR (.int .i64 (k:Int)) ?_
   simp only[zzQ]
   refine qR (.int .i64 ((k:Int)+1)) ?_
   simp only[zzQ]
   refine qR (.slice (some ⟨b,off,none⟩) n cap) ?_
   simp only[zzQ]
   refine qR (.int .i64 (n:Int)) ?_
   simp only[zzQ]
   refine qR (.int .i64 (k':Int)) ?_
   simp only[zzQ]
   refine qR (.pointer (some ⟨b,off+k'*2,none⟩)) ?_
   simp only[zzQ]
   refine qR (.agg #[St xk,St yk]) ?_ (hy:=λf W' hf h=>by obtain⟨c0,c1⟩:=HCk.out _ h.bel;go_simp)
   simp only[zzQ]
   refine zar (.bool fl) (by rfl) (λf W' hf h C' hC'=>by
    go_simp
    refine(HF.out _ (HW.out.below h.bel)).mono ?_
    rintro e w' ⟨rfl,hb⟩
    exact⟨rfl,hC' _ (h.next hb)⟩) ?_
   try simp only[zzQ]
   refine qR (.bool (!fl)) ?_
   simp only[zzQ]
   refine zck λf W5 hf h5=>?_
   have HS5:=hid h5
   clear hf h5 HS HCi HCk HF
   cases fl
   case true=>
    have HK:=hid (show z3o l (k+1)=z3o l k by rw[z35,if_pos HFL.out])
    generalize z3o l k=acc at*
    go_wp2_with fail
    go_roundw
    case rel=>exact⟨k+1,q,c,by omega,by go_num,by rw[HK.out],HS5.out.bel,by rw[HK.out];exact HS5.out.own⟩
    case measure=>simp[zL];omega
   case false=>
    have HK:=hid (show z3o l (k+1)=z3o l k++[cor l k] by rw[z35,if_neg (by rw[HFL.out];simp)])
    have HLN:=hid (show(z3o l k).length<=k by unfold z3o;rw[List.length_map];exact Nat.le_trans (List.length_filter_le _ _) (by simp))
    generalize z3o l k=acc at*
    obtain⟨g0,g1⟩:=HS5.out.cx
    obtain⟨i0,hi,hz0,hz1,hz2⟩:=info_parts z4u
    have HD:=hid (⟨hi,hz0,hz1,hz2⟩:_/\_/\_/\_)
    clear hi hz0 hz1 hz2
    have hba:qL W5 (W5.alloc (.cells #[St xj,St yj] 25)):=(zM _ W5).alloc (zN _) _
    have HLA:=hid (⟨HS5.out.next hba,(by have:=hba.size;have:=HS5.out.bel.size;omega)⟩:WoutS w (.slice q acc.length c) acc A xj yj (W5.alloc (.cells #[St xj,St yj] 25))/\w.heap.size<=(W5.alloc (.cells #[St xj,St yj] 25)).heap.size)
    clear hba
    go_wp2_with (at_builtin;refine wpList_append_own_at _ rfl _ _ 22 rfl w.heap.size 25 i0 (.agg #[St [],St []]) 2 32 Tryz.underlying22 HD.out.1 HD.out.2.1 HD.out.2.2.1 HD.out.2.2.2 rfl (by decide) (.slice q acc.length c) acc.length (z3k acc) rfl HLA.out.1.own ⟨W5.heap.size,0,none⟩ 1 1 [St xj,St yj] rfl rfl (z7w _ _ _ _) (z4n _ _) (by have:=HLN.out;unfold maxLen;omega) (by have:=HLN.out;omega) HLA.out.2 ?_)
    intro v' w1 hown' hgrow hnil hat
    obtain⟨q',c',rfl⟩:=z3z hown'
    have hbel:qL w w1:=HLA.out.1.bel.grown hgrow HLA.out.2 (λg e=>(HLA.out.1.own.lt g e).1)
    have HB1:=hid hbel
    have HO1:=hid (show w1.ownsRow w.heap.size 25 2 (.slice q' (acc.length+1) c') (acc++[cor l k]).length (z3k (acc++[cor l k])) by
     rw[zU,z39];show w1.ownsRow _ _ 2 _ (acc.length+1) (z3k acc++[St (numS (cor l k).x),St (numS (cor l k).y)]);rw[HXY.out.1,HXY.out.2];exact hown')
    clear hown' hgrow hnil hat hbel HLA
    go_wp2_with fail
    go_roundw
    case rel=>exact⟨k+1,q',c',by omega,by go_num,by rw[HK.out,zU];rfl,HB1,by rw[HK.out];have:=HO1.out;rw[zU] at this⊢;exact hid this⟩
    case measure=>simp[zL];omega
  ·obtain rfl:n=k:=by omega
   have HO:=hid (show wr.ownsRow w.heap.size 25 2 (.slice q (z3o l n).length c) (z3n l).length (z3k (z3n l)) by unfold z3n;rw[<-HN.out];exact hO.out)
   clear hO
   go_wp2_with fail
   go_ret
   exact⟨_,rfl,HO.out,hB.out⟩
structure SidS (w:zA) (px py:ByteArray) (A1 A2:Nat) (x y u v:ByteArray) (W:zA):Prop where
 bel:qL w W
 lo1:w.heap.size<A1
 lo2:w.heap.size<A2
 ne:A1≠A2
 bp:W.heap[w.heap.size]? =some (.cells #[.string px,.string py] 25 (0,0))
 b1:W.heap[A1]? =some (.cells #[.string x,.string y] 25 (0,0))
 b2:W.heap[A2]? =some (.cells #[.string u,.string v] 25 (0,0))
section
variable {w W W':zA} {px py x y u v:ByteArray} {A1 A2:Nat}
theorem SidS.next (h:SidS w px py A1 A2 x y u v W) (hb:qL W W'):SidS w px py A1 A2 x y u v W':=
 ⟨h.bel.trans (hb.mono h.bel.size),h.lo1,h.lo2,h.ne,(hb.block _ (Array.getElem?_eq_some_iff.1 h.bp).1).trans h.bp,(hb.block _ (Array.getElem?_eq_some_iff.1 h.b1).1).trans h.b1,(hb.block _ (Array.getElem?_eq_some_iff.1 h.b2).1).trans h.b2⟩
theorem SidS.cells (h:SidS w px py A1 A2 x y u v W):(W.cell? ⟨w.heap.size,0,none⟩=some (.string px)/\W.cell? ⟨w.heap.size,1,none⟩=some (.string py))/\(W.cell? ⟨A1,0,none⟩=some (.string x)/\W.cell? ⟨A1,1,none⟩=some (.string y))/\W.cell? ⟨A2,0,none⟩=some (.string u)/\W.cell? ⟨A2,1,none⟩=some (.string v):=
 ⟨⟨by rw[zJ h.bp];rfl,by rw[zJ h.bp];rfl⟩,⟨by rw[zJ h.b1];rfl,by rw[zJ h.b1];rfl⟩,by rw[zJ h.b2];rfl,by rw[zJ h.b2];rfl⟩
theorem SidS.swap (h:SidS w px py A1 A2 x y u v W):SidS w px py A1 A2 u v x y ((((W.setCell ⟨A1,0,none⟩ (.string u)).setCell ⟨A1,1,none⟩ (.string v)).setCell ⟨A2,0,none⟩ (.string x)).setCell ⟨A2,1,none⟩ (.string y)):=by
 have l1:=h.lo1;have l2:=h.lo2;have hn:=h.ne
 refine⟨(((h.bel.setCell (by simp;omega) _).setCell (by simp;omega) _).setCell (by simp;omega) _).setCell (by simp;omega) _,l1,l2,hn,?_,?_,?_⟩
 ·rw[yE _ _ _ _ (by simp;omega),yE _ _ _ _ (by simp;omega),yE _ _ _ _ (by simp;omega),yE _ _ _ _ (by simp;omega)];exact h.bp
 ·rw[yE _ _ _ _ (by simp;omega),yE _ _ _ _ (by simp;omega),zK (zK h.b1 _)];rfl
 ·have k2:((W.setCell ⟨A1,0,none⟩ (.string u)).setCell ⟨A1,1,none⟩ (.string v)).heap[A2]? =some (.cells #[.string u,.string v] 25 (0,0)):=by
   rw[yE _ _ _ _ (by simp;omega),yE _ _ _ _ (by simp;omega)];exact h.b2
  rw[zK (zK k2 _)];rfl
theorem SidS.mid (h:SidS w px py A1 A2 x y u v W):((W.setCell ⟨A1,0,none⟩ (.string u)).setCell ⟨A1,1,none⟩ (.string v)).cell? ⟨A2,0,none⟩=some (.string u)/\((W.setCell ⟨A1,0,none⟩ (.string u)).setCell ⟨A1,1,none⟩ (.string v)).frozen? ⟨A2,0,none⟩=false/\
 (((W.setCell ⟨A1,0,none⟩ (.string u)).setCell ⟨A1,1,none⟩ (.string v)).setCell ⟨A2,0,none⟩ (.string x)).cell? ⟨A2,1,none⟩=some (.string v)/\(((W.setCell ⟨A1,0,none⟩ (.string u)).setCell ⟨A1,1,none⟩ (.string v)).setCell ⟨A2,0,none⟩ (.string x)).frozen? ⟨A2,1,none⟩=false:=by
 have hn:=h.ne
 have k2:((W.setCell ⟨A1,0,none⟩ (.string u)).setCell ⟨A1,1,none⟩ (.string v)).heap[A2]? =some (.cells #[.string u,.string v] 25 (0,0)):=by
  rw[yE _ _ _ _ (by simp;omega),yE _ _ _ _ (by simp;omega)];exact h.b2
 have k3:=zK (i:=0) k2 (.string x)
 exact⟨by rw[zJ k2];rfl,by simp[World.frozen?,k2],by rw[zJ k3];rfl,by simp[World.frozen?,k3]⟩
theorem SidS.free (h:SidS w px py A1 A2 x y u v W):W.frozen? ⟨A1,0,none⟩=false/\W.frozen? ⟨A1,1,none⟩=false/\W.frozen? ⟨A2,0,none⟩=false/\W.frozen? ⟨A2,1,none⟩=false:=by
 have h1:=h.b1;have h2:=h.b2
 exact⟨by simp[World.frozen?,h1],by simp[World.frozen?,h1],by simp[World.frozen?,h2],by simp[World.frozen?,h2]⟩
end
structure BxB (w:zA) (px py:ByteArray) (W:zA):Prop where
 bel:qL w W
 bx:W.heap[w.heap.size]? =some (.cells #[.string px,.string py] 25 (0,0))
section
variable {w W W':zA} {px py:ByteArray}
theorem BxB.next (h:BxB w px py W) (hb:qL W W'):BxB w px py W':=
 ⟨h.bel.trans (hb.mono h.bel.size),(hb.block _ (Array.getElem?_eq_some_iff.1 h.bx).1).trans h.bx⟩
theorem BxB.cx (h:BxB w px py W):W.cell? ⟨w.heap.size,0,none⟩=some (.string px)/\W.cell? ⟨w.heap.size,1,none⟩=some (.string py):=by have:=h.bx;simp[World.cell?,this]
theorem BxB.lt (h:BxB w px py W):w.heap.size<W.heap.size:=(Array.getElem?_eq_some_iff.1 h.bx).1
end
structure ZinQ (b off cap n:Nat) (l:List (List UInt8×List UInt8)) (px py:ByteArray) (X Y:Nat->ByteArray) (t tb c d e:Nat->Int) (o cr zin:Nat->Bool):Prop where
 T1:Hid (∀k,qK 38 #[.agg #[.string (X k),.string (Y k)],.agg #[.string (X (k+1)),.string (Y (k+1))],.agg #[.string px,.string py]] (.int .i64 (t k)))
 T2:Hid (∀k,qK 38 #[.agg #[.string (X (k+1)),.string (Y (k+1))],.agg #[.string (X k),.string (Y k)],.agg #[.string px,.string py]] (.int .i64 (tb k)))
 ON:Hid (∀k,qK 39 #[.agg #[.string (X k),.string (Y k)],.agg #[.string (X (k+1)),.string (Y (k+1))],.agg #[.string px,.string py]] (.bool (o k)))
 CY:Hid (∀k,qK 40 #[.string (Y k),.string (Y (k+1))] (.int .i64 (c k)))
 DY:Hid (∀k,qK 40 #[.string (Y k),.string py] (.int .i64 (d k)))
 EY:Hid (∀k,∀W:zA,Wd W->zC zF 40 #[.string py,.string (Y k)] W λz w'=>z=.returned (.int .i64 (e k))/\zB W.heap.size W w')
 CL:Hid (∀W:zA,RowTx (some ⟨b,off,none⟩) l W->∀k,W.cell? ⟨b,off+k%n*2,none⟩=some (.string (X k))/\W.cell? ⟨b,off+k%n*2+1,none⟩=some (.string (Y k)))
 Z0:Hid (zin 0=false/\∀k,zin (k+1)=if cr k=true then !zin k else zin k)
 CR:Hid (∀k,cr k=if 0<c k then decide (d (k+1)<=0)&&(decide (e k<0)&&decide (0<tb k)) else decide (d k<=0)&&(decide (e (k+1)<0)&&decide (0<t k)))
 N3:Hid (3<=n/\n<=4096)
theorem z87 (d e t:Int) (cr:Bool) (h:cr=(decide (d<=0)&&(decide (e<0)&&decide (0<t)))):
 (decide (d<=0)=false/\Hid (cr=false))\/(decide (d<=0)=true/\((decide (e<0)=false/\Hid (cr=false))\/(decide (e<0)=true/\((decide (0<t)=false/\Hid (cr=false))\/(decide (0<t)=true/\Hid (cr=true)))))):=by
 cases hd:decide (d<=0)
 ·exact .inl ⟨rfl,hid (by rw[h,hd];rfl)⟩
 ·refine .inr ⟨rfl,?_⟩
  cases he:decide (e<0)
  ·exact .inl ⟨rfl,hid (by rw[h,hd,he];rfl)⟩
  ·refine .inr ⟨rfl,?_⟩
   cases ht:decide (0<t)
   ·exact .inl ⟨rfl,hid (by rw[h,hd,he,ht];rfl)⟩
   ·exact .inr ⟨rfl,hid (by rw[h,hd,he,ht];rfl)⟩
theorem yai (b off cap n:Nat) (l:List (List UInt8×List UInt8)) (px py:ByteArray) (X Y:Nat->ByteArray) (t tb c d e:Nat->Int) (o cr zin:Nat->Bool) (r:Int)
 (CK:Hid (∀W:zA,Wd W->RowTx (some ⟨b,off,none⟩) l W->qJ 36 #[.slice (some ⟨b,off,none⟩) n cap] W (.int .i64 0)))
 (CP:Hid (qK 37 #[.agg #[.string px,.string py]] (.int .i64 0)))
 (HQ:ZinQ b off cap n l px py X Y t tb c d e o cr zin)
 (R1:Hid (∀k,k<n->t k=0->o k=true->r=0)) (R2:Hid ((∀k,k<n->¬(t k=0/\o k=true))->r=if zin n=true then 1 else-1))
 (w:zA) (HW:Hid (Wd w)) (HP:Hid (RowTx (some ⟨b,off,none⟩) l w)):
 qJ 9 #[.slice (some ⟨b,off,none⟩) n cap,.agg #[.string px,.string py]] w (.tuple #[.int .i64 r,.int .i64 0]):=by
 obtain⟨T1,T2,ON,CY,DY,EY,CL,Z0,CR,N3⟩:=HQ
 obtain⟨W0,hW0⟩:∃W0,W0=w.alloc (.cells #[.string px,.string py] 25):=⟨_,rfl⟩
 have HS:=hid (show BxB w px py W0 by rw[hW0];exact⟨(zM _ w).alloc (zN _) _,zG _ _⟩)
 have HC:=hid (CK.out W0 (HW.out.below HS.out.bel) (HP.out.keep (zac HS.out.bel)))
 have H9:=hid hW0.symm
 clear hW0 CK
 go_enter Tryz.func9,Tryz.ntmps9
 go_wp2_with fail
 simp only[H9.out]
 refine HC.out.mono ?_
 rintro z w1 ⟨rfl,hb1⟩
 have HS1:=hid (HS.out.next hb1)
 clear hb1 HS HC H9
 obtain⟨c0,c1⟩:=HS1.out.cx
 go_wp2_with fail
 clear c0 c1
 refine(CP.out w1 (HW.out.below HS1.out.bel)).mono ?_
 rintro z w2 ⟨rfl,hb2⟩
 have HS2:=hid (HS1.out.next hb2)
 clear hb2 HS1 CP
 go_wp2_with fail
 go_loopw [7,6] (λi m wr=>∃(k:Nat),k<=n/\i=.int .i64 (k:Int)/\m=.bool (zin k)/\Hid (BxB w px py wr)/\Hid (∀j,j<k->¬(t j=0/\o j=true)))
  (λi _ _=>n-(zL i).toNat)
 case atStart=>exact⟨0,zR _,rfl,by rw[Z0.out.1],HS2,hid λj h=>absurd h (by omega)⟩
 case round=>
  obtain⟨k,hk,rfl,rfl,hS,hG⟩:=hrel
  by_cases hlt:k<n
  ·have HCL:=hid λW (h:qL w W)=>(⟨CL.out W (HP.out.keep (zac h)) k,CL.out W (HP.out.keep (zac h)) (k+1)⟩:(_/\_)/\_/\_)
   rw[zQ hlt] at HCL
   have hT1:=T1.out k;have hT2:=T2.out k;have hON:=ON.out k;have hCY:=CY.out k
   have hD1:=DY.out k;have hD2:=DY.out (k+1);have hE1:=EY.out k;have hE2:=EY.out (k+1)
   have ht:=z44 k n
   have hn0:¬n=0:=by have:=N3.out;omega
   have hw1:IntKind.i64.wrap ((k:Int)+1)=(k:Int)+1:=zI _ (by have:=N3.out;omega)
   have hFn':(k+1)%n<n:=Nat.mod_lt _ (by omega)
   have HZ:=hid (Z0.out.2 k)
   have HCR:=hid (CR.out k)
   generalize (k+1)%n=F' at*
   generalize X k=x at*
   generalize Y k=y at*
   generalize X (k+1)=u at*
   generalize Y (k+1)=v at*
   have HT1:=hid hT1;have HT2:=hid hT2;have HON:=hid hON;have HCY:=hid hCY
   have HD1:=hid hD1;have HD2:=hid hD2;have HE1:=hid hE1;have HE2:=hid hE2
   clear hT1 hT2 hON hCY hD1 hD2 hE1 hE2
   go_wp2_with fail
   refine zc4 (pqV b off n cap k F' x y u v) (PqS wr x y u v) (by kernel_rfl) (by kernel_rfl) (0,0) ⟨(zM _ wr).drew,λk=>(by cases k),λk=>(by cases k),λk=>(by cases k),λk=>(by cases k),λk=>(by cases k)⟩ λg2=>?_
   refine qB (.slice (some ⟨b,off,none⟩) n cap) (λf W' h=>h.congr rfl rfl rfl rfl) ?_;simp only[zzQ]
   refine qB (.int .i64 (k:Int)) (λf W' h=>h.congr rfl rfl rfl rfl) ?_;simp only[zzQ]
   refine qB (.pointer (some ⟨b,off+k*2,none⟩)) (λf W' h=>h.congr rfl rfl rfl rfl) ?_;simp only[zzQ]
   refine qB (.agg #[.string x,.string y]) (λf W' h=>h.congr rfl rfl rfl rfl) ?_ (hy:=λf W' hf h=>by
    obtain⟨⟨c0,c1⟩,_⟩:=HCL.out W' (hS.out.bel.trans (h.bel.mono hS.out.bel.size))
    go_simp)
   try simp only[zzQ]
   refine qB (.slice (some ⟨b,off,none⟩) n cap) (λf W' h=>h.congr rfl rfl rfl rfl) ?_;simp only[zzQ]
   refine qB (.int .i64 (k:Int)) (λf W' h=>h.congr rfl rfl rfl rfl) ?_;simp only[zzQ]
   refine qB (.int .i64 ((k:Int)+1)) (λf W' h=>h.congr rfl rfl rfl rfl) ?_;simp only[zzQ]
   refine qB (.slice (some ⟨b,off,none⟩) n cap) (λf W' h=>h.congr rfl rfl rfl rfl) ?_;simp only[zzQ]
   refine qB (.int .i64 (n:Int)) (λf W' h=>h.congr rfl rfl rfl rfl) ?_;simp only[zzQ]
   refine qB (.int .i64 (F':Int)) (λf W' h=>h.congr rfl rfl rfl rfl) ?_;simp only[zzQ]
   refine qB (.pointer (some ⟨b,off+F'*2,none⟩)) (λf W' h=>h.congr rfl rfl rfl rfl) ?_;simp only[zzQ]
   refine qB (.agg #[.string u,.string v]) (λf W' h=>h.congr rfl rfl rfl rfl) ?_ (hy:=λf W' hf h=>by
    obtain⟨_,c0,c1⟩:=HCL.out W' (hS.out.bel.trans (h.bel.mono hS.out.bel.size))
    go_simp)
   try simp only[zzQ]
   refine zdc (.pointer (some ⟨g2.1,0,none⟩)) (by rfl) (by rfl) (λf W' hf h C' hC'=>by
    have h12:=hf.self
    have h14:=hf.no (j:=14) hf.self (by kernel_rfl)
    have hj:∀j,f j=true->pqV b off n cap k F' x y u v (W'.heap.size,g2.2) j=pqV b off n cap k F' x y u v g2 j:=by
     intro j hj
     match j,hj with
     |0,_|1,_|2,_|3,_|4,_|5,_|6,_|7,_|8,_|9,_|10,_|11,_=>rfl
     |12,hj=>rw[h12] at hj;cases hj
     |13,_|14,_|15,_=>rfl
     |_+16,_=>rfl
    have hc:=hC' (W'.heap.size,g2.2) _ hj (h.newA rfl rfl h14 rfl)
    clear h hj hC'
    go_simp
    exact hc) ?_
   try simp only[zzQ]
   refine zdc (.pointer (some ⟨g2.2,0,none⟩)) (by rfl) (by rfl) (λf W' hf h C' hC'=>by
    have h13:=hf.self
    have h15:=hf.no (j:=15) hf.self (by kernel_rfl)
    have hj:∀j,f j=true->pqV b off n cap k F' x y u v (g2.1,W'.heap.size) j=pqV b off n cap k F' x y u v g2 j:=by
     intro j hj
     match j,hj with
     |0,_|1,_|2,_|3,_|4,_|5,_|6,_|7,_|8,_|9,_|10,_|11,_|12,_=>rfl
     |13,hj=>rw[h13] at hj;cases hj
     |14,_|15,_=>rfl
     |_+16,_=>rfl
    have hc:=hC' (g2.1,W'.heap.size) _ hj (h.newB rfl rfl h15 rfl)
    clear h hj hC'
    go_simp
    exact hc) ?_
   try simp only[zzQ]
   refine zbv undef (by rfl) (by rfl) (λf W' hf h C' hC'=>by
    have h12:=hf.done 12 (by kernel_rfl)
    obtain⟨⟨s0,c0⟩,⟨s1,c1⟩,z0,z1⟩:=z6e (h.a h12)
    have hc:=hC' _ (h.putA h12 rfl rfl rfl rfl)
    clear h hC'
    go_simp
    exact hc) ?_
   try simp only[zzQ]
   refine zbv undef (by rfl) (by rfl) (λf W' hf h C' hC'=>by
    have h13:=hf.done 13 (by kernel_rfl)
    obtain⟨⟨s0,c0⟩,⟨s1,c1⟩,z0,z1⟩:=z6e (h.b h13)
    have hc:=hC' _ (h.putB h13 rfl rfl rfl rfl)
    clear h hC'
    go_simp
    exact hc) ?_
   try simp only[zzQ]
   refine ze1 λf W4 hf h=>?_
   obtain⟨A1,A2⟩:=g2
   have ha:=h.a (hf 12 (by decide))
   have hb:=h.b (hf 13 (by decide))
   have hne:=h.ne (hf 12 (by decide)) (hf 13 (by decide))
   have hl1:=h.lo1 (hf 12 (by decide))
   have hl2:=h.lo2 (hf 13 (by decide))
   rw[hf 14 (by decide)] at ha
   rw[hf 15 (by decide)] at hb
   have HA:=hid (show SidS w px py A1 A2 x y u v W4 from
    ⟨hS.out.bel.trans (h.bel.mono hS.out.bel.size),Nat.lt_of_lt_of_le hS.out.lt hl1,Nat.lt_of_lt_of_le hS.out.lt hl2,hne,(h.bel.block _ hS.out.lt).trans hS.out.bx,ha,hb⟩)
   have HNX:=hid (λ(h:¬(t k=0/\o k=true))=>(λj hj=>by
    by_cases e:j=k
    ·subst e;exact h
    ·exact hG.out j (by omega):∀j,j<k+1->¬(t j=0/\o j=true)))
   have HRT:=hid (R1.out k hlt)
   clear hf h ha hb hne hl1 hl2 hS HCL ht hFn' hG T1 T2 ON CY DY EY CL R1 R2 CR
   obtain⟨⟨p0,p1⟩,⟨a0,a1⟩,b0,b1⟩:=HA.out.cells
   generalize t k=tk at*
   generalize tb k=tbk at*
   generalize c k=ck at*
   generalize d k=d1 at*
   generalize d (k+1)=d2 at*
   generalize e k=e1 at*
   generalize e (k+1)=e2 at*
   generalize o k=ok at*
   go_wp2_with fail
   refine(HT1.out W4 (HW.out.below HA.out.bel)).mono ?_
   rintro z w5 ⟨rfl,hb5⟩
   have HA5:=hid (HA.out.next hb5)
   clear hb5 HA p0 p1 a0 a1 b0 b1
   obtain⟨⟨p0,p1⟩,⟨a0,a1⟩,b0,b1⟩:=HA5.out.cells
   have hz:((tk==0)=true/\Hid (tk=0))\/((tk==0)=false/\Hid (tk≠0)):=by
    by_cases h:tk=0
    ·exact .inl ⟨beq_iff_eq.2 h,hid h⟩
    ·exact .inr ⟨beq_eq_false_iff_ne.2 h,hid h⟩
   rcases hz with⟨h0,hne⟩|⟨h0,hne⟩
   case' inl=>
    go_wp2_with fail
    refine(HON.out w5 (HW.out.below HA5.out.bel)).mono ?_
    rintro z w6 ⟨rfl,hb6⟩
    have HA6:=hid (HA5.out.next hb6)
    clear hb6 HA5 p0 p1 a0 a1 b0 b1
    cases ok
    case true=>
     have HE:=hid (HRT.out hne.out (by trivial))
     go_wp2_with fail
     go_ret2
     exact⟨by rw[HE.out]<;>rfl,HA6.out.bel⟩
    have HNX2:=hid (HNX.out (by simp))
    obtain⟨⟨p0,p1⟩,⟨a0,a1⟩,b0,b1⟩:=HA6.out.cells
    go_wp2_with fail
   case' inr=>
    have HNX2:=hid (HNX.out λh=>hne.out h.1)
    have HA6:=HA5
    clear HA5
    go_wp2_with fail
    generalize w5=w6 at*
   all_goals
    clear HNX HRT hne h0
    refine(HCY.out w6 (HW.out.below HA6.out.bel)).mono ?_
    rintro z w7 ⟨rfl,hb7⟩
    have HA7:=hid (HA6.out.next hb7)
    clear hb7 HA6 p0 p1 a0 a1 b0 b1
    obtain⟨⟨p0,p1⟩,⟨a0,a1⟩,b0,b1⟩:=HA7.out.cells
    cases hc:decide (0<ck)
    case false=>
     have hway:=z87 d1 e2 tk (cr k) (by rw[HCR.out,if_neg (of_decide_eq_false hc)])
     have HC0:=hid hc
     have HA8:=HA7
     clear HA7
     go_wp2_with fail
     clear p0 p1 a0 a1 b0 b1
     refine(HD1.out _ (HW.out.below HA8.out.bel)).mono ?_
     rintro z w9 ⟨rfl,hb9⟩
     have HA9:=hid (HA8.out.next hb9)
     clear hb9 HA8 hc
     obtain⟨⟨p0,p1⟩,⟨a0,a1⟩,b0,b1⟩:=HA9.out.cells
     rcases hway with⟨j1,HK⟩|⟨j1,hway⟩
     ·go_wp2_with fail
      go_roundw
      case rel=>exact⟨k+1,by omega,by go_num,by rw[HZ.out,HK.out];rfl,hid ⟨HA9.out.bel,HA9.out.bp⟩,HNX2⟩
      case measure=>simp[zL];omega
     ·go_wp2_with fail
      refine(HE2.out w9 (HW.out.below HA9.out.bel)).mono ?_
      rintro z w10 ⟨rfl,hb10⟩
      have HA10:=hid (HA9.out.next hb10)
      clear hb10 HA9 j1 p0 p1 a0 a1 b0 b1
      obtain⟨⟨p0,p1⟩,⟨a0,a1⟩,b0,b1⟩:=HA10.out.cells
      rcases hway with⟨j1,HK⟩|⟨j1,hway⟩
      ·go_wp2_with fail
       go_roundw
       case rel=>exact⟨k+1,by omega,by go_num,by rw[HZ.out,HK.out];rfl,hid ⟨HA10.out.bel,HA10.out.bp⟩,HNX2⟩
       case measure=>simp[zL];omega
      ·go_wp2_with fail
       refine(HT1.out w10 (HW.out.below HA10.out.bel)).mono ?_
       rintro z w11 ⟨rfl,hb11⟩
       have HA11:=hid (HA10.out.next hb11)
       clear hb11 HA10 j1 p0 p1 a0 a1 b0 b1
       rcases hway with⟨j1,HK⟩|⟨j1,HK⟩
       ·go_wp2_with fail
        go_roundw
        case rel=>exact⟨k+1,by omega,by go_num,by rw[HZ.out,HK.out];rfl,hid ⟨HA11.out.bel,HA11.out.bp⟩,HNX2⟩
        case measure=>simp[zL];omega
       ·go_wp2_with fail
        go_roundw
        case rel=>exact⟨k+1,by omega,by go_num,by rw[HZ.out,HK.out];rfl,hid ⟨HA11.out.bel,HA11.out.bp⟩,HNX2⟩
        case measure=>simp[zL];omega
    case true=>
     have hway:=z87 d2 e1 tbk (cr k) (by rw[HCR.out,if_pos (of_decide_eq_true hc)])
     have HC0:=hid hc
     obtain⟨z0,z1,z2,z3⟩:=HA7.out.free
     obtain⟨v1,v2,v3,v4⟩:=HA7.out.mid
     have HA8:=hid HA7.out.swap
     obtain⟨⟨q0,q1⟩,⟨r0,r1⟩,s0,s1⟩:=HA8.out.cells
     go_wp2_with fail
     clear z0 z1 z2 z3 v1 v2 v3 v4 p0 p1 a0 a1 b0 b1
     clear HA7
     refine(HD2.out _ (HW.out.below HA8.out.bel)).mono ?_
     rintro z w9 ⟨rfl,hb9⟩
     have HA9:=hid (HA8.out.next hb9)
     clear hb9 HA8 hc q0 q1 r0 r1 s0 s1
     obtain⟨⟨p0,p1⟩,⟨a0,a1⟩,b0,b1⟩:=HA9.out.cells
     rcases hway with⟨j1,HK⟩|⟨j1,hway⟩
     ·go_wp2_with fail
      go_roundw
      case rel=>exact⟨k+1,by omega,by go_num,by rw[HZ.out,HK.out];rfl,hid ⟨HA9.out.bel,HA9.out.bp⟩,HNX2⟩
      case measure=>simp[zL];omega
     ·go_wp2_with fail
      refine(HE1.out w9 (HW.out.below HA9.out.bel)).mono ?_
      rintro z w10 ⟨rfl,hb10⟩
      have HA10:=hid (HA9.out.next hb10)
      clear hb10 HA9 j1 p0 p1 a0 a1 b0 b1
      obtain⟨⟨p0,p1⟩,⟨a0,a1⟩,b0,b1⟩:=HA10.out.cells
      rcases hway with⟨j1,HK⟩|⟨j1,hway⟩
      ·go_wp2_with fail
       go_roundw
       case rel=>exact⟨k+1,by omega,by go_num,by rw[HZ.out,HK.out];rfl,hid ⟨HA10.out.bel,HA10.out.bp⟩,HNX2⟩
       case measure=>simp[zL];omega
      ·go_wp2_with fail
       refine(HT2.out w10 (HW.out.below HA10.out.bel)).mono ?_
       rintro z w11 ⟨rfl,hb11⟩
       have HA11:=hid (HA10.out.next hb11)
       clear hb11 HA10 j1 p0 p1 a0 a1 b0 b1
       rcases hway with⟨j1,HK⟩|⟨j1,HK⟩
       ·go_wp2_with fail
        go_roundw
        case rel=>exact⟨k+1,by omega,by go_num,by rw[HZ.out,HK.out];rfl,hid ⟨HA11.out.bel,HA11.out.bp⟩,HNX2⟩
        case measure=>simp[zL];omega
       ·go_wp2_with fail
        go_roundw
        case rel=>exact⟨k+1,by omega,by go_num,by rw[HZ.out,HK.out];rfl,hid ⟨HA11.out.bel,HA11.out.bp⟩,HNX2⟩
        case measure=>simp[zL];omega
  ·obtain rfl:n=k:=by omega
   have HE:=hid (R2.out λj hj=>hG.out j hj)
   have HB:=hid hS.out.bel
   clear R1 R2 hS hG
   generalize zin n=z at*
   cases z
   ·go_wp2_with fail
    go_ret2
    exact⟨by rw[HE.out]<;>rfl,HB.out⟩
   ·go_wp2_with fail
    go_ret2
    exact⟨by rw[HE.out]<;>rfl,HB.out⟩
theorem z7x {p q:Pt} (h:numS p.x=numS q.x/\numS p.y=numS q.y):p=q:=by
 obtain⟨a,b⟩:=p;obtain⟨c,d⟩:=q
 have e1:a=c:=zh0 h.1
 have e2:b=d:=zh0 h.2
 rw[e1,e2]
theorem z6k {x y:List Pt} (hl:x.length=y.length) (h:∀i,i<x.length->cor x i=cor y i):x=y:=by
 apply List.ext_getElem hl
 intro i h1 h2
 have:=h i h1
 unfold cor at this
 rwa [zQ h1,zQ h2,yB h1,yB h2] at this
def EqP (w:zA) (x y:List Pt) (e:Ending) (w':zA):Prop:=e=.returned (.bool (decide (x=y)))/\zB w.heap.size w w'
theorem EqP.no {w w':zA} {x y:List Pt} (h:x≠y) (hb:qL w w'):EqP w x y (.returned (.bool false)) w':=⟨by rw[decide_eq_false h],hb⟩
theorem EqP.yes {w w':zA} {x y:List Pt} (h:x=y) (hb:qL w w'):EqP w x y (.returned (.bool true)) w':=⟨by rw[decide_eq_true h],hb⟩
theorem z5s (ga ca gb cb:Nat) (x y:List Pt) (h0:0<x.length) (hx:x.length<=4096) (_:0<y.length) (_:y.length<=4096) (w:zA)
 (HA:Hid (∀W:zA,qL w W->∀k,W.cell? ⟨ga,k%x.length*2,none⟩=some (St (numS (cor x k).x))/\W.cell? ⟨ga,k%x.length*2+1,none⟩=some (St (numS (cor x k).y))))
 (HB:Hid (∀W:zA,qL w W->∀k,W.cell? ⟨gb,k%y.length*2,none⟩=some (St (numS (cor y k).x))/\W.cell? ⟨gb,k%y.length*2+1,none⟩=some (St (numS (cor y k).y)))):
 zC zF 17 #[.slice (some ⟨ga,0,none⟩) x.length ca,.slice (some ⟨gb,0,none⟩) y.length cb] w (EqP w x y):=by
 by_cases hl:x.length=y.length
 ·obtain⟨n,hn⟩:∃n,n=x.length:=⟨_,rfl⟩
  rw[<-hl] at HB⊢
  rw[<-hn] at h0 hx HA HB⊢
  have HN:=hid (⟨hn,hl⟩:n=x.length/\x.length=y.length);clear hn hl
  go_enter Tryz.func17,Tryz.ntmps17
  go_wp2_with fail
  go_loopw [13] (λi wr=>∃(k:Nat),k<=n/\i=.int .i64 (k:Int)/\Hid (qL w wr)/\Hid (∀i,i<k->cor x i=cor y i))
   (λi _=>n-(zL i).toNat)
  case atStart=>exact⟨0,zR _,rfl,zM _ _,λi h=>absurd h (by omega)⟩
  case round=>
   obtain⟨k,hk,rfl,hB,hS⟩:=hrel
   by_cases hlt:k<n
   ·obtain⟨c0,c1⟩:=HA.out wr hB.out k
    obtain⟨d0,d1⟩:=HB.out wr hB.out k
    rw[zQ hlt] at c0 c1 d0 d1
    have HSM:Hid (numS (cor x k).x=numS (cor y k).x/\numS (cor x k).y=numS (cor y k).y->cor x k=cor y k):=hid z7x
    have HDF:Hid (cor x k=cor y k->numS (cor x k).x=numS (cor y k).x/\numS (cor x k).y=numS (cor y k).y):=hid λe=>by rw[e];exact⟨rfl,rfl⟩
    have HQ:=hid λm=>hB.out.trans ((zao (zM _ wr) m).mono hB.out.size)
    generalize numS (cor x k).x=ax at*
    generalize numS (cor x k).y=ay at*
    generalize numS (cor y k).x=bx at*
    generalize numS (cor y k).y=by' at*
    by_cases hxx:ax=bx
    ·by_cases hyy:ay=by'
     ·subst hxx;subst hyy
      have HE:=hid (HSM.out ⟨rfl,rfl⟩)
      go_wp2_with fail
      go_quiet (fail)
      go_wp2_with fail
      go_roundw
      case rel=>exact⟨k+1,by omega,by go_num,hid (HQ.out _),λi hi=>(by
       by_cases e:i=k
       ·subst e;exact HE.out
       ·exact hS.out i (by omega))⟩
      case measure=>simp[zL];omega
     ·have HE:=hid (λe=>hyy (HDF.out e).2:cor x k≠cor y k)
      subst hxx
      go_wp2_with fail
      go_quiet (fail)
      go_wp2_with fail
      go_ret
      exact EqP.no (λe=>HE.out (by rw[e])) (HQ.out _)
    ·have HE:=hid (λe=>hxx (HDF.out e).1:cor x k≠cor y k)
     go_wp2_with fail
     go_quiet (fail)
     go_wp2_with fail
     go_ret
     exact EqP.no (λe=>HE.out (by rw[e])) (HQ.out _)
   ·obtain rfl:n=k:=by omega
    have HE:=hid (z6k HN.out.2 (λi hi=>hS.out i (by rw[HN.out.1];exact hi)))
    clear hS
    go_wp2_with fail
    go_ret
    exact EqP.yes HE.out hB.out
 ·have hli:((x.length:Int) !=(y.length:Int))=true:=by simpa using λe:(x.length:Int)=y.length=>hl (by omega)
  have HE:=hid (λe=>hl (by rw[e]):x≠y)
  clear hl HA HB
  generalize x.length=n at*
  generalize y.length=m at*
  go_enter Tryz.func17,Tryz.ntmps17
  go_wp2_with fail
  go_ret
  exact EqP.no HE.out (zM _ _)
end
end Go.Proofs.YthfpmfdiamldoaaGreatDoor
