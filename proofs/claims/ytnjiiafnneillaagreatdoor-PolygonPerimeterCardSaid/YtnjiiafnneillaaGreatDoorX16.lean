/- Regions in their order, a step at a time, where a guard is known only as a name; kingpostref10.segments, where the ways turn. -/
import Derived.Test.YtnjiiafnneillaaGreatDoorX15
import Derived.Maps.AppendAt
set_option maxRecDepth 100000
set_option maxHeartbeats 8000000
open Go renaming World → zA, Calls → zC
open Go.RowKit renaming Below → zB, intOf → zL
open Go.Proofs.Tryz renaming prog → zF
open Go.World renaming alloc_heap_new → zG
open Go.IntWalk renaming i64_in → zI
open Go.Joins renaming cell_of_block → zJ
open Go.RowKit.Below renaming refl → zM
open Nat renaming le_refl → zN, mod_lt → zP, mod_eq_of_lt → zQ, zero_le → zR
namespace Go.Proofs.YtnjiiafnneillaaGreatDoor
open Go.RowKit Go.Shelf Lib Str Limb Geo
attribute [local go_sem] Oper.semAt_some
section
variable {P:Program} {ops:Array Oper} {Q:Exit->Act->zA->Prop} {a:Act} {rest:List Oper} {o:Oper} {C:zA->Prop}
theorem zcq (v:Value) (hw:Region.wanted o (yielded ops a.tmps)=true) (hy:∀w,C w->(execOp a.eval o).run P w=.ok (.value v) w)
 (h:∀w,C w->wpList P ops Q rest (a.put o.dst v) w):∀w,C w->wpList P ops Q (o::rest) a w:=λw hC=>by
 refine wpList_step λK hK=>?_;rw[if_pos hw];exact zjt (C:=C) (v:=v) (λw' h'=>hK _ _ (h w' h')) (by rw[hy w hC];exact⟨rfl,hC⟩)
theorem yep (v:Value) (hw:Region.wanted o (yielded ops a.tmps)=true) (hy:∀w,C w->zfx P C v ((execOp a.eval o).run P w))
 (h:∀w,C w->wpList P ops Q rest (a.put o.dst v) w):∀w,C w->wpList P ops Q (o::rest) a w:=λw hC=>by
 refine wpList_step λK hK=>?_;rw[if_pos hw];exact zjt (C:=C) (v:=v) (λw' h'=>hK _ _ (h w' h')) (hy w hC)
theorem za4 (g:Bool) (v:Value) (hw:Region.wanted o (yielded ops a.tmps)=g) (hy:g=true->∀w,C w->zfx P C v ((execOp a.eval o).run P w))
 (h:∀w,C w->wpList P ops Q rest (a.put o.dst (bif g then v else undef)) w):∀w,C w->wpList P ops Q (o::rest) a w:=λw hC=>by
 refine wpList_step λK hK=>?_
 cases g with
 |true=>rw[if_pos hw];exact zjt (C:=C) (v:=v) (λw' h'=>hK _ _ (h w' h')) (hy rfl w hC)
 |false=>rw[if_neg (by rw[hw];simp)];exact hK _ _ (h w hC)
theorem zgs {id:Nat} {l:List Oper} {w:zA} (C:zA->Prop) (hC:C w) (h:∀w,C w->wpList P l.toArray Q l a w):(Code.region id l.toArray false).wp P Q a w:=wp_region_lit (h w hC)
theorem za2 {r:Result Next} {v:Value} {w:zA} (h:r=.ok (.value v) w) (hC:C w):zfx P C v r:=by rw[h];exact⟨rfl,hC⟩
end
theorem FourS.cells' {w:zA} {x1 y1 x2 y2 x3 y3 x4 y4:List UInt8} {W:zA} (h:FourS w x1 y1 x2 y2 x3 y3 x4 y4 W):
 W.cell? ⟨w.heap.size,0,none⟩=some (St x1)/\W.cell? ⟨w.heap.size,1,none⟩=some (St y1)/\W.cell? ⟨w.heap.size+1,0,none⟩=some (St x2)/\W.cell? ⟨w.heap.size+1,1,none⟩=some (St y2)/\
 W.cell? ⟨w.heap.size+1+1,0,none⟩=some (St x3)/\W.cell? ⟨w.heap.size+1+1,1,none⟩=some (St y3)/\W.cell? ⟨w.heap.size+1+1+1,0,none⟩=some (St x4)/\W.cell? ⟨w.heap.size+1+1+1,1,none⟩=some (St y4):=h.cells
theorem zx3 (x1 y1 x2 y2 x3 y3 x4 y4:List UInt8) (p q r s m n:Int) (bp bq br bs np nq c1 c2 o1 o2 o3 o4:Bool)
 (hp:Hid ((p==0)=bp)) (hq:Hid ((q==0)=bq)) (hr:Hid ((r==0)=br)) (hs:Hid ((s==0)=bs)) (hnp:Hid ((p !=0)=np)) (hnq:Hid ((q !=0)=nq))
 (hm:Hid (IntKind.i64.wrap (p*q)=m)) (hn:Hid (IntKind.i64.wrap (r*s)=n)) (hc1:Hid (decide (m<=0)=c1)) (hc2:Hid (decide (n<=0)=c2)) (hno:(((bp&&bq)&&br)&&bs)=false)
 (T1:Hid (qK 172 #[.agg #[St x1,St y1],.agg #[St x2,St y2],.agg #[St x3,St y3]] (.int .i64 p)))
 (T2:Hid (qK 172 #[.agg #[St x1,St y1],.agg #[St x2,St y2],.agg #[St x4,St y4]] (.int .i64 q)))
 (T3:Hid (qK 172 #[.agg #[St x3,St y3],.agg #[St x4,St y4],.agg #[St x1,St y1]] (.int .i64 r)))
 (T4:Hid (qK 172 #[.agg #[St x3,St y3],.agg #[St x4,St y4],.agg #[St x2,St y2]] (.int .i64 s)))
 (O1:Hid (qK 173 #[.agg #[St x1,St y1],.agg #[St x2,St y2],.agg #[St x3,St y3]] (.bool o1)))
 (O2:Hid (qK 173 #[.agg #[St x1,St y1],.agg #[St x2,St y2],.agg #[St x4,St y4]] (.bool o2)))
 (O3:Hid (qK 173 #[.agg #[St x3,St y3],.agg #[St x4,St y4],.agg #[St x1,St y1]] (.bool o3)))
 (O4:Hid (qK 173 #[.agg #[St x3,St y3],.agg #[St x4,St y4],.agg #[St x2,St y2]] (.bool o4)))
 (w:zA) (HW:Hid (Wd w)):
 qJ 91 #[.agg #[St x1,St y1],.agg #[St x2,St y2],.agg #[St x3,St y3],.agg #[St x4,St y4]] w (.int .i64 (if(((c1&&c2)&&(np||o1))&&(nq||o2))=true then 1 else if((((bp&&o1)||(bq&&o2))||(br&&o3))||(bs&&o4))=true then 1 else 0)):=by
 have HI:=hid (FourS.start w x1 y1 x2 y2 x3 y3 x4 y4);obtain⟨k1,hk1⟩:∃b,(bp&&bq)=b:=⟨_,rfl⟩;obtain⟨k2,hk2⟩:∃b,(k1&&br)=b:=⟨_,rfl⟩;have hk3:(k2&&bs)=false:=by rw[<-hk2,<-hk1];exact hno
 obtain⟨d1,hd1⟩:∃b,(c1&&c2)=b:=⟨_,rfl⟩;obtain⟨e1,he1⟩:∃b,(np||o1)=b:=⟨_,rfl⟩;obtain⟨d2,hd2⟩:∃b,(d1&&e1)=b:=⟨_,rfl⟩;obtain⟨e2,he2⟩:∃b,(nq||o2)=b:=⟨_,rfl⟩;obtain⟨d3,hd3⟩:∃b,(d2&&e2)=b:=⟨_,rfl⟩;obtain⟨f1,hf1⟩:∃b,(bp&&o1)=b:=⟨_,rfl⟩;obtain⟨f2,hf2⟩:∃b,(bq&&o2)=b:=⟨_,rfl⟩;obtain⟨g2,hg2⟩:∃b,(f1||f2)=b:=⟨_,rfl⟩;obtain⟨f3,hf3⟩:∃b,(br&&o3)=b:=⟨_,rfl⟩;obtain⟨g3,hg3⟩:∃b,(g2||f3)=b:=⟨_,rfl⟩;obtain⟨f4,hf4⟩:∃b,(bs&&o4)=b:=⟨_,rfl⟩;obtain⟨g4,hg4⟩:∃b,(g3||f4)=b:=⟨_,rfl⟩;rw[hd1,he1,hd2,he2,hd3,hf1,hf2,hg2,hf3,hg3,hf4,hg4];have Hk1:=hid hk1;clear hk1;have Hk2:=hid hk2;clear hk2;have Hk3:=hid hk3;clear hk3;have Hd1:=hid hd1;clear hd1;have Hd2:=hid hd2;clear hd2;have Hd3:=hid hd3;clear hd3;have He1:=hid he1;clear he1;have He2:=hid he2;clear he2;have Hf1:=hid hf1;clear hf1;have Hf2:=hid hf2;clear hf2;have Hf3:=hid hf3;clear hf3;have Hf4:=hid hf4;clear hf4;have Hg2:=hid hg2;clear hg2;have Hg3:=hid hg3;clear hg3;have Hg4:=hid hg4;clear hg4;clear hno;go_enter Tryz.func91,Tryz.ntmps91;go_wp21;refine zbl (λ_ W=>FourS w x1 y1 x2 y2 x3 y3 x4 y4 W) (by kernel_rfl) (by kernel_rfl) (HI.out.next (zM _ _).drew) ?_;refine qR (.agg #[St x1,St y1]) ?_ (hy:=λf W' hf h=>by obtain⟨i1,i2,i3,i4,i5,i6,i7,i8⟩:=h.cells';go_simp);refine qR (.agg #[St x2,St y2]) ?_ (hy:=λf W' hf h=>by obtain⟨i1,i2,i3,i4,i5,i6,i7,i8⟩:=h.cells';go_simp);refine qR (.agg #[St x3,St y3]) ?_ (hy:=λf W' hf h=>by obtain⟨i1,i2,i3,i4,i5,i6,i7,i8⟩:=h.cells';go_simp);simp only[zzQ]
 refine zar (.int .i64 p) (by rfl) (λf W' hf h C' hC'=>by
  go_simp;refine zzM (T1.out _ (HW.out.below h.bel)) λw' hb=>?_;exact⟨rfl,hC' _ (h.next hb)⟩) ?_
 refine qR (.agg #[St x1,St y1]) ?_ (hy:=λf W' hf h=>by obtain⟨i1,i2,i3,i4,i5,i6,i7,i8⟩:=h.cells';go_simp);refine qR (.agg #[St x2,St y2]) ?_ (hy:=λf W' hf h=>by obtain⟨i1,i2,i3,i4,i5,i6,i7,i8⟩:=h.cells';go_simp);simp only[zzQ];refine qR (.agg #[St x4,St y4]) ?_ (hy:=λf W' hf h=>by obtain⟨i1,i2,i3,i4,i5,i6,i7,i8⟩:=h.cells';go_simp);simp only[zzQ]
 refine zar (.int .i64 q) (by rfl) (λf W' hf h C' hC'=>by
  go_simp;refine zzM (T2.out _ (HW.out.below h.bel)) λw' hb=>?_;exact⟨rfl,hC' _ (h.next hb)⟩) ?_
 refine qR (.agg #[St x3,St y3]) ?_ (hy:=λf W' hf h=>by obtain⟨i1,i2,i3,i4,i5,i6,i7,i8⟩:=h.cells';go_simp);refine qR (.agg #[St x4,St y4]) ?_ (hy:=λf W' hf h=>by obtain⟨i1,i2,i3,i4,i5,i6,i7,i8⟩:=h.cells';go_simp);simp only[zzQ];refine qR (.agg #[St x1,St y1]) ?_ (hy:=λf W' hf h=>by obtain⟨i1,i2,i3,i4,i5,i6,i7,i8⟩:=h.cells';go_simp);simp only[zzQ]
 refine zar (.int .i64 r) (by rfl) (λf W' hf h C' hC'=>by
  go_simp;refine zzM (T3.out _ (HW.out.below h.bel)) λw' hb=>?_;exact⟨rfl,hC' _ (h.next hb)⟩) ?_
 refine qR (.agg #[St x3,St y3]) ?_ (hy:=λf W' hf h=>by obtain⟨i1,i2,i3,i4,i5,i6,i7,i8⟩:=h.cells';go_simp);refine qR (.agg #[St x4,St y4]) ?_ (hy:=λf W' hf h=>by obtain⟨i1,i2,i3,i4,i5,i6,i7,i8⟩:=h.cells';go_simp);simp only[zzQ];refine qR (.agg #[St x2,St y2]) ?_ (hy:=λf W' hf h=>by obtain⟨i1,i2,i3,i4,i5,i6,i7,i8⟩:=h.cells';go_simp);simp only[zzQ]
 refine zar (.int .i64 s) (by rfl) (λf W' hf h C' hC'=>by
  go_simp;refine zzM (T4.out _ (HW.out.below h.bel)) λw' hb=>?_;exact⟨rfl,hC' _ (h.next hb)⟩) ?_
 refine qR (.int .i64 p) ?_;refine qR (.int .i64 q) ?_;simp only[zzQ];refine qR (.int .i64 r) ?_;refine qR (.int .i64 s) ?_;simp only[zzQ];refine zck λf W1 hf h1=>?_;have HI1:=hid h1;clear hf h1 HI;rename_i K hK;refine hK _ _ ?_;refine wp_seq (wp_seq ?_);refine zgs (λW=>FourS w x1 y1 x2 y2 x3 y3 x4 y4 W) HI1.out ?_;refine zcq (.agg #[St x1,St y1]) (by rfl) (λW' h=>by(obtain⟨i1,i2,i3,i4,i5,i6,i7,i8⟩:=h.cells';go_simp)) ?_
 try simp only[zzQ]
 refine zcq (.agg #[St x2,St y2]) (by rfl) (λW' h=>by(obtain⟨i1,i2,i3,i4,i5,i6,i7,i8⟩:=h.cells';go_simp)) ?_
 try simp only[zzQ]
 refine zcq (.agg #[St x3,St y3]) (by rfl) (λW' h=>by(obtain⟨i1,i2,i3,i4,i5,i6,i7,i8⟩:=h.cells';go_simp)) ?_
 try simp only[zzQ]
 refine yep (.int .i64 p) (by rfl) (λW' h=>by
  go_simp;refine zzM (T1.out _ (HW.out.below h.bel)) λw' hb=>?_;exact⟨rfl,h.next hb⟩) ?_
 try simp only[zzQ]
 refine zcq (.bool bp) (by rfl) (λW' h=>by(have h0:=hp.out;go_simp)) ?_
 try simp only[zzQ]
 refine zcq (.bool bp) (by rfl) (λW' h=>by go_simp) ?_
 try simp only[zzQ]
 refine za4 (bp) (.agg #[St x1,St y1]) (by cases bp<;>rfl) (λhg W' h=>by
  obtain⟨rfl⟩:bp=true:=by revert hg;cases bp<;>simp
  refine za2 ?_ h
  (obtain⟨i1,i2,i3,i4,i5,i6,i7,i8⟩:=h.cells';go_simp)) ?_
 try simp only[zzQ]
 refine za4 (bp) (.agg #[St x2,St y2]) (by cases bp<;>rfl) (λhg W' h=>by
  obtain⟨rfl⟩:bp=true:=by revert hg;cases bp<;>simp
  refine za2 ?_ h
  (obtain⟨i1,i2,i3,i4,i5,i6,i7,i8⟩:=h.cells';go_simp)) ?_
 try simp only[zzQ]
 refine za4 (bp) (.agg #[St x4,St y4]) (by cases bp<;>rfl) (λhg W' h=>by
  obtain⟨rfl⟩:bp=true:=by revert hg;cases bp<;>simp
  refine za2 ?_ h
  (obtain⟨i1,i2,i3,i4,i5,i6,i7,i8⟩:=h.cells';go_simp)) ?_
 try simp only[zzQ]
 refine za4 (bp) (.int .i64 q) (by cases bp<;>rfl) (λhg W' h=>by
  obtain⟨rfl⟩:bp=true:=by revert hg;cases bp<;>simp
  go_simp;refine zzM (T2.out _ (HW.out.below h.bel)) λw' hb=>?_;exact⟨rfl,h.next hb⟩) ?_
 try simp only[zzQ]
 refine za4 (bp) (.bool bq) (by cases bp<;>rfl) (λhg W' h=>by
  obtain⟨rfl⟩:bp=true:=by revert hg;cases bp<;>simp
  refine za2 ?_ h
  (have h0:=hq.out;go_simp)) ?_
 try simp only[zzQ]
 refine zcq (.bool k1) (by rfl) (λW' h=>by cases bp<;>(have h0:=Hk1.out;simp only[Bool.true_and,Bool.false_and] at h0;(try subst h0);go_simp)) ?_
 try simp only[zzQ]
 refine zcq (.bool k1) (by rfl) (λW' h=>by go_simp) ?_
 try simp only[zzQ]
 refine za4 (k1) (.agg #[St x3,St y3]) (by cases k1<;>rfl) (λhg W' h=>by
  obtain⟨rfl⟩:k1=true:=by revert hg;cases k1<;>simp
  refine za2 ?_ h
  (obtain⟨i1,i2,i3,i4,i5,i6,i7,i8⟩:=h.cells';go_simp)) ?_
 try simp only[zzQ]
 refine za4 (k1) (.agg #[St x4,St y4]) (by cases k1<;>rfl) (λhg W' h=>by
  obtain⟨rfl⟩:k1=true:=by revert hg;cases k1<;>simp
  refine za2 ?_ h
  (obtain⟨i1,i2,i3,i4,i5,i6,i7,i8⟩:=h.cells';go_simp)) ?_
 try simp only[zzQ]
 refine za4 (k1) (.agg #[St x1,St y1]) (by cases k1<;>rfl) (λhg W' h=>by
  obtain⟨rfl⟩:k1=true:=by revert hg;cases k1<;>simp
  refine za2 ?_ h
  (obtain⟨i1,i2,i3,i4,i5,i6,i7,i8⟩:=h.cells';go_simp)) ?_
 try simp only[zzQ]
 refine za4 (k1) (.int .i64 r) (by cases k1<;>rfl) (λhg W' h=>by
  obtain⟨rfl⟩:k1=true:=by revert hg;cases k1<;>simp
  go_simp;refine zzM (T3.out _ (HW.out.below h.bel)) λw' hb=>?_;exact⟨rfl,h.next hb⟩) ?_
 try simp only[zzQ]
 refine za4 (k1) (.bool br) (by cases k1<;>rfl) (λhg W' h=>by
  obtain⟨rfl⟩:k1=true:=by revert hg;cases k1<;>simp
  refine za2 ?_ h
  (have h0:=hr.out;go_simp)) ?_
 try simp only[zzQ]
 refine zcq (.bool k2) (by rfl) (λW' h=>by cases k1<;>(have h0:=Hk2.out;simp only[Bool.true_and,Bool.false_and] at h0;(try subst h0);go_simp)) ?_
 try simp only[zzQ]
 refine zcq (.bool k2) (by rfl) (λW' h=>by go_simp) ?_
 try simp only[zzQ]
 refine za4 (k2) (.agg #[St x3,St y3]) (by cases k2<;>rfl) (λhg W' h=>by
  obtain⟨rfl⟩:k2=true:=by revert hg;cases k2<;>simp
  refine za2 ?_ h
  (obtain⟨i1,i2,i3,i4,i5,i6,i7,i8⟩:=h.cells';go_simp)) ?_
 try simp only[zzQ]
 refine za4 (k2) (.agg #[St x4,St y4]) (by cases k2<;>rfl) (λhg W' h=>by
  obtain⟨rfl⟩:k2=true:=by revert hg;cases k2<;>simp
  refine za2 ?_ h
  (obtain⟨i1,i2,i3,i4,i5,i6,i7,i8⟩:=h.cells';go_simp)) ?_
 try simp only[zzQ]
 refine za4 (k2) (.agg #[St x2,St y2]) (by cases k2<;>rfl) (λhg W' h=>by
  obtain⟨rfl⟩:k2=true:=by revert hg;cases k2<;>simp
  refine za2 ?_ h
  (obtain⟨i1,i2,i3,i4,i5,i6,i7,i8⟩:=h.cells';go_simp)) ?_
 try simp only[zzQ]
 refine za4 (k2) (.int .i64 s) (by cases k2<;>rfl) (λhg W' h=>by
  obtain⟨rfl⟩:k2=true:=by revert hg;cases k2<;>simp
  go_simp;refine zzM (T4.out _ (HW.out.below h.bel)) λw' hb=>?_;exact⟨rfl,h.next hb⟩) ?_
 try simp only[zzQ]
 refine za4 (k2) (.bool bs) (by cases k2<;>rfl) (λhg W' h=>by
  obtain⟨rfl⟩:k2=true:=by revert hg;cases k2<;>simp
  refine za2 ?_ h
  (have h0:=hs.out;go_simp)) ?_
 try simp only[zzQ]
 refine zcq (.bool false) (by rfl) (λW' h=>by cases k2<;>(have h0:=Hk3.out;simp only[Bool.true_and,Bool.false_and] at h0;(try subst h0);go_simp)) ?_
 try simp only[zzQ]
 intro W2 h2;have HI2:=hid h2;clear h2 HI1;change (Code.cond _ _ _).wp _ _ _ _;refine wp_cond (t:=false) (by rfl) ?_;refine wp_skip ?_;change Code.wp _ _ _ _ _;refine wp_seq (wp_seq ?_);refine zgs (λW=>FourS w x1 y1 x2 y2 x3 y3 x4 y4 W) HI2.out ?_;refine zcq (.int .i64 p) (by rfl) (λW' h=>by go_simp) ?_
 try simp only[zzQ]
 refine zcq (.int .i64 q) (by rfl) (λW' h=>by go_simp) ?_
 try simp only[zzQ]
 refine zcq (.int .i64 m) (by rfl) (λW' h=>by(have h0:=hm.out;go_simp)) ?_
 try simp only[zzQ]
 refine zcq (.bool c1) (by rfl) (λW' h=>by(have h0:=hc1.out;go_simp)) ?_
 try simp only[zzQ]
 refine zcq (.bool c1) (by rfl) (λW' h=>by go_simp) ?_
 try simp only[zzQ]
 refine za4 (c1) (.int .i64 r) (by cases c1<;>rfl) (λhg W' h=>by
  obtain⟨rfl⟩:c1=true:=by revert hg;cases c1<;>simp
  refine za2 ?_ h
  (go_simp)) ?_
 try simp only[zzQ]
 refine za4 (c1) (.int .i64 s) (by cases c1<;>rfl) (λhg W' h=>by
  obtain⟨rfl⟩:c1=true:=by revert hg;cases c1<;>simp
  refine za2 ?_ h
  (go_simp)) ?_
 try simp only[zzQ]
 refine za4 (c1) (.int .i64 n) (by cases c1<;>rfl) (λhg W' h=>by
  obtain⟨rfl⟩:c1=true:=by revert hg;cases c1<;>simp
  refine za2 ?_ h
  (have h0:=hn.out;go_simp)) ?_
 try simp only[zzQ]
 refine za4 (c1) (.bool c2) (by cases c1<;>rfl) (λhg W' h=>by
  obtain⟨rfl⟩:c1=true:=by revert hg;cases c1<;>simp
  refine za2 ?_ h
  (have h0:=hc2.out;go_simp)) ?_
 try simp only[zzQ]
 refine zcq (.bool d1) (by rfl) (λW' h=>by cases c1<;>(have h0:=Hd1.out;simp only[Bool.true_and,Bool.false_and] at h0;(try subst h0);go_simp)) ?_
 try simp only[zzQ]
 refine zcq (.bool d1) (by rfl) (λW' h=>by go_simp) ?_
 try simp only[zzQ]
 refine za4 (d1) (.int .i64 p) (by cases d1<;>rfl) (λhg W' h=>by
  obtain⟨rfl⟩:d1=true:=by revert hg;cases d1<;>simp
  refine za2 ?_ h
  (go_simp)) ?_
 try simp only[zzQ]
 refine za4 (d1) (.bool np) (by cases d1<;>rfl) (λhg W' h=>by
  obtain⟨rfl⟩:d1=true:=by revert hg;cases d1<;>simp
  refine za2 ?_ h
  (have h0:=hnp.out;go_simp)) ?_
 try simp only[zzQ]
 refine za4 (d1) (.bool np) (by cases d1<;>rfl) (λhg W' h=>by
  obtain⟨rfl⟩:d1=true:=by revert hg;cases d1<;>simp
  refine za2 ?_ h
  (go_simp)) ?_
 try simp only[zzQ]
 refine za4 (d1&&!np) (.agg #[St x1,St y1]) (by cases d1<;>cases np<;>rfl) (λhg W' h=>by
  obtain⟨rfl,rfl⟩:d1=true/\np=false:=by revert hg;cases d1<;>cases np<;>simp
  refine za2 ?_ h
  (obtain⟨i1,i2,i3,i4,i5,i6,i7,i8⟩:=h.cells';go_simp)) ?_
 try simp only[zzQ]
 refine za4 (d1&&!np) (.agg #[St x2,St y2]) (by cases d1<;>cases np<;>rfl) (λhg W' h=>by
  obtain⟨rfl,rfl⟩:d1=true/\np=false:=by revert hg;cases d1<;>cases np<;>simp
  refine za2 ?_ h
  (obtain⟨i1,i2,i3,i4,i5,i6,i7,i8⟩:=h.cells';go_simp)) ?_
 try simp only[zzQ]
 refine za4 (d1&&!np) (.agg #[St x3,St y3]) (by cases d1<;>cases np<;>rfl) (λhg W' h=>by
  obtain⟨rfl,rfl⟩:d1=true/\np=false:=by revert hg;cases d1<;>cases np<;>simp
  refine za2 ?_ h
  (obtain⟨i1,i2,i3,i4,i5,i6,i7,i8⟩:=h.cells';go_simp)) ?_
 try simp only[zzQ]
 refine za4 (d1&&!np) (.bool o1) (by cases d1<;>cases np<;>rfl) (λhg W' h=>by
  obtain⟨rfl,rfl⟩:d1=true/\np=false:=by revert hg;cases d1<;>cases np<;>simp
  go_simp;refine zzM (O1.out _ (HW.out.below h.bel)) λw' hb=>?_;exact⟨rfl,h.next hb⟩) ?_
 try simp only[zzQ]
 refine za4 (d1) (.bool e1) (by cases d1<;>rfl) (λhg W' h=>by
  obtain⟨rfl⟩:d1=true:=by revert hg;cases d1<;>simp
  refine za2 ?_ h;cases np<;>(have h0:=He1.out;simp only[Bool.true_or,Bool.false_or] at h0;(try subst h0);go_simp)) ?_
 try simp only[zzQ]
 refine zcq (.bool d2) (by rfl) (λW' h=>by cases d1<;>(have h0:=Hd2.out;simp only[Bool.true_and,Bool.false_and] at h0;(try subst h0);go_simp)) ?_
 try simp only[zzQ]
 refine zcq (.bool d2) (by rfl) (λW' h=>by go_simp) ?_
 try simp only[zzQ]
 refine za4 (d2) (.int .i64 q) (by cases d2<;>rfl) (λhg W' h=>by
  obtain⟨rfl⟩:d2=true:=by revert hg;cases d2<;>simp
  refine za2 ?_ h
  (go_simp)) ?_
 try simp only[zzQ]
 refine za4 (d2) (.bool nq) (by cases d2<;>rfl) (λhg W' h=>by
  obtain⟨rfl⟩:d2=true:=by revert hg;cases d2<;>simp
  refine za2 ?_ h
  (have h0:=hnq.out;go_simp)) ?_
 try simp only[zzQ]
 refine za4 (d2) (.bool nq) (by cases d2<;>rfl) (λhg W' h=>by
  obtain⟨rfl⟩:d2=true:=by revert hg;cases d2<;>simp
  refine za2 ?_ h
  (go_simp)) ?_
 try simp only[zzQ]
 refine za4 (d2&&!nq) (.agg #[St x1,St y1]) (by cases d2<;>cases nq<;>rfl) (λhg W' h=>by
  obtain⟨rfl,rfl⟩:d2=true/\nq=false:=by revert hg;cases d2<;>cases nq<;>simp
  refine za2 ?_ h
  (obtain⟨i1,i2,i3,i4,i5,i6,i7,i8⟩:=h.cells';go_simp)) ?_
 try simp only[zzQ]
 refine za4 (d2&&!nq) (.agg #[St x2,St y2]) (by cases d2<;>cases nq<;>rfl) (λhg W' h=>by
  obtain⟨rfl,rfl⟩:d2=true/\nq=false:=by revert hg;cases d2<;>cases nq<;>simp
  refine za2 ?_ h
  (obtain⟨i1,i2,i3,i4,i5,i6,i7,i8⟩:=h.cells';go_simp)) ?_
 try simp only[zzQ]
 refine za4 (d2&&!nq) (.agg #[St x4,St y4]) (by cases d2<;>cases nq<;>rfl) (λhg W' h=>by
  obtain⟨rfl,rfl⟩:d2=true/\nq=false:=by revert hg;cases d2<;>cases nq<;>simp
  refine za2 ?_ h
  (obtain⟨i1,i2,i3,i4,i5,i6,i7,i8⟩:=h.cells';go_simp)) ?_
 try simp only[zzQ]
 refine za4 (d2&&!nq) (.bool o2) (by cases d2<;>cases nq<;>rfl) (λhg W' h=>by
  obtain⟨rfl,rfl⟩:d2=true/\nq=false:=by revert hg;cases d2<;>cases nq<;>simp
  go_simp;refine zzM (O2.out _ (HW.out.below h.bel)) λw' hb=>?_;exact⟨rfl,h.next hb⟩) ?_
 try simp only[zzQ]
 refine za4 (d2) (.bool e2) (by cases d2<;>rfl) (λhg W' h=>by
  obtain⟨rfl⟩:d2=true:=by revert hg;cases d2<;>simp
  refine za2 ?_ h;cases nq<;>(have h0:=He2.out;simp only[Bool.true_or,Bool.false_or] at h0;(try subst h0);go_simp)) ?_
 try simp only[zzQ]
 refine zcq (.bool d3) (by rfl) (λW' h=>by cases d2<;>(have h0:=Hd3.out;simp only[Bool.true_and,Bool.false_and] at h0;(try subst h0);go_simp)) ?_
 try simp only[zzQ]
 intro W3 h3;have HI3:=hid h3;clear h3 HI2;change (Code.cond _ _ _).wp _ _ _ _;refine wp_cond (t:=d3) (by rfl) ?_;cases d3
 case true=>
  go_wp21;go_ret;exact⟨rfl,HI3.out.bel⟩
 case false=>
 refine wp_skip ?_;change Code.wp _ _ _ _ _;refine wp_seq (wp_seq ?_);refine zgs (λW=>FourS w x1 y1 x2 y2 x3 y3 x4 y4 W) HI3.out ?_;refine zcq (.int .i64 p) (by rfl) (λW' h=>by go_simp) ?_
 try simp only[zzQ]
 refine zcq (.bool bp) (by rfl) (λW' h=>by(have h0:=hp.out;go_simp)) ?_
 try simp only[zzQ]
 refine zcq (.bool bp) (by rfl) (λW' h=>by go_simp) ?_
 try simp only[zzQ]
 refine za4 (bp) (.agg #[St x1,St y1]) (by cases bp<;>rfl) (λhg W' h=>by
  obtain⟨rfl⟩:bp=true:=by revert hg;cases bp<;>simp
  refine za2 ?_ h
  (obtain⟨i1,i2,i3,i4,i5,i6,i7,i8⟩:=h.cells';go_simp)) ?_
 try simp only[zzQ]
 refine za4 (bp) (.agg #[St x2,St y2]) (by cases bp<;>rfl) (λhg W' h=>by
  obtain⟨rfl⟩:bp=true:=by revert hg;cases bp<;>simp
  refine za2 ?_ h
  (obtain⟨i1,i2,i3,i4,i5,i6,i7,i8⟩:=h.cells';go_simp)) ?_
 try simp only[zzQ]
 refine za4 (bp) (.agg #[St x3,St y3]) (by cases bp<;>rfl) (λhg W' h=>by
  obtain⟨rfl⟩:bp=true:=by revert hg;cases bp<;>simp
  refine za2 ?_ h
  (obtain⟨i1,i2,i3,i4,i5,i6,i7,i8⟩:=h.cells';go_simp)) ?_
 try simp only[zzQ]
 refine za4 (bp) (.bool o1) (by cases bp<;>rfl) (λhg W' h=>by
  obtain⟨rfl⟩:bp=true:=by revert hg;cases bp<;>simp
  go_simp;refine zzM (O1.out _ (HW.out.below h.bel)) λw' hb=>?_;exact⟨rfl,h.next hb⟩) ?_
 try simp only[zzQ]
 refine zcq (.bool f1) (by rfl) (λW' h=>by cases bp<;>(have h0:=Hf1.out;simp only[Bool.true_and,Bool.false_and] at h0;(try subst h0);go_simp)) ?_
 try simp only[zzQ]
 refine zcq (.bool f1) (by rfl) (λW' h=>by go_simp) ?_
 try simp only[zzQ]
 refine za4 (!f1) (.int .i64 q) (by cases f1<;>rfl) (λhg W' h=>by
  obtain⟨rfl⟩:f1=false:=by revert hg;cases f1<;>simp
  refine za2 ?_ h
  (go_simp)) ?_
 try simp only[zzQ]
 refine za4 (!f1) (.bool bq) (by cases f1<;>rfl) (λhg W' h=>by
  obtain⟨rfl⟩:f1=false:=by revert hg;cases f1<;>simp
  refine za2 ?_ h
  (have h0:=hq.out;go_simp)) ?_
 try simp only[zzQ]
 refine za4 (!f1) (.bool bq) (by cases f1<;>rfl) (λhg W' h=>by
  obtain⟨rfl⟩:f1=false:=by revert hg;cases f1<;>simp
  refine za2 ?_ h
  (go_simp)) ?_
 try simp only[zzQ]
 refine za4 (!f1&&bq) (.agg #[St x1,St y1]) (by cases f1<;>cases bq<;>rfl) (λhg W' h=>by
  obtain⟨rfl,rfl⟩:f1=false/\bq=true:=by revert hg;cases f1<;>cases bq<;>simp
  refine za2 ?_ h
  (obtain⟨i1,i2,i3,i4,i5,i6,i7,i8⟩:=h.cells';go_simp)) ?_
 try simp only[zzQ]
 refine za4 (!f1&&bq) (.agg #[St x2,St y2]) (by cases f1<;>cases bq<;>rfl) (λhg W' h=>by
  obtain⟨rfl,rfl⟩:f1=false/\bq=true:=by revert hg;cases f1<;>cases bq<;>simp
  refine za2 ?_ h
  (obtain⟨i1,i2,i3,i4,i5,i6,i7,i8⟩:=h.cells';go_simp)) ?_
 try simp only[zzQ]
 refine za4 (!f1&&bq) (.agg #[St x4,St y4]) (by cases f1<;>cases bq<;>rfl) (λhg W' h=>by
  obtain⟨rfl,rfl⟩:f1=false/\bq=true:=by revert hg;cases f1<;>cases bq<;>simp
  refine za2 ?_ h
  (obtain⟨i1,i2,i3,i4,i5,i6,i7,i8⟩:=h.cells';go_simp)) ?_
 try simp only[zzQ]
 refine za4 (!f1&&bq) (.bool o2) (by cases f1<;>cases bq<;>rfl) (λhg W' h=>by
  obtain⟨rfl,rfl⟩:f1=false/\bq=true:=by revert hg;cases f1<;>cases bq<;>simp
  go_simp;refine zzM (O2.out _ (HW.out.below h.bel)) λw' hb=>?_;exact⟨rfl,h.next hb⟩) ?_
 try simp only[zzQ]
 refine za4 (!f1) (.bool f2) (by cases f1<;>rfl) (λhg W' h=>by
  obtain⟨rfl⟩:f1=false:=by revert hg;cases f1<;>simp
  refine za2 ?_ h;cases bq<;>(have h0:=Hf2.out;simp only[Bool.true_and,Bool.false_and] at h0;(try subst h0);go_simp)) ?_
 try simp only[zzQ]
 refine zcq (.bool g2) (by rfl) (λW' h=>by cases f1<;>(have h0:=Hg2.out;simp only[Bool.true_or,Bool.false_or] at h0;(try subst h0);go_simp)) ?_
 try simp only[zzQ]
 refine zcq (.bool g2) (by rfl) (λW' h=>by go_simp) ?_
 try simp only[zzQ]
 refine za4 (!g2) (.int .i64 r) (by cases g2<;>rfl) (λhg W' h=>by
  obtain⟨rfl⟩:g2=false:=by revert hg;cases g2<;>simp
  refine za2 ?_ h
  (go_simp)) ?_
 try simp only[zzQ]
 refine za4 (!g2) (.bool br) (by cases g2<;>rfl) (λhg W' h=>by
  obtain⟨rfl⟩:g2=false:=by revert hg;cases g2<;>simp
  refine za2 ?_ h
  (have h0:=hr.out;go_simp)) ?_
 try simp only[zzQ]
 refine za4 (!g2) (.bool br) (by cases g2<;>rfl) (λhg W' h=>by
  obtain⟨rfl⟩:g2=false:=by revert hg;cases g2<;>simp
  refine za2 ?_ h
  (go_simp)) ?_
 try simp only[zzQ]
 refine za4 (!g2&&br) (.agg #[St x3,St y3]) (by cases g2<;>cases br<;>rfl) (λhg W' h=>by
  obtain⟨rfl,rfl⟩:g2=false/\br=true:=by revert hg;cases g2<;>cases br<;>simp
  refine za2 ?_ h
  (obtain⟨i1,i2,i3,i4,i5,i6,i7,i8⟩:=h.cells';go_simp)) ?_
 try simp only[zzQ]
 refine za4 (!g2&&br) (.agg #[St x4,St y4]) (by cases g2<;>cases br<;>rfl) (λhg W' h=>by
  obtain⟨rfl,rfl⟩:g2=false/\br=true:=by revert hg;cases g2<;>cases br<;>simp
  refine za2 ?_ h
  (obtain⟨i1,i2,i3,i4,i5,i6,i7,i8⟩:=h.cells';go_simp)) ?_
 try simp only[zzQ]
 refine za4 (!g2&&br) (.agg #[St x1,St y1]) (by cases g2<;>cases br<;>rfl) (λhg W' h=>by
  obtain⟨rfl,rfl⟩:g2=false/\br=true:=by revert hg;cases g2<;>cases br<;>simp
  refine za2 ?_ h
  (obtain⟨i1,i2,i3,i4,i5,i6,i7,i8⟩:=h.cells';go_simp)) ?_
 try simp only[zzQ]
 refine za4 (!g2&&br) (.bool o3) (by cases g2<;>cases br<;>rfl) (λhg W' h=>by
  obtain⟨rfl,rfl⟩:g2=false/\br=true:=by revert hg;cases g2<;>cases br<;>simp
  go_simp;refine zzM (O3.out _ (HW.out.below h.bel)) λw' hb=>?_;exact⟨rfl,h.next hb⟩) ?_
 try simp only[zzQ]
 refine za4 (!g2) (.bool f3) (by cases g2<;>rfl) (λhg W' h=>by
  obtain⟨rfl⟩:g2=false:=by revert hg;cases g2<;>simp
  refine za2 ?_ h;cases br<;>(have h0:=Hf3.out;simp only[Bool.true_and,Bool.false_and] at h0;(try subst h0);go_simp)) ?_
 try simp only[zzQ]
 refine zcq (.bool g3) (by rfl) (λW' h=>by cases g2<;>(have h0:=Hg3.out;simp only[Bool.true_or,Bool.false_or] at h0;(try subst h0);go_simp)) ?_
 try simp only[zzQ]
 refine zcq (.bool g3) (by rfl) (λW' h=>by go_simp) ?_
 try simp only[zzQ]
 refine za4 (!g3) (.int .i64 s) (by cases g3<;>rfl) (λhg W' h=>by
  obtain⟨rfl⟩:g3=false:=by revert hg;cases g3<;>simp
  refine za2 ?_ h
  (go_simp)) ?_
 try simp only[zzQ]
 refine za4 (!g3) (.bool bs) (by cases g3<;>rfl) (λhg W' h=>by
  obtain⟨rfl⟩:g3=false:=by revert hg;cases g3<;>simp
  refine za2 ?_ h
  (have h0:=hs.out;go_simp)) ?_
 try simp only[zzQ]
 refine za4 (!g3) (.bool bs) (by cases g3<;>rfl) (λhg W' h=>by
  obtain⟨rfl⟩:g3=false:=by revert hg;cases g3<;>simp
  refine za2 ?_ h
  (go_simp)) ?_
 try simp only[zzQ]
 refine za4 (!g3&&bs) (.agg #[St x3,St y3]) (by cases g3<;>cases bs<;>rfl) (λhg W' h=>by
  obtain⟨rfl,rfl⟩:g3=false/\bs=true:=by revert hg;cases g3<;>cases bs<;>simp
  refine za2 ?_ h
  (obtain⟨i1,i2,i3,i4,i5,i6,i7,i8⟩:=h.cells';go_simp)) ?_
 try simp only[zzQ]
 refine za4 (!g3&&bs) (.agg #[St x4,St y4]) (by cases g3<;>cases bs<;>rfl) (λhg W' h=>by
  obtain⟨rfl,rfl⟩:g3=false/\bs=true:=by revert hg;cases g3<;>cases bs<;>simp
  refine za2 ?_ h
  (obtain⟨i1,i2,i3,i4,i5,i6,i7,i8⟩:=h.cells';go_simp)) ?_
 try simp only[zzQ]
 refine za4 (!g3&&bs) (.agg #[St x2,St y2]) (by cases g3<;>cases bs<;>rfl) (λhg W' h=>by
  obtain⟨rfl,rfl⟩:g3=false/\bs=true:=by revert hg;cases g3<;>cases bs<;>simp
  refine za2 ?_ h
  (obtain⟨i1,i2,i3,i4,i5,i6,i7,i8⟩:=h.cells';go_simp)) ?_
 try simp only[zzQ]
 refine za4 (!g3&&bs) (.bool o4) (by cases g3<;>cases bs<;>rfl) (λhg W' h=>by
  obtain⟨rfl,rfl⟩:g3=false/\bs=true:=by revert hg;cases g3<;>cases bs<;>simp
  go_simp;refine zzM (O4.out _ (HW.out.below h.bel)) λw' hb=>?_;exact⟨rfl,h.next hb⟩) ?_
 try simp only[zzQ]
 refine za4 (!g3) (.bool f4) (by cases g3<;>rfl) (λhg W' h=>by
  obtain⟨rfl⟩:g3=false:=by revert hg;cases g3<;>simp
  refine za2 ?_ h;cases bs<;>(have h0:=Hf4.out;simp only[Bool.true_and,Bool.false_and] at h0;(try subst h0);go_simp)) ?_
 try simp only[zzQ]
 refine zcq (.bool g4) (by rfl) (λW' h=>by cases g3<;>(have h0:=Hg4.out;simp only[Bool.true_or,Bool.false_or] at h0;(try subst h0);go_simp)) ?_
 try simp only[zzQ]
 intro W4 h4;have HI4:=hid h4;clear h4 HI3;change (Code.cond _ _ _).wp _ _ _ _;refine wp_cond (t:=g4) (by rfl) ?_;cases g4<;>(
  go_wp21;go_ret;exact⟨rfl,HI4.out.bel⟩)
end Go.Proofs.YtnjiiafnneillaaGreatDoor
namespace Go.Proofs.YtnjiiafnneillaaGreatDoor
open Go.RowKit Go.Shelf Lib Str Limb Geo
theorem zo8 (a b p:Pt):onB a b p=true↔onR a b p:=by unfold onB onR;simp
theorem zqf {a b c d:Pt} (h0:¬(turn a b c=0/\turn a b d=0/\turn c d a=0/\turn c d b=0)):
 (if(((decide (turn a b c*turn a b d<=0)&&decide (turn c d a*turn c d b<=0))&&((turn a b c !=0)||onB a b c))&&((turn a b d !=0)||onB a b d))=true then(1:Int) else if(((((turn a b c==0)&&onB a b c)||((turn a b d==0)&&onB a b d))||((turn c d a==0)&&onB c d a))||((turn c d b==0)&&onB c d b))=true then 1 else 0)=meet a b c d:=by
 rw[<-zmy];unfold zn2;rw[if_neg h0];simp only[Bool.and_eq_true,Bool.or_eq_true,decide_eq_true_eq,bne_iff_ne,beq_iff_eq,zo8,and_assoc,or_assoc]
theorem zpj (a b c d e f:Pt):IntKind.i64.wrap (turn a b c*turn d e f)=turn a b c*turn d e f:=by
 unfold turn;exact zmc _ _ _ _
theorem yfv (a b c d:Pt) (k:Nat) (hk:0<k) (hk2:8*k+4<=300) (ha:szP a k) (hb:szP b k) (hc:szP c k) (hd:szP d k) (h0:¬(turn a b c=0/\turn a b d=0/\turn c d a=0/\turn c d b=0)) (w:zA) (hw:Wd w):
 qJ 91 #[ptV a,ptV b,ptV c,ptV d] w (.int .i64 (meet a b c d)):=by
 have hno:((((turn a b c==0)&&(turn a b d==0))&&(turn c d a==0))&&(turn c d b==0))=false:=by
  rw[Bool.eq_false_iff];intro h;simp only[Bool.and_eq_true,beq_iff_eq,and_assoc] at h;exact h0 h
 rw[<-zqf h0];exact zx3 _ _ _ _ _ _ _ _ _ _ _ _ _ _ _ _ _ _ _ _ _ _ _ _ _ _ (hid rfl) (hid rfl) (hid rfl) (hid rfl) (hid rfl) (hid rfl) (hid (zpj a b c a b d)) (hid (zpj c d a c d b)) (hid rfl) (hid rfl) hno
  (hid λW hW=>zjh a b c k hk hk2 ha hb hc W hW) (hid λW hW=>zjh a b d k hk hk2 ha hb hd W hW) (hid λW hW=>zjh c d a k hk hk2 hc hd ha W hW) (hid λW hW=>zjh c d b k hk hk2 hc hd hb W hW)
  (hid λW hW=>zk8 a b c k hk hk2 ha hb hc W hW) (hid λW hW=>zk8 a b d k hk hk2 ha hb hd W hW) (hid λW hW=>zk8 c d a k hk hk2 hc hd ha W hW) (hid λW hW=>zk8 c d b k hk hk2 hc hd hb W hW) w (hid hw)
end Go.Proofs.YtnjiiafnneillaaGreatDoor
namespace Go.Proofs.YtnjiiafnneillaaGreatDoor
open Go.RowKit Go.Shelf Lib Str Limb Geo
attribute [local go_sem] Oper.semAt_some
theorem yhq:(Tryz.prog.info? 32).map (λi=>(i.zero,i.size,i.bytes))=some (some (.agg #[St [],St []]),2,32):=by kernel_rfl
def zhq:List (List UInt8×List UInt8)->List Value
 |[]=>[]
 |p::r=>St p.1::St p.2::zhq r
theorem zom:∀(l:List (List UInt8×List UInt8)) (p:List UInt8×List UInt8),zhq (l++[p])=zhq l++[St p.1,St p.2]
 |[],_=>rfl
 |a::r,p=>by show St a.1::St a.2::zhq (r++[p])=_;rw[zom r p];rfl
theorem zrv:∀(l:List (List UInt8×List UInt8)) (k:Nat),k<l.length->(zhq l)[k*2]? =some (St (ptOf l k).1)/\(zhq l)[k*2+1]? =some (St (ptOf l k).2)
 |a::r,0,_=>⟨rfl,rfl⟩
 |a::r,k+1,h=>by
  have:=zrv r k (by simpa using h);rw[show(k+1)*2=k*2+1+1 by omega];exact this
def accT (ok:Nat->Bool) (x:Nat->List UInt8×List UInt8):Nat->List (List UInt8×List UInt8)
 |0=>[]
 |k+1=>if(ok k&&!(accT ok x k).contains (x k))=true then accT ok x k++[x k] else accT ok x k
theorem zho (ok:Nat->Bool) (x:Nat->List UInt8×List UInt8) (k:Nat):accT ok x (k+1)=if(ok k&&!(accT ok x k).contains (x k))=true then accT ok x k++[x k] else accT ok x k:=rfl
theorem zrw (ok:Nat->Bool) (x:Nat->List UInt8×List UInt8):∀k,(accT ok x k).length<=k
 |0=>zN _
 |k+1=>by
  have:=zrw ok x k;rw[accT];split
  ·simp;exact this
  ·omega
theorem yfw (l:List (List UInt8×List UInt8)) (p:List UInt8×List UInt8) (j:Nat) (hj:j<l.length):(l.take (j+1)).contains p=((l.take j).contains p||decide (ptOf l j=p)):=by
 unfold ptOf;rw[List.take_add_one,List.getElem?_eq_getElem hj];simp only[List.contains_eq_mem,Option.toList_some,List.mem_append,List.mem_singleton,Option.getD_some,Bool.decide_or];congr 1;rw[decide_eq_decide];exact eq_comm
structure LineS (w:zA) (x1 y1 x2 y2 x3 y3 x4 y4:List UInt8) (E:Nat) (X Y:Nat->List UInt8) (q:Option Addr) (m c:Nat) (acc:List (List UInt8×List UInt8)) (W:zA):Prop where
 four:FourS w x1 y1 x2 y2 x3 y3 x4 y4 W
 hE:w.heap.size+3<E
 ends:∀k,k<4->W.cell? ⟨E,k*2,none⟩=some (St (X k))/\W.cell? ⟨E,k*2+1,none⟩=some (St (Y k))
 own:W.ownsRow (w.heap.size+4) 32 2 (.slice q m c) acc.length (zhq acc)
 len:m=acc.length
 ne:(Value.slice q m c).ownBlock≠some E
theorem yeq {w:zA} {base:Nat} {e:TypeId} {s:Nat} {v:Value} {n:Nat} {xs:List Value} (h:w.ownsRow base e s v n xs):∃q c,v=.slice q n c:=by
 rcases h.2 with⟨rfl,rfl⟩|⟨g,cap,cur,rfl,_⟩
 ·exact⟨none,0,rfl⟩
 ·exact⟨_,_,rfl⟩
section
variable {w:zA} {x1 y1 x2 y2 x3 y3 x4 y4:List UInt8} {E:Nat} {X Y:Nat->List UInt8} {q:Option Addr} {m c:Nat} {acc:List (List UInt8×List UInt8)} {W:zA}
theorem LineS.next {W':zA} (h:LineS w x1 y1 x2 y2 x3 y3 x4 y4 E X Y q m c acc W) (hb:qL W W'):LineS w x1 y1 x2 y2 x3 y3 x4 y4 E X Y q m c acc W':=
 have ck:=zac hb
 ⟨h.four.next hb,h.hE,λk hk=>⟨ck.cell (h.ends k hk).1,ck.cell (h.ends k hk).2⟩,zcj ck h.own,h.len,h.ne⟩
theorem LineS.grow {Z:zA} {v':Value} {x:List UInt8×List UInt8} (h:LineS w x1 y1 x2 y2 x3 y3 x4 y4 E X Y q m c acc W) (hZ:W.grownBy Z (Value.slice q m c).ownBlock)
 (hz:Z.ownsRow (w.heap.size+4) 32 2 v' (acc.length+1) (zhq acc++[St x.1,St x.2])) (hat:v'.ownBlock=(Value.slice q m c).ownBlock\/v'.ownBlock=some W.heap.size):
 ∃q' c',v'=.slice q' (acc.length+1) c'/\LineS w x1 y1 x2 y2 x3 y3 x4 y4 E X Y q' (acc.length+1) c' (acc++[x]) Z:=by
 obtain⟨q',c',rfl⟩:=yeq hz;have hlt:∀g,(Value.slice q m c).ownBlock=some g->w.heap.size+4<=g:=λg e=>(h.own.lt g e).1;have hne:∀b,b<w.heap.size+4->some b≠(Value.slice q m c).ownBlock:=λb hb e=>by have:=hlt b e.symm;omega
 have hEw:E<W.heap.size:=zbe (h.ends 0 (by omega)).1;have hl:=h.four.lt;refine⟨q',c',rfl,⟨h.four.bel.grown hZ (by omega) (λg e=>by have:=hlt g e;omega),Nat.lt_of_lt_of_le hl hZ.size,?_,?_,?_,?_⟩,h.hE,λk hk=>⟨hZ.cell (h.ends k hk).1 (λe=>h.ne e.symm),hZ.cell (h.ends k hk).2 (λe=>h.ne e.symm)⟩,?_,by simp,?_⟩
 ·rw[hZ.block _ (by omega) (hne _ (by omega))];exact h.four.h1
 ·rw[hZ.block _ (by omega) (hne _ (by omega))];exact h.four.h2
 ·rw[hZ.block _ (by omega) (hne _ (by omega))];exact h.four.h3
 ·rw[hZ.block _ (by omega) (hne _ (by omega))];exact h.four.h4
 ·rw[zom,List.length_append];exact hz
 ·rcases hat with e|e<;>rw[e]
  ·exact h.ne
  ·intro e2;injection e2 with e2;omega
theorem LineS.at (h:LineS w x1 y1 x2 y2 x3 y3 x4 y4 E X Y q m c acc W) (k:Nat) (hk:k<acc.length):∃g,q=some ⟨g,0,none⟩/\W.cell? ⟨g,k*2,none⟩=some (St (ptOf acc k).1)/\W.cell? ⟨g,k*2+1,none⟩=some (St (ptOf acc k).2):=by
 obtain⟨h1,h2⟩:=zrv acc k hk;rcases h.own.2 with⟨_,e⟩|⟨g,cap,cur,e,_⟩
 ·omega
 ·cases e
  have hc:=h.own.cells (g:=g) rfl;have ha:∀j,(⟨g,0,none⟩:Addr).add j=⟨g,j,none⟩:=λj=>by unfold Addr.add;split<;>simp_all
  exact⟨g,rfl,by rw[<-ha];exact hc _ _ h1,by rw[<-ha];exact hc _ _ h2⟩
end
structure RndS (w:zA) (x1 y1 x2 y2 x3 y3 x4 y4:List UInt8) (E:Nat) (X Y:Nat->List UInt8) (q:Option Addr) (m c:Nat) (acc:List (List UInt8×List UInt8)) (B:Nat) (x y:List UInt8) (W:zA):Prop where
 line:LineS w x1 y1 x2 y2 x3 y3 x4 y4 E X Y q m c acc W
 bx:W.heap[B]? =some (.cells #[St x,St y] 32 (0,0))
section
variable {w:zA} {x1 y1 x2 y2 x3 y3 x4 y4 x y:List UInt8} {E B:Nat} {X Y:Nat->List UInt8} {q:Option Addr} {m c:Nat} {acc:List (List UInt8×List UInt8)} {W:zA}
theorem RndS.next {W':zA} (h:RndS w x1 y1 x2 y2 x3 y3 x4 y4 E X Y q m c acc B x y W) (hb:qL W W'):RndS w x1 y1 x2 y2 x3 y3 x4 y4 E X Y q m c acc B x y W':=
 ⟨h.line.next hb,(hb.block _ (Array.getElem?_eq_some_iff.1 h.bx).1).trans h.bx⟩
theorem RndS.bel (h:RndS w x1 y1 x2 y2 x3 y3 x4 y4 E X Y q m c acc B x y W):qL w W:=h.line.four.bel
theorem RndS.cx (h:RndS w x1 y1 x2 y2 x3 y3 x4 y4 E X Y q m c acc B x y W):W.cell? ⟨B,0,none⟩=some (St x)/\W.cell? ⟨B,1,none⟩=some (St y):=by have:=h.bx;simp[World.cell?,this]
end
theorem zo9 (x1 y1 x2 y2 x3 y3 x4 y4:List UInt8) (X Y:Nat->List UInt8) (o1 o2:Nat->Bool) (hX:Hid (∀k,k<4->(#[St x1,St y1,St x2,St y2,St x3,St y3,St x4,St y4]:Array Value)[k*2]? =some (St (X k))/\(#[St x1,St y1,St x2,St y2,St x3,St y3,St x4,St y4]:Array Value)[k*2+1]? =some (St (Y k))))
 (T1:Hid (qK 172 #[.agg #[St x1,St y1],.agg #[St x2,St y2],.agg #[St x3,St y3]] (.int .i64 0)))
 (T2:Hid (qK 172 #[.agg #[St x1,St y1],.agg #[St x2,St y2],.agg #[St x4,St y4]] (.int .i64 0)))
 (T3:Hid (qK 172 #[.agg #[St x3,St y3],.agg #[St x4,St y4],.agg #[St x1,St y1]] (.int .i64 0)))
 (T4:Hid (qK 172 #[.agg #[St x3,St y3],.agg #[St x4,St y4],.agg #[St x2,St y2]] (.int .i64 0)))
 (O1:Hid (∀k,k<4->qK 173 #[.agg #[St x1,St y1],.agg #[St x2,St y2],.agg #[St (X k),St (Y k)]] (.bool (o1 k))))
 (O2:Hid (∀k,k<4->qK 173 #[.agg #[St x3,St y3],.agg #[St x4,St y4],.agg #[St (X k),St (Y k)]] (.bool (o2 k))))
 (U1:Hid (∀k,k<4->qK 172 #[.agg #[St x1,St y1],.agg #[St x2,St y2],.agg #[St (X k),St (Y k)]] (.int .i64 0)))
 (U2:Hid (∀k,k<4->qK 172 #[.agg #[St x3,St y3],.agg #[St x4,St y4],.agg #[St (X k),St (Y k)]] (.int .i64 0)))
 (w:zA) (HW:Hid (Wd w)):
 qJ 91 #[.agg #[St x1,St y1],.agg #[St x2,St y2],.agg #[St x3,St y3],.agg #[St x4,St y4]] w (.int .i64 (min 2 ((accT (λk=>o1 k&&o2 k) (λk=>(X k,Y k)) 4).length:Int))):=by
 have HI:=hid (FourS.start w x1 y1 x2 y2 x3 y3 x4 y4);go_enter Tryz.func91,Tryz.ntmps91;go_wp21;refine zbl (λ_ W=>FourS w x1 y1 x2 y2 x3 y3 x4 y4 W) (by kernel_rfl) (by kernel_rfl) (HI.out.next (zM _ _).drew) ?_;refine qR (.agg #[St x1,St y1]) ?_ (hy:=λf W' hf h=>by obtain⟨i1,i2,i3,i4,i5,i6,i7,i8⟩:=h.cells';go_simp);refine qR (.agg #[St x2,St y2]) ?_ (hy:=λf W' hf h=>by obtain⟨i1,i2,i3,i4,i5,i6,i7,i8⟩:=h.cells';go_simp);refine qR (.agg #[St x3,St y3]) ?_ (hy:=λf W' hf h=>by obtain⟨i1,i2,i3,i4,i5,i6,i7,i8⟩:=h.cells';go_simp);simp only[zzQ]
 refine zar (.int .i64 0) (by rfl) (λf W' hf h C' hC'=>by
  go_simp;refine zzM (T1.out _ (HW.out.below h.bel)) λw' hb=>?_;exact⟨rfl,hC' _ (h.next hb)⟩) ?_
 refine qR (.agg #[St x1,St y1]) ?_ (hy:=λf W' hf h=>by obtain⟨i1,i2,i3,i4,i5,i6,i7,i8⟩:=h.cells';go_simp);refine qR (.agg #[St x2,St y2]) ?_ (hy:=λf W' hf h=>by obtain⟨i1,i2,i3,i4,i5,i6,i7,i8⟩:=h.cells';go_simp);simp only[zzQ];refine qR (.agg #[St x4,St y4]) ?_ (hy:=λf W' hf h=>by obtain⟨i1,i2,i3,i4,i5,i6,i7,i8⟩:=h.cells';go_simp);simp only[zzQ]
 refine zar (.int .i64 0) (by rfl) (λf W' hf h C' hC'=>by
  go_simp;refine zzM (T2.out _ (HW.out.below h.bel)) λw' hb=>?_;exact⟨rfl,hC' _ (h.next hb)⟩) ?_
 refine qR (.agg #[St x3,St y3]) ?_ (hy:=λf W' hf h=>by obtain⟨i1,i2,i3,i4,i5,i6,i7,i8⟩:=h.cells';go_simp);refine qR (.agg #[St x4,St y4]) ?_ (hy:=λf W' hf h=>by obtain⟨i1,i2,i3,i4,i5,i6,i7,i8⟩:=h.cells';go_simp);simp only[zzQ];refine qR (.agg #[St x1,St y1]) ?_ (hy:=λf W' hf h=>by obtain⟨i1,i2,i3,i4,i5,i6,i7,i8⟩:=h.cells';go_simp);simp only[zzQ]
 refine zar (.int .i64 0) (by rfl) (λf W' hf h C' hC'=>by
  go_simp;refine zzM (T3.out _ (HW.out.below h.bel)) λw' hb=>?_;exact⟨rfl,hC' _ (h.next hb)⟩) ?_
 refine qR (.agg #[St x3,St y3]) ?_ (hy:=λf W' hf h=>by obtain⟨i1,i2,i3,i4,i5,i6,i7,i8⟩:=h.cells';go_simp);refine qR (.agg #[St x4,St y4]) ?_ (hy:=λf W' hf h=>by obtain⟨i1,i2,i3,i4,i5,i6,i7,i8⟩:=h.cells';go_simp);simp only[zzQ];refine qR (.agg #[St x2,St y2]) ?_ (hy:=λf W' hf h=>by obtain⟨i1,i2,i3,i4,i5,i6,i7,i8⟩:=h.cells';go_simp);simp only[zzQ]
 refine zar (.int .i64 0) (by rfl) (λf W' hf h C' hC'=>by
  go_simp;refine zzM (T4.out _ (HW.out.below h.bel)) λw' hb=>?_;exact⟨rfl,hC' _ (h.next hb)⟩) ?_
 refine qR (.int .i64 0) ?_;refine qR (.int .i64 0) ?_;simp only[zzQ];refine qR (.int .i64 0) ?_;refine qR (.int .i64 0) ?_;simp only[zzQ];refine zck λf W1 hf h1=>?_;have HI1:=hid h1;clear hf h1 HI;obtain⟨i1,i2,i3,i4,i5,i6,i7,i8⟩:=HI1.out.cells';go_wp21;clear i1 i2 i3 i4 i5 i6 i7 i8;refine zzM (T1.out _ (HW.out.below HI1.out.bel)) λW2 hb=>?_;have HI2:=hid (HI1.out.next hb);clear hb HI1;obtain⟨i1,i2,i3,i4,i5,i6,i7,i8⟩:=HI2.out.cells';go_wp21;clear i1 i2 i3 i4 i5 i6 i7 i8;refine zzM (T2.out _ (HW.out.below HI2.out.bel)) λW3 hb=>?_;have HI3:=hid (HI2.out.next hb);clear hb HI2;obtain⟨i1,i2,i3,i4,i5,i6,i7,i8⟩:=HI3.out.cells';go_wp21;clear i1 i2 i3 i4 i5 i6 i7 i8;refine zzM (T3.out _ (HW.out.below HI3.out.bel)) λW4 hb=>?_;have HI4:=hid (HI3.out.next hb);clear hb HI3;obtain⟨i1,i2,i3,i4,i5,i6,i7,i8⟩:=HI4.out.cells';go_wp21;clear i1 i2 i3 i4 i5 i6 i7 i8;refine zzM (T4.out _ (HW.out.below HI4.out.bel)) λW5 hb=>?_;have HI5:=hid (HI4.out.next hb);clear hb HI4;have hba:qL W5 (W5.alloc (.cells #[] 32)):=(zM _ W5).alloc (zN _) _;obtain⟨i1,i2,i3,i4,i5,i6,i7,i8⟩:=HI5.out.cells';obtain⟨j1,j2,j3,j4,j5,j6,j7,j8⟩:=(HI5.out.next hba).cells';clear hba;go_wp2;obtain⟨W6,hW6⟩:=zzX ((W5.alloc (.cells #[] 32)).alloc (.cells #[St x1,St y1,St x2,St y2,St x3,St y3,St x4,St y4] 32));rw[<-hW6];clear i1 i2 i3 i4 i5 i6 i7 i8 j1 j2 j3 j4 j5 j6 j7 j8;have hS6:LineS w x1 y1 x2 y2 x3 y3 x4 y4 (W5.heap.size+1) X Y (some ⟨W5.heap.size,0,none⟩) 0 0 [] W6:=by
  have h5:=HI5.out;have hl:=h5.lt;have hb:qL W5 ((W5.alloc (.cells #[] 32)).alloc (.cells #[St x1,St y1,St x2,St y2,St x3,St y3,St x4,St y4] 32)):=((zM _ W5).alloc (zN _) _).alloc (by simp) _;have hn:=zG (W5.alloc (.cells #[] 32)) (.cells #[St x1,St y1,St x2,St y2,St x3,St y3,St x4,St y4] 32);rw[World.size_alloc] at hn;rw[hW6];refine⟨h5.next hb,by have:=h5.lt;omega,λk hk=>?_,(World.ownsRow_made W5 #[] 0 (show w.heap.size+4<=W5.heap.size by omega) (by decide) rfl).alloc _,rfl,?_⟩
  ·rw[zJ hn,zJ hn]
   exact hX.out k hk
  ·intro e;have e2:=Option.some.inj e;have e3:W5.heap.size=W5.heap.size+1:=e2;omega
 have HS6:=hid hS6;clear hS6 hW6 HI5;generalize W5.heap.size+1=E at*
 go_loopw [13,15] (λv i wr=>∃(k:Nat) (q:Option Addr) (c:Nat),k<=4/\i=.int .i64 (k:Int)/\v=.slice q (accT (λk=>o1 k&&o2 k) (λk=>(X k,Y k)) k).length c/\Hid (LineS w x1 y1 x2 y2 x3 y3 x4 y4 E X Y q (accT (λk=>o1 k&&o2 k) (λk=>(X k,Y k)) k).length c (accT (λk=>o1 k&&o2 k) (λk=>(X k,Y k)) k) wr))
  (λ_ i _=>4-(zL i).toNat)
 case atStart=>exact⟨0,_,0,by omega,rfl,rfl,HS6⟩
 case round=>
  obtain⟨k,q,c,hk,rfl,rfl,hS⟩:=hrel;clear HS6;by_cases hlt:k<4
  ·obtain⟨e0,e1⟩:=hS.out.ends k hlt
   have C1:=hid (O1.out k hlt);have C2:=hid (O2.out k hlt);have C3:=hid (U1.out k hlt);have C4:=hid (U2.out k hlt);have ha:=zho (λk=>o1 k&&o2 k) (λk=>(X k,Y k)) k;have HA:=hid ha;clear ha;obtain⟨acc,hacc⟩:=zzX (accT (λk=>o1 k&&o2 k) (λk=>(X k,Y k)) k);have hal:acc.length<=4:=by rw[hacc];exact Nat.le_trans (zrw _ _ k) hk
   rw[<-hacc] at hS HA⊢;have HACC:=hid hacc;clear hacc;generalize X k=x at*
   generalize Y k=y at*
   generalize o1 k=b1 at*
   generalize o2 k=b2 at*
   have hba:qL wr (wr.alloc (.cells #[St x,St y] 32)):=(zM _ wr).alloc (zN _) _;have hx0:(wr.alloc (.cells #[St x,St y] 32)).heap[wr.heap.size]? =some (.cells #[St x,St y] 32 (0,0)):=zG _ _;have R1:=hid (⟨hS.out.next hba,hx0⟩:RndS w x1 y1 x2 y2 x3 y3 x4 y4 E X Y q acc.length c acc wr.heap.size x y (wr.alloc (.cells #[St x,St y] 32)));obtain⟨i1,i2,i3,i4,i5,i6,i7,i8⟩:=R1.out.line.four.cells';clear hba hx0;go_wp21;clear i1 i2 i3 i4 i5 i6 i7 i8 e0 e1;refine zzM (C1.out _ (HW.out.below R1.out.bel)) λw2 hb2=>?_;have R2:=hid (R1.out.next hb2);clear hb2 R1 C1;generalize wr.heap.size=B at*
   cases b1
   case false=>
    go_wp21;go_roundw
    case rel=>exact⟨k+1,q,c,by omega,by go_num,by rw[HA.out,if_neg (by simp)],by rw[HA.out,if_neg (by simp)];exact hid R2.out.line⟩
    case measure=>simp[zL];omega
   obtain⟨i1,i2,i3,i4,i5,i6,i7,i8⟩:=R2.out.line.four.cells';obtain⟨e0,e1⟩:=R2.out.cx;go_wp21;clear i1 i2 i3 i4 i5 i6 i7 i8 e0 e1;refine zzM (C2.out _ (HW.out.below R2.out.bel)) λw3 hb3=>?_;have R3:=hid (R2.out.next hb3);clear hb3 R2 C2;cases b2
   case false=>
    go_wp21;go_roundw
    case rel=>exact⟨k+1,q,c,by omega,by go_num,by rw[HA.out,if_neg (by simp)],by rw[HA.out,if_neg (by simp)];exact hid R3.out.line⟩
    case measure=>simp[zL];omega
   obtain⟨i1,i2,i3,i4,i5,i6,i7,i8⟩:=R3.out.line.four.cells';obtain⟨e0,e1⟩:=R3.out.cx;go_wp21;clear i1 i2 i3 i4 i5 i6 i7 i8 e0 e1;refine zzM (C3.out _ (HW.out.below R3.out.bel)) λw4 hb4=>?_;have R4:=hid (R3.out.next hb4);clear hb4 R3 C3;obtain⟨i1,i2,i3,i4,i5,i6,i7,i8⟩:=R4.out.line.four.cells';obtain⟨e0,e1⟩:=R4.out.cx;go_wp21;clear i1 i2 i3 i4 i5 i6 i7 i8 e0 e1;refine zzM (C4.out _ (HW.out.below R4.out.bel)) λw5 hb5=>?_;have R5:=hid (R4.out.next hb5);clear hb5 R4 C4;go_wp2;go_loopw [17,18] (λv i wr=>∃(j:Nat),j<=acc.length/\i=.int .i64 (j:Int)/\v=.bool ((acc.take j).contains (x,y))/\Hid (RndS w x1 y1 x2 y2 x3 y3 x4 y4 E X Y q acc.length c acc B x y wr))
    (λ_ i _=>acc.length-(zL i).toNat)
   case atStart=>exact⟨0,zR _,rfl,by simp,R5⟩
   case round=>
    obtain⟨j,hj,rfl,rfl,hR⟩:=hrel;clear R5;by_cases hjl:j<acc.length
    ·have HT:=hid (yfw acc (x,y) j hjl)
     obtain⟨g,rfl,g0,g1⟩:=hR.out.line.at j hjl;obtain⟨e0,e1⟩:=hR.out.cx;generalize ptOf acc j=pt at*
     obtain⟨px,py⟩:=pt;generalize hC:(acc.take j).contains (x,y)=is at*
     have HC:=hid hC;clear hC;dsimp only at g0 g1;have hnx:∀n,RndS w x1 y1 x2 y2 x3 y3 x4 y4 E X Y (some ⟨g,0,none⟩) acc.length c acc B x y (wr.drewN n):=λn=>hR.out.next (zzD (zM _ _) _);have HNX:=hid hnx;clear hnx;cases is
     case true=>
      go_wp21;go_quiet (fail);go_wp21;go_roundw
      case rel=>exact⟨j+1,by omega,by go_num,by rw[HT.out];rfl,hid (HNX.out _)⟩
      case measure=>simp[zL];omega
     case false=>
      by_cases hx:px=x
      ·by_cases hy:py=y
       ·subst hx;subst hy
        go_wp21;go_quiet (fail);go_wp21;go_roundw
        case rel=>exact⟨j+1,by omega,by go_num,by rw[HT.out];simp,hid (HNX.out _)⟩
        case measure=>simp[zL];omega
       ·have HT2:=hid (decide_eq_false (λe=>hy (Prod.ext_iff.1 e).2):decide ((px,py)=(x,y))=false)
        subst hx;go_wp21;go_quiet (fail);go_wp21;go_roundw
        case rel=>exact⟨j+1,by omega,by go_num,by rw[HT.out,HT2.out];rfl,hid (HNX.out _)⟩
        case measure=>simp[zL];omega
      ·have HT2:=hid (decide_eq_false (λe=>hx (Prod.ext_iff.1 e).1):decide ((px,py)=(x,y))=false)
       go_wp21;go_quiet (fail);go_wp21;go_roundw
       case rel=>exact⟨j+1,by omega,by go_num,by rw[HT.out,HT2.out];rfl,hid (HNX.out _)⟩
       case measure=>simp[zL];omega
    ·obtain rfl:acc.length=j:=by omega
     rw[List.take_length];generalize hC:acc.contains (x,y)=is at*
     cases is
     case true=>
      go_wp21;go_roundw
      case rel=>exact⟨k+1,q,c,by omega,by go_num,by rw[HA.out,if_neg (by simp)],by rw[HA.out,if_neg (by simp)];exact hid hR.out.line⟩
      case measure=>simp[zL];omega
     case false=>
      obtain⟨i0,hi,hz0,hz1,hz2⟩:=info_parts yhq;obtain⟨e0,e1⟩:=hR.out.cx;have HD:=hid (⟨hi,hz0,hz1,hz2⟩:_/\_/\_/\_);clear hi hz0 hz1 hz2;have hba:qL wr (wr.alloc (.cells #[St x,St y] 32)):=(zM _ wr).alloc (zN _) _;have hla:=hR.out.line.next hba;have HLA:=hid (⟨hla,(by have:=hla.four.lt;omega:w.heap.size+4<=(wr.alloc (.cells #[St x,St y] 32)).heap.size)⟩:_/\_);clear hba hla;go_wp2_with (at_builtin;refine wpList_append_own_at _ rfl _ _ 22 rfl (w.heap.size+4) 32 i0 (.agg #[St [],St []]) 2 32 Tryz.underlying22 HD.out.1 HD.out.2.1 HD.out.2.2.1 HD.out.2.2.2 rfl (by decide) (.slice q acc.length c) acc.length (zhq acc) rfl HLA.out.1.own ⟨wr.heap.size,0,none⟩ 1 1 [St x,St y] rfl rfl (zoq _ _ _ _) (zm4 _ _) (by unfold maxLen;omega) (by omega) HLA.out.2 ?_);intro v' w1 hown' hgrow hnil hat
      obtain⟨q',c',rfl,hl'⟩:=HLA.out.1.grow (x:=(x,y)) hgrow hown' (by simpa using hat);have HL:=hid hl';clear hown' hgrow hnil hat hl' HLA;go_wp21;go_roundw
      case rel=>exact⟨k+1,q',c',by omega,by go_num,by rw[HA.out,if_pos (by simp)];simp,by rw[HA.out,if_pos (by simp),List.length_append];exact HL⟩
      case measure=>simp[zL];omega
  ·obtain rfl:4=k:=by omega
   have HB:=hid hS.out.four.bel;clear hS;generalize hr:(accT (λk=>o1 k&&o2 k) (λk=>(X k,Y k)) 4).length=r at*
   have HR:=hid hr;clear hr;go_wp21;go_ret;exact⟨by rw[HR.out];rfl,HB.out⟩
def ChkP (w:zA) (l:List Pt) (e:Ending) (w':zA):Prop:=∃r:Int,e=.returned (.int .i64 r)/\(r=0↔zc9 l/\zc8 l)/\zB w.heap.size w w'
theorem ChkP.yes {w w':zA} {l:List Pt} (h:zc9 l/\zc8 l) (hb:qL w w'):ChkP w l (.returned (.int .i64 0)) w':=⟨0,rfl,⟨λ_=>h,λ_=>rfl⟩,hb⟩
theorem ChkP.no {w w':zA} {l:List Pt} {r:Int} (hr:r≠0) (h:¬(zc9 l/\zc8 l)) (hb:qL w w'):ChkP w l (.returned (.int .i64 r)) w':=⟨r,rfl,⟨λk=>absurd k hr,λk=>absurd k h⟩,hb⟩
theorem zno (k n:Nat):(((k:Int)+1).tmod (n:Int))=(((k+1)%n:Nat):Int):=by
 rw[show((k:Int)+1)=((k+1:Nat):Int) by omega,Int.tmod_eq_emod_of_nonneg (by omega),<-Int.natCast_emod]
theorem zgj {p:Option Addr} {l:List Pt} {W:zA} (h:RowPts p l W) (k:Nat) (h0:0<l.length):∃b off,p=some ⟨b,off,none⟩/\W.cell? ⟨b,off+k%l.length*2,none⟩=some (St (numS (cor l k).x))/\W.cell? ⟨b,off+k%l.length*2+1,none⟩=some (St (numS (cor l k).y)):=by
 obtain⟨b,off,e,h1,h2⟩:=h (k%l.length) (zP _ h0);rw[zlb l _ (zP _ h0),zj4] at h1 h2;exact⟨b,off,e,h1,h2⟩
theorem zvv {a b:Pt} (h:numS a.x=numS b.x/\numS a.y=numS b.y):a=b:=by
 obtain⟨a1,a2⟩:=a;obtain⟨b1,b2⟩:=b;have h1:=zh0 h.1;have h2:=zh0 h.2;simp at h1 h2;rw[h1,h2]
theorem zx4 (n i k:Nat) (hik:i<k) (hk:k<n):(((k:Int)==(i:Int)+1)=true/\zft n i k=1)\/(((k:Int)==(i:Int)+1)=false/\((i:Int)==0)=false/\zft n i k=0)\/
 (((k:Int)==(i:Int)+1)=false/\((i:Int)==0)=true/\((k:Int)==(n:Int)-1)=true/\zft n i k=1)\/(((k:Int)==(i:Int)+1)=false/\((i:Int)==0)=true/\((k:Int)==(n:Int)-1)=false/\zft n i k=0):=by
 unfold zft;by_cases h1:k=i+1
 ·exact .inl ⟨by rw[beq_iff_eq];omega,if_pos (.inl h1)⟩
 ·have b1:((k:Int)==(i:Int)+1)=false:=by rw[beq_eq_false_iff_ne];omega
  by_cases h2:i=0
  ·have b2:((i:Int)==0)=true:=by rw[beq_iff_eq];omega
   by_cases h3:k=n-1
   ·exact .inr (.inr (.inl ⟨b1,b2,by rw[beq_iff_eq];omega,if_pos (.inr ⟨h2,h3⟩)⟩))
   ·exact .inr (.inr (.inr ⟨b1,b2,by rw[beq_eq_false_iff_ne];omega,if_neg (λh=>h.elim h1 (λh=>h3 h.2))⟩))
  ·exact .inr (.inl ⟨b1,by rw[beq_eq_false_iff_ne];omega,if_neg (λh=>h.elim h1 (λh=>h2 h.1))⟩)
theorem zs8 (p:Option Addr) (cap:Nat) (l:List Pt) (h3:3<=l.length) (hlen:l.length<=4096)
 (CP:Hid (∀k,k<l.length->qK 90 #[.agg #[St (numS (cor l k).x),St (numS (cor l k).y)]] (.int .i64 0)))
 (SG:Hid (∀i k,i<l.length->k<l.length->qK 91 #[.agg #[St (numS (cor l i).x),St (numS (cor l i).y)],.agg #[St (numS (cor l (i+1)).x),St (numS (cor l (i+1)).y)],.agg #[St (numS (cor l k).x),St (numS (cor l k).y)],.agg #[St (numS (cor l (k+1)).x),St (numS (cor l (k+1)).y)]] (.int .i64 (meet (cor l i) (cor l (i+1)) (cor l k) (cor l (k+1))))))
 (w:zA) (HW:Hid (Wd w)) (HP:Hid (RowPts p l w)):
 zC zF 26 #[.slice p l.length cap] w (ChkP w l):=by
 obtain⟨n,hn⟩:=zzX l.length;obtain⟨b,off,rfl,_⟩:=zgj HP.out 0 (by omega);have hc:=λ(W:zA) (hb:qL w W) (k:Nat)=>zgj (HP.out.keep (zac hb)) k (by omega);have HC:Hid (∀W:zA,qL w W->∀k,W.cell? ⟨b,off+k%n*2,none⟩=some (St (numS (cor l k).x))/\W.cell? ⟨b,off+k%n*2+1,none⟩=some (St (numS (cor l k).y))):=hid λW hb k=>by
  obtain⟨b',off',e,h1,h2⟩:=hc W hb k;obtain⟨rfl,rfl⟩:b=b'/\off=off':=by simpa using e
  rw[hn];exact⟨h1,h2⟩
 rw[<-hn] at h3 hlen⊢;have HN:=hid hn;clear hn hc HP;have hn1:decide ((4096:Int)<(n:Int))=false:=decide_eq_false (by omega);have hn2:decide ((n:Int)<3)=false:=decide_eq_false (by omega);go_enter Tryz.func26,Tryz.ntmps26;go_wp2;go_loopw [4] (λi wr=>∃(k:Nat),k<=n/\i=.int .i64 (k:Int)/\Hid (qL w wr))
  (λi _=>n-(zL i).toNat)
 case atStart=>exact⟨0,zR _,rfl,zM _ _⟩
 case round=>
  clear hn1 hn2;obtain⟨k,hk,rfl,hB⟩:=hrel;by_cases hlt:k<n
  ·obtain⟨c0,c1⟩:=HC.out wr hB.out k
   have hcp:=hid (CP.out k (by rw[<-HN.out];exact hlt) wr (HW.out.below hB.out));rw[zQ hlt] at c0 c1;generalize numS (cor l k).x=x at*
   generalize numS (cor l k).y=y at*
   go_wp2_with fail;refine zzM hcp.out λw2 hb2=>?_;have hB2:=hid (hB.out.trans (hb2.mono hB.out.size));clear hb2 hcp;go_wp2_with fail;go_roundw
   case rel=>exact⟨k+1,by omega,by go_num,hB2⟩
   case measure=>simp[zL];omega
  ·obtain rfl:n=k:=by omega
   have hB0:=hid hB.out;clear hB CP;go_wp2_with fail;go_loopw [6] (λi wr=>∃(k:Nat),k<=n/\i=.int .i64 (k:Int)/\Hid (qL w wr)/\Hid (∀i,i<k->cor l i≠cor l (i+1)))
    (λi _=>n-(zL i).toNat)
   case atStart=>exact⟨0,zR _,rfl,hB0,λi h=>absurd h (by omega)⟩
   case round=>
    obtain⟨k,hk,rfl,hB,hS⟩:=hrel;clear hB0;by_cases hlt:k<n
    ·obtain⟨c0,c1⟩:=HC.out wr hB.out k
     obtain⟨d0,d1⟩:=HC.out wr hB.out (k+1);have ht:=zno k n;have hn0:¬n=0:=by omega
     have hwr:IntKind.i64.wrap ((k:Int)+1)=(k:Int)+1:=zI _ ⟨by omega,by omega⟩;have hkk:(k+1)%n<n:=zP _ (by omega);rw[zQ hlt] at c0 c1;generalize (k+1)%n=k' at*
     have HSM:Hid (numS (cor l k).x=numS (cor l (k+1)).x/\numS (cor l k).y=numS (cor l (k+1)).y->cor l k=cor l (k+1)):=hid zvv;have HDF:Hid (cor l k=cor l (k+1)->numS (cor l k).x=numS (cor l (k+1)).x/\numS (cor l k).y=numS (cor l (k+1)).y):=hid λe=>by rw[e];exact⟨rfl,rfl⟩
     have HQ:=hid λm=>hB.out.trans ((zzD (zM _ wr) m).mono hB.out.size);generalize numS (cor l k).x=x at*
     generalize numS (cor l k).y=y at*
     generalize numS (cor l (k+1)).x=x' at*
     generalize numS (cor l (k+1)).y=y' at*
     by_cases hx:x=x'
     ·by_cases hy:y=y'
      ·subst hx;subst hy
       have HE:=hid (HSM.out ⟨rfl,rfl⟩);go_wp2_with fail;go_quiet (fail);go_wp2_with fail;go_ret;exact ChkP.no (by decide) (λh=>h.1 k (by rw[<-HN.out];exact hlt) HE.out) (HQ.out _)
      ·have HE:=hid (λi (hi:i<k+1)=>(by
        by_cases e:i=k
        ·subst e;exact λe=>hy (HDF.out e).2
        ·exact hS.out i (by omega):cor l i≠cor l (i+1)))
       subst hx;go_wp2_with fail;go_quiet (fail);go_wp2_with fail;go_roundw
       case rel=>exact⟨k+1,by omega,by go_num,hid (HQ.out _),HE⟩
       case measure=>simp[zL];omega
     ·have HE:=hid (λi (hi:i<k+1)=>(by
       by_cases e:i=k
       ·subst e;exact λe=>hx (HDF.out e).1
       ·exact hS.out i (by omega):cor l i≠cor l (i+1)))
      go_wp2_with fail;go_quiet (fail);go_wp2_with fail;go_roundw
      case rel=>exact⟨k+1,by omega,by go_num,hid (HQ.out _),HE⟩
      case measure=>simp[zL];omega
    ·obtain rfl:n=k:=by omega
     have hS0:=hid (λi hi=>hS.out i (by rw[HN.out];exact hi):zc9 l);have hB0:=hid hB.out;clear hB hS;go_wp2_with fail;go_loopw [7] (λi wr=>∃(k:Nat),k<=n/\i=.int .i64 (k:Int)/\Hid (qL w wr)/\Hid (∀i k',i<k->i<k'->k'<l.length->okS2 l i k'))
      (λi _=>n-(zL i).toNat)
     case atStart=>exact⟨0,zR _,rfl,hB0,λi k' h=>absurd h (by omega)⟩
     case round=>
      obtain⟨i,hi,rfl,hB,hS⟩:=hrel;clear hB0;by_cases hin:i<n
      ·have hwr:IntKind.i64.wrap ((i:Int)+1)=(i:Int)+1:=zI _ ⟨by omega,by omega⟩
       go_wp2_with fail;go_loopw [8] (λv wr=>∃(k:Nat),i<k/\k<=n/\v=.int .i64 (k:Int)/\Hid (qL w wr)/\Hid (∀k',i<k'->k'<k->okS2 l i k'))
        (λv _=>n-(zL v).toNat)
       case atStart=>exact⟨i+1,by omega,by omega,by go_num,hB,λk' h h2=>absurd h2 (by omega)⟩
       case round=>
        obtain⟨k,hik,hk,rfl,hB4,hS4⟩:=hrel;by_cases hkn:k<n
        ·have ht:=zno i n;have ht2:=zno k n
         have hn0:¬n=0:=by omega
         have hwk:IntKind.i64.wrap ((k:Int)+1)=(k:Int)+1:=zI _ ⟨by omega,by omega⟩;have hwn:IntKind.i64.wrap ((n:Int)-1)=(n:Int)-1:=zI _ ⟨by omega,by omega⟩;have hi':(i+1)%n<n:=zP _ (by omega);have hk':(k+1)%n<n:=zP _ (by omega);have hcs:=HC.out;have HCi:=hid λW h=>hcs W h i;have HCj:=hid λW h=>hcs W h (i+1);have HCk:=hid λW h=>hcs W h k;have HCm:=hid λW h=>hcs W h (k+1);rw[zQ hin] at HCi;rw[zQ hkn] at HCk;have HSG:=hid (SG.out i k (by rw[<-HN.out];exact hin) (by rw[<-HN.out];exact hkn));clear hcs;generalize (i+1)%n=i' at*
         generalize (k+1)%n=k' at*
         generalize hm:meet (cor l i) (cor l (i+1)) (cor l k) (cor l (k+1))=m at*
         have HM:=hid (show meet (cor l i) (cor l (i+1)) (cor l k) (cor l (k+1))=m from hm);clear hm;generalize numS (cor l i).x=xi at HCi HSG;generalize numS (cor l i).y=yi at HCi HSG;generalize numS (cor l (i+1)).x=xj at HCj HSG;generalize numS (cor l (i+1)).y=yj at HCj HSG;generalize numS (cor l k).x=xk at HCk HSG;generalize numS (cor l k).y=yk at HCk HSG;generalize numS (cor l (k+1)).x=xm at HCm HSG;generalize numS (cor l (k+1)).y=ym at HCm HSG;obtain⟨bv,hbv⟩:∃bv,(m !=zft n i k)=bv:=⟨_,rfl⟩;have HO:Hid (bv=false->okS2 l i k):=hid λe=>by
          have h1:meet (cor l i) (cor l (i+1)) (cor l k) (cor l (k+1))=m:=HM.out;rw[e] at hbv;unfold okS2;rw[h1,<-HN.out];simpa using hbv
         have HF:Hid (bv=true->¬okS2 l i k):=hid λe=>by
          have h1:meet (cor l i) (cor l (i+1)) (cor l k) (cor l (k+1))=m:=HM.out;rw[e] at hbv;unfold okS2;rw[h1,<-HN.out];simpa using hbv
         clear HC SG HM;rcases zx4 n i k hik hkn with⟨f1,hv⟩|⟨f1,f2,hv⟩|⟨f1,f2,f3,hv⟩|⟨f1,f2,f3,hv⟩
         all_goals
          rw[hv] at hbv;have HV:=hid hbv;clear hbv;go_wp2_with fail;refine zbl (λ_ W=>qL w W) (by kernel_rfl) (by kernel_rfl) hB4.out.drew ?_;refine qR (.slice (some ⟨b,off,none⟩) n cap) ?_;refine qR (.int .i64 (i:Int)) ?_;refine qR (.pointer (some ⟨b,off+i*2,none⟩)) ?_;simp only[zzQ];refine qR (.agg #[St xi,St yi]) ?_ (hy:=λf W' hf h=>by obtain⟨c0,c1⟩:=HCi.out _ h;go_simp);refine qR (.slice (some ⟨b,off,none⟩) n cap) ?_;refine qR (.int .i64 (i:Int)) ?_;simp only[zzQ];refine qR (.int .i64 ((i:Int)+1)) ?_;refine qR (.int .i64 (n:Int)) ?_;refine qR (.int .i64 (i':Int)) ?_;simp only[zzQ];refine qR (.pointer (some ⟨b,off+i'*2,none⟩)) ?_;refine qR (.agg #[St xj,St yj]) ?_ (hy:=λf W' hf h=>by obtain⟨c0,c1⟩:=HCj.out _ h;go_simp);refine qR (.slice (some ⟨b,off,none⟩) n cap) ?_;simp only[zzQ];refine qR (.int .i64 (k:Int)) ?_;refine qR (.pointer (some ⟨b,off+k*2,none⟩)) ?_;refine qR (.agg #[St xk,St yk]) ?_ (hy:=λf W' hf h=>by obtain⟨c0,c1⟩:=HCk.out _ h;go_simp);simp only[zzQ];refine qR (.slice (some ⟨b,off,none⟩) n cap) ?_;refine qR (.int .i64 (k:Int)) ?_;refine qR (.int .i64 ((k:Int)+1)) ?_;simp only[zzQ];refine qR (.int .i64 (n:Int)) ?_;refine qR (.int .i64 (k':Int)) ?_;refine qR (.pointer (some ⟨b,off+k'*2,none⟩)) ?_;simp only[zzQ]
          refine qR (.agg #[St xm,St ym]) ?_ (hy:=λf W' hf h=>by obtain⟨c0,c1⟩:=HCm.out _ h;go_simp);simp only[zzQ]
          refine zar (.int .i64 m) (by rfl) (λf W' hf h C' hC'=>by
           go_simp;refine zzM (HSG.out _ (HW.out.below h)) λw' hb=>?_;exact⟨rfl,hC' _ (h.trans (hb.mono h.size))⟩) ?_
          refine qR (.int .i64 (zft n i k)) ?_;refine qR (.bool bv) ?_ (hy:=λf W' hf h=>by have h0:=HV.out;go_simp);simp only[zzQ];refine zck λf W5 hf h5=>?_;have HB5:=hid h5;clear hf h5;cases bv
          case false=>
           go_wp2_with fail;go_roundw
           case rel=>exact⟨k+1,by omega,by omega,by go_num,HB5,λk' h1 h2=>(by
            by_cases e:k'=k
            ·subst e;exact HO.out (by trivial)
            ·exact hS4.out k' h1 (by omega))⟩
           case measure=>simp[zL];omega
          case true=>
           go_wp2_with fail;go_ret;exact ChkP.no (by decide) (λh=>HF.out (by trivial) (h.2 i k hik (by rw[<-HN.out];exact hkn))) HB5.out
        ·obtain rfl:n=k:=by omega
         go_wp2_with fail;go_roundw
         case rel=>exact⟨i+1,by omega,by go_num,hB4,λi' k' h1 h2 h3=>(by
          by_cases e:i'=i
          ·subst e;exact hS4.out k' h2 (by rw[HN.out];exact h3)
          ·exact hS.out i' k' (by omega) h2 h3)⟩
         case measure=>simp[zL];omega
      ·obtain rfl:n=i:=by omega
       have hS1:=hid (λi k h1 h2=>hS.out i k (by rw[HN.out];omega) h1 h2:zc8 l);go_wp2_with fail;go_ret;exact ChkP.yes ⟨hS0.out,hS1.out⟩ hB.out
end Go.Proofs.YtnjiiafnneillaaGreatDoor
namespace Go.Proofs.YtnjiiafnneillaaGreatDoor
open Go.RowKit Go.Shelf Lib Str Limb Geo
def endP (a b c d:Pt) (k:Nat):Pt:=[a,b,c,d][k]?.getD a
theorem yfx {p q:Pt}:((numS p.x,numS p.y)=(numS q.x,numS q.y))↔p=q:=⟨λh=>zvv ⟨(Prod.ext_iff.1 h).1,(Prod.ext_iff.1 h).2⟩,λh=>by rw[h]⟩
theorem yg3 (l:List Pt) (p:Pt):(txt l).contains (numS p.x,numS p.y)=l.contains p:=by
 unfold txt;rw[List.contains_eq_mem,List.contains_eq_mem,decide_eq_decide,List.mem_map];exact⟨λ⟨q,hq,e⟩=>yfx.1 e▸hq,λh=>⟨p,h,rfl⟩⟩
theorem yfy (P:Pt->Bool) (a b c d:Pt):(accT (λk=>P (endP a b c d k)) (λk=>(numS (endP a b c d k).x,numS (endP a b c d k).y)) 4).length=(uniq P [] [a,b,c,d]).length:=by
 have step:∀(acc:List Pt) (p:Pt),(if(P p&&!(txt acc).contains (numS p.x,numS p.y))=true then txt acc++[(numS p.x,numS p.y)] else txt acc)=txt (if(P p&&!acc.contains p)=true then acc++[p] else acc):=by
  intro acc p;rw[yg3];split
  ·unfold txt;simp
  ·rfl
 have e:accT (λk=>P (endP a b c d k)) (λk=>(numS (endP a b c d k).x,numS (endP a b c d k).y)) 4=txt (uniq P [] [a,b,c,d]):=by
  rw[zho,zho,zho,zho];simp only[uniq];rw[show accT (λk=>P (endP a b c d k)) (λk=>(numS (endP a b c d k).x,numS (endP a b c d k).y)) 0=txt [] from rfl];rw[show endP a b c d 0=a from rfl,show endP a b c d 1=b from rfl,show endP a b c d 2=c from rfl,show endP a b c d 3=d from rfl];rw[step,step,step,step]
 rw[e,zce]
theorem yg4 (a b c d:Pt) (k:Nat) (hk:0<k) (hk2:8*k+4<=300) (ha:szP a k) (hb:szP b k) (hc:szP c k) (hd:szP d k) (w:zA) (hw:Wd w):
 qJ 91 #[ptV a,ptV b,ptV c,ptV d] w (.int .i64 (meet a b c d)):=by
 by_cases h0:turn a b c=0/\turn a b d=0/\turn c d a=0/\turn c d b=0
 ·obtain⟨t1,t2,t3,t4⟩:=h0
  have he:∀j,j<4->szP (endP a b c d j) k/\turn a b (endP a b c d j)=0/\turn c d (endP a b c d j)=0:=by
   intro j hj
   match j,hj with
   |0,_=>exact⟨ha,ze3 _ _,t3⟩
   |1,_=>exact⟨hb,zec _ _,t4⟩
   |2,_=>exact⟨hc,t1,ze3 _ _⟩
   |3,_=>exact⟨hd,t2,zec _ _⟩
  have T:∀p q r:Pt,szP p k->szP q k->szP r k->turn p q r=0->qK 172 #[ptV p,ptV q,ptV r] (.int .i64 0):=λp q r hp hq hr h W hW=>by
   rw[<-h];exact zjh p q r k hk hk2 hp hq hr W hW
  have hv:meet a b c d=min 2 ((accT (λk=>onB a b (endP a b c d k)&&onB c d (endP a b c d k)) (λk=>(numS (endP a b c d k).x,numS (endP a b c d k).y)) 4).length:Int):=by
   rw[yfy (λp=>onB a b p&&onB c d p),<-zmy];unfold zn2;rw[if_pos ⟨t1,t2,t3,t4⟩];congr 3;have:∀(l acc:List Pt),(∀p∈l,turn a b p=0/\turn c d p=0)->uniq (λx=>decide (onR a b x)&&decide (onR c d x)&&decide (turn a b x=0)&&decide (turn c d x=0)) acc l=uniq (λp=>onB a b p&&onB c d p) acc l:=by
    intro l
    induction l with
    |nil=>intro acc _;rfl
    |cons x r ih=>
     intro acc h;obtain⟨z1,z2⟩:=h x (by simp);have e1:onB a b x=decide (onR a b x):=by rw[Bool.eq_iff_iff,zo8,decide_eq_true_iff]
     have e2:onB c d x=decide (onR c d x):=by rw[Bool.eq_iff_iff,zo8,decide_eq_true_iff]
     rw[uniq,uniq,ih _ (λp hp=>h p (by simp[hp]))];simp only[e1,e2,z1,z2,decide_true,Bool.and_true]
   refine this _ _ λp hp=>?_;simp at hp;rcases hp with rfl|rfl|rfl|rfl
   ·exact(he 0 (by omega)).2
   ·exact(he 1 (by omega)).2
   ·exact(he 2 (by omega)).2
   ·exact(he 3 (by omega)).2
  rw[hv];exact zo9 _ _ _ _ _ _ _ _ (λk=>numS (endP a b c d k).x) (λk=>numS (endP a b c d k).y) (λk=>onB a b (endP a b c d k)) (λk=>onB c d (endP a b c d k))
   (hid λj hj=>by
     match j,hj with
     |0,_|1,_|2,_|3,_=>exact⟨rfl,rfl⟩)
   (hid λW hW=>T a b c ha hb hc t1 W hW) (hid λW hW=>T a b d ha hb hd t2 W hW) (hid λW hW=>T c d a hc hd ha t3 W hW) (hid λW hW=>T c d b hc hd hb t4 W hW)
   (hid λj hj W hW=>zk8 a b (endP a b c d j) k hk hk2 ha hb (he j hj).1 W hW) (hid λj hj W hW=>zk8 c d (endP a b c d j) k hk hk2 hc hd (he j hj).1 W hW)
   (hid λj hj W hW=>T a b (endP a b c d j) ha hb (he j hj).1 (he j hj).2.1 W hW) (hid λj hj W hW=>T c d (endP a b c d j) hc hd (he j hj).1 (he j hj).2.2 W hW) w (hid hw)
 ·exact yfv a b c d k hk hk2 ha hb hc hd h0 w hw
theorem yer (p:Option Addr) (cap:Nat) (l:List Pt) (h3:3<=l.length) (hlen:l.length<=4096) (hz:∀i,szP (cor l i) 36) (w:zA) (hw:Wd w) (hp:RowPts p l w):
 zC zF 26 #[.slice p l.length cap] w (ChkP w l):=
 zs8 p cap l h3 hlen (hid λk _ W hW=>yeo (cor l k) (hz k) W hW) (hid λi k _ _ W hW=>yg4 _ _ _ _ 36 (by omega) (by omega) (hz _) (hz _) (hz _) (hz _) W hW) w (hid hw) (hid hp)
end Go.Proofs.YtnjiiafnneillaaGreatDoor
namespace Go.Proofs.YtnjiiafnneillaaGreatDoor
open Go.RowKit Go.Shelf Lib Str Limb Geo
attribute [local go_sem] Oper.semAt_some
def OnlyP (w:zA) (P:Prop) (e:Ending) (w':zA):Prop:=∃b:Bool,e=.returned (.bool b)/\(b=true->P)/\zB w.heap.size w w'
theorem OnlyP.no {w w':zA} {P:Prop} (hb:qL w w'):OnlyP w P (.returned (.bool false)) w':=⟨false,rfl,λh=>(by cases h),hb⟩
theorem OnlyP.yes {w w':zA} {P:Prop} (h:P) (hb:qL w w'):OnlyP w P (.returned (.bool true)) w':=⟨true,rfl,λ_=>h,hb⟩
theorem zpn (p:Option Addr) (cap n:Nat) (hn:decide ((n:Int)<=10)=true) (G H:Prop) (w:zA)
 (S:Hid (zC zF 25 #[.slice p n cap] w (YesP w G)))
 (C:Hid (G->∀W:zA,qL w W->zC zF 26 #[.slice p n cap] W λe w'=>∃r:Int,e=.returned (.int .i64 r)/\(r=0->H)/\zB W.heap.size W w')):
 zC zF 5 #[.slice p n cap] w (OnlyP w H):=by
 go_enter Tryz.func5,Tryz.ntmps5;go_wp21;refine S.out.mono ?_;rintro e w1 ⟨b,rfl,hb,hB⟩;have HB:=hid hB;clear hB;have HN:=hid hb;clear hb;cases b
 ·go_wp21
  go_ret;exact OnlyP.no HB.out
 ·have HC:=hid (C.out (HN.out.1 rfl) w1 HB.out)
  clear C HN;go_wp21;refine HC.out.mono ?_;rintro e w2 ⟨r,rfl,hr,hb2⟩;have HB2:=qT HB hb2;clear hb2;have HR:=hid hr;clear hr;by_cases h0:r=0
  ·have hrb:(r==0)=true:=by subst h0;rfl
   have HR0:=hid (HR.out h0);clear h0;go_wp21;go_ret;exact OnlyP.yes HR0.out HB2.out
  ·have hrb:(r==0)=false:=by simpa using h0
   clear h0;go_wp21;go_ret;exact OnlyP.no HB2.out
theorem yg5 {P:Pt->Prop} {q:List Pt} (h:∀p∈q,P p) (h0:P ⟨0,0⟩) (i:Nat):P (cor q i):=by
 unfold cor
 cases e:q[i%q.length]? with
 |none=>exact h0
 |some p=>exact h p (List.mem_of_getElem? e)
theorem zx6 (p:Option Addr) (cap n:Nat) (h:n<3) (w:zA):
 zC zF 26 #[.slice p n cap] w λe w'=>∃r:Int,e=.returned (.int .i64 r)/\(r=0->False)/\zB w.heap.size w w':=by
 have hn1:decide ((4096:Int)<(n:Int))=false:=decide_eq_false (by omega);have hn2:decide ((n:Int)<3)=true:=decide_eq_true (by omega);clear h;go_enter Tryz.func26,Tryz.ntmps26;go_wp2;go_ret;exact⟨_,rfl,by decide,zM _ _⟩
theorem yet (p:Option Addr) (cap n:Nat) (h:10<n) (G:Prop) (w:zA):
 zC zF 5 #[.slice p n cap] w (OnlyP w G):=by
 have hn:decide ((n:Int)<=10)=false:=decide_eq_false (by omega);clear h;go_enter Tryz.func5,Tryz.ntmps5;go_wp21;go_ret;exact OnlyP.no (zM _ _)
def ppV (b off n cap ii kk F F':Nat) (x y u v:ByteArray) (q:Nat×Nat) (k:Nat):Value:=
 ([.slice (some ⟨b,off,none⟩) n cap,.int .u8 (ii:Int),.int .i64 (ii:Int),.slice (some ⟨b,off,none⟩) n cap,.int .i64 (n:Int),.int .i64 (F:Int),.pointer (some ⟨b,off+F*2,none⟩),.agg #[.string x,.string y],.slice (some ⟨b,off,none⟩) n cap,.int .u8 (kk:Int),.int .i64 (kk:Int),.slice (some ⟨b,off,none⟩) n cap,.int .i64 (n:Int),.int .i64 (F':Int),.pointer (some ⟨b,off+F'*2,none⟩),.agg #[.string u,.string v],.pointer (some ⟨q.1,0,none⟩),.pointer (some ⟨q.2,0,none⟩),undef,undef]:List Value).getD k undef
def SfQ (l:List (Rat×Nat)) (q:Option Addr) (m c:Nat) (k:Int) (W:zA):Prop:=(k=0/\SdL (.slice q m c) l W/\ShG l)\/(k=4/\q=none/\m=0/\c=0)
theorem SfQ.below {l:List (Rat×Nat)} {q:Option Addr} {m c:Nat} {k:Int} {W W':zA} (h:SfQ l q m c k W) (hb:qL W W'):SfQ l q m c k W':=h.imp (λ⟨a,b,c⟩=>⟨a,b.below hb,c⟩) id
theorem SfQ.some {l:List (Rat×Nat)} {q:Option Addr} {m c:Nat} {k:Int} {W:zA} (h:SfQ l q m c k W):∃l',(l'=l/\ShG l\/l'=[])/\SdL (.slice q m c) l' W/\(k=0->l'=l):=by
 rcases h with⟨h,g,s⟩|⟨h,rfl,rfl,rfl⟩
 ·exact⟨l,.inl ⟨rfl,s⟩,g,λ_=>rfl⟩
 ·exact⟨[],.inr rfl,.inl ⟨rfl,rfl⟩,λe=>by omega⟩
structure PprQ (w:zA) (b off cap n F F':Nat) (l:List (List UInt8×List UInt8)) (x y u v:ByteArray) (dx dy xx yy d:List UInt8) (lS lT:List (Rat×Nat)):Prop where
 NE:lS≠[]
 CL:Hid (∀W:zA,RowTx (some ⟨b,off,none⟩) l W->W.cell? ⟨b,off+F*2,none⟩=some (.string x)/\W.cell? ⟨b,off+F*2+1,none⟩=some (.string y)/\W.cell? ⟨b,off+F'*2,none⟩=some (.string u)/\W.cell? ⟨b,off+F'*2+1,none⟩=some (.string v))
 PE:∀W:zA,qL w W->zC zF 7 #[.slice (some ⟨b,off,none⟩) n cap] W λe w'=>∃q m c k,e=.returned (.tuple #[.slice q m c,.int .i64 k])/\zB W.heap.size W w'/\SfQ lS q m c k w'
 SX:∀W:zA,qL w W->qJ 8 #[.string x,.string u] W (.tuple #[St dx,.int .i64 0])
 SY:∀W:zA,qL w W->qJ 8 #[.string y,.string v] W (.tuple #[St dy,.int .i64 0])
 MX:∀W:zA,qL w W->qJ 9 #[St dx,St dx] W (.tuple #[St xx,.int .i64 0])
 MY:∀W:zA,qL w W->qJ 9 #[St dy,St dy] W (.tuple #[St yy,.int .i64 0])
 AD:∀W:zA,qL w W->qJ 10 #[St xx,St yy] W (.tuple #[St d,.int .i64 0])
 MK:∀(W:zA) (A:Nat),qL w W->W.heap[A]? =some (.cells #[St [50],St d] 37 (0,0))->zC zF 11 #[.slice (some ⟨A,0,none⟩) 1 1] W λe w'=>∃q m c k,e=.returned (.tuple #[.slice q m c,.int .i64 k])/\zB W.heap.size W w'/\SfQ lT q m c k w'
 CM:∀(W:zA) (v1 v2:Value) (l1 l2:List (Rat×Nat)),qL w W->SdL v1 l1 W->SdL v2 l2 W->(l1=lS/\ShG lS\/l1=[])->(l2=lT/\ShG lT\/l2=[])->zC zF 12 #[v1,v2] W λe w'=>∃a r,e=.returned (.tuple #[.int .i64 a,.int .i64 r])/\zB W.heap.size W w'/\(l1=lS->l2=lT->r=4\/(r=0/\0<=a))
theorem yeu (p:Option Addr) (cap n ii kk F F':Nat) (hii:ii<256) (hkk:kk<256) (l:List (List UInt8×List UInt8)) (G:Prop)
 (FI:Hid (∀W:zA,Wd W->RowTx p l W->zC zF 5 #[.slice p n cap] W (OnlyP W G)))
 (w:zA) (HW:Hid (Wd w)) (HP:Hid (RowTx p l w)) (AW:Hid (∀W:zA,qL w W->qJ 6 #[] W (.bool true)))
 (HF:Hid (ii%n=F/\kk%n=F'))
 (GD:Hid (G->n<=4->3<=n/\∃b off x y u v dx dy xx yy d lS lT,p=some ⟨b,off,none⟩/\PprQ w b off cap n F F' l x y u v dx dy xx yy d lS lT)):
 qJ 3 #[.slice p n cap,.int .u8 (ii:Int),.int .u8 (kk:Int)] w (.bool true):=by
 have HFI:=hid (FI.out w HW.out HP.out);clear FI;go_enter Tryz.func3,Tryz.ntmps3;go_wp21;refine HFI.out.mono ?_;rintro e w2 ⟨t,rfl,ht,hB⟩;have HB2:=hid hB;have HT:=hid ht;clear ht hB HFI;by_cases hgo:t=true/\n<=4
 rotate_left
 ·have HA:=hid (AW.out w2 HB2.out)
  clear AW GD;cases t
  case false=>
   clear hgo;go_wp21;refine zzM HA.out λw3 hb3=>?_;have HB3:=qT HB2 hb3;clear hb3;go_wp21;go_ret;exact⟨rfl,HB3.out⟩
  case true=>
   have h4:decide ((4:Int)<(n:Int))=true:=decide_eq_true (by have:¬n<=4:=λh=>hgo ⟨rfl,h⟩;omega);clear hgo;go_wp21;refine zzM HA.out λw3 hb3=>?_;have HB3:=qT HB2 hb3;clear hb3;go_wp21;go_ret;exact⟨rfl,HB3.out⟩
 obtain⟨rfl,hn4⟩:=hgo;obtain⟨hn3,b,off,x,y,u,v,dx,dy,xx,yy,d,lS,lT,rfl,hQ⟩:=GD.out (HT.out (by trivial)) hn4;have HQ:=hid hQ;clear GD HT hQ;have h4:decide ((4:Int)<(n:Int))=false:=decide_eq_false (by omega);go_wp21;refine(HQ.out.PE w2 HB2.out).mono ?_;rintro e w3 ⟨q1,m1,c1,k1,rfl,hb,hs⟩;have HB3:=qT HB2 hb;have S3:=hid hs;have HP3:=hid (HP.out.keep (zac HB3.out));clear hb hs HB2 h4;have hcv:wrap64 (kk:Int)=(kk:Int):=by unfold wrap64;omega
 have hcv2:IntKind.i64.wrap (kk:Int)=(kk:Int):=zI _ ⟨by omega,by omega⟩;have hcw:wrap64 (ii:Int)=(ii:Int):=by unfold wrap64;omega
 have hcw2:IntKind.i64.wrap (ii:Int)=(ii:Int):=zI _ ⟨by omega,by omega⟩;have ht:(ii:Int).tmod (n:Int)=(F:Int):=by rw[Int.tmod_eq_emod_of_nonneg (by omega),<-HF.out.1];rfl
 have ht2:(kk:Int).tmod (n:Int)=(F':Int):=by rw[Int.tmod_eq_emod_of_nonneg (by omega),<-HF.out.2];rfl
 have hF:F<n:=by rw[<-HF.out.1];exact zP _ (by omega)
 have hF':F'<n:=by rw[<-HF.out.2];exact zP _ (by omega)
 have hn0:¬n=0:=by omega
 have hw1:IntKind.i64.wrap (F:Int)=(F:Int):=zI _ ⟨by omega,by omega⟩;have hw2:IntKind.i64.wrap (F':Int)=(F':Int):=zI _ ⟨by omega,by omega⟩;clear HF;go_wp21;refine zc4 (ppV b off n cap ii kk F F' x y u v) (λq f W=>PqS w3 x y u v q (λj=>f (j+4)) W) (by kernel_rfl) (by kernel_rfl) (0,0) ⟨(zM _ w3).drew,λk=>(by cases k),λk=>(by cases k),λk=>(by cases k),λk=>(by cases k),λk=>(by cases k)⟩ λg2=>?_;refine qB (.slice (some ⟨b,off,none⟩) n cap) (λf W' h=>h.congr rfl rfl rfl rfl) ?_;refine qB (.int .u8 (ii:Int)) (λf W' h=>h.congr rfl rfl rfl rfl) ?_;refine qB (.int .i64 (ii:Int)) (λf W' h=>h.congr rfl rfl rfl rfl) ?_;simp only[zzQ];refine qB (.slice (some ⟨b,off,none⟩) n cap) (λf W' h=>h.congr rfl rfl rfl rfl) ?_;refine qB (.int .i64 (n:Int)) (λf W' h=>h.congr rfl rfl rfl rfl) ?_;refine qB (.int .i64 (F:Int)) (λf W' h=>h.congr rfl rfl rfl rfl) ?_;simp only[zzQ];refine qB (.pointer (some ⟨b,off+F*2,none⟩)) (λf W' h=>h.congr rfl rfl rfl rfl) ?_;refine qB (.agg #[.string x,.string y]) (λf W' h=>h.congr rfl rfl rfl rfl) ?_ (hy:=λf W' hf h=>by
  obtain⟨c0,c1,_,_⟩:=HQ.out.CL.out W' (HP3.out.keep (zac h.bel));go_simp)
 refine qB (.slice (some ⟨b,off,none⟩) n cap) (λf W' h=>h.congr rfl rfl rfl rfl) ?_;simp only[zzQ];refine qB (.int .u8 (kk:Int)) (λf W' h=>h.congr rfl rfl rfl rfl) ?_;refine qB (.int .i64 (kk:Int)) (λf W' h=>h.congr rfl rfl rfl rfl) ?_;refine qB (.slice (some ⟨b,off,none⟩) n cap) (λf W' h=>h.congr rfl rfl rfl rfl) ?_;simp only[zzQ];refine qB (.int .i64 (n:Int)) (λf W' h=>h.congr rfl rfl rfl rfl) ?_;refine qB (.int .i64 (F':Int)) (λf W' h=>h.congr rfl rfl rfl rfl) ?_;refine qB (.pointer (some ⟨b,off+F'*2,none⟩)) (λf W' h=>h.congr rfl rfl rfl rfl) ?_;simp only[zzQ];refine qB (.agg #[.string u,.string v]) (λf W' h=>h.congr rfl rfl rfl rfl) ?_ (hy:=λf W' hf h=>by
  obtain⟨_,_,c0,c1⟩:=HQ.out.CL.out W' (HP3.out.keep (zac h.bel));go_simp)
 try simp only[zzQ]
 refine zdc (.pointer (some ⟨g2.1,0,none⟩)) (by rfl) (by rfl) (λf W' hf h C' hC'=>by
  have hme:=hf.self;have hno:=hf.no (j:=18) hf.self (by kernel_rfl);have hj:∀j,f j=true->ppV b off n cap ii kk F F' x y u v (W'.heap.size,g2.2) j=ppV b off n cap ii kk F F' x y u v g2 j:=by
   intro j hj
   match j,hj with
   |0,_|1,_|2,_|3,_|4,_|5,_|6,_|7,_|8,_|9,_|10,_|11,_|12,_|13,_|14,_|15,_=>rfl
   |16,hj=>rw[hme] at hj;cases hj
   |17,_|18,_|19,_=>rfl
   |_+20,_=>rfl
  have hc:=hC' (W'.heap.size,g2.2) _ hj (h.newA rfl rfl hno rfl);clear h hj hC';go_simp;exact hc) ?_
 try simp only[zzQ]
 refine zdc (.pointer (some ⟨g2.2,0,none⟩)) (by rfl) (by rfl) (λf W' hf h C' hC'=>by
  have hme:=hf.self;have hno:=hf.no (j:=19) hf.self (by kernel_rfl);have hj:∀j,f j=true->ppV b off n cap ii kk F F' x y u v (g2.1,W'.heap.size) j=ppV b off n cap ii kk F F' x y u v g2 j:=by
   intro j hj
   match j,hj with
   |0,_|1,_|2,_|3,_|4,_|5,_|6,_|7,_|8,_|9,_|10,_|11,_|12,_|13,_|14,_|15,_|16,_=>rfl
   |17,hj=>rw[hme] at hj;cases hj
   |18,_|19,_=>rfl
   |_+20,_=>rfl
  have hc:=hC' (g2.1,W'.heap.size) _ hj (h.newB rfl rfl hno rfl);clear h hj hC';go_simp;exact hc) ?_
 try simp only[zzQ]
 refine zbv undef (by rfl) (by rfl) (λf W' hf h C' hC'=>by
  have hd:=hf.done 16 (by kernel_rfl);obtain⟨⟨s0,c0⟩,⟨s1,c1⟩,z0,z1⟩:=zru (h.a hd);have hc:=hC' _ (h.putA hd rfl rfl rfl rfl);clear h hC';go_simp;exact hc) ?_
 try simp only[zzQ]
 refine zbv undef (by rfl) (by rfl) (λf W' hf h C' hC'=>by
  have hd:=hf.done 17 (by kernel_rfl);obtain⟨⟨s0,c0⟩,⟨s1,c1⟩,z0,z1⟩:=zru (h.b hd);have hc:=hC' _ (h.putB hd rfl rfl rfl rfl);clear h hC';go_simp;exact hc) ?_
 try simp only[zzQ]
 refine ze1 λf W4 hf h=>?_;obtain⟨A1,A2⟩:=g2;have ha:=h.a (hf 16 (by decide));have hb:=h.b (hf 17 (by decide));have e1:f (14+4)=true:=hf 18 (by decide);have e2:f (15+4)=true:=hf 19 (by decide);simp only[e1,e2] at ha hb;have D4:=hid (HB3.out.trans (h.bel.mono HB3.out.size));have S4:=hid (S3.out.below h.bel);have HA:=hid (show W4.heap[A1]? =some (.cells #[.string x,.string y] 32 (0,0)) from ha);have HB:=hid (show W4.heap[A2]? =some (.cells #[.string u,.string v] 32 (0,0)) from hb);clear h ha hb hf e1 e2 HB3 S3 HP3 hcv hcv2 hcw hcw2 ht ht2 hF hF' hn0 hw1 hw2 hn3 hn4;have a0:W4.cell? ⟨A1,0,none⟩=some (.string x):=by have:=HA.out;simp[World.cell?,this]
 have b0:W4.cell? ⟨A2,0,none⟩=some (.string u):=by have:=HB.out;simp[World.cell?,this]
 go_wp21;refine zzM (HQ.out.SX W4 D4.out) λw5 hb=>?_;have D5:=hid (D4.out.trans (hb.mono D4.out.size));have S5:=hid (S4.out.below hb);have HA5:=hid (zac hb _ _ _ _ HA.out);have HB5:=hid (zac hb _ _ _ _ HB.out);clear hb D4 S4 HA HB a0 b0;have a1:w5.cell? ⟨A1,1,none⟩=some (.string y):=by have:=HA5.out;simp[World.cell?,this]
 have b1:w5.cell? ⟨A2,1,none⟩=some (.string v):=by have:=HB5.out;simp[World.cell?,this]
 go_wp21;refine zzM (HQ.out.SY w5 D5.out) λw6 hb=>?_;have D6:=hid (D5.out.trans (hb.mono D5.out.size));have S6:=hid (S5.out.below hb);clear hb D5 S5 HA5 HB5 a1 b1;go_wp21;refine zzM (HQ.out.MX w6 D6.out) λw7 hb=>?_;have D7:=hid (D6.out.trans (hb.mono D6.out.size));have S7:=hid (S6.out.below hb);clear hb D6 S6;go_wp21;refine zzM (HQ.out.MY w7 D7.out) λw8 hb=>?_;have D8:=hid (D7.out.trans (hb.mono D7.out.size));have S8:=hid (S7.out.below hb);clear hb D7 S7;go_wp21;refine zzM (HQ.out.AD w8 D8.out) λw9 hb=>?_;have D9:=hid (D8.out.trans (hb.mono D8.out.size));have S9:=hid (S8.out.below hb);clear hb D8 S8;obtain⟨v9,hv⟩:=zzX (w9.alloc (.cells #[St [50],St d] 37));obtain⟨b9,hh⟩:=zdn hv;have MK:=hid (HQ.out.MK v9 _ (D9.out.trans (b9.mono D9.out.size)) hh);have DA:=hid (D9.out.trans (b9.mono D9.out.size));have SA:=hid (S9.out.below b9);have HV:=hid hv.symm;clear hv b9 hh D9 S9;go_wp21;rw[HV.out];clear HV;refine MK.out.mono ?_;rintro e wb ⟨q2,m2,c2,k2,rfl,hb,hs⟩;have DB:=hid (DA.out.trans (hb.mono DA.out.size));have SB:=hid (SA.out.below hb);have TB:=hid hs;clear hb hs DA SA MK;obtain⟨l1,hl1,g1,j1⟩:=SB.out.some;obtain⟨l2,hl2,g2,j2⟩:=TB.out.some;have HC:=hid (HQ.out.CM wb _ _ l1 l2 DB.out g1 g2 hl1 hl2);have hk1:(k1=0/\0<m1)\/k1=4:=by
  rcases SB.out with⟨h,g,_⟩|⟨h,_⟩
  ·obtain⟨_,_,e, -, -⟩:=g.slice
   injection e with _ e _;refine .inl ⟨h,?_⟩;rw[e];exact List.length_pos_iff.2 HQ.out.NE
  ·exact .inr h
 have hk2:k2=0\/k2=4:=TB.out.imp (λh=>h.1) λh=>h.1;have HK:=hid (⟨j1,j2⟩:_/\_);clear g1 g2 hl1 hl2 SB TB j1 j2 HQ;go_wp21;refine HC.out.mono ?_;rintro e wc ⟨a,r,rfl,hb,hr⟩;have DC:=hid (DB.out.trans (hb.mono DB.out.size));have HR:=hid hr;clear hb hr DB HC;have HA:=hid (AW.out wc DC.out);clear AW;have mxA:∀w:zA,(Builtin.max_ #[27,27] 27 #[.int .i64 0,.int .i64 4]).run zF w=.ok (.int .i64 4) w:=λ_=>by kernel_rfl
 have mxB:∀w:zA,(Builtin.max_ #[27,27] 27 #[.int .i64 4,.int .i64 0]).run zF w=.ok (.int .i64 4) w:=λ_=>by kernel_rfl
 have mxC:∀w:zA,(Builtin.max_ #[27,27] 27 #[.int .i64 4,.int .i64 4]).run zF w=.ok (.int .i64 4) w:=λ_=>by kernel_rfl
 rcases hk1 with⟨rfl,hm⟩|rfl<;>rcases hk2 with rfl|rfl
 case inl.inl=>
  have hm0:decide ((0:Int)<(m1:Int))=true:=decide_eq_true (by omega);rcases HR.out (HK.out.1 rfl) (HK.out.2 rfl) with rfl|⟨rfl,h0⟩
  ·clear HK HR mxA mxB mxC
   go_wp21;refine zzM HA.out λwz hb=>?_;have HZ:=hid (DC.out.trans (hb.mono DC.out.size));clear hb;go_wp21;go_ret;exact⟨rfl,HZ.out⟩
  ·have ha0:decide (0<=a)=true:=decide_eq_true h0
   clear HK HR h0 mxA mxB mxC;go_wp21;refine zzM HA.out λwz hb=>?_;have HZ:=hid (DC.out.trans (hb.mono DC.out.size));clear hb;go_wp21;go_ret;exact⟨rfl,HZ.out⟩
 all_goals
  clear HK HR;go_wp21;refine zzM HA.out λwz hb=>?_;have HZ:=hid (DC.out.trans (hb.mono DC.out.size));clear hb;go_wp21;go_ret;exact⟨rfl,HZ.out⟩
theorem zrx {W:zA} {A:Nat} {a b:Value} {t:TypeId} (h:W.heap[A]? =some (.cells #[a,b] t (0,0))):W.cell? ⟨A,0,none⟩=some a/\W.cell? ⟨A,1,none⟩=some b:=
 ⟨by rw[zJ h];rfl,by rw[zJ h];rfl⟩
theorem yev {T:List (Rat×Nat)} (hp:PosR T) (hlen:T.length<=12) (h:ShG (mkG T)):SdOk (mkG T) 40:=
 ycs hp (λc hc=>⟨(h c hc).2.2.pos,(zaf _ 40 (by omega)).2 (h c hc).2.1,(h c hc).2.2.nc⟩) hlen λc hc=>(h c hc).1
def ratT (l:List (Rat×Nat)):List (Rat×Rat):=l.map λt=>(t.1,(t.2:Rat))
theorem yg6 {l:List (Rat×Nat)} (h:∀t∈l,zn7 t.2=(1,t.2)):(ratT l).map nrT=l:=by
 unfold ratT;rw[List.map_map]
 conv=>rhs;rw[<-List.map_id l]
 refine List.map_congr_left λt ht=>?_;show nrT (t.1,(t.2:Rat))=t;unfold nrT;dsimp only;rw[show((t.2:Nat):Rat).num.natAbs*((t.2:Nat):Rat).den=t.2 by show((t.2:Int)).natAbs*1=t.2;omega,h t ht,show((t.2:Nat):Rat).den=1 from rfl];refine Prod.ext ?_ rfl;show t.1*(((1:Nat):Rat)/((1:Nat):Rat))=t.1;rw[show(((1:Nat):Rat)/((1:Nat):Rat))=1 by decide+kernel,Rat.mul_one]
theorem yew {v:Value} {l:List (Rat×Nat)} {W:zA} (h:SdL v l W):SdU v (ratT l) W:=by
 obtain⟨p,cap,rfl,hc,hx⟩:=h.slice;have e:(ratT l).length=l.length:=List.length_map ..;refine⟨p,cap,by rw[e],by rw[e];exact hc,λi u hu=>?_⟩;unfold ratT at hu;rw[List.getElem?_map,Option.map_eq_some_iff] at hu;obtain⟨t,ht,rfl⟩:=hu;obtain⟨b,off,e1,h1,h2,h3⟩:=hx i t ht;exact⟨b,off,e1,h1,h2,by rw[h3,zhe]⟩
theorem yex (v1 v2:Value) (l1 l2:List (Rat×Nat)) (ok1:SdOk l1 40) (ok2:SdOk l2 40) (hlen:l1.length+l2.length<=12) (w:zA) (hw:Hw w) (h1:SdL v1 l1 w) (h2:SdL v2 l2 w):
 zC zF 12 #[v1,v2] w λe w'=>∃a r,e=.returned (.tuple #[.int .i64 a,.int .i64 r])/\zB w.heap.size w w'/\(r=4\/(r=sgeL (dfL l1 l2)/\a=sgnL (dfL l1 l2))):=by
 obtain⟨T,hT⟩:=zzX (l1++sclL l2 (-1));have hd:dfL l1 l2=mkG T:=by rw[hT];rfl
 have mem:∀t∈T,t.1≠0/\sz t.1 61/\NrmR t.2 40:=λt ht=>by
  rw[hT] at ht;rcases List.mem_append.1 ht with h|h
  ·have:=ok1.trm t h
   exact⟨this.ne,this.sc.mono (by omega),this.nr⟩
  ·obtain⟨u,hu,rfl⟩:=List.mem_map.1 h
   have:=ok2.trm u hu;exact⟨λe=>this.ne (by have e:u.1* -1=0:=e;grind),zca this.sc zb7.2.2.2.2.1,this.nr⟩
 have hl:T.length<=12:=by rw[hT];simp[sclL];omega
 have hnr:=yg6 (l:=T) λt ht=>(mem t ht).2.2.nc;have hU:MkS (ratT T):=by
  refine⟨by unfold ratT;rw[List.length_map];exact hl,λu hu=>?_,λu hu=>?_,λu hu=>?_,λu hu=>?_⟩<;>(obtain⟨t,ht,rfl⟩:=List.mem_map.1 hu;obtain⟨m1,m2,m3⟩:=mem t ht)
  ·exact m1
  ·have:=m3.pos
   show(0:Rat)<(t.2:Rat);exact_mod_cast this
  ·exact m2.mono (by omega)
  ·exact(zrg (k:=40) (by omega) m3.len).mono (by omega)
 have hp:PosR T:=λt ht=>by have:=(mem t ht).2.2.pos;exact_mod_cast this
 rw[hd];refine(zjn v1 v2 (sgnL (mkG T)) (sgeL (mkG T)) (λu W=>SdL u (mkG T) W) (ShG (mkG T)) True w (hid ?_) (hid λW u hE hW hu=>z0a u _ (yev hp hl hE) W (hw.below hW).wd (hw.below hW).sw hu)).mono λe w' ⟨a,r,e1,hb,g⟩=>⟨a,r,e1,hb,g.elim (λh=>.inl h.1) λh=>.inr ⟨h.2.1,h.1⟩⟩;refine(yef v1 v2 l1 l2 ok1 ok2 hlen (λv r W=>(r=0/\SdL v (mkG T) W/\ShG (mkG T))\/r=4) w (hid λW hW=>(hw.below hW).wd) (hid λW hW=>(hw.below hW).pw) h1 h2 λW v hW hv=>?_).mono λe w' ⟨q,n,c,r,e1,hb,g⟩=>⟨q,n,c,r,e1,hb,g.imp id λh=>⟨h,trivial⟩⟩;rw[<-hT] at hv;obtain⟨pv,cv,rfl, -,hx⟩:=yew hv;have M:=zo6 (ratT T) hU pv cv W (hid λV hV=>((hw.below hW).below hV).wd) (hid λV hV=>((hw.below hW).below hV).pw) hx;rw[hnr] at M;exact M.mono λe w' ⟨q,n,c,r,e1,hb,g⟩=>⟨q,n,c,r,e1,hb,g.imp (λh=>⟨h.1,h.2.1,h.2.2.1⟩) λh=>h.1.1⟩
theorem yfz (gb A:Nat) (w:zA) (hA:w.heap[A]? =some (.cells #[St [50],St [48]] 37 (0,0))):
 qJ 47 #[.slice (some ⟨A,0,none⟩) 1 1,.func (.func 48) #[.pointer (some ⟨gb,0,none⟩)] #[]] w (.int .i64 0):=by
 obtain⟨v1,hv⟩:=zzX (w.alloc (.cells #[St [50],St [48]] 37));obtain⟨b1,A1⟩:=zdn hv;obtain⟨c0,c1⟩:=zrx hA;obtain⟨k0,k1⟩:=zrx A1;rw[hv] at k0 k1;have HV:=hid hv.symm;have HB:=hid b1;clear hv b1 A1 hA;go_enter Tryz.func47,Tryz.ntmps47;go_wp21;go_loopw [13] (λi wr=>∃(k:Nat),k<=1/\i=.int .i64 (k:Int)/\Hid ((k=0/\wr=w)\/(k=1/\zB w.heap.size w wr)))
  (λi _=>1-(zL i).toNat)
 case atStart=>exact⟨0,by omega,rfl,hid (.inl ⟨rfl,rfl⟩)⟩
 case round=>
  obtain⟨k,hk,rfl,hS⟩:=hrel;rcases hS.out with⟨rfl,rfl⟩|⟨rfl,hB⟩
  ·clear hS
   go_wp21;rw[HV.out];clear c0 c1 k0 k1 HV;go_roundw
   case rel=>exact⟨1,by omega,rfl,hid (.inr ⟨rfl,HB.out⟩)⟩
   case measure=>simp[zL]
  ·have DB:=hid hB
   clear hS hB;go_wp21;go_ret;exact⟨rfl,DB.out⟩
theorem yf0 (d:Rat) (h0:0<=d) (sd:sz d 90) (A:Nat) (w:zA) (hw:Hw w) (hA:w.heap[A]? =some (.cells #[St [50],St (numS d)] 37 (0,0))):
 zC zF 11 #[.slice (some ⟨A,0,none⟩) 1 1] w λe w'=>∃q n c r,e=.returned (.tuple #[.slice q n c,.int .i64 r])/\zB w.heap.size w w'/\((r=0/\SdL (.slice q n c) (mkG (dblT d)) w'/\ShG (mkG (dblT d)))\/(r=4/\q=none/\n=0/\c=0)):=by
 have n2:numS 2=[50]:=by decide+kernel
 have hl:=(Array.getElem?_eq_some_iff.1 hA).1;obtain⟨c0,c1⟩:=zrx hA;by_cases z:d=0
 ·have z0:numS 0=[48]:=by decide+kernel
  have hD:mkG (dblT d)=[]:=by rw[show dblT d=[] from if_pos z];rfl
  rw[hD];subst z;rw[z0] at hA c1;have s2:=zd0 (k:=1) (by omega) (by omega) zb7.2.2.1;have s0:=zd0 (k:=1) (by omega) (by omega) zb7.1
  refine(z0i False (some ⟨A,0,none⟩) 1 1 (λ_=>[50]) (λ_=>[48]) [] [] 0 (by omega) (by simp) (hid λi hi W hW=>?_) (hid λi hi W hW=>?_) (hid λi hi W=>?_) w (hid λW hW=>(hw.below hW).wd)
   (hid λi hi=>?_) (hid λu vg b1 b2 hs hg=>?_) (hid λi c hi=>absurd hi (by omega)) (hid (.inl ⟨rfl,by decide,λB W q c b1 b2 b3 ho=>?_⟩))).mono λe w' ⟨q,n,c,r,e1,hb,g⟩=>⟨q,n,c,r,e1,hb,?_⟩
  ·have:=zfj 2 s2 W hW;rwa [n2] at this
  ·have:=zfj 0 s0 W hW;rwa [z0] at this
  ·have:=zgy 0 W
   rwa [show decDigits 0=[48] by rw[zae (by omega)];rfl] at this
  ·obtain rfl:i=0:=by omega
   exact⟨A,0,rfl,hl,c0,c1⟩
  ·have hA2:=zac (b1.trans (b2.mono b1.size)) _ _ _ _ hA
   exact(yfz u.heap.size A vg hA2).mono λe w' ⟨e1,hb⟩=>⟨0,e1,hb.mono (by omega),.inl ⟨rfl,hg.keep (zac hb)⟩⟩
  ·exact(yct B [] (by simp) List.Pairwise.nil (λt ht=>by cases ht) q c W (hid λV hV=>(hw.below (b1.trans (hV.mono b2))).wd) b3 ho)
  ·rcases g with⟨rfl,_,rfl,ho⟩|⟨h,_,h2⟩
   ·exact .inl ⟨rfl,SdL.own (l:=[]) ho rfl,λc hc=>by cases hc⟩
   ·exact .inr ⟨h,h2⟩
 ·have hD:dblT d=[(2,d)].map nrT:=by rw[show dblT d=_ from if_neg z];rfl
  rw[hD];refine(zo6 [(2,d)] ⟨by simp,λu hu=>?_,λu hu=>?_,λu hu=>?_,λu hu=>?_⟩ (some ⟨A,0,none⟩) 1 w (hid λW hW=>(hw.below hW).wd) (hid λW hW=>(hw.below hW).pw) λi u hu=>?_).mono λe w' ⟨q,n,c,r,e1,hb,g⟩=>⟨q,n,c,r,e1,hb,g.imp (λh=>⟨h.1,h.2.1,h.2.2.1⟩) λh=>⟨h.1.1,h.2⟩⟩
  ·rw[List.mem_singleton] at hu;subst hu;show(2:Rat)≠0;decide+kernel
  ·rw[List.mem_singleton] at hu;subst hu;show 0<d;grind
  ·rw[List.mem_singleton] at hu;subst hu;exact zb7.2.2.1.mono (by omega)
  ·rw[List.mem_singleton] at hu;subst hu;exact sd
  ·obtain rfl:i=0:=by
    have:=(List.getElem?_eq_some_iff.1 hu).1;simpa using this
   injection hu with hu;subst hu;exact⟨A,0,rfl,hl,by rw[n2];exact c0,c1⟩
end Go.Proofs.YtnjiiafnneillaaGreatDoor
namespace Go.Proofs.YtnjiiafnneillaaGreatDoor.Geo
def spn (u:Nat->Rat) (k:Nat) (t:Rat):Prop:=(u k<t/\t<u (k+1))\/(u (k+1)<t/\t<u k)
instance (u:Nat->Rat) (k:Nat) (t:Rat):Decidable (spn u k t):=by unfold spn;infer_instance
def slo (u v:Nat->Rat) (k:Nat):Rat:=(v (k+1)-v k)/(u (k+1)-u k)
def hgt (u v:Nat->Rat) (k:Nat) (t:Rat):Rat:=v k+slo u v k*(t-u k)
section
variable {n:Nat} {u v:Nat->Rat}
end
end Go.Proofs.YtnjiiafnneillaaGreatDoor.Geo
namespace Go.Proofs.YtnjiiafnneillaaGreatDoor.Geo
section
variable {n:Nat} {u v:Nat->Rat}
end
end Go.Proofs.YtnjiiafnneillaaGreatDoor.Geo
namespace Go.Proofs.YtnjiiafnneillaaGreatDoor.Geo
section
variable {n:Nat} {u v:Nat->Rat}
end
end Go.Proofs.YtnjiiafnneillaaGreatDoor.Geo
namespace Go.Proofs.YtnjiiafnneillaaGreatDoor.Geo
section
variable {n:Nat} {u v:Nat->Rat}
end
end Go.Proofs.YtnjiiafnneillaaGreatDoor.Geo
namespace Go.Proofs.YtnjiiafnneillaaGreatDoor.Geo
section
variable {n:Nat} {u v:Nat->Rat} {t:Rat}
end
end Go.Proofs.YtnjiiafnneillaaGreatDoor.Geo
namespace Go.Proofs.YtnjiiafnneillaaGreatDoor.Geo
section
variable {n:Nat} {u v:Nat->Rat}
end
end Go.Proofs.YtnjiiafnneillaaGreatDoor.Geo
namespace Go.Proofs.YtnjiiafnneillaaGreatDoor.Geo
end Go.Proofs.YtnjiiafnneillaaGreatDoor.Geo
namespace Go.Proofs.YtnjiiafnneillaaGreatDoor
open Go.RowKit Go.Shelf Lib Str Limb Geo
end Go.Proofs.YtnjiiafnneillaaGreatDoor
namespace Go.Proofs.YtnjiiafnneillaaGreatDoor.Geo
end Go.Proofs.YtnjiiafnneillaaGreatDoor.Geo
namespace Go.Proofs.YtnjiiafnneillaaGreatDoor
open Go.RowKit Go.Shelf Lib Str Limb Geo
section
variable {l:List Pt} {m:Pt}
end
def szC (p:Pt):Prop:=szP p 12/\p.x.den<10^10/\p.y.den<10^10
theorem zop {q:Rat} (h:(numS q).length<=12):q.den<10^10:=by
 by_cases h1:q.den=1
 ·rw[h1];decide
 ·rw[zid h1] at h
  simp at h;have:=zbr q.num;have h2:=zbn q.num;exact(zaf _ 10 (by omega)).1 (by omega)
theorem zor:∀(l:List (List UInt8×List UInt8)),(∀i,i<l.length->zny (ptOf l i))->∃q:List Pt,l=txt q/\∀p∈q,szC p
 |[],_=>⟨[],rfl,λp h=>by cases h⟩
 |x::r,h=>by
  obtain⟨q,hq,hz⟩:=zor r (λi hi=>h (i+1) (by simpa using hi));obtain⟨h1,h2,h3,h4⟩:zny x:=h 0 (by simp);obtain⟨a,ha⟩:=(zy2 _).1 h3;obtain⟨b,hb⟩:=(zy2 _).1 h4;rw[ha] at h1;rw[hb] at h2;refine⟨⟨a,b⟩::q,?_,λp hp=>?_⟩
  ·rw[hq];show x::txt q=(numS a,numS b)::txt q;rw[<-ha,<-hb]
  ·rcases List.mem_cons.1 hp with rfl|hp
   ·exact⟨⟨z31 (by omega) h1,z31 (by omega) h2⟩,zop h1,zop h2⟩
   ·exact hz p hp
def ygi (l:List (List UInt8×List UInt8)):Prop:=∃q:List Pt,l=txt q/\(∀p∈q,szC p)/\yh1 q/\3<=q.length/\q.length<=10
theorem yhr (p:Option Addr) (cap:Nat) (l:List (List UInt8×List UInt8)) (w:zA) (hw:Wd w) (hp:RowTx p l w):
 zC zF 5 #[.slice p l.length cap] w (OnlyP w (ygi l)):=by
 by_cases h10:l.length<=10
 ·by_cases h3:3<=l.length
  ·refine zpn p cap l.length (decide_eq_true (by omega)) _ _ w (hid (zq7 p cap l (by omega) w hw hp)) (hid λhg W hb=>?_)
   obtain⟨q,rfl,hz⟩:=zor l hg;have hz36:∀i,szP (cor q i) 36:=λi=>yg5 (P:=λp=>szP p 36) (λp hp=>⟨(hz p hp).1.1.mono (by omega),(hz p hp).1.2.mono (by omega)⟩) ⟨zd2 _ (by omega),zd2 _ (by omega)⟩ i;rw[zce] at h3 h10⊢;refine(yer p cap q h3 (by omega) hz36 W (hw.below hb) ?_).mono ?_
   ·intro i hi
    exact(hp.keep (zac hb)) i (by rw[zce];exact hi)
   ·rintro e w' ⟨r,rfl,hr,hb'⟩
    exact⟨r,rfl,λh=>⟨q,rfl,hz,hr.1 h,h3,h10⟩,hb'⟩
  ·exact zpn p cap l.length (decide_eq_true (by omega)) _ _ w (hid (zq7 p cap l (by omega) w hw hp)) (hid λ_ W _=>(zx6 p cap l.length (by omega) W).mono λe w' ⟨r,h1,h2,h3⟩=>⟨r,h1,λh=>(h2 h).elim,h3⟩)
 ·exact yet p cap l.length (by omega) _ w
end Go.Proofs.YtnjiiafnneillaaGreatDoor
namespace Go.Proofs.YtnjiiafnneillaaGreatDoor
open Go.RowKit Go.Shelf Lib Str Limb Geo
attribute [local go_sem] Oper.semAt_some
def tri3:List Pt:=[⟨0,0⟩,⟨4,0⟩,⟨4,3⟩]
theorem zx9 (i:Nat):cor tri3 i=⟨0,0⟩\/cor tri3 i=⟨4,0⟩\/cor tri3 i=⟨4,3⟩:=by
 have h:i%3<3:=zP _ (by omega);show tri3[i%3]?.getD ⟨0,0⟩=_\/tri3[i%3]?.getD ⟨0,0⟩=_\/tri3[i%3]?.getD ⟨0,0⟩=_;generalize i%3=j at h⊢
 match j,h with
 |0,_=>exact .inl rfl
 |1,_=>exact .inr (.inl rfl)
 |2,_=>exact .inr (.inr rfl)
theorem zvw (i:Nat):szP (cor tri3 i) 1:=by
 have z0:sz 0 1:=⟨by decide,by decide⟩;have z3:sz 3 1:=⟨by decide,by decide⟩;have z4:sz 4 1:=⟨by decide,by decide⟩;rcases zx9 i with h|h|h<;>rw[h]
 ·exact⟨z0,z0⟩
 ·exact⟨z4,z0⟩
 ·exact⟨z4,z3⟩
theorem zpp (i:Nat):szP (cor tri3 i) 36:=⟨(zvw i).1.mono (by omega),(zvw i).2.mono (by omega)⟩
theorem yey:turn ⟨0,0⟩ ⟨4,0⟩ ⟨4,3⟩=1:=by decide+kernel
theorem zlg:zc9 tri3:=by
 intro i h
 match i,h with
 |0,_=>show(⟨0,0⟩:Pt)≠⟨4,0⟩;decide
 |1,_=>show(⟨4,0⟩:Pt)≠⟨4,3⟩;decide
 |2,_=>show(⟨4,3⟩:Pt)≠⟨0,0⟩;decide
theorem zj1:zc8 tri3:=by
 obtain⟨_,_,_,h1,h2,h3⟩:=(ygv ⟨0,0⟩ ⟨4,0⟩ ⟨4,3⟩).2 (by rw[yey];decide);intro i k hik hk
 match i,k,hik,hk with
 |0,1,_,_=>exact h1
 |0,2,_,_=>exact h2
 |1,2,_,_=>exact h3
 |i+2,k,h,h2=>exact absurd (show k<3 from h2) (by omega)
theorem yez:psum (zdr tri3) 3/2=6:=by decide+kernel
theorem zry (k:Nat) (h:k<=3):sz (psum (zdr tri3) k) 2:=by
 match k,h with
 |0,_|1,_|2,_|3,_=>unfold sz;decide+kernel
theorem yf1 (k:Nat) (h:k<3):sz (zdr tri3 k) 2:=by
 match k,h with
 |0,_|1,_|2,_=>unfold sz;decide+kernel
theorem yf2 (p:Option Addr) (cap:Nat) (w:zA) (hw:Wd w) (hp:RowPts p tri3 w):
 qJ 27 #[.slice p 3 cap] w (.tuple #[St [54],.int .i64 0]):=by
 have h:=ygp p cap tri3 (by decide) (by decide) zpp zlg zj1 (λk hk=>⟨2,2,by omega,by omega,by omega,zry k (Nat.le_of_lt hk),yf1 k hk⟩) 2 (by omega) (by omega) (zry 3 (by omega)) w hw hp;have e:numS (psum (zdr tri3) tri3.length/2)=[54]:=by
  show numS (psum (zdr tri3) 3/2)=[54];rw[yez];decide+kernel
 rw[e] at h;exact h
theorem zlh (p:Option Addr) (cap:Nat) (q:Pt) (hq:szP q 36) (v:Int) (hv:((∃k,k<3/\onS tri3 q k)/\v=0)\/((∀k,k<3->¬onS tri3 q k)/\v=insI tri3 q 3)) (w:zA) (hw:Wd w) (hp:RowPts p tri3 w):
 qJ 28 #[.slice p 3 cap,ptV q] w (.tuple #[.int .i64 v,.int .i64 0]):=by
 refine(z0h p cap tri3 q (by decide) (by decide) zpp hq zlg zj1 w hw hp).mono ?_;rintro e w' ⟨r,rfl,h,hb⟩;have:r=v:=by
  rcases h with⟨⟨k,hk,h1⟩,h2⟩|⟨h1,h2⟩<;>rcases hv with⟨⟨k',hk',h3⟩,h4⟩|⟨h3,h4⟩
  ·rw[h2,h4]
  ·exact absurd h1 (h3 k hk)
  ·exact absurd h3 (h1 k' hk')
  ·rw[h2,h4];rfl
 exact⟨by rw[this],hb⟩
theorem in_1:((∃k,k<3/\onS tri3 ⟨2,1⟩ k)/\(1:Int)=0)\/((∀k,k<3->¬onS tri3 ⟨2,1⟩ k)/\(1:Int)=insI tri3 ⟨2,1⟩ 3):=by
 refine .inr ⟨λk hk=>?_,by decide+kernel⟩;unfold onS
 match k,hk with
 |0,_|1,_|2,_=>decide+kernel
theorem in_0:((∃k,k<3/\onS tri3 ⟨2,mkRat 3 2⟩ k)/\(0:Int)=0)\/((∀k,k<3->¬onS tri3 ⟨2,mkRat 3 2⟩ k)/\(0:Int)=insI tri3 ⟨2,mkRat 3 2⟩ 3):=by
 refine .inl ⟨⟨2,by omega,?_⟩,rfl⟩;unfold onS;decide+kernel
theorem in_m:((∃k,k<3/\onS tri3 ⟨1,2⟩ k)/\(-1:Int)=0)\/((∀k,k<3->¬onS tri3 ⟨1,2⟩ k)/\(-1:Int)=insI tri3 ⟨1,2⟩ 3):=by
 refine .inr ⟨λk hk=>?_,by decide+kernel⟩;unfold onS
 match k,hk with
 |0,_|1,_|2,_=>decide+kernel
theorem yg7 (g c h d:Nat) (w:zA) (g0:w.cell? ⟨g,0,none⟩=some (St [49,50])) (g1:w.cell? ⟨g,1,none⟩=some (.string ⟨#[49]⟩)) (h0:w.cell? ⟨h,0,none⟩=some (.string ⟨#[49,50]⟩)) (h1:w.cell? ⟨h,1,none⟩=some (.string ⟨#[49]⟩)):
 qJ 29 #[.slice (some ⟨g,0,none⟩) 1 c,.slice (some ⟨h,0,none⟩) 1 d] w (.bool true):=by
 go_enter Tryz.func29,Tryz.ntmps29;go_wp21;refine wp_loop_rounds 2 ?_;rw[rounds_succ];go_wp21;go_quiet (fail);go_wp21;rw[rounds_succ];go_wp21;go_ret;exact⟨rfl,(zM _ w).trans ⟨rfl,rfl,rfl,zN _,λ_ _=>rfl⟩⟩
theorem zli:numS 0=[48]/\numS 1=[49]/\numS 2=[50]/\numS 3=[51]/\numS 4=[52]/\numS (mkRat 3 2)=[51,47,50]:=by
 refine⟨?_,?_,?_,?_,?_,?_⟩<;>decide+kernel
theorem yf3 (W:zA) (t:TypeId):RowPts (some ⟨W.heap.size,0,none⟩) tri3 (W.alloc (.cells #[.string ⟨#[48]⟩,.string ⟨#[48]⟩,.string ⟨#[52]⟩,.string ⟨#[48]⟩,.string ⟨#[52]⟩,.string ⟨#[51]⟩] t)):=by
 have A:=zG W (.cells #[.string ⟨#[48]⟩,.string ⟨#[48]⟩,.string ⟨#[52]⟩,.string ⟨#[48]⟩,.string ⟨#[52]⟩,.string ⟨#[51]⟩] t);obtain⟨n0,n1,n2,n3,n4,_⟩:=zli;intro i hi;refine⟨_,_,rfl,?_⟩
 match i,hi with
 |0,_=>exact⟨by show _=some (St (numS 0));rw[n0,zJ A];rfl,by show _=some (St (numS 0));rw[n0,zJ A];rfl⟩
 |1,_=>exact⟨by show _=some (St (numS 4));rw[n4,zJ A];rfl,by show _=some (St (numS 0));rw[n0,zJ A];rfl⟩
 |2,_=>exact⟨by show _=some (St (numS 4));rw[n4,zJ A];rfl,by show _=some (St (numS 3));rw[n3,zJ A];rfl⟩
theorem ptsz (a b:Rat) (ha:sz a 2) (hb:sz b 2):szP ⟨a,b⟩ 36:=⟨ha.mono (by omega),hb.mono (by omega)⟩
theorem yf4 (p:Option Addr) (cap:Nat) (w:zA) (hw:Wd w) (hp:RowPts p tri3 w):
 qJ 28 #[.slice p 3 cap,.agg #[.string ⟨#[50]⟩,.string ⟨#[49]⟩]] w (.tuple #[.int .i64 1,.int .i64 0]):=by
 have h:=zlh p cap ⟨2,1⟩ (ptsz _ _ (by unfold sz;decide+kernel) (by unfold sz;decide+kernel)) 1 in_1 w hw hp;unfold ptV at h;rw[show numS (⟨2,1⟩:Pt).x=[50] from zli.2.2.1,show numS (⟨2,1⟩:Pt).y=[49] from zli.2.1] at h;exact h
theorem yf5 (p:Option Addr) (cap:Nat) (w:zA) (hw:Wd w) (hp:RowPts p tri3 w):
 qJ 28 #[.slice p 3 cap,.agg #[.string ⟨#[50]⟩,.string ⟨#[51,47,50]⟩]] w (.tuple #[.int .i64 0,.int .i64 0]):=by
 have h:=zlh p cap ⟨2,mkRat 3 2⟩ (ptsz _ _ (by unfold sz;decide+kernel) (by unfold sz;decide+kernel)) 0 in_0 w hw hp;unfold ptV at h;rw[show numS (⟨2,mkRat 3 2⟩:Pt).x=[50] from zli.2.2.1,show numS (⟨2,mkRat 3 2⟩:Pt).y=[51,47,50] from zli.2.2.2.2.2] at h;exact h
theorem yf6 (p:Option Addr) (cap:Nat) (w:zA) (hw:Wd w) (hp:RowPts p tri3 w):
 qJ 28 #[.slice p 3 cap,.agg #[.string ⟨#[49]⟩,.string ⟨#[50]⟩]] w (.tuple #[.int .i64 (-1),.int .i64 0]):=by
 have h:=zlh p cap ⟨1,2⟩ (ptsz _ _ (by unfold sz;decide+kernel) (by unfold sz;decide+kernel)) (-1) in_m w hw hp;unfold ptV at h;rw[show numS (⟨1,2⟩:Pt).x=[49] from zli.2.1,show numS (⟨1,2⟩:Pt).y=[50] from zli.2.2.1] at h;exact h
end Go.Proofs.YtnjiiafnneillaaGreatDoor
